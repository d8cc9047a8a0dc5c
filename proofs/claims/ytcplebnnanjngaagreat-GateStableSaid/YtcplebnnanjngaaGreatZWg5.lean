/- The walks: each function returns what its model says. Printed by a program of ours. -/
import Derived.Test.YtcplebnnanjngaaGreatZSh
import Derived.Test.YtcplebnnanjngaaGreatZM1
import Derived.Test.YtcplebnnanjngaaGreatZWs
import Derived.Test.YtcplebnnanjngaaGreatZWo
import Derived.Test.YtcplebnnanjngaaGreatZWi
import Derived.Test.YtcplebnnanjngaaGreatZWp
import Derived.Test.YtcplebnnanjngaaGreatZWg1
namespace Go.Cf
open Go Go.Proofs
open _root_.Int(toNat tdiv tmod)
open _root_.List(set replicate)
open _root_.ByteArray(empty)
open Go.IntKind(i64 u64)
set_option linter.unusedVariables false
set_option maxRecDepth 20000
set_option maxHeartbeats 8000000
theorem tD (N){e}{d}(h:lL e d)(i)(j : ∀m∈([]:List MP),m.p e d){r}(H:M.qH N i=some r) :
    Calls Tryz.prog 66 #[.slice none 0 0] d (kQ [] e d λv κ w => ∃f g,v = .slice f r.length g∧(∀m∈([Ro.mp jF.ty f g r]:List MP),m.p κ w)∧t5 d κ w [.tok f 48 6 r.length g]):=by
 have c:=SS.start h j
 refine en Tryz.func66 rfl Tryz.ntmps66 λa b=>?_
 unfold M.qH at H
 refine qs λ_ hz=>rl (wp 1 [0] b λa b=>nl (hz _ _ (qs λ_ n=>qr λ_ k=>wp 2 [0,4] b λa b=>k _ _ (ct b rfl (qr λ_ l=>wp 1 [2] b λa b=>l _ _ (rt ?_))))))
 have c:=c.add (m:=Ro.mp jF.ty none 0 ([]:List jC)) (Ro.nil jF.ty _ _)
 have c:=c.addNil 48 6
 cases H
 exact (j7 b c (l3 Tryz.results66 (rvt b)) ⟨none,0,rfl,(c.pick [0] kr).ro,c.newC [0] dc kr⟩)
theorem tC (N){k}{d}(l:lL k d)(e)(h)(j)(s : ∀m∈([Ro.mp jF.ty (some h) j e]:List MP),m.p k d){r}(H:M.mH N e=some r) :
    Calls Tryz.prog 66 #[.slice (some h) e.length j] d (kQ [] k d λv κ w => ∃f g,v = .slice f r.length g∧(∀m∈([Ro.mp jF.ty f g r]:List MP),m.p κ w)∧t5 d κ w [.tok f 48 6 r.length g]):=by
 have c:=SS.start l s
 refine en Tryz.func66 rfl Tryz.ntmps66 λa b=>?_
 unfold M.mH at H
 refine qr λ_ t=>(wp 1 [0] b λa b=>(t _ _ (qs λ_ u=>qr λ_ x=>(jG (L':=[(0,.slice (some h) e.length j),(4,vb false)]) 2 [0,4] b kr λa b=>(x _ _ (cf b rfl (sk (u _ _ (qr λ_ y=>(wc (HA b c kr jF.ty (E:=48) rfl kr kr λA κ a w b c=>jG (L':=[(5,.slice A (([]:List jC)).length 0),(6,.slice (some h) e.length j)]) 1 [5,6] b kr λa b=>bd H λB n H=>wc (kI (ty:=jF.ty) b c kr 0 0 1 rfl rfl rfl kr kr rfl rfl rfl n kr (i:=Tryz.t48) (z := .agg (flat (k0e empty)).toArray) kr kr kr λo q κ a w b c=>?_))))))))))))
 refine wp 1 [2] b λa b=>y _ _ (rt ?_)
 cases H
 exact (j7 b c (l3 Tryz.results66 (rvt b)) ⟨o,q,rfl,(c.pick [0] kr).ro,c.newC [0] dc kr⟩)
theorem oG (N){f}{a}(e:lL f a)(d)(g)(i)(j : ∀m∈([Ro.mp jF.ty g i d]:List MP),m.p f a){r}(H:M.lH N d=some r) :
    Calls Tryz.prog 66 #[.slice g (d).length i] a (kQ [] f a λv κ w => ∃b:Option Addr,∃c:Nat,v = .slice b (r).length c∧(∀m∈([Ro.mp jF.ty b c r]:List MP),m.p κ w)∧t5 a κ w [.tok b 48 6 (r).length c]):=by
 cases g with
 | some p=>exact tC N e d p i j H
 | none=>
  obtain ⟨_,_,h | ⟨_,_,_,h,_⟩⟩:=j _ (List.mem_singleton_self _)
  · obtain ⟨k,l⟩:=h
    subst k l; cases H
    exact tD N e [] (λ_ h=>by cases h) rfl
  · cases h
theorem uT (N){j}{i}(x:lL j i)(c)(e)(f)(G : ∀m∈([Ro.mp (fInt .u64).ty e f c]:List MP),m.p j i){r}(H:M.mW N c=some r) :
    Calls Tryz.prog 67 #[.slice e c.length f] i (kQ [] j i λv κ w=>v=vu r∧(∀m∈([]:List MP),m.p κ w)∧t5 i κ w []):=by
 have d:=SS.start x G
 refine en Tryz.func67 rfl Tryz.ntmps67 λa b=>?_
 unfold M.mW at H
 refine qr λ_ I=>wp 1 [0] b λa b=>I _ _ (m9 (λa w => ∃κ:Gh,Fr (25) [] [(0,.slice e c.length f)] a∧SS [] j i κ w [] [Ro.mp (fInt .u64).ty e f c]∧M.nJ N c=some r) ?_ ?_)
 refine qr λ_ y=>wp 3 [0,7] b λa b=>y _ _ (bc b H (λhb H=>?_) λhb H=>?_)
 cases H
 refine sk ?_
 exact ⟨_,b.kp [0],d.sp [] [0],H⟩
 rintro a w ⟨κ,b,d,H⟩
 unfold M.nJ at H
 refine qr λ_ J=>(jG (L':=[(0,.slice e c.length f),(9,.slice e c.length f)]) 1 [0,9] b kr λa b=>bd H λz s H=>wc (kS b d kr 0 (E:=32) (sz:=1) rfl rfl rfl kr rfl s kr kr λP Q a u b=>wc (mM (t:=(fInt .u64)) b d kr 0 0 (v:=vu z) rfl rfl u rfl s kr kr kr λa b=>wp 1 [0,3] b λa b=>(J _ _ (qs λ_ K=>qr λ_ A=>(wp 1 [0,3,4] b λa b=>(A _ _ (bk (jX (n:=N) (λn a w => ∃κ g h,Fr (25) [] [(0,.slice e c.length f),(3,vu g),(4,vi h)] a∧SS [] j i κ w [] [Ro.mp (fInt .u64).ty e f c]∧M.lF N n c g h=some r) ?_ ?_)))))))))
 exact ⟨_,z,1,b.kp [0,3,4],d.sp [] [0],H⟩
 rintro n a w ⟨κ,g,h,b,d,H⟩
 rcases n with _|o
 simp [M.lF] at H
 simp only [M.lF] at H
 refine qs λ_ B=>qr λ_ C=>wp 4 [0,3,4,15] b λa b=>C _ _ (bc b H (λhb H=>?_) λhb H=>?_)
 refine sk (B _ _ (qs λ_ D=>bk (rl (jG (L':=[(0,.slice e c.length f),(4,vi h),(18,vu g),(19,.slice e c.length f),(20,vi h)]) 3 [0,4,18,19,20] b kr λa b=>bd H λk l H=>wc (kS b d kr 0 (E:=32) (sz:=1) rfl rfl rfl kr rfl l kr kr λL O a q b=>wc (mM (t:=(fInt .u64)) b d kr 0 0 (v:=vu k) rfl rfl q rfl l kr kr kr λa b=>wp 2 [0,3,4] b λa b=>D _ _ (rl (wp 3 [0,3,4] b λa b=>nl ?_))))))))
 exact ⟨o,Nat.lt_succ_self _,_,(if k > g then k else g),i64.wrap (h+1),b.kp [0,3,4],d.sp [] [0],H⟩
 refine xt (K _ _ (qr λ_ F=>wp 2 [2] b λa b=>F _ _ (rt ?_)))
 cases H
 exact (j7 b d (l3 Tryz.results67 (rvt b)) ⟨rfl,(d.pick [] kr).ro,d.newC [] dc kr⟩)
theorem uY (N){Ms}{κ0}{w0}(U)(a3)(P)(a9:(List i9))(g)(e)(S)(O)(m5)(c6)(T)(Y)(Z)(G)(B)(C)(j)(hB:SB Ms κ0 w0 [.box j 87 [si U,(30,S),sm O,su P,(9,T),sl Y a9.length Z,(1,G)],k2s Y a9.length Z,mx O m5 c6] [k3k O m5 c6 a3,k2t Y Z a9,k3b B C e]){r}(H:M.pI N U a3 P a9 g e=some r) :
    Calls Tryz.prog 65 #[pt j 0,.agg (flat [si g.dc,si g.at_,si g.left,k2j]).toArray,.slice B e.length C] w0 (kQ Ms κ0 w0 λv κ w => ∃V an ao W X,v = .tuple #[]∧SS Ms κ0 w0 κ w [.box j 87 [si U,(30,S),sm V,su r.2.1,(9,T),sl W (r.2.2).length X,(1,G)],k2s W (r.2.2).length X,mx V an ao] [k3k V an ao r.1,k2t W X r.2.2]):=by
 have d:=hB.hS
 have bg:=d.fresh
 refine en Tryz.func65 rfl Tryz.ntmps65 λa b=>?_
 unfold M.pI at H
 refine qr λ_ aS=>wc (wbx b d [si g.dc,si g.at_,si g.left,k2j] (sgN 4 jE) λK a w b d=>aS _ _ (qr λ_ aT=>wp 3 [0,2,4,10,12] b λa b=>wc (wld b d 1 3 0 λa b=>wp 3 [0,2,4,14,16] b λa b=>wc (wst b d 1 3 1 [su (u64.wrap (P+1))] (sgN 1 jE) λa w b d=>aT _ _ (qr λ_ aU=>wp 3 [0,2,4,18,19] b λa b=>wc (wst b d 0 2 1 [si (e.length:Int)] (sgN 1 jE) λa w b d=>aU _ _ (qs λ_ aV=>qr λ_ aW=>wp 3 [0,4,20,21,22] b λa b=>aW _ _ ?_)))))))
 refine bk (jX (n:=N) (λn a w => ∃κ,∃L:List ByteArray,∃Q R,∃u:List i9,∃D F x,Fr (62) [] [k2g j,k26 K,(20,.slice B e.length C),(21,vi (e.length:Int)),(22,vi x)] a∧SS Ms κ0 w0 κ w [.box K 138 [si g.dc,si g.at_,si (e.length:Int),sl Q L.length R],.box j 87 [si U,(30,S),sm O,su (u64.wrap (P+1)),(9,T),sl D u.length F,(1,G)],.tok Q 9 1 L.length R,k2s D u.length F,mx O m5 c6] [k3k O m5 c6 a3,k2t D F u,k3b B C e,k2l Q R L]∧M.mE N n U a3 P g e L u x=some r) ?_ ?_)
 have d:=d.add (m:=Ro.mp lB.ty none 0 ([]:List ByteArray)) (Ro.nil lB.ty _ _)
 have d:=d.addNil 9 1
 exact ⟨_,([]:List ByteArray),none,0,a9,Y,Z,0,b.kp [0,4,20,21,22],d.sp [1,2,0,3,4] [1,2,3,0],H⟩
 rintro n a w ⟨κ,L,Q,R,u,D,F,x,b,d,H⟩
 rcases n with _|aa
 simp [M.mE] at H
 simp only [M.mE] at H
 refine qr λ_ aX=>(jG (L':=[k2g j,k26 K,(20,.slice B e.length C),(21,vi (e.length:Int)),(22,vi x),(23,vb (decide (x<(e.length:Int))))]) 1 [0,4,20,21,22,23] b kr λa b=>aX _ _ (qs λ_ aY=>bc b H (λhb H=>?_) λhb H=>?_))
 refine sk (aY _ _ (qs λ_ aZ=>bk (qr λ_ a0=>(bd H λf aq H=>wc (kS b d kr 2 (E:=141) (sz:=2) rfl rfl rfl kr rfl aq kr kr λbh bi a aB b=>?_)))))
 obtain ⟨_,⟨⟨p,q⟩,rfl,hR⟩,hc⟩:=d.elem 2 rfl aB aq
 have d:=(d.adds hR).add hc
 refine wc (kR b kr (v := .agg (flat [si f.Node,sl p (f.Vers).length q]).toArray) ((pN 0 0 2 (s:=[si f.Node,sl p (f.Vers).length q]) (s':=[si f.Node,sl p (f.Vers).length q]) (n:=2) rfl rfl rfl (show mL [si f.Node,sl p (f.Vers).length q] from (sgN 2 jE)) kr kr kr kr kr _ ⟨_,d⟩)) λa b=>wc (wal b d k0m (sgN 2 jE) λab a w b d=>wc (wst b d 0 0 2 [si f.Node,sl p (f.Vers).length q] (sgN 2 jE) λa w b d=>a0 _ _ (qs λ_ a2=>?_))))
 refine qr λ_ a4=>(wp 1 [0,4,7,20,21,22,26] b λa b=>wc (wld b d 0 1 0 λa b=>wp 2 [0,4,7,20,21,22,27,28,29] b λa b=>(a4 _ _ (bk (jX (n:=N) (λn a w => ∃κ,∃y:List ByteArray,∃I J A,Fr (62) [] [k2g j,k26 K,k2i ab,(20,.slice B e.length C),(21,vi (e.length:Int)),(22,vi x),k2o p (f.Vers).length q,(28,vi ((f.Vers).length:Int)),(29,vi A)] a∧SS Ms κ0 w0 κ w [.box ab 141 [si f.Node,sl p (f.Vers).length q],.box K 138 [si g.dc,si g.at_,si (e.length:Int),sl I y.length J],.box j 87 [si U,(30,S),sm O,su (u64.wrap (P+1)),(9,T),sl D u.length F,(1,G)],.tok I 9 1 y.length J,k2s D u.length F,mx O m5 c6] [k3k O m5 c6 a3,k2t D F u,k3b B C e,k2u p q f.Vers,k2l I J y]∧M.nF N (M.mE N aa) n U a3 P g e u x f y A=some r) ?_ ?_)))))
 exact ⟨_,L,Q,R,0,b.kp [0,4,7,20,21,22,27,28,29],d.sp (rg 6) [2,3,4,1,5],H⟩
 rintro n a w ⟨κ,y,I,J,A,b,d,H⟩
 rcases n with _|aD
 simp [M.nF] at H
 simp only [M.nF] at H
 refine qr λ_ aJ=>(jG (L':=[k2g j,k26 K,k2i ab,(20,.slice B e.length C),(21,vi (e.length:Int)),(22,vi x),k2o p (f.Vers).length q,(28,vi ((f.Vers).length:Int)),(29,vi A),(30,vb (decide (A<((f.Vers).length:Int))))]) 1 [0,4,7,20,21,22,27,28,29,30] b kr λa b=>aJ _ _ (qs λ_ aL=>bc b H (λhb H=>?_) λhb H=>?_))
 refine sk (aL _ _ (qs λ_ aM=>bk (qr λ_ aO=>(bd H λo ad H=>wc (kS b d kr 3 (E:=48) (sz:=6) rfl rfl rfl kr rfl ad kr kr λa6 a8 a ar b=>wc (qT (t:=jF) b d kr 3 rfl rfl ar rfl ad kr kr kr λa b=>wc (wal b d (k0e empty) (sgN 6 jE) λaP a w b d=>wc (wst b d 0 0 6 (k0n o.Key o.Val o.Gone o.TS o.DC o.Tx) (sgN 6 jE) λa w b d=>?_))))))))
 refine aO _ _ (rl (wp 1 [0,4,7,9,20,21,22,27,28,29,33] b λa b=>wc (wld b d 2 3 0 λa b=>jG (L':=[k2g j,k26 K,k2i ab,(20,.slice B e.length C),(21,vi (e.length:Int)),(22,vi x),k2o p (f.Vers).length q,(28,vi ((f.Vers).length:Int)),(29,vi A),(34,.slice I y.length J),(35,pt aP 0)]) 1 [0,4,7,20,21,22,27,28,29,34,35] b kr λa b=>wc (wld b d 0 0 0 λa b=>wc (oU (t:=lB) (z := .string (empty)) (l:=[o.Key]) (vs:=[(0,.string (o.Key))]) (cells := #[.string (o.Key)]) (E:=9) b d kr rfl kr kr rfl kr kr kr kr kr λba κ a w b d=>?_)))))
 refine bd H λau aE H=>wc (kI (ty:=lB.ty) b d kr 5 5 0 rfl rfl rfl kr kr rfl rfl rfl aE kr (i:=Tryz.t9) (z := .string (empty)) kr kr kr λav aw κ a w b d=>wp 1 [0,4,7,20,21,22,27,28,29,38,39] b λa b=>wc (wst b d 3 3 1 [sl av au.length aw] (sgN 1 jE) λa w b d=>aM _ _ (rl (wp 2 [0,4,7,20,21,22,27,28,29] b λa b=>nl ?_))))
 exact ⟨aD,Nat.lt_succ_self _,_,au,av,aw,i64.wrap (A+1),b.kp [0,4,7,20,21,22,27,28,29],d.sp (ra 2 6) [2,3,4,5,0],H⟩
 refine xt (a2 _ _ (rga (λ_=>True) [] ?_))
 have d:=d.drew
 refine anp [0,1,3,4,5,7] [0,4,20,21,22,41,42,46,48] b trivial λa b=>mG d [10] (atk 2 (some 43) b (d.sx [0,1,2,5] (rg 5)) rfl (vld 0 0 0) λa b=>atk 6 (some 47) b (d.sx [0,1,2,5] (rg 5)) rfl (vld 2 3 0) λa b=>atk 8 (some 49) b (d.sx [0,1,2,5] (rg 5)) rfl (vld 0 1 0) λa b=>anp [9] [0,4,20,21,22,41,43,50] b (d.sx [0,1,2,5] (rg 5)) λa b=>ago 10 b rfl ?_)
 have d:=d.add (m:=Ro.mp (fInt .u64).ty none 0 ([]:List Int)) (Ro.nil (fInt .u64).ty _ _)
 refine bd H λax aF H=>?_
 have aj:=d.segs 2 rfl
 refine wcS 2 [2,4,0,1,3,5] b d (λd=>lK N U u f.Node (jK.mk 4 (u64.wrap (P+1)) 0 0 empty empty f.Vers ([]:List Int) (jT.mk 0 0 0 0 0 empty)) (flat [(30,S),sm O,su (u64.wrap (P+1)),(9,T)]) D F G p q none 0 j ((d.regr 0 [(false,1),(true,4),(false,2)] rfl).sbK [2,4,0]) aF) ?_
 rintro _ κ w a ⟨ay,az,rfl,h2⟩ b hB
 have d:=(hB _ _ h2).unregrK 0 [(false,1),(true,4),(false,2)] (s':=[si U,(30,S),sm O,su (u64.wrap (P+1)),(9,T),sl ay ax.length az,(1,G)]) aj rfl
 refine ⟨notE,?_⟩
 refine kM (aZ _ _ (rl (wp 2 [0,4,20,21,22] b λa b=>nl ?_)))
 exact ⟨aa,Nat.lt_succ_self _,_,y,I,J,ax,ay,az,i64.wrap (x+1),b.kp [0,4,20,21,22],d.sp [3,0,4,1,5] [2,0,4,6],H⟩
 refine xt (aV _ _ (rgX d [0,1] ?_))
 have d:=d.drew
 have hX:=d.px [0,1]
 refine jO [0,1,2,4,5,6] [4,55,59] (L':=[k26 K,(55,pt j 31),(59,pt j 32)]) (listed':=(mU 10 119)) (fuel:=4) b hX kr (by intro c a w t v h; cases t<;>exact h) kr rfl λa b=>atk 3 (some 56) b hX rfl (vld 1 2 0) λa b=>atk 7 (some 60) b hX rfl (vld 1 3 0) λa b=>atk 8 (some 61) b hX rfl (vls 0 0 4) λa b=>ago 9 b rfl (bd H λbf aH H=>pV (KT:=32) (E:=138) (kt:=(kInt .u64)) (agg:=true) (t:=mD) b d kr 4 0 (k:=u64.wrap (P+1)) (v:=(jB.mk g.dc g.at_ (e.length:Int) L)) (cs:=flat [si g.dc,si g.at_,si (e.length:Int),sl Q L.length R]) rfl kr kr kr ⟨(Q,R),rfl,(d.pick [3] kr).ro⟩ rfl rfl aH kr kr λaQ aR a w b d=>?_)
 refine ⟨λ_=>(d.sx [0,1] (ra 1 4)),?_⟩
 refine kM ?_
 cases H
 exact j7 b d (mI Tryz.results65) ⟨O,aQ,aR,D,F,rfl,d.sp [1,3,4] [0,2]⟩
theorem yH (N){Ms}{κ0}{w0}(a1)(a3)(a5)(a8)(an)(B)(ar)(ak)(s:(List Int))(C:(List i9))(l)(d:jK)(U)(V)(Y)(X)(Z)(L)(D)(f)(F)(G)(o)(x)(A)(I)(g)(j)(J)(p)(q)(K)(O)(P)(Q)(R)(k)(hB:SB Ms κ0 w0 (k1a k a1 U a3 V Y Z D f B G o ak I g s.length j J p C.length q K X a5 L a8 (arrX j6 f F an) x A) (k1b (ml f 4) (ml B 4) o x A ar g j s p q C O P d.Vers Q R d.Vec)){r}(H:M.qY N a1 a3 a5 a8 an B ar ak s C l d=some r) :
    Calls Tryz.prog 32 #[pt k 0,vi l,.agg (flat (k07 d.Kind d.Id d.N d.TS d.Lo d.Hi O (d.Vers).length P Q (d.Vec).length R d.Cmd.Kind d.Cmd.DC d.Cmd.Shard d.Cmd.Node d.Cmd.Mode d.Cmd.Key)).toArray] w0 (kQ Ms κ0 w0 λv κ w => ∃bT bE bU bF a4 bG bj bl bm bn bo bq br,v = .tuple #[]∧SS Ms κ0 w0 κ w (k1a k a1 U a3 V bT bU D a4 r.2.2.2.1 G bj r.u4.2.1 I bn (r.u4.2.2.1).length bo J bq (r.u4.2.2.2).length br K bE r.1 bF r.2.1 (arrX j6 a4 bG r.2.2.1) bl bm) (k1c (ml a4 4) (ml r.2.2.2.1 4) bj bl bm r.u4.1 bn bo r.u4.2.2.1 bq br r.u4.2.2.2)):=by
 have e:=hB.hS
 have cY:=e.fresh
 refine en Tryz.func32 rfl Tryz.ntmps32 λa b=>?_
 unfold M.qY at H
 refine qr λ_ cg=>wc (wbx b e (k07 d.Kind d.Id d.N d.TS d.Lo d.Hi O (d.Vers).length P Q (d.Vec).length R d.Cmd.Kind d.Cmd.DC d.Cmd.Shard d.Cmd.Node d.Cmd.Mode d.Cmd.Key) (sgN 14 jE) λu a w b e=>cg _ _ (qs λ_ ch=>qr λ_ ci=>bd H λcj ae H=>kA (λa w => ∃κ:Gh,Fr (144) [] [k2g k,k2a l,k2d u,(18,vb cj)] a∧SS Ms κ0 w0 κ w (k1d u d.Kind d.Id d.N d.TS d.Lo d.Hi O (d.Vers).length P Q (d.Vec).length R d.Cmd.Kind d.Cmd.DC d.Cmd.Shard d.Cmd.Node d.Cmd.Mode d.Cmd.Key k a1 U a3 V Y Z D f B G o ak I g s.length j J p C.length q K X a5 L a8 (arrX j6 f F an) x A) (k1b (ml f 4) (ml B 4) o x A ar g j s p q C O P d.Vers Q R d.Vec)∧True) ?_ ?_))
 refine wp 3 [0,1,5,8] b λa b=>bs ae (λhb ae=>?_) λhb ae=>?_
 have b:=b.bv 8 hb
 refine wp 10 [0,1,5,18] b λa b=>nl ?_
 cases ae
 exact ⟨_,b.kp [0,1,5,18],e.sp (rg 8) (rg 7),trivial⟩
 have b:=b.bv 8 hb
 refine wp 4 [0,1,5,12] b λa b=>bs ae (λhb ae=>?_) λhb ae=>?_
 have b:=b.bv 12 hb
 refine wp 6 [0,1,5,18] b λa b=>nl ?_
 cases ae
 exact ⟨_,b.kp [0,1,5,18],e.sp (rg 8) (rg 7),trivial⟩
 have b:=b.bv 12 hb
 refine wp 3 [0,1,5,12,15] b λa b=>wcg b (wld b e 1 2 0 λa b=>wp 2 [0,1,5,18] b λa b=>nl ?_)
 cases ae
 exact ⟨_,b.kp [0,1,5,18],e.sp (rg 8) (rg 7),trivial⟩
 rintro a w ⟨κ,b,e,-⟩
 refine ci _ _ (bc b H (λhb H=>?_) λhb H=>?_)
 refine rt ?_
 cases H
 exact j7 b e (mI Tryz.results32) ⟨Y,X,Z,L,f,F,o,x,A,g,j,p,q,rfl,e.sp (ra 1 7) (rg 5)⟩
 refine sk (ch _ _ (qr λ_ cl=>(wp 1 [0,1,5,19] b λa b=>wc (wld b e 0 0 0 λa b=>(cl _ _ (bk (qr λ_ cm=>(jG (L':=[k2g k,k2a l,k2d u,(20,vi d.Kind),(21,vb (d.Kind==18))]) 2 [0,1,5,20,21] b kr λa b=>cm _ _ (bc b H (λhb H=>?_) λhb H=>?_)))))))))
 refine qs λ_ cn=>bd H λco af H=>kJ (λa w => ∃κ a6,Fr (144) [] [k2g k,k2a l,k2d u,(45,vb co)] a∧SS Ms κ0 w0 κ w (k1d u d.Kind d.Id d.N d.TS d.Lo d.Hi O (d.Vers).length P Q (d.Vec).length R d.Cmd.Kind d.Cmd.DC d.Cmd.Shard d.Cmd.Node d.Cmd.Mode d.Cmd.Key k a1 U a3 V Y Z D f B G o ak I g s.length j J p C.length q K X a5 L a8 (arrX j6 f a6 an) x A) (k1b (ml f 4) (ml B 4) o x A ar g j s p q C O P d.Vers Q R d.Vec)∧True) ?_ ?_
 refine bd af λcZ aB af=>?_
 obtain ⟨bR,av⟩:=e.arrIdx 6 rfl aB
 have e:=e.add (m:=MP.const (idx f l=some bR)) av
 have aw:idx f l=some bR:=e.get 0 rfl
 obtain ⟨cO,cP,e⟩:=e.arrTakeP 6 rfl aB aw
 refine kU af (λah af=>?_) (λc0 ah af=>?_)
 obtain ⟨aa,e⟩:=e.optN 0 rfl ah
 have bV:=b
 subst aa
 have b:=bV
 obtain ⟨bW,e⟩:=e.arrBackI 0 1 (ra 2 7) dc rfl rfl aw (aB.trans (congrArg some ah))
 refine rl (jG (L':=[k2g k,k2a l,k2d u,(24,vi l),(26,pt k 16)]) 4 [0,1,5,24,26] b kr λa b=>wc (l5 b kr (E:=81) (sz:=1) (n:=4) rfl rfl (i:=l) rfl (m1 av (e.get 1 rfl)) kr kr λa b=>wc (rF (t:=pF) b e kr 2 7 (v := .pointer none) rfl rfl rfl rfl av rfl rfl kr kr λa b=>wp 17 [0,1,5,45] b λa b=>nl ?_)))
 cases af
 exact ⟨_,bW,b.kp [0,1,5,45],e.sp [1,2,3,4,5,6,0,7] (ra 1 7),trivial⟩
 obtain ⟨cp,aa,e⟩:=e.optS 0 rfl ah
 have bX:=b
 subst aa
 have b:=bX
 refine rl (bd af λcq ai af=>kA (λa w => ∃κ a7,Fr (144) [] [k2g k,k2a l,k2d u,(45,vb cq)] a∧SS Ms κ0 w0 κ w (k1d u d.Kind d.Id d.N d.TS d.Lo d.Hi O (d.Vers).length P Q (d.Vec).length R d.Cmd.Kind d.Cmd.DC d.Cmd.Shard d.Cmd.Node d.Cmd.Mode d.Cmd.Key k a1 U a3 V Y Z D f B G o ak I g s.length j J p C.length q K X a5 L a8 (arrX j6 f a7 an) x A) (k1b (ml f 4) (ml B 4) o x A ar g j s p q C O P d.Vers Q R d.Vec)∧True) ?_ ?_)
 refine jG (L':=[k2g k,k2a l,k2d u,(24,vi l),(26,pt k 16)]) 4 [0,1,5,24,26] b kr λa b=>wc (l5 b kr (E:=81) (sz:=1) (n:=4) rfl rfl (i:=l) rfl (m1 av (e.get 1 rfl)) kr kr λa b=>wc (rF (t:=pF) b e kr 3 7 (v:=pt cp 0) rfl rfl rfl rfl av rfl rfl kr kr λa b=>wp 3 [0,1,5,30,31] b λa b=>wcg b (wld b e 2 1 0 λa b=>wp 3 [0,1,5,35] b λa b=>bs ai (λhb ai=>?_) λhb ai=>?_)))
 have b:=b.bv 35 hb
 refine wp 1 [0,1,5,35,36] b λa b=>wcg b (wld b e 2 2 0 λa b=>wp 3 [0,1,5,40] b λa b=>bs ai (λhb ai=>?_) λhb ai=>?_)
 have b:=b.bv 40 hb
 refine wp 1 [0,1,5,40,41] b λa b=>wcg b (wld b e 2 6 0 λa b=>wp 3 [0,1,5,45] b λa b=>?_)
 obtain ⟨bY,e⟩:=e.arrBackI 0 1 (ra 2 7) dc rfl rfl aw (aB.trans (congrArg some ah))
 refine nl ?_
 cases ai
 exact ⟨_,bY,b.kp [0,1,5,45],e.sp [1,2,3,4,5,6,0,7] (ra 1 7),trivial⟩
 have b:=b.bv 40 hb
 refine wp 5 [0,1,5,45] b λa b=>?_
 obtain ⟨bZ,e⟩:=e.arrBackI 0 1 (ra 2 7) dc rfl rfl aw (aB.trans (congrArg some ah))
 refine nl ?_
 cases ai
 exact ⟨_,bZ,b.kp [0,1,5,45],e.sp [1,2,3,4,5,6,0,7] (ra 1 7),trivial⟩
 have b:=b.bv 35 hb
 refine wp 10 [0,1,5,45] b λa b=>?_
 obtain ⟨b0,e⟩:=e.arrBackI 0 1 (ra 2 7) dc rfl rfl aw (aB.trans (congrArg some ah))
 refine nl ?_
 cases ai
 exact ⟨_,b0,b.kp [0,1,5,45],e.sp [1,2,3,4,5,6,0,7] (ra 1 7),trivial⟩
 rintro a w ⟨κ,a7,b,e,-⟩
 cases af
 exact ⟨_,a7,b.kp [0,1,5,45],e.sp (rg 8) (rg 7),trivial⟩
 rintro a w ⟨κ,a6,b,e,-⟩
 refine cn _ _ (bc b H (λhb H=>?_) λhb H=>?_)
 refine bd H λc1 a9 H=>?_
 obtain ⟨bS,aR⟩:=e.arrIdx 6 rfl a9
 have e:=e.add (m:=MP.const (idx f l=some bS)) aR
 have aS:idx f l=some bS:=e.get 0 rfl
 obtain ⟨cQ,cR,e⟩:=e.arrTakeP 6 rfl a9 aS
 refine kU H (λaF H=>?_) (λcr aF H=>?_)
 obtain ⟨aa,e⟩:=e.optN 0 rfl aF
 have b1:=b
 subst aa
 have b:=b1
 obtain ⟨cS,e⟩:=e.arrBackI 0 1 (ra 2 7) dc rfl rfl aS (a9.trans (congrArg some aF))
 cases H
 obtain ⟨bt,aa,e⟩:=e.optS 0 rfl aF
 have b2:=b
 subst aa
 have b:=b2
 obtain ⟨⟨cs,cu,cv,cw,cx,cy,cz⟩,e⟩:=e.unfI (ck:=lO) (fs:=lN) 0 rfl
 refine rga (λ_=>True) [] ?_
 have e:=e.drew
 refine jO [0,1,2,3,6,9,11,12,15] [47,49,52,55,57,58,61] (L':=[(47,vi l),(49,pt k 16),(52,pt u 1),(55,pt u 3),(57,vi l),(58,pt u 2),(61,pt u 6)]) (listed':=(mU 19 39503)) (fuel:=10) b trivial kr (by intro c a w t v h; cases t<;>exact h) kr rfl λa b=>mG e [18] (atk 4 (some 50) b (e.sx [0,2,3,4,5,6,9,10,11] (rg 10)) rfl (λw _=>lU (E:=81) (sz:=1) (n:=4) rfl rfl (i:=l) rfl (m1 aR (e.get 3 rfl)) kr kr w) λa b=>atk 5 (some 51) b (e.sx [0,2,3,4,5,6,9,10,11] (rg 10)) rfl (rV (t:=pF) 5 7 (v:=pt bt 0) rfl rfl rfl rfl aR rfl rfl kr kr) λa b=>?_)
 refine atk 7 (some 53) b (e.sx [0,2,3,4,5,6,9,10,11] (rg 10)) rfl (vld 4 1 0) λa b=>anp [8] [51,54,55,57,58,61] b (e.sx [0,2,3,4,5,6,9,10,11] (rg 10)) λa b=>atk 10 (some 56) b (e.sx [0,2,3,4,5,6,9,10,11] (rg 10)) rfl (vld 4 3 0) λa b=>atk 13 (some 59) b (e.sx [0,2,3,4,5,6,9,10,11] (rg 10)) rfl (vld 4 2 0) λa b=>anp [14] [51,54,56,57,60,61] b (e.sx [0,2,3,4,5,6,9,10,11] (rg 10)) λa b=>atk 16 (some 62) b (e.sx [0,2,3,4,5,6,9,10,11] (rg 10)) rfl (vld 4 6 0) λa b=>?_
 refine anp [17] [51,54,63] b (e.sx [0,2,3,4,5,6,9,10,11] (rg 10)) λa b=>ago 18 b rfl (bd H λcA b3 H=>wcS 4 (rg 12) b e (λe=>AU N cr (i64.wrap d.Id) (kK.mk d.TS l (i64.wrap d.N) d.Vers) cs cu cv cw cx cy cz O P bt (e.sbK [0,1,8]) b3) ?_)
 rintro _ κ w a ⟨cB,cD,cE,cF,cG,cH,cI,rfl,h2⟩ b hB
 have e:=hB _ _ h2
 refine ⟨notE,?_⟩
 refine kM ?_
 obtain ⟨cT,e⟩:=e.foldI (ck:=lO) (fs:=lN) bt (cB,cD,cE,cF,cG,cH,cI) cA.2 (rg 4) (ra 4 8) [0,1] dc kr kr
 obtain ⟨b4,e⟩:=e.arrPutI 0 1 (ra 2 7) dc rfl rfl aS
 cases H
 exact j7 b e (mI Tryz.results32) ⟨Y,X,Z,L,f,b4,o,x,A,g,j,p,q,rfl,e.sp [2,3,4,5,6,0,7] (ra 5 5)⟩
 refine sk ?_
 cases H
 exact j7 b e (mI Tryz.results32) ⟨Y,X,Z,L,f,a6,o,x,A,g,j,p,q,rfl,e.sp (ra 1 7) (rg 5)⟩
 refine qr λ_ cJ=>(jG (L':=[k2g k,k2a l,k2d u,(20,vi d.Kind),(65,vb (d.Kind==20))]) 2 [0,1,5,20,65] b kr λa b=>cJ _ _ (bc b H (λhb H=>?_) λhb H=>?_))
 refine qs λ_ cK=>bd H λW ho H=>?_
 obtain ⟨ab,aa,e⟩:=e.optS 4 rfl ho
 rw [aa] at e
 try rw [aa] at b
 obtain ⟨⟨aM,aO⟩,e⟩:=e.unfI (ck:=jR) (fs:=jP) 4 rfl
 refine bd H λao ho H=>?_
 obtain ⟨al,aa,e⟩:=e.optS 6 rfl ho
 rw [aa] at e
 try rw [aa] at b
 obtain ⟨⟨aY,aZ,a0,aH⟩,e⟩:=e.unfI (ck:=kV) (fs:=kT) 6 rfl
 refine bd H λb5 S H=>kJ (λa w => ∃κ ax ay,Fr (144) [] [k2g k,k2a l,k2d u,(84,vb b5)] a∧SS Ms κ0 w0 κ w [k3v u d.Kind d.Id d.N d.TS d.Lo d.Hi O (d.Vers).length P Q (d.Vec).length R d.Cmd.Kind d.Cmd.DC d.Cmd.Shard d.Cmd.Node d.Cmd.Mode d.Cmd.Key,k3y k a1 U a3 V ab al D f B G o ak I g s.length j J p C.length q K,k3e g s.length j,k2s p C.length q,k3s ab ax W,k3m al ay ao,.ext (arrX j6 f F an),mx o x A] (k1b (ml f 4) (ml B 4) o x A ar g j s p q C O P d.Vers Q R d.Vec)∧True) ?_ ?_
 refine rgS e [] ?_
 have e:=e.drew
 have hX:=e.fx
 refine bd S λcU be S=>bd S λbu bf S=>wO S (λaT S=>?_) (λaT S=>?_)
 refine bd S λcV bH S=>jO [0,1,2,5] [0,1,5,69,72] (L':=[k2g k,k2a l,k2d u,(69,pt k 12),(72,vi l)]) (listed':=(mU 18 39)) (fuel:=14) b hX kr (by intro c a w t v h; cases t<;>exact h) kr rfl λa b=>atk 3 (some 70) b hX rfl (vld 4 4 0) λa b=>ago 4 b rfl (wcS 2 [3,4,0,1,2,5,6,7,8,9,10] b e (λe=>pE N W aM aO ab (e.sbK (ra 2 4)) be) ?_)
 rintro _ κ w a ⟨rfl,h2⟩ b hB
 have e:=hB _ _ h2
 refine ⟨λ_=>(e.sx [2,0,1,5,6,9,10] (ra 1 13)),?_⟩
 refine ago 6 b rfl (kR b kr (v:=vb bu) (pA (t:=jN) (E:=4) (n:=4) (m:=4) rfl kr rfl bf (e.get 0 rfl) rfl rfl kr kr kr _) λa b=>⟨λ_=>(e.sx [2,0,1,5,6,9,10] (ra 1 13)),?_⟩)
 refine anp [7] [0,1,5,74] b (e.sx [2,0,1,5,6,9,10] (ra 1 13)) λa b=>?_
 have b:=b.boolv 74 kr aT
 refine anp [8,10,11,12] [0,1,5,74,75,79] b (e.sx [2,0,1,5,6,9,10] (ra 1 13)) λa b=>atk 9 (some 76) b (e.sx [2,0,1,5,6,9,10] (ra 1 13)) rfl (vld 3 2 0) λa b=>atk 13 (some 80) b (e.sx [2,0,1,5,6,9,10] (ra 1 13)) rfl (vld 4 5 0) λa b=>ago 14 b rfl (wcS 1 [2,0,1,3,4,5,6,7,8,9,10] b e (λe=>tN N ao aY aZ a0 aH al (e.sbK [1,2]) bH) ?_)
 rintro _ κ w a ⟨rfl,h2⟩ b hB
 have e:=(hB _ _ h2).cC (C':=[k2z al aY (ao.list).length aZ a0 (ao.waiting).length aH ao.bound,k2f ab W.dc aM (W.beats).length aO W.got.Epoch W.got.Has W.got.T W.known.Epoch W.known.Has W.known.T W.stable,.ext (ownX (fInt .u64) 32 aM aO W.beats),k30 aY (ao.list).length aZ,k30 a0 (ao.waiting).length aH,k3v u d.Kind d.Id d.N d.TS d.Lo d.Hi O (d.Vers).length P Q (d.Vec).length R d.Cmd.Kind d.Cmd.DC d.Cmd.Shard d.Cmd.Node d.Cmd.Mode d.Cmd.Key,k3y k a1 U a3 V ab al D f B G o ak I g s.length j J p C.length q K,k3e g s.length j,k2s p C.length q,.ext (arrX j6 f F an),mx o x A])
 refine ⟨λ_=>(e.sx [0,1,2,5,6,9,10] (ra 1 13)),?_⟩
 refine anp [15,16,17] [0,1,5,84] b (e.sx [0,1,2,5,6,9,10] (ra 1 13)) λa b=>kM ?_
 obtain ⟨bI,e⟩:=e.foldI (ck:=jR) (fs:=jP) ab (aM,aO) W [1,2] [0,3,4,5,6,7,8,9,10] (ra 3 4) dc kr kr
 obtain ⟨bJ,e⟩:=e.foldI (ck:=kV) (fs:=kT) al (aY,aZ,a0,aH) ao [1,2,3] [0,4,5,6,7,8,9] [1,2] dc kr kr
 cases S
 exact ⟨_,bI,bJ,b.kp [0,1,5,84],e.sp [2,3,4,5,1,0,6,7] (ra 7 7),trivial⟩
 refine jO [0,1,2,5] [0,1,5,69,72] (L':=[k2g k,k2a l,k2d u,(69,pt k 12),(72,vi l)]) (listed':=(mU 18 39)) (fuel:=14) b hX kr (by intro c a w t v h; cases t<;>exact h) kr rfl λa b=>atk 3 (some 70) b hX rfl (vld 4 4 0) λa b=>ago 4 b rfl (wcS 2 [3,4,0,1,2,5,6,7,8,9,10] b e (λe=>pE N W aM aO ab (e.sbK (ra 2 4)) be) ?_)
 rintro _ κ w a ⟨rfl,h2⟩ b hB
 have e:=hB _ _ h2
 refine ⟨λ_=>(e.sx [2,0,1,5,6,9,10] (ra 1 13)),?_⟩
 refine ago 6 b rfl (kR b kr (v:=vb bu) (pA (t:=jN) (E:=4) (n:=4) (m:=4) rfl kr rfl bf (e.get 0 rfl) rfl rfl kr kr kr _) λa b=>⟨λ_=>(e.sx [2,0,1,5,6,9,10] (ra 1 13)),?_⟩)
 refine anp [7] [0,1,5,74] b (e.sx [2,0,1,5,6,9,10] (ra 1 13)) λa b=>?_
 have b:=b.boolv 74 kr aT
 refine anp (ra 8 10) [0,1,5,84] b (e.sx [2,0,1,5,6,9,10] (ra 1 13)) λa b=>kM ?_
 obtain ⟨bK,e⟩:=e.foldI (ck:=jR) (fs:=jP) ab (aM,aO) W [0,1] (ra 2 9) (ra 3 4) dc kr kr
 obtain ⟨bL,e⟩:=e.foldI (ck:=kV) (fs:=kT) al (aY,aZ,a0,aH) ao [1,2,3] [0,4,5,6,7,8,9] [1,2] dc kr kr
 cases S
 exact ⟨_,bK,bL,b.kp [0,1,5,84],e.sp [2,3,4,5,1,0,6,7] (ra 7 7),trivial⟩
 rintro a w ⟨κ,ax,ay,b,e,-⟩
 refine cK _ _ (bc b H (λhb H=>?_) λhb H=>?_)
 refine rgS e [8] ?_
 have e:=e.drew
 have hX:=e.fx
 refine anp [0,1,2,5,6] [86,87,91] b hX λa b=>atk 3 (some 88) b hX rfl (vld 0 2 0) λa b=>jO [4] [86,89,91] (L':=[(86,vi l),(89,vi (i64.wrap d.N)),(91,pt k 20)]) (listed':=(mU 9 127)) (fuel:=2) b hX kr (by intro c a w t v h; cases t<;>exact h) kr rfl λa b=>bd H λcW bg H=>atk 7 (some 92) b (e.sx [0,1,4,5,6,7] (rg 7)) rfl (λw _=>lU (E:=3) (sz:=1) (n:=4) rfl rfl (i:=l) rfl (m1 bg (e.get 1 rfl)) kr kr w) λa b=>ago 8 b rfl (lM (t:=(fInt .i64)) (y:=i64.wrap d.N) (v:=vi (i64.wrap d.N)) b e kr 1 8 (s':=[si a1,(1,U),si a3,(9,V),k34 ab,k34 al,(2,D),k3l f,ei 4 (set B (toNat l) (i64.wrap d.N)),(7,G),sm o,su ak,(4,I),sl g s.length j,(4,J),sl p C.length q,(1,K)]) (C':=[k3v u d.Kind d.Id d.N d.TS d.Lo d.Hi O (d.Vers).length P Q (d.Vec).length R d.Cmd.Kind d.Cmd.DC d.Cmd.Shard d.Cmd.Node d.Cmd.Mode d.Cmd.Key,k3y k a1 U a3 V ab al D f (set B (toNat l) (i64.wrap d.N)) G o ak I g s.length j J p C.length q K,k3e g s.length j,k2s p C.length q,k3s ab ax W,k3m al ay ao,.ext (arrX j6 f F an),mx o x A]) rfl rfl kr rfl rfl bg rfl rfl kr kr kr kr λa w b e=>?_)
 have e:=e.add (m:=ml (set B (toNat l) (i64.wrap d.N)) 4) (List.length_set.trans (e.get 1 rfl))
 refine ⟨notE,?_⟩
 refine kM ?_
 cases H
 exact j7 b e (mI Tryz.results32) ⟨(some ab),ax,(some al),ay,f,F,o,x,A,g,j,p,q,rfl,e.sp (ra 1 7) [1,0,3,4,5]⟩
 refine sk ?_
 cases H
 exact j7 b e (mI Tryz.results32) ⟨(some ab),ax,(some al),ay,f,F,o,x,A,g,j,p,q,rfl,e.sp (ra 1 7) (rg 5)⟩
 refine qr λ_ b6=>wp 2 [0,5,93] b λa b=>b6 _ _ (bc b H (λhb H=>?_) λhb H=>?_)
 refine qs λ_ b7=>qr λ_ b8=>bd H λb9 az H=>kA (λa w => ∃κ:Gh,Fr (144) [] [k2g k,k2d u,(107,vb b9)] a∧SS Ms κ0 w0 κ w (k1d u d.Kind d.Id d.N d.TS d.Lo d.Hi O (d.Vers).length P Q (d.Vec).length R d.Cmd.Kind d.Cmd.DC d.Cmd.Shard d.Cmd.Node d.Cmd.Mode d.Cmd.Key k a1 U a3 V Y Z D f B G o ak I g s.length j J p C.length q K X a5 L a8 (arrX j6 f F an) x A) (k1b (ml f 4) (ml B 4) o x A ar g j s p q C O P d.Vers Q R d.Vec)∧True) ?_ ?_
 refine wp 3 [0,5,97] b λa b=>wc (wld b e 1 2 0 λa b=>wp 2 [0,5,100] b λa b=>bs az (λhb az=>?_) λhb az=>?_)
 have b:=b.bv 100 hb
 refine wp 7 [0,5,107] b λa b=>nl ?_
 cases az
 exact ⟨_,b.kp [0,5,107],e.sp (rg 8) (rg 7),trivial⟩
 have b:=b.bv 100 hb
 refine wp 3 [0,5,100,103] b λa b=>wcg b (wld b e 1 13 0 λa b=>wp 3 [0,5,107] b λa b=>nl ?_)
 cases az
 exact ⟨_,b.kp [0,5,107],e.sp (rg 8) (rg 7),trivial⟩
 rintro a w ⟨κ,b,e,-⟩
 refine b8 _ _ (bc b H (λhb H=>?_) λhb H=>?_)
 refine rt ?_
 cases H
 exact j7 b e (mI Tryz.results32) ⟨Y,X,Z,L,f,F,o,x,A,g,j,p,q,rfl,e.sp (ra 1 7) (rg 5)⟩
 refine sk (b7 _ _ (qr λ_ ca=>wp 1 [0,5,108] b λa b=>wc (wld b e 0 2 0 λa b=>wp 1 [0,5,110] b λa b=>ca _ _ (bc b H (λhb H=>?_) λhb H=>?_))))
 refine qs λ_ cb=>rga (λ_=>True) [] ?_
 have e:=e.drew
 refine anp [0,1,2,3,6] [0,5,111,114,117] b trivial λa b=>mG e [11] (atk 4 (some 115) b (e.sx [0,1,4,5,6,7] (rg 7)) rfl (vld 1 0 0) λa b=>anp [5] [0,5,111,116,117] b (e.sx [0,1,4,5,6,7] (rg 7)) λa b=>atk 7 (some 118) b (e.sx [0,1,4,5,6,7] (rg 7)) rfl (vld 0 6 0) λa b=>ago 8 b rfl (bd H λaq bM H=>jS b e kr kr (oG N e.fresh d.Vers O P ((e.pick [5] kr).ro) bM) ?_))
 rintro _ κ w a ⟨aI,aJ,rfl,hR,hN⟩ b e hO
 have e:=e.adds hR
 have e:=e.addC hO hN
 refine ⟨λ_=>(e.sx [1,2,5,6,7,8] (ra 1 7)),?_⟩
 refine jO [9] [0,5,111,116,120] (L':=[k2g k,k2d u,(111,pt k 0),(116,.agg (flat [si a1,si 0,si 0,sl none 0 0]).toArray),(120,.agg (flat [si 0,sl aI aq.length aJ]).toArray)]) (listed':=(mU 12 1023)) (fuel:=2) b (e.sx [1,2,5,6,7,8] (ra 1 7)) kr (by intro c a w t v h; cases t<;>exact h) kr rfl λa b=>ago 10 b rfl (uB (t:=lP) (y:=(jJ.mk 0 aq)) (v := .agg (flat [si 0,sl aI aq.length aJ]).toArray) (z := .agg (flat k0m).toArray) (cells:=(flat [si 0,sl aI aq.length aJ]).toArray) (E:=141) b e kr rfl kr ⟨(aI,aJ),rfl,(e.pick [0] kr).ro⟩ kr kr kr kr kr λbw κ a w b e=>?_)
 refine ⟨λ_=>(e.sx [2,3,6,7,8,9] (ra 2 7)),?_⟩
 refine ago 11 b rfl (bd H λaD bN H=>?_)
 have bh:=e.segs 3 rfl
 refine wcS 3 [3,5,9,0,1,2,4,6,7,8] b e (λe=>uY N a1 ar ak C (jB.mk a1 0 0 ([]:List ByteArray)) [(jJ.mk 0 aq)] (flat [(1,U),si a3,(9,V),sp Y,sp Z,(2,D),k3l f,ei 4 B,(7,G)]) o x A (flat [(4,I),sl g s.length j,(4,J)]) p q K bw 1 k ((e.regr 0 [(false,1),(true,9),(false,2),(true,3),(false,2)] rfl).sbK [4,6,0]) bN) ?_
 rintro _ κ w a ⟨aE,bx,bz,bA,bB,rfl,h2⟩ b hB
 have e:=(hB _ _ h2).unregrK 0 [(false,1),(true,9),(false,2),(true,3),(false,2)] (s':=[si a1,(1,U),si a3,(9,V),sp Y,sp Z,(2,D),k3l f,ei 4 B,(7,G),sm aE,su aD.2.1,(4,I),sl g s.length j,(4,J),sl bA (aD.2.2).length bB,(1,K)]) bh rfl
 refine ⟨notE,?_⟩
 refine kM (cb _ _ (rl (wp 2 [123,124] b λa b=>wc (wld b e 5 1 0 λa b=>wp 1 [123,126] b λa b=>?_))))
 have e:=e.add (m:=Ro.mp jF.ty none 0 ([]:List jC)) (Ro.nil jF.ty _ _)
 have e:=e.add (m:=Ro.mp (fInt .u64).ty none 0 ([]:List Int)) (Ro.nil (fInt .u64).ty _ _)
 refine bd H λba bO H=>?_
 have bi:=e.segs 0 rfl
 refine wc (wcS 2 (rg 10) b e (λe=>lK N a1 aD.2.2 0 (jK.mk 9 0 0 d.Id empty empty ([]:List jC) ([]:List Int) (jT.mk 0 0 0 0 0 empty)) (flat [(1,U),si a3,(9,V),sp Y,sp Z,(2,D),k3l f,ei 4 B,(7,G),sm aE,su aD.2.1,(4,I),sl g s.length j,(4,J)]) bA bB K none 0 none 0 k ((e.regr 0 [(false,1),(true,14),(false,2)] rfl).sbK [3,1,0]) bO) ?_)
 rintro _ κ w a ⟨aU,aV,rfl,h2⟩ b hB
 have e:=((hB _ _ h2).unregrK 0 [(false,1),(true,14),(false,2)] (s':=[si a1,(1,U),si a3,(9,V),sp Y,sp Z,(2,D),k3l f,ei 4 B,(7,G),sm aE,su aD.2.1,(4,I),sl g s.length j,(4,J),sl aU ba.length aV,(1,K)]) bi rfl).cC (C':=[.box k 87 [si a1,(1,U),si a3,(9,V),sp Y,sp Z,(2,D),k3l f,ei 4 B,(7,G),sm aE,su aD.2.1,(4,I),sl g s.length j,(4,J),sl aU ba.length aV,(1,K)],k2s aU ba.length aV,mx aE bx bz,.tok bw 141 2 ([(jJ.mk 0 aq)]).length 1,k38 aI aq.length aJ,k3v u d.Kind d.Id d.N d.TS d.Lo d.Hi O (d.Vers).length P Q (d.Vec).length R d.Cmd.Kind d.Cmd.DC d.Cmd.Shard d.Cmd.Node d.Cmd.Mode d.Cmd.Key,k3e g s.length j,k2c Y X a5,k3f Z L a8,.ext (arrX j6 f F an)])
 refine nl ?_
 cases H
 exact j7 b e (mI Tryz.results32) ⟨Y,X,Z,L,f,F,aE,bx,bz,g,j,aU,aV,rfl,e.sp [0,6,1,7,8,9,2] [7,8,3,10,0]⟩
 refine qr λ_ cc=>bd H λcd aj H=>kA (λa w => ∃κ:Gh,Fr (144) [] [k2g k,k2d u,(137,vb cd)] a∧SS Ms κ0 w0 κ w (k1d u d.Kind d.Id d.N d.TS d.Lo d.Hi O (d.Vers).length P Q (d.Vec).length R d.Cmd.Kind d.Cmd.DC d.Cmd.Shard d.Cmd.Node d.Cmd.Mode d.Cmd.Key k a1 U a3 V Y Z D f B G o ak I g s.length j J p C.length q K X a5 L a8 (arrX j6 f F an) x A) (k1b (ml f 4) (ml B 4) o x A ar g j s p q C O P d.Vers Q R d.Vec)∧True) ?_ ?_
 refine wp 1 [0,5,128] b λa b=>wc (wld b e 0 7 0 λa b=>wp 3 [0,5,132] b λa b=>bs aj (λhb aj=>?_) λhb aj=>?_)
 have b:=b.bv 132 hb
 refine wp 1 [0,5,132,133] b λa b=>wcg b (wld b e 0 7 0 λa b=>bd aj λcX bP aj=>wcg b (jS b e kr kr (uT N e.fresh d.Vec Q R ((e.pick [6] kr).ro) bP) ?_))
 rintro _ κ w a ⟨rfl,hR,hN⟩ b e hO
 refine wp 2 [0,5,137] b λa b=>nl ?_
 cases aj
 exact ⟨_,b.kp [0,5,137],e.sp (rg 8) (rg 7),trivial⟩
 have b:=b.bv 132 hb
 refine wp 5 [0,5,137] b λa b=>nl ?_
 cases aj
 exact ⟨_,b.kp [0,5,137],e.sp (rg 8) (rg 7),trivial⟩
 rintro a w ⟨κ,b,e,-⟩
 refine cc _ _ (bc b H (λhb H=>?_) λhb H=>?_)
 refine rl (jG (L':=[(138,pt k 0),(139,pt u 7)]) 2 [138,139] b kr λa b=>wc (wld b e 0 7 0 λa b=>?_))
 have e:=e.add (m:=Ro.mp (fInt .u64).ty none 0 ([]:List Int)) (Ro.nil (fInt .u64).ty _ _)
 have e:=e.addNil 32 1
 refine bd H λce bQ H=>wc (kI (ty:=(fInt .u64).ty) b e kr 0 0 7 rfl rfl rfl kr kr rfl rfl rfl bQ kr (i:=Tryz.t32) (z:=vu 0) kr kr kr λbC bD κ a w b e=>wp 2 [141,143] b λa b=>wc (wst b e 2 13 1 [sl bC ce.length bD] (sgN 1 jE) λa w b e=>nl ?_))
 cases H
 exact j7 b e (mI Tryz.results32) ⟨Y,X,Z,L,f,F,o,x,A,bC,bD,p,q,rfl,e.sp [2,0,4,5,6,7,8] [2,3,4,0,6]⟩
 refine sk ?_
 cases H
 exact j7 b e (mI Tryz.results32) ⟨Y,X,Z,L,f,F,o,x,A,g,j,p,q,rfl,e.sp (ra 1 7) (rg 5)⟩
 refine sk ?_
 cases H
 exact j7 b e (mI Tryz.results32) ⟨Y,X,Z,L,f,F,o,x,A,g,j,p,q,rfl,e.sp (ra 1 7) (rg 5)⟩
theorem AC (N){P}{Q}{O}(B)(a3)(z)(C)(f:(List Int))(o:(List i9))(b:jK)(s)(p4)(aU)(g)(e)(h)(t)(u)(i)(l)(n)(p)(q)(j)(U:SB P Q O [k3z j B s p4 z C g f.length e h t o.length u i,k3e g f.length e,k2s t o.length u,k2y p4 aU a3] (k1e g e f t u o l n b.Vers p q b.Vec)){r}(H:M.sV N B a3 z C f o b=some r) :
    Calls Tryz.prog 74 #[pt j 0,.agg (flat (k07 b.Kind b.Id b.N b.TS b.Lo b.Hi l (b.Vers).length n p (b.Vec).length q b.Cmd.Kind b.Cmd.DC b.Cmd.Shard b.Cmd.Node b.Cmd.Mode b.Cmd.Key)).toArray] O (kQ P Q O λv κ w => ∃av aF aa ab ad ae,v = .tuple #[]∧SS P Q O κ w [k3z j B s av z r.2.1 aa (r.2.2.1).length ab h ad (r.2.2.2).length ae i,k3e aa (r.2.2.1).length ab,k2s ad (r.2.2.2).length ae,k2y av aF r.1] [k2v aa ab r.2.2.1,k2t ad ae r.2.2.2]):=by
 have d:=U.hS
 have bi:=d.fresh
 refine enL [k2g j,(1,.agg (flat [si b.Kind,su b.Id,su b.N,su b.TS,sg b.Lo,sg b.Hi,sl l (b.Vers).length n,sl p (b.Vec).length q,si b.Cmd.Kind,si b.Cmd.DC,si b.Cmd.Shard,si b.Cmd.Node,si b.Cmd.Mode,sg b.Cmd.Key]).toArray)] Tryz.func74 rfl Tryz.ntmps74 λa c=>?_
 unfold M.sV at H
 refine qr λ_ aV=>wc (wbx c d (k07 b.Kind b.Id b.N b.TS b.Lo b.Hi l (b.Vers).length n p (b.Vec).length q b.Cmd.Kind b.Cmd.DC b.Cmd.Shard b.Cmd.Node b.Cmd.Mode b.Cmd.Key) (sgN 14 jE) λA a w c d=>aV _ _ (m9 (λa w => ∃κ x D R,∃E:List i9,∃F G,Fr (111) [] [k2g j,k25 A] a∧SS P Q O κ w [k3z j B s x z C g f.length e h F E.length G i,k3v A b.Kind b.Id b.N b.TS b.Lo b.Hi l (b.Vers).length n p (b.Vec).length q b.Cmd.Kind b.Cmd.DC b.Cmd.Shard b.Cmd.Node b.Cmd.Mode b.Cmd.Key,k2s F E.length G,k3e g f.length e,k2y x D R] (k1e g e f F G E l n b.Vers p q b.Vec)∧M.pK N B z C f b R E=some r) ?_ ?_))
 refine qs λ_ aW=>bd H λaf y H=>kJ (λa w => ∃κ X V,Fr (111) [] [k2g j,k25 A,(24,vb af.2)] a∧SS P Q O κ w [k3v A b.Kind b.Id b.N b.TS b.Lo b.Hi l (b.Vers).length n p (b.Vec).length q b.Cmd.Kind b.Cmd.DC b.Cmd.Shard b.Cmd.Node b.Cmd.Mode b.Cmd.Key,k3z j B s X z C g f.length e h t o.length u i,k3e g f.length e,k2s t o.length u,k2y X V af.1] (k1e g e f t u o l n b.Vers p q b.Vec)∧True) ?_ ?_
 refine kU y (λho y=>?_) (λah ho y=>?_)
 obtain ⟨I,d⟩:=d.optN 4 rfl ho
 rw [I] at d
 try rw [I] at c
 refine rl (bd y λbj J y=>kA (λa w => ∃κ:Gh,Fr (111) [] [k2g j,k25 A,(24,vb false)] a∧SS P Q O κ w [k3v A b.Kind b.Id b.N b.TS b.Lo b.Hi l (b.Vers).length n p (b.Vec).length q b.Cmd.Kind b.Cmd.DC b.Cmd.Shard b.Cmd.Node b.Cmd.Mode b.Cmd.Key,.box j 87 [si B,(32,s),k3o,si z,si C,sl g f.length e,(5,h),sl t o.length u,(1,i)],k3e g f.length e,k2s t o.length u] (k1e g e f t u o l n b.Vers p q b.Vec)∧True) ?_ ?_)
 refine wp 1 [0,3,5] c λa c=>wc (wld c d 0 2 0 λa c=>wp 2 [0,3,8] c λa c=>bs J (λhb J=>?_) λhb J=>?_)
 have c:=c.bv 8 hb
 refine wp 3 [0,3,8,11] c λa c=>wcg c (wld c d 1 2 0 λa c=>wp 12 [0,3,24] c λa c=>nl ?_)
 cases J
 exact ⟨_,c.kp [0,3,24],d.sp (rg 4) (rg 4),trivial⟩
 have c:=c.bv 8 hb
 refine wp 16 [0,3,24] c λa c=>nl ?_
 cases J
 exact ⟨_,c.kp [0,3,24],d.sp (rg 4) (rg 4),trivial⟩
 rintro a w ⟨κ,c,d,-⟩
 cases y
 have d:=d.addOpt o_gate_move
 exact ⟨_,none,[],c.kp [0,3,24],d.sp [1,2,3,4,0] (rg 4),trivial⟩
 obtain ⟨S,I,d⟩:=d.optS 4 rfl ho
 rw [I] at d
 try rw [I] at c
 obtain ⟨_,d⟩:=d.unfI (ck:=l8) (fs:=l6) 4 rfl
 refine rl (bd y λaX K y=>kA (λa w => ∃κ W,Fr (111) [] [k2g j,k25 A,(24,vb aX)] a∧SS P Q O κ w [k3v A b.Kind b.Id b.N b.TS b.Lo b.Hi l (b.Vers).length n p (b.Vec).length q b.Cmd.Kind b.Cmd.DC b.Cmd.Shard b.Cmd.Node b.Cmd.Mode b.Cmd.Key,.box j 87 [si B,(32,s),k34 S,si z,si C,sl g f.length e,(5,h),sl t o.length u,(1,i)],k3e g f.length e,k2s t o.length u,k3x S W ah] (k1e g e f t u o l n b.Vers p q b.Vec)∧True) ?_ ?_)
 refine wp 1 [0,3,5] c λa c=>wc (wld c d 1 2 0 λa c=>wp 2 [0,3,8] c λa c=>bs K (λhb K=>?_) λhb K=>?_)
 have c:=c.bv 8 hb
 refine wp 3 [0,3,8,11] c λa c=>wcg c (wld c d 2 2 0 λa c=>wp 6 [0,3,15,18] c λa c=>wcg c (wld c d 2 2 0 λa c=>wp 2 [0,3,15,21] c λa c=>wcg c (wld c d 0 5 0 λa c=>wp 2 [0,3,24] c λa c=>?_)))
 obtain ⟨aG,d⟩:=d.foldI (ck:=l8) (fs:=l6) S () ah [0] (ra 1 4) [] dc kr kr
 refine nl ?_
 cases K
 exact ⟨_,aG,c.kp [0,3,24],d.sp [1,2,3,4,0] (rg 4),trivial⟩
 have c:=c.bv 8 hb
 refine wp 16 [0,3,24] c λa c=>?_
 obtain ⟨aH,d⟩:=d.foldI (ck:=l8) (fs:=l6) S () ah [0] (ra 1 4) [] dc kr kr
 refine nl ?_
 cases K
 exact ⟨_,aH,c.kp [0,3,24],d.sp [1,2,3,4,0] (rg 4),trivial⟩
 rintro a w ⟨κ,W,c,d,-⟩
 cases y
 exact ⟨_,(some S),W,c.kp [0,3,24],d.sp (rg 5) (rg 4),trivial⟩
 rintro a w ⟨κ,X,V,c,d,-⟩
 refine aW _ _ (bc c H (λhb H=>?_) λhb H=>?_)
 refine qs λ_ aY=>bd H λk ho H=>?_
 obtain ⟨T,I,d⟩:=d.optS 4 rfl ho
 rw [I] at d
 try rw [I] at c
 obtain ⟨_,d⟩:=d.unfI (ck:=l8) (fs:=l6) 4 rfl
 refine rl (wp 3 [0,3,27] c λa c=>wc (wld c d 2 2 0 λa c=>wp 2 [0,3,30] c λa c=>wc (wst c d 0 5 1 [si 2] (sgN 1 jE) λa w c d=>nl ?_)))
 obtain ⟨bh,d⟩:=d.foldI (ck:=l8) (fs:=l6) T () (j8.mk k.span k.shard k.to 2) [0] (ra 1 4) [] dc kr kr
 refine aY _ _ ?_
 obtain ⟨_,d⟩:=d.unfI (ck:=l8) (fs:=l6) 0 rfl
 refine rga (λ_=>True) [] ?_
 have d:=d.drew
 refine anp [0,1,2,3,8,10,12,13,14,20,21,22,28] [0,3,31,34,39,41,45,53,59] c trivial λa c=>mG d [32] (atk 4 (some 35) c (d.sx [0,1,2] (rg 4)) rfl (vld 2 2 0) λa c=>anp [5,6] [0,3,31,37,39,41,45,53,59] c (d.sx [0,1,2] (rg 4)) λa c=>atk 7 (some 38) c (d.sx [0,1,2] (rg 4)) rfl (vld 0 4 0) λa c=>atk 9 (some 40) c (d.sx [0,1,2] (rg 4)) rfl (vld 1 1 0) λa c=>atk 11 (some 42) c (d.sx [0,1,2] (rg 4)) rfl (vld 1 3 0) λa c=>atk 15 (some 46) c (d.sx [0,1,2] (rg 4)) rfl (vld 2 2 0) λa c=>anp [16,17,18] [0,3,31,38,40,42,49,53,59] c (d.sx [0,1,2] (rg 4)) λa c=>?_)
 refine atk 19 (some 50) c (d.sx [0,1,2] (rg 4)) rfl (vld 0 0 0) λa c=>atk 23 (some 54) c (d.sx [0,1,2] (rg 4)) rfl (vld 2 2 0) λa c=>anp [24,25,26] [0,3,31,38,40,42,50,57,59] c (d.sx [0,1,2] (rg 4)) λa c=>atk 27 (some 58) c (d.sx [0,1,2] (rg 4)) rfl (vld 0 1 0) λa c=>atk 29 (some 60) c (d.sx [0,1,2] (rg 4)) rfl (vld 1 6 0) λa c=>ago 30 c rfl (bd H λaZ aI H=>jS c d kr kr (oG N d.fresh b.Vers l n ((d.pick [2] kr).ro) aI) ?_)
 rintro _ κ w a ⟨a0,a2,rfl,hR,hN⟩ c d hO
 have d:=d.adds hR
 have d:=d.addC hO hN
 refine ⟨λ_=>(d.sx [1,2,3] (ra 1 4)),?_⟩
 refine anp [31] [0,3,31,38,62] c (d.sx [1,2,3] (ra 1 4)) λa c=>ago 32 c rfl ?_
 have d:=d.add (m:=Ro.mp (fInt .u64).ty none 0 ([]:List Int)) (Ro.nil (fInt .u64).ty _ _)
 refine bd H λaw aJ H=>?_
 have ai:=d.segs 3 rfl
 refine wcS 2 [3,5,0,1,2,4] c d (λd=>lK N B o ((j8.mk k.span k.shard k.to 2).to) (jK.mk 6 b.Id 0 b.TS (((j8.mk k.span k.shard k.to 2).span).Lo) (((j8.mk k.span k.shard k.to 2).span).Hi) aZ ([]:List Int) (jT.mk 0 0 0 0 0 empty)) (flat [(32,s),k34 T,si z,si C,sl g f.length e,(5,h)]) t u i a0 a2 none 0 j ((d.regr 0 [(false,1),(true,6),(false,2)] rfl).sbK [3,1,0]) aJ) ?_
 rintro _ κ w a ⟨ax,ay,rfl,h2⟩ c U
 have d:=(U _ _ h2).unregrK 0 [(false,1),(true,6),(false,2)] (s':=[si B,(32,s),k34 T,si z,si C,sl g f.length e,(5,h),sl ax aw.length ay,(1,i)]) ai rfl
 refine ⟨notE,?_⟩
 refine kM ?_
 obtain ⟨aL,d⟩:=d.foldI (ck:=l8) (fs:=l6) T () (j8.mk k.span k.shard k.to 2) [3] [0,1,2,4,5] [] dc kr kr
 exact ⟨_,(some T),aL,(some (j8.mk k.span k.shard k.to 2)),aw,ax,ay,c.kp [0,3],d.sp [1,4,2,5,0] [3,0,5,6],H⟩
 refine sk ?_
 exact ⟨_,X,V,af.1,o,t,u,c.kp [0,3],d.sp [1,0,3,2,4] (rg 4),H⟩
 rintro a w ⟨κ,x,D,R,E,F,G,c,d,H⟩
 unfold M.pK at H
 refine qr λ_ a4=>bd H λa5 L H=>kA (λa w => ∃κ:Gh,Fr (111) [] [k2g j,k25 A,(73,vb a5)] a∧SS P Q O κ w [k3z j B s x z C g f.length e h F E.length G i,k3v A b.Kind b.Id b.N b.TS b.Lo b.Hi l (b.Vers).length n p (b.Vec).length q b.Cmd.Kind b.Cmd.DC b.Cmd.Shard b.Cmd.Node b.Cmd.Mode b.Cmd.Key,k2s F E.length G,k3e g f.length e,k2y x D R] (k1e g e f F G E l n b.Vers p q b.Vec)∧True) ?_ ?_
 refine wp 1 [0,3,64] c λa c=>wc (wld c d 1 2 0 λa c=>wp 2 [0,3,67] c λa c=>bs L (λhb L=>?_) λhb L=>?_)
 have c:=c.bv 67 hb
 refine wp 3 [0,3,67,70] c λa c=>wcg c (wld c d 0 4 0 λa c=>wp 2 [0,3,73] c λa c=>nl ?_)
 cases L
 exact ⟨_,c.kp [0,3,73],d.sp (rg 5) (rg 4),trivial⟩
 have c:=c.bv 67 hb
 refine wp 6 [0,3,73] c λa c=>nl ?_
 cases L
 exact ⟨_,c.kp [0,3,73],d.sp (rg 5) (rg 4),trivial⟩
 rintro a w ⟨κ,c,d,-⟩
 refine a4 _ _ (bc c H (λhb H=>?_) λhb H=>?_)
 refine qr λ_ a9=>wp 3 [0,3,76] c λa c=>wc (wld c d 0 3 0 λa c=>bd H λaz aM H=>wc (jS c d kr kr (uV N d.fresh z (-1) ((d.pick [] kr).ro) aM) ?_))
 rintro _ κ w a ⟨rfl,hR,hN⟩ c d hO
 refine wp 1 [0,3,4] c λa c=>a9 _ _ (qs λ_ ba=>rgX d [1,4] ?_)
 have d:=d.drew
 have hX:=d.px [1,4]
 refine anp [0,1,2,4] [0,4,79,80,81,83] c hX λa c=>atk 3 (some 82) c hX rfl (vld 0 1 0) λa c=>atk 5 (some 84) c hX rfl (vld 0 6 0) λa c=>ago 6 c rfl (bd H λaA aP H=>jS c d kr kr (oG N d.fresh b.Vers l n ((d.pick [2] kr).ro) aP) ?_)
 rintro _ κ w a ⟨aB,aD,rfl,hR,hN⟩ c d hO
 have d:=d.adds hR
 have d:=d.addC hO hN
 refine ⟨λ_=>(d.sx [2,5] (ra 1 4)),?_⟩
 refine anp [7] [0,4,79,80,86] c (d.sx [2,5] (ra 1 4)) λa c=>ago 8 c rfl ?_
 have d:=d.add (m:=Ro.mp (fInt .u64).ty none 0 ([]:List Int)) (Ro.nil (fInt .u64).ty _ _)
 refine bd H λaE aQ H=>?_
 have ak:=d.segs 1 rfl
 refine wcS 2 [1,3,0,2,4,5] c d (λd=>oE N E az (jK.mk 19 b.Id 0 0 empty empty aA ([]:List Int) (jT.mk 0 0 0 0 0 empty)) (flat [si B,(32,s),sp x,si z,si C,sl g f.length e,(5,h)]) F G i aB aD none 0 j ((d.regr 0 [(true,7),(false,2)] rfl).sbK [3,1,0]) aQ) ?_
 rintro _ κ w a ⟨al,am,rfl,h2⟩ c U
 have d:=(U _ _ h2).unregrK 0 [(true,7),(false,2)] (s':=[si B,(32,s),sp x,si z,si C,sl g f.length e,(5,h),sl al aE.length am,(1,i)]) ak rfl
 refine ⟨λ_=>(d.sx [3,5] (ra 3 4)),?_⟩
 refine kM (ba _ _ (qr λ_ be=>wp 3 [0,4,88,90] c λa c=>wc (wld c d 0 4 0 λa c=>wp 3 [0,4,92,94] c λa c=>wc (wst c d 0 4 1 [si (i64.wrap (C-1))] (sgN 1 jE) λa w c d=>be _ _ (qr λ_ bf=>wp 3 [0,4,97] c λa c=>wc (wld c d 0 4 0 λa c=>wp 1 [0,4,99] c λa c=>bf _ _ (bc c H (λhb H=>?_) λhb H=>?_)))))))
 refine qr λ_ bg=>wp 5 [0,100,101,104] c λa c=>wc (wld c d 0 5 0 λa c=>wp 1 [0,100,101,106] c λa c=>?_)
 have d:=d.add (m:=Ro.mp jF.ty none 0 ([]:List jC)) (Ro.nil jF.ty _ _)
 refine bd H λan aR H=>?_
 have ao:=d.segs 0 rfl
 refine wc (wcS 2 (rg 6) c d (λd=>oE N aE az (jK.mk 19 0 1 0 empty empty ([]:List jC) f (jT.mk 0 0 0 0 0 empty)) (flat [si B,(32,s),sp x,si z,si (i64.wrap (C-1)),sl g f.length e,(5,h)]) al am i none 0 g e j ((d.regr 0 [(true,7),(false,2)] rfl).sbK [1,0,4]) aR) ?_)
 rintro _ κ w a ⟨Y,Z,rfl,h2⟩ c U
 have d:=((U _ _ h2).unregrK 0 [(true,7),(false,2)] (s':=[si B,(32,s),sp x,si z,si (i64.wrap (C-1)),sl g f.length e,(5,h),sl Y an.length Z,(1,i)]) ao rfl).cC (C':=[k3z j B s x z (i64.wrap (C-1)) g f.length e h Y an.length Z i,k2s Y an.length Z,k38 aB aA.length aD,k3v A b.Kind b.Id b.N b.TS b.Lo b.Hi l (b.Vers).length n p (b.Vec).length q b.Cmd.Kind b.Cmd.DC b.Cmd.Shard b.Cmd.Node b.Cmd.Mode b.Cmd.Key,k3e g f.length e,k2y x D R])
 refine bg _ _ (rl (wp 3 [110] c λa c=>wc (wst c d 0 5 1 [k2j] (sgN 1 jE) λa w c d=>nl ?_)))
 have d:=d.addNil 32 1
 cases H
 exact j7 c d (mI Tryz.results74) ⟨x,D,none,0,Y,Z,rfl,d.sp [1,0,2,6] [3,0]⟩
 refine sk ?_
 cases H
 exact j7 c d (mI Tryz.results74) ⟨x,D,g,e,al,am,rfl,d.sp [0,4,1,5] [3,0]⟩
 refine sk ?_
 cases H
 exact j7 c d (mI Tryz.results74) ⟨x,D,g,e,F,G,rfl,d.sp [0,3,2,4] [0,1]⟩
end Go.Cf
