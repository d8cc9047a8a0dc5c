/- The walks: each function returns what its model says. Printed by a program of ours. -/
import Derived.Test.YtcplebnnanjngaaGreatZSh
import Derived.Test.YtcplebnnanjngaaGreatZM1
import Derived.Test.YtcplebnnanjngaaGreatZWs
import Derived.Test.YtcplebnnanjngaaGreatZWp
namespace Go.Cf
open Go Go.Proofs
open _root_.Int(toNat tdiv tmod)
open _root_.List(set replicate)
open _root_.ByteArray(empty)
open Go.IntKind(i64 u64)
set_option linter.unusedVariables false
set_option maxRecDepth 20000
set_option maxHeartbeats 8000000
theorem oE (N){F}{G}{p}(m:(List i9))(l)(b:jK)(A)(q)(s)(B)(k)(f)(g)(j)(u)(L:SB F G p [.box u 87 [(42,A),sl q m.length s,(1,B)],k2s q m.length s] [k2t q s m,k2u k f b.Vers,k2v g j b.Vec]){r}(H:M.lV N m l b=some r) :
    Calls Tryz.prog 81 #[pt u 0,vi l,.agg (flat (k07 b.Kind b.Id b.N b.TS b.Lo b.Hi k (b.Vers).length f g (b.Vec).length j b.Cmd.Kind b.Cmd.DC b.Cmd.Shard b.Cmd.Node b.Cmd.Mode b.Cmd.Key)).toArray] p (kQ F G p λv κ w => ∃n o,v = .tuple #[]∧SS F G p κ w [.box u 87 [(42,A),sl n r.length o,(1,B)],k2s n r.length o] [k2t n o r]):=by
 have e:=L.hS
 have O:=e.fresh
 refine en Tryz.func81 rfl Tryz.ntmps81 λa d=>?_
 unfold M.lV at H
 refine qr λ_ J=>wc (wbx d e (k07 b.Kind b.Id b.N b.TS b.Lo b.Hi k (b.Vers).length f g (b.Vec).length j b.Cmd.Kind b.Cmd.DC b.Cmd.Shard b.Cmd.Node b.Cmd.Mode b.Cmd.Key) (sgN 14 jE) λP a w d e=>J _ _ (rgS e [12] ?_))
 have e:=e.drew
 have x:=e.fx
 refine bd H λK I H=>anp [0,1,2,3,5] [5,6,9,11] d x λa d=>atk 4 (some 10) d x rfl (vld 1 1 0) λa d=>atk 6 (some 12) d x rfl (vls 0 0 14) λa d=>jO [7] [6,10,13] (L':=[k29 u,(10,.slice q m.length s),(13,.agg (flat [si l,si b.Kind,su b.Id,su b.N,su b.TS,sg b.Lo,sg b.Hi,sl k (b.Vers).length f,sl g (b.Vec).length j,si b.Cmd.Kind,si b.Cmd.DC,si b.Cmd.Shard,si b.Cmd.Node,si b.Cmd.Mode,sg b.Cmd.Key]).toArray)]) (listed':=(mU 13 255)) (fuel:=5) d x kr (by intro c a w t v h; cases t<;>exact h) kr rfl λa d=>?_
 refine ago 8 d rfl (uB (t:=mZ) (y:=(i9.mk l b)) (v := .agg (flat [si l,si b.Kind,su b.Id,su b.N,su b.TS,sg b.Lo,sg b.Hi,sl k (b.Vers).length f,sl g (b.Vec).length j,si b.Cmd.Kind,si b.Cmd.DC,si b.Cmd.Shard,si b.Cmd.Node,si b.Cmd.Mode,sg b.Cmd.Key]).toArray) (z := .agg (flat (k08 empty)).toArray) (cells:=(flat [si l,si b.Kind,su b.Id,su b.N,su b.TS,sg b.Lo,sg b.Hi,sl k (b.Vers).length f,sl g (b.Vec).length j,si b.Cmd.Kind,si b.Cmd.DC,si b.Cmd.Shard,si b.Cmd.Node,si b.Cmd.Mode,sg b.Cmd.Key]).toArray) (E:=61) d e kr rfl kr ⟨(k,f,g,j),rfl,(e.pick [1,2] kr).ro⟩ kr kr kr kr kr λQ κ a w d e=>?_)
 refine ⟨λ_=>(e.sx [1,2] [1,2,3]),?_⟩
 refine ago 9 d rfl (kI (ty:=mZ) d e kr 3 1 0 rfl rfl rfl kr kr rfl rfl rfl I kr (i:=Tryz.t61) (z := .agg (flat (k08 empty)).toArray) kr kr kr λC D κ a w d e=>⟨λ_=>(e.sx [1,2] [2,3,4]),?_⟩)
 refine anp [10,11] [15,17] d (e.sx [1,2] [2,3,4]) λa d=>ago 12 d rfl (wst d e 2 1 1 [sl C K.length D] (sgN 1 jE) λa w d e=>⟨notE,?_⟩)
 refine kM ?_
 cases H
 exact j7 d e (mI Tryz.results81) ⟨C,D,rfl,e.sp [2,3] [0]⟩
theorem lK (N){y}{z}{p}(k)(l:(List i9))(A)(b:jK)(e)(q)(s)(f)(g)(h)(i)(j)(t)(B:SB y z p [.box t 87 [si k,(41,e),sl q l.length s,(1,f)],k2s q l.length s] [k2t q s l,k2u g h b.Vers,k2v i j b.Vec]){r}(H:M.lA N k l A b=some r) :
    Calls Tryz.prog 54 #[pt t 0,vi A,.agg (flat (k07 b.Kind b.Id b.N b.TS b.Lo b.Hi g (b.Vers).length h i (b.Vec).length j b.Cmd.Kind b.Cmd.DC b.Cmd.Shard b.Cmd.Node b.Cmd.Mode b.Cmd.Key)).toArray] p (kQ y z p λv κ w => ∃m n,v = .tuple #[]∧SS y z p κ w [.box t 87 [si k,(41,e),sl m r.length n,(1,f)],k2s m r.length n] [k2t m n r]):=by
 have c:=B.hS
 have J:=c.fresh
 refine en Tryz.func54 rfl Tryz.ntmps54 λa d=>?_
 unfold M.lA at H
 refine qr λ_ E=>wc (wbx d c (k07 b.Kind b.Id b.N b.TS b.Lo b.Hi g (b.Vers).length h i (b.Vec).length j b.Cmd.Kind b.Cmd.DC b.Cmd.Shard b.Cmd.Node b.Cmd.Mode b.Cmd.Key) (sgN 14 jE) λK a w d c=>E _ _ (rga (λ_=>True) [] ?_))
 have c:=c.drew
 refine anp [0,1,2,3,5] [5,6,9,11] d trivial λa d=>mG c [8] (atk 4 (some 10) d (c.sx [0,1] [0,1,2]) rfl (vld 1 0 0) λa d=>atk 7 (some 13) d (c.sx [0,1] [0,1,2]) rfl (vls 0 0 14) λa d=>ago 6 d rfl (bd H λF C H=>jS d c kr kr (uV N c.fresh k A ((c.pick [] kr).ro) C) ?_))
 rintro _ κ w a ⟨rfl,L,O⟩ d c P
 refine ⟨λ_=>(c.sx [0,1] [0,1,2]),?_⟩
 refine ago 8 d rfl (bd H λG D H=>?_)
 have o:=c.segs 1 rfl
 refine wcS 2 [1,2,0] d c (λc=>oE N l F b (flat [si k,(41,e)]) q s f g h i j t ((c.regr 0 [(true,2),(false,2)] rfl).sbK [0,1,2]) D) ?_
 rintro _ κ w a ⟨u,x,rfl,I⟩ d B
 have c:=(B _ _ I).unregrK 0 [(true,2),(false,2)] (s':=[si k,(41,e),sl u G.length x,(1,f)]) o rfl
 refine ⟨notE,?_⟩
 refine kM ?_
 cases H
 exact j7 d c (mI Tryz.results54) ⟨u,x,rfl,c.sp [0,1] [0]⟩
theorem wS (N){g}{h}{c}(i)(e)(f)(j)(k:SB g h c [.box j 87 [(2,e),si i,(41,f)]] []){r}(H:M.rP N i=some r) :
    Calls Tryz.prog 11 #[pt j 0] c (kQ g h c λv κ w=>v=vi r∧SS g h c κ w [.box j 87 [(2,e),si i,(41,f)]] []):=by
 have d:=k.hS
 have p:=d.fresh
 refine en Tryz.func11 rfl Tryz.ntmps11 λa b=>?_
 unfold M.rP at H
 refine qr λ_ l=>wp 1 [0] b λa b=>l _ _ (qs λ_ m=>qr λ_ n=>wp 2 [0,4] b λa b=>n _ _ (cf b rfl (sk (m _ _ (qr λ_ o=>wp 3 [7] b λa b=>wc (wld b d 0 1 0 λa b=>wp 1 [2] b λa b=>o _ _ (rt ?_)))))))
 cases H
 exact j7 b d (l3 Tryz.results11 (rvt b)) ⟨rfl,d.sp [0] []⟩
theorem vR (N){n}{o}{e}(u)(g)(x)(y)(h)(f)(p:SB n o e [.box f 87 [(12,g),sp x,(31,h)],k2c x y u] []){r}(H:M.qE N u=some r) :
    Calls Tryz.prog 10 #[pt f 0] e (kQ n o e λv κ w => ∃i q,v=vu r.1∧SS n o e κ w [.box f 87 [(12,g),sp i,(31,h)],k2c i q r.2] []):=by
 have c:=p.hS
 have E:=c.fresh
 refine en Tryz.func10 rfl Tryz.ntmps10 λa b=>?_
 unfold M.qE at H
 refine qr λ_ A=>(wp 1 [0] b λa b=>(A _ _ (qs λ_ B=>qr λ_ C=>(jG (L':=[k2g f,(4,vb false)]) 2 [0,4] b kr λa b=>C _ _ (cf b rfl (sk (B _ _ (qs λ_ z=>bd H λj ho H=>?_))))))))
 obtain ⟨d,k,c⟩:=c.optS 1 rfl ho
 rw [k] at c
 try rw [k] at b
 obtain ⟨⟨l,m⟩,c⟩:=c.unfI (ck:=jR) (fs:=jP) 1 rfl
 refine rl (wp 3 [7] b λa b=>wc (wld b c 2 1 0 λa b=>bd H λF s H=>wc (wcS 2 [0,1,2] b c (λc=>rE N j l m d (c.sbK (rg 4)) s) ?_)))
 rintro _ κ w a ⟨rfl,D⟩ b p
 have c:=p _ _ D
 refine wp 1 [2] b λa b=>nl ?_
 obtain ⟨t,c⟩:=c.foldI (ck:=jR) (fs:=jP) d (l,m) j [0,1] [2] (rg 4) dc kr kr
 refine z _ _ (rt ?_)
 cases H
 exact j7 b c (l3 Tryz.results10 (rvt b)) ⟨(some d),t,rfl,c.sp [1,0] []⟩
theorem uZ (N){n}{o}{h}(i:(List jM))(l)(j)(k)(p)(t:SB n o h [.box p 87 [(43,l),sl j i.length k],k2w j i.length k] [k2x j k i]){r}(H:M.qZ N i=some r) :
    Calls Tryz.prog 13 #[pt p 0] h (kQ n o h λv κ w => ∃d e f g,v = .slice d (r.1).length e∧SS n o h κ w [.box p 87 [(43,l),sl f (r.2).length g],k2w f (r.2).length g,k2w d (r.1).length e] [k2x d e r.1,k2x f g r.2]):=by
 have c:=t.hS
 have A:=c.fresh
 refine en Tryz.func13 rfl Tryz.ntmps13 λa b=>?_
 unfold M.qZ at H
 refine qr λ_ u=>wp 1 [0] b λa b=>u _ _ (qs λ_ x=>qr λ_ y=>wp 2 [0,5] b λa b=>y _ _ (cf b rfl (sk (x _ _ (qr λ_ z=>wp 3 [0,8] b λa b=>wc (wld b c 0 1 0 λa b=>wp 1 [0,3] b λa b=>z _ _ (qr λ_ q=>wp 3 [3,12] b λa b=>wc (wst b c 0 1 1 [k2j] (sgN 1 jE) λa w b c=>q _ _ (qr λ_ s=>wp 2 [2] b λa b=>s _ _ (rt ?_))))))))))
 have c:=c.add (m:=Ro.mp kN.ty none 0 ([]:List jM)) (Ro.nil kN.ty _ _)
 have c:=c.addNil 52 13
 cases H
 exact j7 b c (l3 Tryz.results13 (rvt b)) ⟨j,k,none,0,rfl,c.sp [1,0,2] [1,0]⟩
theorem wR (N){s}{t}{j}(i:jA)(d:jA)(k)(l)(u)(x)(y)(z)(m)(e)(f)(g)(h)(A)(D:SB s t j [.box A 87 [(6,l),sl u (i.Cuts).length x,sl y (i.Nodes).length z,(36,m)]] [k2l u x i.Cuts,k2m y z i.Nodes,k2l e f d.Cuts,k2m g h d.Nodes]){r}(H:M.rM N i d k=some r) :
    Calls Tryz.prog 59 #[pt A 0,.agg (flat (k04 e (d.Cuts).length f g (d.Nodes).length h)).toArray,vi k] j (kQ s t j λv κ w => ∃n o p q,v = .tuple #[]∧SS s t j κ w [.box A 87 [(6,l),sl n (r.Cuts).length o,sl p (r.Nodes).length q,(36,m)]] [k2l n o r.Cuts,k2m p q r.Nodes]):=by
 have c:=D.hS
 have E:=c.fresh
 refine en Tryz.func59 rfl Tryz.ntmps59 λa b=>?_
 unfold M.rM at H
 refine qr λ_ B=>wc (wbx b c (k04 e (d.Cuts).length f g (d.Nodes).length h) (sgN 2 jE) λF a w b c=>B _ _ (qr λ_ C=>wp 2 [0,4,7] b λa b=>C _ _ (bc b H (λhb H=>?_) λhb H=>?_)))
 refine rl (wp 1 [4,8] b λa b=>wc (wls b c 0 0 2 λa b=>wp 2 [9,11] b λa b=>wc (wst b c 1 1 2 (k04 e (d.Cuts).length f g (d.Nodes).length h) (sgN 2 jE) λa w b c=>nl ?_)))
 cases H
 exact j7 b c (mI Tryz.results59) ⟨e,f,g,h,rfl,c.sp [1] [2,3]⟩
 refine sk ?_
 cases H
 exact j7 b c (mI Tryz.results59) ⟨u,x,y,z,rfl,c.sp [1] [0,1]⟩
theorem qP (N){n}{o}{h}(y)(p)(i)(B)(z)(j)(k)(C:SB n o h (k09 k i B j z y) []){r}(H:M.lT N y p=some r) :
    Calls Tryz.prog 83 #[pt k 0,.string (p)] h (kQ n o h λv κ w => ∃A t,v=vb r.1∧SS n o h κ w (k09 k i A j t r.2) []):=by
 have c:=C.hS
 have F:=c.fresh
 refine en Tryz.func83 rfl Tryz.ntmps83 λa b=>?_
 unfold M.lT at H
 refine qr λ_ D=>(jG (L':=[k2g k,(1,.string (p))]) 1 [0,1] b kr λa b=>D _ _ (qs λ_ E=>bd H λq d H=>kJ (λa w => ∃κ l g,Fr (30) [] [(4,vb q.2)] a∧SS n o h κ w (k09 k i l j g q.1) []∧True) ?_ ?_))
 refine kU d (λho d=>?_) (λm ho d=>?_)
 obtain ⟨f,c⟩:=c.optN 1 rfl ho
 rw [f] at c
 try rw [f] at b
 refine rgS c [] ?_
 have c:=c.drew
 have e:=c.fx
 refine anp [0,1,2] [0,1,7] b e λa b=>atk 3 (some 8) b e rfl (vld 0 1 0) λa b=>anp (ra 4 22) [4] b e λa b=>kM ?_
 cases d
 exact ⟨_,none,[],b.kp [4],c.sp [0,1] [],trivial⟩
 obtain ⟨s,f,c⟩:=c.optS 1 rfl ho
 rw [f] at c
 try rw [f] at b
 obtain ⟨_,c⟩:=c.unfI (ck:=l8) (fs:=l6) 1 rfl
 refine rgS c [] ?_
 have c:=c.drew
 have e:=c.fx
 refine anp [0,1,2] [0,1,7] b e λa b=>atk 3 (some 8) b e rfl (vld 1 1 0) λa b=>anp [4,5,6,7,8,9,15,16,17] [10,11,14,22] b e λa b=>atk 10 (some 15) b e rfl (vld 1 1 0) λa b=>anp [11,12,13] [10,11,18,22] b e λa b=>atk 14 (some 19) b e rfl (vld 0 0 0) λa b=>atk 18 (some 23) b e rfl (vld 1 1 0) λa b=>anp [19,20,21] [10,11,19,26] b e λa b=>atk 22 (some 27) b e rfl (vld 0 1 0) λa b=>ago 23 b rfl (bd d λG u d=>jS b c kr kr (w9 N c.fresh p m.span.Lo m.span.Hi ((c.pick [] kr).ro) u) ?_)
 rintro _ κ w a ⟨rfl,I,J⟩ b c K
 refine ⟨λ_=>(c.sx [0,1] []),?_⟩
 refine anp [24,25] [4] b (c.sx [0,1] []) λa b=>kM ?_
 obtain ⟨x,c⟩:=c.foldI (ck:=l8) (fs:=l6) s () m [0] [1] [] dc kr kr
 cases d
 exact ⟨_,(some s),x,b.kp [4],c.sp [1,0] [],trivial⟩
 rintro a w ⟨κ,l,g,b,c,-⟩
 refine E _ _ (rt ?_)
 cases H
 exact j7 b c (l3 Tryz.results83 (rvt b)) ⟨l,g,rfl,c.sp [0,1] []⟩
end Go.Cf
