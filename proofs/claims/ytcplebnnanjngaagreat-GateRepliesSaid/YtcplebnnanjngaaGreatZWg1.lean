/- The walks: each function returns what its model says. Printed by a program of ours. -/
import Derived.Test.YtcplebnnanjngaaGreatZSh
import Derived.Test.YtcplebnnanjngaaGreatZM1
import Derived.Test.YtcplebnnanjngaaGreatZWs
import Derived.Test.YtcplebnnanjngaaGreatZWp
namespace Go.Cf
open Go Go.Proofs Tryz
open _root_.Int(toNat tdiv tmod)
open _root_.List(set replicate)
open _root_.ByteArray(empty)
open Go.IntKind(i64 u64)
set_option linter.unusedVariables false
set_option maxRecDepth 20000
set_option maxHeartbeats 8000000
theorem oO (N){F}{G}{p}(m:(List i9))(l)(b:jF)(A)(q)(s)(B)(k)(f)(g)(j)(u)(L:SB F G p [.box u 87 [(42,A),sl q m.length s,(1,B)],k3j q m.length s] [k3k q s m,k3l k f b.Vers,k3m g j b.Vec]){r}(H:M.lW N m l b=some r) :
    Calls Tryz.prog 81 #[pt u 0,vi l,.agg (flat (k0c b k f g j)).toArray] p (kP F G p λv κ w=>∃n o,v = .tuple #[]∧SS F G p κ w [.box u 87 [(42,A),sl n r.length o,(1,B)],k3j n r.length o] [k3k n o r]):=by
 have e:=L.hS
 have O:=e.fresh
 refine en func81 rfl ntmps81 λa d=>?_
 unfold M.lW at H
 refine qr λ_ J=>wc (wbx d e (k0c b k f g j) (sgN 14 jD) λP a w d e=>J _ _ (rgS e [12] ?_))
 have e:=e.drew
 have x:=e.fx
 refine bd H λK I H=>anp [0,1,2,3,5] [5,6,9,11] d x λa d=>atk 4 (some 10) d x rfl (vld 1 1 0) λa d=>atk 6 (some 12) d x rfl (vls 0 0 14) λa d=>jN [7] [6,10,13] (L':=[k2y u,(10,.slice q m.length s),(13,.agg (flat [si l,si b.Kind,su b.Id,su b.N,su b.TS,sg b.Lo,sg b.Hi,sl k b.Vers.length f,sl g b.Vec.length j,si b.Cmd.Kind,si b.Cmd.DC,si b.Cmd.Shard,si b.Cmd.Node,si b.Cmd.Mode,sg b.Cmd.Key]).toArray)]) (listed':=(mV 13 255)) (fuel:=5) d x kr (by intro c a w t v h; cases t<;>exact h) kr rfl λa d=>?_
 refine ago 8 d rfl (uK (t:=n9) (y:=(i9.mk l b)) (v := .agg (flat (k0d l b k f g j)).toArray) (z := .agg (flat (k0e empty)).toArray) (cells:=(flat (k0d l b k f g j)).toArray) (E:=61) d e kr rfl kr ⟨(k,f,g,j),rfl,(e.pick [1,2] kr).ro⟩ kr kr kr kr kr λQ κ a w d e=>?_)
 refine ⟨λ_=>(e.sx [1,2] [1,2,3]),?_⟩
 refine ago 9 d rfl (kJ (ty:=n9) d e kr 3 1 0 rfl rfl rfl kr kr rfl rfl rfl I kr (i:=Tryz.t61) (z := .agg (flat (k0e empty)).toArray) kr kr kr λC D κ a w d e=>⟨λ_=>(e.sx [1,2] [2,3,4]),?_⟩)
 refine anp [10,11] [15,17] d (e.sx [1,2] [2,3,4]) λa d=>ago 12 d rfl (wst d e 2 1 1 [sl C K.length D] (sgN 1 jD) λa w d e=>⟨notE,?_⟩)
 refine kN ?_
 cases H
 exact j7 d e (mL results81) ⟨C,D,rfl,e.sp [2,3] [0]⟩
theorem lJ (N){y}{z}{p}(j)(l:(List i9))(A)(k:jF)(d)(q)(s)(e)(f)(g)(h)(i)(t)(B:SB y z p [.box t 87 [si j,(41,d),sl q l.length s,(1,e)],k3j q l.length s] [k3k q s l,k3l f g k.Vers,k3m h i k.Vec]){r}(H:M.lB N j l A k=some r) :
    Calls Tryz.prog 54 #[pt t 0,vi A,.agg (flat (k0c k f g h i)).toArray] p (kP y z p λv κ w=>∃m n,v = .tuple #[]∧SS y z p κ w [.box t 87 [si j,(41,d),sl m r.length n,(1,e)],k3j m r.length n] [k3k m n r]):=by
 have b:=B.hS
 have J:=b.fresh
 refine en func54 rfl ntmps54 λa c=>?_
 unfold M.lB at H
 refine qr λ_ E=>wc (wbx c b (k0c k f g h i) (sgN 14 jD) λK a w c b=>E _ _ (rga (λ_=>True) [] ?_))
 have b:=b.drew
 refine anp [0,1,2,3,5] [5,6,9,11] c ja λa c=>mI b [8] (atk 4 (some 10) c (b.sx [0,1] [0,1,2]) rfl (vld 1 0 0) λa c=>atk 7 (some 13) c (b.sx [0,1] [0,1,2]) rfl (vls 0 0 14) λa c=>ago 6 c rfl (bd H λF C H=>jR c b kr kr (vF N b.fresh j A ((b.pick [] kr).ro) C) ?_))
 rintro _ κ w a ⟨rfl,L,O⟩ c b P
 refine ⟨λ_=>(b.sx [0,1] [0,1,2]),?_⟩
 refine ago 8 c rfl (bd H λG D H=>?_)
 have o:=b.segs 1 rfl
 refine wcS 2 [1,2,0] c b (λb=>oO N l F k (flat [si j,(41,d)]) q s e f g h i t ((b.regr 0 [(true,2),(false,2)] rfl).sbK [0,1,2]) D) ?_
 rintro _ κ w a ⟨u,x,rfl,I⟩ c B
 have b:=(B _ _ I).unregrK 0 [(true,2),(false,2)] (s':=[si j,(41,d),sl u G.length x,(1,e)]) o rfl
 refine ⟨notE,?_⟩
 refine kN ?_
 cases H
 exact j7 c b (mL results54) ⟨u,x,rfl,b.sp [0,1] [0]⟩
theorem vJ (N){n}{o}{h}(i:(List jL))(l)(j)(k)(p)(t:SB n o h [.box p 87 [(43,l),sl j i.length k],k3n j i.length k] [k3o j k i]){r}(H:M.rF N i=some r) :
    Calls Tryz.prog 13 #[pt p 0] h (kP n o h λv κ w=>∃d e f g,v = .slice d r.1.length e∧SS n o h κ w [.box p 87 [(43,l),sl f r.2.length g],k3n f r.2.length g,k3n d r.1.length e] [k3o d e r.1,k3o f g r.2]):=by
 have c:=t.hS
 have A:=c.fresh
 refine en func13 rfl ntmps13 λa b=>?_
 unfold M.rF at H
 refine qr λ_ u=>wp 1 [0] b λa b=>u _ _ (qs λ_ x=>qr λ_ y=>wp 2 [0,5] b λa b=>y _ _ (cf b rfl (sk (x _ _ (qr λ_ z=>wp 3 [0,8] b λa b=>wc (wld b c 0 1 0 λa b=>wp 1 [0,3] b λa b=>z _ _ (qr λ_ q=>wp 3 [3,12] b λa b=>wc (wst b c 0 1 1 [k37] (sgN 1 jD) λa w b c=>q _ _ (qr λ_ s=>wp 2 [2] b λa b=>s _ _ (rt ?_))))))))))
 have c:=c.add (m:=Ro.mp kK.ty none 0 ([]:List jL)) (Ro.nil kK.ty _ _)
 have c:=c.addNil 52 13
 cases H
 exact j7 b c (l4 results13 (rvt b)) ⟨j,k,none,0,rfl,c.sp [1,0,2] [1,0]⟩
theorem xB (N){s}{t}{j}(i:j5)(h:j5)(k)(l)(u)(x)(y)(z)(m)(d)(e)(f)(g)(A)(D:SB s t j [.box A 87 [(6,l),sl u i.Cuts.length x,sl y i.Nodes.length z,(36,m)]] [k3a u x i.Cuts,k3b y z i.Nodes,k3a d e h.Cuts,k3b f g h.Nodes]){r}(H:M.rR N i h k=some r) :
    Calls Tryz.prog 59 #[pt A 0,.agg (flat (k07 d h e f g)).toArray,vi k] j (kP s t j λv κ w=>∃n o p q,v = .tuple #[]∧SS s t j κ w [.box A 87 [(6,l),sl n r.Cuts.length o,sl p r.Nodes.length q,(36,m)]] [k3a n o r.Cuts,k3b p q r.Nodes]):=by
 have c:=D.hS
 have E:=c.fresh
 refine en func59 rfl ntmps59 λa b=>?_
 unfold M.rR at H
 refine qr λ_ B=>wc (wbx b c (k07 d h e f g) (sgN 2 jD) λF a w b c=>B _ _ (qr λ_ C=>wp 2 [0,4,7] b λa b=>C _ _ (bc b H (λhb H=>?_) λhb H=>?_)))
 refine rl (wp 1 [4,8] b λa b=>wc (wls b c 0 0 2 λa b=>wp 2 [9,11] b λa b=>wc (wst b c 1 1 2 (k07 d h e f g) (sgN 2 jD) λa w b c=>nl ?_)))
 cases H
 exact j7 b c (mL results59) ⟨d,e,f,g,rfl,c.sp [1] [2,3]⟩
 refine sk ?_
 cases H
 exact j7 b c (mL results59) ⟨u,x,y,z,rfl,c.sp [1] [0,1]⟩
theorem qU (N){n}{o}{h}(y)(p)(i)(B)(z)(j)(k)(C:SB n o h (k0f k i B j z y) []){r}(H:M.lT N y p=some r) :
    Calls Tryz.prog 83 #[pt k 0,.string (p)] h (kP n o h λv κ w=>∃A t,v=vb r.1∧SS n o h κ w (k0f k i A j t r.2) []):=by
 have c:=C.hS
 have F:=c.fresh
 refine en func83 rfl ntmps83 λa b=>?_
 unfold M.lT at H
 refine qr λ_ D=>(jE (L':=[k35 k,(1,.string (p))]) 1 [0,1] b kr λa b=>D _ _ (qs λ_ E=>bd H λq d H=>kL (λa w=>∃κ l g,Fr (30) [] [(4,vb q.2)] a∧SS n o h κ w (k0f k i l j g q.1) []∧True) ?_ ?_))
 refine kY d (λho d=>?_) (λm ho d=>?_)
 obtain ⟨f,c⟩:=c.optN 1 rfl ho
 rw [f] at c
 try rw [f] at b
 refine rgS c [] ?_
 have c:=c.drew
 have e:=c.fx
 refine anp [0,1,2] [0,1,7] b e λa b=>atk 3 (some 8) b e rfl (vld 0 1 0) λa b=>anp (ra 4 22) [4] b e λa b=>kN ?_
 cases d
 exact ⟨_,none,[],b.kp [4],c.sp [0,1] [],ja⟩
 obtain ⟨s,f,c⟩:=c.optS 1 rfl ho
 rw [f] at c
 try rw [f] at b
 obtain ⟨_,c⟩:=c.unfI (ck:=lA) (fs:=l8) 1 rfl
 refine rgS c [] ?_
 have c:=c.drew
 have e:=c.fx
 refine anp [0,1,2] [0,1,7] b e λa b=>atk 3 (some 8) b e rfl (vld 1 1 0) λa b=>anp [4,5,6,7,8,9,15,16,17] [10,11,14,22] b e λa b=>atk 10 (some 15) b e rfl (vld 1 1 0) λa b=>anp [11,12,13] [10,11,18,22] b e λa b=>atk 14 (some 19) b e rfl (vld 0 0 0) λa b=>atk 18 (some 23) b e rfl (vld 1 1 0) λa b=>anp [19,20,21] [10,11,19,26] b e λa b=>atk 22 (some 27) b e rfl (vld 0 1 0) λa b=>ago 23 b rfl (bd d λG u d=>jR b c kr kr (wJ N c.fresh p m.span.Lo m.span.Hi ((c.pick [] kr).ro) u) ?_)
 rintro _ κ w a ⟨rfl,I,J⟩ b c K
 refine ⟨λ_=>(c.sx [0,1] []),?_⟩
 refine anp [24,25] [4] b (c.sx [0,1] []) λa b=>kN ?_
 obtain ⟨x,c⟩:=c.foldI (ck:=lA) (fs:=l8) s () m [0] [1] [] dc kr kr
 cases d
 exact ⟨_,(some s),x,b.kp [4],c.sp [1,0] [],ja⟩
 rintro a w ⟨κ,l,g,b,c,-⟩
 refine E _ _ (rt ?_)
 cases H
 exact j7 b c (l4 results83 (rvt b)) ⟨l,g,rfl,c.sp [0,1] []⟩
end Go.Cf
