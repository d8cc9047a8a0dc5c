/- The walks: each function returns what its model says. Printed by a program of ours. -/
import Derived.Test.YtcplebnnanjngaaGreatZSh
import Derived.Test.YtcplebnnanjngaaGreatZM1
import Derived.Test.YtcplebnnanjngaaGreatZWs
import Derived.Test.YtcplebnnanjngaaGreatZWo
import Derived.Test.YtcplebnnanjngaaGreatZWi
import Derived.Test.YtcplebnnanjngaaGreatZWp
import Derived.Test.YtcplebnnanjngaaGreatZWc
import Derived.Test.YtcplebnnanjngaaGreatZWg1
import Derived.Test.YtcplebnnanjngaaGreatZWg3
import Derived.Test.YtcplebnnanjngaaGreatZWg5
namespace Go.Cf
open Go Go.Proofs
open _root_.Int(toNat tdiv tmod)
open _root_.List(set replicate)
open _root_.ByteArray(empty)
open Go.IntKind(i64 u64)
set_option linter.unusedVariables false
set_option maxRecDepth 20000
set_option maxHeartbeats 8000000
theorem xQ (N){Ms}{κ0}{w0}(a1)(a2)(a4)(a5)(a6)(a7:jA)(W:(List Bool))(aR)(aW)(bC)(ay)(aO)(bg)(bh)(J:(List j3))(a9)(aH)(aX)(aD)(aG)(O:(List Int))(aj:(List i9))(K:(List jM))(bI)(e:jK)(aJ)(p8)(c9)(U)(V)(aq)(G)(I)(ar)(S)(ah)(X)(ai)(az)(aE)(g)(an)(au)(D)(ae)(ab)(F)(al)(ad)(y)(A)(p)(ao)(Y)(ak)(am)(B)(C)(av)(Q)(R)(u)(x)(bi)(bj)(bl)(bm)(f)(hB:SB Ms κ0 w0 (k1f f a1 a2 aJ a4 a5 a6 p8 (a7.Cuts).length c9 U (a7.Nodes).length V aq G W.length I ar S X az ay g au D F y J.length A p aH ak aD aG B O.length C av Q aj.length R u K.length x (ownX jN 4 G I W) ah aR ai aW aE bC (arrX j6 g an aO) ae ab al ad ao Y am aX) [k2l p8 c9 a7.Cuts,k2m U V a7.Nodes,(ml g 4),k3h D ae ab bg,k3i F al ad bh,k3j y A J,k3k p ao Y a9,k2v B C O,k2t Q R aj,k2x u x K,k2u bi bj e.Vers,k2v bl bm e.Vec]){r}(H:M.qN N a1 a2 a4 a5 a6 a7 W aR aW bC ay aO bg bh J a9 aH aX aD aG O aj K bI e=some r) :
    Calls Tryz.prog 33 #[pt f 0,vi bI,.agg (flat (k07 e.Kind e.Id e.N e.TS e.Lo e.Hi bi (e.Vers).length bj bl (e.Vec).length bm e.Cmd.Kind e.Cmd.DC e.Cmd.Shard e.Cmd.Node e.Cmd.Mode e.Cmd.Key)).toArray] w0 (kQ Ms κ0 w0 λv κ w => ∃dH dI dJ dK dL dM fP eQ fQ eR fR eS df eT dN dO dP dR dS dT dU dV dW dX dY fS eU dZ d0 d1 d2 d3 d4,v = .tuple #[]∧SS Ms κ0 w0 κ w (k1f f a1 a2 aJ a4 a5 r.1 dH (r.2.1.Cuts).length dI dJ (r.2.1.Nodes).length dK aq dL (r.2.2.1).length dM ar fP fQ fR r.u4.2.2.1 df au dN dR dU (r.u8.2.2.1).length dV dW r.u8.u4.1 fS aD r.u8.u4.2.2.1 dZ (r.u8.u4.2.2.2.1).length d0 av d1 (r.u8.u8.1).length d2 d3 (r.u8.u8.2).length d4 (ownX jN 4 dL dM r.2.2.1) eQ r.2.2.2.1 eR r.u4.1 eS r.u4.2.1 (arrX j6 df eT r.u4.2.2.2.1) dO dP dS dT dX dY eU r.u8.u4.2.1) (k1g dH dI r.2.1.Cuts dJ dK r.2.1.Nodes (ml df 4) dN dO dP r.u8.1 dR dS dT r.u8.2.1 dU dV r.u8.2.2.1 dW dX dY r.u8.2.2.2.1 dZ d0 r.u8.u4.2.2.2.1 d1 d2 r.u8.u8.1 d3 d4 r.u8.u8.2)):=by
 have d:=hB.hS
 have iR:=d.fresh
 refine en Tryz.func33 rfl Tryz.ntmps33 λa b=>?_
 unfold M.qN at H
 refine qr λ_ h6=>wc (wbx b d (k07 e.Kind e.Id e.N e.TS e.Lo e.Hi bi (e.Vers).length bj bl (e.Vec).length bm e.Cmd.Kind e.Cmd.DC e.Cmd.Shard e.Cmd.Node e.Cmd.Mode e.Cmd.Key) (sgN 14 jE) λZ a w b d=>h6 _ _ (qr λ_ h7=>wp 1 [0,1,5,25] b λa b=>wc (wld b d 0 0 0 λa b=>h7 _ _ (bk (qr λ_ h8=>wp 2 [0,1,5,26,27] b λa b=>nl ?_)))))
 refine h8 _ _ (bc b H (λhb H=>?_) λhb H=>?_)
 refine qs λ_ h9=>rgS d [] ?_
 have d:=d.drew
 have q:=d.fx
 refine anp [0,2,3,4] [0,1,29,33] b q λa b=>atk 1 (some 30) b q rfl (vld 0 1 0) λa b=>atk 5 (some 34) b q rfl (vld 1 3 0) λa b=>anp [6,7] [0,1,36] b q λa b=>kM (h9 _ _ (bc b H (λhb H=>?_) λhb H=>?_))
 refine rl (wp 3 [1,39] b λa b=>wc (wld b d 1 9 0 λa b=>jG (L':=[(40,.slice G W.length I),(41,vi bI)]) 1 [40,41] b kr λa b=>bd H λiS d5 H=>wc (uA b d kr 6 (sz:=1) rfl rfl rfl rfl rfl d5 kr kr λiT iU a eV b=>wc (sL b d kr 6 (z:=true) rfl rfl rfl rfl eV d5 rfl kr rfl kr (Cf:=(λnn=>[.box Z 38 [si e.Kind,su e.Id,su e.N,su e.TS,sg e.Lo,sg e.Hi,sl bi (e.Vers).length bj,sl bl (e.Vec).length bm,si e.Cmd.Kind,si e.Cmd.DC,si e.Cmd.Shard,si e.Cmd.Node,si e.Cmd.Mode,sg e.Cmd.Key],.box f 87 [si a1,si a2,(1,aJ),si a4,si a5,si a6,sl p8 (a7.Cuts).length c9,sl U (a7.Nodes).length V,(1,aq),sl G nn I,(2,ar),sp S,sp X,sp az,su ay,(4,(encs pF g)),(8,au),sm D,sm F,sl y J.length A,sm p,su aH,sp ak,si aD,si aG,sl B O.length C,(5,av),sl Q aj.length R,sl u K.length x],.tok y 95 5 J.length A,.tok B 32 1 O.length C,.tok Q 61 15 aj.length R,.tok u 52 13 K.length x,.ext (ownX jN 4 G I (set W (toNat bI) true)),ox o_stab_Table S ah aR,ox o_order_Log X ai aW,ox o_coord_Table az aE bC,.ext (arrX j6 g an aO),mx D ae ab,mx F al ad,mx p ao Y,ox o_gate_move ak am aX])) (Lf:=(λnn=>[(40,.slice G nn I),(41,vi bI)])) [40,41] kr kr λa w b d=>?_))))
 refine nl ?_
 cases H
 exact j7 b d (mI Tryz.results33) ⟨p8,c9,U,V,G,I,S,ah,X,ai,az,aE,g,an,D,ae,ab,F,al,ad,y,A,p,ao,Y,ak,am,B,C,Q,R,u,x,rfl,d.sp (ra 1 14) (rg 10)⟩
 refine sk ?_
 cases H
 exact j7 b d (mI Tryz.results33) ⟨p8,c9,U,V,G,I,S,ah,X,ai,az,aE,g,an,D,ae,ab,F,al,ad,y,A,p,ao,Y,ak,am,B,C,Q,R,u,x,rfl,d.sp (ra 1 14) (rg 10)⟩
 refine qr λ_ ia=>(jG (L':=[k2g f,k2a bI,k2d Z,(26,vi e.Kind),(43,vb (e.Kind==11))]) 2 [0,1,5,26,43] b kr λa b=>ia _ _ (bc b H (λhb H=>?_) λhb H=>?_))
 refine qs λ_ ib=>bd H λdv ho H=>?_
 obtain ⟨aV,aw,d⟩:=d.optS 9 rfl ho
 rw [aw] at d
 try rw [aw] at b
 obtain ⟨⟨fI,fJ,fK,fL,fT⟩,d⟩:=d.unfI (ck:=kZ) (fs:=kY) 9 rfl
 refine rgX d [0,1,3,4,9,10,11,12,13,14,15,16] ?_
 have d:=d.drew
 have q:=d.px [0,1,3,4,9,10,11,12,13,14,15,16]
 refine anp [0,1,2,4] [0,1,5,47,49] b q λa b=>atk 3 (some 48) b q rfl (vld 3 13 0) λa b=>atk 5 (some 50) b q rfl (vld 2 1 0) λa b=>ago 6 b rfl (bd H λbn fU H=>wcS 3 (rg 17) b d (λd=>uU N dv e.Id fI fJ fK fL fT aV (d.sbK [0]) fU) ?_)
 rintro _ κ w a ⟨bL,bM,fV,rfl,h2⟩ b hB
 have d:=hB _ _ h2
 refine ⟨λ_=>(d.sx [0,1,4,5,10,11,12,13,14,15,16,17] (ra 1 13)),?_⟩
 refine anp [7] [0,1,5,6] b (d.sx [0,1,4,5,10,11,12,13,14,15,16,17] (ra 1 13)) λa b=>kM ?_
 obtain ⟨iv,d⟩:=d.foldI (ck:=kZ) (fs:=kY) aV (fI,fJ,fK,fL,fV) dv [0,1,2] (ra 3 15) [1] dc kr kr
 refine ib _ _ (qs λ_ ic=>?_)
 obtain ⟨⟨d6,fM,fN,fO,d7⟩,d⟩:=d.unfI (ck:=kZ) (fs:=kY) 0 rfl
 have d:=d.cC (C':=[k39 aV d6,mx d6 fM fN,.ext (mpX jW fO d7 dv.open_ none),k38 bL bn.length bM,k3v Z e.Kind e.Id e.N e.TS e.Lo e.Hi bi (e.Vers).length bj bl (e.Vec).length bm e.Cmd.Kind e.Cmd.DC e.Cmd.Shard e.Cmd.Node e.Cmd.Mode e.Cmd.Key,k41 f a1 a2 aJ a4 a5 a6 p8 (a7.Cuts).length c9 U (a7.Nodes).length V aq G W.length I ar S X aV ay g au D F y J.length A p aH ak aD aG B O.length C av Q aj.length R u K.length x,k3d y J.length A,k3e B O.length C,k2s Q aj.length R,k2w u K.length x,.ext (ownX jN 4 G I W),k2c S ah aR,k3f X ai aW,.ext (arrX j6 g an aO),mx D ae ab,mx F al ad,mx p ao Y,k2y ak am aX])
 refine rgX d [4,5,10,11,12,13,14,15,16,17] ?_
 have d:=d.drew
 have q:=d.px [4,5,10,11,12,13,14,15,16,17]
 refine anp [0,1,2,4,6,7] [0,5,6,55,57,59,60] b q λa b=>atk 3 (some 56) b q rfl (vld 1 13 0) λa b=>atk 5 (some 58) b q rfl (vld 0 1 0) λa b=>atk 8 (some 61) b q rfl (vld 0 3 0) λa b=>ago 9 b rfl (bd H λaf fW H=>wcS 3 (rg 18) b d (λd=>z2 N dv e.Id bI e.TS d6 fM fN fO d7 aV (d.sbK [0]) fW) ?_)
 rintro _ κ w a ⟨ie,ig,fX,fY,eW,rfl,h2⟩ b hB
 have d:=hB _ _ h2
 refine ⟨λ_=>(d.sx [4,5,10,11,12,13,14,15,16,17] (ra 1 15)),?_⟩
 refine anp (ra 10 7) [0,5,6,7,8,9] b (d.sx [4,5,10,11,12,13,14,15,16,17] (ra 1 15)) λa b=>kM ?_
 obtain ⟨cM,d⟩:=d.foldI (ck:=kZ) (fs:=kY) aV (ie,ig,fX,fY,eW) af.2.2.2 [0,1,2] (ra 3 15) [0] dc kr kr
 refine ic _ _ (qs λ_ fZ=>qr λ_ f0=>bd H λf1 bT H=>kA (λa w => ∃κ:Gh,Fr (446) [] [k2g f,k2d Z,(6,.slice bL bn.length bM),(7,vu af.1),(71,vb f1)] a∧SS Ms κ0 w0 κ w [k3v Z e.Kind e.Id e.N e.TS e.Lo e.Hi bi (e.Vers).length bj bl (e.Vec).length bm e.Cmd.Kind e.Cmd.DC e.Cmd.Shard e.Cmd.Node e.Cmd.Mode e.Cmd.Key,k41 f a1 a2 aJ a4 a5 a6 p8 (a7.Cuts).length c9 U (a7.Nodes).length V aq G W.length I ar S X aV ay g au D F y J.length A p aH ak aD aG B O.length C av Q aj.length R u K.length x,k38 bL bn.length bM,k3d y J.length A,k3e B O.length C,k2s Q aj.length R,k2w u K.length x,.ext (ownX jN 4 G I W),k2c S ah aR,k3f X ai aW,k3n aV cM af.2.2.2,.ext (arrX j6 g an aO),mx D ae ab,mx F al ad,mx p ao Y,k2y ak am aX] [k2l p8 c9 a7.Cuts,k2m U V a7.Nodes,(ml g 4),k3h D ae ab bg,k3i F al ad bh,k3j y A J,k3k p ao Y a9,k2v B C O,k2t Q R aj,k2x u x K,k2u bL bM bn,k2u bi bj e.Vers,k2v bl bm e.Vec]∧True) ?_ ?_)
 refine wp 3 [0,5,6,7,8,68] b λa b=>bs bT (λhb bT=>?_) λhb bT=>?_
 have b:=b.bv 68 hb
 refine wp 3 [0,5,6,7,71] b λa b=>nl ?_
 cases bT
 exact ⟨_,b.kp [0,5,6,7,71],d.sp [2,3,1,4,5,6,7,8,9,10,0,11,12,13,14,15] [4,5,6,7,8,9,10,11,12,13,2,14,15],trivial⟩
 have b:=b.bv 68 hb
 refine wp 3 [0,5,6,7,71] b λa b=>nl ?_
 cases bT
 exact ⟨_,b.kp [0,5,6,7,71],d.sp [2,3,1,4,5,6,7,8,9,10,0,11,12,13,14,15] [4,5,6,7,8,9,10,11,12,13,2,14,15],trivial⟩
 rintro a w ⟨κ,b,d,-⟩
 refine f0 _ _ (bc b H (λhb H=>?_) λhb H=>?_)
 refine rt ?_
 cases H
 exact j7 b d (mI Tryz.results33) ⟨p8,c9,U,V,G,I,S,ah,X,ai,(some aV),cM,g,an,D,ae,ab,F,al,ad,y,A,p,ao,Y,ak,am,B,C,Q,R,u,x,rfl,d.sp [1,3,4,5,6,7,8,9,10,11,12,13,14,15] (rg 10)⟩
 refine sk (fZ _ _ (qr λ_ f2=>wp 4 [0,5,6,7,72,75] b λa b=>wc (wld b d 1 14 0 λa b=>wp 4 [0,5,6,7,78,80] b λa b=>wc (wst b d 1 14 1 [su (if af.1 > ay then af.1 else ay)] (sgN 1 jE) λa w b d=>f2 _ _ (qs λ_ f3=>rgS d [10] ?_)))))
 have d:=d.drew
 have q:=d.fx
 refine anp [0,1,2,3,5] [0,5,6,7,81,84,86] b q λa b=>atk 4 (some 85) b q rfl (vld 1 0 0) λa b=>atk 6 (some 87) b q rfl (vld 0 1 0) λa b=>anp [7,8] [0,5,6,7,89] b q λa b=>ago 9 b rfl (wal b d k0d (sgN 4 jE) λaP a w b d=>⟨λ_=>(d.sx [1,2,8,9,10,11,12,13,14,15,16] (rg 13)),?_⟩)
 refine ago 10 b rfl (wst b d 0 0 4 [su af.1,si a1,si (i64.wrap e.Id),k2j] (sgN 4 jE) λa w b d=>⟨notE,?_⟩)
 refine kM (f3 _ _ (qs λ_ f4=>qr λ_ f5=>(wp 3 [0,5,7,10,90,91,92] b λa b=>(f5 _ _ (bk (jX (n:=N) (λn a w => ∃κ,∃be:List jC,∃bu bw bO,Fr (446) [] [k2g f,k2d Z,(7,vu af.1),(10,pt aP 0),(90,.slice bL bn.length bM),(91,vi (bn.length:Int)),(92,vi bO)] a∧SS Ms κ0 w0 κ w [k32 aP af.1 a1 (i64.wrap e.Id) bu be.length bw,k3v Z e.Kind e.Id e.N e.TS e.Lo e.Hi bi (e.Vers).length bj bl (e.Vec).length bm e.Cmd.Kind e.Cmd.DC e.Cmd.Shard e.Cmd.Node e.Cmd.Mode e.Cmd.Key,k41 f a1 a2 aJ a4 a5 a6 p8 (a7.Cuts).length c9 U (a7.Nodes).length V aq G W.length I ar S X aV (if af.1 > ay then af.1 else ay) g au D F y J.length A p aH ak aD aG B O.length C av Q aj.length R u K.length x,k38 bu be.length bw,k38 bL bn.length bM,k3d y J.length A,k3e B O.length C,k2s Q aj.length R,k2w u K.length x,.ext (ownX jN 4 G I W),k2c S ah aR,k3f X ai aW,k3n aV cM af.2.2.2,.ext (arrX j6 g an aO),mx D ae ab,mx F al ad,mx p ao Y,k2y ak am aX] [k2l p8 c9 a7.Cuts,k2m U V a7.Nodes,(ml g 4),k3h D ae ab bg,k3i F al ad bh,k3j y A J,k3k p ao Y a9,k2v B C O,k2t Q R aj,k2x u x K,k2u bL bM bn,k2u bu bw be,k2u bi bj e.Vers,k2v bl bm e.Vec]∧M.mS N n a1 a2 a4 a5 a6 a7 W aR aW ay aO bg bh J a9 aH aX aD aG O aj K e bn af be bO=some r) ?_ ?_))))))
 have d:=d.add (m:=Ro.mp jF.ty none 0 ([]:List jC)) (Ro.nil jF.ty _ _)
 have d:=d.addNil 48 6
 exact ⟨_,([]:List jC),none,0,0,b.kp [0,5,7,10,90,91,92],d.sp [1,2,3,0,4,5,6,7,8,9,10,11,12,13,14,15,16,17] [1,2,3,4,5,6,7,8,9,10,11,0,12,13],H⟩
 rintro n a w ⟨κ,be,bu,bw,bO,b,d,H⟩
 rcases n with _|eX
 simp [M.mS] at H
 simp only [M.mS] at H
 refine qr λ_ f6=>(jG (L':=[k2g f,k2d Z,(7,vu af.1),(10,pt aP 0),(90,.slice bL bn.length bM),(91,vi (bn.length:Int)),(92,vi bO),(93,vb (decide (bO<(bn.length:Int))))]) 1 [0,5,7,10,90,91,92,93] b kr λa b=>f6 _ _ (qs λ_ f7=>bc b H (λhb H=>?_) λhb H=>?_))
 refine sk (f7 _ _ (qs λ_ f8=>bk (qr λ_ f9=>(bd H λaU dw H=>wc (kS b d kr 10 (E:=48) (sz:=6) rfl rfl rfl kr rfl dw kr kr λiw iy a d8 b=>wc (qT (t:=jF) b d kr 10 rfl rfl d8 rfl dw kr kr kr λa b=>wc (wal b d (k0e empty) (sgN 6 jE) λga a w b d=>wc (wst b d 0 0 6 (k0n aU.Key aU.Val aU.Gone aU.TS aU.DC aU.Tx) (sgN 6 jE) λa w b d=>?_))))))))
 refine f9 _ _ (qs λ_ gb=>rgX d [1,2,3,10,11,12,13,14,15,16,17,18] ?_)
 have d:=d.drew
 have q:=d.px [1,2,3,10,11,12,13,14,15,16,17,18]
 refine anp [0,2,4] [0,5,7,10,12,90,91,92,96,98,100] b q λa b=>atk 1 (some 97) b q rfl (vld 0 0 0) λa b=>anp [6] [0,5,7,10,12,90,91,92,97,98,100,102] b q λa b=>atk 3 (some 99) b q rfl (vld 0 1 0) λa b=>atk 5 (some 101) b q rfl (vld 0 2 0) λa b=>ago 7 b rfl (wst b d 0 3 1 [su af.1] (sgN 1 jE) λa w b d=>⟨λ_=>(d.sx [1,2,3,10,11,12,13,14,15,16,17,18] (rg 14)),?_⟩)
 refine anp [8] [0,5,7,10,12,90,91,92,99,101,103] b (d.sx [1,2,3,10,11,12,13,14,15,16,17,18] (rg 14)) λa b=>ago 9 b rfl (wst b d 0 4 1 [si a1] (sgN 1 jE) λa w b d=>⟨λ_=>(d.sx [1,2,3,10,11,12,13,14,15,16,17,18] (rg 14)),?_⟩)
 refine anp [10] [0,5,7,10,12,90,91,92,101,104] b (d.sx [1,2,3,10,11,12,13,14,15,16,17,18] (rg 14)) λa b=>ago 11 b rfl (wst b d 0 5 1 [si (i64.wrap e.Id)] (sgN 1 jE) λa w b d=>⟨λ_=>(d.sx [1,2,3,10,11,12,13,14,15,16,17,18] (rg 14)),?_⟩)
 refine kM (gb _ _ (rl (jG (L':=[k2g f,k2d Z,(7,vu af.1),(10,pt aP 0),(12,pt ga 0),(90,.slice bL bn.length bM),(91,vi (bn.length:Int)),(92,vi bO),(105,pt aP 3)]) 1 [0,5,7,10,12,90,91,92,105] b kr λa b=>wc (wld b d 1 3 0 λa b=>wc (wls b d 0 0 6 λa b=>wc (oU (t:=jF) (z := .agg (flat (k0e empty)).toArray) (l:=[(jC.mk aU.Key aU.Val aU.Gone af.1 a1 (i64.wrap e.Id))]) (vs:=[(0,.agg (flat (k0n aU.Key aU.Val aU.Gone af.1 a1 (i64.wrap e.Id))).toArray)]) (cells := #[.string (aU.Key),.string (aU.Val),vb aU.Gone,vu af.1,vi a1,vi (i64.wrap e.Id)]) (E:=48) b d kr rfl kr kr rfl kr kr kr kr kr λiz κ a w b d=>?_))))))
 refine bd H λd9 eY H=>wc (kI (ty:=jF.ty) b d kr 5 12 0 rfl rfl rfl kr kr rfl rfl rfl eY kr (i:=Tryz.t48) (z := .agg (flat (k0e empty)).toArray) kr kr kr λea ec κ a w b d=>wp 1 [0,5,7,10,90,91,92,109,110] b λa b=>wc (wst b d 2 3 1 [sl ea d9.length ec] (sgN 1 jE) λa w b d=>f8 _ _ (rl (wp 2 [0,5,7,10,90,91,92] b λa b=>nl ?_))))
 exact ⟨eX,Nat.lt_succ_self _,_,d9,ea,ec,i64.wrap (bO+1),b.kp [0,5,7,10,90,91,92],d.sp (ra 2 18) [2,3,4,5,6,7,8,9,10,11,12,0,14,15],H⟩
 refine xt (f4 _ _ (qs λ_ gc=>bd H λgd ho H=>?_))
 obtain ⟨bE,aw,d⟩:=d.optS 11 rfl ho
 rw [aw] at d
 try rw [aw] at b
 obtain ⟨⟨gf,gg,gi,gj⟩,d⟩:=d.unfI (ck:=kV) (fs:=kT) 11 rfl
 refine rgX d [3,4,5,12,13,14,15,16,17,18,19] ?_
 have d:=d.drew
 have q:=d.px [3,4,5,12,13,14,15,16,17,18,19]
 refine anp [0,1,2] [0,5,7,10,114] b q λa b=>atk 3 (some 115) b q rfl (vld 2 12 0) λa b=>atk 4 (some 116) b q rfl (vls 0 0 4) λa b=>ago 5 b rfl (bd H λcN eZ H=>wcS 3 (rg 20) b d (λd=>yW N gd (kK.mk af.1 a1 (i64.wrap e.Id) be) gf gg gi gj bu bw bE (d.sbK [0,1,13]) eZ) ?_)
 rintro _ κ w a ⟨gk,gl,gm,gn,rfl,h2⟩ b hB
 have d:=hB _ _ h2
 refine ⟨λ_=>(d.sx [3,4,5,12,13,14,15,16,17,18,19] (ra 2 16)),?_⟩
 refine kM ?_
 obtain ⟨cO,d⟩:=d.foldI (ck:=kV) (fs:=kT) bE (gk,gl,gm,gn) cN.2 [0,1,2] (ra 3 17) [0,1] dc kr kr
 refine gc _ _ (qs λ_ gp=>qs λ_ gq=>?_)
 obtain ⟨⟨cP,dg,dh,di,e0⟩,d⟩:=d.unfI (ck:=kZ) (fs:=kY) 12 rfl
 refine rga (λ_=>True) [] ?_
 have d:=d.drew
 refine anp [0,1,2,4,8] [0,5,7,10,120,122,126] b trivial λa b=>mG d [6] (atk 3 (some 121) b (d.sx [0,1,2,3,4,5,6,13,14,15,16,17,18,19] (rg 19)) rfl (vld 6 13 0) λa b=>atk 5 (some 123) b (d.sx [0,1,2,3,4,5,6,13,14,15,16,17,18,19] (rg 19)) rfl (vld 5 1 0) λa b=>ago 6 b rfl (bd H λbo e1 H=>wcS 3 (rg 20) b d (λd=>yJ N af.2.2.2 e.Id cP dg dh di e0 aV (d.sbK [0]) e1) ?_))
 rintro _ κ w a ⟨b1,b2,dx,rfl,h2⟩ b hB
 have d:=(hB _ _ h2).cC (C':=[k39 aV cP,mx cP dg dh,.ext (mpX jW di dx (af.2.2.2.open_) none),.tok b1 3 1 bo.length b2,k3m bE cO cN.2,k32 aP af.1 a1 (i64.wrap e.Id) bu be.length bw,k3v Z e.Kind e.Id e.N e.TS e.Lo e.Hi bi (e.Vers).length bj bl (e.Vec).length bm e.Cmd.Kind e.Cmd.DC e.Cmd.Shard e.Cmd.Node e.Cmd.Mode e.Cmd.Key,.box f 87 [si a1,si a2,(1,aJ),si a4,si a5,si a6,sl p8 (a7.Cuts).length c9,sl U (a7.Nodes).length V,(1,aq),sl G W.length I,(2,ar),sp S,k34 bE,k34 aV,su (if af.1 > ay then af.1 else ay),k3l g,(8,au),sm D,sm F,sl y J.length A,sm p,su aH,sp ak,si aD,si aG,sl B O.length C,(5,av),sl Q aj.length R,sl u K.length x],k38 bu be.length bw,k38 bL bn.length bM,k3d y J.length A,k3e B O.length C,k2s Q aj.length R,k2w u K.length x,.ext (ownX jN 4 G I W),k2c S ah aR,.ext (arrX j6 g an aO),mx D ae ab,mx F al ad,mx p ao Y,k2y ak am aX])
 refine ⟨notE,?_⟩
 refine tU [7] [0,5,7,10,124,125,126] b notE λa b=>?_
 have b:Fr (446) _ [k2g f,k2d Z,(7,vu af.1),(10,pt aP 0),(124,.slice b1 bo.length b2),(125,vi (bo.length:Int)),(126,vi 0)] a:=b.kp [0,5,7,10,124,125,126]
 refine kM ?_
 obtain ⟨dy,d⟩:=d.foldI (ck:=kZ) (fs:=kY) aV (cP,dg,dh,di,dx) af.2.2.2 [0,1,2] (ra 3 18) [1] dc kr kr
 refine gq _ _ (bk (jX (n:=N) (λn a w => ∃κ,∃b3:List i9,∃b4 b5 b6,Fr (446) [] [k2g f,k2d Z,(7,vu af.1),(10,pt aP 0),(124,.slice b1 bo.length b2),(125,vi (bo.length:Int)),(126,vi b6)] a∧SS Ms κ0 w0 κ w [k32 aP af.1 a1 (i64.wrap e.Id) bu be.length bw,k3v Z e.Kind e.Id e.N e.TS e.Lo e.Hi bi (e.Vers).length bj bl (e.Vec).length bm e.Cmd.Kind e.Cmd.DC e.Cmd.Shard e.Cmd.Node e.Cmd.Mode e.Cmd.Key,.box f 87 [si a1,si a2,(1,aJ),si a4,si a5,si a6,sl p8 (a7.Cuts).length c9,sl U (a7.Nodes).length V,(1,aq),sl G W.length I,(2,ar),sp S,k34 bE,k34 aV,su (if af.1 > ay then af.1 else ay),k3l g,(8,au),sm D,sm F,sl y J.length A,sm p,su aH,sp ak,si aD,si aG,sl B O.length C,(5,av),sl b4 b3.length b5,sl u K.length x],k2s b4 b3.length b5,.tok b1 3 1 bo.length b2,k38 bu be.length bw,k3d y J.length A,k3e B O.length C,k2w u K.length x,.ext (ownX jN 4 G I W),k2c S ah aR,k3m bE cO cN.2,k3n aV dy af.2.2.2,.ext (arrX j6 g an aO),mx D ae ab,mx F al ad,mx p ao Y,k2y ak am aX] [k2l p8 c9 a7.Cuts,k2m U V a7.Nodes,(ml g 4),k3h D ae ab bg,k3i F al ad bh,k3j y A J,k3k p ao Y a9,k2v B C O,k2t b4 b5 b3,k2x u x K,k2m b1 b2 bo,k2u bu bw be,k2u bi bj e.Vers,k2v bl bm e.Vec]∧M.mR N n a1 a2 a4 a5 a6 a7 W aR ay aO bg bh J a9 aH aX aD aG O K e af be cN bo b3 b6=some r) ?_ ?_))
 exact ⟨_,aj,Q,R,0,b.kp [0,5,7,10,124,125,126],d.sp [3,4,5,10,1,6,8,9,11,12,13,2,0,14,15,16,17,18] [6,7,8,9,10,11,12,13,14,15,0,17,18,19],H⟩
 rintro n a w ⟨κ,b3,b4,b5,b6,b,d,H⟩
 rcases n with _|e2
 simp [M.mR] at H
 simp only [M.mR] at H
 refine qr λ_ gr=>(jG (L':=[k2g f,k2d Z,(7,vu af.1),(10,pt aP 0),(124,.slice b1 bo.length b2),(125,vi (bo.length:Int)),(126,vi b6),(127,vb (decide (b6<(bo.length:Int))))]) 1 [0,5,7,10,124,125,126,127] b kr λa b=>gr _ _ (qs λ_ gs=>bc b H (λhb H=>?_) λhb H=>?_))
 refine sk (gs _ _ (qs λ_ gu=>bk (qr λ_ gv=>(bd H λed dz H=>wc (kS b d kr 10 (E:=3) (sz:=1) rfl rfl rfl kr rfl dz kr kr λiA iB a ee b=>wc (mM (t:=(fInt .i64)) b d kr 10 0 (v:=vi ed) rfl rfl ee rfl dz kr kr kr λa b=>wp 1 [0,5,7,10,14,124,125,126] b λa b=>gv _ _ (rl (wp 3 [0,5,7,10,124,125,126,130,131,132] b λa b=>wc (wld b d 1 1 0 λa b=>wp 2 [0,5,7,10,124,125,126,130,131,135] b λa b=>?_)))))))))
 have d:=d.add (m:=Ro.mp jF.ty none 0 ([]:List jC)) (Ro.nil jF.ty _ _)
 have d:=d.add (m:=Ro.mp (fInt .u64).ty none 0 ([]:List Int)) (Ro.nil (fInt .u64).ty _ _)
 refine bd H λef e3 H=>?_
 have dD:=d.segs 2 rfl
 refine wc (wcS 2 [2,3,0,1,4,5,6,7,8,9,10,11,12,13,14,15,16,17] b d (λd=>lK N a1 b3 ed (jK.mk 2 e.Id 0 af.1 empty empty ([]:List jC) ([]:List Int) (jT.mk 0 0 0 0 0 empty)) (flat [si a2,(1,aJ),si a4,si a5,si a6,sl p8 (a7.Cuts).length c9,sl U (a7.Nodes).length V,(1,aq),sl G W.length I,(2,ar),sp S,k34 bE,k34 aV,su (if af.1 > ay then af.1 else ay),k3l g,(8,au),sm D,sm F,sl y J.length A,sm p,su aH,sp ak,si aD,si aG,sl B O.length C,(5,av)]) b4 b5 [.slice u K.length x] none 0 none 0 f ((d.regr 0 [(false,1),(true,26),(false,2)] rfl).sbK [10,1,0]) e3) ?_)
 rintro _ κ w a ⟨eg,eh,rfl,h2⟩ b hB
 have d:=(hB _ _ h2).unregrK 0 [(false,1),(true,26),(false,2)] (s':=[si a1,si a2,(1,aJ),si a4,si a5,si a6,sl p8 (a7.Cuts).length c9,sl U (a7.Nodes).length V,(1,aq),sl G W.length I,(2,ar),sp S,k34 bE,k34 aV,su (if af.1 > ay then af.1 else ay),k3l g,(8,au),sm D,sm F,sl y J.length A,sm p,su aH,sp ak,si aD,si aG,sl B O.length C,(5,av),sl eg ef.length eh,sl u K.length x]) dD rfl
 refine gu _ _ (rl (wp 2 [0,5,7,10,124,125,126] b λa b=>nl ?_))
 exact ⟨e2,Nat.lt_succ_self _,_,ef,eg,eh,i64.wrap (b6+1),b.kp [0,5,7,10,124,125,126],d.sp [2,3,0,1,4,5,6,7,8,9,10,11,12,13,14,15,16,17] [3,4,5,6,7,8,9,10,0,12,13,14,15,16],H⟩
 refine xt (gp _ _ (rgS d [24] ?_))
 have d:=d.drew
 have q:=d.fx
 refine bd H λcQ e4 H=>bd H λgw e5 H=>jO [0,1,2,3,5,6,7,9,12,14,16] [138,141,145,147,150,152,154] (L':=[(138,pt f 0),(141,pt f 43),(145,pt f 28),(147,pt Z 1),(150,pt aP 0),(152,pt aP 1),(154,pt aP 2)]) (listed':=(mU 25 86767)) (fuel:=14) b q kr (by intro c a w t v h; cases t<;>exact h) kr rfl λa b=>atk 4 (some 142) b q rfl (vld 2 28 0) λa b=>atk 8 (some 146) b q rfl (vld 2 17 0) λa b=>atk 10 (some 148) b q rfl (vld 1 1 0) λa b=>?_
 obtain ⟨_,rfl,hvx269⟩:=vN (P:=Tryz.prog) (KT:=32) (E:=3) (kt:=(kInt .u64)) (agg:=false) (t:=(fInt .i64).ty) (L:=[(138,pt f 0),(141,pt f 43),(142,.slice u K.length x),(145,pt f 28),(146,.map D),(147,pt Z 1),(148,vu e.Id),(150,pt aP 0),(152,pt aP 1),(154,pt aP 2)]) (o:=⟨(some 149),(Go.Op.lookup 76 (Go.Operand.tmp 146) (Go.Operand.tmp 148) false),3,"gate.go:372",#[(Go.Edge.mk 8 Go.Ground.data),(Go.Edge.mk 10 Go.Ground.data)],none⟩) d 3 (k:=e.Id) (zc:=flat [si 0]) (zm:=0) rfl kr kr rfl e4 kr kr kr (λ_ _=>rfl)
 refine atk 11 (some 149) b (d.sx [0,1,2,9,10,11,12,13,14,15,16,17] (rg 14)) rfl (λw hw=>hvx269 8 rfl w hw) λa b=>atk 13 (some 151) b (d.sx [0,1,2,9,10,11,12,13,14,15,16,17] (rg 14)) rfl (vld 0 0 0) λa b=>atk 15 (some 153) b (d.sx [0,1,2,9,10,11,12,13,14,15,16,17] (rg 14)) rfl (vld 0 1 0) λa b=>atk 17 (some 155) b (d.sx [0,1,2,9,10,11,12,13,14,15,16,17] (rg 14)) rfl (vld 0 2 0) λa b=>jO [18,19] [138,142,157] (L':=[(138,pt f 0),(142,.slice u K.length x),(157,.agg (flat [si cQ.1,si 2,sb false,sb false,sg empty,sg empty,sb false,su 0,si 0,si 0,su af.1,si a1,si (i64.wrap e.Id)]).toArray)]) (listed':=(mU 25 1048575)) (fuel:=5) b (d.sx [0,1,2,9,10,11,12,13,14,15,16,17] (rg 14)) kr (by intro c a w t v h; cases t<;>exact h) kr rfl λa b=>?_
 refine ago 20 b rfl (oU (t:=kN) (z := .agg (flat (k1h empty)).toArray) (l:=[(jM.mk cQ.1 2 false false (jC.mk empty empty false 0 0 0) (mJ.mk af.1 a1 (i64.wrap e.Id)))]) (vs:=[(0,.agg (flat [si cQ.1,si 2,k2p,k2p,sg empty,sg empty,k2p,su 0,si 0,si 0,su af.1,si a1,si (i64.wrap e.Id)]).toArray)]) (cells := #[vi cQ.1,vi 2,vb false,vb false,.string (empty),.string (empty),vb false,vu 0,vi 0,vi 0,vu af.1,vi a1,vi (i64.wrap e.Id)]) (E:=52) b d kr rfl kr kr rfl kr kr kr kr kr λiC κ a w b d=>?_)
 refine ⟨λ_=>(d.sx [1,2,3,10,11,12,13,14,15,16,17,18] (ra 1 14)),?_⟩
 refine ago 21 b rfl (kI (ty:=kN.ty) b d kr 9 10 0 rfl rfl rfl kr kr rfl rfl rfl e5 kr (i:=Tryz.t52) (z := .agg (flat (k1h empty)).toArray) kr kr kr λej ek κ a w b d=>⟨λ_=>(d.sx [1,2,3,10,11,12,13,14,15,16,17,18] (ra 2 14)),?_⟩)
 refine anp [22,23] [159,161] b (d.sx [1,2,3,10,11,12,13,14,15,16,17,18] (ra 2 14)) λa b=>ago 24 b rfl (wst b d 3 28 1 [sl ej gw.length ek] (sgN 1 jE) λa w b d=>⟨notE,?_⟩)
 refine kM ?_
 cases H
 exact j7 b d (mI Tryz.results33) ⟨p8,c9,U,V,G,I,S,ah,(some bE),cO,(some aV),dy,g,an,D,ae,ab,F,al,ad,y,A,p,ao,Y,ak,am,B,C,b4,b5,ej,ek,rfl,d.sp [3,7,8,4,9,10,11,12,13,14,15,16,17,18] [2,3,4,5,6,7,8,9,10,0]⟩
 refine qr λ_ gx=>(jG (L':=[k2g f,k2a bI,k2d Z,(26,vi e.Kind),(162,vb (e.Kind==12))]) 2 [0,1,5,26,162] b kr λa b=>gx _ _ (bc b H (λhb H=>?_) λhb H=>?_))
 refine qs λ_ gy=>bd H λgz ho H=>?_
 obtain ⟨b7,aw,d⟩:=d.optS 9 rfl ho
 rw [aw] at d
 try rw [aw] at b
 obtain ⟨⟨gA,gB,gC,gD,e6⟩,d⟩:=d.unfI (ck:=kZ) (fs:=kY) 9 rfl
 refine rgX d [3,4,9,10,11,12,13,14,15,16] ?_
 have d:=d.drew
 have q:=d.px [3,4,9,10,11,12,13,14,15,16]
 refine anp [0,1,2,4,6] [0,5,167,169,171] b q λa b=>atk 3 (some 168) b q rfl (vld 1 13 0) λa b=>atk 5 (some 170) b q rfl (vld 0 1 0) λa b=>ago 7 b rfl (bd H λel e7 H=>wcS 3 (rg 17) b d (λd=>zU N gz e.Id bI gA gB gC gD e6 b7 (d.sbK [0]) e7) ?_)
 rintro _ κ w a ⟨gE,gF,gG,gH,e8,rfl,h2⟩ b hB
 have d:=hB _ _ h2
 refine ⟨λ_=>(d.sx [3,4,9,10,11,12,13,14,15,16] (ra 1 13)),?_⟩
 refine anp (ra 8 5) [0,5,15] b (d.sx [3,4,9,10,11,12,13,14,15,16] (ra 1 13)) λa b=>kM ?_
 obtain ⟨cR,d⟩:=d.foldI (ck:=kZ) (fs:=kY) b7 (gE,gF,gG,gH,e8) el.2.2 [0,1,2] (ra 3 14) [0] dc kr kr
 refine gy _ _ (qr λ_ gI=>wp 1 [0,5,175] b λa b=>gI _ _ (bc b H (λhb H=>?_) λhb H=>?_))
 refine qs λ_ gJ=>rgS d [17] ?_
 have d:=d.drew
 have q:=d.fx
 refine bd H λcx e9 H=>bd H λdj fa H=>jO [0,1,2,3,5,6,7,9] [0,5,176,179,183,185] (L':=[k2g f,k2d Z,(176,pt f 0),(179,pt f 43),(183,pt f 28),(185,pt Z 1)]) (listed':=(mU 18 751)) (fuel:=10) b q kr (by intro c a w t v h; cases t<;>exact h) kr rfl λa b=>atk 4 (some 180) b q rfl (vld 2 28 0) λa b=>atk 8 (some 184) b q rfl (vld 2 17 0) λa b=>atk 10 (some 186) b q rfl (vld 1 1 0) λa b=>?_
 obtain ⟨_,rfl,hvx292⟩:=vN (P:=Tryz.prog) (KT:=32) (E:=3) (kt:=(kInt .u64)) (agg:=false) (t:=(fInt .i64).ty) (L:=[k2g f,k2d Z,(176,pt f 0),(179,pt f 43),(180,.slice u K.length x),(183,pt f 28),(184,.map D),(185,pt Z 1),(186,vu e.Id)]) (o:=⟨(some 187),(Go.Op.lookup 76 (Go.Operand.tmp 184) (Go.Operand.tmp 186) false),3,"gate.go:375",#[(Go.Edge.mk 8 Go.Ground.data),(Go.Edge.mk 10 Go.Ground.data)],none⟩) d 5 (k:=e.Id) (zc:=flat [si 0]) (zm:=0) rfl kr kr rfl e9 kr kr kr (λ_ _=>rfl)
 refine atk 11 (some 187) b (d.sx [0,1,2,7,8,9,10,11,12,13,14] (rg 14)) rfl (λw hw=>hvx292 7 rfl w hw) λa b=>jO [12] [0,5,176,180,188] (L':=[k2g f,k2d Z,(176,pt f 0),(180,.slice u K.length x),(188,.agg (flat [si cx.1,si 3,sb false,sb false,sg empty,sg empty,sb false,su 0,si 0,si 0,su 0,si 0,si 0]).toArray)]) (listed':=(mU 18 8191)) (fuel:=5) b (d.sx [0,1,2,7,8,9,10,11,12,13,14] (rg 14)) kr (by intro c a w t v h; cases t<;>exact h) kr rfl λa b=>?_
 refine ago 13 b rfl (oU (t:=kN) (z := .agg (flat (k1h empty)).toArray) (l:=[(jM.mk cx.1 3 false false (jC.mk empty empty false 0 0 0) (mJ.mk 0 0 0))]) (vs:=[(0,.agg (flat [si cx.1,si 3,k2p,k2p,sg empty,sg empty,k2p,su 0,si 0,si 0,su 0,si 0,si 0]).toArray)]) (cells := #[vi cx.1,vi 3,vb false,vb false,.string (empty),.string (empty),vb false,vu 0,vi 0,vi 0,vu 0,vi 0,vi 0]) (E:=52) b d kr rfl kr kr rfl kr kr kr kr kr λgK κ a w b d=>?_)
 refine ⟨λ_=>(d.sx [1,2,3,8,9,10,11,12,13,14,15] (ra 1 14)),?_⟩
 refine ago 14 b rfl (kI (ty:=kN.ty) b d kr 7 12 0 rfl rfl rfl kr kr rfl rfl rfl fa kr (i:=Tryz.t52) (z := .agg (flat (k1h empty)).toArray) kr kr kr λcS cT κ a w b d=>⟨λ_=>(d.sx [1,2,3,8,9,10,11,12,13,14,15] (ra 2 14)),?_⟩)
 refine anp [15,16] [0,5,190,192] b (d.sx [1,2,3,8,9,10,11,12,13,14,15] (ra 2 14)) λa b=>ago 17 b rfl (wst b d 3 28 1 [sl cS dj.length cT] (sgN 1 jE) λa w b d=>⟨notE,?_⟩)
 refine kM (gJ _ _ ?_)
 have d:=d.cC (C':=[.tok gK 52 13 ([(jM.mk cx.1 3 false false (jC.mk empty empty false 0 0 0) (mJ.mk 0 0 0))]).length 1,k3n b7 cR el.2.2,k3v Z e.Kind e.Id e.N e.TS e.Lo e.Hi bi (e.Vers).length bj bl (e.Vec).length bm e.Cmd.Kind e.Cmd.DC e.Cmd.Shard e.Cmd.Node e.Cmd.Mode e.Cmd.Key,k41 f a1 a2 aJ a4 a5 a6 p8 (a7.Cuts).length c9 U (a7.Nodes).length V aq G W.length I ar S X b7 ay g au D F y J.length A p aH ak aD aG B O.length C av Q aj.length R cS dj.length cT,k3d y J.length A,k3e B O.length C,k2s Q aj.length R,k2w cS dj.length cT,.ext (ownX jN 4 G I W),k2c S ah aR,k3f X ai aW,.ext (arrX j6 g an aO),mx D ae ab,mx F al ad,mx p ao Y,k2y ak am aX])
 refine rgX d [1,2,3,8,9,10,11,13,14,15] ?_
 have d:=d.drew
 have q:=d.px [1,2,3,8,9,10,11,13,14,15]
 refine jO [0,1,2,4] [195,197] (L':=[(195,pt f 28),(197,pt Z 1)]) (listed':=(mU 7 23)) (fuel:=3) b q kr (by intro c a w t v h; cases t<;>exact h) kr rfl λa b=>atk 3 (some 196) b q rfl (vld 2 17 0) λa b=>atk 5 (some 198) b q rfl (vld 1 1 0) λa b=>ago 6 b rfl (wC (KT:=32) (E:=3) (kt:=(kInt .u64)) (agg:=false) (t:=(fInt .i64).ty) b d kr 12 7 (k:=e.Id) rfl kr kr rfl rfl kr kr λgL a w hsub b d=>⟨λ_=>(d.sx [1,2,3,8,9,10,11,13,14,15] (ra 1 16)),?_⟩)
 refine kM ?_
 cases H
 exact j7 b d (mI Tryz.results33) ⟨p8,c9,U,V,G,I,S,ah,X,ai,(some b7),cR,g,an,D,gL,ab,F,al,ad,y,A,p,ao,Y,ak,am,B,C,Q,R,cS,cT,rfl,d.sp [3,4,5,6,7,8,9,10,1,11,12,13,14,15] [5,6,7,0,9,10,11,12,13,1]⟩
 refine sk ?_
 cases H
 exact j7 b d (mI Tryz.results33) ⟨p8,c9,U,V,G,I,S,ah,X,ai,(some b7),cR,g,an,D,ae,ab,F,al,ad,y,A,p,ao,Y,ak,am,B,C,Q,R,u,x,rfl,d.sp [2,3,4,5,6,7,8,9,0,10,11,12,13,14] (ra 2 10)⟩
 refine qr λ_ gM=>wp 2 [0,1,5,26,199] b λa b=>gM _ _ (bc b H (λhb H=>?_) λhb H=>?_)
 refine qs λ_ gN=>rgS d [11] ?_
 have d:=d.drew
 have q:=d.fx
 refine jO [0,1,2,4] [0,5,204,206] (L':=[k2g f,k2d Z,(204,pt f 29),(206,pt Z 1)]) (listed':=(mU 13 23)) (fuel:=9) b q kr (by intro c a w t v h; cases t<;>exact h) kr rfl λa b=>atk 3 (some 205) b q rfl (vld 1 18 0) λa b=>atk 5 (some 207) b q rfl (vld 0 1 0) λa b=>bd H λaI fb H=>?_
 obtain ⟨_,⟨⟨em,eo⟩,rfl,hR⟩,hvx300⟩:=vN (P:=Tryz.prog) (KT:=32) (E:=95) (kt:=(kInt .u64)) (agg:=true) (t:=kX) (L:=[k2g f,k2d Z,(204,pt f 29),(205,.map F),(206,pt Z 1),(207,vu e.Id)]) (o:=⟨(some 208),(Go.Op.lookup 77 (Go.Operand.tmp 205) (Go.Operand.tmp 207) true),151,"gate.go:379",#[(Go.Edge.mk 3 Go.Ground.data),(Go.Edge.mk 5 Go.Ground.data)],none⟩) d 4 (k:=e.Id) (zc:=flat (k0v empty)) (zm:=(j3.mk 0 false empty 0 ([]:List jC))) rfl kr kr rfl fb kr kr kr DB
 have d:=d.adds hR
 refine atk 6 (some 208) b (d.sx [0,1,6,7,8,9,10,11,12,13,14] (ra 1 12)) rfl (λw hw=>hvx300 8 rfl w hw) λa b=>anp [7,8] [0,5,201,209] b (d.sx [0,1,6,7,8,9,10,11,12,13,14] (ra 1 12)) λa b=>tU [9] [0,5,209,210] b (λ_=>d.sx [0,1,6,7,8,9,10,11,12,13,14] (ra 1 12)) λa b=>?_
 have b:Fr (446) _ [k2g f,k2d Z,(209,.agg (flat [si aI.1.id,sb aI.1.read,sg aI.1.key,su aI.1.at_,sl em (aI.1.writes).length eo]).toArray),(210,vb aI.2)] a:=b.kp [0,5,209,210]
 refine ago 10 b rfl (wal b d (k0v empty) (sgN 5 jE) λep a w b d=>⟨λ_=>(d.sx [1,2,7,8,9,10,11,12,13,14,15] (ra 1 12)),?_⟩)
 refine ago 11 b rfl (wst b d 0 0 5 (k0u aI.1.id aI.1.read aI.1.key aI.1.at_ em (aI.1.writes).length eo) (sgN 5 jE) λa w b d=>⟨notE,?_⟩)
 refine tU [12] [0,5,17,18] b notE λa b=>?_
 have b:Fr (446) _ [k2g f,k2d Z,(17,pt ep 0),(18,vb aI.2)] a:=b.kp [0,5,17,18]
 refine kM (gN _ _ (qs λ_ gO=>qr λ_ gP=>wp 2 [0,5,17,212] b λa b=>gP _ _ (bc b H (λhb H=>?_) λhb H=>?_)))
 refine rt ?_
 cases H
 exact j7 b d (mI Tryz.results33) ⟨p8,c9,U,V,G,I,S,ah,X,ai,az,aE,g,an,D,ae,ab,F,al,ad,y,A,p,ao,Y,ak,am,B,C,Q,R,u,x,rfl,d.sp (ra 2 14) (ra 1 10)⟩
 refine sk (gO _ _ (qs λ_ gQ=>rgX d [0,1,2,7,8,9,10,11,12,14,15] ?_))
 have d:=d.drew
 have q:=d.px [0,1,2,7,8,9,10,11,12,14,15]
 refine jO [0,1,2,4] [0,5,17,215,217] (L':=[k2g f,k2d Z,(17,pt ep 0),(215,pt f 29),(217,pt Z 1)]) (listed':=(mU 7 23)) (fuel:=3) b q kr (by intro c a w t v h; cases t<;>exact h) kr rfl λa b=>atk 3 (some 216) b q rfl (vld 2 18 0) λa b=>atk 5 (some 218) b q rfl (vld 1 1 0) λa b=>ago 6 b rfl (wC (KT:=32) (E:=95) (kt:=(kInt .u64)) (agg:=true) (t:=kX) b d kr 13 5 (k:=e.Id) rfl kr kr rfl rfl kr kr λcy a w hsub b d=>⟨λ_=>(d.sx [0,1,2,7,8,9,10,11,12,14,15] (ra 1 13)),?_⟩)
 refine kM (gQ _ _ (qr λ_ gR=>bd H λb8 bU H=>kA (λa w => ∃κ bP,Fr (446) [] [k2g f,k2d Z,(19,pt bP 0)] a∧SS Ms κ0 w0 κ w [k3v Z e.Kind e.Id e.N e.TS e.Lo e.Hi bi (e.Vers).length bj bl (e.Vec).length bm e.Cmd.Kind e.Cmd.DC e.Cmd.Shard e.Cmd.Node e.Cmd.Mode e.Cmd.Key,k40 f a1 a2 aJ a4 a5 a6 p8 (a7.Cuts).length c9 U (a7.Nodes).length V aq G W.length I ar S X az ay g au D F y J.length A p aH ak aD aG B O.length C av Q aj.length R u K.length x,.box bP 52 [si aI.1.id,si 1,sb (e.N==2),sb b8,sg empty,sg empty,k2p,su 0,si 0,si 0,su 0,si 0,si 0],k3d y J.length A,k3e B O.length C,k2s Q aj.length R,k2w u K.length x,.ext (ownX jN 4 G I W),k2c S ah aR,k3f X ai aW,k3g az aE bC,.ext (arrX j6 g an aO),mx D ae ab,mx F cy ad,mx p ao Y,k2y ak am aX] [k2l p8 c9 a7.Cuts,k2m U V a7.Nodes,(ml g 4),k3h D ae ab bg,k3i F cy ad (mDel bh e.Id),k3j y A J,k3k p ao Y a9,k2v B C O,k2t Q R aj,k2x u x K,k2u bi bj e.Vers,k2v bl bm e.Vec]∧True) ?_ ?_))
 refine wp 1 [0,5,219] b λa b=>wc (wld b d 0 0 0 λa b=>wp 1 [0,5,220,221] b λa b=>wc (wld b d 1 2 0 λa b=>wp 2 [0,5,220,223,224] b λa b=>wc (wld b d 1 2 0 λa b=>wp 2 [0,5,220,223,227] b λa b=>bs bU (λhb bU=>?_) λhb bU=>?_)))
 have b:=b.bv 227 hb
 refine wp 1 [0,5,220,223,227,228] b λa b=>wcg b (wld b d 1 6 0 λa b=>wp 4 [0,5,233] b λa b=>wc (wal b d (k1h empty) (sgN 13 jE) λgS a w b d=>wc (wst b d 0 0 13 [si aI.1.id,si 1,sb (e.N==2),(sb (((e.Vers).length:Int)==1)),sg empty,sg empty,k2p,su 0,si 0,si 0,su 0,si 0,si 0] (sgN 13 jE) λa w b d=>?_)))
 refine nl ?_
 cases bU
 exact ⟨_,gS,b.kp [0,5,19],d.sp [2,3,0,4,5,6,7,8,9,10,11,12,13,14,15,16] [2,3,4,5,0,7,8,9,10,11,12,13],trivial⟩
 have b:=b.bv 227 hb
 refine wp 6 [0,5,233] b λa b=>wc (wal b d (k1h empty) (sgN 13 jE) λgT a w b d=>wc (wst b d 0 0 13 [si aI.1.id,si 1,sb (e.N==2),k2p,sg empty,sg empty,k2p,su 0,si 0,si 0,su 0,si 0,si 0] (sgN 13 jE) λa w b d=>?_))
 refine nl ?_
 cases bU
 exact ⟨_,gT,b.kp [0,5,19],d.sp [2,3,0,4,5,6,7,8,9,10,11,12,13,14,15,16] [2,3,4,5,0,7,8,9,10,11,12,13],trivial⟩
 rintro a w ⟨κ,bP,b,d,-⟩
 refine gR _ _ (m9 (λa w => ∃κ b9 ca cb cc cd ce,Fr (446) [] [k2g f,(19,pt bP 0)] a∧SS Ms κ0 w0 κ w [k40 f a1 a2 aJ a4 a5 a6 p8 (a7.Cuts).length c9 U (a7.Nodes).length V aq G W.length I ar S X az ay g au D F y J.length A p aH ak aD aG B O.length C av Q aj.length R u K.length x,.box bP 52 [si aI.1.id,si 1,sb (e.N==2),sb b8,sg b9,sg ca,sb cb,su cc,si cd,si ce,su 0,si 0,si 0],k3d y J.length A,k3e B O.length C,k2s Q aj.length R,k2w u K.length x,.ext (ownX jN 4 G I W),k2c S ah aR,k3f X ai aW,k3g az aE bC,.ext (arrX j6 g an aO),mx D ae ab,mx F cy ad,mx p ao Y,k2y ak am aX] (k1g p8 c9 a7.Cuts U V a7.Nodes (ml g 4) D ae ab bg F cy ad (mDel bh e.Id) y A J p ao Y a9 B C O Q R aj u x K)∧M.nV N a1 a2 a4 a5 a6 a7 W aR aW bC ay aO bg bh J a9 aH aX aD aG O aj K e aI b8 b9 ca cb cc cd ce=some r) ?_ ?_)
 refine qr λ_ gU=>wp 1 [0,5,19,234] b λa b=>wc (wld b d 2 3 0 λa b=>gU _ _ (bc b H (λhb H=>?_) λhb H=>?_))
 refine rl (jG (L':=[k2g f,(19,pt bP 0),(236,pt Z 6)]) 1 [0,19,236] b kr λa b=>wc (wld b d 0 6 0 λa b=>bd H λbf dA H=>wc (kS b d kr 10 (E:=48) (sz:=6) rfl rfl rfl kr rfl dA kr kr λiD iE a eq b=>wc (qT (t:=jF) b d kr 10 rfl rfl eq rfl dA kr kr kr λa b=>wp 1 [0,19,239,240] b λa b=>wc (wst b d 2 4 6 (k0n bf.Key bf.Val bf.Gone bf.TS bf.DC bf.Tx) (sgN 6 jE) λa w b d=>nl ?_)))))
 exact ⟨_,bf.Key,bf.Val,bf.Gone,bf.TS,bf.DC,bf.Tx,b.kp [0,19],d.sp (ra 1 15) (rg 10),H⟩
 refine sk ?_
 exact ⟨_,empty,empty,false,0,0,0,b.kp [0,19],d.sp (ra 1 15) (rg 10),H⟩
 rintro a w ⟨κ,b9,ca,cb,cc,cd,ce,b,d,H⟩
 unfold M.nV at H
 refine rgS d [10] ?_
 have d:=d.drew
 have q:=d.fx
 refine bd H λgV fc H=>jO (rg 4) [19,241,244] (L':=[(19,pt bP 0),(241,pt f 0),(244,pt f 43)]) (listed':=(mU 11 15)) (fuel:=7) b q kr (by intro c a w t v h; cases t<;>exact h) kr rfl λa b=>atk 4 (some 245) b q rfl (vld 0 28 0) λa b=>atk 5 (some 246) b q rfl (vls 1 0 13) λa b=>ago 6 b rfl (oU (t:=kN) (z := .agg (flat (k1h empty)).toArray) (l:=[(jM.mk aI.1.id 1 (e.N==2) b8 (jC.mk b9 ca cb cc cd ce) (mJ.mk 0 0 0))]) (vs:=[(0,.agg (flat [si aI.1.id,si 1,sb (e.N==2),sb b8,sg b9,sg ca,sb cb,su cc,si cd,si ce,su 0,si 0,si 0]).toArray)]) (cells := #[vi aI.1.id,vi 1,vb (e.N==2),vb b8,.string (b9),.string (ca),vb cb,vu cc,vi cd,vi ce,vu 0,vi 0,vi 0]) (E:=52) b d kr rfl kr kr rfl kr kr kr kr kr λiF κ a w b d=>?_)
 refine ⟨λ_=>(d.sx [1,2,7,8,9,10,11,12,13,14,15] (ra 1 10)),?_⟩
 refine ago 7 b rfl (kI (ty:=kN.ty) b d kr 6 10 0 rfl rfl rfl kr kr rfl rfl rfl fc kr (i:=Tryz.t52) (z := .agg (flat (k1h empty)).toArray) kr kr kr λer es κ a w b d=>⟨λ_=>(d.sx [1,2,7,8,9,10,11,12,13,14,15] (ra 2 10)),?_⟩)
 refine anp [8,9] [248,250] b (d.sx [1,2,7,8,9,10,11,12,13,14,15] (ra 2 10)) λa b=>ago 10 b rfl (wst b d 1 28 1 [sl er gV.length es] (sgN 1 jE) λa w b d=>⟨notE,?_⟩)
 refine kM ?_
 cases H
 exact j7 b d (mI Tryz.results33) ⟨p8,c9,U,V,G,I,S,ah,X,ai,az,aE,g,an,D,ae,ab,F,cy,ad,y,A,p,ao,Y,ak,am,B,C,Q,R,er,es,rfl,d.sp [1,3,4,5,6,7,8,9,10,11,12,13,14,15] [2,3,4,5,6,7,8,9,10,0]⟩
 refine qr λ_ gW=>wp 2 [0,1,5,26,251] b λa b=>gW _ _ (bc b H (λhb H=>?_) λhb H=>?_)
 refine qs λ_ gX=>rgS d [11] ?_
 have d:=d.drew
 have q:=d.fx
 refine jO [0,1,2,4] [0,5,256,258] (L':=[k2g f,k2d Z,(256,pt f 31),(258,pt Z 1)]) (listed':=(mU 13 23)) (fuel:=9) b q kr (by intro c a w t v h; cases t<;>exact h) kr rfl λa b=>atk 3 (some 257) b q rfl (vld 1 20 0) λa b=>atk 5 (some 259) b q rfl (vld 0 1 0) λa b=>bd H λj fd H=>?_
 obtain ⟨_,⟨⟨bq,br⟩,rfl,hR⟩,hvx330⟩:=vN (P:=Tryz.prog) (KT:=32) (E:=138) (kt:=(kInt .u64)) (agg:=true) (t:=mD) (L:=[k2g f,k2d Z,(256,pt f 31),(257,.map p),(258,pt Z 1),(259,vu e.Id)]) (o:=⟨(some 260),(Go.Op.lookup 78 (Go.Operand.tmp 257) (Go.Operand.tmp 259) true),152,"gate.go:390",#[(Go.Edge.mk 3 Go.Ground.data),(Go.Edge.mk 5 Go.Ground.data)],none⟩) d 6 (k:=e.Id) (zc:=flat [si 0,si 0,si 0,k2j]) (zm:=(jB.mk 0 0 0 ([]:List ByteArray))) rfl kr kr rfl fd kr kr kr DA
 have d:=d.adds hR
 refine atk 6 (some 260) b (d.sx [0,1,6,7,8,9,10,11,12,13,14] (ra 1 12)) rfl (λw hw=>hvx330 9 rfl w hw) λa b=>anp [7,8] [0,5,253,261] b (d.sx [0,1,6,7,8,9,10,11,12,13,14] (ra 1 12)) λa b=>tU [9] [0,5,261,262] b (λ_=>d.sx [0,1,6,7,8,9,10,11,12,13,14] (ra 1 12)) λa b=>?_
 have b:Fr (446) _ [k2g f,k2d Z,(261,.agg (flat [si j.1.dc,si j.1.at_,si j.1.left,sl bq (j.1.keys).length br]).toArray),(262,vb j.2)] a:=b.kp [0,5,261,262]
 refine ago 10 b rfl (wal b d [si 0,si 0,si 0,k2j] (sgN 4 jE) λaL a w b d=>⟨λ_=>(d.sx [1,2,7,8,9,10,11,12,13,14,15] (ra 1 12)),?_⟩)
 refine ago 11 b rfl (wst b d 0 0 4 [si j.1.dc,si j.1.at_,si j.1.left,sl bq (j.1.keys).length br] (sgN 4 jE) λa w b d=>⟨notE,?_⟩)
 refine tU [12] [0,5,20,21] b notE λa b=>?_
 have b:Fr (446) _ [k2g f,k2d Z,(20,pt aL 0),(21,vb j.2)] a:=b.kp [0,5,20,21]
 refine kM (gX _ _ (qs λ_ gY=>qr λ_ gZ=>wp 2 [0,5,20,264] b λa b=>gZ _ _ (bc b H (λhb H=>?_) λhb H=>?_)))
 refine rt ?_
 cases H
 exact j7 b d (mI Tryz.results33) ⟨p8,c9,U,V,G,I,S,ah,X,ai,az,aE,g,an,D,ae,ab,F,al,ad,y,A,p,ao,Y,ak,am,B,C,Q,R,u,x,rfl,d.sp (ra 2 14) (ra 1 10)⟩
 refine sk (gY _ _ (qs λ_ g0=>qr λ_ g1=>wp 1 [0,5,20,265] b λa b=>wc (wld b d 0 2 0 λa b=>wp 2 [0,5,20,267,268] b λa b=>wc (wst b d 0 2 1 [si (i64.wrap (j.1.left-1))] (sgN 1 jE) λa w b d=>g1 _ _ (qr λ_ g2=>wp 1 [0,5,20,269] b λa b=>wc (wld b d 0 2 0 λa b=>wp 1 [0,5,20,271] b λa b=>g2 _ _ (bc b H (λhb H=>?_) λhb H=>?_)))))))
 refine qs λ_ g3=>rgX d [0,1,2,7,8,9,10,11,12,13,15] ?_
 have d:=d.drew
 have q:=d.px [0,1,2,7,8,9,10,11,12,13,15]
 refine jO [0,1,2,4] [20,274,276] (L':=[(20,pt aL 0),(274,pt f 31),(276,pt Z 1)]) (listed':=(mU 8 23)) (fuel:=4) b q kr (by intro c a w t v h; cases t<;>exact h) kr rfl λa b=>atk 3 (some 275) b q rfl (vld 2 20 0) λa b=>atk 5 (some 277) b q rfl (vld 1 1 0) λa b=>atk 6 (some 278) b q rfl (vls 0 0 4) λa b=>ago 7 b rfl (bd H λiG fe H=>pV (KT:=32) (E:=138) (kt:=(kInt .u64)) (agg:=true) (t:=mD) b d kr 14 7 (k:=e.Id) (v:=(jB.mk j.1.dc j.1.at_ (i64.wrap (j.1.left-1)) j.1.keys)) (cs:=flat [si j.1.dc,si j.1.at_,si (i64.wrap (j.1.left-1)),sl bq (j.1.keys).length br]) rfl kr kr kr ⟨(bq,br),rfl,(d.pick [0] kr).ro⟩ rfl rfl fe kr kr λg4 g5 a w b d=>?_)
 refine ⟨λ_=>(d.sx [0,1,2,7,8,9,10,11,12,13,15] (ra 1 13)),?_⟩
 refine kM (g3 _ _ (rt ?_))
 cases H
 exact j7 b d (mI Tryz.results33) ⟨p8,c9,U,V,G,I,S,ah,X,ai,az,aE,g,an,D,ae,ab,F,al,ad,y,A,p,g4,g5,ak,am,B,C,Q,R,u,x,rfl,d.sp (ra 2 14) [2,3,4,5,6,7,0,9,10,11]⟩
 refine sk (g0 _ _ (qs λ_ g6=>rgX d [0,1,2,7,8,9,10,11,12,13,15] ?_))
 have d:=d.drew
 have q:=d.px [0,1,2,7,8,9,10,11,12,13,15]
 refine jO [0,1,2,4] [0,20,281,283] (L':=[k2g f,(20,pt aL 0),(281,pt f 31),(283,pt Z 1)]) (listed':=(mU 7 23)) (fuel:=3) b q kr (by intro c a w t v h; cases t<;>exact h) kr rfl λa b=>atk 3 (some 282) b q rfl (vld 2 20 0) λa b=>atk 5 (some 284) b q rfl (vld 1 1 0) λa b=>ago 6 b rfl (wC (KT:=32) (E:=138) (kt:=(kInt .u64)) (agg:=true) (t:=mD) b d kr 14 7 (k:=e.Id) rfl kr kr rfl rfl kr kr λbF a w hsub b d=>⟨λ_=>(d.sx [0,1,2,7,8,9,10,11,12,13,15] (ra 1 13)),?_⟩)
 refine kM (g6 _ _ (qs λ_ g7=>bd H λg8 aY H=>kJ (λa w => ∃κ cU,Fr (446) [] [k2g f,(20,pt aL 0),(301,vb g8)] a∧SS Ms κ0 w0 κ w (k1i aL j.1.dc j.1.at_ (i64.wrap (j.1.left-1)) bq (j.1.keys).length br f a1 a2 aJ a4 a5 a6 p8 (a7.Cuts).length c9 U (a7.Nodes).length V aq G W.length I ar S X az ay g au D F y J.length A p aH ak aD aG B O.length C av Q aj.length R u K.length x (ownX jN 4 G I W) ah aR ai aW aE bC (arrX j6 g cU aO) ae ab al ad bF Y am aX) (k1j p8 c9 a7.Cuts U V a7.Nodes (ml g 4) D ae ab bg F al ad bh y A J p bF Y (mDel a9 e.Id) B C O Q R aj u x K bq br j.1.keys)∧True) ?_ ?_))
 refine bd aY λiH bV aY=>?_
 obtain ⟨et,bJ⟩:=d.arrIdx 11 rfl bV
 have d:=d.add (m:=MP.const (idx g j.1.dc=some et)) bJ
 have bW:idx g j.1.dc=some et:=d.get 0 rfl
 obtain ⟨ih,ii,d⟩:=d.arrTakeP 11 rfl bV bW
 refine kU aY (λbD aY=>?_) (λiI bD aY=>?_)
 obtain ⟨aw,d⟩:=d.optN 0 rfl bD
 have fg:=b
 subst aw
 have b:=fg
 obtain ⟨dB,d⟩:=d.arrBackI 0 1 (ra 2 15) dc rfl rfl bW (bV.trans (congrArg some bD))
 refine bd aY λiJ bX aY=>kJ (λa w => ∃κ:Gh,Fr (446) [] [k2g f,(20,pt aL 0),(301,vb false)] a∧SS Ms κ0 w0 κ w (k1i aL j.1.dc j.1.at_ (i64.wrap (j.1.left-1)) bq (j.1.keys).length br f a1 a2 aJ a4 a5 a6 p8 (a7.Cuts).length c9 U (a7.Nodes).length V aq G W.length I ar S X az ay g au D F y J.length A p aH ak aD aG B O.length C av Q aj.length R u K.length x (ownX jN 4 G I W) ah aR ai aW aE bC (arrX j6 g dB aO) ae ab al ad bF Y am aX) (k1j p8 c9 a7.Cuts U V a7.Nodes (ml g 4) D ae ab bg F al ad bh y A J p bF Y (mDel a9 e.Id) B C O Q R aj u x K bq br j.1.keys)∧True) ?_ ?_
 refine rgS d [] ?_
 have d:=d.drew
 have q:=d.fx
 refine anp [0,2,3,4] [0,20,285,289] b q λa b=>atk 1 (some 286) b q rfl (vld 1 0 0) λa b=>atk 5 (some 290) b q rfl (vld 3 0 0) λa b=>anp [6,7] [0,20,292] b q λa b=>bs bX (λhb bX=>?_) λhb bX=>?_
 have b:=b.bv 292 hb
 refine jO [8,9,11,12] [0,20,292,294,297] (L':=[k2g f,(20,pt aL 0),(292,vb true),(294,pt aL 0),(297,pt f 16)]) (listed':=(mU 17 7167)) (fuel:=5) b q kr (by intro c a w t v h; cases t<;>exact h) kr rfl λa b=>atk 10 (some 295) b q rfl (vld 1 0 0) λa b=>atk 13 (some 298) b (d.sx [0,1,2,3,8,9,10,11,12,13,14,15] (rg 15)) rfl (λw _=>lU (E:=81) (sz:=1) (n:=4) rfl rfl (i:=j.1.dc) rfl (m1 bJ (d.get 5 rfl)) kr kr w) λa b=>atk 14 (some 299) b (d.sx [0,1,2,3,8,9,10,11,12,13,14,15] (rg 15)) rfl (rV (t:=pF) 3 15 (v := .pointer none) rfl rfl rfl rfl bJ rfl rfl kr kr) λa b=>?_
 refine anp [15,16] [0,20,301] b (d.sx [0,1,2,3,8,9,10,11,12,13,14,15] (rg 15)) λa b=>kM ?_
 cases bX
 exact ⟨_,b.kp [0,20,301],d.sp [1,3,4,5,6,7,8,9,10,11,0,12,13,14,15] [3,4,5,6,7,8,1,10,11,12,2],trivial⟩
 have b:=b.bv 292 hb
 refine anp (ra 8 9) [0,20,301] b q λa b=>kM ?_
 cases bX
 exact ⟨_,b.kp [0,20,301],d.sp [1,3,4,5,6,7,8,9,10,11,0,12,13,14,15] [3,4,5,6,7,8,1,10,11,12,2],trivial⟩
 rintro a w ⟨κ,b,d,-⟩
 cases aY
 exact ⟨_,dB,b.kp [0,20,301],d.sp (rg 15) (rg 11),trivial⟩
 obtain ⟨g9,aw,d⟩:=d.optS 0 rfl bD
 have fh:=b
 subst aw
 have b:=fh
 refine bd aY λha bY aY=>kJ (λa w => ∃κ cV,Fr (446) [] [k2g f,(20,pt aL 0),(301,vb ha)] a∧SS Ms κ0 w0 κ w (k1i aL j.1.dc j.1.at_ (i64.wrap (j.1.left-1)) bq (j.1.keys).length br f a1 a2 aJ a4 a5 a6 p8 (a7.Cuts).length c9 U (a7.Nodes).length V aq G W.length I ar S X az ay g au D F y J.length A p aH ak aD aG B O.length C av Q aj.length R u K.length x (ownX jN 4 G I W) ah aR ai aW aE bC (arrX j6 g cV aO) ae ab al ad bF Y am aX) (k1j p8 c9 a7.Cuts U V a7.Nodes (ml g 4) D ae ab bg F al ad bh y A J p bF Y (mDel a9 e.Id) B C O Q R aj u x K bq br j.1.keys)∧True) ?_ ?_
 refine rgS d [] ?_
 have d:=d.drew
 have q:=d.fx
 refine anp [0,2,3,4] [0,20,285,289] b q λa b=>atk 1 (some 286) b q rfl (vld 2 0 0) λa b=>atk 5 (some 290) b q rfl (vld 4 0 0) λa b=>anp [6,7] [0,20,292] b q λa b=>bs bY (λhb bY=>?_) λhb bY=>?_
 have b:=b.bv 292 hb
 refine jO [8,9,11,12] [0,20,292,294,297] (L':=[k2g f,(20,pt aL 0),(292,vb true),(294,pt aL 0),(297,pt f 16)]) (listed':=(mU 17 7167)) (fuel:=5) b q kr (by intro c a w t v h; cases t<;>exact h) kr rfl λa b=>atk 10 (some 295) b q rfl (vld 2 0 0) λa b=>atk 13 (some 298) b (d.sx [0,1,2,3,4,9,10,11,12,13,14,15,16] (rg 15)) rfl (λw _=>lU (E:=81) (sz:=1) (n:=4) rfl rfl (i:=j.1.dc) rfl (m1 bJ (d.get 5 rfl)) kr kr w) λa b=>atk 14 (some 299) b (d.sx [0,1,2,3,4,9,10,11,12,13,14,15,16] (rg 15)) rfl (rV (t:=pF) 4 15 (v:=pt g9 0) rfl rfl rfl rfl bJ rfl rfl kr kr) λa b=>?_
 refine anp [15,16] [0,20,301] b (d.sx [0,1,2,3,4,9,10,11,12,13,14,15,16] (rg 15)) λa b=>kM ?_
 obtain ⟨fi,d⟩:=d.arrBackI 0 1 (ra 2 15) dc rfl rfl bW (bV.trans (congrArg some bD))
 cases bY
 exact ⟨_,fi,b.kp [0,20,301],d.sp [1,3,4,5,6,7,8,9,10,11,0,12,13,14,15] [3,4,5,6,7,8,1,10,11,12,2],trivial⟩
 have b:=b.bv 292 hb
 refine anp (ra 8 9) [0,20,301] b q λa b=>kM ?_
 obtain ⟨fj,d⟩:=d.arrBackI 0 1 (ra 2 15) dc rfl rfl bW (bV.trans (congrArg some bD))
 cases bY
 exact ⟨_,fj,b.kp [0,20,301],d.sp [1,3,4,5,6,7,8,9,10,11,0,12,13,14,15] [3,4,5,6,7,8,1,10,11,12,2],trivial⟩
 rintro a w ⟨κ,cV,b,d,-⟩
 cases aY
 exact ⟨_,cV,b.kp [0,20,301],d.sp (rg 15) (rg 11),trivial⟩
 rintro a w ⟨κ,cU,b,d,-⟩
 refine g7 _ _ (bc b H (λhb H=>?_) λhb H=>?_)
 refine qs λ_ hd=>bd H λiK cW H=>?_
 obtain ⟨eu,cz⟩:=d.arrIdx 10 rfl cW
 have d:=d.add (m:=MP.const (idx g j.1.dc=some eu)) cz
 have cA:idx g j.1.dc=some eu:=d.get 0 rfl
 obtain ⟨ij,ik,d⟩:=d.arrTakeP 10 rfl cW cA
 refine kU H (λbZ H=>?_) (λhe bZ H=>?_)
 obtain ⟨aw,d⟩:=d.optN 0 rfl bZ
 have fk:=b
 subst aw
 have b:=fk
 obtain ⟨il,d⟩:=d.arrBackI 0 1 (ra 2 14) dc rfl rfl cA (cW.trans (congrArg some bZ))
 cases H
 obtain ⟨dl,aw,d⟩:=d.optS 0 rfl bZ
 have fl:=b
 subst aw
 have b:=fl
 obtain ⟨⟨hf,hg,hh,hi,hj,hk,hl⟩,d⟩:=d.unfI (ck:=lO) (fs:=lN) 0 rfl
 refine rga (λ_=>True) [] ?_
 have d:=d.drew
 refine jO [0,1,3,4,7] [0,20,303,306,309] (L':=[k2g f,(20,pt aL 0),(303,pt aL 0),(306,pt f 16),(309,pt aL 1)]) (listed':=(mU 10 155)) (fuel:=5) b trivial kr (by intro c a w t v h; cases t<;>exact h) kr rfl λa b=>mG d [9] (atk 2 (some 304) b (d.sx [0,2,3,4,5,6,11,12,13,14,15,16,17,18] (rg 14)) rfl (vld 4 0 0) λa b=>atk 5 (some 307) b (d.sx [0,2,3,4,5,6,11,12,13,14,15,16,17,18] (rg 14)) rfl (λw _=>lU (E:=81) (sz:=1) (n:=4) rfl rfl (i:=j.1.dc) rfl (m1 cz (d.get 5 rfl)) kr kr w) λa b=>?_)
 refine atk 6 (some 308) b (d.sx [0,2,3,4,5,6,11,12,13,14,15,16,17,18] (rg 14)) rfl (rV (t:=pF) 5 15 (v:=pt dl 0) rfl rfl rfl rfl cz rfl rfl kr kr) λa b=>atk 8 (some 310) b (d.sx [0,2,3,4,5,6,11,12,13,14,15,16,17,18] (rg 14)) rfl (vld 4 1 0) λa b=>ago 9 b rfl (bd H λew fm H=>wcS 4 (rg 19) b d (λd=>A8 N he j.1.at_ hf hg hh hi hj hk hl dl (d.sbK [0,1]) fm) ?_)
 rintro _ κ w a ⟨hm,hn,hp,hq,hr,hs,ht,rfl,h2⟩ b hB
 have d:=hB _ _ h2
 refine ⟨notE,?_⟩
 refine kM ?_
 obtain ⟨im,d⟩:=d.foldI (ck:=lO) (fs:=lN) dl (hm,hn,hp,hq,hr,hs,ht) ew.2 (rg 4) (ra 4 15) [0,1] dc kr kr
 obtain ⟨io,d⟩:=d.arrPutI 0 1 (ra 2 14) dc rfl rfl cA
 refine hd _ _ (bd H λiL cu H=>?_)
 obtain ⟨ex,cB⟩:=d.arrIdx 0 rfl cu
 have d:=d.add (m:=MP.const (idx g j.1.dc=some ex)) cB
 have cD:idx g j.1.dc=some ex:=d.get 0 rfl
 obtain ⟨ip,fn,d⟩:=d.arrTakeP 0 rfl cu cD
 refine kU H (λbK H=>?_) (λbG bK H=>?_)
 obtain ⟨aw,d⟩:=d.optN 0 rfl bK
 have fo:=b
 subst aw
 have b:=fo
 obtain ⟨iq,d⟩:=d.arrBackI 0 1 (ra 2 14) dc rfl rfl cD (cu.trans (congrArg some bK))
 cases H
 obtain ⟨cX,aw,d⟩:=d.optS 0 rfl bK
 have fp:=b
 subst aw
 have b:=fp
 obtain ⟨⟨cY,cZ,c0,c1,c2,dm,dn⟩,d⟩:=d.unfI (ck:=lO) (fs:=lN) 0 rfl
 refine bd H λbt ho H=>?_
 obtain ⟨cE,aw,d⟩:=d.optS 12 rfl ho
 rw [aw] at d
 try rw [aw] at b
 obtain ⟨⟨dp,dq⟩,d⟩:=d.unfI (ck:=jR) (fs:=jP) 12 rfl
 refine rga (λ_=>True) [] ?_
 have d:=d.drew
 refine jO [0,1,2,4,6,7,9,10] [314,316,319,322] (L':=[(314,pt f 12),(316,pt aL 0),(319,pt aL 0),(322,pt f 16)]) (listed':=(mU 15 1751)) (fuel:=7) b trivial kr (by intro c a w t v h; cases t<;>exact h) kr rfl λa b=>mG d [14] (atk 3 (some 315) b (d.sx [0,1,2,4,5,6,7,8,13,14,15,16,17,18,19] (rg 23)) rfl (vld 7 11 0) λa b=>atk 5 (some 317) b (d.sx [0,1,2,4,5,6,7,8,13,14,15,16,17,18,19] (rg 23)) rfl (vld 6 0 0) λa b=>?_)
 refine atk 8 (some 320) b (d.sx [0,1,2,4,5,6,7,8,13,14,15,16,17,18,19] (rg 23)) rfl (vld 6 0 0) λa b=>atk 11 (some 323) b (d.sx [0,1,2,4,5,6,7,8,13,14,15,16,17,18,19] (rg 23)) rfl (λw _=>lU (E:=81) (sz:=1) (n:=4) rfl rfl (i:=j.1.dc) rfl (m1 cB (d.get 14 rfl)) kr kr w) λa b=>atk 12 (some 324) b (d.sx [0,1,2,4,5,6,7,8,13,14,15,16,17,18,19] (rg 23)) rfl (rV (t:=pF) 7 15 (v:=pt cX 0) rfl rfl rfl rfl cB rfl rfl kr kr) λa b=>?_
 refine ago 13 b rfl (bd H λhu fq H=>wcS 3 [2,4,5,0,1,3,6,7,8,9,10,11,12,13,14,15,16,17,18,19] b d (λd=>xE N bG cY cZ c0 c1 c2 dm dn cX (d.sbK [4,5]) fq) ?_)
 rintro _ κ w a ⟨rfl,h2⟩ b hB
 have d:=(hB _ _ h2).cC (C':=[k35 cX bG.base cY (bG.list).length cZ bG.handed c0 (bG.done).length c1 c2 bG.got,.ext (ownX jN 4 c0 c1 bG.done),mx c2 dm dn,k2f cE bt.dc dp (bt.beats).length dq bt.got.Epoch bt.got.Has bt.got.T bt.known.Epoch bt.known.Has bt.known.T bt.stable,.ext (ownX (fInt .u64) 32 dp dq bt.beats),k30 cY (bG.list).length cZ,.ext (arrX j6 (set g (toNat j.1.dc) none) fn (set (set aO (toNat j.1.dc) (some ew.2)) (toNat j.1.dc) none)),.box aL 138 [si j.1.dc,si j.1.at_,si (i64.wrap (j.1.left-1)),sl bq (j.1.keys).length br],.box f 87 [si a1,si a2,(1,aJ),si a4,si a5,si a6,sl p8 (a7.Cuts).length c9,sl U (a7.Nodes).length V,(1,aq),sl G W.length I,(2,ar),k34 cE,sp X,sp az,su ay,k3l g,(8,au),sm D,sm F,sl y J.length A,sm p,su aH,sp ak,si aD,si aG,sl B O.length C,(5,av),sl Q aj.length R,sl u K.length x],k3d y J.length A,k3e B O.length C,k2s Q aj.length R,k2w u K.length x,.ext (ownX jN 4 G I W),k3f X ai aW,k3g az aE bC,mx D ae ab,mx F al ad,mx p bF Y,k2y ak am aX])
 refine ⟨λ_=>(d.sx [3,4,0,1,2,6,7,8,13,14,15,16,17,18,19] (rg 23)),?_⟩
 refine ago 14 b rfl (bd H λhv fr H=>wcS 2 [3,4,0,1,2,5,6,7,8,9,10,11,12,13,14,15,16,17,18,19] b d (λd=>wP N bt j.1.dc hu dp dq cE (d.sbK (rg 4)) fr) ?_)
 rintro _ κ w a ⟨hx,hy,rfl,h2⟩ b hB
 have d:=hB _ _ h2
 refine ⟨notE,?_⟩
 refine kM ?_
 obtain ⟨ft,d⟩:=d.foldI (ck:=jR) (fs:=jP) cE (hx,hy) hv [0,1] (ra 2 18) (rg 4) dc kr kr
 obtain ⟨ir,d⟩:=d.foldI (ck:=lO) (fs:=lN) cX (cY,cZ,c0,c1,c2,dm,dn) bG [1,4,2,3] [0,5,6,7,8,9,10,11,12,13,14,15,16,17,18] [8,9] dc kr kr
 obtain ⟨fu,d⟩:=d.arrBackI 0 2 [1,3,4,5,6,7,8,9,10,11,12,13,14,15] dc rfl rfl cD (cu.trans (congrArg some bK))
 cases H
 exact j7 b d (mI Tryz.results33) ⟨p8,c9,U,V,G,I,(some cE),ft,X,ai,az,aE,g,fu,D,ae,ab,F,al,ad,y,A,p,bF,Y,ak,am,B,C,Q,R,u,x,rfl,d.sp [3,4,5,6,7,8,1,9,10,0,11,12,13,14] (ra 16 10)⟩
 refine sk ?_
 cases H
 exact j7 b d (mI Tryz.results33) ⟨p8,c9,U,V,G,I,S,ah,X,ai,az,aE,g,cU,D,ae,ab,F,al,ad,y,A,p,bF,Y,ak,am,B,C,Q,R,u,x,rfl,d.sp (ra 1 14) (rg 10)⟩
 refine qr λ_ hz=>wp 2 [0,1,5,26,327] b λa b=>hz _ _ (bc b H (λhb H=>?_) λhb H=>?_)
 refine rl (wp 1 [5,329] b λa b=>wc (wls b d 0 0 14 λa b=>bd H λdr fv H=>?_))
 have dE:=d.segs 1 rfl
 refine wc (wcS 4 [1,3,4,14,0,2,5,6,7,8,9,10,11,12,13] b d (λd=>AC N a1 aX aD aG O aj e (flat [si a2,(1,aJ),si a4,si a5,si a6,sl p8 (a7.Cuts).length c9,sl U (a7.Nodes).length V,(1,aq),sl G W.length I,(2,ar),sp S,sp X,sp az,su ay,k3l g,(8,au),sm D,sm F,sl y J.length A,sm p,su aH]) ak am B C av Q R [.slice u K.length x] bi bj bl bm f ((d.regr 0 [(false,1),(true,21),(false,7)] rfl).sbK [7,8,10,11]) fv) ?_)
 rintro _ κ w a ⟨ey,fw,ez,eA,eB,eC,rfl,h2⟩ b hB
 have d:=(hB _ _ h2).unregrK 0 [(false,1),(true,21),(false,7)] (s':=[si a1,si a2,(1,aJ),si a4,si a5,si a6,sl p8 (a7.Cuts).length c9,sl U (a7.Nodes).length V,(1,aq),sl G W.length I,(2,ar),sp S,sp X,sp az,su ay,k3l g,(8,au),sm D,sm F,sl y J.length A,sm p,su aH,sp ey,si aD,si dr.2.1,sl ez (dr.2.2.1).length eA,(5,av),sl eB (dr.2.2.2).length eC,sl u K.length x]) dE rfl
 refine nl ?_
 cases H
 exact j7 b d (mI Tryz.results33) ⟨p8,c9,U,V,G,I,S,ah,X,ai,az,aE,g,an,D,ae,ab,F,al,ad,y,A,p,ao,Y,ey,fw,ez,eA,eB,eC,u,x,rfl,d.sp [0,5,1,2,6,7,8,9,10,11,12,13,14,3] [2,3,4,5,6,7,8,0,1,11]⟩
 refine qr λ_ hA=>(jG (L':=[k2g f,k2a bI,k2d Z,(26,vi e.Kind),(332,vb (e.Kind==16))]) 2 [0,1,5,26,332] b kr λa b=>hA _ _ (bc b H (λhb H=>?_) λhb H=>?_))
 refine qs λ_ hC=>bd H λeD bH H=>kJ (λa w => ∃κ ds c3,Fr (446) [] [k2g f,(359,vb eD.2)] a∧SS Ms κ0 w0 κ w (k1f f a1 a2 aJ a4 a5 a6 p8 (a7.Cuts).length c9 U (a7.Nodes).length V aq G W.length I ar S X az ay g au D F y J.length A p aH ds aD aG B O.length C av Q aj.length R u K.length x (ownX jN 4 G I W) ah aR ai aW aE bC (arrX j6 g an aO) ae ab al ad ao Y c3 eD.1) (k1g p8 c9 a7.Cuts U V a7.Nodes (ml g 4) D ae ab bg F al ad bh y A J p ao Y a9 B C O Q R aj u x K)∧True) ?_ ?_
 refine kU bH (λho bH=>?_) (λdt ho bH=>?_)
 obtain ⟨aw,d⟩:=d.optN 14 rfl ho
 rw [aw] at d
 try rw [aw] at b
 refine rl (wp 3 [0,1,336] b λa b=>wc (wld b d 1 22 0 λa b=>wp 22 [0,359] b λa b=>nl ?_))
 cases bH
 exact ⟨_,none,[],b.kp [0,359],d.sp (ra 1 14) (rg 10),trivial⟩
 obtain ⟨cF,aw,d⟩:=d.optS 14 rfl ho
 rw [aw] at d
 try rw [aw] at b
 obtain ⟨_,d⟩:=d.unfI (ck:=l8) (fs:=l6) 14 rfl
 refine rl (bd bH λhD b0 bH=>kA (λa w => ∃κ c4,Fr (446) [] [k2g f,(359,vb hD)] a∧SS Ms κ0 w0 κ w [.box f 87 [si a1,si a2,(1,aJ),si a4,si a5,si a6,sl p8 (a7.Cuts).length c9,sl U (a7.Nodes).length V,(1,aq),sl G W.length I,(2,ar),sp S,sp X,sp az,su ay,k3l g,(8,au),sm D,sm F,sl y J.length A,sm p,su aH,k34 cF,si aD,si aG,sl B O.length C,(5,av),sl Q aj.length R,sl u K.length x],k3d y J.length A,k3e B O.length C,k2s Q aj.length R,k2w u K.length x,.ext (ownX jN 4 G I W),k2c S ah aR,k3f X ai aW,k3g az aE bC,.ext (arrX j6 g an aO),mx D ae ab,mx F al ad,mx p ao Y,k3x cF c4 dt] (k1g p8 c9 a7.Cuts U V a7.Nodes (ml g 4) D ae ab bg F al ad bh y A J p ao Y a9 B C O Q R aj u x K)∧True) ?_ ?_)
 refine wp 3 [0,1,336] b λa b=>wc (wld b d 2 22 0 λa b=>wp 5 [0,1,339,342] b λa b=>wcg b (wld b d 2 22 0 λa b=>wp 2 [0,1,339,345] b λa b=>wcg b (wld b d 0 5 0 λa b=>wp 3 [0,1,349] b λa b=>bs b0 (λhb b0=>?_) λhb b0=>?_)))
 have b:=b.bv 349 hb
 refine wp 4 [0,349,350,353] b λa b=>wcg b (wld b d 2 22 0 λa b=>wp 2 [0,349,350,356] b λa b=>wcg b (wld b d 0 4 0 λa b=>wp 2 [0,359] b λa b=>?_))
 obtain ⟨fy,d⟩:=d.foldI (ck:=l8) (fs:=l6) cF () dt [0] (ra 1 14) [] dc kr kr
 refine nl ?_
 cases b0
 exact ⟨_,fy,b.kp [0,359],d.sp [2,3,4,5,6,7,8,9,10,11,12,13,14,0] (rg 10),trivial⟩
 have b:=b.bv 349 hb
 refine wp 10 [0,359] b λa b=>?_
 obtain ⟨fz,d⟩:=d.foldI (ck:=l8) (fs:=l6) cF () dt [0] (ra 1 14) [] dc kr kr
 refine nl ?_
 cases b0
 exact ⟨_,fz,b.kp [0,359],d.sp [2,3,4,5,6,7,8,9,10,11,12,13,14,0] (rg 10),trivial⟩
 rintro a w ⟨κ,c4,b,d,-⟩
 cases bH
 exact ⟨_,(some cF),c4,b.kp [0,359],d.sp (rg 14) (rg 10),trivial⟩
 rintro a w ⟨κ,ds,c3,b,d,-⟩
 refine hC _ _ (bc b H (λhb H=>?_) λhb H=>?_)
 refine qs λ_ hE=>bd H λbQ ho H=>?_
 obtain ⟨c5,aw,d⟩:=d.optS 13 rfl ho
 rw [aw] at d
 try rw [aw] at b
 obtain ⟨_,d⟩:=d.unfI (ck:=l8) (fs:=l6) 13 rfl
 refine rgS d [29] ?_
 have d:=d.drew
 have q:=d.fx
 refine anp [0,1,2,3,5,6,7,9,10,11,16,17,18] [0,361,364,368,372,379] b q λa b=>atk 4 (some 365) b q rfl (vls 1 6 2) λa b=>atk 8 (some 369) b q rfl (vld 1 1 0) λa b=>atk 12 (some 373) b q rfl (vld 1 22 0) λa b=>anp [13,14] [0,361,365,369,375,379] b q λa b=>atk 15 (some 376) b q rfl (vld 0 3 0) λa b=>atk 19 (some 380) b q rfl (vld 1 22 0) λa b=>anp [20,21] [0,361,365,369,376,382] b q λa b=>atk 22 (some 383) b q rfl (vld 0 4 0) λa b=>ago 23 b rfl (bd H λaM fA H=>jS b d kr kr (xO N d.fresh a7 a2 bQ.shard bQ.to p8 c9 U V ((d.pick [0,1] kr).ro) fA) ?_)
 rintro _ κ w a ⟨bx,bz,bA,bB,rfl,hR,hN⟩ b d hO
 have d:=d.adds hR
 have d:=d.addC hO hN
 refine ⟨λ_=>(d.sx [2,3,8,9,10,11,12,13,14,15] (ra 2 10)),?_⟩
 refine anp [24,25,27,28] [0,360,385,388] b (d.sx [2,3,8,9,10,11,12,13,14,15] (ra 2 10)) λa b=>tU [26] [0,385,388] b (λ_=>d.sx [2,3,8,9,10,11,12,13,14,15] (ra 2 10)) λa b=>?_
 have b:Fr (446) _ [k2g f,(385,.agg (flat [sl bx (aM.1.Cuts).length bz,sl bA (aM.1.Nodes).length bB]).toArray),(388,pt f 6)] a:=b.kp [0,385,388]
 refine ago 29 b rfl (wst b d 3 6 2 (k04 bx (aM.1.Cuts).length bz bA (aM.1.Nodes).length bB) (sgN 2 jE) λa w b d=>⟨notE,?_⟩)
 refine kM ?_
 obtain ⟨it,d⟩:=d.foldI (ck:=l8) (fs:=l6) c5 () bQ [2] [0,1,3,4,5,6,7,8,9,10,11,12,13,14,15] [] dc kr kr
 refine hE _ _ (qs λ_ hG=>?_)
 obtain ⟨_,d⟩:=d.unfI (ck:=l8) (fs:=l6) 0 rfl
 refine rga (λ_=>True) [] ?_
 have d:=d.drew
 refine anp [0,1,2,3,9,10,11,17,18,19] [0,389,392,400,408] b trivial λa b=>mG d [26] (atk 4 (some 393) b (d.sx [0,3,8,9,10,11,12,13,14,15] (rg 12)) rfl (vld 1 22 0) λa b=>anp [5,6,7] [0,389,396,400,408] b (d.sx [0,3,8,9,10,11,12,13,14,15] (rg 12)) λa b=>atk 8 (some 397) b (d.sx [0,3,8,9,10,11,12,13,14,15] (rg 12)) rfl (vld 0 2 0) λa b=>atk 12 (some 401) b (d.sx [0,3,8,9,10,11,12,13,14,15] (rg 12)) rfl (vld 1 22 0) λa b=>anp [13,14,15] [0,389,397,404,408] b (d.sx [0,3,8,9,10,11,12,13,14,15] (rg 12)) λa b=>?_)
 refine atk 16 (some 405) b (d.sx [0,3,8,9,10,11,12,13,14,15] (rg 12)) rfl (vld 0 0 0) λa b=>atk 20 (some 409) b (d.sx [0,3,8,9,10,11,12,13,14,15] (rg 12)) rfl (vld 1 22 0) λa b=>anp [21,22,23] [0,389,397,405,412] b (d.sx [0,3,8,9,10,11,12,13,14,15] (rg 12)) λa b=>atk 24 (some 413) b (d.sx [0,3,8,9,10,11,12,13,14,15] (rg 12)) rfl (vld 0 1 0) λa b=>anp [25] [0,389,397,414] b (d.sx [0,3,8,9,10,11,12,13,14,15] (rg 12)) λa b=>ago 26 b rfl ?_
 have d:=d.add (m:=Ro.mp jF.ty none 0 ([]:List jC)) (Ro.nil jF.ty _ _)
 have d:=d.add (m:=Ro.mp (fInt .u64).ty none 0 ([]:List Int)) (Ro.nil (fInt .u64).ty _ _)
 refine bd H λeE fB H=>?_
 have dF:=d.segs 3 rfl
 refine wcS 2 [3,6,0,1,2,4,5,7,8,9,10,11,12,13,14,15] b d (λd=>lK N a1 aj bQ.span.Node (jK.mk 7 0 0 0 bQ.span.Lo bQ.span.Hi ([]:List jC) ([]:List Int) (jT.mk 0 0 0 0 0 empty)) (flat [si a2,(1,aJ),si a4,si a5,si a6,sl bx (aM.1.Cuts).length bz,sl bA (aM.1.Nodes).length bB,(1,aq),sl G W.length I,(2,ar),sp S,sp X,sp az,su ay,k3l g,(8,au),sm D,sm F,sl y J.length A,sm p,su aH,k34 c5,si aD,si aG,sl B O.length C,(5,av)]) Q R [.slice u K.length x] none 0 none 0 f ((d.regr 0 [(false,1),(true,26),(false,2)] rfl).sbK [12,1,0]) fB) ?_
 rintro _ κ w a ⟨eF,eG,rfl,h2⟩ b hB
 have d:=(hB _ _ h2).unregrK 0 [(false,1),(true,26),(false,2)] (s':=[si a1,si a2,(1,aJ),si a4,si a5,si a6,sl bx (aM.1.Cuts).length bz,sl bA (aM.1.Nodes).length bB,(1,aq),sl G W.length I,(2,ar),sp S,sp X,sp az,su ay,k3l g,(8,au),sm D,sm F,sl y J.length A,sm p,su aH,k34 c5,si aD,si aG,sl B O.length C,(5,av),sl eF eE.length eG,sl u K.length x]) dF rfl
 refine ⟨notE,?_⟩
 refine kM ?_
 obtain ⟨iu,d⟩:=d.foldI (ck:=l8) (fs:=l6) c5 () bQ [2] [0,1,3,4,5,6,7,8,9,10,11,12,13,14,15] [] dc kr kr
 refine hG _ _ (qr λ_ hH=>(wp 3 [0,418] b λa b=>wc (wst b d 1 22 1 [k3o] (sgN 1 jE) λa w b d=>(hH _ _ (qr λ_ hI=>(wp 3 [0,421] b λa b=>wc (wld b d 1 19 0 λa b=>wp 1 [0,22] b λa b=>(hI _ _ (qr λ_ hJ=>(wp 3 [0,22,425] b λa b=>wc (wst b d 1 19 1 [k2j] (sgN 1 jE) λa w b d=>(hJ _ _ (qr λ_ hK=>(wp 3 [0,426,427,428] b λa b=>(hK _ _ (bk (jX (n:=N) (λn a w => ∃κ c6 cG cv c7 c8 cg cH cI da ch cJ cK db,∃ci:List j3,∃cj cl dd cL cw de,∃cm:List i9,∃cn co cp,Fr (446) [] [k2g f,(426,.slice y J.length A),(427,vi (J.length:Int)),(428,vi cp)] a∧SS Ms κ0 w0 κ w [k40 f a1 a2 aJ a4 a5 c6 bx (aM.1.Cuts).length bz bA (aM.1.Nodes).length bB aq G W.length I ar S X cG c8 g au cg ch cj ci.length cl p dd cL aD aG B O.length C av cn cm.length co u K.length x,k3d cj ci.length cl,k2s cn cm.length co,.tok bx 9 1 (aM.1.Cuts).length bz,.tok bA 3 1 (aM.1.Nodes).length bB,k3d y J.length A,k3e B O.length C,k2w u K.length x,.ext (ownX jN 4 G I W),k2c S ah aR,k3f X ai aW,k3g cG cv c7,.ext (arrX j6 g an aO),mx cg cH cI,mx ch cJ cK,mx p ao Y,k2y cL cw de] [k2l bx bz aM.1.Cuts,k2m bA bB aM.1.Nodes,(ml g 4),k3h cg cH cI da,k3i ch cJ cK db,k3j cj cl ci,k3k p ao Y a9,k2v B C O,k2t cn co cm,k2x u x K,k3j y A J]∧M.mQ N n a1 a2 a4 a5 W aR aW aO J a9 aD aG O K aM c6 c7 c8 da db ci dd de cm cp=some r) ?_ ?_)))))))))))))))))
 have d:=d.add (m:=Ro.mp kX none 0 ([]:List j3)) (Ro.nil kX _ _)
 have d:=d.addNil 95 5
 have d:=d.addOpt o_gate_move
 exact ⟨_,a6,az,aE,bC,ay,D,ae,ab,bg,F,al,ad,bh,([]:List j3),none,0,aH,none,[],none,eE,eF,eG,0,b.kp [0,426,427,428],d.sp [3,1,4,5,6,7,8,9,10,11,12,13,14,15,16,17,0] [4,5,8,9,10,0,12,13,1,15,11],H⟩
 rintro n a w ⟨κ,c6,cG,cv,c7,c8,cg,cH,cI,da,ch,cJ,cK,db,ci,cj,cl,dd,cL,cw,de,cm,cn,co,cp,b,d,H⟩
 rcases n with _|fC
 simp [M.mQ] at H
 simp only [M.mQ] at H
 refine qr λ_ hL=>(jG (L':=[k2g f,(426,.slice y J.length A),(427,vi (J.length:Int)),(428,vi cp),(429,vb (decide (cp<(J.length:Int))))]) 1 [0,426,427,428,429] b kr λa b=>hL _ _ (qs λ_ hM=>bc b H (λhb H=>?_) λhb H=>?_))
 refine sk (hM _ _ (qs λ_ hP=>bk (qr λ_ hQ=>(bd H λax dC H=>wc (kS b d kr 10 (E:=95) (sz:=5) rfl rfl rfl kr rfl dC kr kr λiO iP a eH b=>?_)))))
 obtain ⟨_,⟨⟨cq,cr⟩,rfl,hR⟩,hc⟩:=d.elem 10 rfl eH dC
 have d:=(d.adds hR).add hc
 refine wc (kR b kr (v := .agg (flat (k0u ax.id ax.read ax.key ax.at_ cq (ax.writes).length cr)).toArray) ((pN 0 0 5 (s:=[si ax.id,sb ax.read,sg ax.key,su ax.at_,sl cq (ax.writes).length cr]) (s':=k0u ax.id ax.read ax.key ax.at_ cq (ax.writes).length cr) (n:=5) rfl rfl rfl (show mL [si ax.id,sb ax.read,sg ax.key,su ax.at_,sl cq (ax.writes).length cr] from (sgN 5 jE)) kr kr kr kr kr _ ⟨_,d⟩)) λa b=>?_)
 refine wc (wal b d (k0v empty) (sgN 5 jE) λiQ a w b d=>wc (wst b d 0 0 5 (k0u ax.id ax.read ax.key ax.at_ cq (ax.writes).length cr) (sgN 5 jE) λa w b d=>hQ _ _ (rl (wp 1 [0,24,426,427,428,432] b λa b=>wc (wls b d 0 0 5 λa b=>bd H λaZ fD H=>?_)))))
 have dG:=d.segs 1 rfl
 refine wc (wcS 7 [1,2,3,12,14,15,17,0,4,5,6,7,8,9,10,11,13,16] b d (λd=>uX N a1 a5 c6 aM.1 c7 c8 da db ci dd de cm ax (flat [si a2,(1,aJ),si a4]) bx bz bA bB (flat [(1,aq),sl G W.length I,(2,ar),sp S,sp X]) cG cv (flat [k3l g,(8,au)]) cg cH cI ch cJ cK cj cl [.map p] cL cw (flat [si aD,si aG,sl B O.length C,(5,av)]) cn co [.slice u K.length x] cq cr f ((d.regr 0 [(false,1),(true,3),(false,4),(true,5),(false,2),(true,2),(false,6),(true,4),(false,2)] rfl).sbK [2,3,5,6,7,10,1]) fD) ?_)
 rintro _ κ w a ⟨eI,fE,eJ,hT,hU,eK,hV,hW,eL,eM,eN,fF,eO,eP,rfl,h2⟩ b hB
 have d:=(hB _ _ h2).unregrK 0 [(false,1),(true,3),(false,4),(true,5),(false,2),(true,2),(false,6),(true,4),(false,2)] (s':=[si a1,si a2,(1,aJ),si a4,si a5,si aZ.1,sl bx (aM.1.Cuts).length bz,sl bA (aM.1.Nodes).length bB,(1,aq),sl G W.length I,(2,ar),sp S,sp X,sp eI,su aZ.2.2.1,k3l g,(8,au),sm eJ,sm eK,sl eL (aZ.u4.2.1).length eM,sm p,su aZ.u4.2.2.1,sp eN,si aD,si aG,sl B O.length C,(5,av),sl eO (aZ.u8).length eP,sl u K.length x]) dG rfl
 refine hP _ _ (rl (wp 2 [0,426,427,428] b λa b=>nl ?_))
 exact ⟨fC,Nat.lt_succ_self _,_,aZ.1,eI,fE,aZ.2.1,aZ.2.2.1,eJ,hT,hU,aZ.2.2.2.1,eK,hV,hW,aZ.u4.1,aZ.u4.2.1,eL,eM,aZ.u4.2.2.1,eN,fF,aZ.u4.2.2.2.1,aZ.u8,eO,eP,i64.wrap (cp+1),b.kp [0,426,427,428],d.sp [0,1,2,8,9,10,11,12,13,14,15,3,16,4,5,17,6] [6,7,8,0,1,2,12,13,3,15,16],H⟩
 refine xt ?_
 cases H
 exact j7 b d (mI Tryz.results33) ⟨bx,bz,bA,bB,G,I,S,ah,X,ai,cG,cv,g,an,cg,cH,cI,ch,cJ,cK,cj,cl,p,ao,Y,cL,cw,B,C,cn,co,u,x,rfl,d.sp [0,1,6,2,7,8,9,10,11,12,13,14,15,16] (rg 10)⟩
 refine sk ?_
 cases H
 exact j7 b d (mI Tryz.results33) ⟨p8,c9,U,V,G,I,S,ah,X,ai,az,aE,g,an,D,ae,ab,F,al,ad,y,A,p,ao,Y,ds,c3,B,C,Q,R,u,x,rfl,d.sp (rg 14) (rg 10)⟩
 refine qr λ_ hY=>(jG (L':=[k2g f,k2a bI,k2d Z,(436,vb (e.Kind==26))]) 2 [0,1,5,436] b kr λa b=>hY _ _ (bc b H (λhb H=>?_) λhb H=>?_))
 refine bd H λhZ ho H=>?_
 obtain ⟨du,aw,d⟩:=d.optS 7 rfl ho
 rw [aw] at d
 try rw [aw] at b
 obtain ⟨⟨h0,h1⟩,d⟩:=d.unfI (ck:=jR) (fs:=jP) 7 rfl
 refine rgX d [2,3,8,9,10,11,12,13,14,15] ?_
 have d:=d.drew
 have q:=d.px [2,3,8,9,10,11,12,13,14,15]
 refine anp [0,1,2,4,5] [440,442,443] b q λa b=>atk 3 (some 441) b q rfl (vld 1 11 0) λa b=>atk 6 (some 444) b q rfl (vld 0 3 0) λa b=>ago 7 b rfl (bd H λh3 fG H=>wcS 2 (rg 16) b d (λd=>zL N hZ bI e.TS h0 h1 du (d.sbK (rg 4)) fG) ?_)
 rintro _ κ w a ⟨h4,h5,rfl,h2⟩ b hB
 have d:=hB _ _ h2
 refine ⟨λ_=>(d.sx [2,3,8,9,10,11,12,13,14,15] (ra 4 16)),?_⟩
 refine kM ?_
 obtain ⟨fH,d⟩:=d.foldI (ck:=jR) (fs:=jP) du (h4,h5) h3 [0,1] (ra 2 14) (rg 4) dc kr kr
 cases H
 exact j7 b d (mI Tryz.results33) ⟨p8,c9,U,V,G,I,(some du),fH,X,ai,az,aE,g,an,D,ae,ab,F,al,ad,y,A,p,ao,Y,ak,am,B,C,Q,R,u,x,rfl,d.sp [2,3,4,5,6,7,0,8,9,10,11,12,13,14] (ra 8 10)⟩
 refine sk ?_
 cases H
 exact j7 b d (mI Tryz.results33) ⟨p8,c9,U,V,G,I,S,ah,X,ai,az,aE,g,an,D,ae,ab,F,al,ad,y,A,p,ao,Y,ak,am,B,C,Q,R,u,x,rfl,d.sp (ra 1 14) (rg 10)⟩
end Go.Cf
