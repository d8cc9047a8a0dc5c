/- The walks: each function returns what its model says. Printed by a program of ours. -/
import Derived.Test.YtcplebnnanjngaaGreatZSh
import Derived.Test.YtcplebnnanjngaaGreatZM1
import Derived.Test.YtcplebnnanjngaaGreatZWs
import Derived.Test.YtcplebnnanjngaaGreatZWo
import Derived.Test.YtcplebnnanjngaaGreatZWi
import Derived.Test.YtcplebnnanjngaaGreatZWp
import Derived.Test.YtcplebnnanjngaaGreatZWc
import Derived.Test.YtcplebnnanjngaaGreatZWg1
import Derived.Test.YtcplebnnanjngaaGreatZWg3
import Derived.Test.YtcplebnnanjngaaGreatZWg5
namespace Go.Cf
open Go Go.Proofs Tryz
open _root_.Int(toNat tdiv tmod)
open _root_.List(set replicate)
open _root_.ByteArray(empty)
open Go.IntKind(i64 u64)
set_option linter.unusedVariables false
set_option maxRecDepth 20000
set_option maxHeartbeats 8000000
theorem yA (N){Ms}{κ0}{w0}(a1)(a2)(a4)(a5)(a6)(a7:j5)(V:(List Bool))(aP)(aT)(bz)(av)(aI)(ba)(be)(J:(List i8))(a3)(aF)(aU)(aA)(aE)(O:(List Int))(ah:(List i9))(K:(List jL))(bE)(f:jF)(aG)(p8)(c9)(T)(U)(an)(G)(I)(ao)(S)(ae)(W)(af)(aw)(aB)(g)(al)(aq)(C)(ab)(Z)(F)(aj)(aa)(x)(y)(j)(am)(X)(ai)(ak)(A)(B)(ar)(Q)(R)(q)(u)(bf)(bg)(bh)(bi)(e)(hB:SB Ms κ0 w0 (k1x e a1 a2 aG a4 a5 a6 p8 a7 c9 T U an G V.length I ao S W aw av g aq C F x J.length y j aF ai aA aE A O.length B ar Q ah.length R q K.length u (ownX jM 4 G I V) ae aP af aT aB bz (arrX j6 g al aI) ab Z aj aa am X ak aU) (k1y p8 c9 a7 T U (ml g 4) C ab Z ba F aj aa be x y J j am X a3 A B O Q R ah q u K bf bg f bh bi)){r}(H:M.qT N a1 a2 a4 a5 a6 a7 V aP aT bz av aI ba be J a3 aF aU aA aE O ah K bE f=some r) :
    Calls Tryz.prog 33 #[pt e 0,vi bE,.agg (flat (k0c f bf bg bh bi)).toArray] w0 (kP Ms κ0 w0 λv κ w => ∃dG dH dI dJ dK dL fO eP fP eQ fQ eR dd eS dM dN dO dP dR dS dT dU dV dW dX fR eT dY dZ d0 d1 d2 d3,v = .tuple #[]∧SS Ms κ0 w0 κ w (k1x e a1 a2 aG a4 a5 r.1 dG r.2.1 dH dI dJ an dK r.2.2.1.length dL ao fO fP fQ r.u4.2.2.1 dd aq dM dP dT r.u8.2.2.1.length dU dV r.u8.u4.1 fR aA r.u8.u4.2.2.1 dY r.u8.u4.2.2.2.1.length dZ ar d0 r.u8.u8.1.length d1 d2 r.u8.u8.2.length d3 (ownX jM 4 dK dL r.2.2.1) eP r.2.2.2.1 eQ r.u4.1 eR r.u4.2.1 (arrX j6 dd eS r.u4.2.2.2.1) dN dO dR dS dW dX eT r.u8.u4.2.1) (k1z dG dH r.2.1 dI dJ (ml dd 4) dM dN dO r.u8.1 dP dR dS r.u8.2.1 dT dU r.u8.2.2.1 dV dW dX r.u8.2.2.2.1 dY dZ r.u8.u4.2.2.2.1 d0 d1 r.u8.u8.1 d2 d3 r.u8.u8.2)):=by
 have d:=hB.hS
 have iQ:=d.fresh
 refine en func33 rfl ntmps33 λa b=>?_
 unfold M.qT at H
 refine qr λ_ h5=>wc (wbx b d (k0c f bf bg bh bi) (sgN 14 jD) λY a w b d=>h5 _ _ (qr λ_ h6=>wp 1 [0,1,5,25] b λa b=>wc (wld b d 0 0 0 λa b=>h6 _ _ (bk (qr λ_ h7=>wp 2 [0,1,5,26,27] b λa b=>nl ?_)))))
 refine h7 _ _ (bc b H (λhb H=>?_) λhb H=>?_)
 refine qs λ_ h8=>rgS d [] ?_
 have d:=d.drew
 have p:=d.fx
 refine anp [0,2,3,4] [0,1,29,33] b p λa b=>atk 1 (some 30) b p rfl (vld 0 1 0) λa b=>atk 5 (some 34) b p rfl (vld 1 3 0) λa b=>anp [6,7] [0,1,36] b p λa b=>kN (h8 _ _ (bc b H (λhb H=>?_) λhb H=>?_))
 refine rl (wp 3 [1,39] b λa b=>wc (wld b d 1 9 0 λa b=>jE (L':=[(40,.slice G V.length I),(41,vi bE)]) 1 [40,41] b kr λa b=>bd H λiR d4 H=>wc (uJ b d kr 6 (sz:=1) rfl rfl rfl rfl rfl d4 kr kr λiS iT a eU b=>wc (sR b d kr 6 (z:=true) rfl rfl rfl rfl eU d4 rfl kr rfl kr (Cf:=(λnn=>[.box Y 38 [si f.Kind,su f.Id,su f.N,su f.TS,sg f.Lo,sg f.Hi,sl bf f.Vers.length bg,sl bh f.Vec.length bi,si f.Cmd.Kind,si f.Cmd.DC,si f.Cmd.Shard,si f.Cmd.Node,si f.Cmd.Mode,sg f.Cmd.Key],.box e 87 [si a1,si a2,(1,aG),si a4,si a5,si a6,sl p8 a7.Cuts.length c9,sl T a7.Nodes.length U,(1,an),sl G nn I,(2,ao),sp S,sp W,sp aw,su av,(4,(encs pO g)),(8,aq),sm C,sm F,sl x J.length y,sm j,su aF,sp ai,si aA,si aE,sl A O.length B,(5,ar),sl Q ah.length R,sl q K.length u],.tok x 95 5 J.length y,.tok A 32 1 O.length B,.tok Q 61 15 ah.length R,.tok q 52 13 K.length u,.ext (ownX jM 4 G I (set V (toNat bE) true)),ox o_stab_Table S ae aP,ox o_order_Log W af aT,ox o_coord_Table aw aB bz,.ext (arrX j6 g al aI),mx C ab Z,mx F aj aa,mx j am X,ox o_gate_move ai ak aU])) (Lf:=(λnn=>[(40,.slice G nn I),(41,vi bE)])) [40,41] kr kr λa w b d=>?_))))
 refine nl ?_
 cases H
 exact j7 b d (mL results33) ⟨p8,c9,T,U,G,I,S,ae,W,af,aw,aB,g,al,C,ab,Z,F,aj,aa,x,y,j,am,X,ai,ak,A,B,Q,R,q,u,rfl,d.sp (ra 1 14) (rg 10)⟩
 refine sk ?_
 cases H
 exact j7 b d (mL results33) ⟨p8,c9,T,U,G,I,S,ae,W,af,aw,aB,g,al,C,ab,Z,F,aj,aa,x,y,j,am,X,ai,ak,A,B,Q,R,q,u,rfl,d.sp (ra 1 14) (rg 10)⟩
 refine qr λ_ h9=>(jE (L':=[k35 e,k2z bE,k32 Y,(26,vi f.Kind),(43,vb (f.Kind==11))]) 2 [0,1,5,26,43] b kr λa b=>h9 _ _ (bc b H (λhb H=>?_) λhb H=>?_))
 refine qs λ_ ia=>bd H λdu ho H=>?_
 obtain ⟨aS,au,d⟩:=d.optS 9 rfl ho
 rw [au] at d
 try rw [au] at b
 obtain ⟨⟨fH,fI,fJ,fK,fS⟩,d⟩:=d.unfI (ck:=l3) (fs:=kZ) 9 rfl
 refine rgX d [0,1,3,4,9,10,11,12,13,14,15,16] ?_
 have d:=d.drew
 have p:=d.px [0,1,3,4,9,10,11,12,13,14,15,16]
 refine anp [0,1,2,4] [0,1,5,47,49] b p λa b=>atk 3 (some 48) b p rfl (vld 3 13 0) λa b=>atk 5 (some 50) b p rfl (vld 2 1 0) λa b=>ago 6 b rfl (bd H λbj fT H=>wcS 3 (rg 17) b d (λd=>vE N du f.Id fH fI fJ fK fS aS (d.sbK [0]) fT) ?_)
 rintro _ κ w a ⟨bH,bI,fU,rfl,h2⟩ b hB
 have d:=hB _ _ h2
 refine ⟨λ_=>(d.sx [0,1,4,5,10,11,12,13,14,15,16,17] (ra 1 13)),?_⟩
 refine anp [7] [0,1,5,6] b (d.sx [0,1,4,5,10,11,12,13,14,15,16,17] (ra 1 13)) λa b=>kN ?_
 obtain ⟨iu,d⟩:=d.foldI (ck:=l3) (fs:=kZ) aS (fH,fI,fJ,fK,fU) du [0,1,2] (ra 3 15) [1] dc kr kr
 refine ia _ _ (qs λ_ ib=>?_)
 obtain ⟨⟨d5,fL,fM,fN,d6⟩,d⟩:=d.unfI (ck:=l3) (fs:=kZ) 0 rfl
 have d:=d.cC (C':=[k40 aS d5,mx d5 fL fM,.ext (mpX jW fN d6 du.open_ none),k3z bH bj.length bI,k4p Y f bf bg bh bi,k4t e a1 a2 aG a4 a5 a6 p8 a7 c9 T U an G V.length I ao S W aS av g aq C F x J.length y j aF ai aA aE A O.length B ar Q ah.length R q K.length u,k45 x J.length y,k46 A O.length B,k3j Q ah.length R,k3n q K.length u,.ext (ownX jM 4 G I V),k31 S ae aP,k47 W af aT,.ext (arrX j6 g al aI),mx C ab Z,mx F aj aa,mx j am X,k3p ai ak aU])
 refine rgX d [4,5,10,11,12,13,14,15,16,17] ?_
 have d:=d.drew
 have p:=d.px [4,5,10,11,12,13,14,15,16,17]
 refine anp [0,1,2,4,6,7] [0,5,6,55,57,59,60] b p λa b=>atk 3 (some 56) b p rfl (vld 1 13 0) λa b=>atk 5 (some 58) b p rfl (vld 0 1 0) λa b=>atk 8 (some 61) b p rfl (vld 0 3 0) λa b=>ago 9 b rfl (bd H λad fV H=>wcS 3 (rg 18) b d (λd=>zL N du f.Id bE f.TS d5 fL fM fN d6 aS (d.sbK [0]) fV) ?_)
 rintro _ κ w a ⟨ic,ie,fW,fX,eV,rfl,h2⟩ b hB
 have d:=hB _ _ h2
 refine ⟨λ_=>(d.sx [4,5,10,11,12,13,14,15,16,17] (ra 1 15)),?_⟩
 refine anp (ra 10 7) [0,5,6,7,8,9] b (d.sx [4,5,10,11,12,13,14,15,16,17] (ra 1 15)) λa b=>kN ?_
 obtain ⟨cK,d⟩:=d.foldI (ck:=l3) (fs:=kZ) aS (ic,ie,fW,fX,eV) ad.2.2.2 [0,1,2] (ra 3 15) [0] dc kr kr
 refine ib _ _ (qs λ_ fY=>qr λ_ fZ=>bd H λf0 bQ H=>k8 (λa w => ∃κ,Fr (446) [] [k35 e,k32 Y,(6,.slice bH bj.length bI),(7,vu ad.1),(71,vb f0)] a∧SS Ms κ0 w0 κ w [k4p Y f bf bg bh bi,k4t e a1 a2 aG a4 a5 a6 p8 a7 c9 T U an G V.length I ao S W aS av g aq C F x J.length y j aF ai aA aE A O.length B ar Q ah.length R q K.length u,k3z bH bj.length bI,k45 x J.length y,k46 A O.length B,k3j Q ah.length R,k3n q K.length u,.ext (ownX jM 4 G I V),k31 S ae aP,k47 W af aT,k4f aS cK ad.2.2.2,.ext (arrX j6 g al aI),mx C ab Z,mx F aj aa,mx j am X,k3p ai ak aU] [k3a p8 c9 a7.Cuts,k3b T U a7.Nodes,(ml g 4),k49 C ab Z ba,k4a F aj aa be,k4b x y J,k4c j am X a3,k3m A B O,k3k Q R ah,k3o q u K,k3l bH bI bj,k3l bf bg f.Vers,k3m bh bi f.Vec]∧True) ?_ ?_)
 refine wp 3 [0,5,6,7,8,68] b λa b=>bs bQ (λhb bQ=>?_) λhb bQ=>?_
 have b:=b.bv 68 hb
 refine wp 3 [0,5,6,7,71] b λa b=>nl ?_
 cases bQ
 exact ⟨_,b.kp [0,5,6,7,71],d.sp [2,3,1,4,5,6,7,8,9,10,0,11,12,13,14,15] [4,5,6,7,8,9,10,11,12,13,2,14,15],ja⟩
 have b:=b.bv 68 hb
 refine wp 3 [0,5,6,7,71] b λa b=>nl ?_
 cases bQ
 exact ⟨_,b.kp [0,5,6,7,71],d.sp [2,3,1,4,5,6,7,8,9,10,0,11,12,13,14,15] [4,5,6,7,8,9,10,11,12,13,2,14,15],ja⟩
 rintro a w ⟨κ,b,d,-⟩
 refine fZ _ _ (bc b H (λhb H=>?_) λhb H=>?_)
 refine rt ?_
 cases H
 exact j7 b d (mL results33) ⟨p8,c9,T,U,G,I,S,ae,W,af,(some aS),cK,g,al,C,ab,Z,F,aj,aa,x,y,j,am,X,ai,ak,A,B,Q,R,q,u,rfl,d.sp [1,3,4,5,6,7,8,9,10,11,12,13,14,15] (rg 10)⟩
 refine sk (fY _ _ (qr λ_ f1=>wp 4 [0,5,6,7,72,75] b λa b=>wc (wld b d 1 14 0 λa b=>wp 4 [0,5,6,7,78,80] b λa b=>wc (wst b d 1 14 1 [su (if ad.1 > av then ad.1 else av)] (sgN 1 jD) λa w b d=>f1 _ _ (qs λ_ f2=>rgS d [10] ?_)))))
 have d:=d.drew
 have p:=d.fx
 refine anp [0,1,2,3,5] [0,5,6,7,81,84,86] b p λa b=>atk 4 (some 85) b p rfl (vld 1 0 0) λa b=>atk 6 (some 87) b p rfl (vld 0 1 0) λa b=>anp [7,8] [0,5,6,7,89] b p λa b=>ago 9 b rfl (wal b d k0j (sgN 4 jD) λaJ a w b d=>⟨λ_=>(d.sx [1,2,8,9,10,11,12,13,14,15,16] (rg 13)),?_⟩)
 refine ago 10 b rfl (wst b d 0 0 4 [su ad.1,si a1,si (i64.wrap f.Id),k37] (sgN 4 jD) λa w b d=>⟨notE,?_⟩)
 refine kN (f2 _ _ (qs λ_ f3=>qr λ_ f4=>(wp 3 [0,5,7,10,90,91,92] b λa b=>(f4 _ _ (bk (jT (n:=N) (λn a w => ∃κ,∃a9:List jB,∃bo bq bK,Fr (446) [] [k35 e,k32 Y,(7,vu ad.1),(10,pt aJ 0),(90,.slice bH bj.length bI),(91,vi (bj.length:Int)),(92,vi bK)] a∧SS Ms κ0 w0 κ w [.box aJ 135 [su ad.1,si a1,si (i64.wrap f.Id),sl bo a9.length bq],k4p Y f bf bg bh bi,k4t e a1 a2 aG a4 a5 a6 p8 a7 c9 T U an G V.length I ao S W aS (if ad.1 > av then ad.1 else av) g aq C F x J.length y j aF ai aA aE A O.length B ar Q ah.length R q K.length u,k3z bo a9.length bq,k3z bH bj.length bI,k45 x J.length y,k46 A O.length B,k3j Q ah.length R,k3n q K.length u,.ext (ownX jM 4 G I V),k31 S ae aP,k47 W af aT,k4f aS cK ad.2.2.2,.ext (arrX j6 g al aI),mx C ab Z,mx F aj aa,mx j am X,k3p ai ak aU] [k3a p8 c9 a7.Cuts,k3b T U a7.Nodes,(ml g 4),k49 C ab Z ba,k4a F aj aa be,k4b x y J,k4c j am X a3,k3m A B O,k3k Q R ah,k3o q u K,k3l bH bI bj,k3l bo bq a9,k3l bf bg f.Vers,k3m bh bi f.Vec]∧M.mT N n a1 a2 a4 a5 a6 a7 V aP aT av aI ba be J a3 aF aU aA aE O ah K f bj ad a9 bK=some r) ?_ ?_))))))
 have d:=d.add (m:=Ro.mp jG.ty none 0 ([]:List jB)) (Ro.nil jG.ty _ _)
 have d:=d.addNil 48 6
 exact ⟨_,([]:List jB),none,0,0,b.kp [0,5,7,10,90,91,92],d.sp [1,2,3,0,4,5,6,7,8,9,10,11,12,13,14,15,16,17] [1,2,3,4,5,6,7,8,9,10,11,0,12,13],H⟩
 rintro n a w ⟨κ,a9,bo,bq,bK,b,d,H⟩
 rcases n with _|eW
 simp [M.mT] at H
 simp only [M.mT] at H
 refine qr λ_ f5=>(jE (L':=[k35 e,k32 Y,(7,vu ad.1),(10,pt aJ 0),(90,.slice bH bj.length bI),(91,vi (bj.length:Int)),(92,vi bK),(93,vb (decide (bK<(bj.length:Int))))]) 1 [0,5,7,10,90,91,92,93] b kr λa b=>f5 _ _ (qs λ_ f6=>bc b H (λhb H=>?_) λhb H=>?_))
 refine sk (f6 _ _ (qs λ_ f7=>bk (qr λ_ f8=>(bd H λbr dv H=>wc (kR b d kr 10 (E:=48) (sz:=6) rfl rfl rfl kr rfl dv kr kr λiv iw a d7 b=>wc (qY (t:=jG) b d kr 10 rfl rfl d7 rfl dv kr kr kr λa b=>wc (wal b d (k0k empty) (sgN 6 jD) λf9 a w b d=>wc (wst b d 0 0 6 (k0w br) (sgN 6 jD) λa w b d=>?_))))))))
 refine f8 _ _ (qs λ_ ga=>rgX d [1,2,3,10,11,12,13,14,15,16,17,18] ?_)
 have d:=d.drew
 have p:=d.px [1,2,3,10,11,12,13,14,15,16,17,18]
 refine anp [0,2,4] [0,5,7,10,12,90,91,92,96,98,100] b p λa b=>atk 1 (some 97) b p rfl (vld 0 0 0) λa b=>anp [6] [0,5,7,10,12,90,91,92,97,98,100,102] b p λa b=>atk 3 (some 99) b p rfl (vld 0 1 0) λa b=>atk 5 (some 101) b p rfl (vld 0 2 0) λa b=>ago 7 b rfl (wst b d 0 3 1 [su ad.1] (sgN 1 jD) λa w b d=>⟨λ_=>(d.sx [1,2,3,10,11,12,13,14,15,16,17,18] (rg 14)),?_⟩)
 refine anp [8] [0,5,7,10,12,90,91,92,99,101,103] b (d.sx [1,2,3,10,11,12,13,14,15,16,17,18] (rg 14)) λa b=>ago 9 b rfl (wst b d 0 4 1 [si a1] (sgN 1 jD) λa w b d=>⟨λ_=>(d.sx [1,2,3,10,11,12,13,14,15,16,17,18] (rg 14)),?_⟩)
 refine anp [10] [0,5,7,10,12,90,91,92,101,104] b (d.sx [1,2,3,10,11,12,13,14,15,16,17,18] (rg 14)) λa b=>ago 11 b rfl (wst b d 0 5 1 [si (i64.wrap f.Id)] (sgN 1 jD) λa w b d=>⟨λ_=>(d.sx [1,2,3,10,11,12,13,14,15,16,17,18] (rg 14)),?_⟩)
 refine kN (ga _ _ (rl (jE (L':=[k35 e,k32 Y,(7,vu ad.1),(10,pt aJ 0),(12,pt f9 0),(90,.slice bH bj.length bI),(91,vi (bj.length:Int)),(92,vi bK),(105,pt aJ 3)]) 1 [0,5,7,10,12,90,91,92,105] b kr λa b=>wc (wld b d 1 3 0 λa b=>wc (wls b d 0 0 6 λa b=>wc (oI (t:=jG) (z := .agg (flat (k0k empty)).toArray) (l:=[(jB.mk br.Key br.Val br.Gone ad.1 a1 (i64.wrap f.Id))]) (vs:=[(0,.agg (flat [sg br.Key,sg br.Val,sb br.Gone,su ad.1,si a1,si (i64.wrap f.Id)]).toArray)]) (cells := #[.string (br.Key),.string (br.Val),vb br.Gone,vu ad.1,vi a1,vi (i64.wrap f.Id)]) (E:=48) b d kr rfl kr kr rfl kr kr kr kr kr λiy κ a w b d=>?_))))))
 refine bd H λd8 eX H=>wc (kJ (ty:=jG.ty) b d kr 5 12 0 rfl rfl rfl kr kr rfl rfl rfl eX kr (i:=Tryz.t48) (z := .agg (flat (k0k empty)).toArray) kr kr kr λd9 ea κ a w b d=>wp 1 [0,5,7,10,90,91,92,109,110] b λa b=>wc (wst b d 2 3 1 [sl d9 d8.length ea] (sgN 1 jD) λa w b d=>f7 _ _ (rl (wp 2 [0,5,7,10,90,91,92] b λa b=>nl ?_))))
 exact ⟨eW,jb _,_,d8,d9,ea,i64.wrap (bK+1),b.kp [0,5,7,10,90,91,92],d.sp (ra 2 18) [2,3,4,5,6,7,8,9,10,11,12,0,14,15],H⟩
 refine xt (f3 _ _ (qs λ_ gb=>bd H λgc ho H=>?_))
 obtain ⟨bB,au,d⟩:=d.optS 11 rfl ho
 rw [au] at d
 try rw [au] at b
 obtain ⟨⟨gd,gf,gg,gi⟩,d⟩:=d.unfI (ck:=kW) (fs:=kT) 11 rfl
 refine rgX d [3,4,5,12,13,14,15,16,17,18,19] ?_
 have d:=d.drew
 have p:=d.px [3,4,5,12,13,14,15,16,17,18,19]
 refine anp [0,1,2] [0,5,7,10,114] b p λa b=>atk 3 (some 115) b p rfl (vld 2 12 0) λa b=>atk 4 (some 116) b p rfl (vls 0 0 4) λa b=>ago 5 b rfl (bd H λcL eY H=>wcS 3 (rg 20) b d (λd=>zH N gc (kC.mk ad.1 a1 (i64.wrap f.Id) a9) gd gf gg gi bo bq bB (d.sbK [0,1,13]) eY) ?_)
 rintro _ κ w a ⟨gj,gk,gl,gm,rfl,h2⟩ b hB
 have d:=hB _ _ h2
 refine ⟨λ_=>(d.sx [3,4,5,12,13,14,15,16,17,18,19] (ra 2 16)),?_⟩
 refine kN ?_
 obtain ⟨cM,d⟩:=d.foldI (ck:=kW) (fs:=kT) bB (gj,gk,gl,gm) cL.2 [0,1,2] (ra 3 17) [0,1] dc kr kr
 refine gb _ _ (qs λ_ gn=>qs λ_ gp=>?_)
 obtain ⟨⟨cN,de,df,dg,eZ⟩,d⟩:=d.unfI (ck:=l3) (fs:=kZ) 12 rfl
 refine rga (λ_=>True) [] ?_
 have d:=d.drew
 refine anp [0,1,2,4,8] [0,5,7,10,120,122,126] b ja λa b=>mI d [6] (atk 3 (some 121) b (d.sx [0,1,2,3,4,5,6,13,14,15,16,17,18,19] (rg 19)) rfl (vld 6 13 0) λa b=>atk 5 (some 123) b (d.sx [0,1,2,3,4,5,6,13,14,15,16,17,18,19] (rg 19)) rfl (vld 5 1 0) λa b=>ago 6 b rfl (bd H λbl e0 H=>wcS 3 (rg 20) b d (λd=>yX N ad.2.2.2 f.Id cN de df dg eZ aS (d.sbK [0]) e0) ?_))
 rintro _ κ w a ⟨bY,bZ,dw,rfl,h2⟩ b hB
 have d:=(hB _ _ h2).cC (C':=[k40 aS cN,mx cN de df,.ext (mpX jW dg dw (ad.2.2.2.open_) none),.tok bY 3 1 bl.length bZ,k4e bB cM cL.2,.box aJ 135 [su ad.1,si a1,si (i64.wrap f.Id),sl bo a9.length bq],k4p Y f bf bg bh bi,.box e 87 [si a1,si a2,(1,aG),si a4,si a5,si a6,sl p8 a7.Cuts.length c9,sl T a7.Nodes.length U,(1,an),sl G V.length I,(2,ao),sp S,k3v bB,k3v aS,su (if ad.1 > av then ad.1 else av),k4d g,(8,aq),sm C,sm F,sl x J.length y,sm j,su aF,sp ai,si aA,si aE,sl A O.length B,(5,ar),sl Q ah.length R,sl q K.length u],k3z bo a9.length bq,k3z bH bj.length bI,k45 x J.length y,k46 A O.length B,k3j Q ah.length R,k3n q K.length u,.ext (ownX jM 4 G I V),k31 S ae aP,.ext (arrX j6 g al aI),mx C ab Z,mx F aj aa,mx j am X,k3p ai ak aU])
 refine ⟨notE,?_⟩
 refine u1 [7] [0,5,7,10,124,125,126] b notE λa b=>?_
 have b:Fr (446) _ [k35 e,k32 Y,(7,vu ad.1),(10,pt aJ 0),(124,.slice bY bl.length bZ),(125,vi (bl.length:Int)),(126,vi 0)] a:=b.kp [0,5,7,10,124,125,126]
 refine kN ?_
 obtain ⟨dx,d⟩:=d.foldI (ck:=l3) (fs:=kZ) aS (cN,de,df,dg,dw) ad.2.2.2 [0,1,2] (ra 3 18) [1] dc kr kr
 refine gp _ _ (bk (jT (n:=N) (λn a w => ∃κ,∃b0:List i9,∃b1 b2 b3,Fr (446) [] [k35 e,k32 Y,(7,vu ad.1),(10,pt aJ 0),(124,.slice bY bl.length bZ),(125,vi (bl.length:Int)),(126,vi b3)] a∧SS Ms κ0 w0 κ w [.box aJ 135 [su ad.1,si a1,si (i64.wrap f.Id),sl bo a9.length bq],k4p Y f bf bg bh bi,.box e 87 [si a1,si a2,(1,aG),si a4,si a5,si a6,sl p8 a7.Cuts.length c9,sl T a7.Nodes.length U,(1,an),sl G V.length I,(2,ao),sp S,k3v bB,k3v aS,su (if ad.1 > av then ad.1 else av),k4d g,(8,aq),sm C,sm F,sl x J.length y,sm j,su aF,sp ai,si aA,si aE,sl A O.length B,(5,ar),sl b1 b0.length b2,sl q K.length u],k3j b1 b0.length b2,.tok bY 3 1 bl.length bZ,k3z bo a9.length bq,k45 x J.length y,k46 A O.length B,k3n q K.length u,.ext (ownX jM 4 G I V),k31 S ae aP,k4e bB cM cL.2,k4f aS dx ad.2.2.2,.ext (arrX j6 g al aI),mx C ab Z,mx F aj aa,mx j am X,k3p ai ak aU] [k3a p8 c9 a7.Cuts,k3b T U a7.Nodes,(ml g 4),k49 C ab Z ba,k4a F aj aa be,k4b x y J,k4c j am X a3,k3m A B O,k3k b1 b2 b0,k3o q u K,k3b bY bZ bl,k3l bo bq a9,k3l bf bg f.Vers,k3m bh bi f.Vec]∧M.mS N n a1 a2 a4 a5 a6 a7 V aP av aI ba be J a3 aF aU aA aE O K f ad a9 cL bl b0 b3=some r) ?_ ?_))
 exact ⟨_,ah,Q,R,0,b.kp [0,5,7,10,124,125,126],d.sp [3,4,5,10,1,6,8,9,11,12,13,2,0,14,15,16,17,18] [6,7,8,9,10,11,12,13,14,15,0,17,18,19],H⟩
 rintro n a w ⟨κ,b0,b1,b2,b3,b,d,H⟩
 rcases n with _|e1
 simp [M.mS] at H
 simp only [M.mS] at H
 refine qr λ_ gq=>(jE (L':=[k35 e,k32 Y,(7,vu ad.1),(10,pt aJ 0),(124,.slice bY bl.length bZ),(125,vi (bl.length:Int)),(126,vi b3),(127,vb (decide (b3<(bl.length:Int))))]) 1 [0,5,7,10,124,125,126,127] b kr λa b=>gq _ _ (qs λ_ gr=>bc b H (λhb H=>?_) λhb H=>?_))
 refine sk (gr _ _ (qs λ_ gs=>bk (qr λ_ gu=>(bd H λec dy H=>wc (kR b d kr 10 (E:=3) (sz:=1) rfl rfl rfl kr rfl dy kr kr λiz iA a ed b=>wc (mH (t:=(fInt .i64)) b d kr 10 0 (v:=vi ec) rfl rfl ed rfl dy kr kr kr λa b=>wp 1 [0,5,7,10,14,124,125,126] b λa b=>gu _ _ (rl (wp 3 [0,5,7,10,124,125,126,130,131,132] b λa b=>wc (wld b d 1 1 0 λa b=>wp 2 [0,5,7,10,124,125,126,130,131,135] b λa b=>?_)))))))))
 have d:=d.add (m:=Ro.mp jG.ty none 0 ([]:List jB)) (Ro.nil jG.ty _ _)
 have d:=d.add (m:=Ro.mp (fInt .u64).ty none 0 ([]:List Int)) (Ro.nil (fInt .u64).ty _ _)
 refine bd H λee e2 H=>?_
 have dC:=d.segs 2 rfl
 refine wc (wcS 2 [2,3,0,1,4,5,6,7,8,9,10,11,12,13,14,15,16,17] b d (λd=>lJ N a1 b0 ec (jF.mk 2 f.Id 0 ad.1 empty empty ([]:List jB) ([]:List Int) (jU.mk 0 0 0 0 0 empty)) (flat [si a2,(1,aG),si a4,si a5,si a6,sl p8 a7.Cuts.length c9,sl T a7.Nodes.length U,(1,an),sl G V.length I,(2,ao),sp S,k3v bB,k3v aS,su (if ad.1 > av then ad.1 else av),k4d g,(8,aq),sm C,sm F,sl x J.length y,sm j,su aF,sp ai,si aA,si aE,sl A O.length B,(5,ar)]) b1 b2 [.slice q K.length u] none 0 none 0 e ((d.regr 0 [(false,1),(true,26),(false,2)] rfl).sbK [10,1,0]) e2) ?_)
 rintro _ κ w a ⟨ef,eg,rfl,h2⟩ b hB
 have d:=(hB _ _ h2).unregrK 0 [(false,1),(true,26),(false,2)] (s':=[si a1,si a2,(1,aG),si a4,si a5,si a6,sl p8 a7.Cuts.length c9,sl T a7.Nodes.length U,(1,an),sl G V.length I,(2,ao),sp S,k3v bB,k3v aS,su (if ad.1 > av then ad.1 else av),k4d g,(8,aq),sm C,sm F,sl x J.length y,sm j,su aF,sp ai,si aA,si aE,sl A O.length B,(5,ar),sl ef ee.length eg,sl q K.length u]) dC rfl
 refine gs _ _ (rl (wp 2 [0,5,7,10,124,125,126] b λa b=>nl ?_))
 exact ⟨e1,jb _,_,ee,ef,eg,i64.wrap (b3+1),b.kp [0,5,7,10,124,125,126],d.sp [2,3,0,1,4,5,6,7,8,9,10,11,12,13,14,15,16,17] [3,4,5,6,7,8,9,10,0,12,13,14,15,16],H⟩
 refine xt (gn _ _ (rgS d [24] ?_))
 have d:=d.drew
 have p:=d.fx
 refine bd H λcO e3 H=>bd H λgv e4 H=>jN [0,1,2,3,5,6,7,9,12,14,16] [138,141,145,147,150,152,154] (L':=[(138,pt e 0),(141,pt e 43),(145,pt e 28),(147,pt Y 1),(150,pt aJ 0),(152,pt aJ 1),(154,pt aJ 2)]) (listed':=(mV 25 86767)) (fuel:=14) b p kr (by intro c a w t v h; cases t<;>exact h) kr rfl λa b=>atk 4 (some 142) b p rfl (vld 2 28 0) λa b=>atk 8 (some 146) b p rfl (vld 2 17 0) λa b=>atk 10 (some 148) b p rfl (vld 1 1 0) λa b=>?_
 obtain ⟨_,rfl,hvx269⟩:=w5 (P:=Tryz.prog) (KT:=32) (E:=3) (kt:=(kInt .u64)) (agg:=false) (t:=(fInt .i64).ty) (L:=[(138,pt e 0),(141,pt e 43),(142,.slice q K.length u),(145,pt e 28),(146,.map C),(147,pt Y 1),(148,vu f.Id),(150,pt aJ 0),(152,pt aJ 1),(154,pt aJ 2)]) (o:=⟨(some 149),(Go.Op.lookup 76 (Go.Operand.tmp 146) (Go.Operand.tmp 148) false),3,"gate.go:372",#[(Go.Edge.mk 8 Go.Ground.data),(Go.Edge.mk 10 Go.Ground.data)],none⟩) d 3 (k:=f.Id) (zc:=flat [si 0]) (zm:=0) rfl kr kr rfl e3 kr kr kr (λ_ _=>rfl)
 refine atk 11 (some 149) b (d.sx [0,1,2,9,10,11,12,13,14,15,16,17] (rg 14)) rfl (λw hw=>hvx269 8 rfl w hw) λa b=>atk 13 (some 151) b (d.sx [0,1,2,9,10,11,12,13,14,15,16,17] (rg 14)) rfl (vld 0 0 0) λa b=>atk 15 (some 153) b (d.sx [0,1,2,9,10,11,12,13,14,15,16,17] (rg 14)) rfl (vld 0 1 0) λa b=>atk 17 (some 155) b (d.sx [0,1,2,9,10,11,12,13,14,15,16,17] (rg 14)) rfl (vld 0 2 0) λa b=>jN [18,19] [138,142,157] (L':=[(138,pt e 0),(142,.slice q K.length u),(157,.agg (flat [si cO.1,si 2,sb false,sb false,sg empty,sg empty,sb false,su 0,si 0,si 0,su ad.1,si a1,si (i64.wrap f.Id)]).toArray)]) (listed':=(mV 25 1048575)) (fuel:=5) b (d.sx [0,1,2,9,10,11,12,13,14,15,16,17] (rg 14)) kr (by intro c a w t v h; cases t<;>exact h) kr rfl λa b=>?_
 refine ago 20 b rfl (oI (t:=kK) (z := .agg (flat (k20 empty)).toArray) (l:=[(jL.mk cO.1 2 false false (jB.mk empty empty false 0 0 0) (mN.mk ad.1 a1 (i64.wrap f.Id)))]) (vs:=[(0,.agg (flat [si cO.1,si 2,k3e,k3e,sg empty,sg empty,k3e,su 0,si 0,si 0,su ad.1,si a1,si (i64.wrap f.Id)]).toArray)]) (cells := #[vi cO.1,vi 2,vb false,vb false,.string (empty),.string (empty),vb false,vu 0,vi 0,vi 0,vu ad.1,vi a1,vi (i64.wrap f.Id)]) (E:=52) b d kr rfl kr kr rfl kr kr kr kr kr λiB κ a w b d=>?_)
 refine ⟨λ_=>(d.sx [1,2,3,10,11,12,13,14,15,16,17,18] (ra 1 14)),?_⟩
 refine ago 21 b rfl (kJ (ty:=kK.ty) b d kr 9 10 0 rfl rfl rfl kr kr rfl rfl rfl e4 kr (i:=Tryz.t52) (z := .agg (flat (k20 empty)).toArray) kr kr kr λeh ej κ a w b d=>⟨λ_=>(d.sx [1,2,3,10,11,12,13,14,15,16,17,18] (ra 2 14)),?_⟩)
 refine anp [22,23] [159,161] b (d.sx [1,2,3,10,11,12,13,14,15,16,17,18] (ra 2 14)) λa b=>ago 24 b rfl (wst b d 3 28 1 [sl eh gv.length ej] (sgN 1 jD) λa w b d=>⟨notE,?_⟩)
 refine kN ?_
 cases H
 exact j7 b d (mL results33) ⟨p8,c9,T,U,G,I,S,ae,(some bB),cM,(some aS),dx,g,al,C,ab,Z,F,aj,aa,x,y,j,am,X,ai,ak,A,B,b1,b2,eh,ej,rfl,d.sp [3,7,8,4,9,10,11,12,13,14,15,16,17,18] [2,3,4,5,6,7,8,9,10,0]⟩
 refine qr λ_ gw=>(jE (L':=[k35 e,k2z bE,k32 Y,(26,vi f.Kind),(162,vb (f.Kind==12))]) 2 [0,1,5,26,162] b kr λa b=>gw _ _ (bc b H (λhb H=>?_) λhb H=>?_))
 refine qs λ_ gx=>bd H λgy ho H=>?_
 obtain ⟨b4,au,d⟩:=d.optS 9 rfl ho
 rw [au] at d
 try rw [au] at b
 obtain ⟨⟨gz,gA,gB,gC,e5⟩,d⟩:=d.unfI (ck:=l3) (fs:=kZ) 9 rfl
 refine rgX d [3,4,9,10,11,12,13,14,15,16] ?_
 have d:=d.drew
 have p:=d.px [3,4,9,10,11,12,13,14,15,16]
 refine anp [0,1,2,4,6] [0,5,167,169,171] b p λa b=>atk 3 (some 168) b p rfl (vld 1 13 0) λa b=>atk 5 (some 170) b p rfl (vld 0 1 0) λa b=>ago 7 b rfl (bd H λek e6 H=>wcS 3 (rg 17) b d (λd=>AC N gy f.Id bE gz gA gB gC e5 b4 (d.sbK [0]) e6) ?_)
 rintro _ κ w a ⟨gD,gE,gF,gG,e7,rfl,h2⟩ b hB
 have d:=hB _ _ h2
 refine ⟨λ_=>(d.sx [3,4,9,10,11,12,13,14,15,16] (ra 1 13)),?_⟩
 refine anp (ra 8 5) [0,5,15] b (d.sx [3,4,9,10,11,12,13,14,15,16] (ra 1 13)) λa b=>kN ?_
 obtain ⟨cP,d⟩:=d.foldI (ck:=l3) (fs:=kZ) b4 (gD,gE,gF,gG,e7) ek.2.2 [0,1,2] (ra 3 14) [0] dc kr kr
 refine gx _ _ (qr λ_ gH=>wp 1 [0,5,175] b λa b=>gH _ _ (bc b H (λhb H=>?_) λhb H=>?_))
 refine qs λ_ gI=>rgS d [17] ?_
 have d:=d.drew
 have p:=d.fx
 refine bd H λcu e8 H=>bd H λdh e9 H=>jN [0,1,2,3,5,6,7,9] [0,5,176,179,183,185] (L':=[k35 e,k32 Y,(176,pt e 0),(179,pt e 43),(183,pt e 28),(185,pt Y 1)]) (listed':=(mV 18 751)) (fuel:=10) b p kr (by intro c a w t v h; cases t<;>exact h) kr rfl λa b=>atk 4 (some 180) b p rfl (vld 2 28 0) λa b=>atk 8 (some 184) b p rfl (vld 2 17 0) λa b=>atk 10 (some 186) b p rfl (vld 1 1 0) λa b=>?_
 obtain ⟨_,rfl,hvx292⟩:=w5 (P:=Tryz.prog) (KT:=32) (E:=3) (kt:=(kInt .u64)) (agg:=false) (t:=(fInt .i64).ty) (L:=[k35 e,k32 Y,(176,pt e 0),(179,pt e 43),(180,.slice q K.length u),(183,pt e 28),(184,.map C),(185,pt Y 1),(186,vu f.Id)]) (o:=⟨(some 187),(Go.Op.lookup 76 (Go.Operand.tmp 184) (Go.Operand.tmp 186) false),3,"gate.go:375",#[(Go.Edge.mk 8 Go.Ground.data),(Go.Edge.mk 10 Go.Ground.data)],none⟩) d 5 (k:=f.Id) (zc:=flat [si 0]) (zm:=0) rfl kr kr rfl e8 kr kr kr (λ_ _=>rfl)
 refine atk 11 (some 187) b (d.sx [0,1,2,7,8,9,10,11,12,13,14] (rg 14)) rfl (λw hw=>hvx292 7 rfl w hw) λa b=>jN [12] [0,5,176,180,188] (L':=[k35 e,k32 Y,(176,pt e 0),(180,.slice q K.length u),(188,.agg (flat [si cu.1,si 3,sb false,sb false,sg empty,sg empty,sb false,su 0,si 0,si 0,su 0,si 0,si 0]).toArray)]) (listed':=(mV 18 8191)) (fuel:=5) b (d.sx [0,1,2,7,8,9,10,11,12,13,14] (rg 14)) kr (by intro c a w t v h; cases t<;>exact h) kr rfl λa b=>?_
 refine ago 13 b rfl (oI (t:=kK) (z := .agg (flat (k20 empty)).toArray) (l:=[(jL.mk cu.1 3 false false (jB.mk empty empty false 0 0 0) (mN.mk 0 0 0))]) (vs:=[(0,.agg (flat [si cu.1,si 3,k3e,k3e,sg empty,sg empty,k3e,su 0,si 0,si 0,su 0,si 0,si 0]).toArray)]) (cells := #[vi cu.1,vi 3,vb false,vb false,.string (empty),.string (empty),vb false,vu 0,vi 0,vi 0,vu 0,vi 0,vi 0]) (E:=52) b d kr rfl kr kr rfl kr kr kr kr kr λgJ κ a w b d=>?_)
 refine ⟨λ_=>(d.sx [1,2,3,8,9,10,11,12,13,14,15] (ra 1 14)),?_⟩
 refine ago 14 b rfl (kJ (ty:=kK.ty) b d kr 7 12 0 rfl rfl rfl kr kr rfl rfl rfl e9 kr (i:=Tryz.t52) (z := .agg (flat (k20 empty)).toArray) kr kr kr λcQ cR κ a w b d=>⟨λ_=>(d.sx [1,2,3,8,9,10,11,12,13,14,15] (ra 2 14)),?_⟩)
 refine anp [15,16] [0,5,190,192] b (d.sx [1,2,3,8,9,10,11,12,13,14,15] (ra 2 14)) λa b=>ago 17 b rfl (wst b d 3 28 1 [sl cQ dh.length cR] (sgN 1 jD) λa w b d=>⟨notE,?_⟩)
 refine kN (gI _ _ ?_)
 have d:=d.cC (C':=[.tok gJ 52 13 ([(jL.mk cu.1 3 false false (jB.mk empty empty false 0 0 0) (mN.mk 0 0 0))]).length 1,k4f b4 cP ek.2.2,k4p Y f bf bg bh bi,k4t e a1 a2 aG a4 a5 a6 p8 a7 c9 T U an G V.length I ao S W b4 av g aq C F x J.length y j aF ai aA aE A O.length B ar Q ah.length R cQ dh.length cR,k45 x J.length y,k46 A O.length B,k3j Q ah.length R,k3n cQ dh.length cR,.ext (ownX jM 4 G I V),k31 S ae aP,k47 W af aT,.ext (arrX j6 g al aI),mx C ab Z,mx F aj aa,mx j am X,k3p ai ak aU])
 refine rgX d [1,2,3,8,9,10,11,13,14,15] ?_
 have d:=d.drew
 have p:=d.px [1,2,3,8,9,10,11,13,14,15]
 refine jN [0,1,2,4] [195,197] (L':=[(195,pt e 28),(197,pt Y 1)]) (listed':=(mV 7 23)) (fuel:=3) b p kr (by intro c a w t v h; cases t<;>exact h) kr rfl λa b=>atk 3 (some 196) b p rfl (vld 2 17 0) λa b=>atk 5 (some 198) b p rfl (vld 1 1 0) λa b=>ago 6 b rfl (wM (KT:=32) (E:=3) (kt:=(kInt .u64)) (agg:=false) (t:=(fInt .i64).ty) b d kr 12 7 (k:=f.Id) rfl kr kr rfl rfl kr kr λgK a w hsub b d=>⟨λ_=>(d.sx [1,2,3,8,9,10,11,13,14,15] (ra 1 16)),?_⟩)
 refine kN ?_
 cases H
 exact j7 b d (mL results33) ⟨p8,c9,T,U,G,I,S,ae,W,af,(some b4),cP,g,al,C,gK,Z,F,aj,aa,x,y,j,am,X,ai,ak,A,B,Q,R,cQ,cR,rfl,d.sp [3,4,5,6,7,8,9,10,1,11,12,13,14,15] [5,6,7,0,9,10,11,12,13,1]⟩
 refine sk ?_
 cases H
 exact j7 b d (mL results33) ⟨p8,c9,T,U,G,I,S,ae,W,af,(some b4),cP,g,al,C,ab,Z,F,aj,aa,x,y,j,am,X,ai,ak,A,B,Q,R,q,u,rfl,d.sp [2,3,4,5,6,7,8,9,0,10,11,12,13,14] (ra 2 10)⟩
 refine qr λ_ gL=>wp 2 [0,1,5,26,199] b λa b=>gL _ _ (bc b H (λhb H=>?_) λhb H=>?_)
 refine qs λ_ gM=>rgS d [11] ?_
 have d:=d.drew
 have p:=d.fx
 refine jN [0,1,2,4] [0,5,204,206] (L':=[k35 e,k32 Y,(204,pt e 29),(206,pt Y 1)]) (listed':=(mV 13 23)) (fuel:=9) b p kr (by intro c a w t v h; cases t<;>exact h) kr rfl λa b=>atk 3 (some 205) b p rfl (vld 1 18 0) λa b=>atk 5 (some 207) b p rfl (vld 0 1 0) λa b=>bd H λaL fa H=>?_
 obtain ⟨_,⟨⟨el,em⟩,rfl,hR⟩,hvx300⟩:=w5 (P:=Tryz.prog) (KT:=32) (E:=95) (kt:=(kInt .u64)) (agg:=true) (t:=kO) (L:=[k35 e,k32 Y,(204,pt e 29),(205,.map F),(206,pt Y 1),(207,vu f.Id)]) (o:=⟨(some 208),(Go.Op.lookup 77 (Go.Operand.tmp 205) (Go.Operand.tmp 207) true),151,"gate.go:379",#[(Go.Edge.mk 3 Go.Ground.data),(Go.Edge.mk 5 Go.Ground.data)],none⟩) d 4 (k:=f.Id) (zc:=flat (k14 empty)) (zm:=(i8.mk 0 false empty 0 ([]:List jB))) rfl kr kr rfl fa kr kr kr E4
 have d:=d.adds hR
 refine atk 6 (some 208) b (d.sx [0,1,6,7,8,9,10,11,12,13,14] (ra 1 12)) rfl (λw hw=>hvx300 8 rfl w hw) λa b=>anp [7,8] [0,5,201,209] b (d.sx [0,1,6,7,8,9,10,11,12,13,14] (ra 1 12)) λa b=>u1 [9] [0,5,209,210] b (λ_=>d.sx [0,1,6,7,8,9,10,11,12,13,14] (ra 1 12)) λa b=>?_
 have b:Fr (446) _ [k35 e,k32 Y,(209,.agg (flat [si aL.1.id,sb aL.1.read,sg aL.1.key,su aL.1.at_,sl el aL.1.writes.length em]).toArray),(210,vb aL.2)] a:=b.kp [0,5,209,210]
 refine ago 10 b rfl (wal b d (k14 empty) (sgN 5 jD) λeo a w b d=>⟨λ_=>(d.sx [1,2,7,8,9,10,11,12,13,14,15] (ra 1 12)),?_⟩)
 refine ago 11 b rfl (wst b d 0 0 5 (k13 aL.1 el em) (sgN 5 jD) λa w b d=>⟨notE,?_⟩)
 refine u1 [12] [0,5,17,18] b notE λa b=>?_
 have b:Fr (446) _ [k35 e,k32 Y,(17,pt eo 0),(18,vb aL.2)] a:=b.kp [0,5,17,18]
 refine kN (gM _ _ (qs λ_ gN=>qr λ_ gO=>wp 2 [0,5,17,212] b λa b=>gO _ _ (bc b H (λhb H=>?_) λhb H=>?_)))
 refine rt ?_
 cases H
 exact j7 b d (mL results33) ⟨p8,c9,T,U,G,I,S,ae,W,af,aw,aB,g,al,C,ab,Z,F,aj,aa,x,y,j,am,X,ai,ak,A,B,Q,R,q,u,rfl,d.sp (ra 2 14) (ra 1 10)⟩
 refine sk (gN _ _ (qs λ_ gP=>rgX d [0,1,2,7,8,9,10,11,12,14,15] ?_))
 have d:=d.drew
 have p:=d.px [0,1,2,7,8,9,10,11,12,14,15]
 refine jN [0,1,2,4] [0,5,17,215,217] (L':=[k35 e,k32 Y,(17,pt eo 0),(215,pt e 29),(217,pt Y 1)]) (listed':=(mV 7 23)) (fuel:=3) b p kr (by intro c a w t v h; cases t<;>exact h) kr rfl λa b=>atk 3 (some 216) b p rfl (vld 2 18 0) λa b=>atk 5 (some 218) b p rfl (vld 1 1 0) λa b=>ago 6 b rfl (wM (KT:=32) (E:=95) (kt:=(kInt .u64)) (agg:=true) (t:=kO) b d kr 13 5 (k:=f.Id) rfl kr kr rfl rfl kr kr λcv a w hsub b d=>⟨λ_=>(d.sx [0,1,2,7,8,9,10,11,12,14,15] (ra 1 13)),?_⟩)
 refine kN (gP _ _ (qr λ_ gQ=>bd H λb5 bR H=>k8 (λa w => ∃κ bL,Fr (446) [] [k35 e,k32 Y,(19,pt bL 0)] a∧SS Ms κ0 w0 κ w [k4p Y f bf bg bh bi,k4s e a1 a2 aG a4 a5 a6 p8 a7 c9 T U an G V.length I ao S W aw av g aq C F x J.length y j aF ai aA aE A O.length B ar Q ah.length R q K.length u,.box bL 52 [si aL.1.id,si 1,sb (f.N==2),sb b5,sg empty,sg empty,k3e,su 0,si 0,si 0,su 0,si 0,si 0],k45 x J.length y,k46 A O.length B,k3j Q ah.length R,k3n q K.length u,.ext (ownX jM 4 G I V),k31 S ae aP,k47 W af aT,k48 aw aB bz,.ext (arrX j6 g al aI),mx C ab Z,mx F cv aa,mx j am X,k3p ai ak aU] (k1y p8 c9 a7 T U (ml g 4) C ab Z ba F cv aa (mDel be f.Id) x y J j am X a3 A B O Q R ah q u K bf bg f bh bi)∧True) ?_ ?_))
 refine wp 1 [0,5,219] b λa b=>wc (wld b d 0 0 0 λa b=>wp 1 [0,5,220,221] b λa b=>wc (wld b d 1 2 0 λa b=>wp 2 [0,5,220,223,224] b λa b=>wc (wld b d 1 2 0 λa b=>wp 2 [0,5,220,223,227] b λa b=>bs bR (λhb bR=>?_) λhb bR=>?_)))
 have b:=b.bv 227 hb
 refine wp 1 [0,5,220,223,227,228] b λa b=>wcg b (wld b d 1 6 0 λa b=>wp 4 [0,5,233] b λa b=>wc (wal b d (k20 empty) (sgN 13 jD) λgR a w b d=>wc (wst b d 0 0 13 [si aL.1.id,si 1,sb (f.N==2),(sb ((f.Vers.length:Int)==1)),sg empty,sg empty,k3e,su 0,si 0,si 0,su 0,si 0,si 0] (sgN 13 jD) λa w b d=>?_)))
 refine nl ?_
 cases bR
 exact ⟨_,gR,b.kp [0,5,19],d.sp [2,3,0,4,5,6,7,8,9,10,11,12,13,14,15,16] [2,3,4,5,0,7,8,9,10,11,12,13],ja⟩
 have b:=b.bv 227 hb
 refine wp 6 [0,5,233] b λa b=>wc (wal b d (k20 empty) (sgN 13 jD) λgS a w b d=>wc (wst b d 0 0 13 [si aL.1.id,si 1,sb (f.N==2),k3e,sg empty,sg empty,k3e,su 0,si 0,si 0,su 0,si 0,si 0] (sgN 13 jD) λa w b d=>?_))
 refine nl ?_
 cases bR
 exact ⟨_,gS,b.kp [0,5,19],d.sp [2,3,0,4,5,6,7,8,9,10,11,12,13,14,15,16] [2,3,4,5,0,7,8,9,10,11,12,13],ja⟩
 rintro a w ⟨κ,bL,b,d,-⟩
 refine gQ _ _ (m2 (λa w => ∃κ b6 b7 b8 b9 ca cb,Fr (446) [] [k35 e,(19,pt bL 0)] a∧SS Ms κ0 w0 κ w [k4s e a1 a2 aG a4 a5 a6 p8 a7 c9 T U an G V.length I ao S W aw av g aq C F x J.length y j aF ai aA aE A O.length B ar Q ah.length R q K.length u,.box bL 52 [si aL.1.id,si 1,sb (f.N==2),sb b5,sg b6,sg b7,sb b8,su b9,si ca,si cb,su 0,si 0,si 0],k45 x J.length y,k46 A O.length B,k3j Q ah.length R,k3n q K.length u,.ext (ownX jM 4 G I V),k31 S ae aP,k47 W af aT,k48 aw aB bz,.ext (arrX j6 g al aI),mx C ab Z,mx F cv aa,mx j am X,k3p ai ak aU] (k1z p8 c9 a7 T U (ml g 4) C ab Z ba F cv aa (mDel be f.Id) x y J j am X a3 A B O Q R ah q u K)∧M.oB N a1 a2 a4 a5 a6 a7 V aP aT bz av aI ba be J a3 aF aU aA aE O ah K f aL b5 b6 b7 b8 b9 ca cb=some r) ?_ ?_)
 refine qr λ_ gT=>wp 1 [0,5,19,234] b λa b=>wc (wld b d 2 3 0 λa b=>gT _ _ (bc b H (λhb H=>?_) λhb H=>?_))
 refine rl (jE (L':=[k35 e,(19,pt bL 0),(236,pt Y 6)]) 1 [0,19,236] b kr λa b=>wc (wld b d 0 6 0 λa b=>bd H λbM dz H=>wc (kR b d kr 10 (E:=48) (sz:=6) rfl rfl rfl kr rfl dz kr kr λiC iD a ep b=>wc (qY (t:=jG) b d kr 10 rfl rfl ep rfl dz kr kr kr λa b=>wp 1 [0,19,239,240] b λa b=>wc (wst b d 2 4 6 (k0w bM) (sgN 6 jD) λa w b d=>nl ?_)))))
 exact ⟨_,bM.Key,bM.Val,bM.Gone,bM.TS,bM.DC,bM.Tx,b.kp [0,19],d.sp (ra 1 15) (rg 10),H⟩
 refine sk ?_
 exact ⟨_,empty,empty,false,0,0,0,b.kp [0,19],d.sp (ra 1 15) (rg 10),H⟩
 rintro a w ⟨κ,b6,b7,b8,b9,ca,cb,b,d,H⟩
 unfold M.oB at H
 refine rgS d [10] ?_
 have d:=d.drew
 have p:=d.fx
 refine bd H λgU fb H=>jN (rg 4) [19,241,244] (L':=[(19,pt bL 0),(241,pt e 0),(244,pt e 43)]) (listed':=(mV 11 15)) (fuel:=7) b p kr (by intro c a w t v h; cases t<;>exact h) kr rfl λa b=>atk 4 (some 245) b p rfl (vld 0 28 0) λa b=>atk 5 (some 246) b p rfl (vls 1 0 13) λa b=>ago 6 b rfl (oI (t:=kK) (z := .agg (flat (k20 empty)).toArray) (l:=[(jL.mk aL.1.id 1 (f.N==2) b5 (jB.mk b6 b7 b8 b9 ca cb) (mN.mk 0 0 0))]) (vs:=[(0,.agg (flat [si aL.1.id,si 1,sb (f.N==2),sb b5,sg b6,sg b7,sb b8,su b9,si ca,si cb,su 0,si 0,si 0]).toArray)]) (cells := #[vi aL.1.id,vi 1,vb (f.N==2),vb b5,.string (b6),.string (b7),vb b8,vu b9,vi ca,vi cb,vu 0,vi 0,vi 0]) (E:=52) b d kr rfl kr kr rfl kr kr kr kr kr λiE κ a w b d=>?_)
 refine ⟨λ_=>(d.sx [1,2,7,8,9,10,11,12,13,14,15] (ra 1 10)),?_⟩
 refine ago 7 b rfl (kJ (ty:=kK.ty) b d kr 6 10 0 rfl rfl rfl kr kr rfl rfl rfl fb kr (i:=Tryz.t52) (z := .agg (flat (k20 empty)).toArray) kr kr kr λeq er κ a w b d=>⟨λ_=>(d.sx [1,2,7,8,9,10,11,12,13,14,15] (ra 2 10)),?_⟩)
 refine anp [8,9] [248,250] b (d.sx [1,2,7,8,9,10,11,12,13,14,15] (ra 2 10)) λa b=>ago 10 b rfl (wst b d 1 28 1 [sl eq gU.length er] (sgN 1 jD) λa w b d=>⟨notE,?_⟩)
 refine kN ?_
 cases H
 exact j7 b d (mL results33) ⟨p8,c9,T,U,G,I,S,ae,W,af,aw,aB,g,al,C,ab,Z,F,cv,aa,x,y,j,am,X,ai,ak,A,B,Q,R,eq,er,rfl,d.sp [1,3,4,5,6,7,8,9,10,11,12,13,14,15] [2,3,4,5,6,7,8,9,10,0]⟩
 refine qr λ_ gV=>wp 2 [0,1,5,26,251] b λa b=>gV _ _ (bc b H (λhb H=>?_) λhb H=>?_)
 refine qs λ_ gW=>rgS d [11] ?_
 have d:=d.drew
 have p:=d.fx
 refine jN [0,1,2,4] [0,5,256,258] (L':=[k35 e,k32 Y,(256,pt e 31),(258,pt Y 1)]) (listed':=(mV 13 23)) (fuel:=9) b p kr (by intro c a w t v h; cases t<;>exact h) kr rfl λa b=>atk 3 (some 257) b p rfl (vld 1 20 0) λa b=>atk 5 (some 259) b p rfl (vld 0 1 0) λa b=>bd H λD fc H=>?_
 obtain ⟨_,⟨⟨bm,bn⟩,rfl,hR⟩,hvx330⟩:=w5 (P:=Tryz.prog) (KT:=32) (E:=138) (kt:=(kInt .u64)) (agg:=true) (t:=mE) (L:=[k35 e,k32 Y,(256,pt e 31),(257,.map j),(258,pt Y 1),(259,vu f.Id)]) (o:=⟨(some 260),(Go.Op.lookup 78 (Go.Operand.tmp 257) (Go.Operand.tmp 259) true),152,"gate.go:390",#[(Go.Edge.mk 3 Go.Ground.data),(Go.Edge.mk 5 Go.Ground.data)],none⟩) d 6 (k:=f.Id) (zc:=flat [si 0,si 0,si 0,k37]) (zm:=(jA.mk 0 0 0 ([]:List ByteArray))) rfl kr kr rfl fc kr kr kr E3
 have d:=d.adds hR
 refine atk 6 (some 260) b (d.sx [0,1,6,7,8,9,10,11,12,13,14] (ra 1 12)) rfl (λw hw=>hvx330 9 rfl w hw) λa b=>anp [7,8] [0,5,253,261] b (d.sx [0,1,6,7,8,9,10,11,12,13,14] (ra 1 12)) λa b=>u1 [9] [0,5,261,262] b (λ_=>d.sx [0,1,6,7,8,9,10,11,12,13,14] (ra 1 12)) λa b=>?_
 have b:Fr (446) _ [k35 e,k32 Y,(261,.agg (flat [si D.1.dc,si D.1.at_,si D.1.left,sl bm D.1.keys.length bn]).toArray),(262,vb D.2)] a:=b.kp [0,5,261,262]
 refine ago 10 b rfl (wal b d [si 0,si 0,si 0,k37] (sgN 4 jD) λaH a w b d=>⟨λ_=>(d.sx [1,2,7,8,9,10,11,12,13,14,15] (ra 1 12)),?_⟩)
 refine ago 11 b rfl (wst b d 0 0 4 [si D.1.dc,si D.1.at_,si D.1.left,sl bm D.1.keys.length bn] (sgN 4 jD) λa w b d=>⟨notE,?_⟩)
 refine u1 [12] [0,5,20,21] b notE λa b=>?_
 have b:Fr (446) _ [k35 e,k32 Y,(20,pt aH 0),(21,vb D.2)] a:=b.kp [0,5,20,21]
 refine kN (gW _ _ (qs λ_ gX=>qr λ_ gY=>wp 2 [0,5,20,264] b λa b=>gY _ _ (bc b H (λhb H=>?_) λhb H=>?_)))
 refine rt ?_
 cases H
 exact j7 b d (mL results33) ⟨p8,c9,T,U,G,I,S,ae,W,af,aw,aB,g,al,C,ab,Z,F,aj,aa,x,y,j,am,X,ai,ak,A,B,Q,R,q,u,rfl,d.sp (ra 2 14) (ra 1 10)⟩
 refine sk (gX _ _ (qs λ_ gZ=>qr λ_ g0=>wp 1 [0,5,20,265] b λa b=>wc (wld b d 0 2 0 λa b=>wp 2 [0,5,20,267,268] b λa b=>wc (wst b d 0 2 1 [si (i64.wrap (D.1.left-1))] (sgN 1 jD) λa w b d=>g0 _ _ (qr λ_ g1=>wp 1 [0,5,20,269] b λa b=>wc (wld b d 0 2 0 λa b=>wp 1 [0,5,20,271] b λa b=>g1 _ _ (bc b H (λhb H=>?_) λhb H=>?_)))))))
 refine qs λ_ g2=>rgX d [0,1,2,7,8,9,10,11,12,13,15] ?_
 have d:=d.drew
 have p:=d.px [0,1,2,7,8,9,10,11,12,13,15]
 refine jN [0,1,2,4] [20,274,276] (L':=[(20,pt aH 0),(274,pt e 31),(276,pt Y 1)]) (listed':=(mV 8 23)) (fuel:=4) b p kr (by intro c a w t v h; cases t<;>exact h) kr rfl λa b=>atk 3 (some 275) b p rfl (vld 2 20 0) λa b=>atk 5 (some 277) b p rfl (vld 1 1 0) λa b=>atk 6 (some 278) b p rfl (vls 0 0 4) λa b=>ago 7 b rfl (bd H λiF fd H=>oC (KT:=32) (E:=138) (kt:=(kInt .u64)) (agg:=true) (t:=mE) b d kr 14 7 (k:=f.Id) (v:=(jA.mk D.1.dc D.1.at_ (i64.wrap (D.1.left-1)) D.1.keys)) (cs:=flat [si D.1.dc,si D.1.at_,si (i64.wrap (D.1.left-1)),sl bm D.1.keys.length bn]) rfl kr kr kr ⟨(bm,bn),rfl,(d.pick [0] kr).ro⟩ rfl rfl fd kr kr λg3 g4 a w b d=>?_)
 refine ⟨λ_=>(d.sx [0,1,2,7,8,9,10,11,12,13,15] (ra 1 13)),?_⟩
 refine kN (g2 _ _ (rt ?_))
 cases H
 exact j7 b d (mL results33) ⟨p8,c9,T,U,G,I,S,ae,W,af,aw,aB,g,al,C,ab,Z,F,aj,aa,x,y,j,g3,g4,ai,ak,A,B,Q,R,q,u,rfl,d.sp (ra 2 14) [2,3,4,5,6,7,0,9,10,11]⟩
 refine sk (gZ _ _ (qs λ_ g5=>rgX d [0,1,2,7,8,9,10,11,12,13,15] ?_))
 have d:=d.drew
 have p:=d.px [0,1,2,7,8,9,10,11,12,13,15]
 refine jN [0,1,2,4] [0,20,281,283] (L':=[k35 e,(20,pt aH 0),(281,pt e 31),(283,pt Y 1)]) (listed':=(mV 7 23)) (fuel:=3) b p kr (by intro c a w t v h; cases t<;>exact h) kr rfl λa b=>atk 3 (some 282) b p rfl (vld 2 20 0) λa b=>atk 5 (some 284) b p rfl (vld 1 1 0) λa b=>ago 6 b rfl (wM (KT:=32) (E:=138) (kt:=(kInt .u64)) (agg:=true) (t:=mE) b d kr 14 7 (k:=f.Id) rfl kr kr rfl rfl kr kr λbC a w hsub b d=>⟨λ_=>(d.sx [0,1,2,7,8,9,10,11,12,13,15] (ra 1 13)),?_⟩)
 refine kN (g5 _ _ (qs λ_ g6=>bd H λg7 aV H=>kL (λa w => ∃κ cS,Fr (446) [] [k35 e,(20,pt aH 0),(301,vb g7)] a∧SS Ms κ0 w0 κ w (k21 aH D.1 (i64.wrap (D.1.left-1)) bm bn e a1 a2 aG a4 a5 a6 p8 a7 c9 T U an G V.length I ao S W aw av g aq C F x J.length y j aF ai aA aE A O.length B ar Q ah.length R q K.length u (ownX jM 4 G I V) ae aP af aT aB bz (arrX j6 g cS aI) ab Z aj aa bC X ak aU) (k23 p8 c9 a7 T U (ml g 4) C ab Z ba F aj aa be x y J j bC X (mDel a3 f.Id) A B O Q R ah q u K bm bn D.1.keys)∧True) ?_ ?_))
 refine bd aV λiG bS aV=>?_
 obtain ⟨es,bF⟩:=d.arrIdx 11 rfl bS
 have d:=d.add (m:=MP.const (idx g D.1.dc=some es)) bF
 have bT:idx g D.1.dc=some es:=d.get 0 rfl
 obtain ⟨ig,ih,d⟩:=d.arrTakeP 11 rfl bS bT
 refine kY aV (λbA aV=>?_) (λiH bA aV=>?_)
 obtain ⟨au,d⟩:=d.optN 0 rfl bA
 have fe:=b
 subst au
 have b:=fe
 obtain ⟨dA,d⟩:=d.arrBackI 0 1 (ra 2 15) dc rfl rfl bT (bS.trans (congrArg some bA))
 refine bd aV λiI bU aV=>kL (λa w => ∃κ,Fr (446) [] [k35 e,(20,pt aH 0),(301,vb false)] a∧SS Ms κ0 w0 κ w (k21 aH D.1 (i64.wrap (D.1.left-1)) bm bn e a1 a2 aG a4 a5 a6 p8 a7 c9 T U an G V.length I ao S W aw av g aq C F x J.length y j aF ai aA aE A O.length B ar Q ah.length R q K.length u (ownX jM 4 G I V) ae aP af aT aB bz (arrX j6 g dA aI) ab Z aj aa bC X ak aU) (k23 p8 c9 a7 T U (ml g 4) C ab Z ba F aj aa be x y J j bC X (mDel a3 f.Id) A B O Q R ah q u K bm bn D.1.keys)∧True) ?_ ?_
 refine rgS d [] ?_
 have d:=d.drew
 have p:=d.fx
 refine anp [0,2,3,4] [0,20,285,289] b p λa b=>atk 1 (some 286) b p rfl (vld 1 0 0) λa b=>atk 5 (some 290) b p rfl (vld 3 0 0) λa b=>anp [6,7] [0,20,292] b p λa b=>bs bU (λhb bU=>?_) λhb bU=>?_
 have b:=b.bv 292 hb
 refine jN [8,9,11,12] [0,20,292,294,297] (L':=[k35 e,(20,pt aH 0),(292,vb true),(294,pt aH 0),(297,pt e 16)]) (listed':=(mV 17 7167)) (fuel:=5) b p kr (by intro c a w t v h; cases t<;>exact h) kr rfl λa b=>atk 10 (some 295) b p rfl (vld 1 0 0) λa b=>atk 13 (some 298) b (d.sx [0,1,2,3,8,9,10,11,12,13,14,15] (rg 15)) rfl (λw _=>lU (E:=81) (sz:=1) (n:=4) rfl rfl (i:=D.1.dc) rfl (m4 bF (d.get 5 rfl)) kr kr w) λa b=>atk 14 (some 299) b (d.sx [0,1,2,3,8,9,10,11,12,13,14,15] (rg 15)) rfl (rZ (t:=pO) 3 15 (v := .pointer none) rfl rfl rfl rfl bF rfl rfl kr kr) λa b=>?_
 refine anp [15,16] [0,20,301] b (d.sx [0,1,2,3,8,9,10,11,12,13,14,15] (rg 15)) λa b=>kN ?_
 cases bU
 exact ⟨_,b.kp [0,20,301],d.sp [1,3,4,5,6,7,8,9,10,11,0,12,13,14,15] [3,4,5,6,7,8,1,10,11,12,2],ja⟩
 have b:=b.bv 292 hb
 refine anp (ra 8 9) [0,20,301] b p λa b=>kN ?_
 cases bU
 exact ⟨_,b.kp [0,20,301],d.sp [1,3,4,5,6,7,8,9,10,11,0,12,13,14,15] [3,4,5,6,7,8,1,10,11,12,2],ja⟩
 rintro a w ⟨κ,b,d,-⟩
 cases aV
 exact ⟨_,dA,b.kp [0,20,301],d.sp (rg 15) (rg 11),ja⟩
 obtain ⟨g8,au,d⟩:=d.optS 0 rfl bA
 have fg:=b
 subst au
 have b:=fg
 refine bd aV λg9 bV aV=>kL (λa w => ∃κ cT,Fr (446) [] [k35 e,(20,pt aH 0),(301,vb g9)] a∧SS Ms κ0 w0 κ w (k21 aH D.1 (i64.wrap (D.1.left-1)) bm bn e a1 a2 aG a4 a5 a6 p8 a7 c9 T U an G V.length I ao S W aw av g aq C F x J.length y j aF ai aA aE A O.length B ar Q ah.length R q K.length u (ownX jM 4 G I V) ae aP af aT aB bz (arrX j6 g cT aI) ab Z aj aa bC X ak aU) (k23 p8 c9 a7 T U (ml g 4) C ab Z ba F aj aa be x y J j bC X (mDel a3 f.Id) A B O Q R ah q u K bm bn D.1.keys)∧True) ?_ ?_
 refine rgS d [] ?_
 have d:=d.drew
 have p:=d.fx
 refine anp [0,2,3,4] [0,20,285,289] b p λa b=>atk 1 (some 286) b p rfl (vld 2 0 0) λa b=>atk 5 (some 290) b p rfl (vld 4 0 0) λa b=>anp [6,7] [0,20,292] b p λa b=>bs bV (λhb bV=>?_) λhb bV=>?_
 have b:=b.bv 292 hb
 refine jN [8,9,11,12] [0,20,292,294,297] (L':=[k35 e,(20,pt aH 0),(292,vb true),(294,pt aH 0),(297,pt e 16)]) (listed':=(mV 17 7167)) (fuel:=5) b p kr (by intro c a w t v h; cases t<;>exact h) kr rfl λa b=>atk 10 (some 295) b p rfl (vld 2 0 0) λa b=>atk 13 (some 298) b (d.sx [0,1,2,3,4,9,10,11,12,13,14,15,16] (rg 15)) rfl (λw _=>lU (E:=81) (sz:=1) (n:=4) rfl rfl (i:=D.1.dc) rfl (m4 bF (d.get 5 rfl)) kr kr w) λa b=>atk 14 (some 299) b (d.sx [0,1,2,3,4,9,10,11,12,13,14,15,16] (rg 15)) rfl (rZ (t:=pO) 4 15 (v:=pt g8 0) rfl rfl rfl rfl bF rfl rfl kr kr) λa b=>?_
 refine anp [15,16] [0,20,301] b (d.sx [0,1,2,3,4,9,10,11,12,13,14,15,16] (rg 15)) λa b=>kN ?_
 obtain ⟨fh,d⟩:=d.arrBackI 0 1 (ra 2 15) dc rfl rfl bT (bS.trans (congrArg some bA))
 cases bV
 exact ⟨_,fh,b.kp [0,20,301],d.sp [1,3,4,5,6,7,8,9,10,11,0,12,13,14,15] [3,4,5,6,7,8,1,10,11,12,2],ja⟩
 have b:=b.bv 292 hb
 refine anp (ra 8 9) [0,20,301] b p λa b=>kN ?_
 obtain ⟨fi,d⟩:=d.arrBackI 0 1 (ra 2 15) dc rfl rfl bT (bS.trans (congrArg some bA))
 cases bV
 exact ⟨_,fi,b.kp [0,20,301],d.sp [1,3,4,5,6,7,8,9,10,11,0,12,13,14,15] [3,4,5,6,7,8,1,10,11,12,2],ja⟩
 rintro a w ⟨κ,cT,b,d,-⟩
 cases aV
 exact ⟨_,cT,b.kp [0,20,301],d.sp (rg 15) (rg 11),ja⟩
 rintro a w ⟨κ,cS,b,d,-⟩
 refine g6 _ _ (bc b H (λhb H=>?_) λhb H=>?_)
 refine qs λ_ ha=>bd H λiJ cU H=>?_
 obtain ⟨et,cw⟩:=d.arrIdx 10 rfl cU
 have d:=d.add (m:=MP.const (idx g D.1.dc=some et)) cw
 have cx:idx g D.1.dc=some et:=d.get 0 rfl
 obtain ⟨ii,ij,d⟩:=d.arrTakeP 10 rfl cU cx
 refine kY H (λbW H=>?_) (λhd bW H=>?_)
 obtain ⟨au,d⟩:=d.optN 0 rfl bW
 have fj:=b
 subst au
 have b:=fj
 obtain ⟨ik,d⟩:=d.arrBackI 0 1 (ra 2 14) dc rfl rfl cx (cU.trans (congrArg some bW))
 cases H
 obtain ⟨dj,au,d⟩:=d.optS 0 rfl bW
 have fk:=b
 subst au
 have b:=fk
 obtain ⟨⟨he,hf,hg,hh,hi,hj,hk⟩,d⟩:=d.unfI (ck:=lO) (fs:=lN) 0 rfl
 refine rga (λ_=>True) [] ?_
 have d:=d.drew
 refine jN [0,1,3,4,7] [0,20,303,306,309] (L':=[k35 e,(20,pt aH 0),(303,pt aH 0),(306,pt e 16),(309,pt aH 1)]) (listed':=(mV 10 155)) (fuel:=5) b ja kr (by intro c a w t v h; cases t<;>exact h) kr rfl λa b=>mI d [9] (atk 2 (some 304) b (d.sx [0,2,3,4,5,6,11,12,13,14,15,16,17,18] (rg 14)) rfl (vld 4 0 0) λa b=>atk 5 (some 307) b (d.sx [0,2,3,4,5,6,11,12,13,14,15,16,17,18] (rg 14)) rfl (λw _=>lU (E:=81) (sz:=1) (n:=4) rfl rfl (i:=D.1.dc) rfl (m4 cw (d.get 5 rfl)) kr kr w) λa b=>?_)
 refine atk 6 (some 308) b (d.sx [0,2,3,4,5,6,11,12,13,14,15,16,17,18] (rg 14)) rfl (rZ (t:=pO) 5 15 (v:=pt dj 0) rfl rfl rfl rfl cw rfl rfl kr kr) λa b=>atk 8 (some 310) b (d.sx [0,2,3,4,5,6,11,12,13,14,15,16,17,18] (rg 14)) rfl (vld 4 1 0) λa b=>ago 9 b rfl (bd H λeu fl H=>wcS 4 (rg 19) b d (λd=>AR N hd D.1.at_ he hf hg hh hi hj hk dj (d.sbK [0,1]) fl) ?_)
 rintro _ κ w a ⟨hl,hm,hn,hp,hq,hr,hs,rfl,h2⟩ b hB
 have d:=hB _ _ h2
 refine ⟨notE,?_⟩
 refine kN ?_
 obtain ⟨il,d⟩:=d.foldI (ck:=lO) (fs:=lN) dj (hl,hm,hn,hp,hq,hr,hs) eu.2 (rg 4) (ra 4 15) [0,1] dc kr kr
 obtain ⟨im,d⟩:=d.arrPutI 0 1 (ra 2 14) dc rfl rfl cx
 refine ha _ _ (bd H λiK cp H=>?_)
 obtain ⟨ew,cy⟩:=d.arrIdx 0 rfl cp
 have d:=d.add (m:=MP.const (idx g D.1.dc=some ew)) cy
 have cz:idx g D.1.dc=some ew:=d.get 0 rfl
 obtain ⟨io,fm,d⟩:=d.arrTakeP 0 rfl cp cz
 refine kY H (λbG H=>?_) (λcA bG H=>?_)
 obtain ⟨au,d⟩:=d.optN 0 rfl bG
 have fn:=b
 subst au
 have b:=fn
 obtain ⟨ip,d⟩:=d.arrBackI 0 1 (ra 2 14) dc rfl rfl cz (cp.trans (congrArg some bG))
 cases H
 obtain ⟨cV,au,d⟩:=d.optS 0 rfl bG
 have fo:=b
 subst au
 have b:=fo
 obtain ⟨⟨cW,cX,cY,cZ,c0,dk,dl⟩,d⟩:=d.unfI (ck:=lO) (fs:=lN) 0 rfl
 refine bd H λdm ho H=>?_
 obtain ⟨cB,au,d⟩:=d.optS 12 rfl ho
 rw [au] at d
 try rw [au] at b
 obtain ⟨⟨dn,dp⟩,d⟩:=d.unfI (ck:=jP) (fs:=jO) 12 rfl
 refine rga (λ_=>True) [] ?_
 have d:=d.drew
 refine jN [0,1,2,4,6,7,9,10] [314,316,319,322] (L':=[(314,pt e 12),(316,pt aH 0),(319,pt aH 0),(322,pt e 16)]) (listed':=(mV 15 1751)) (fuel:=7) b ja kr (by intro c a w t v h; cases t<;>exact h) kr rfl λa b=>mI d [14] (atk 3 (some 315) b (d.sx [0,1,2,4,5,6,7,8,13,14,15,16,17,18,19] (rg 23)) rfl (vld 7 11 0) λa b=>atk 5 (some 317) b (d.sx [0,1,2,4,5,6,7,8,13,14,15,16,17,18,19] (rg 23)) rfl (vld 6 0 0) λa b=>?_)
 refine atk 8 (some 320) b (d.sx [0,1,2,4,5,6,7,8,13,14,15,16,17,18,19] (rg 23)) rfl (vld 6 0 0) λa b=>atk 11 (some 323) b (d.sx [0,1,2,4,5,6,7,8,13,14,15,16,17,18,19] (rg 23)) rfl (λw _=>lU (E:=81) (sz:=1) (n:=4) rfl rfl (i:=D.1.dc) rfl (m4 cy (d.get 14 rfl)) kr kr w) λa b=>atk 12 (some 324) b (d.sx [0,1,2,4,5,6,7,8,13,14,15,16,17,18,19] (rg 23)) rfl (rZ (t:=pO) 7 15 (v:=pt cV 0) rfl rfl rfl rfl cy rfl rfl kr kr) λa b=>?_
 refine ago 13 b rfl (bd H λht fp H=>wcS 3 [2,4,5,0,1,3,6,7,8,9,10,11,12,13,14,15,16,17,18,19] b d (λd=>xQ N cA cW cX cY cZ c0 dk dl cV (d.sbK [4,5]) fp) ?_)
 rintro _ κ w a ⟨rfl,h2⟩ b hB
 have d:=(hB _ _ h2).cC (C':=[k3w cV cA cW cX cY cZ c0,.ext (ownX jM 4 cY cZ cA.done),mx c0 dk dl,k34 cB dm dn dp,.ext (ownX (fInt .u64) 32 dn dp dm.beats),k3r cW cA.list.length cX,.ext (arrX j6 (set g (toNat D.1.dc) none) fm (set (set aI (toNat D.1.dc) (some eu.2)) (toNat D.1.dc) none)),.box aH 138 [si D.1.dc,si D.1.at_,si (i64.wrap (D.1.left-1)),sl bm D.1.keys.length bn],.box e 87 [si a1,si a2,(1,aG),si a4,si a5,si a6,sl p8 a7.Cuts.length c9,sl T a7.Nodes.length U,(1,an),sl G V.length I,(2,ao),k3v cB,sp W,sp aw,su av,k4d g,(8,aq),sm C,sm F,sl x J.length y,sm j,su aF,sp ai,si aA,si aE,sl A O.length B,(5,ar),sl Q ah.length R,sl q K.length u],k45 x J.length y,k46 A O.length B,k3j Q ah.length R,k3n q K.length u,.ext (ownX jM 4 G I V),k47 W af aT,k48 aw aB bz,mx C ab Z,mx F aj aa,mx j bC X,k3p ai ak aU])
 refine ⟨λ_=>(d.sx [3,4,0,1,2,6,7,8,13,14,15,16,17,18,19] (rg 23)),?_⟩
 refine ago 14 b rfl (bd H λhu fq H=>wcS 2 [3,4,0,1,2,5,6,7,8,9,10,11,12,13,14,15,16,17,18,19] b d (λd=>wZ N dm D.1.dc ht dn dp cB (d.sbK (rg 4)) fq) ?_)
 rintro _ κ w a ⟨hv,hx,rfl,h2⟩ b hB
 have d:=hB _ _ h2
 refine ⟨notE,?_⟩
 refine kN ?_
 obtain ⟨fr,d⟩:=d.foldI (ck:=jP) (fs:=jO) cB (hv,hx) hu [0,1] (ra 2 18) (rg 4) dc kr kr
 obtain ⟨iq,d⟩:=d.foldI (ck:=lO) (fs:=lN) cV (cW,cX,cY,cZ,c0,dk,dl) cA [1,4,2,3] [0,5,6,7,8,9,10,11,12,13,14,15,16,17,18] [8,9] dc kr kr
 obtain ⟨ft,d⟩:=d.arrBackI 0 2 [1,3,4,5,6,7,8,9,10,11,12,13,14,15] dc rfl rfl cz (cp.trans (congrArg some bG))
 cases H
 exact j7 b d (mL results33) ⟨p8,c9,T,U,G,I,(some cB),fr,W,af,aw,aB,g,ft,C,ab,Z,F,aj,aa,x,y,j,bC,X,ai,ak,A,B,Q,R,q,u,rfl,d.sp [3,4,5,6,7,8,1,9,10,0,11,12,13,14] (ra 16 10)⟩
 refine sk ?_
 cases H
 exact j7 b d (mL results33) ⟨p8,c9,T,U,G,I,S,ae,W,af,aw,aB,g,cS,C,ab,Z,F,aj,aa,x,y,j,bC,X,ai,ak,A,B,Q,R,q,u,rfl,d.sp (ra 1 14) (rg 10)⟩
 refine qr λ_ hy=>wp 2 [0,1,5,26,327] b λa b=>hy _ _ (bc b H (λhb H=>?_) λhb H=>?_)
 refine rl (wp 1 [5,329] b λa b=>wc (wls b d 0 0 14 λa b=>bd H λdq fu H=>?_))
 have dD:=d.segs 1 rfl
 refine wc (wcS 4 [1,3,4,14,0,2,5,6,7,8,9,10,11,12,13] b d (λd=>AV N a1 aU aA aE O ah f (flat [si a2,(1,aG),si a4,si a5,si a6,sl p8 a7.Cuts.length c9,sl T a7.Nodes.length U,(1,an),sl G V.length I,(2,ao),sp S,sp W,sp aw,su av,k4d g,(8,aq),sm C,sm F,sl x J.length y,sm j,su aF]) ai ak A B ar Q R [.slice q K.length u] bf bg bh bi e ((d.regr 0 [(false,1),(true,21),(false,7)] rfl).sbK [7,8,10,11]) fu) ?_)
 rintro _ κ w a ⟨ex,fv,ey,ez,eA,eB,rfl,h2⟩ b hB
 have d:=(hB _ _ h2).unregrK 0 [(false,1),(true,21),(false,7)] (s':=[si a1,si a2,(1,aG),si a4,si a5,si a6,sl p8 a7.Cuts.length c9,sl T a7.Nodes.length U,(1,an),sl G V.length I,(2,ao),sp S,sp W,sp aw,su av,k4d g,(8,aq),sm C,sm F,sl x J.length y,sm j,su aF,sp ex,si aA,si dq.2.1,sl ey dq.2.2.1.length ez,(5,ar),sl eA dq.2.2.2.length eB,sl q K.length u]) dD rfl
 refine nl ?_
 cases H
 exact j7 b d (mL results33) ⟨p8,c9,T,U,G,I,S,ae,W,af,aw,aB,g,al,C,ab,Z,F,aj,aa,x,y,j,am,X,ex,fv,ey,ez,eA,eB,q,u,rfl,d.sp [0,5,1,2,6,7,8,9,10,11,12,13,14,3] [2,3,4,5,6,7,8,0,1,11]⟩
 refine qr λ_ hz=>(jE (L':=[k35 e,k2z bE,k32 Y,(26,vi f.Kind),(332,vb (f.Kind==16))]) 2 [0,1,5,26,332] b kr λa b=>hz _ _ (bc b H (λhb H=>?_) λhb H=>?_))
 refine qs λ_ hA=>bd H λeC bD H=>kL (λa w => ∃κ dr c1,Fr (446) [] [k35 e,(359,vb eC.2)] a∧SS Ms κ0 w0 κ w (k1x e a1 a2 aG a4 a5 a6 p8 a7 c9 T U an G V.length I ao S W aw av g aq C F x J.length y j aF dr aA aE A O.length B ar Q ah.length R q K.length u (ownX jM 4 G I V) ae aP af aT aB bz (arrX j6 g al aI) ab Z aj aa am X c1 eC.1) (k1z p8 c9 a7 T U (ml g 4) C ab Z ba F aj aa be x y J j am X a3 A B O Q R ah q u K)∧True) ?_ ?_
 refine kY bD (λho bD=>?_) (λds ho bD=>?_)
 obtain ⟨au,d⟩:=d.optN 14 rfl ho
 rw [au] at d
 try rw [au] at b
 refine rl (wp 3 [0,1,336] b λa b=>wc (wld b d 1 22 0 λa b=>wp 22 [0,359] b λa b=>nl ?_))
 cases bD
 exact ⟨_,none,[],b.kp [0,359],d.sp (ra 1 14) (rg 10),ja⟩
 obtain ⟨cD,au,d⟩:=d.optS 14 rfl ho
 rw [au] at d
 try rw [au] at b
 obtain ⟨_,d⟩:=d.unfI (ck:=lA) (fs:=l8) 14 rfl
 refine rl (bd bD λhC bX bD=>k8 (λa w => ∃κ c2,Fr (446) [] [k35 e,(359,vb hC)] a∧SS Ms κ0 w0 κ w [.box e 87 [si a1,si a2,(1,aG),si a4,si a5,si a6,sl p8 a7.Cuts.length c9,sl T a7.Nodes.length U,(1,an),sl G V.length I,(2,ao),sp S,sp W,sp aw,su av,k4d g,(8,aq),sm C,sm F,sl x J.length y,sm j,su aF,k3v cD,si aA,si aE,sl A O.length B,(5,ar),sl Q ah.length R,sl q K.length u],k45 x J.length y,k46 A O.length B,k3j Q ah.length R,k3n q K.length u,.ext (ownX jM 4 G I V),k31 S ae aP,k47 W af aT,k48 aw aB bz,.ext (arrX j6 g al aI),mx C ab Z,mx F aj aa,mx j am X,k4q cD c2 ds] (k1z p8 c9 a7 T U (ml g 4) C ab Z ba F aj aa be x y J j am X a3 A B O Q R ah q u K)∧True) ?_ ?_)
 refine wp 3 [0,1,336] b λa b=>wc (wld b d 2 22 0 λa b=>wp 5 [0,1,339,342] b λa b=>wcg b (wld b d 2 22 0 λa b=>wp 2 [0,1,339,345] b λa b=>wcg b (wld b d 0 5 0 λa b=>wp 3 [0,1,349] b λa b=>bs bX (λhb bX=>?_) λhb bX=>?_)))
 have b:=b.bv 349 hb
 refine wp 4 [0,349,350,353] b λa b=>wcg b (wld b d 2 22 0 λa b=>wp 2 [0,349,350,356] b λa b=>wcg b (wld b d 0 4 0 λa b=>wp 2 [0,359] b λa b=>?_))
 obtain ⟨fw,d⟩:=d.foldI (ck:=lA) (fs:=l8) cD () ds [0] (ra 1 14) [] dc kr kr
 refine nl ?_
 cases bX
 exact ⟨_,fw,b.kp [0,359],d.sp [2,3,4,5,6,7,8,9,10,11,12,13,14,0] (rg 10),ja⟩
 have b:=b.bv 349 hb
 refine wp 10 [0,359] b λa b=>?_
 obtain ⟨fy,d⟩:=d.foldI (ck:=lA) (fs:=l8) cD () ds [0] (ra 1 14) [] dc kr kr
 refine nl ?_
 cases bX
 exact ⟨_,fy,b.kp [0,359],d.sp [2,3,4,5,6,7,8,9,10,11,12,13,14,0] (rg 10),ja⟩
 rintro a w ⟨κ,c2,b,d,-⟩
 cases bD
 exact ⟨_,(some cD),c2,b.kp [0,359],d.sp (rg 14) (rg 10),ja⟩
 rintro a w ⟨κ,dr,c1,b,d,-⟩
 refine hA _ _ (bc b H (λhb H=>?_) λhb H=>?_)
 refine qs λ_ hD=>bd H λbN ho H=>?_
 obtain ⟨c3,au,d⟩:=d.optS 13 rfl ho
 rw [au] at d
 try rw [au] at b
 obtain ⟨_,d⟩:=d.unfI (ck:=lA) (fs:=l8) 13 rfl
 refine rgS d [29] ?_
 have d:=d.drew
 have p:=d.fx
 refine anp [0,1,2,3,5,6,7,9,10,11,16,17,18] [0,361,364,368,372,379] b p λa b=>atk 4 (some 365) b p rfl (vls 1 6 2) λa b=>atk 8 (some 369) b p rfl (vld 1 1 0) λa b=>atk 12 (some 373) b p rfl (vld 1 22 0) λa b=>anp [13,14] [0,361,365,369,375,379] b p λa b=>atk 15 (some 376) b p rfl (vld 0 3 0) λa b=>atk 19 (some 380) b p rfl (vld 1 22 0) λa b=>anp [20,21] [0,361,365,369,376,382] b p λa b=>atk 22 (some 383) b p rfl (vld 0 4 0) λa b=>ago 23 b rfl (bd H λaM fz H=>jR b d kr kr (y8 N d.fresh a7 a2 bN.shard bN.to p8 c9 T U ((d.pick [0,1] kr).ro) fz) ?_)
 rintro _ κ w a ⟨bt,bu,bw,bx,rfl,hR,hN⟩ b d hO
 have d:=d.adds hR
 have d:=d.addC hO hN
 refine ⟨λ_=>(d.sx [2,3,8,9,10,11,12,13,14,15] (ra 2 10)),?_⟩
 refine anp [24,25,27,28] [0,360,385,388] b (d.sx [2,3,8,9,10,11,12,13,14,15] (ra 2 10)) λa b=>u1 [26] [0,385,388] b (λ_=>d.sx [2,3,8,9,10,11,12,13,14,15] (ra 2 10)) λa b=>?_
 have b:Fr (446) _ [k35 e,(385,.agg (flat [sl bt aM.1.Cuts.length bu,sl bw aM.1.Nodes.length bx]).toArray),(388,pt e 6)] a:=b.kp [0,385,388]
 refine ago 29 b rfl (wst b d 3 6 2 (k07 bt aM.1 bu bw bx) (sgN 2 jD) λa w b d=>⟨notE,?_⟩)
 refine kN ?_
 obtain ⟨ir,d⟩:=d.foldI (ck:=lA) (fs:=l8) c3 () bN [2] [0,1,3,4,5,6,7,8,9,10,11,12,13,14,15] [] dc kr kr
 refine hD _ _ (qs λ_ hE=>?_)
 obtain ⟨_,d⟩:=d.unfI (ck:=lA) (fs:=l8) 0 rfl
 refine rga (λ_=>True) [] ?_
 have d:=d.drew
 refine anp [0,1,2,3,9,10,11,17,18,19] [0,389,392,400,408] b ja λa b=>mI d [26] (atk 4 (some 393) b (d.sx [0,3,8,9,10,11,12,13,14,15] (rg 12)) rfl (vld 1 22 0) λa b=>anp [5,6,7] [0,389,396,400,408] b (d.sx [0,3,8,9,10,11,12,13,14,15] (rg 12)) λa b=>atk 8 (some 397) b (d.sx [0,3,8,9,10,11,12,13,14,15] (rg 12)) rfl (vld 0 2 0) λa b=>atk 12 (some 401) b (d.sx [0,3,8,9,10,11,12,13,14,15] (rg 12)) rfl (vld 1 22 0) λa b=>anp [13,14,15] [0,389,397,404,408] b (d.sx [0,3,8,9,10,11,12,13,14,15] (rg 12)) λa b=>?_)
 refine atk 16 (some 405) b (d.sx [0,3,8,9,10,11,12,13,14,15] (rg 12)) rfl (vld 0 0 0) λa b=>atk 20 (some 409) b (d.sx [0,3,8,9,10,11,12,13,14,15] (rg 12)) rfl (vld 1 22 0) λa b=>anp [21,22,23] [0,389,397,405,412] b (d.sx [0,3,8,9,10,11,12,13,14,15] (rg 12)) λa b=>atk 24 (some 413) b (d.sx [0,3,8,9,10,11,12,13,14,15] (rg 12)) rfl (vld 0 1 0) λa b=>anp [25] [0,389,397,414] b (d.sx [0,3,8,9,10,11,12,13,14,15] (rg 12)) λa b=>ago 26 b rfl ?_
 have d:=d.add (m:=Ro.mp jG.ty none 0 ([]:List jB)) (Ro.nil jG.ty _ _)
 have d:=d.add (m:=Ro.mp (fInt .u64).ty none 0 ([]:List Int)) (Ro.nil (fInt .u64).ty _ _)
 refine bd H λeD fA H=>?_
 have dE:=d.segs 3 rfl
 refine wcS 2 [3,6,0,1,2,4,5,7,8,9,10,11,12,13,14,15] b d (λd=>lJ N a1 ah bN.span.Node (jF.mk 7 0 0 0 bN.span.Lo bN.span.Hi ([]:List jB) ([]:List Int) (jU.mk 0 0 0 0 0 empty)) (flat [si a2,(1,aG),si a4,si a5,si a6,sl bt aM.1.Cuts.length bu,sl bw aM.1.Nodes.length bx,(1,an),sl G V.length I,(2,ao),sp S,sp W,sp aw,su av,k4d g,(8,aq),sm C,sm F,sl x J.length y,sm j,su aF,k3v c3,si aA,si aE,sl A O.length B,(5,ar)]) Q R [.slice q K.length u] none 0 none 0 e ((d.regr 0 [(false,1),(true,26),(false,2)] rfl).sbK [12,1,0]) fA) ?_
 rintro _ κ w a ⟨eE,eF,rfl,h2⟩ b hB
 have d:=(hB _ _ h2).unregrK 0 [(false,1),(true,26),(false,2)] (s':=[si a1,si a2,(1,aG),si a4,si a5,si a6,sl bt aM.1.Cuts.length bu,sl bw aM.1.Nodes.length bx,(1,an),sl G V.length I,(2,ao),sp S,sp W,sp aw,su av,k4d g,(8,aq),sm C,sm F,sl x J.length y,sm j,su aF,k3v c3,si aA,si aE,sl A O.length B,(5,ar),sl eE eD.length eF,sl q K.length u]) dE rfl
 refine ⟨notE,?_⟩
 refine kN ?_
 obtain ⟨it,d⟩:=d.foldI (ck:=lA) (fs:=l8) c3 () bN [2] [0,1,3,4,5,6,7,8,9,10,11,12,13,14,15] [] dc kr kr
 refine hE _ _ (qr λ_ hG=>(wp 3 [0,418] b λa b=>wc (wst b d 1 22 1 [k4g] (sgN 1 jD) λa w b d=>(hG _ _ (qr λ_ hH=>(wp 3 [0,421] b λa b=>wc (wld b d 1 19 0 λa b=>wp 1 [0,22] b λa b=>(hH _ _ (qr λ_ hI=>(wp 3 [0,22,425] b λa b=>wc (wst b d 1 19 1 [k37] (sgN 1 jD) λa w b d=>(hI _ _ (qr λ_ hJ=>(wp 3 [0,426,427,428] b λa b=>(hJ _ _ (bk (jT (n:=N) (λn a w => ∃κ c4 cE cq c5 c6 cc cF cG c7 cd cH cI c8,∃ce:List i8,∃cg ch da cJ cr db,∃ci:List i9,∃cj cl cm,Fr (446) [] [k35 e,(426,.slice x J.length y),(427,vi (J.length:Int)),(428,vi cm)] a∧SS Ms κ0 w0 κ w [k4s e a1 a2 aG a4 a5 c4 bt aM.1 bu bw bx an G V.length I ao S W cE c6 g aq cc cd cg ce.length ch j da cJ aA aE A O.length B ar cj ci.length cl q K.length u,k45 cg ce.length ch,k3j cj ci.length cl,.tok bt 9 1 aM.1.Cuts.length bu,.tok bw 3 1 aM.1.Nodes.length bx,k45 x J.length y,k46 A O.length B,k3n q K.length u,.ext (ownX jM 4 G I V),k31 S ae aP,k47 W af aT,k48 cE cq c5,.ext (arrX j6 g al aI),mx cc cF cG,mx cd cH cI,mx j am X,k3p cJ cr db] [k3a bt bu aM.1.Cuts,k3b bw bx aM.1.Nodes,(ml g 4),k49 cc cF cG c7,k4a cd cH cI c8,k4b cg ch ce,k4c j am X a3,k3m A B O,k3k cj cl ci,k3o q u K,k4b x y J]∧M.mR N n a1 a2 a4 a5 V aP aT aI J a3 aA aE O K aM c4 c5 c6 c7 c8 ce da db ci cm=some r) ?_ ?_)))))))))))))))))
 have d:=d.add (m:=Ro.mp kO none 0 ([]:List i8)) (Ro.nil kO _ _)
 have d:=d.addNil 95 5
 have d:=d.addOpt o_gate_move
 exact ⟨_,a6,aw,aB,bz,av,C,ab,Z,ba,F,aj,aa,be,([]:List i8),none,0,aF,none,[],none,eD,eE,eF,0,b.kp [0,426,427,428],d.sp [3,1,4,5,6,7,8,9,10,11,12,13,14,15,16,17,0] [4,5,8,9,10,0,12,13,1,15,11],H⟩
 rintro n a w ⟨κ,c4,cE,cq,c5,c6,cc,cF,cG,c7,cd,cH,cI,c8,ce,cg,ch,da,cJ,cr,db,ci,cj,cl,cm,b,d,H⟩
 rcases n with _|fB
 simp [M.mR] at H
 simp only [M.mR] at H
 refine qr λ_ hK=>(jE (L':=[k35 e,(426,.slice x J.length y),(427,vi (J.length:Int)),(428,vi cm),(429,vb (decide (cm<(J.length:Int))))]) 1 [0,426,427,428,429] b kr λa b=>hK _ _ (qs λ_ hL=>bc b H (λhb H=>?_) λhb H=>?_))
 refine sk (hL _ _ (qs λ_ hM=>bk (qr λ_ hP=>(bd H λaW dB H=>wc (kR b d kr 10 (E:=95) (sz:=5) rfl rfl rfl kr rfl dB kr kr λiN iO a eG b=>?_)))))
 obtain ⟨_,⟨⟨cn,co⟩,rfl,hR⟩,hc⟩:=d.elem 10 rfl eG dB
 have d:=(d.adds hR).add hc
 refine wc (kQ b kr (v := .agg (flat (k13 aW cn co)).toArray) ((pD 0 0 5 (s:=[si aW.id,sb aW.read,sg aW.key,su aW.at_,sl cn aW.writes.length co]) (s':=k13 aW cn co) (n:=5) rfl rfl rfl (show mK [si aW.id,sb aW.read,sg aW.key,su aW.at_,sl cn aW.writes.length co] from (sgN 5 jD)) kr kr kr kr kr _ ⟨_,d⟩)) λa b=>?_)
 refine wc (wal b d (k14 empty) (sgN 5 jD) λiP a w b d=>wc (wst b d 0 0 5 (k13 aW cn co) (sgN 5 jD) λa w b d=>hP _ _ (rl (wp 1 [0,24,426,427,428,432] b λa b=>wc (wls b d 0 0 5 λa b=>bd H λaX fC H=>?_)))))
 have dF:=d.segs 1 rfl
 refine wc (wcS 7 [1,2,3,12,14,15,17,0,4,5,6,7,8,9,10,11,13,16] b d (λd=>vH N a1 a5 c4 aM.1 c5 c6 c7 c8 ce da db ci aW (flat [si a2,(1,aG),si a4]) bt bu bw bx (flat [(1,an),sl G V.length I,(2,ao),sp S,sp W]) cE cq (flat [k4d g,(8,aq)]) cc cF cG cd cH cI cg ch [.map j] cJ cr (flat [si aA,si aE,sl A O.length B,(5,ar)]) cj cl [.slice q K.length u] cn co e ((d.regr 0 [(false,1),(true,3),(false,4),(true,5),(false,2),(true,2),(false,6),(true,4),(false,2)] rfl).sbK [2,3,5,6,7,10,1]) fC) ?_)
 rintro _ κ w a ⟨eH,fD,eI,hQ,hT,eJ,hU,hV,eK,eL,eM,fE,eN,eO,rfl,h2⟩ b hB
 have d:=(hB _ _ h2).unregrK 0 [(false,1),(true,3),(false,4),(true,5),(false,2),(true,2),(false,6),(true,4),(false,2)] (s':=[si a1,si a2,(1,aG),si a4,si a5,si aX.1,sl bt aM.1.Cuts.length bu,sl bw aM.1.Nodes.length bx,(1,an),sl G V.length I,(2,ao),sp S,sp W,sp eH,su aX.2.2.1,k4d g,(8,aq),sm eI,sm eJ,sl eK aX.u4.2.1.length eL,sm j,su aX.u4.2.2.1,sp eM,si aA,si aE,sl A O.length B,(5,ar),sl eN aX.u8.length eO,sl q K.length u]) dF rfl
 refine hM _ _ (rl (wp 2 [0,426,427,428] b λa b=>nl ?_))
 exact ⟨fB,jb _,_,aX.1,eH,fD,aX.2.1,aX.2.2.1,eI,hQ,hT,aX.2.2.2.1,eJ,hU,hV,aX.u4.1,aX.u4.2.1,eK,eL,aX.u4.2.2.1,eM,fE,aX.u4.2.2.2.1,aX.u8,eN,eO,i64.wrap (cm+1),b.kp [0,426,427,428],d.sp [0,1,2,8,9,10,11,12,13,14,15,3,16,4,5,17,6] [6,7,8,0,1,2,12,13,3,15,16],H⟩
 refine xt ?_
 cases H
 exact j7 b d (mL results33) ⟨bt,bu,bw,bx,G,I,S,ae,W,af,cE,cq,g,al,cc,cF,cG,cd,cH,cI,cg,ch,j,am,X,cJ,cr,A,B,cj,cl,q,u,rfl,d.sp [0,1,6,2,7,8,9,10,11,12,13,14,15,16] (rg 10)⟩
 refine sk ?_
 cases H
 exact j7 b d (mL results33) ⟨p8,c9,T,U,G,I,S,ae,W,af,aw,aB,g,al,C,ab,Z,F,aj,aa,x,y,j,am,X,dr,c1,A,B,Q,R,q,u,rfl,d.sp (rg 14) (rg 10)⟩
 refine qr λ_ hW=>(jE (L':=[k35 e,k2z bE,k32 Y,(436,vb (f.Kind==26))]) 2 [0,1,5,436] b kr λa b=>hW _ _ (bc b H (λhb H=>?_) λhb H=>?_))
 refine bd H λhY ho H=>?_
 obtain ⟨dt,au,d⟩:=d.optS 7 rfl ho
 rw [au] at d
 try rw [au] at b
 obtain ⟨⟨hZ,h0⟩,d⟩:=d.unfI (ck:=jP) (fs:=jO) 7 rfl
 refine rgX d [2,3,8,9,10,11,12,13,14,15] ?_
 have d:=d.drew
 have p:=d.px [2,3,8,9,10,11,12,13,14,15]
 refine anp [0,1,2,4,5] [440,442,443] b p λa b=>atk 3 (some 441) b p rfl (vld 1 11 0) λa b=>atk 6 (some 444) b p rfl (vld 0 3 0) λa b=>ago 7 b rfl (bd H λh1 fF H=>wcS 2 (rg 16) b d (λd=>A2 N hY bE f.TS hZ h0 dt (d.sbK (rg 4)) fF) ?_)
 rintro _ κ w a ⟨h3,h4,rfl,h2⟩ b hB
 have d:=hB _ _ h2
 refine ⟨λ_=>(d.sx [2,3,8,9,10,11,12,13,14,15] (ra 4 16)),?_⟩
 refine kN ?_
 obtain ⟨fG,d⟩:=d.foldI (ck:=jP) (fs:=jO) dt (h3,h4) h1 [0,1] (ra 2 14) (rg 4) dc kr kr
 cases H
 exact j7 b d (mL results33) ⟨p8,c9,T,U,G,I,(some dt),fG,W,af,aw,aB,g,al,C,ab,Z,F,aj,aa,x,y,j,am,X,ai,ak,A,B,Q,R,q,u,rfl,d.sp [2,3,4,5,6,7,0,8,9,10,11,12,13,14] (ra 8 10)⟩
 refine sk ?_
 cases H
 exact j7 b d (mL results33) ⟨p8,c9,T,U,G,I,S,ae,W,af,aw,aB,g,al,C,ab,Z,F,aj,aa,x,y,j,am,X,ai,ak,A,B,Q,R,q,u,rfl,d.sp (ra 1 14) (rg 10)⟩
end Go.Cf
