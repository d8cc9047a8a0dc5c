/- What the functions compute, as Lean functions (none: a panic, an empty purse, or a size that is not followed). Printed by a program of ours out of the translation. -/
import Derived.Test.YtcplebnnanjngaaGreatZK2
namespace Go.Cf.M
open Go Go.Cf
open _root_.Int(toNat tdiv tmod)
open _root_.List(set replicate)
open _root_.ByteArray(empty)
open Go.IntKind(i64 u64)
abbrev qaa:Type:=Int×Int×Int×Int×j5×(List Int)×(List Bool)×(List Int)×Bool×(Option j4)×(Option jC)×(Option j9)×Int×(List (Option j3))×(List Int)×(List Int)×(Mp Int Int)×(Mp Int i8)×(List i8)×(Mp Int jA)×(Option j8)×Int×Int×(List Int)×(List Int)×Int×Bool×Bool×Bool×(List i9)
abbrev qab:Type:=Int×Int×Int×j5×(Option jC)×(Option j9)×(List (Option j3))×(List Int)×(List Int)×(Mp Int Int)×(Mp Int i8)×(List i8)×(Mp Int jA)×(Option j8)×Int×(List Int)×(List Int)×Int×Bool×Bool×Bool
abbrev qac:Type:=Int×j5×(List Bool)×(Option j4)×(Option jC)×(Option j9)×Int×(List (Option j3))×(Mp Int Int)×(Mp Int i8)×(List i8)×(Mp Int jA)×Int×(Option j8)×Int×(List Int)×(List i9)×(List jL)
abbrev qad:Type:=(Option j4)×(Option jC)×(List (Option j3))×(List Int)×(List Int)×Int×Int×(List Int)×(List i9)
abbrev qae:Type:=Int×Int×Int×Int×j5×(List Int)×(List Bool)×(List Int)×Bool×(Option j4)×(Option jC)×(Option j9)×Int×(List (Option j3))×(List Int)×(List Int)×(Mp Int Int)×(Mp Int i8)×(List i8)×(Mp Int jA)×Int×(Option j8)×Int×Int×(List Int)×(List Int)×Int×Bool×Bool×Bool×(List i9)×(List jL)
abbrev qaf:Type:=Int×(List (Option j3))×(Mp Int jA)×Int×(Option j8)×(List i9)
abbrev qag:Type:=Int×Int×Int×Int×Int×j5×(List Int)×(List Bool)×(List Int)×Bool×(Option j4)×(Option jC)×(Option j9)×Int×(List (Option j3))×(List Int)×(List Int)×(Mp Int Int)×(Mp Int i8)×(List i8)×(Mp Int jA)×Int×(Option j8)×Int×Int×(List Int)×(List Int)×Int×Bool×Bool×Bool×(List i9)×(List jL)
abbrev qah:Type:=Bool×(Option j4)×(Option jC)×(Option j9)×Int×(List (Option j3))×(List Int)×(Mp Int jA)×Int×(Option j8)×Bool×Bool×(List i9)
abbrev qai:Type:=(Option j4)×(List (Option j3))×(List Int)×Bool×Bool×(List i9)
abbrev qaj:Type:=(Option j4)×(Option jC)×(List Int)×(List i9)
abbrev qak:Type:=(Option j4)×Int
abbrev qal:Type:=Int×(Option j9)×Int×(Mp Int Int)×(Mp Int i8)×(List i8)×Int×(Option j8)×(List i9)
abbrev qam:Type:=(Mp Int jA)×Int×(List i9)
abbrev qan:Type:=(Option j9)×(Option j8)×(List i9)
abbrev qao:Type:=(Option jV)×Int
abbrev qap:Type:=Int×jC
abbrev qaq:Type:=(Option jV)×(List jL)×Int
abbrev qar:Type:=Int×j4
abbrev qas:Type:=Bool×(Option j8)
abbrev qat:Type:=Int×(Option j8)
abbrev qau:Type:=Bool×(Option j4)×(Option jC)×(Option j9)
abbrev qav:Type:=Int×j9
abbrev qaw:Type:=Int×Bool×Int×j9
abbrev qax:Type:=(Option j8)×Int×(List Int)×(List i9)
abbrev qay:Type:=(Option j9)×(Option j8)×Bool
set_option linter.unusedVariables false
noncomputable section
def xE (N:Nat) (a:Int) (b:(List Bool)):Option (jY):=
 (some (jY.mk a b (replicate 4 0)))
def u5 (N:Nat) (a:jY→(List Int)→Int→Option (jY)) (d:jY) (b:Int) (c:(List Int)):Option (jY):=
 (a d c (i64.wrap (b+1)))
def qB (N:Nat):Nat→jY→(List Int)→Int→Option (jY)
 | 0,_,_,_=>none
 | b+1,d,c,a=>bif decide (a<4) then (idx d.Has a).bind λe=>bif (!e) then (idx c a).bind λf=>u5 N (qB N b) d a (set c (toNat a) 0) else u5 N (qB N b) d a c else some (jY.mk d.Epoch d.Has c)
def uM (N:Nat) (a:jY):Option (jY):=
 (qB N N a a.T 0)
def uL (N:Nat) (a:jY) (b:Int) (e:(List Bool)):Option (jY×Int):=
 (bif decide (b≤a.Epoch) then some ((jY.mk 0 (replicate 4 false) (replicate 4 0)),11) else (uM N a).bind λc=>(uM N (jY.mk b e c.T)).bind λd=>some (d,0))
def u2 (N:Nat) (a:(jY)) (b:(List Int)):Option (jY):=
 (some (jY.mk a.Epoch a.Has b))
def tA (N:Nat) (g:jY) (b:Int) (d:Int):Option (jY):=
 ((uM N g).bind λa=>Option.bind (bif decide (b ≥ 0) then bif decide (b<4) then (idx a.Has b).bind λe=>some e else some false else some false) λf=>bif f then (idx a.T b).bind λc=>(idx a.T b).bind λh=>u2 N a (set a.T (toNat b) (if d > c then d else c)) else u2 N a a.T)
def qZ (N:Nat) (a:jY→Int→Bool→Int→Option (Int×Bool)) (e:jY) (b:Int) (c:Int) (d:Bool):Option (Int×Bool):=
 (a e c d (i64.wrap (b+1)))
def oD (N:Nat):Nat→jY→Int→Bool→Int→Option (Int×Bool)
 | 0,_,_,_,_=>none
 | b+1,c,d,e,a=>bif decide (a<4) then (idx c.Has a).bind λf=>Option.bind (bif f then bif (!e) then some true else (idx c.T a).bind λg=>some (decide (g<d)) else some false) λh=>bif h then (idx c.T a).bind λi=>qZ N (oD N b) c a i true else qZ N (oD N b) c a d e else some (d,e)
def wN (N:Nat) (a:jY):Option (Int×Bool):=
 (oD N N a 0 false 0)
def vT (N:Nat) (d:Int) (e:Int) (f:(List Bool)):Option qak:=
 (Option.bind (bif decide (d<0) then some true else bif decide (d ≥ 4) then some true else bif decide (e<1) then some true else some (decide (e > 4))) λh=>bif h then some (none,1) else Option.bind (Option.bind (mkl e 0) λg=>(xE N 0 f).bind λb=>(xE N 0 f).bind λc=>some (g,b.Epoch,b.Has,b.T,c.Epoch,c.Has,c.T)) λa=>some ((some (j4.mk d a.1 (jY.mk a.2.1 a.2.2.1 a.2.2.2.1) (jY.mk a.2.2.2.2.1 a.2.2.2.2.2.1 a.2.2.2.2.2.2) 0)),0))
def nX (N:Nat) (a:j4):Option (Int):=
 (some a.stable)
def nS (N:Nat):Nat→j4→Int→Int→Option (Int)
 | 0,_,_,_=>none
 | c+1,e,a,b=>bif decide (b<(e.beats.length:Int)) then (idx e.beats b).bind λd=>(nS N c) e (if d<a then d else a) (i64.wrap (b+1)) else some a
def qJ (N:Nat) (a:j4):Option (Int):=
 ((idx a.beats 0).bind λb=>nS N N a b 0)
def m0 (N:Nat) (a:j4):Option ((List Bool)):=
 (some a.got.Has)
def pE (N:Nat) (a:j4):Option (Int):=
 ((qJ N a).bind λd=>(tA N a.got a.dc d).bind λb=>(wN N b).bind λc=>some c.1)
def mW (N:Nat) (a:j4):Option (j4):=
 ((pE N a).bind λc=>(tA N a.known a.dc c).bind λd=>(wN N d).bind λb=>some (j4.mk a.dc a.beats a.got a.known (if b.1 > a.stable then b.1 else a.stable)))
def s6 (N:Nat) (a:j4) (b:Int) (d:Int):Option (j4):=
 (Option.bind (bif decide (b<0) then some true else some (decide (b ≥ (a.beats.length:Int)))) λe=>bif e then some a else (idx a.beats b).bind λc=>(idx a.beats b).bind λg=>(mW N (j4.mk a.dc (set a.beats (toNat b) (if d > c then d else c)) a.got a.known a.stable)).bind λf=>some f)
def rM (N:Nat) (a:j4) (b:Int) (e:Int):Option (j4):=
 (bif (b==a.dc) then some a else (tA N a.got b e).bind λc=>(mW N (j4.mk a.dc a.beats c a.known a.stable)).bind λd=>some d)
def s5 (N:Nat) (a:j4) (b:Int) (f:Int) (g:Int):Option (j4):=
 (Option.bind (bif (b==a.dc) then some true else some (decide (f<a.known.Epoch))) λc=>bif c then some a else (tA N a.known b g).bind λd=>(mW N (j4.mk a.dc a.beats a.got d a.stable)).bind λe=>some e)
def tS (N:Nat) (a:j4) (b:Int):Option (j4):=
 (some (j4.mk a.dc a.beats a.got a.known (if b > a.stable then b else a.stable)))
def qV (N:Nat) (a:j4) (b:Int) (c:Int):Option qar:=
 (Option.bind (bif decide (b<0) then some true else some (decide (b ≥ 4))) λd=>bif d then some (1,a) else (idx a.got.Has b).bind λe=>bif e then some (8,a) else bif decide (c≤a.got.Epoch) then some (11,a) else (idx a.got.Has b).bind λh=>(uL N a.got c (set a.got.Has (toNat b) true)).bind λf=>(xE N c (set a.got.Has (toNat b) true)).bind λg=>some (0,(j4.mk a.dc a.beats f.1 g a.stable)))
def rL (N:Nat) (a:j4) (b:Int) (d:Int):Option qar:=
 (Option.bind (bif decide (b<0) then some true else some (decide (b ≥ 4))) λe=>bif e then some (1,a) else (idx a.got.Has b).bind λf=>bif (!f) then some (7,a) else bif decide (d≤a.got.Epoch) then some (11,a) else (idx a.got.Has b).bind λi=>(uL N a.got d (set a.got.Has (toNat b) false)).bind λg=>(uM N (jY.mk a.known.Epoch (set a.got.Has (toNat b) false) a.known.T)).bind λc=>(mW N (j4.mk a.dc a.beats g.1 (jY.mk a.known.Epoch c.Has c.T) a.stable)).bind λh=>some (0,h))
def pH (N:Nat) (a:Int) (b:Int):Option (Int):=
 (some (i64.wrap ((i64.wrap ((i64.wrap (1+(i64.wrap (5*a))))+b))+1)))
def sT (N:Nat) (a:ByteArray) (c:ByteArray) (b:ByteArray):Option (Bool):=
 (Option.bind (bif (!sLt a c) then bif (sEq b (ByteArray.mk #[])) then some true else some (sLt a b) else some false) λd=>some d)
def uN (N:Nat) (a:Int):Option (j5):=
 (some (j5.mk ([]:List ByteArray) [a]))
def u7 (N:Nat) (a:j5→ByteArray→Int→Int→Option (Int)) (d:j5) (e:ByteArray) (b:Int) (c:Int):Option (Int):=
 (a d e c (i64.wrap (b+1)))
def qC (N:Nat):Nat→j5→ByteArray→Int→Int→Option (Int)
 | 0,_,_,_,_=>none
 | a+1,d,e,c,b=>bif decide (b<(d.Cuts.length:Int)) then (idx d.Cuts b).bind λf=>bif (sLt f e||sEq f e) then u7 N (qC N a) d e b (i64.wrap (c+1)) else u7 N (qC N a) d e b c else some c
def yE (N:Nat) (a:j5) (b:ByteArray):Option (Int):=
 (qC N N a b 0 0)
def uO (N:Nat) (b:j5) (d:ByteArray):Option (Int):=
 ((yE N b d).bind λa=>bif decide (a<(b.Nodes.length:Int)) then (idx b.Nodes a).bind λc=>some c else some (-1))
def qF (N:Nat):Nat→j5→Int→Int→Option (Int)
 | 0,_,_,_=>none
 | c+1,d,f,a=>bif decide (a<(d.Nodes.length:Int)) then (idx d.Nodes a).bind λb=>Option.bind (bif decide (b<0) then some true else some (decide (b ≥ f))) λe=>bif e then some 7 else (qF N c) d f (i64.wrap (a+1)) else some 0
def pI (N:Nat):Nat→j5→Int→Int→Option (Int)
 | 0,_,_,_=>none
 | d+1,b,e,a=>bif decide (a<(b.Cuts.length:Int)) then (idx b.Cuts a).bind λc=>bif decide (((c).size:Int) > 16) then some 6 else Option.bind (bif (sEq c (ByteArray.mk #[])) then some true else bif decide (a > 0) then (idx b.Cuts (i64.wrap (a-1))).bind λf=>some (!sLt f c) else some false) λg=>bif g then some 3 else (pI N d) b e (i64.wrap (a+1)) else qF N N b e 0
def tW (N:Nat) (a:j5) (b:Int):Option (Int):=
 (Option.bind (bif decide (b<1) then some true else some (decide (b > 4))) λc=>bif c then some 1 else bif decide ((a.Nodes.length:Int) > 8) then some 9 else bif ((a.Nodes.length:Int) != i64.wrap ((a.Cuts.length:Int)+1)) then some 3 else pI N N a b 0)
def vQ (N:Nat) (a:j5):Option (j5):=
 ((apd ([]:List ByteArray) a.Cuts).bind λb=>(apd ([]:List Int) a.Nodes).bind λc=>some (j5.mk b c))
def qK (N:Nat) {σ:Type} (B:σ→Int→l6→Option (σ×Bool)) (c:j5→Int→σ→Option σ) (h:j5) (b:Int) (d:σ) (e:Int) (f:ByteArray) (g:ByteArray):Option σ:=
 (Option.bind (B d b (l6.mk f g e)) λa=>bif (!a.2) then some a.1 else c h (i64.wrap (b+1)) a.1)
def qL (N:Nat) {σ:Type} (B:σ→Int→l6→Option (σ×Bool)) (b:j5→Int→σ→Option σ) (c:j5) (a:Int) (d:σ) (e:Int) (f:ByteArray):Option σ:=
 (bif decide (a<(c.Cuts.length:Int)) then (idx c.Cuts a).bind λg=>qK N B b c a d e f g else qK N B b c a d e f empty)
def lS (N:Nat){σ:Type}(B:σ→Int→l6→Option (σ×Bool)):Nat→j5→Int→σ→Option σ
 | 0,_,_,_=>none
 | b+1,c,a,d=>bif decide (a<(c.Nodes.length:Int)) then (idx c.Nodes a).bind λe=>bif decide (a > 0) then (idx c.Cuts (i64.wrap (a-1))).bind λf=>qL N B (lS N B b) c a d e f else qL N B (lS N B b) c a d e empty else some d
def uX (N:Nat) {σ:Type} (B:σ→Int→l6→Option (σ×Bool)) (a:j5) (b:σ):Option σ:=
 (bif ((a.Nodes.length:Int) != i64.wrap ((a.Cuts.length:Int)+1)) then some b else lS N B N a 0 b)
def wA (N:Nat) (a:j5):Option Unit:=some ()
def yF (N:Nat) (d:j5) (f:Int):Option (l6×Bool):=
 ((wA N d).bind λg=>((uX N (σ:=(Bool×ByteArray×ByteArray×Int×Nat)) (λ(b:(Bool×ByteArray×ByteArray×Int×Nat)) e c=>bif (b.2.2.2.2==0) then bif (e==f) then some (((true,c.Lo,c.Hi,c.Node,1)),false) else some (((b.1,b.2.1,b.2.2.1,b.2.2.2.1,0)),true) else none) d (false,empty,empty,0,0)).bind λa=>bif (a.2.2.2.2==0) then some ((l6.mk empty empty 0),false) else bif (a.2.2.2.2==1) then some ((l6.mk a.2.1 a.2.2.1 a.2.2.2.1),a.1) else none))
def vU (N:Nat) (b:j5) (t:Int) (c:Int) (d:ByteArray):Option (j5×Int):=
 ((tW N b t).bind λe=>bif (e != 0) then some ((j5.mk ([]:List ByteArray) ([]:List Int)),e) else (yF N b c).bind λa=>bif (!a.2) then some ((j5.mk ([]:List ByteArray) ([]:List Int)),7) else Option.bind (bif decide (((d).size:Int) > 16) then some true else bif (sLt d a.1.Lo||sEq d a.1.Lo) then some true else (sT N d a.1.Lo a.1.Hi).bind λf=>some (!f)) λg=>bif g then some ((j5.mk ([]:List ByteArray) ([]:List Int)),14) else bif ((b.Nodes.length:Int)==8) then some ((j5.mk ([]:List ByteArray) ([]:List Int)),9) else Option.bind ((slc b.Cuts 0 c).bind λh=>(apd ([]:List ByteArray) h).bind λi=>(apd i [d]).bind λj=>(slc b.Cuts c (b.Cuts.length:Int)).bind λk=>(apd j k).bind λl=>some l) λm=>Option.bind ((slc b.Nodes 0 c).bind λn=>(apd ([]:List Int) n).bind λo=>(apd o [a.1.Node]).bind λp=>(slc b.Nodes c (b.Nodes.length:Int)).bind λq=>(apd p q).bind λr=>some r) λs=>some ((j5.mk m s),0))
def vV (N:Nat) (a:j5) (o:Int) (b:Int):Option (j5×Int):=
 ((tW N a o).bind λc=>bif (c != 0) then some ((j5.mk ([]:List ByteArray) ([]:List Int)),c) else Option.bind (bif decide (b<0) then some true else some (decide (b ≥ (a.Cuts.length:Int)))) λd=>bif d then some ((j5.mk ([]:List ByteArray) ([]:List Int)),7) else (idx a.Nodes b).bind λe=>(idx a.Nodes (i64.wrap (b+1))).bind λf=>bif (e != f) then some ((j5.mk ([]:List ByteArray) ([]:List Int)),18) else (slc a.Cuts 0 b).bind λg=>(apd ([]:List ByteArray) g).bind λh=>(slc a.Cuts (i64.wrap (b+1)) (a.Cuts.length:Int)).bind λi=>(apd h i).bind λj=>(slc a.Nodes 0 b).bind λk=>(apd ([]:List Int) k).bind λl=>(slc a.Nodes (i64.wrap (b+1)) (a.Nodes.length:Int)).bind λm=>(apd l m).bind λn=>some ((j5.mk j n),0))
def vP (N:Nat) (c:j5) (f:Int) (a:Int) (d:Int):Option (j5×Int):=
 ((tW N c f).bind λe=>bif (e != 0) then some ((j5.mk ([]:List ByteArray) ([]:List Int)),e) else Option.bind (bif decide (a<0) then some true else some (decide (a ≥ (c.Nodes.length:Int)))) λg=>bif g then some ((j5.mk ([]:List ByteArray) ([]:List Int)),7) else Option.bind (bif decide (d<0) then some true else some (decide (d ≥ f))) λh=>bif h then some ((j5.mk ([]:List ByteArray) ([]:List Int)),1) else (idx c.Nodes a).bind λi=>bif (i==d) then some ((j5.mk ([]:List ByteArray) ([]:List Int)),8) else (vQ N c).bind λb=>(idx b.Nodes a).bind λj=>some ((j5.mk b.Cuts (set b.Nodes (toNat a) d)),0))
def lW (N:Nat) (b:(List i9)) (c:Int) (d:jF):Option ((List i9)):=
 ((apd b [(i9.mk c d)]).bind λa=>some a)
def lB (N:Nat) (c:Int) (d:(List i9)) (e:Int) (f:jF):Option ((List i9)):=
 ((pH N c e).bind λa=>(lW N d a f).bind λb=>some b)
def rF (N:Nat) (a:(List jL)):Option ((List jL)×(List jL)):=
 (some (a,([]:List jL)))
def rR (N:Nat) (b:j5) (c:j5) (a:Int):Option (j5):=
 (bif (a==0) then some c else some b)
def lT (N:Nat) (d:(Option j8)) (e:ByteArray):Option qas:=
 (Option.bind (pA d (some (none,false)) λa=>(sT N e a.span.Lo a.span.Hi).bind λc=>some ((some a),c)) λb=>some (b.2,b.1))
def wS (N:Nat) (a:Bool):Option (Int):=
 (bif a then some (-1) else some 1)
def zW (N:Nat) (a:mN) (b:mN):Option (Int):=
 (bif (a.TS != b.TS) then (wS N (decide (a.TS<b.TS))).bind λe=>some e else bif (a.DC != b.DC) then (wS N (decide (a.DC<b.DC))).bind λc=>some c else bif (a.Tx != b.Tx) then (wS N (decide (a.Tx<b.Tx))).bind λd=>some d else some 0)
def yI (N:Nat):Option (jC):=
 (some (jC.mk ([]:List kC) ([]:List kC) 0))
def vY (N:Nat) (a:kC):Option (mN):=
 (some (mN.mk a.TS a.DC a.Tx))
def sU (N:Nat) (a:kC):Option (kC):=
 ((apd ([]:List jB) a.Vers).bind λb=>some (kC.mk a.TS a.DC a.Tx b))
def q6 (N:Nat) (a:jC→kC→Int→Int→Option qap) (d:jC) (e:kC) (b:Int) (c:Int):Option qap:=
 (a d e c (i64.wrap (b+1)))
def m7 (N:Nat):Nat→jC→kC→Int→Int→Option qap
 | 0,_,_,_,_=>none
 | c+1,a,g,d,b=>bif decide (b<(a.waiting.length:Int)) then (idx a.waiting b).bind λl=>(vY N l).bind λe=>(vY N g).bind λf=>(zW N (mN.mk e.TS e.DC e.Tx) (mN.mk f.TS f.DC f.Tx)).bind λh=>bif (h==0) then some (8,a) else bif decide (h<0) then q6 N (m7 N c) a g b (i64.wrap (b+1)) else q6 N (m7 N c) a g b d else (slc a.waiting 0 d).bind λm=>(apd ([]:List kC) m).bind λn=>(sU N g).bind λo=>(apd n [o]).bind λi=>(slc a.waiting d (a.waiting.length:Int)).bind λj=>(apd i j).bind λk=>some (0,(jC.mk a.list k a.bound))
def rN (N:Nat) (a:jC) (b:kC):Option qap:=
 (bif decide (b.TS≤a.bound) then some (11,a) else m7 N N a b 0 0)
def nA (N:Nat):Nat→jC→Int→Int→Option qap
 | 0,_,_,_=>none
 | d+1,a,c,b=>Option.bind (bif decide (b<(a.waiting.length:Int)) then (idx a.waiting b).bind λe=>some (decide (e.TS≤(if c > a.bound then c else a.bound))) else some false) λf=>bif f then (nA N d) a c (i64.wrap (b+1)) else (slc a.waiting 0 b).bind λg=>(apd a.list g).bind λh=>(slc a.waiting b (a.waiting.length:Int)).bind λi=>some (b,(jC.mk h i (if c > a.bound then c else a.bound)))
def sN (N:Nat) (a:jC) (b:Int):Option qap:=
 (nA N N a b 0)
def oT (N:Nat) (a:jC):Option (Int):=
 (some (a.list.length:Int))
def sM (N:Nat) (a:jC):Option (Int):=
 (some (a.waiting.length:Int))
def nT (N:Nat){σ:Type}(B:σ→Int→kC→Option (σ×Bool)):Nat→jC→Int→Int→σ→Option σ
 | 0,_,_,_,_=>none
 | c+1,e,f,a,d=>bif decide (a<(e.list.length:Int)) then (idx e.list a).bind λg=>(sU N g).bind λh=>Option.bind (B d a h) λb=>bif (!b.2) then some b.1 else (nT N B c) e f (i64.wrap (a+1)) b.1 else some d
def tC (N:Nat) {σ:Type} (B:σ→Int→kC→Option (σ×Bool)) (b:jC) (a:Int) (c:σ):Option σ:=
 (nT N B N b a (if 0 > a then 0 else a) c)
def uA (N:Nat) (a:jC) (b:Int):Option (Unit):=
 (some ())
def vR (N:Nat) (a:Int):Option (j3):=
 (some (j3.mk (if 0 > a then 0 else a) ([]:List kC) 0 ([]:List Bool) (some []) 0))
def tN (N:Nat) (a:j3) (b:Int) (c:kC):Option (Int×j3):=
 (bif decide (b<i64.wrap (a.base+(a.list.length:Int))) then some (11,a) else bif decide (b > i64.wrap (a.base+(a.list.length:Int))) then some (7,a) else bif decide ((a.list.length:Int) ≥ 4096) then some (9,a) else (sU N c).bind λd=>(apd a.list [d]).bind λe=>Option.bind (zD a.done [false]) λf=>some (0,(j3.mk a.base e a.handed f a.hearts a.got)))
def rQ (N:Nat) (a:j3):Option (kC×Bool):=
 (bif (a.handed==(a.list.length:Int)) then some ((kC.mk 0 0 0 ([]:List jB)),false) else (idx a.list a.handed).bind λb=>(sU N b).bind λc=>some (c,true))
def sV (N:Nat) (a:j3):Option (Int×kC×Bool×j3):=
 ((rQ N a).bind λb=>bif (!b.2) then some (0,(kC.mk 0 0 0 ([]:List jB)),false,a) else some (i64.wrap ((i64.wrap (a.base+(i64.wrap (a.handed+1))))-1),b.1,true,(j3.mk a.base a.list (i64.wrap (a.handed+1)) a.done a.hearts a.got)))
def m8 (N:Nat):Nat→j3→(Mp Int Int)→Int→(List Int)→Option (j3)
 | 0,_,_,_,_=>none
 | d+1,c,b,e,f=>bif (oM b f).isEmpty then some (j3.mk c.base c.list c.handed c.done b e) else m3 (oM b f) λa=>bif decide (a.1≤c.base) then (m8 N d) c (mDel b a.1) (if a.2 > e then a.2 else e) (kRem f a.1) else (m8 N d) c b e (kRem f a.1)
def pF (N:Nat) (a:j3):Option (j3):=
 (m8 N N a a.hearts a.got (pP a.hearts))
def nY (N:Nat):Nat→j3→Int→Int→Option (Int×j3)
 | 0,_,_,_=>none
 | d+1,a,c,b=>Option.bind (bif decide (b<a.handed) then (idx (set a.done (toNat (i64.wrap (c-a.base))) true) b).bind λe=>some e else some false) λf=>bif f then (nY N d) a c (i64.wrap (b+1)) else (slc a.list b (a.list.length:Int)).bind λg=>(slc (set a.done (toNat (i64.wrap (c-a.base))) true) b (((set a.done (toNat (i64.wrap (c-a.base))) true)).length:Int)).bind λh=>(pF N (j3.mk (i64.wrap (a.base+b)) g (i64.wrap (a.handed-b)) h a.hearts a.got)).bind λi=>some (0,i)
def sW (N:Nat) (a:j3) (b:Int):Option (Int×j3):=
 (Option.bind (bif decide (b<a.base) then some true else bif decide (i64.wrap (b-a.base) ≥ a.handed) then some true else (idx a.done (i64.wrap (b-a.base))).bind λc=>some c) λd=>bif d then some (7,a) else (idx a.done (i64.wrap (b-a.base))).bind λe=>nY N N a b 0)
def sO (N:Nat) (a:j3):Option (Int):=
 (some a.base)
def s8 (N:Nat) (a:j3) (b:Int) (c:Int):Option (j3):=
 (Option.bind (mgt a.hearts c 0) λd=>Option.bind (uS a.hearts c (if b > d.1 then b else d.1)) λe=>(pF N (j3.mk a.base a.list a.handed a.done e a.got)).bind λf=>some f)
def tO (N:Nat) (a:j3):Option (Int):=
 (some a.got)
def rI (N:Nat):Option (kC×Bool):=
 (some ((kC.mk 0 0 0 ([]:List jB)),false))
def qD (N:Nat):Option (Int):=
 (some 0)
def yO (N:Nat):Option (j9):=
 (some (j9.mk (some [])))
def sD (N:Nat) (a:j5→(List jB)→(List jJ)→Int→Option ((List jJ))) (d:j5) (e:(List jB)) (b:Int) (c:(List jJ)):Option ((List jJ)):=
 (a d e c (i64.wrap (b+1)))
def sC (N:Nat) (a:j5→(List jB)→(List jJ)→Int→(List jB)→Int→Option ((List jJ))) (f:j5) (g:(List jB)) (d:(List jJ)) (e:Int) (b:Int) (c:(List jB)):Option ((List jJ)):=
 (a f g d e c (i64.wrap (b+1)))
def oE (N:Nat)(b:j5→(List jB)→(List jJ)→Int→Option ((List jJ))):Nat→j5→(List jB)→(List jJ)→Int→(List jB)→Int→Option ((List jJ))
 | 0,_,_,_,_,_,_=>none
 | e+1,h,g,f,a,c,d=>bif decide (d<((g).length:Int)) then (idx g d).bind λi=>(uO N h i.Key).bind λj=>bif (j==a) then (apd c [i]).bind λk=>sC N (oE N b e) h g f a d k else sC N (oE N b e) h g f a d c else bif decide (((c).length:Int) > 0) then (apd f [(jJ.mk a c)]).bind λl=>sD N b h g a l else sD N b h g a f
def nO (N:Nat):Nat→j5→(List jB)→(List jJ)→Int→Option ((List jJ))
 | 0,_,_,_,_=>none
 | a+1,d,e,b,c=>bif decide (c<4) then oE N (nO N a) N d e b c ([]:List jB) 0 else some b
def uF (N:Nat) (a:j5) (b:(List jB)):Option ((List jJ)):=
 (nO N N a b ([]:List jJ) 0)
def nW (N:Nat):Nat→j9→Int→Int→jH→Int→Option (Bool×Int)
 | 0,_,_,_,_,_=>none
 | c+1,f,g,e,a,b=>bif decide (b<(a.shares.length:Int)) then (idx a.shares b).bind λd=>bif (d.Node==e) then some (true,0) else (nW N c) f g e a (i64.wrap (b+1)) else some (false,18)
def qN (N:Nat) (a:j9) (b:Int) (e:Int):Option (Bool×Int):=
 (Option.bind (pA (mGet a.open_ b) (some true) λf=>some false) λc=>bif c then some (false,7) else pA (mGet a.open_ b) none λd=>nW N N a b e d 0)
def nM (N:Nat)(d:j9→Int→Int→(List jJ)→(List jJ)→Int→Option qav):Nat→j9→Int→Int→(List jJ)→(List jJ)→Int→jJ→(List jJ)→Int→Option qav
 | 0,_,_,_,_,_,_,_,_,_=>none
 | e+1,i,m,n,f,g,h,c,a,b=>bif decide (b<((a).length:Int)) then (idx a b).bind λj=>bif (j.Node==c.Node) then some (3,i) else (nM N d e) i m n f g h c a (i64.wrap (b+1)) else (apd ([]:List jB) c.Vers).bind λk=>(apd g [(jJ.mk c.Node k)]).bind λl=>d i m n f l (i64.wrap (h+1))
def lY (N:Nat):Nat→j9→Int→Int→(List jJ)→(List jJ)→Int→Option qav
 | 0,_,_,_,_,_,_=>none
 | c+1,g,h,i,a,d,b=>bif decide (b<((a).length:Int)) then (idx a b).bind λj=>(slc a 0 b).bind λe=>nM N (lY N c) N g h i a d b j e 0 else Option.bind (uS g.open_ h (jH.mk i d (some []) (some []) 0 false)) λf=>some (0,(j9.mk f))
def rG (N:Nat) (a:j9) (c:Int) (e:Int) (b:(List jJ)):Option qav:=
 (bif (((b).length:Int)==0) then some (1,a) else Option.bind (pA (mGet a.open_ c) (some false) λf=>some true) λd=>bif d then some (8,a) else lY N N a c e b ([]:List jJ) 0)
def rV (N:Nat) (f:j9) (d:Int) (i:Int) (e:Int):Option qaw:=
 ((qN N f d i).bind λh=>bif (h.2 != 0) then some (0,false,h.2,f) else Option.bind (bif h.1 then mGet f.open_ d else none) λl=>Option.bind (mgt l.votes i 0) λm=>bif m.2 then some (0,false,8,f) else Option.bind (mGet f.open_ d) λn=>bif decide (e≤n.low) then some (0,false,11,f) else Option.bind (mGet f.open_ d) λb=>Option.bind (uS b.votes i e) λg=>Option.bind (mGet (tL f.open_ d (jH.mk b.low b.shares g b.ended b.at_ b.decided)) d) λa=>Option.bind (mGet (tL (tL f.open_ d (jH.mk b.low b.shares g b.ended b.at_ b.decided)) d (jH.mk a.low a.shares a.votes a.ended (if e > a.at_ then e else a.at_) a.decided)) d) λc=>Option.bind (mGet (tL (tL (tL f.open_ d (jH.mk b.low b.shares g b.ended b.at_ b.decided)) d (jH.mk a.low a.shares a.votes a.ended (if e > a.at_ then e else a.at_) a.decided)) d (jH.mk c.low c.shares c.votes c.ended c.at_ ((mLen c.votes:Int)==(c.shares.length:Int)))) d) λj=>bif (!j.decided) then some (0,false,0,(j9.mk (tL (tL (tL f.open_ d (jH.mk b.low b.shares g b.ended b.at_ b.decided)) d (jH.mk a.low a.shares a.votes a.ended (if e > a.at_ then e else a.at_) a.decided)) d (jH.mk c.low c.shares c.votes c.ended c.at_ ((mLen c.votes:Int)==(c.shares.length:Int)))))) else Option.bind (mGet (tL (tL (tL f.open_ d (jH.mk b.low b.shares g b.ended b.at_ b.decided)) d (jH.mk a.low a.shares a.votes a.ended (if e > a.at_ then e else a.at_) a.decided)) d (jH.mk c.low c.shares c.votes c.ended c.at_ ((mLen c.votes:Int)==(c.shares.length:Int)))) d) λk=>some (k.at_,true,0,(j9.mk (tL (tL (tL f.open_ d (jH.mk b.low b.shares g b.ended b.at_ b.decided)) d (jH.mk a.low a.shares a.votes a.ended (if e > a.at_ then e else a.at_) a.decided)) d (jH.mk c.low c.shares c.votes c.ended c.at_ ((mLen c.votes:Int)==(c.shares.length:Int)))))))
def sB (N:Nat) (b:j9) (c:Int) (g:Int):Option (Bool×Int×j9):=
 ((qN N b c g).bind λd=>bif (d.2 != 0) then some (false,d.2,b) else Option.bind (bif d.1 then mGet b.open_ c else none) λh=>bif (!h.decided) then some (false,19,b) else Option.bind (mGet b.open_ c) λi=>Option.bind (mgt i.ended g false) λj=>bif j.1 then some (false,8,b) else Option.bind (mGet b.open_ c) λa=>Option.bind (uS a.ended g true) λe=>Option.bind (mGet (tL b.open_ c (jH.mk a.low a.shares a.votes e a.at_ a.decided)) c) λf=>bif decide ((mLen f.ended:Int)<(f.shares.length:Int)) then some (false,0,(j9.mk (tL b.open_ c (jH.mk a.low a.shares a.votes e a.at_ a.decided)))) else some (true,0,(j9.mk (mDel (tL b.open_ c (jH.mk a.low a.shares a.votes e a.at_ a.decided)) c))))
def mU (N:Nat):Nat→j9→jH→(List jB)→Int→Option ((List jB))
 | 0,_,_,_,_=>none
 | c+1,g,a,d,b=>bif decide (b<(a.shares.length:Int)) then (idx a.shares b).bind λe=>(apd d e.Vers).bind λf=>(mU N c) g a f (i64.wrap (b+1)) else some d
def oH (N:Nat) (a:j9) (b:Int):Option ((List jB)):=
 (Option.bind (pA (mGet a.open_ b) (some true) λe=>some false) λc=>bif c then some ([]:List jB) else pA (mGet a.open_ b) none λd=>mU N N a d ([]:List jB) 0)
def nN (N:Nat):Nat→j9→jH→(List Int)→Int→Option ((List Int))
 | 0,_,_,_,_=>none
 | c+1,g,a,d,b=>bif decide (b<(a.shares.length:Int)) then (idx a.shares b).bind λe=>(apd d [e.Node]).bind λf=>(nN N c) g a f (i64.wrap (b+1)) else some d
def pV (N:Nat) (a:j9) (b:Int):Option ((List Int)):=
 (Option.bind (pA (mGet a.open_ b) (some true) λe=>some false) λc=>bif c then some ([]:List Int) else pA (mGet a.open_ b) none λd=>nN N N a d ([]:List Int) 0)
def l5 (N:Nat)(b:j9→ByteArray→ByteArray→(List Int)→Option (Bool)):Nat→j9→ByteArray→ByteArray→(List Int)→Int→((List jB))→Int→Option (Bool)
 | 0,_,_,_,_,_,_,_=>none
 | d+1,k,g,h,e,f,c,a=>bif decide (a<((c).length:Int)) then (idx c a).bind λi=>(sT N i.Key g h).bind λj=>bif j then some true else (l5 N b d) k g h e f c (i64.wrap (a+1)) else b k g h (kRem e f)
def lI (N:Nat):Nat→j9→ByteArray→ByteArray→(List Int)→Option (Bool)
 | 0,_,_,_,_=>none
 | b+1,c,f,g,a=>bif (vG c.open_ a).isEmpty then some false else m3 (vG c.open_ a) λd=>(oH N c d).bind λe=>l5 N (lI N b) N c f g a d e 0
def qA (N:Nat) (a:j9) (b:ByteArray) (c:ByteArray):Option (Bool):=
 (lI N N a b c (pP a.open_))
def tU (N:Nat) (a:j9):Option (Int):=
 (some (mLen a.open_:Int))
def oG (N:Nat):Nat→Int→(Mp Int Int)→(Mp Int i8)→(List i8)→(Mp Int jA)→(Option j8)→Int→(List Int)→(List Int)→Int→Bool→Bool→Bool→(jC)→(j9)→(List Int)→(List Int)→Int→Option qab
 | 0,_,_,_,_,_,_,_,_,_,_,_,_,_,_,_,_,_,_=>none
 | d+1,j,e,f,k,g,l,m,n,o,p,q,r,s,h,i,b,c,a=>bif decide (a<4) then (idx b a).bind λt=>(idx c a).bind λu=>(oG N d) j e f k g l m n o p q r s h i (set b (toNat a) (-1)) (set c (toNat a) 0) (i64.wrap (a+1)) else some (0,j,0,(j5.mk ([]:List ByteArray) ([]:List Int)),(some h),(some i),(replicate 4 none),b,c,(BX e),(BX f),([]:List i8),(BX g),none,0,([]:List Int),([]:List Int),0,false,false,false)
def pZ (N:Nat) (u:Int) (q:Int) (v:Int) (w:Int) (x:j5) (r:(Option jC)) (s:(Option j9)) (t:(List (Option j3))) (a:(List Int)) (b:(List Int)) (c:(Mp Int Int)) (d:(Mp Int i8)) (e:(List i8)) (f:(Mp Int jA)) (g:(Option j8)) (h:Int) (i:(List Int)) (j:(List Int)) (k:Int) (l:Bool) (m:Bool) (n:Bool):Option qab:=
 ((yI N).bind λo=>(yO N).bind λp=>oG N N q c d e f g h i j k l m n o p a b 0)
def tZ (N:Nat) (k:Int) (l:Int) (g:qak) (h:(List Int)) (i:(List Int)) (j:(List Bool)) (a:qab) (b:Int) (c:(List ByteArray)) (d:(List Int)) (e:(List (Option j3))) (f:(List Int)):Option qao:=
 (some ((some (jV.mk k l b 0 a.2.1 a.2.2.1 (j5.mk c d) h j i false g.1 a.2.2.2.2.1 a.2.2.2.2.2.1 0 e f a.2.2.2.2.2.2.2.2.1 a.2.2.2.2.2.2.2.2.2.1 a.2.2.2.2.2.2.2.2.2.2.1 a.2.2.2.2.2.2.2.2.2.2.2.1 a.2.2.2.2.2.2.2.2.2.2.2.2.1 0 a.2.2.2.2.2.2.2.2.2.2.2.2.2.1 0 a.2.2.2.2.2.2.2.2.2.2.2.2.2.2.1 a.2.2.2.2.2.2.2.2.2.2.2.2.2.2.2.1 a.2.2.2.2.2.2.2.2.2.2.2.2.2.2.2.2.1 a.2.2.2.2.2.2.2.2.2.2.2.2.2.2.2.2.2.1 a.2.2.2.2.2.2.2.2.2.2.2.2.2.2.2.2.2.2.1 a.2.2.2.2.2.2.2.2.2.2.2.2.2.2.2.2.2.2.2.1 a.2.2.2.2.2.2.2.2.2.2.2.2.2.2.2.2.2.2.2.2 ([]:List i9) ([]:List jL))),0))
def v8 (N:Nat) (a:Int→Int→(List Bool)→qak→(List Int)→(List Int)→(List Bool)→qab→(j5)→(List (Option j3))→(List Int)→Int→Option qao) (k:Int) (l:Int) (m:(List Bool)) (g:qak) (h:(List Int)) (i:(List Int)) (j:(List Bool)) (b:qab) (c:(j5)) (d:Int) (e:(List (Option j3))) (f:(List Int)):Option qao:=
 (a k l m g h i j b c e f (i64.wrap (d+1)))
def rA (N:Nat):Nat→Int→Int→(List Bool)→qak→(List Int)→(List Int)→(List Bool)→qab→(j5)→(List (Option j3))→(List Int)→Int→Option qao
 | 0,_,_,_,_,_,_,_,_,_,_,_,_=>none
 | f+1,k,l,m,g,h,i,j,e,b,c,d,a=>bif decide (a<4) then (idx m a).bind λn=>Option.bind (bif n then some (a != k) else some false) λo=>bif o then (idx c a).bind λq=>(vR N 0).bind λp=>(idx d a).bind λr=>v8 N (rA N f) k l m g h i j e b a (set c (toNat a) (some p)) (set d (toNat a) 0) else v8 N (rA N f) k l m g h i j e b a c d else tZ N k l g h i j e 2 b.Cuts b.Nodes c d
def sX (N:Nat):Nat→Int→Int→(List Bool)→qak→(List Int)→(List Bool)→(List Int)→(List Bool)→Int→Option qao
 | 0,_,_,_,_,_,_,_,_,_=>none
 | g+1,h,j,k,d,e,i,f,b,c=>bif decide (c<((i).length:Int)) then (idx b c).bind λn=>(sX N g) h j k d e i f (set b (toNat c) true) (i64.wrap (c+1)) else (pZ N 0 0 0 0 (j5.mk ([]:List ByteArray) ([]:List Int)) none none (replicate 4 none) (replicate 4 0) (replicate 4 0) (some []) (some []) ([]:List i8) (some []) none 0 ([]:List Int) ([]:List Int) 0 false false false).bind λa=>(idx k h).bind λl=>bif l then (uN N 0).bind λm=>rA N N h j k d e f b a m a.2.2.2.2.2.2.1 a.2.2.2.2.2.2.2.1 0 else tZ N h j d e f b a a.1 a.2.2.2.1.Cuts a.2.2.2.1.Nodes a.2.2.2.2.2.2.1 a.2.2.2.2.2.2.2.1
def wT (N:Nat) (e:Int) (a:Int) (f:(List Bool)) (d:(List Int)):Option qao:=
 ((vT N e a f).bind λb=>Option.bind (bif (b.2 != 0) then some true else some (((d).length:Int) != 21)) λg=>bif g then some (none,1) else Option.bind (zD ([]:List Int) d) λj=>Option.bind (mkl a false) λk=>Option.bind (mkl a 0) λl=>Option.bind (zD ([]:List Int) d) λh=>Option.bind (mkl a false) λc=>Option.bind (mkl a 0) λi=>sX N N e a f b h c i c 0)
def nB (N:Nat) (a:(Mp Int Int)):Option Unit:=some ()
def mM (N:Nat):Nat→(Mp Int Int)→(Mp Int i8)→(List i8)→(List Int)→Int→Option ((List Int))
 | 0,_,_,_,_,_=>none
 | d+1,h,i,b,c,a=>bif decide (a<((b).length:Int)) then (idx b a).bind λe=>Option.bind (zD c [e.id]) λf=>(mM N d) h i b f (i64.wrap (a+1)) else Option.bind (CU c) λg=>some g
def nL (N:Nat):Nat→(Mp Int Int)→(Mp Int i8)→(List i8)→(List Int)→(List Int)→Option ((List Int))
 | 0,_,_,_,_,_=>none
 | b+1,h,c,d,e,a=>bif (oM c a).isEmpty then mM N N h c d e 0 else m3 (oM c a) λf=>Option.bind (zD e [f.2.id]) λg=>(nL N b) h c d g (kRem a f.1)
def qX (N:Nat) (a:(Mp Int Int)) (b:(Mp Int i8)) (c:(List i8)):Option ((List Int)):=
 ((nB N a).bind λe=>FK (I4 .u64 a) λd=>nL N N a b c d (pP b))
def tT (N:Nat) (b:jB) (c:(Option j8)):Option qas:=
 ((lT N c b.Key).bind λa=>some (a.1,a.2))
def jZ (N:Nat):Nat→(List jB)→(Option j8)→Int→Option qat
 | 0,_,_,_=>none
 | c+1,e,d,a=>bif decide (a<((e).length:Int)) then (idx e a).bind λf=>(tT N f d).bind λb=>bif b.1 then some (a,b.2) else (jZ N c) e b.2 (i64.wrap (a+1)) else some ((-1),d)
def lR (N:Nat) (a:(List jB)) (b:(Option j8)):Option qat:=
 (jZ N N a b 0)
def kD (N:Nat) (b:(List jB)) (c:(Option j8)):Option qas:=
 ((lR N b c).bind λa=>some (decide (a.1 ≥ 0),a.2))
def pG (N:Nat):Nat→Int→Int→Int→j5→Int→(Mp Int i8)→(List i8)→Int→i8→((Option j8)×Bool)→((List jJ))→qav→(Mp Int Int)→(List i9)→Int→Option qal
 | 0,_,_,_,_,_,_,_,_,_,_,_,_,_,_,_=>none
 | h+1,p,q,n,r,c,i,j,k,b,l,d,m,e,f,a=>bif decide (a<((d).length:Int)) then (idx d a).bind λg=>(lB N p f g.Node (jF.mk 1 (u64.wrap ((u64.wrap ((u64.wrap q)*2 ^ 16))+(u64.wrap (i64.wrap (n+1))))) 0 b.at_ empty empty g.Vers ([]:List Int) (jU.mk 0 0 0 0 0 empty))).bind λo=>(pG N h) p q n r c i j k b l d m e o (i64.wrap (a+1)) else some (i64.wrap (n+1),(some m.2),(if b.at_ > c then b.at_ else c),e,i,j,k,l.1,f)
def qH (N:Nat) (s:Int) (p:Int) (d:Int) (q:j5) (e:(Option j9)) (f:Int) (g:(Mp Int Int)) (h:(Mp Int i8)) (i:(List i8)) (b:Int) (l:(Option j8)) (j:(List i9)) (a:i8):Option qal:=
 (Option.bind (bif a.read then (lT N l a.key).bind λk=>bif k.1 then some (k.2,true) else (kD N a.writes k.2).bind λm=>some (m.2,m.1) else (kD N a.writes l).bind λn=>some (n.2,n.1)) λc=>bif c.2 then (apd i [a]).bind λt=>some (d,e,f,g,h,t,b,c.1,j) else bif a.read then Option.bind (uS h (u64.wrap (b+1)) a) λu=>(uO N q a.key).bind λv=>(lB N s j v (jF.mk 3 (u64.wrap (b+1)) 0 a.at_ a.key empty ([]:List jB) ([]:List Int) (jU.mk 0 0 0 0 0 empty))).bind λw=>some (d,e,f,g,u,i,u64.wrap (b+1),c.1,w) else (uF N q a.writes).bind λo=>Option.bind e λx=>(rG N x (u64.wrap ((u64.wrap ((u64.wrap p)*2 ^ 16))+(u64.wrap (i64.wrap (d+1))))) a.at_ o).bind λy=>Option.bind (uS g (u64.wrap ((u64.wrap ((u64.wrap p)*2 ^ 16))+(u64.wrap (i64.wrap (d+1))))) a.id) λr=>pG N N s p d q f h i b a c o y r j 0)
def sA (N:Nat) (b:Int) (C:Int) (D:Int) (h:Int) (E:Int) (F:Int) (G:j5) (I:(Option j4)) (i:(Option jC)) (j:(Option j9)) (k:Int) (l:(List (Option j3))) (m:(List Int)) (n:(List Int)) (o:(Mp Int Int)) (p:(Mp Int i8)) (q:(List i8)) (r:(Mp Int jA)) (s:(Option j8)) (t:Int) (u:(List Int)) (v:(List Int)) (w:Int) (x:Bool) (y:Bool) (z:Bool) (A:(List i9)) (c:(List Bool)):Option (Int×Int×Int×j5×(Option j4)×(Option jC)×(Option j9)×(List (Option j3))×(List Int)×(List Int)×(Mp Int Int)×(Mp Int i8)×(List i8)×(Mp Int jA)×(Option j8)×Int×(List Int)×(List Int)×Int×Bool×Bool×Bool×(List i9)):=
 ((pZ N D h E F G i j l m n o p q r s t u v w x y z).bind λa=>(uN N 0).bind λB=>(idx c b).bind λH=>(vT N b C (set c (toNat b) false)).bind λd=>Option.bind d.1 λe=>(qV N e b h).bind λf=>(lB N b A 0 (jF.mk 6 0 0 k empty empty ([]:List jB) ([]:List Int) (jU.mk 0 0 0 0 0 empty))).bind λg=>some (1,a.2.1,a.2.2.1,B,(some f.2),a.2.2.2.2.1,a.2.2.2.2.2.1,a.2.2.2.2.2.2.1,a.2.2.2.2.2.2.2.1,a.2.2.2.2.2.2.2.2.1,a.2.2.2.2.2.2.2.2.2.1,a.2.2.2.2.2.2.2.2.2.2.1,a.2.2.2.2.2.2.2.2.2.2.2.1,a.2.2.2.2.2.2.2.2.2.2.2.2.1,a.2.2.2.2.2.2.2.2.2.2.2.2.2.1,a.2.2.2.2.2.2.2.2.2.2.2.2.2.2.1,a.2.2.2.2.2.2.2.2.2.2.2.2.2.2.2.1,a.2.2.2.2.2.2.2.2.2.2.2.2.2.2.2.2.1,a.2.2.2.2.2.2.2.2.2.2.2.2.2.2.2.2.2.1,a.2.2.2.2.2.2.2.2.2.2.2.2.2.2.2.2.2.2.1,a.2.2.2.2.2.2.2.2.2.2.2.2.2.2.2.2.2.2.2.1,a.2.2.2.2.2.2.2.2.2.2.2.2.2.2.2.2.2.2.2.2,g))
def oY (N:Nat) (a:Int→Int→Int→(List (Option j3))→(List Int)→(List Int)→(List i9)→Int→qar→(j3)→(Option jC)→(List Int)→Int→Option qad) (n:Int) (o:Int) (p:Int) (g:(List (Option j3))) (h:(List Int)) (i:(List Int)) (j:(List i9)) (k:Int) (l:qar) (m:(j3)) (b:(List Int)) (c:Int) (d:(Option jC)) (e:Int):Option qad:=
 ((apd b [u64.wrap e]).bind λf=>a n o p g h i j k l m d f (i64.wrap (c+1)))
def nV (N:Nat):Nat→Int→Int→Int→(List (Option j3))→(List Int)→(List Int)→Int→qar→(j3)→(Option jC)→(List Int)→(List i9)→Int→Option qad
 | 0,_,_,_,_,_,_,_,_,_,_,_,_,_=>none
 | f+1,n,l,o,g,h,i,a,j,k,c,d,e,b=>bif decide (b<l) then (lB N n e b (jF.mk 5 0 0 0 empty empty ([]:List jB) ([]:List Int) (jU.mk 0 0 0 0 0 empty))).bind λm=>(nV N f) n l o g h i a j k c d m (i64.wrap (b+1)) else some ((some j.2),c,(set g (toNat a) (some k)),(set h (toNat a) (-1)),(set i (toNat a) 0),a,l,d,e)
def lQ (N:Nat):Nat→Int→Int→Int→(List (Option j3))→(List Int)→(List Int)→(List i9)→Int→qar→(j3)→(Option jC)→(List Int)→Int→Option qad
 | 0,_,_,_,_,_,_,_,_,_,_,_,_,_=>none
 | g+1,m,n,o,b,h,i,j,c,k,d,e,f,a=>bif decide (a<4) then (idx (set b (toNat c) (some d)) a).bind λv=>Option.bind ((idx (set b (toNat c) (some d)) a).bind λp=>pA p ((qD N).bind λq=>some q) λr=>(sO N r).bind λs=>some s) λt=>bif (a==m) then Option.bind e λl=>(oT N l).bind λu=>oY N (lQ N g) m n o b h i j c k d f a (some l) u else oY N (lQ N g) m n o b h i j c k d f a e t else nV N N m n o b h i c k d e f j 0
def oZ (N:Nat) (h:Int) (q:Int) (i:Int) (j:(Option jC)) (b:(List (Option j3))) (c:(List Int)) (d:(List Int)) (k:Int) (l:Int) (m:(List Int)) (e:(List i9)) (a:Int) (n:(Option j4)) (o:Int):Option qad:=
 (Option.bind n λp=>(qV N p a i).bind λf=>(idx b a).bind λr=>(vR N 0).bind λg=>(idx c a).bind λs=>(idx d a).bind λt=>bif (o != h) then some ((some f.2),j,(set b (toNat a) (some g)),(set c (toNat a) (-1)),(set d (toNat a) 0),k,l,m,e) else lQ N N h q i b c d e a f g j ([]:List Int) 0)
def nU (N:Nat):Nat→Int→Int→Int→(Option jC)→(List (Option j3))→(List Int)→(List Int)→Int→Int→(List Int)→(List i9)→Int→j4→((List Bool))→Int→Option qad
 | 0,_,_,_,_,_,_,_,_,_,_,_,_,_,_,_=>none
 | l+1,m,n,o,p,d,e,f,g,h,i,j,b,c,k,a=>bif decide (a<4) then (idx k a).bind λq=>Option.bind (bif q then some (a != b) else some false) λr=>bif r then oZ N m n o p d e f g h i j b (some c) a else (nU N l) m n o p d e f g h i j b c k (i64.wrap (a+1)) else oZ N m n o p d e f g h i j b (some c) b
def rT (N:Nat) (k:Int) (l:Int) (m:Int) (n:(Option j4)) (o:(Option jC)) (c:(List (Option j3))) (d:(List Int)) (e:(List Int)) (f:Int) (g:Int) (h:(List Int)) (i:(List i9)) (j:Int):Option qad:=
 (Option.bind n λa=>(m0 N a).bind λb=>nU N N k l m o c d e f g h i j a b 0)
def nF (N:Nat):Nat→Int→Int→(List Int)→Int→jF→Int→Int→Int→(List ByteArray)→(List Int)→(Option j4)→(Option jC)→(Option j9)→(List (Option j3))→(List Int)→(List Int)→(Mp Int Int)→(Mp Int i8)→(List i8)→(Mp Int jA)→(Option j8)→Int→Int→(List Int)→(List Int)→Int→Bool→Bool→Bool→(List Bool)→(List Int)→(List i9)→(List Int)→Int→Option qaa
 | 0,_,_,_,_,_,_,_,_,_,_,_,_,_,_,_,_,_,_,_,_,_,_,_,_,_,_,_,_,_,_,_,_,_,_=>none
 | E+1,I,J,F,G,c,d,e,f,g,h,i,j,k,l,m,n,o,p,q,r,s,t,u,v,w,x,y,z,A,B,C,D,b,a=>bif decide (a<((F).length:Int)) then (idx c.Vec (i64.wrap (a+1))).bind λH=>(idx b a).bind λK=>(nF N E) I J F G c d e f g h i j k l m n o p q r s t u v w x y z A B C D (set b (toNat a) (i64.wrap H)) (i64.wrap (a+1)) else some (d,i64.wrap c.Id,e,f,(j5.mk g h),b,B,C,true,i,j,k,G,l,m,n,o,p,q,r,s,t,u,v,w,x,y,z,A,D)
def nG (N:Nat):Nat→Int→Int→(List Int)→Int→jF→Int→Int→Int→(List ByteArray)→(List Int)→(Option j4)→(Option jC)→(Option j9)→(List (Option j3))→(List Int)→(List Int)→(Mp Int Int)→(Mp Int i8)→(List i8)→(Mp Int jA)→(Option j8)→Int→Int→(List Int)→(List Int)→Int→Bool→Bool→Bool→(List Bool)→(List Int)→(List i9)→Int→Option qaa
 | 0,_,_,_,_,_,_,_,_,_,_,_,_,_,_,_,_,_,_,_,_,_,_,_,_,_,_,_,_,_,_,_,_,_=>none
 | E+1,F,H,d,G,e,f,g,h,i,j,k,l,m,n,o,p,q,r,s,t,u,v,w,x,y,z,A,B,C,b,c,D,a=>bif decide (a<H) then (pH N F a).bind λI=>(idx d I).bind λJ=>(idx c a).bind λO=>(idx b a).bind λP=>(apd ([]:List Int) e.Vec).bind λK=>(lB N F D a (jF.mk 10 e.Id 0 0 empty empty ([]:List jB) K (jU.mk 0 0 0 0 0 empty))).bind λL=>(nG N E) F H d G e f g h i j k l m n o p q r s t u v w x y z A B C (set b (toNat a) false) (set c (toNat a) J) L (i64.wrap (a+1)) else nF N N F H d G e f g h i j k l m n o p q r s t u v w x y z A B C b c D d 0
def kM (N:Nat) (E:Int) (F:Int) (z:(List Int)) (A:(List Bool)) (B:(List Int)) (G:Bool) (C:Int) (D:jF) (a:Int) (b:Int) (c:Int) (d:(List ByteArray)) (e:(List Int)) (f:(Option j4)) (g:(Option jC)) (h:(Option j9)) (i:(List (Option j3))) (j:(List Int)) (k:(List Int)) (l:(Mp Int Int)) (m:(Mp Int i8)) (n:(List i8)) (o:(Mp Int jA)) (p:(Option j8)) (q:Int) (r:Int) (s:(List Int)) (t:(List Int)) (u:Int) (v:Bool) (w:Bool) (x:Bool) (y:(List i9)):Option qaa:=
 (nG N N E F z C D a b c d e f g h i j k l m n o p q r s t u v w x A B y 0)
def nE (N:Nat):Nat→Int→Int→(List Int)→(List Bool)→(List Int)→Bool→Int→Int→jF→qab→qak→(List i9)→Int→Option qaa
 | 0,_,_,_,_,_,_,_,_,_,_,_,_,_=>none
 | e+1,m,n,f,g,h,i,j,k,l,a,c,d,b=>bif decide (b<n) then (lB N m d b (jF.mk 8 0 0 0 empty empty ([]:List jB) ([]:List Int) (jU.mk 0 0 0 0 0 empty))).bind λo=>(nE N e) m n f g h i j k l a c o (i64.wrap (b+1)) else kM N m n f g h i j l a.1 a.2.1 a.2.2.1 a.2.2.2.1.Cuts a.2.2.2.1.Nodes c.1 a.2.2.2.2.1 a.2.2.2.2.2.1 a.2.2.2.2.2.2.1 a.2.2.2.2.2.2.2.1 a.2.2.2.2.2.2.2.2.1 a.2.2.2.2.2.2.2.2.2.1 a.2.2.2.2.2.2.2.2.2.2.1 a.2.2.2.2.2.2.2.2.2.2.2.1 a.2.2.2.2.2.2.2.2.2.2.2.2.1 a.2.2.2.2.2.2.2.2.2.2.2.2.2.1 k a.2.2.2.2.2.2.2.2.2.2.2.2.2.2.1 a.2.2.2.2.2.2.2.2.2.2.2.2.2.2.2.1 a.2.2.2.2.2.2.2.2.2.2.2.2.2.2.2.2.1 a.2.2.2.2.2.2.2.2.2.2.2.2.2.2.2.2.2.1 a.2.2.2.2.2.2.2.2.2.2.2.2.2.2.2.2.2.2.1 a.2.2.2.2.2.2.2.2.2.2.2.2.2.2.2.2.2.2.2.1 a.2.2.2.2.2.2.2.2.2.2.2.2.2.2.2.2.2.2.2.2 d
def nH (N:Nat):Nat→Int→Int→Int→Int→Int→j5→(List Int)→(List Bool)→(List Int)→Bool→(Option j4)→(Option jC)→(Option j9)→Int→(List (Option j3))→(List Int)→(List Int)→(Mp Int Int)→(Mp Int i8)→(List i8)→(Mp Int jA)→(Option j8)→Int→Int→(List Int)→(List Int)→Int→Bool→Bool→Bool→(List i9)→jF→(List Bool)→Int→Option qaa
 | 0,_,_,_,_,_,_,_,_,_,_,_,_,_,_,_,_,_,_,_,_,_,_,_,_,_,_,_,_,_,_,_,_,_,_=>none
 | V+1,c,B,E,G,H,d,j,k,l,m,C,n,o,e,f,g,p,q,r,s,t,F,u,v,w,x,h,y,z,D,A,a,J,I=>bif decide (I<4) then (idx a.Vec 0).bind λW=>Option.bind (shrV .u64 W I) λX=>(idx J I).bind λax=>(nH N V) c B E G H d j k l m C n o e f g p q r s t F u v w x h y z D A a (set J (toNat I) (iAnd .u64 X 1==1)) (i64.wrap (I+1)) else Option.bind (bif (a.Cmd.Kind==1) then bif (a.N==1) then some (a.Cmd.DC==c) else some false else some false) λY=>bif Y then (sA N c B E (i64.wrap a.Id) G H d C n o e f g p q r s t F v w x h y z D A J).bind λb=>kM N c B j k l m e a b.1 b.2.1 b.2.2.1 b.2.2.2.1.Cuts b.2.2.2.1.Nodes b.2.2.2.2.1 b.2.2.2.2.2.1 b.2.2.2.2.2.2.1 b.2.2.2.2.2.2.2.1 b.2.2.2.2.2.2.2.2.1 b.2.2.2.2.2.2.2.2.2.1 b.2.2.2.2.2.2.2.2.2.2.1 b.2.2.2.2.2.2.2.2.2.2.2.1 b.2.2.2.2.2.2.2.2.2.2.2.2.1 b.2.2.2.2.2.2.2.2.2.2.2.2.2.1 b.2.2.2.2.2.2.2.2.2.2.2.2.2.2.1 u b.2.2.2.2.2.2.2.2.2.2.2.2.2.2.2.1 b.2.2.2.2.2.2.2.2.2.2.2.2.2.2.2.2.1 b.2.2.2.2.2.2.2.2.2.2.2.2.2.2.2.2.2.1 b.2.2.2.2.2.2.2.2.2.2.2.2.2.2.2.2.2.2.1 b.2.2.2.2.2.2.2.2.2.2.2.2.2.2.2.2.2.2.2.1 b.2.2.2.2.2.2.2.2.2.2.2.2.2.2.2.2.2.2.2.2.1 b.2.2.2.2.2.2.2.2.2.2.2.2.2.2.2.2.2.2.2.2.2.1 b.2.2.2.2.2.2.2.2.2.2.2.2.2.2.2.2.2.2.2.2.2.2 else Option.bind (bif (a.Cmd.Kind==1) then bif (a.N==1) then some (E != 0) else some false else some false) λZ=>bif Z then (rT N c B (i64.wrap a.Id) C n f g p u v w A a.Cmd.DC).bind λi=>kM N c B j k l m e a E G H d.Cuts d.Nodes i.1 i.2.1 o i.2.2.1 i.2.2.2.1 i.2.2.2.2.1 q r s t F i.2.2.2.2.2.1 i.2.2.2.2.2.2.1 i.2.2.2.2.2.2.2.1 x h y z D i.2.2.2.2.2.2.2.2 else Option.bind (bif (a.Cmd.Kind==1) then bif (a.Cmd.DC==c) then some (E==1) else some false else some false) λaa=>bif aa then Option.bind C λab=>(tS N ab h).bind λad=>kM N c B j k l m e a 2 G H d.Cuts d.Nodes (some ad) n o f g p q r s t F u v w x h y z D A else Option.bind (bif (a.Cmd.Kind==2) then bif (a.N==1) then bif (a.Cmd.DC==c) then some (E==2) else some false else some false else some false) λae=>bif ae then kM N c B j k l m e a 3 G H d.Cuts d.Nodes C n o f g p q r s t F u v w x h y z false A else Option.bind (bif (a.Cmd.Kind==2) then bif (a.N==2) then some (a.Cmd.DC==c) else some false else some false) λaf=>bif af then (pZ N E (i64.wrap a.Id) G H d n o f g p q r s t F v w x h y z D).bind λah=>(vT N c B J).bind λai=>nE N N c B j k l m e u a ah ai A 0 else Option.bind (bif (a.Cmd.Kind==2) then some (a.N==2) else some false) λaj=>bif aj then Option.bind C λak=>(rL N ak a.Cmd.DC (i64.wrap a.Id)).bind λal=>(idx f a.Cmd.DC).bind λay=>Option.bind ((idx g a.Cmd.DC).bind λaz=>some ()) λaA=>kM N c B j k l m e a E G H d.Cuts d.Nodes (some al.2) n o (set f (toNat a.Cmd.DC) none) (set g (toNat a.Cmd.DC) (-1)) p q r s t F u v w x h y z D A else Option.bind (pA F (Option.bind (bif (a.Cmd.Kind==3) then bif (a.Cmd.DC==c) then some true else some false else some false) λam=>some (none,am)) λan=>Option.bind (bif (a.Cmd.Kind==3) then bif (a.Cmd.DC==c) then some () else some () else some ()) λaB=>some ((some an),false)) λK=>bif K.2 then (vU N d B a.Cmd.Shard a.Cmd.Key).bind λR=>(rR N d R.1 R.2).bind λS=>kM N c B j k l m e a E G H S.Cuts S.Nodes C n o f g p q r s t K.1 u v w x h y z D A else Option.bind (pA K.1 (Option.bind (bif (a.Cmd.Kind==4) then bif (a.Cmd.DC==c) then some true else some false else some false) λao=>some (none,ao)) λaq=>Option.bind (bif (a.Cmd.Kind==4) then bif (a.Cmd.DC==c) then some () else some () else some ()) λaD=>some ((some aq),false)) λL=>bif L.2 then (vV N d B a.Cmd.Shard).bind λT=>(rR N d T.1 T.2).bind λU=>kM N c B j k l m e a E G H U.Cuts U.Nodes C n o f g p q r s t L.1 u v w x h y z D A else Option.bind (pA L.1 (Option.bind (bif (a.Cmd.Kind==5) then bif (a.Cmd.DC==c) then some true else some false else some false) λar=>some (none,ar)) λau=>Option.bind (bif (a.Cmd.Kind==5) then bif (a.Cmd.DC==c) then some () else some () else some ()) λaE=>some ((some au),false)) λO=>bif O.2 then Option.bind ((vP N d B a.Cmd.Shard a.Cmd.Node).bind λav=>some av.2) λaw=>bif (aw==0) then Option.bind ((yF N d a.Cmd.Shard).bind λP=>some (P.1.Lo,P.1.Hi,P.1.Node)) λQ=>kM N c B j k l m e a E G H d.Cuts d.Nodes C n o f g p q r s t (some (j8.mk (l6.mk Q.1 Q.2.1 Q.2.2) a.Cmd.Shard a.Cmd.Node 0)) u v w x h y z D A else kM N c B j k l m e a E G H d.Cuts d.Nodes C n o f g p q r s t O.1 u v w x h y z D A else kM N c B j k l m e a E G H d.Cuts d.Nodes C n o f g p q r s t O.1 u v w x h y z D A
def rC (N:Nat) (H:Int) (I:Int) (y:Int) (z:Int) (C:Int) (D:Int) (E:j5) (c:(List Int)) (d:(List Bool)) (e:(List Int)) (f:Bool) (g:(Option j4)) (h:(Option jC)) (i:(Option j9)) (b:Int) (j:(List (Option j3))) (k:(List Int)) (l:(List Int)) (m:(Mp Int Int)) (n:(Mp Int i8)) (o:(List i8)) (p:(Mp Int jA)) (q:(Option j8)) (r:Int) (s:Int) (t:(List Int)) (u:(List Int)) (A:Int) (B:Bool) (v:Bool) (w:Bool) (x:(List i9)) (a:jF):Option qaa:=
 (Option.bind (bif (a.Kind==22) then bif (y==1) then some (a.Id==u64.wrap z) else some false else some false) λF=>bif F then some (y,z,C,D,E,c,d,e,f,g,h,i,(if a.TS > b then a.TS else b),j,k,l,m,n,o,p,q,r,s,t,u,a.TS,true,v,w,x) else Option.bind (bif (a.Kind != 21) then some true else bif decide (a.Id≤u64.wrap z) then some true else bif decide (a.Id > 16384) then some true else bif ((a.Vec.length:Int) != 22) then some true else bif decide (a.Cmd.DC<0) then some true else some (decide (a.Cmd.DC ≥ 4))) λG=>bif G then some (y,z,C,D,E,c,d,e,f,g,h,i,b,j,k,l,m,n,o,p,q,r,s,t,u,A,B,v,w,x) else nH N N H I y C D E c d e f g h i b j k l m n o p q r s t u A B v w x a (replicate 4 false) 0)
def qP (N:Nat) (a:(List jB)):Option ((List jB)):=
 (some ([]:List jB))
def mJ (N:Nat) (a:(List jB)):Option ((List jB)):=
 ((apd ([]:List jB) a).bind λb=>some b)
def lH (N:Nat) (a:(List jB)):Option ((List jB)):=
 mJ N a
def lE (N:Nat):Nat→(List Int)→Int→Int→Option (Int)
 | 0,_,_,_=>none
 | c+1,e,a,b=>bif decide (b<((e).length:Int)) then (idx e b).bind λd=>(lE N c) e (if d > a then d else a) (i64.wrap (b+1)) else some a
def nP (N:Nat) (a:(List Int)):Option (Int):=
 ((idx a 0).bind λb=>lE N N a b 1)
def mX (N:Nat) (a:(List Int)):Option (Int):=
 (bif decide (((a).length:Int)<1) then none else nP N a)
def nK (N:Nat)(c:Int→(Mp Int jA)→Int→jA→(List jJ)→(List ByteArray)→(List i9)→Int→Option qam):Nat→Int→(Mp Int jA)→Int→jA→(List jJ)→(List i9)→Int→jJ→(List ByteArray)→Int→Option qam
 | 0,_,_,_,_,_,_,_,_,_,_=>none
 | e+1,j,o,k,f,g,h,i,a,d,b=>bif decide (b<(a.Vers.length:Int)) then (idx a.Vers b).bind λl=>(apd d [l.Key]).bind λm=>(nK N c e) j o k f g h i a m (i64.wrap (b+1)) else (lB N j h a.Node (jF.mk 4 (u64.wrap (k+1)) 0 0 empty empty a.Vers ([]:List Int) (jU.mk 0 0 0 0 0 empty))).bind λn=>c j o k f g d n (i64.wrap (i+1))
def mG (N:Nat):Nat→Int→(Mp Int jA)→Int→jA→(List jJ)→(List ByteArray)→(List i9)→Int→Option qam
 | 0,_,_,_,_,_,_,_,_=>none
 | d+1,k,i,g,b,a,e,f,c=>bif decide (c<((a).length:Int)) then (idx a c).bind λj=>nK N (mG N d) N k i g b a f c j e 0 else Option.bind (uS i (u64.wrap (g+1)) (jA.mk b.dc b.at_ ((a).length:Int) e)) λh=>some (h,u64.wrap (g+1),f)
def pS (N:Nat) (c:Int) (d:(Mp Int jA)) (e:Int) (f:(List i9)) (a:jA) (b:(List jJ)):Option qam:=
 (mG N N c d e a b ([]:List ByteArray) f 0)
def rD (N:Nat) (n:Int) (y:Int) (i:(Option j4)) (j:(Option jC)) (b:(List (Option j3))) (c:(List Int)) (d:(Mp Int jA)) (e:Int) (f:(List Int)) (g:(List i9)) (h:Int) (a:jF):Option ((Option j4)×(Option jC)×(List (Option j3))×(List Int)×(Mp Int jA)×Int×(List Int)×(List i9)):=
 (Option.bind (bif decide (h<0) then some true else bif decide (h ≥ 4) then some true else some (y==0)) λz=>bif z then some (i,j,b,c,d,e,f,g) else bif (a.Kind==18) then Option.bind ((idx b h).bind λA=>pA A (some false) λH=>Option.bind (bif decide (a.Id<2147483648) then bif decide (a.N≤1073741824) then some (decide ((a.Vers.length:Int) > 0)) else some false else some false) λB=>some B) λC=>bif C then (idx b h).bind λD=>pA D none λE=>(tN N E (i64.wrap a.Id) (kC.mk a.TS h (i64.wrap a.N) a.Vers)).bind λF=>some (i,j,(set b (toNat h) (some F.2)),c,d,e,f,g) else some (i,j,b,c,d,e,f,g) else bif (a.Kind==20) then Option.bind i λl=>Option.bind j λm=>Option.bind ((m0 N l).bind λo=>(idx o h).bind λp=>bif p then (oT N m).bind λq=>some (decide (a.N≤u64.wrap q)) else some false) λr=>bif r then (idx c h).bind λG=>some ((some l),(some m),b,(set c (toNat h) (i64.wrap a.N)),d,e,f,g) else some ((some l),(some m),b,c,d,e,f,g) else bif (a.Kind==19) then Option.bind (bif (y != 1) then some true else some (decide (((f).length:Int) > 0))) λs=>bif s then some (i,j,b,c,d,e,f,g) else bif (a.N==0) then (lH N a.Vers).bind λt=>(pS N n d e g (jA.mk n 0 0 ([]:List ByteArray)) [(jJ.mk 0 t)]).bind λk=>(lB N n k.2.2 0 (jF.mk 9 0 0 a.Id empty empty ([]:List jB) ([]:List Int) (jU.mk 0 0 0 0 0 empty))).bind λu=>some (i,j,b,c,k.1,k.2.1,f,u) else Option.bind (bif ((a.Vec.length:Int)==4) then (mX N a.Vec).bind λv=>some (decide (v≤1073741824)) else some false) λw=>bif w then (apd ([]:List Int) a.Vec).bind λx=>some (i,j,b,c,d,e,x,g) else some (i,j,b,c,d,e,f,g) else some (i,j,b,c,d,e,f,g))
def pU (N:Nat) (l:Int) (k:Int) (a:Int) (g:(List Int)) (b:jF) (c:(Option j8)) (d:(List i9)):Option qax:=
 (Option.bind (bif (b.N==0) then some (decide (a > 0)) else some false) λh=>bif h then (pH N k (-1)).bind λe=>(lH N b.Vers).bind λi=>(lW N d e (jF.mk 19 b.Id 0 0 empty empty i ([]:List Int) (jU.mk 0 0 0 0 0 empty))).bind λf=>bif (i64.wrap (a-1)==0) then (lW N f e (jF.mk 19 0 1 0 empty empty ([]:List jB) g (jU.mk 0 0 0 0 0 empty))).bind λj=>some (c,i64.wrap (a-1),([]:List Int),j) else some (c,i64.wrap (a-1),g,f) else some (c,a,g,d))
def t6 (N:Nat) (f:Int) (m:(Option j8)) (g:Int) (h:Int) (i:(List Int)) (d:(List i9)) (b:jF):Option qax:=
 (Option.bind (pA m (Option.bind (bif (b.N==1) then some () else some ()) λn=>some (none,false)) λe=>Option.bind (bif (b.N==1) then some (e.step_==1) else some false) λj=>some ((some e),j)) λc=>bif c.2 then Option.bind c.1 λa=>(lH N b.Vers).bind λk=>(lB N f d ((j8.mk a.span a.shard a.to 2).to) (jF.mk 6 b.Id 0 b.TS (((j8.mk a.span a.shard a.to 2).span).Lo) (((j8.mk a.span a.shard a.to 2).span).Hi) k ([]:List Int) (jU.mk 0 0 0 0 0 empty))).bind λl=>pU N f g h i b (some (j8.mk a.span a.shard a.to 2)) l else pU N f g h i b c.1 d)
def mS (N:Nat):Nat→Int→Int→Int→Int→Int→j5→(List Bool)→(Option j4)→Int→(List (Option j3))→(Mp Int Int)→(Mp Int i8)→(List i8)→(Mp Int jA)→Int→(Option j8)→Int→Int→(List Int)→(List jL)→jF→qaw→(List jB)→qap→((List Int))→(List i9)→Int→Option qac
 | 0,_,_,_,_,_,_,_,_,_,_,_,_,_,_,_,_,_,_,_,_,_,_,_,_,_,_,_=>none
 | i+1,u,D,E,F,A,B,j,k,e,l,f,m,n,o,p,q,C,r,s,t,d,a,v,g,b,h,c=>bif decide (c<((b).length:Int)) then (idx b c).bind λw=>(lB N u h w (jF.mk 2 d.Id 0 a.1 empty empty ([]:List jB) ([]:List Int) (jU.mk 0 0 0 0 0 empty))).bind λx=>(mS N i) u D E F A B j k e l f m n o p q C r s t d a v g b x (i64.wrap (c+1)) else Option.bind (mgt f d.Id 0) λy=>(apd t [(jL.mk y.1 2 false false (jB.mk empty empty false 0 0 0) (mN.mk a.1 u (i64.wrap d.Id)))]).bind λz=>some (A,B,j,k,(some g.2),(some a.2.2.2),(if a.1 > e then a.1 else e),l,f,m,n,o,p,q,r,s,h,z)
def mT (N:Nat):Nat→Int→Int→Int→Int→Int→j5→(List Bool)→(Option j4)→(Option jC)→Int→(List (Option j3))→(Mp Int Int)→(Mp Int i8)→(List i8)→(Mp Int jA)→Int→(Option j8)→Int→Int→(List Int)→(List i9)→(List jL)→jF→((List jB))→qaw→(List jB)→Int→Option qac
 | 0,_,_,_,_,_,_,_,_,_,_,_,_,_,_,_,_,_,_,_,_,_,_,_,_,_,_,_=>none
 | g+1,h,C,D,E,F,G,i,j,k,l,m,n,o,p,q,r,s,t,u,v,w,x,a,f,b,c,d=>bif decide (d<((f).length:Int)) then (idx f d).bind λe=>(apd c [(jB.mk e.Key e.Val e.Gone b.1 h (i64.wrap a.Id))]).bind λy=>(mT N g) h C D E F G i j k l m n o p q r s t u v w x a f b y (i64.wrap (d+1)) else Option.bind k λz=>(rN N z (kC.mk b.1 h (i64.wrap a.Id) c)).bind λA=>(pV N b.2.2.2 a.Id).bind λB=>mS N N h C D E F G i j l m n o p q r s t u v x a b c A B w 0
def oB (N:Nat) (D:Int) (E:Int) (F:Int) (G:Int) (A:Int) (B:j5) (k:(List Bool)) (l:(Option j4)) (m:(Option jC)) (n:(Option j9)) (o:Int) (p:(List (Option j3))) (q:(Mp Int Int)) (r:(Mp Int i8)) (s:(List i8)) (t:(Mp Int jA)) (u:Int) (v:(Option j8)) (C:Int) (w:Int) (x:(List Int)) (y:(List i9)) (z:(List jL)) (a:jF) (b:(i8×Bool)) (c:(Bool)) (d:ByteArray) (e:ByteArray) (f:Bool) (g:Int) (h:Int) (i:Int):Option qac:=
 ((apd z [(jL.mk b.1.id 1 (a.N==2) c (jB.mk d e f g h i) (mN.mk 0 0 0))]).bind λj=>some (A,B,k,l,m,n,o,p,q,(mDel r a.Id),s,t,u,v,w,x,y,j))
def mR (N:Nat):Nat→Int→Int→Int→Int→(List Bool)→(Option j4)→(Option jC)→(List (Option j3))→(List i8)→(Mp Int jA)→Int→Int→(List Int)→(List jL)→(j5×Int)→Int→(Option j9)→Int→(Mp Int Int)→(Mp Int i8)→(List i8)→Int→(Option j8)→(List i9)→Int→Option qac
 | 0,_,_,_,_,_,_,_,_,_,_,_,_,_,_,_,_,_,_,_,_,_,_,_,_,_=>none
 | n+1,x,A,B,y,o,p,q,r,d,s,z,t,u,v,b,e,f,g,h,i,j,k,l,m,c=>bif decide (c<((d).length:Int)) then (idx d c).bind λw=>(qH N x y e b.1 f g h i j k l m w).bind λa=>(mR N n) x A B y o p q r d s z t u v b a.1 a.2.1 a.2.2.1 a.2.2.2.1 a.2.2.2.2.1 a.2.2.2.2.2.1 a.2.2.2.2.2.2.1 a.2.2.2.2.2.2.2.1 a.2.2.2.2.2.2.2.2 (i64.wrap (c+1)) else some (e,b.1,o,p,q,f,g,r,h,i,j,s,k,l,t,u,m,v)
def qT (N:Nat) (y:Int) (G:Int) (H:Int) (J:Int) (s:Int) (t:j5) (d:(List Bool)) (h:(Option j4)) (i:(Option jC)) (r:(Option j9)) (j:Int) (b:(List (Option j3))) (e:(Mp Int Int)) (f:(Mp Int i8)) (k:(List i8)) (g:(Mp Int jA)) (l:Int) (q:(Option j8)) (z:Int) (m:Int) (n:(List Int)) (o:(List i9)) (p:(List jL)) (w:Int) (a:jF):Option qac:=
 (bif (a.Kind==17) then bif (a.Id==u64.wrap H) then (idx d w).bind λam=>some (s,t,(set d (toNat w) true),h,i,r,j,b,e,f,k,g,l,q,m,n,o,p) else some (s,t,d,h,i,r,j,b,e,f,k,g,l,q,m,n,o,p) else bif (a.Kind==11) then Option.bind r λK=>(oH N K a.Id).bind λaj=>(rV N K a.Id w a.TS).bind λF=>Option.bind (bif (F.2.2.1 != 0) then some true else some (!F.2.1)) λL=>bif L then some (s,t,d,h,i,(some F.2.2.2),j,b,e,f,k,g,l,q,m,n,o,p) else mT N N y G H J s t d h i j b e f k g l q z m n o p a aj F ([]:List jB) 0 else bif (a.Kind==12) then Option.bind r λO=>(sB N O a.Id w).bind λA=>bif A.1 then Option.bind (mgt e a.Id 0) λP=>(apd p [(jL.mk P.1 3 false false (jB.mk empty empty false 0 0 0) (mN.mk 0 0 0))]).bind λQ=>some (s,t,d,h,i,(some A.2.2),j,b,(mDel e a.Id),f,k,g,l,q,m,n,o,Q) else some (s,t,d,h,i,(some A.2.2),j,b,e,f,k,g,l,q,m,n,o,p) else bif (a.Kind==13) then Option.bind (mgt f a.Id (i8.mk 0 false empty 0 ([]:List jB))) λB=>bif (!B.2) then some (s,t,d,h,i,r,j,b,e,f,k,g,l,q,m,n,o,p) else Option.bind (bif (a.N==1) then some ((a.Vers.length:Int)==1) else some false) λC=>bif C then (idx a.Vers 0).bind λu=>oB N y G H J s t d h i r j b e f k g l q z m n o p a B C u.Key u.Val u.Gone u.TS u.DC u.Tx else oB N y G H J s t d h i r j b e f k g l q z m n o p a B C empty empty false 0 0 0 else bif (a.Kind==14) then Option.bind (mgt g a.Id (jA.mk 0 0 0 ([]:List ByteArray))) λc=>bif (!c.2) then some (s,t,d,h,i,r,j,b,e,f,k,g,l,q,m,n,o,p) else bif decide (i64.wrap (c.1.left-1) > 0) then Option.bind (uS g a.Id (jA.mk c.1.dc c.1.at_ (i64.wrap (c.1.left-1)) c.1.keys)) λR=>some (s,t,d,h,i,r,j,b,e,f,k,R,l,q,m,n,o,p) else Option.bind ((idx b c.1.dc).bind λS=>pA S (Option.bind (bif (c.1.dc != y) then some () else some ()) λak=>some false) λal=>Option.bind (bif (c.1.dc != y) then some true else some false) λT=>some T) λU=>bif U then (idx b c.1.dc).bind λV=>pA V none λW=>(sW N W c.1.at_).bind λI=>(idx (set b (toNat c.1.dc) (some I.2)) c.1.dc).bind λX=>pA X none λY=>Option.bind h λZ=>(tO N Y).bind λaa=>(rM N Z c.1.dc aa).bind λab=>some (s,t,d,(some ab),i,r,j,(set b (toNat c.1.dc) (some I.2)),e,f,k,(mDel g a.Id),l,q,m,n,o,p) else some (s,t,d,h,i,r,j,b,e,f,k,(mDel g a.Id),l,q,m,n,o,p) else bif (a.Kind==15) then (t6 N y q z m n o a).bind λx=>some (s,t,d,h,i,r,j,b,e,f,k,g,l,x.1,x.2.1,x.2.2.1,x.2.2.2,p) else bif (a.Kind==16) then Option.bind (pA q (some (none,false)) λD=>Option.bind (bif (D.step_==2) then some (w==D.to) else some false) λad=>some ((some D),ad)) λE=>bif E.2 then Option.bind E.1 λv=>(vP N t G v.shard v.to).bind λae=>(lB N y o v.span.Node (jF.mk 7 0 0 0 v.span.Lo v.span.Hi ([]:List jB) ([]:List Int) (jU.mk 0 0 0 0 0 empty))).bind λaf=>mR N N y G H J d h i b k g z m n p ae s r j e f ([]:List i8) l none af 0 else some (s,t,d,h,i,r,j,b,e,f,k,g,l,E.1,m,n,o,p) else bif (a.Kind==26) then Option.bind h λah=>(s6 N ah w a.TS).bind λai=>some (s,t,d,(some ai),i,r,j,b,e,f,k,g,l,q,m,n,o,p) else some (s,t,d,h,i,r,j,b,e,f,k,g,l,q,m,n,o,p))
def rB (N:Nat) (a:(List Int)→j4→jC→(List Int)→(List i9)→Int→Option qaj) (g:(List Int)) (d:j4) (e:Int) (f:jC) (b:(List Int)) (c:(List i9)):Option qaj:=
 (a g d f b c (i64.wrap (e+1)))
def mY (N:Nat):Nat→(List Int)→j4→jC→(List Int)→(List i9)→Int→Option qaj
 | 0,_,_,_,_,_,_=>none
 | e+1,k,g,b,f,h,a=>(bif decide (a<4) then ((idx k a).bind λc=>(bif decide (c<0) then rB N (mY N e) k g a b f h else ((uA N b c).bind λp=>((tC N (σ:=((List i9)×Nat)) (λ(i:((List i9)×Nat)) l d=>bif (i.2==0) then (pH N a (-1)).bind λm=>(lW N i.1 m (jF.mk 18 (u64.wrap l) (u64.wrap d.Tx) d.TS empty empty d.Vers ([]:List Int) (jU.mk 0 0 0 0 0 empty))).bind λn=>some (((n,0)),true) else none) b c (h,0)).bind λj=>bif (j.2==0) then (oT N b).bind λo=>(idx f a).bind λq=>rB N (mY N e) k g a b (set f (toNat a) o) j.1 else none)))) else some ((some g),(some b),f,h))
def sY (N:Nat) (g:(Option j4)) (h:(Option jC)) (b:(List Int)) (c:(List i9)):Option qaj:=
 (Option.bind g λa=>Option.bind h λd=>(qJ N a).bind λe=>(sN N d e).bind λf=>mY N N b a f.2 b c 0)
def pT (N:Nat) (a:Int→j5→Int→(List (Option j3))→(Mp Int jA)→Int→(Option j8)→(List i9)→Int→Option qaf) (i:Int) (j:j5) (f:Int) (g:Int) (h:(List (Option j3))) (b:(Mp Int jA)) (c:Int) (d:(Option j8)) (e:(List i9)):Option qaf:=
 (a i j g h b c d e (i64.wrap (f+1)))
def oU (N:Nat)(k:Int→j5→Int→(List (Option j3))→(Mp Int jA)→Int→(Option j8)→(List i9)→Int→Option qaf)(l:Int→j5→Int→Int→(List (Option j3))→(Mp Int jA)→Int→(Option j8)→(List i9)→Option qaf):Nat→Int→j5→Int→Int→(List (Option j3))→(Mp Int jA)→Int→(List i9)→(Int×Int×Int×(List jB)×Bool)→(Option j8)→Int→Option qaf
 | 0,_,_,_,_,_,_,_,_,_,_,_=>none
 | o+1,p,q,b,c,d,e,f,g,a,m,h=>bif decide (h<(a.2.2.2.1.length:Int)) then (idx a.2.2.2.1 h).bind λr=>(lT N m r.Key).bind λi=>bif i.1 then pT N k p q b c d e f i.2 g else (oU N k l o) p q b c d e f g a i.2 (i64.wrap (h+1)) else (idx d b).bind λs=>pA s none λt=>(sV N t).bind λn=>(uF N q a.2.2.2.1).bind λu=>(pS N p e f g (jA.mk b n.1 0 ([]:List ByteArray)) u).bind λj=>l p q b (if a.1 > c then a.1 else c) (set d (toNat b) (some n.2.2.2)) j.1 j.2.1 m j.2.2
def nZ (N:Nat)(c:Int→j5→Int→(List (Option j3))→(Mp Int jA)→Int→(Option j8)→(List i9)→Int→Option qaf):Nat→Int→j5→Int→Int→(List (Option j3))→(Mp Int jA)→Int→(Option j8)→(List i9)→Option qaf
 | 0,_,_,_,_,_,_,_,_,_=>none
 | l+1,o,p,e,f,d,g,h,i,j=>Option.bind ((idx d e).bind λm=>pA m ((rI N).bind λa=>some (a.1.TS,a.1.DC,a.1.Tx,a.1.Vers,a.2)) λn=>(rQ N n).bind λb=>some (b.1.TS,b.1.DC,b.1.Tx,b.1.Vers,b.2)) λk=>bif (!k.2.2.2.2) then pT N c o p e f d g h i j else oU N c (nZ N c l) N o p e f d g h j k i 0
def lX (N:Nat):Nat→Int→j5→Int→(List (Option j3))→(Mp Int jA)→Int→(Option j8)→(List i9)→Int→Option qaf
 | 0,_,_,_,_,_,_,_,_,_=>none
 | c+1,i,j,d,a,e,f,g,h,b=>bif decide (b<4) then (idx a b).bind λk=>nZ N (lX N c) N i j b d a e f g h else some (d,a,e,f,g,h)
def uD (N:Nat) (f:Int) (g:j5) (h:Int) (a:(List (Option j3))) (b:(Mp Int jA)) (c:Int) (d:(Option j8)) (e:(List i9)):Option qaf:=
 (lX N N f g h a b c d e 0)
def kH (N:Nat):Nat→(List ByteArray)→(Option j8)→Int→Option qat
 | 0,_,_,_=>none
 | c+1,e,d,a=>bif decide (a<((e).length:Int)) then (idx e a).bind λf=>(lT N d f).bind λb=>bif b.1 then some (a,b.2) else (kH N c) e b.2 (i64.wrap (a+1)) else some ((-1),d)
def m1 (N:Nat) (a:(List ByteArray)) (b:(Option j8)):Option qat:=
 (kH N N a b 0)
def kI (N:Nat) (b:(List ByteArray)) (c:(Option j8)):Option qas:=
 ((m1 N b c).bind λa=>some (decide (a.1 ≥ 0),a.2))
def nI (N:Nat):Nat→Int→(Mp Int i8)→(Mp Int jA)→(List i9)→qay→(Option j8)→(List Int)→Option qan
 | 0,_,_,_,_,_,_,_=>none
 | i+1,k,l,d,e,f,g,b=>bif (oM d b).isEmpty then Option.bind g λa=>(lB N k e (((j8.mk a.span a.shard a.to 1).span).Node) (jF.mk 5 0 1 0 (((j8.mk a.span a.shard a.to 1).span).Lo) (((j8.mk a.span a.shard a.to 1).span).Hi) ([]:List jB) ([]:List Int) (jU.mk 0 0 0 0 0 empty))).bind λj=>some (f.1,(some (j8.mk a.span a.shard a.to 1)),j) else m3 (oM d b) λh=>(kI N h.2.keys g).bind λc=>bif c.1 then some (f.1,c.2,e) else (nI N i) k l d e f c.2 (kRem b h.1)
def nJ (N:Nat):Nat→Int→(Mp Int i8)→(Mp Int jA)→(List i9)→qay→(Option j8)→(List Int)→Option qan
 | 0,_,_,_,_,_,_,_=>none
 | h+1,j,i,c,d,e,f,a=>bif (oM i a).isEmpty then nI N N j i c d e f (pP c) else m3 (oM i a) λg=>(lT N f g.2.key).bind λb=>bif b.1 then some (e.1,b.2,d) else (nJ N h) j i c d e b.2 (kRem a g.1)
def s9 (N:Nat) (k:Int) (e:(Option j9)) (f:(Mp Int i8)) (g:(Mp Int jA)) (h:(Option j8)) (c:(List i9)):Option qan:=
 (Option.bind (pA h (some (e,none,true)) λb=>Option.bind e λd=>Option.bind (bif (b.step_ != 0) then some true else (qA N d b.span.Lo b.span.Hi).bind λi=>some i) λj=>some ((some d),(some b),j)) λa=>bif a.2.2 then some (a.1,a.2.1,c) else nJ N N k f g c a a.2.1 (pP f))
def oX (N:Nat) (q:Int) (r:Int) (m:Int) (n:Bool) (o:(Mp Int jA)) (p:(List Int)) (f:Int) (g:Bool) (h:Bool) (i:(Option j4)) (c:(List (Option j3))) (d:(List Int)) (a:Bool) (e:(List i9)):Option qai:=
 (Option.bind i λb=>Option.bind (bif a then bif g then bif (!n) then (pE N b).bind λj=>some (decide (j ≥ f)) else some false else some false else some false) λk=>bif k then (lW N e 0 (jF.mk 24 (u64.wrap m) 0 0 empty empty ([]:List jB) ([]:List Int) (jU.mk 0 0 0 0 0 empty))).bind λl=>some ((some b),c,d,a,true,l) else some ((some b),c,d,a,h,e))
def q7 (N:Nat) (a:Int→Int→Int→Bool→(Mp Int jA)→(List Int)→Int→Bool→Bool→j4→((List Bool))→(List (Option j3))→(List Int)→(List i9)→Int→Option qai) (m:Int) (n:Int) (o:Int) (p:Bool) (f:(Mp Int jA)) (g:(List Int)) (h:Int) (i:Bool) (j:Bool) (k:j4) (l:((List Bool))) (b:Int) (c:(List (Option j3))) (d:(List Int)) (e:(List i9)):Option qai:=
 (a m n o p f g h i j k l c d e (i64.wrap (b+1)))
def m9 (N:Nat):Nat→Int→Int→Int→Bool→(Mp Int jA)→(List Int)→Int→Bool→Bool→j4→((List Bool))→(List (Option j3))→(List Int)→(List i9)→Int→Option qai
 | 0,_,_,_,_,_,_,_,_,_,_,_,_,_,_,_=>none
 | f+1,m,n,o,p,g,d,h,i,j,k,l,b,c,e,a=>bif decide (a<4) then (idx l a).bind λq=>Option.bind (bif q then some (a != m) else some false) λr=>bif r then (idx b a).bind λx=>(idx d a).bind λs=>(vR N (i64.wrap s)).bind λt=>(idx c a).bind λy=>(idx d a).bind λu=>(pH N a (-1)).bind λv=>(lW N e v (jF.mk 20 0 u 0 empty empty ([]:List jB) ([]:List Int) (jU.mk 0 0 0 0 0 empty))).bind λw=>q7 N (m9 N f) m n o p g d h i j k l a (set b (toNat a) (some t)) (set c (toNat a) 0) w else q7 N (m9 N f) m n o p g d h i j k l a b c e else oX N m n o p g d h i j (some k) b c true e
def rS (N:Nat) (m:Int) (k:Int) (n:Int) (o:Bool) (l:(Option j4)) (b:(List (Option j3))) (c:(List Int)) (d:(Mp Int jA)) (e:(List Int)) (h:Int) (i:Bool) (f:Bool) (a:Bool) (g:(List i9)):Option qai:=
 (Option.bind (bif (k != 1) then some true else some a) λp=>bif p then some (l,b,c,f,a,g) else Option.bind (bif (!f) then bif decide (((e).length:Int) > 0) then some ((mLen d:Int)==0) else some false else some false) λq=>bif q then Option.bind l λj=>(m0 N j).bind λr=>m9 N N m k n o d e h i a j r b c g 0 else oX N m k n o d e h i a l b c f g)
def kX (N:Nat):Nat→(List Bool)→Bool→Int→Option (Int)
 | 0,_,_,_=>none
 | b+1,c,d,a=>bif decide (a<((c).length:Int)) then (idx c a).bind λe=>bif (d==e) then some a else (kX N b) c d (i64.wrap (a+1)) else some (-1)
def nQ (N:Nat) (a:(List Bool)) (b:Bool):Option (Int):=
 (kX N N a b 0)
def mO (N:Nat) (a:(List Bool)) (b:Bool):Option (Bool):=
 ((nQ N a b).bind λc=>some (decide (c ≥ 0)))
def oV (N:Nat):Nat→Int→(List Int)→(Mp Int i8)→(List i8)→(Mp Int jA)→j9→jC→j4→((List Bool))→Int→Option qau
 | 0,_,_,_,_,_,_,_,_,_,_=>none
 | e+1,l,f,m,n,o,c,b,d,g,a=>bif decide (a<4) then (idx g a).bind λh=>Option.bind (bif h then bif (a != l) then (idx f a).bind λi=>(oT N b).bind λj=>some (decide (i<j)) else some false else some false) λk=>bif k then some (false,(some d),(some b),(some c)) else (oV N e) l f m n o c b d g (i64.wrap (a+1)) else some (true,(some d),(some b),(some c))
def sZ (N:Nat) (m:Int) (g:(Option j4)) (n:(Option jC)) (o:(Option j9)) (h:(List Int)) (c:(Mp Int i8)) (d:(List i8)) (e:(Mp Int jA)):Option qau:=
 (Option.bind o λa=>Option.bind n λb=>Option.bind ((tU N a).bind λi=>bif decide (i > 0) then some true else bif decide ((mLen c:Int) > 0) then some true else bif decide (((d).length:Int) > 0) then some true else bif decide ((mLen e:Int) > 0) then some true else (sM N b).bind λj=>some (decide (j > 0))) λk=>bif k then some (false,g,(some b),(some a)) else Option.bind g λf=>(m0 N f).bind λl=>oV N N m h c d e a b f l 0)
def pQ (N:Nat) (t:Int) (u:Int) (v:Int) (A:j5) (w:(List Bool)) (q:(List Int)) (r:(Mp Int i8)) (s:(List i8)) (x:(List Int)) (y:Int) (z:Bool) (c:(Option jC)) (d:(Option j9)) (h:Int) (i:(List (Option j3))) (j:(List Int)) (f:(Mp Int jA)) (k:Int) (l:Bool) (m:Bool) (g:Bool) (e:(Option j4)) (n:(Option j8)) (o:(List i9)):Option qah:=
 (Option.bind (bif (u==3) then bif (!g) then bif (!m) then (sZ N t e c d q r s f).bind λb=>some (b.2.1,b.2.2.1,b.2.2.2,b.1) else some (e,c,d,false) else some (e,c,d,false) else some (e,c,d,false)) λa=>bif a.2.2.2 then (lW N o 0 (jF.mk 25 (u64.wrap v) 0 0 empty empty ([]:List jB) ([]:List Int) (jU.mk 0 0 0 0 0 empty))).bind λp=>some (g,a.1,a.2.1,a.2.2.1,h,i,j,f,k,n,l,true,p) else some (g,a.1,a.2.1,a.2.2.1,h,i,j,f,k,n,l,m,o))
def pR (N:Nat) (B:Int) (C:Int) (v:Int) (D:j5) (b:(List Bool)) (c:Bool) (e:(List Int)) (f:(Mp Int i8)) (g:(List i8)) (h:(List Int)) (i:Int) (j:Bool) (k:(Option j4)) (l:(Option jC)) (m:(Option j9)) (n:Int) (o:(List (Option j3))) (p:(List Int)) (q:(Mp Int jA)) (r:Int) (E:(Option j8)) (s:Bool) (t:Bool) (u:(List i9)):Option qah:=
 (Option.bind (pA E (Option.bind (bif c then (mO N b false).bind λw=>some (!w) else some false) λx=>some (none,x)) λy=>Option.bind (bif c then some () else some ()) λF=>some ((some y),false)) λa=>bif a.2 then Option.bind k λd=>(nX N d).bind λz=>(lW N u 0 (jF.mk 23 (u64.wrap v) 0 z empty empty ([]:List jB) ([]:List Int) (jU.mk 0 0 0 0 0 empty))).bind λA=>pQ N B C v D b e f g h i j l m n o p q r s t false (some d) a.1 A else pQ N B C v D b e f g h i j l m n o p q r s t c k a.1 u)
def pL (N:Nat) (e:Int) (k:Int) (A:Int) (B:j5) (l:(List Bool)) (f:Bool) (m:(Option j4)) (n:(Option jC)) (o:(Option j9)) (p:Int) (q:(List (Option j3))) (r:(List Int)) (s:(List Int)) (g:(Mp Int i8)) (t:(List i8)) (u:(Mp Int jA)) (v:Int) (w:(Option j8)) (h:(List Int)) (i:Int) (j:Bool) (x:Bool) (y:Bool) (z:(List i9)):Option qah:=
 (bif (k != 0) then (sY N m n r z).bind λc=>(uD N e B p q u v w c.2.2.2).bind λa=>(s9 N e o g a.2.2.1 a.2.2.2.2.1 a.2.2.2.2.2).bind λd=>(rS N e k A f c.1 a.2.1 c.2.2.1 a.2.2.1 h i j x y d.2.2).bind λb=>pR N e k A B l f s g t h i j b.1 c.2.1 d.1 a.1 b.2.1 b.2.2.1 a.2.2.1 a.2.2.2.1 d.2.1 b.2.2.2.1 b.2.2.2.2.1 b.2.2.2.2.2 else pR N e k A B l f s g t h i j m n o p q r u v w x y z)
def o9 (N:Nat) (I:Int) (J:Int) (i:Int) (j:Int) (G:Int) (H:Int) (k:(List ByteArray)) (l:(List Int)) (m:(List Int)) (b:(List Bool)) (n:(List Int)) (o:Bool) (p:(Option j4)) (q:(Option jC)) (r:(Option j9)) (s:Int) (t:(List (Option j3))) (u:(List Int)) (c:(List Int)) (v:(Mp Int Int)) (d:(Mp Int i8)) (e:(List i8)) (w:(Mp Int jA)) (x:Int) (y:(Option j8)) (z:Int) (A:Int) (B:(List Int)) (f:(List Int)) (g:Int) (h:Bool) (C:Bool) (D:Bool) (E:(List i9)) (F:(List jL)):Option qae:=
 ((pL N I i j (j5.mk k l) b o p q r s t u c d e w x y f g h C D E).bind λa=>some (i,j,G,H,(j5.mk k l),m,b,n,a.1,a.2.1,a.2.2.1,a.2.2.2.1,a.2.2.2.2.1,a.2.2.2.2.2.1,a.2.2.2.2.2.2.1,c,v,d,e,a.2.2.2.2.2.2.2.1,a.2.2.2.2.2.2.2.2.1,a.2.2.2.2.2.2.2.2.2.1,z,A,B,f,g,h,a.2.2.2.2.2.2.2.2.2.2.1,a.2.2.2.2.2.2.2.2.2.2.2.1,a.2.2.2.2.2.2.2.2.2.2.2.2,F))
def pM (N:Nat) (f:Int) (G:Int) (I:Int) (J:Int) (K:Int) (L:Int) (H:j5) (g:(List Int)) (h:(List Bool)) (i:(List Int)) (j:Bool) (k:(Option j4)) (l:(Option jC)) (m:(Option j9)) (n:Int) (o:(List (Option j3))) (p:(List Int)) (q:(List Int)) (r:(Mp Int Int)) (s:(Mp Int i8)) (t:(List i8)) (u:(Mp Int jA)) (v:Int) (w:(Option j8)) (e:Int) (x:Int) (y:(List Int)) (z:(List Int)) (A:Int) (B:Bool) (C:Bool) (D:Bool) (E:(List i9)) (F:(List jL)) (d:Int) (O:jF):Option qae:=
 (Option.bind (bif decide (d<0) then some true else some (decide (d > 20))) λR=>bif R then some (I,J,K,L,H,g,h,i,j,k,l,m,n,o,p,q,r,s,t,u,v,w,e,x,y,z,A,B,C,D,E,F) else bif (d==0) then (rC N f G I J K L H g h i j k l m n o p q r s t u w e x y z A B C D E O).bind λa=>o9 N f G a.1 a.2.1 a.2.2.1 a.2.2.2.1 a.2.2.2.2.1.Cuts a.2.2.2.2.1.Nodes a.2.2.2.2.2.1 a.2.2.2.2.2.2.1 a.2.2.2.2.2.2.2.1 a.2.2.2.2.2.2.2.2.1 a.2.2.2.2.2.2.2.2.2.1 a.2.2.2.2.2.2.2.2.2.2.1 a.2.2.2.2.2.2.2.2.2.2.2.1 a.2.2.2.2.2.2.2.2.2.2.2.2.1 a.2.2.2.2.2.2.2.2.2.2.2.2.2.1 a.2.2.2.2.2.2.2.2.2.2.2.2.2.2.1 a.2.2.2.2.2.2.2.2.2.2.2.2.2.2.2.1 a.2.2.2.2.2.2.2.2.2.2.2.2.2.2.2.2.1 a.2.2.2.2.2.2.2.2.2.2.2.2.2.2.2.2.2.1 a.2.2.2.2.2.2.2.2.2.2.2.2.2.2.2.2.2.2.1 a.2.2.2.2.2.2.2.2.2.2.2.2.2.2.2.2.2.2.2.1 v a.2.2.2.2.2.2.2.2.2.2.2.2.2.2.2.2.2.2.2.2.1 a.2.2.2.2.2.2.2.2.2.2.2.2.2.2.2.2.2.2.2.2.2.1 a.2.2.2.2.2.2.2.2.2.2.2.2.2.2.2.2.2.2.2.2.2.2.1 a.2.2.2.2.2.2.2.2.2.2.2.2.2.2.2.2.2.2.2.2.2.2.2.1 a.2.2.2.2.2.2.2.2.2.2.2.2.2.2.2.2.2.2.2.2.2.2.2.2.1 a.2.2.2.2.2.2.2.2.2.2.2.2.2.2.2.2.2.2.2.2.2.2.2.2.2.1 a.2.2.2.2.2.2.2.2.2.2.2.2.2.2.2.2.2.2.2.2.2.2.2.2.2.2.1 a.2.2.2.2.2.2.2.2.2.2.2.2.2.2.2.2.2.2.2.2.2.2.2.2.2.2.2.1 a.2.2.2.2.2.2.2.2.2.2.2.2.2.2.2.2.2.2.2.2.2.2.2.2.2.2.2.2.1 a.2.2.2.2.2.2.2.2.2.2.2.2.2.2.2.2.2.2.2.2.2.2.2.2.2.2.2.2.2 F else Option.bind (bif decide (i64.wrap ((tmod (i64.wrap (d-1)) 5)-1)<0) then some (i64.wrap (tdiv (i64.wrap (d-1)) 5) != f) else some false) λP=>bif P then (rD N f I k l o p u v z E (i64.wrap (tdiv (i64.wrap (d-1)) 5)) O).bind λc=>o9 N f G I J K L H.Cuts H.Nodes g h i j c.1 c.2.1 m n c.2.2.1 c.2.2.2.1 q r s t c.2.2.2.2.1 c.2.2.2.2.2.1 w e x y c.2.2.2.2.2.2.1 A B C D c.2.2.2.2.2.2.2 F else Option.bind (bif (i64.wrap (tdiv (i64.wrap (d-1)) 5)==f) then bif decide (i64.wrap ((tmod (i64.wrap (d-1)) 5)-1) ≥ 0) then some (decide (i64.wrap ((tmod (i64.wrap (d-1)) 5)-1)<G)) else some false else some false) λQ=>bif Q then (qT N f G J K L H h k l m n o r s t u v w e x y E F (i64.wrap ((tmod (i64.wrap (d-1)) 5)-1)) O).bind λb=>o9 N f G I J K b.1 b.2.1.Cuts b.2.1.Nodes g b.2.2.1 i j b.2.2.2.1 b.2.2.2.2.1 b.2.2.2.2.2.1 b.2.2.2.2.2.2.1 b.2.2.2.2.2.2.2.1 p q b.2.2.2.2.2.2.2.2.1 b.2.2.2.2.2.2.2.2.2.1 b.2.2.2.2.2.2.2.2.2.2.1 b.2.2.2.2.2.2.2.2.2.2.2.1 b.2.2.2.2.2.2.2.2.2.2.2.2.1 b.2.2.2.2.2.2.2.2.2.2.2.2.2.1 e b.2.2.2.2.2.2.2.2.2.2.2.2.2.2.1 b.2.2.2.2.2.2.2.2.2.2.2.2.2.2.2.1 z A B C D b.2.2.2.2.2.2.2.2.2.2.2.2.2.2.2.2.1 b.2.2.2.2.2.2.2.2.2.2.2.2.2.2.2.2.2 else o9 N f G I J K L H.Cuts H.Nodes g h i j k l m n o p q r s t u v w e x y z A B C D E F)
def t8 (N:Nat) (Q:Int) (a2:Int) (H:Int) (I:Int) (O:Int) (P:Int) (J:j5) (p:(List Int)) (i:(List Bool)) (q:(List Int)) (r:Bool) (s:(Option j4)) (t:(Option jC)) (u:(Option j9)) (j:Int) (e:(List (Option j3))) (v:(List Int)) (f:(List Int)) (w:(Mp Int Int)) (k:(Mp Int i8)) (l:(List i8)) (x:(Mp Int jA)) (y:Int) (z:(Option j8)) (A:Int) (B:Int) (C:(List Int)) (m:(List Int)) (n:Int) (o:Bool) (D:Bool) (E:Bool) (F:(List i9)) (G:(List jL)) (c:Int) (d:jF):Option qae:=
 (Option.bind (bif (d.Kind != 26) then some true else bif decide (c<1) then some true else bif decide (c > 20) then some true else some (H==0)) λal=>bif al then some (H,I,O,P,J,p,i,q,r,s,t,u,j,e,v,f,w,k,l,x,y,z,A,B,C,m,n,o,D,E,F,G) else bif (i64.wrap (tdiv (i64.wrap (c-1)) 5)==Q) then (pM N Q a2 H I O P J p i q r s t u j e v f w k l x y z A B C m n o D E F G c d).bind λa=>some (a.1,a.2.1,a.2.2.1,a.2.2.2.1,a.2.2.2.2.1,a.2.2.2.2.2.1,a.2.2.2.2.2.2.1,a.2.2.2.2.2.2.2.1,a.2.2.2.2.2.2.2.2.1,a.2.2.2.2.2.2.2.2.2.1,a.2.2.2.2.2.2.2.2.2.2.1,a.2.2.2.2.2.2.2.2.2.2.2.1,a.2.2.2.2.2.2.2.2.2.2.2.2.1,a.2.2.2.2.2.2.2.2.2.2.2.2.2.1,a.2.2.2.2.2.2.2.2.2.2.2.2.2.2.1,a.2.2.2.2.2.2.2.2.2.2.2.2.2.2.2.1,a.2.2.2.2.2.2.2.2.2.2.2.2.2.2.2.2.1,a.2.2.2.2.2.2.2.2.2.2.2.2.2.2.2.2.2.1,a.2.2.2.2.2.2.2.2.2.2.2.2.2.2.2.2.2.2.1,a.2.2.2.2.2.2.2.2.2.2.2.2.2.2.2.2.2.2.2.1,a.2.2.2.2.2.2.2.2.2.2.2.2.2.2.2.2.2.2.2.2.1,a.2.2.2.2.2.2.2.2.2.2.2.2.2.2.2.2.2.2.2.2.2.1,a.2.2.2.2.2.2.2.2.2.2.2.2.2.2.2.2.2.2.2.2.2.2.1,a.2.2.2.2.2.2.2.2.2.2.2.2.2.2.2.2.2.2.2.2.2.2.2.1,a.2.2.2.2.2.2.2.2.2.2.2.2.2.2.2.2.2.2.2.2.2.2.2.2.1,a.2.2.2.2.2.2.2.2.2.2.2.2.2.2.2.2.2.2.2.2.2.2.2.2.2.1,a.2.2.2.2.2.2.2.2.2.2.2.2.2.2.2.2.2.2.2.2.2.2.2.2.2.2.1,a.2.2.2.2.2.2.2.2.2.2.2.2.2.2.2.2.2.2.2.2.2.2.2.2.2.2.2.1,a.2.2.2.2.2.2.2.2.2.2.2.2.2.2.2.2.2.2.2.2.2.2.2.2.2.2.2.2.1,a.2.2.2.2.2.2.2.2.2.2.2.2.2.2.2.2.2.2.2.2.2.2.2.2.2.2.2.2.2.1,a.2.2.2.2.2.2.2.2.2.2.2.2.2.2.2.2.2.2.2.2.2.2.2.2.2.2.2.2.2.2.1,a.2.2.2.2.2.2.2.2.2.2.2.2.2.2.2.2.2.2.2.2.2.2.2.2.2.2.2.2.2.2.2) else Option.bind ((idx e (i64.wrap (tdiv (i64.wrap (c-1)) 5))).bind λR=>pA R (Option.bind (bif decide (i64.wrap ((tmod (i64.wrap (c-1)) 5)-1) ≥ 0) then some () else bif ((d.Vec.length:Int) != 6) then some () else some ()) λan=>some true) λao=>Option.bind (bif decide (i64.wrap ((tmod (i64.wrap (c-1)) 5)-1) ≥ 0) then some true else bif ((d.Vec.length:Int) != 6) then some true else (idx d.Vec 0).bind λS=>bif decide (S > 1073741824) then some true else (idx d.Vec 2).bind λT=>bif decide (T > 1073741824) then some true else (idx d.Vec 5).bind λU=>some (decide (U > 1073741824))) λV=>some V) λW=>bif W then some (H,I,O,P,J,p,i,q,r,s,t,u,j,e,v,f,w,k,l,x,y,z,A,B,C,m,n,o,D,E,F,G) else (idx e (i64.wrap (tdiv (i64.wrap (c-1)) 5))).bind λX=>pA X none λY=>(idx d.Vec 1).bind λZ=>(idx d.Vec 2).bind λaa=>(s8 N Y Z (i64.wrap aa)).bind λK=>(idx (set e (toNat (i64.wrap (tdiv (i64.wrap (c-1)) 5))) (some K)) (i64.wrap (tdiv (i64.wrap (c-1)) 5))).bind λab=>pA ab none λad=>Option.bind s λae=>(tO N ad).bind λaf=>(rM N ae (i64.wrap (tdiv (i64.wrap (c-1)) 5)) af).bind λah=>(idx d.Vec 0).bind λai=>(idx d.Vec 3).bind λaj=>(s5 N ah (i64.wrap (tdiv (i64.wrap (c-1)) 5)) (i64.wrap ai) aj).bind λak=>(idx d.Vec 4).bind λL=>(idx f (i64.wrap (tdiv (i64.wrap (c-1)) 5))).bind λg=>(idx d.Vec 5).bind λh=>(idx f (i64.wrap (tdiv (i64.wrap (c-1)) 5))).bind λaq=>(pL N Q H I J i r (some ak) t u (if L > j then L else j) (set e (toNat (i64.wrap (tdiv (i64.wrap (c-1)) 5))) (some K)) v (set f (toNat (i64.wrap (tdiv (i64.wrap (c-1)) 5))) (if i64.wrap h > g then i64.wrap h else g)) k l x y z m n o D E F).bind λb=>some (H,I,O,P,J,p,i,q,b.1,b.2.1,b.2.2.1,b.2.2.2.1,b.2.2.2.2.1,b.2.2.2.2.2.1,b.2.2.2.2.2.2.1,(set f (toNat (i64.wrap (tdiv (i64.wrap (c-1)) 5))) (if i64.wrap h > g then i64.wrap h else g)),w,k,l,b.2.2.2.2.2.2.2.1,b.2.2.2.2.2.2.2.2.1,b.2.2.2.2.2.2.2.2.2.1,A,B,C,m,n,o,b.2.2.2.2.2.2.2.2.2.2.1,b.2.2.2.2.2.2.2.2.2.2.2.1,b.2.2.2.2.2.2.2.2.2.2.2.2,G))
def uE (N:Nat) (n:Int) (o:Int) (p:Int) (j:Int) (q:j5) (b:(Option j9)) (c:Int) (d:(Mp Int Int)) (e:(Mp Int i8)) (f:(List i8)) (g:Int) (h:(Option j8)) (i:(List i9)) (k:Int) (l:ByteArray) (m:Int):Option (Int×Int×(Option j9)×Int×(Mp Int Int)×(Mp Int i8)×(List i8)×Int×(Option j8)×(List i9)):=
 (bif (o != 2) then some (18,j,b,c,d,e,f,g,h,i) else (qH N n p j q b c d e f g h i (i8.mk k true l m ([]:List jB))).bind λa=>some (0,a.1,a.2.1,a.2.2.1,a.2.2.2.1,a.2.2.2.2.1,a.2.2.2.2.2.1,a.2.2.2.2.2.2.1,a.2.2.2.2.2.2.2.1,a.2.2.2.2.2.2.2.2))
def rU (N:Nat) (x:Int) (y:Int) (I:Int) (J:Int) (w:Int) (z:j5) (A:(List Bool)) (c:Bool) (d:(Option j4)) (e:(Option jC)) (f:(Option j9)) (g:Int) (h:(List (Option j3))) (i:(List Int)) (B:(List Int)) (j:(Mp Int Int)) (k:(Mp Int i8)) (l:(List i8)) (m:(Mp Int jA)) (n:Int) (o:(Option j8)) (C:(List Int)) (D:Int) (E:Bool) (p:Bool) (q:Bool) (r:(List i9)) (F:Int) (t:Int) (s:(List jB)):Option (Int×Int×Bool×(Option j4)×(Option jC)×(Option j9)×Int×(List (Option j3))×(List Int)×(Mp Int Int)×(Mp Int i8)×(List i8)×(Mp Int jA)×Int×(Option j8)×Bool×Bool×(List i9)):=
 (bif (y != 2) then some (18,w,c,d,e,f,g,h,i,j,k,l,m,n,o,p,q,r) else Option.bind (bif (((s).length:Int)==0) then some true else some (decide (((s).length:Int) > 8))) λG=>bif G then some (1,w,c,d,e,f,g,h,i,j,k,l,m,n,o,p,q,r) else Option.bind d λu=>(nX N u).bind λv=>(apd ([]:List jB) s).bind λH=>(qH N x J w z f g j k l n o r (i8.mk F false empty (if v > t then v else t) H)).bind λb=>(pL N x y I z A c (some u) e b.2.1 b.2.2.1 h i B b.2.2.2.2.1 b.2.2.2.2.2.1 m b.2.2.2.2.2.2.1 b.2.2.2.2.2.2.2.1 C D E p q b.2.2.2.2.2.2.2.2).bind λa=>some (0,b.1,a.1,a.2.1,a.2.2.1,a.2.2.2.1,a.2.2.2.2.1,a.2.2.2.2.2.1,a.2.2.2.2.2.2.1,b.2.2.2.1,b.2.2.2.2.1,b.2.2.2.2.2.1,a.2.2.2.2.2.2.2.1,a.2.2.2.2.2.2.2.2.1,a.2.2.2.2.2.2.2.2.2.1,a.2.2.2.2.2.2.2.2.2.2.1,a.2.2.2.2.2.2.2.2.2.2.2.1,a.2.2.2.2.2.2.2.2.2.2.2.2))
def oW (N:Nat):Nat→Int→Int→Int→(Option j4)→(List i9)→Int→Option (Int×(Option j4)×(List i9))
 | 0,_,_,_,_,_,_=>none
 | b+1,f,g,j,c,d,a=>bif decide (a<g) then Option.bind c λe=>(nX N e).bind λh=>(lB N f d a (jF.mk 9 0 0 h empty empty ([]:List jB) ([]:List Int) (jU.mk 0 0 0 0 0 empty))).bind λi=>(oW N b) f g j (some e) i (i64.wrap (a+1)) else some (0,c,d)
def t7 (N:Nat) (d:Int) (e:Int) (a:Int) (b:(Option j4)) (c:(List i9)):Option (Int×(Option j4)×(List i9)):=
 (bif (a != 2) then some (18,b,c) else oW N N d e a b c 0)
def q9 (N:Nat) (a:Int) (b:jF):Option Unit:=
 (some ())
def tH (N:Nat) (a:Int) (b:jF):Option Unit:=
 (some ())
def tG (N:Nat) (a:Int) (b:ByteArray) (c:Int):Option (Int):=
 (some 18)
def sI (N:Nat) (a:Int) (b:Int) (c:(List jB)):Option (Int):=
 (some 18)
def tF (N:Nat):Option (Int):=
 (some 18)
def qE (N:Nat):Option ((List jL)):=
 (some ([]:List jL))
def rE (N:Nat):Option ((List Int)):=
 (some ([]:List Int))
def yN (N:Nat) (a:jF):Option (jF):=
 ((slc a.Vers 0 (if 12<(a.Vers.length:Int) then 12 else (a.Vers.length:Int))).bind λb=>(slc a.Vec 0 (if 40<(a.Vec.length:Int) then 40 else (a.Vec.length:Int))).bind λc=>some (jF.mk a.Kind a.Id a.N a.TS a.Lo a.Hi b c a.Cmd))
def wQ (N:Nat) (a:kG):Option (kG):=
 ((yN N a.Msg).bind λb=>(slc a.Writes 0 (if 12<(a.Writes.length:Int) then 12 else (a.Writes.length:Int))).bind λc=>some (kG.mk a.Kind a.From a.Call b a.Key a.T c))
def qS (N:Nat):Nat→(List Int)→(List Int)→Int→Option ((List Int))
 | 0,_,_,_=>none
 | c+1,d,b,a=>bif decide (a<((d).length:Int)) then (idx b a).bind λe=>(qS N c) d (set b (toNat a) 2) (i64.wrap (a+1)) else some b
def tY (N:Nat):Option ((List Int)):=
 (Option.bind (mkl 21 0) λa=>qS N N a a 0)
def rX (N:Nat) (H:Int) (I:Int) (z:Int) (A:Int) (B:Int) (C:Int) (D:(List ByteArray)) (E:(List Int)) (F:(List Int)) (G:(List Bool)) (a:(List Int)) (b:Bool) (c:(Option j4)) (d:(Option jC)) (e:(Option j9)) (f:Int) (g:(List (Option j3))) (h:(List Int)) (i:(List Int)) (j:(Mp Int Int)) (k:(Mp Int i8)) (l:(List i8)) (m:(Mp Int jA)) (n:Int) (o:(Option j8)) (p:Int) (q:Int) (r:(List Int)) (s:(List Int)) (t:Int) (u:Bool) (v:Bool) (w:Bool) (x:(List i9)) (y:(List jL)):Option qag:=
 (some (0,z,A,B,C,(j5.mk D E),F,G,a,b,c,d,e,f,g,h,i,j,k,l,m,n,o,p,q,r,s,t,u,v,w,x,y))
def wR (N:Nat) (I:Int) (O:Int) (G:Int) (K:Int) (J:Int) (P:Int) (H:j5) (k:(List Int)) (f:(List Bool)) (l:(List Int)) (m:Bool) (n:(Option j4)) (o:(Option jC)) (p:(Option j9)) (q:Int) (r:(List (Option j3))) (s:(List Int)) (g:(List Int)) (t:(Mp Int Int)) (u:(Mp Int i8)) (v:(List i8)) (w:(Mp Int jA)) (x:Int) (y:(Option j8)) (z:Int) (A:Int) (B:(List Int)) (h:(List Int)) (i:Int) (j:Bool) (C:Bool) (D:Bool) (E:(List i9)) (F:(List jL)) (d:kG):Option qag:=
 (bif (d.Kind==0) then (pM N I O G K J P H k f l m n o p q r s g t u v w x y z A B h i j C D E F d.From d.Msg).bind λa=>rX N I O a.1 a.2.1 a.2.2.1 a.2.2.2.1 a.2.2.2.2.1.Cuts a.2.2.2.2.1.Nodes a.2.2.2.2.2.1 a.2.2.2.2.2.2.1 a.2.2.2.2.2.2.2.1 a.2.2.2.2.2.2.2.2.1 a.2.2.2.2.2.2.2.2.2.1 a.2.2.2.2.2.2.2.2.2.2.1 a.2.2.2.2.2.2.2.2.2.2.2.1 a.2.2.2.2.2.2.2.2.2.2.2.2.1 a.2.2.2.2.2.2.2.2.2.2.2.2.2.1 a.2.2.2.2.2.2.2.2.2.2.2.2.2.2.1 a.2.2.2.2.2.2.2.2.2.2.2.2.2.2.2.1 a.2.2.2.2.2.2.2.2.2.2.2.2.2.2.2.2.1 a.2.2.2.2.2.2.2.2.2.2.2.2.2.2.2.2.2.1 a.2.2.2.2.2.2.2.2.2.2.2.2.2.2.2.2.2.2.1 a.2.2.2.2.2.2.2.2.2.2.2.2.2.2.2.2.2.2.2.1 a.2.2.2.2.2.2.2.2.2.2.2.2.2.2.2.2.2.2.2.2.1 a.2.2.2.2.2.2.2.2.2.2.2.2.2.2.2.2.2.2.2.2.2.1 a.2.2.2.2.2.2.2.2.2.2.2.2.2.2.2.2.2.2.2.2.2.2.1 a.2.2.2.2.2.2.2.2.2.2.2.2.2.2.2.2.2.2.2.2.2.2.2.1 a.2.2.2.2.2.2.2.2.2.2.2.2.2.2.2.2.2.2.2.2.2.2.2.2.1 a.2.2.2.2.2.2.2.2.2.2.2.2.2.2.2.2.2.2.2.2.2.2.2.2.2.1 a.2.2.2.2.2.2.2.2.2.2.2.2.2.2.2.2.2.2.2.2.2.2.2.2.2.2.1 a.2.2.2.2.2.2.2.2.2.2.2.2.2.2.2.2.2.2.2.2.2.2.2.2.2.2.2.1 a.2.2.2.2.2.2.2.2.2.2.2.2.2.2.2.2.2.2.2.2.2.2.2.2.2.2.2.2.1 a.2.2.2.2.2.2.2.2.2.2.2.2.2.2.2.2.2.2.2.2.2.2.2.2.2.2.2.2.2.1 a.2.2.2.2.2.2.2.2.2.2.2.2.2.2.2.2.2.2.2.2.2.2.2.2.2.2.2.2.2.2.1 a.2.2.2.2.2.2.2.2.2.2.2.2.2.2.2.2.2.2.2.2.2.2.2.2.2.2.2.2.2.2.2 else bif (d.Kind==1) then (t8 N I O G K J P H k f l m n o p q r s g t u v w x y z A B h i j C D E F d.From d.Msg).bind λb=>rX N I O b.1 b.2.1 b.2.2.1 b.2.2.2.1 b.2.2.2.2.1.Cuts b.2.2.2.2.1.Nodes b.2.2.2.2.2.1 b.2.2.2.2.2.2.1 b.2.2.2.2.2.2.2.1 b.2.2.2.2.2.2.2.2.1 b.2.2.2.2.2.2.2.2.2.1 b.2.2.2.2.2.2.2.2.2.2.1 b.2.2.2.2.2.2.2.2.2.2.2.1 b.2.2.2.2.2.2.2.2.2.2.2.2.1 b.2.2.2.2.2.2.2.2.2.2.2.2.2.1 b.2.2.2.2.2.2.2.2.2.2.2.2.2.2.1 b.2.2.2.2.2.2.2.2.2.2.2.2.2.2.2.1 b.2.2.2.2.2.2.2.2.2.2.2.2.2.2.2.2.1 b.2.2.2.2.2.2.2.2.2.2.2.2.2.2.2.2.2.1 b.2.2.2.2.2.2.2.2.2.2.2.2.2.2.2.2.2.2.1 b.2.2.2.2.2.2.2.2.2.2.2.2.2.2.2.2.2.2.2.1 b.2.2.2.2.2.2.2.2.2.2.2.2.2.2.2.2.2.2.2.2.1 b.2.2.2.2.2.2.2.2.2.2.2.2.2.2.2.2.2.2.2.2.2.1 b.2.2.2.2.2.2.2.2.2.2.2.2.2.2.2.2.2.2.2.2.2.2.1 b.2.2.2.2.2.2.2.2.2.2.2.2.2.2.2.2.2.2.2.2.2.2.2.1 b.2.2.2.2.2.2.2.2.2.2.2.2.2.2.2.2.2.2.2.2.2.2.2.2.1 b.2.2.2.2.2.2.2.2.2.2.2.2.2.2.2.2.2.2.2.2.2.2.2.2.2.1 b.2.2.2.2.2.2.2.2.2.2.2.2.2.2.2.2.2.2.2.2.2.2.2.2.2.2.1 b.2.2.2.2.2.2.2.2.2.2.2.2.2.2.2.2.2.2.2.2.2.2.2.2.2.2.2.1 b.2.2.2.2.2.2.2.2.2.2.2.2.2.2.2.2.2.2.2.2.2.2.2.2.2.2.2.2.1 b.2.2.2.2.2.2.2.2.2.2.2.2.2.2.2.2.2.2.2.2.2.2.2.2.2.2.2.2.2.1 b.2.2.2.2.2.2.2.2.2.2.2.2.2.2.2.2.2.2.2.2.2.2.2.2.2.2.2.2.2.2.1 b.2.2.2.2.2.2.2.2.2.2.2.2.2.2.2.2.2.2.2.2.2.2.2.2.2.2.2.2.2.2.2 else bif (d.Kind==2) then (uE N I G J P H p q t u v x y E d.Call d.Key d.T).bind λe=>some (e.1,G,K,J,e.2.1,H,k,f,l,m,n,o,e.2.2.1,e.2.2.2.1,r,s,g,e.2.2.2.2.1,e.2.2.2.2.2.1,e.2.2.2.2.2.2.1,w,e.2.2.2.2.2.2.2.1,e.2.2.2.2.2.2.2.2.1,z,A,B,h,i,j,C,D,e.2.2.2.2.2.2.2.2.2,F) else bif (d.Kind==3) then (rU N I G K J P H f m n o p q r s g t u v w x y h i j C D E d.Call d.T d.Writes).bind λc=>some (c.1,G,K,J,c.2.1,H,k,f,l,c.2.2.1,c.2.2.2.1,c.2.2.2.2.1,c.2.2.2.2.2.1,c.2.2.2.2.2.2.1,c.2.2.2.2.2.2.2.1,c.2.2.2.2.2.2.2.2.1,g,c.2.2.2.2.2.2.2.2.2.1,c.2.2.2.2.2.2.2.2.2.2.1,c.2.2.2.2.2.2.2.2.2.2.2.1,c.2.2.2.2.2.2.2.2.2.2.2.2.1,c.2.2.2.2.2.2.2.2.2.2.2.2.2.1,c.2.2.2.2.2.2.2.2.2.2.2.2.2.2.1,z,A,B,h,i,j,c.2.2.2.2.2.2.2.2.2.2.2.2.2.2.2.1,c.2.2.2.2.2.2.2.2.2.2.2.2.2.2.2.2.1,c.2.2.2.2.2.2.2.2.2.2.2.2.2.2.2.2.2,F) else bif (d.Kind==4) then (t7 N I O G n E).bind λL=>some (L.1,G,K,J,P,H,k,f,l,m,L.2.1,o,p,q,r,s,g,t,u,v,w,x,y,z,A,B,h,i,j,C,D,L.2.2,F) else rX N I O G K J P H.Cuts H.Nodes k f l m n o p q r s g t u v w x y z A B h i j C D E F)
def v6 (N:Nat):Option (Bool):=
 ((tY N).bind λv=>(wT N 0 1 [true,false,false,false] v).bind λj=>Option.bind (pA j.1 (Option.bind (bif (j.2 != 0) then some () else some ()) λy=>some (none,true)) λb=>Option.bind (bif (j.2 != 0) then some (b,true) else (rU N b.dc b.role b.epoch b.base b.txs b.m b.agreed b.owing b.st b.log b.co b.hi b.boxes b.cursor b.heard b.calls b.reads b.held b.loads b.last b.mv b.end_ b.floor b.floored b.seeded b.said b.out 3 5 [(jB.mk (ByteArray.mk #[97]) empty false 0 0 0)]).bind λf=>some ((jV.mk b.dc b.nodes b.role b.epoch b.base f.2.1 b.m b.modes b.agreed b.old f.2.2.1 f.2.2.2.1 f.2.2.2.2.1 f.2.2.2.2.2.1 f.2.2.2.2.2.2.1 f.2.2.2.2.2.2.2.1 f.2.2.2.2.2.2.2.2.1 b.heard f.2.2.2.2.2.2.2.2.2.1 f.2.2.2.2.2.2.2.2.2.2.1 f.2.2.2.2.2.2.2.2.2.2.2.1 f.2.2.2.2.2.2.2.2.2.2.2.2.1 f.2.2.2.2.2.2.2.2.2.2.2.2.2.1 f.2.2.2.2.2.2.2.2.2.2.2.2.2.2.1 b.seedTo b.seeds b.cut b.end_ b.floor b.floored f.2.2.2.2.2.2.2.2.2.2.2.2.2.2.2.1 f.2.2.2.2.2.2.2.2.2.2.2.2.2.2.2.2.1 f.2.2.2.2.2.2.2.2.2.2.2.2.2.2.2.2.2 b.replies),(f.1 != 0))) λh=>some ((some h.1),h.2)) λi=>bif i.2 then some false else Option.bind (pA i.1 ((q9 N 2 (jF.mk 11 1 0 9 empty empty ([]:List jB) ([]:List Int) (jU.mk 0 0 0 0 0 empty))).bind λw=>some none) λe=>(pM N e.dc e.nodes e.role e.epoch e.base e.txs e.m e.modes e.agreed e.old e.owing e.st e.log e.co e.hi e.boxes e.cursor e.heard e.calls e.reads e.held e.loads e.last e.mv e.seedTo e.seeds e.cut e.end_ e.floor e.floored e.seeded e.said e.out e.replies 2 (jF.mk 11 1 0 9 empty empty ([]:List jB) ([]:List Int) (jU.mk 0 0 0 0 0 empty))).bind λc=>some (some (jV.mk e.dc e.nodes c.1 c.2.1 c.2.2.1 c.2.2.2.1 c.2.2.2.2.1 c.2.2.2.2.2.1 c.2.2.2.2.2.2.1 c.2.2.2.2.2.2.2.1 c.2.2.2.2.2.2.2.2.1 c.2.2.2.2.2.2.2.2.2.1 c.2.2.2.2.2.2.2.2.2.2.1 c.2.2.2.2.2.2.2.2.2.2.2.1 c.2.2.2.2.2.2.2.2.2.2.2.2.1 c.2.2.2.2.2.2.2.2.2.2.2.2.2.1 c.2.2.2.2.2.2.2.2.2.2.2.2.2.2.1 c.2.2.2.2.2.2.2.2.2.2.2.2.2.2.2.1 c.2.2.2.2.2.2.2.2.2.2.2.2.2.2.2.2.1 c.2.2.2.2.2.2.2.2.2.2.2.2.2.2.2.2.2.1 c.2.2.2.2.2.2.2.2.2.2.2.2.2.2.2.2.2.2.1 c.2.2.2.2.2.2.2.2.2.2.2.2.2.2.2.2.2.2.2.1 c.2.2.2.2.2.2.2.2.2.2.2.2.2.2.2.2.2.2.2.2.1 c.2.2.2.2.2.2.2.2.2.2.2.2.2.2.2.2.2.2.2.2.2.1 c.2.2.2.2.2.2.2.2.2.2.2.2.2.2.2.2.2.2.2.2.2.2.1 c.2.2.2.2.2.2.2.2.2.2.2.2.2.2.2.2.2.2.2.2.2.2.2.1 c.2.2.2.2.2.2.2.2.2.2.2.2.2.2.2.2.2.2.2.2.2.2.2.2.1 c.2.2.2.2.2.2.2.2.2.2.2.2.2.2.2.2.2.2.2.2.2.2.2.2.2.1 c.2.2.2.2.2.2.2.2.2.2.2.2.2.2.2.2.2.2.2.2.2.2.2.2.2.2.1 c.2.2.2.2.2.2.2.2.2.2.2.2.2.2.2.2.2.2.2.2.2.2.2.2.2.2.2.1 c.2.2.2.2.2.2.2.2.2.2.2.2.2.2.2.2.2.2.2.2.2.2.2.2.2.2.2.2.1 c.2.2.2.2.2.2.2.2.2.2.2.2.2.2.2.2.2.2.2.2.2.2.2.2.2.2.2.2.2.1 c.2.2.2.2.2.2.2.2.2.2.2.2.2.2.2.2.2.2.2.2.2.2.2.2.2.2.2.2.2.2.1 c.2.2.2.2.2.2.2.2.2.2.2.2.2.2.2.2.2.2.2.2.2.2.2.2.2.2.2.2.2.2.2))) λu=>Option.bind (pA u ((q9 N 2 (jF.mk 12 1 0 0 empty empty ([]:List jB) ([]:List Int) (jU.mk 0 0 0 0 0 empty))).bind λx=>some none) λa=>(pM N a.dc a.nodes a.role a.epoch a.base a.txs a.m a.modes a.agreed a.old a.owing a.st a.log a.co a.hi a.boxes a.cursor a.heard a.calls a.reads a.held a.loads a.last a.mv a.seedTo a.seeds a.cut a.end_ a.floor a.floored a.seeded a.said a.out a.replies 2 (jF.mk 12 1 0 0 empty empty ([]:List jB) ([]:List Int) (jU.mk 0 0 0 0 0 empty))).bind λd=>some (some (jV.mk a.dc a.nodes d.1 d.2.1 d.2.2.1 d.2.2.2.1 d.2.2.2.2.1 d.2.2.2.2.2.1 d.2.2.2.2.2.2.1 d.2.2.2.2.2.2.2.1 d.2.2.2.2.2.2.2.2.1 d.2.2.2.2.2.2.2.2.2.1 d.2.2.2.2.2.2.2.2.2.2.1 d.2.2.2.2.2.2.2.2.2.2.2.1 d.2.2.2.2.2.2.2.2.2.2.2.2.1 d.2.2.2.2.2.2.2.2.2.2.2.2.2.1 d.2.2.2.2.2.2.2.2.2.2.2.2.2.2.1 d.2.2.2.2.2.2.2.2.2.2.2.2.2.2.2.1 d.2.2.2.2.2.2.2.2.2.2.2.2.2.2.2.2.1 d.2.2.2.2.2.2.2.2.2.2.2.2.2.2.2.2.2.1 d.2.2.2.2.2.2.2.2.2.2.2.2.2.2.2.2.2.2.1 d.2.2.2.2.2.2.2.2.2.2.2.2.2.2.2.2.2.2.2.1 d.2.2.2.2.2.2.2.2.2.2.2.2.2.2.2.2.2.2.2.2.1 d.2.2.2.2.2.2.2.2.2.2.2.2.2.2.2.2.2.2.2.2.2.1 d.2.2.2.2.2.2.2.2.2.2.2.2.2.2.2.2.2.2.2.2.2.2.1 d.2.2.2.2.2.2.2.2.2.2.2.2.2.2.2.2.2.2.2.2.2.2.2.1 d.2.2.2.2.2.2.2.2.2.2.2.2.2.2.2.2.2.2.2.2.2.2.2.2.1 d.2.2.2.2.2.2.2.2.2.2.2.2.2.2.2.2.2.2.2.2.2.2.2.2.2.1 d.2.2.2.2.2.2.2.2.2.2.2.2.2.2.2.2.2.2.2.2.2.2.2.2.2.2.1 d.2.2.2.2.2.2.2.2.2.2.2.2.2.2.2.2.2.2.2.2.2.2.2.2.2.2.2.1 d.2.2.2.2.2.2.2.2.2.2.2.2.2.2.2.2.2.2.2.2.2.2.2.2.2.2.2.2.1 d.2.2.2.2.2.2.2.2.2.2.2.2.2.2.2.2.2.2.2.2.2.2.2.2.2.2.2.2.2.1 d.2.2.2.2.2.2.2.2.2.2.2.2.2.2.2.2.2.2.2.2.2.2.2.2.2.2.2.2.2.2.1 d.2.2.2.2.2.2.2.2.2.2.2.2.2.2.2.2.2.2.2.2.2.2.2.2.2.2.2.2.2.2.2))) λk=>Option.bind (pA k ((qE N).bind λl=>some l) λn=>(rF N n.replies).bind λo=>some o.1) λg=>Option.bind (bif (((g).length:Int)==2) then (idx g 0).bind λp=>bif (p.Kind==2) then (idx g 0).bind λq=>bif (q.Mark.TS==9) then (idx g 1).bind λr=>bif (r.Kind==3) then (idx g 1).bind λs=>some (s.Call==3) else some false else some false else some false else some false) λt=>some t)
def rO (N:Nat):Option (Int):=
 (some 0)
def wH (N:Nat) (a:kG):Option (Int):=
 (bif (a.Kind==0) then (q9 N a.From a.Msg).bind λe=>rO N else bif (a.Kind==1) then (tH N a.From a.Msg).bind λf=>rO N else bif (a.Kind==2) then (tG N a.Call a.Key a.T).bind λb=>some b else bif (a.Kind==3) then (sI N a.Call a.T a.Writes).bind λc=>some c else bif (a.Kind==4) then (tF N).bind λd=>some d else rO N)
def nC (N:Nat) (b:(List kG)→Int→qaq→(Mp Int Int)→Int→Option (Bool)) (h:(List kG)) (g:Int) (c:qaq) (d:Int) (e:jL) (a:(Mp Int Int)):Option (Bool):=
 (Option.bind (mgt a e.Call 0) λf=>bif (f.1==0) then some false else b h g c a (i64.wrap (d+1)))
def mF (N:Nat)(d:(List kG)→(Option jV)→(Mp Int Int)→Int→Option (Bool)):Nat→(List kG)→Int→(Mp Int Int)→((Option jV)×(List Int)×Int)→Int→Option (Bool)
 | 0,_,_,_,_,_=>none
 | f+1,k,g,a,b,c=>bif decide (c<b.2.2) then (idx b.2.1 c).bind λe=>Option.bind (Option.bind (mgt a e 0) λh=>bif (h.1==0) then some true else Option.bind (mgt a e 0) λi=>some (i.1==4)) λj=>bif j then some false else (mF N d f) k g a b (i64.wrap (c+1)) else d k b.1 a (i64.wrap (g+1))
def kU (N:Nat)(e:(List kG)→(Option jV)→(Mp Int Int)→Int→Option (Bool)):Nat→(List kG)→Int→qaq→(Mp Int Int)→Int→Option (Bool)
 | 0,_,_,_,_,_=>none
 | f+1,l,i,b,c,d=>bif decide (d<b.2.2) then (idx b.2.1 d).bind λa=>Option.bind (mgt c a.Call 0) λh=>Option.bind (bif (a.Kind==1) then some (h.1==1) else some false) λm=>bif m then Option.bind (uS c a.Call 4) λn=>nC N (kU N e f) l i b d a n else Option.bind (bif (a.Kind==2) then some (h.1==2) else some false) λo=>bif o then Option.bind (uS c a.Call 3) λp=>nC N (kU N e f) l i b d a p else Option.bind (bif (a.Kind==3) then some (h.1==3) else some false) λq=>bif q then Option.bind (uS c a.Call 4) λr=>nC N (kU N e f) l i b d a r else some false else Option.bind (pA b.1 ((rE N).bind λj=>some (none,j,((j).length:Int))) λg=>(qX N g.calls g.reads g.held).bind λk=>some ((some g),k,((k).length:Int))) λs=>mF N e N l i c s 0
def oJ (N:Nat) (d:(List kG)→(Option jV)→(Mp Int Int)→Int→Option (Bool)) (i:(List kG)) (h:Int) (e:(Option jV)) (f:(Mp Int Int)):Option (Bool):=
 (Option.bind (pA e ((qE N).bind λc=>some (none,c,((c).length:Int))) λa=>(rF N a.replies).bind λb=>some ((some (jV.mk a.dc a.nodes a.role a.epoch a.base a.txs a.m a.modes a.agreed a.old a.owing a.st a.log a.co a.hi a.boxes a.cursor a.heard a.calls a.reads a.held a.loads a.last a.mv a.seedTo a.seeds a.cut a.end_ a.floor a.floored a.seeded a.said a.out b.2)),b.1,(b.1.length:Int))) λg=>kU N d N i h g f 0)
def kV (N:Nat):Nat→(List kG)→(Option jV)→(Mp Int Int)→Int→Option (Bool)
 | 0,_,_,_,_=>none
 | f+1,h,o,i,d=>Option.bind (bif decide (d<((h).length:Int)) then some (decide (d<100)) else some false) λp=>bif p then (idx h d).bind λq=>(wQ N q).bind λc=>Option.bind (pA o (Option.bind ((wH N (kG.mk c.Kind c.From d c.Msg c.Key c.T c.Writes)).bind λj=>bif (j==0) then bif (c.Kind==2) then some true else some (c.Kind==3) else some false) λk=>some (none,k)) λb=>Option.bind ((wR N b.dc b.nodes b.role b.epoch b.base b.txs b.m b.modes b.agreed b.old b.owing b.st b.log b.co b.hi b.boxes b.cursor b.heard b.calls b.reads b.held b.loads b.last b.mv b.seedTo b.seeds b.cut b.end_ b.floor b.floored b.seeded b.said b.out b.replies (kG.mk c.Kind c.From d c.Msg c.Key c.T c.Writes)).bind λa=>bif (a.1==0) then bif (c.Kind==2) then some ((jV.mk b.dc b.nodes a.2.1 a.2.2.1 a.2.2.2.1 a.2.2.2.2.1 a.2.2.2.2.2.1 a.2.2.2.2.2.2.1 a.2.2.2.2.2.2.2.1 a.2.2.2.2.2.2.2.2.1 a.2.2.2.2.2.2.2.2.2.1 a.2.2.2.2.2.2.2.2.2.2.1 a.2.2.2.2.2.2.2.2.2.2.2.1 a.2.2.2.2.2.2.2.2.2.2.2.2.1 a.2.2.2.2.2.2.2.2.2.2.2.2.2.1 a.2.2.2.2.2.2.2.2.2.2.2.2.2.2.1 a.2.2.2.2.2.2.2.2.2.2.2.2.2.2.2.1 a.2.2.2.2.2.2.2.2.2.2.2.2.2.2.2.2.1 a.2.2.2.2.2.2.2.2.2.2.2.2.2.2.2.2.2.1 a.2.2.2.2.2.2.2.2.2.2.2.2.2.2.2.2.2.2.1 a.2.2.2.2.2.2.2.2.2.2.2.2.2.2.2.2.2.2.2.1 a.2.2.2.2.2.2.2.2.2.2.2.2.2.2.2.2.2.2.2.2.1 a.2.2.2.2.2.2.2.2.2.2.2.2.2.2.2.2.2.2.2.2.2.1 a.2.2.2.2.2.2.2.2.2.2.2.2.2.2.2.2.2.2.2.2.2.2.1 a.2.2.2.2.2.2.2.2.2.2.2.2.2.2.2.2.2.2.2.2.2.2.2.1 a.2.2.2.2.2.2.2.2.2.2.2.2.2.2.2.2.2.2.2.2.2.2.2.2.1 a.2.2.2.2.2.2.2.2.2.2.2.2.2.2.2.2.2.2.2.2.2.2.2.2.2.1 a.2.2.2.2.2.2.2.2.2.2.2.2.2.2.2.2.2.2.2.2.2.2.2.2.2.2.1 a.2.2.2.2.2.2.2.2.2.2.2.2.2.2.2.2.2.2.2.2.2.2.2.2.2.2.2.1 a.2.2.2.2.2.2.2.2.2.2.2.2.2.2.2.2.2.2.2.2.2.2.2.2.2.2.2.2.1 a.2.2.2.2.2.2.2.2.2.2.2.2.2.2.2.2.2.2.2.2.2.2.2.2.2.2.2.2.2.1 a.2.2.2.2.2.2.2.2.2.2.2.2.2.2.2.2.2.2.2.2.2.2.2.2.2.2.2.2.2.2.1 a.2.2.2.2.2.2.2.2.2.2.2.2.2.2.2.2.2.2.2.2.2.2.2.2.2.2.2.2.2.2.2.1 a.2.2.2.2.2.2.2.2.2.2.2.2.2.2.2.2.2.2.2.2.2.2.2.2.2.2.2.2.2.2.2.2),true) else some ((jV.mk b.dc b.nodes a.2.1 a.2.2.1 a.2.2.2.1 a.2.2.2.2.1 a.2.2.2.2.2.1 a.2.2.2.2.2.2.1 a.2.2.2.2.2.2.2.1 a.2.2.2.2.2.2.2.2.1 a.2.2.2.2.2.2.2.2.2.1 a.2.2.2.2.2.2.2.2.2.2.1 a.2.2.2.2.2.2.2.2.2.2.2.1 a.2.2.2.2.2.2.2.2.2.2.2.2.1 a.2.2.2.2.2.2.2.2.2.2.2.2.2.1 a.2.2.2.2.2.2.2.2.2.2.2.2.2.2.1 a.2.2.2.2.2.2.2.2.2.2.2.2.2.2.2.1 a.2.2.2.2.2.2.2.2.2.2.2.2.2.2.2.2.1 a.2.2.2.2.2.2.2.2.2.2.2.2.2.2.2.2.2.1 a.2.2.2.2.2.2.2.2.2.2.2.2.2.2.2.2.2.2.1 a.2.2.2.2.2.2.2.2.2.2.2.2.2.2.2.2.2.2.2.1 a.2.2.2.2.2.2.2.2.2.2.2.2.2.2.2.2.2.2.2.2.1 a.2.2.2.2.2.2.2.2.2.2.2.2.2.2.2.2.2.2.2.2.2.1 a.2.2.2.2.2.2.2.2.2.2.2.2.2.2.2.2.2.2.2.2.2.2.1 a.2.2.2.2.2.2.2.2.2.2.2.2.2.2.2.2.2.2.2.2.2.2.2.1 a.2.2.2.2.2.2.2.2.2.2.2.2.2.2.2.2.2.2.2.2.2.2.2.2.1 a.2.2.2.2.2.2.2.2.2.2.2.2.2.2.2.2.2.2.2.2.2.2.2.2.2.1 a.2.2.2.2.2.2.2.2.2.2.2.2.2.2.2.2.2.2.2.2.2.2.2.2.2.2.1 a.2.2.2.2.2.2.2.2.2.2.2.2.2.2.2.2.2.2.2.2.2.2.2.2.2.2.2.1 a.2.2.2.2.2.2.2.2.2.2.2.2.2.2.2.2.2.2.2.2.2.2.2.2.2.2.2.2.1 a.2.2.2.2.2.2.2.2.2.2.2.2.2.2.2.2.2.2.2.2.2.2.2.2.2.2.2.2.2.1 a.2.2.2.2.2.2.2.2.2.2.2.2.2.2.2.2.2.2.2.2.2.2.2.2.2.2.2.2.2.2.1 a.2.2.2.2.2.2.2.2.2.2.2.2.2.2.2.2.2.2.2.2.2.2.2.2.2.2.2.2.2.2.2.1 a.2.2.2.2.2.2.2.2.2.2.2.2.2.2.2.2.2.2.2.2.2.2.2.2.2.2.2.2.2.2.2.2),(c.Kind==3)) else some ((jV.mk b.dc b.nodes a.2.1 a.2.2.1 a.2.2.2.1 a.2.2.2.2.1 a.2.2.2.2.2.1 a.2.2.2.2.2.2.1 a.2.2.2.2.2.2.2.1 a.2.2.2.2.2.2.2.2.1 a.2.2.2.2.2.2.2.2.2.1 a.2.2.2.2.2.2.2.2.2.2.1 a.2.2.2.2.2.2.2.2.2.2.2.1 a.2.2.2.2.2.2.2.2.2.2.2.2.1 a.2.2.2.2.2.2.2.2.2.2.2.2.2.1 a.2.2.2.2.2.2.2.2.2.2.2.2.2.2.1 a.2.2.2.2.2.2.2.2.2.2.2.2.2.2.2.1 a.2.2.2.2.2.2.2.2.2.2.2.2.2.2.2.2.1 a.2.2.2.2.2.2.2.2.2.2.2.2.2.2.2.2.2.1 a.2.2.2.2.2.2.2.2.2.2.2.2.2.2.2.2.2.2.1 a.2.2.2.2.2.2.2.2.2.2.2.2.2.2.2.2.2.2.2.1 a.2.2.2.2.2.2.2.2.2.2.2.2.2.2.2.2.2.2.2.2.1 a.2.2.2.2.2.2.2.2.2.2.2.2.2.2.2.2.2.2.2.2.2.1 a.2.2.2.2.2.2.2.2.2.2.2.2.2.2.2.2.2.2.2.2.2.2.1 a.2.2.2.2.2.2.2.2.2.2.2.2.2.2.2.2.2.2.2.2.2.2.2.1 a.2.2.2.2.2.2.2.2.2.2.2.2.2.2.2.2.2.2.2.2.2.2.2.2.1 a.2.2.2.2.2.2.2.2.2.2.2.2.2.2.2.2.2.2.2.2.2.2.2.2.2.1 a.2.2.2.2.2.2.2.2.2.2.2.2.2.2.2.2.2.2.2.2.2.2.2.2.2.2.1 a.2.2.2.2.2.2.2.2.2.2.2.2.2.2.2.2.2.2.2.2.2.2.2.2.2.2.2.1 a.2.2.2.2.2.2.2.2.2.2.2.2.2.2.2.2.2.2.2.2.2.2.2.2.2.2.2.2.1 a.2.2.2.2.2.2.2.2.2.2.2.2.2.2.2.2.2.2.2.2.2.2.2.2.2.2.2.2.2.1 a.2.2.2.2.2.2.2.2.2.2.2.2.2.2.2.2.2.2.2.2.2.2.2.2.2.2.2.2.2.2.1 a.2.2.2.2.2.2.2.2.2.2.2.2.2.2.2.2.2.2.2.2.2.2.2.2.2.2.2.2.2.2.2.1 a.2.2.2.2.2.2.2.2.2.2.2.2.2.2.2.2.2.2.2.2.2.2.2.2.2.2.2.2.2.2.2.2),false)) λg=>some ((some g.1),g.2)) λe=>bif e.2 then Option.bind (uS i d (i64.wrap (c.Kind-1))) λl=>oJ N (kV N f) h d e.1 l else oJ N (kV N f) h d e.1 i else (v6 N).bind λn=>some n
def r9 (N:Nat) (g:Int) (c:(List Bool)) (h:(List kG)):Option (Bool):=
 ((idx c 0).bind λj=>(tY N).bind λd=>(wT N 0 (i64.wrap ((i64.wrap (tmod (u64.wrap g) 4))+1)) (set c (toNat 0) true) d).bind λa=>Option.bind (pA a.1 (Option.bind (bif (a.2 != 0) then some () else some ()) λi=>some (none,true)) λe=>Option.bind (bif (a.2 != 0) then some true else some false) λf=>some ((some e),f)) λb=>bif b.2 then some false else kV N N h b.1 (some []) 0)
end
end Go.Cf.M
