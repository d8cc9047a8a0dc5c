/- The walks: each function returns what its model says. Printed by a program of ours. -/
import Derived.Test.YtgpgcfgejggolaaGreatDoorZM1
import Derived.Test.YtgpgcfgejggolaaGreatDoorZWBld
namespace Go.Cf
open Go Go.Proofs
set_option linter.unusedVariables false
set_option maxRecDepth 20000
set_option maxHeartbeats 8000000
theorem C_strings_Builder_WriteString (N:Nat){Ms:List Nat}{κ0:Gh}{w0:World}(a1:T_strings_Builder)(a6:ByteArray)(r2:Value)(p3:Option Addr)(c4:Nat)(b5:Nat)(hB:SB Ms κ0 w0 [.box b5 64 [(1,[r2]),sl p3 (a1.buf).length c4],.ext (ownX (fInt .u8) 5 p3 c4 a1.buf)] [MP.const (SlfIs b5 r2 a1.addr)]){r:(Int×Bool×T_strings_Builder)}(H:M.strings_Builder_WriteString N a1 a6=some r) :
    Calls Tryz.prog 22 #[pt b5 0,.string (a6)] w0 (Post Ms κ0 w0 fun v κ w => ∃(r18 r19:Value) (p20:Option Addr) (c21:Nat),v = .tuple #[vi r.1,r18]∧SS Ms κ0 w0 κ w [.box b5 64 [(1,[r19]),sl p20 (r.2.2.buf).length c21],.ext (ownX (fInt .u8) 5 p20 c21 r.2.2.buf)] [MP.const (ErrIs r18 r.2.1),MP.const (SlfIs b5 r19 r.2.2.addr)]):=by
 have hS:=hB.hS
 have hfr:=hS.fresh
 refine en Tryz.func22 rfl Tryz.ntmps22 fun a hF=>?_
 unfold M.strings_Builder_WriteString at H
 refine qr fun _ h7=>(wp 2 [0,1] hF fun a hF=>(h7 _ _ (qr fun _ h8=>(wp 1 [0,1,6] hF fun a hF=>bd H fun x9 hx9 H=>wc (wcS 2 [0,1] hF hS (fun hS=>C_strings_Builder_copyCheck N (T_strings_Builder.mk a1.addr a1.buf) r2 p3 c4 b5 (hS.sbK [0]) hx9) ?_)))))
 rintro _ κ w a ⟨r10,p11,c12,rfl,h2⟩ hF hB
 have hS:=hB _ _ h2
 refine h8 _ _ (qr fun _ h13=>(wp 4 [1,8,11] hF fun a hF=>wc (wld hF hS 0 1 0 fun a hF=>wl_pure (L':=[(1,.string (a6)),(8,pt b5 0),(12,.slice p11 (x9.buf).length c12),(13,.string (a6))]) 1 [1,8,12,13] hF kr fun a hF=>bd H fun x14 hx14 H=>wc (wo_appendOS hF hS kr 1 rfl rfl rfl rfl rfl hx14 Tryz.underlying29 Tryz.underlying9 (i:=Tryz.t5) (z := .int .u8 (0)) kr kr kr fun p15 c16 κ a w hF hS=>wp 2 [1,14,16] hF fun a hF=>wc (wst hF hS 0 1 1 [sl p15 x14.length c16] (sgN 1 sgNil) fun a w hF hS=>(h13 _ _ (qr fun _ h17=>(wp 4 [4,5] hF fun a hF=>(h17 _ _ (rt ?_))))))))))
 have hS:=hS.add (m:=MP.const (ErrIs .nilIface true)) errNil
 cases H
 exact ret_done hF hS (res2 Tryz.results22 (rvt hF) (rvt hF)) ⟨.nilIface,r10,p15,c16,rfl,hS.sp [0,1] [0,1]⟩
theorem C_strings_Builder_WriteByte (N:Nat){Ms:List Nat}{κ0:Gh}{w0:World}(a1:T_strings_Builder)(a6:Int)(r2:Value)(p3:Option Addr)(c4:Nat)(b5:Nat)(hB:SB Ms κ0 w0 [.box b5 64 [(1,[r2]),sl p3 (a1.buf).length c4],.ext (ownX (fInt .u8) 5 p3 c4 a1.buf)] [MP.const (SlfIs b5 r2 a1.addr)]){r:(Bool×T_strings_Builder)}(H:M.strings_Builder_WriteByte N a1 a6=some r) :
    Calls Tryz.prog 23 #[pt b5 0,.int .u8 (a6)] w0 (Post Ms κ0 w0 fun v κ w => ∃(r19 r20:Value) (p21:Option Addr) (c22:Nat),v=r19∧SS Ms κ0 w0 κ w [.box b5 64 [(1,[r20]),sl p21 (r.2.buf).length c22],.ext (ownX (fInt .u8) 5 p21 c22 r.2.buf)] [MP.const (ErrIs r19 r.1),MP.const (SlfIs b5 r20 r.2.addr)]):=by
 have hS:=hB.hS
 have hfr:=hS.fresh
 refine en Tryz.func23 rfl Tryz.ntmps23 fun a hF=>?_
 unfold M.strings_Builder_WriteByte at H
 refine qr fun _ h7=>(wp 1 [0,1] hF fun a hF=>(h7 _ _ (qr fun _ h8=>(wp 1 [0,1,5] hF fun a hF=>bd H fun x9 hx9 H=>wc (wcS 2 [0,1] hF hS (fun hS=>C_strings_Builder_copyCheck N (T_strings_Builder.mk a1.addr a1.buf) r2 p3 c4 b5 (hS.sbK [0]) hx9) ?_)))))
 rintro _ κ w a ⟨r10,p11,c12,rfl,h2⟩ hF hB
 have hS:=hB _ _ h2
 refine h8 _ _ (qr fun _ h13=>(wp 4 [1,7,10] hF fun a hF=>wc (wld hF hS 0 1 0 fun a hF=>wl_pure (L':=[(7,pt b5 0),(11,.slice p11 (x9.buf).length c12),(12,.int .u8 (a6))]) 1 [7,11,12] hF kr fun a hF=>wc (wo_buildN (t:=(fInt .u8)) (z := .int .u8 (0)) (l:=[a6]) (vs:=[(0,.int .u8 (a6))]) (cells := #[.int .u8 (a6)]) (E:=5) hF hS kr rfl kr kr rfl kr kr kr kr kr fun p14 κ a w hF hS=>bd H fun x15 hx15 H=>wc (wo_appendO hF hS kr 2 0 rfl rfl rfl rfl rfl rfl rfl hx15 kr (i:=Tryz.t5) (z := .int .u8 (0)) kr kr kr fun p16 c17 κ a w hF hS=>wp 2 [14,16] hF fun a hF=>wc (wst hF hS 1 1 1 [sl p16 x15.length c17] (sgN 1 sgNil) fun a w hF hS=>?_))))))
 refine h13 _ _ (qr fun _ h18=>(wp 1 [4] hF fun a hF=>(h18 _ _ (rt ?_))))
 have hS:=hS.add (m:=MP.const (ErrIs .nilIface true)) errNil
 cases H
 exact ret_done hF hS (res1 Tryz.results23 (rvt hF)) ⟨.nilIface,r10,p16,c17,rfl,hS.sp [1,2] [0,2]⟩
end Go.Cf
