/- Of scripts: lines that are blank, remarks; texts of blank lines. -/
import Derived.KernelRfl
import Derived.Test.YtgpgcfgejggolaaGreatDoorZM1
namespace Go.Cf
open Go
set_option maxRecDepth 100000
abbrev bmk (l:List UInt8):ByteArray:=ByteArray.mk (List.toArray l)
theorem toList_bmk (l:List UInt8):(bmk l).toList=l:=by rw [ByteArray.toList_eq]
theorem sEq_bmk (l l':List UInt8):sEq (bmk l) (bmk l')=(l==l'):=by
 unfold sEq; rw [toList_bmk,toList_bmk]
theorem sSl_bmk (l:List UInt8) (i j:Nat) (h:i≤j) (hj:j≤l.length):sSl (bmk l) (i:Int) (j:Int)=some (bmk ((l.drop i).take (j-i))):=by
 unfold sSl
 rw [if_pos ⟨by omega,by omega,by show (j:Int)≤(l.length:Int); omega⟩]
 congr 1
 apply ByteArray.ext
 apply Array.toList_inj.1
 rw [Lib.extract_data]
 rfl
theorem do_blank (N:Nat) (c:Option T_cluster_Cluster):M.script_Shell_Do N ⟨c⟩ (bmk [])=some (bmk [],⟨c⟩):=by
 unfold M.script_Shell_Do
 rw [show sEq (bmk []) (ByteArray.mk #[])=true from sEq_bmk [] []]
 rfl
theorem do_remark (N:Nat) (c:Option T_cluster_Cluster) (l:List UInt8):M.script_Shell_Do N ⟨c⟩ (bmk (35::l))=some (bmk [],⟨c⟩):=by
 unfold M.script_Shell_Do
 rw [show sEq (bmk (35::l)) (ByteArray.mk #[])=false from sEq_bmk (35::l) [],show sIx (bmk (35::l)) 0=some 35 from rfl]
 rfl
theorem index_none (k:Nat):Lib.index (List.replicate k (35:UInt8)) [10] = -1:=by
 induction k with
 | zero=>rfl
 | succ k ih=>
  rw [List.replicate_succ,Lib.index,ih]
  rfl
theorem seq_blank {σ:Type}(N:Nat)(B:σ→ByteArray→Option (σ×Bool))(y:σ)(hB:B y (bmk [])=some (y,true)) : ∀(k fuel:Nat),k<fuel→k<1000000→M.strings_splitSeq_1_L2 N B fuel (ByteArray.mk #[10]) 0 (bmk (List.replicate k 10)) y=some y
 | 0,fuel,hf,_=>by
  obtain ⟨g,rfl⟩ : ∃g,fuel=g+1:=⟨fuel-1,by omega⟩
  rw [M.strings_splitSeq_1_L2,show M.strings_Index N (bmk (List.replicate 0 10)) (ByteArray.mk #[10])=some (-1) from rfl]
  simp only [Option.bind_some]
  rw [show decide ((-1:Int)<0)=true from rfl,cond_true,show bmk (List.replicate 0 10)=bmk [] from rfl,hB]
  rfl
 | k+1,fuel,hf,hk=>by
  obtain ⟨g,rfl⟩ : ∃g,fuel=g+1:=⟨fuel-1,by omega⟩
  have hlen:(List.replicate (k+1) (10:UInt8)).length=k+1:=List.length_replicate
  have hix:M.strings_Index N (bmk (List.replicate (k+1) 10)) (ByteArray.mk #[10])=some 0:=by
   unfold M.strings_Index
   rw [if_pos (by show (List.replicate (k+1) (10:UInt8)).length<_; rw [hlen]; omega)]
   show some (Lib.index (List.replicate (k+1) (10:UInt8)) [10])=_
   rw [List.replicate_succ,Lib.index]
   rfl
  rw [M.strings_splitSeq_1_L2,hix]
  simp only [Option.bind_some]
  rw [show decide ((0:Int)<0)=false from rfl,cond_false,show IntKind.i64.wrap (0+0)=((0:Nat):Int) from rfl,show (0:Int)=((0:Nat):Int) from rfl,sSl_bmk _ 0 0 (Nat.le_refl _) (Nat.zero_le _)]
  simp only [Option.bind_some]
  rw [show bmk (List.take (0-0) (List.drop 0 (List.replicate (k+1) (10:UInt8))))=bmk [] from rfl,hB]
  simp only [Option.bind_some,Bool.not_true,cond_false]
  rw [show IntKind.i64.wrap (((0:Nat):Int)+((ByteArray.mk #[10]).size:Int))=((1:Nat):Int) from rfl,show ((bmk (List.replicate (k+1) 10)).size:Int)=((k+1:Nat):Int) from by
   show ((List.replicate (k+1) (10:UInt8)).length:Int)=_
   rw [hlen],sSl_bmk _ 1 (k+1) (by omega) (by rw [hlen]; omega)]
  simp only [Option.bind_some]
  rw [show List.take (k+1-1) (List.drop 1 (List.replicate (k+1) (10:UInt8)))=List.replicate k 10 from by
   rw [List.replicate_succ,List.drop_succ_cons,List.drop_zero]
   exact List.take_of_length_le (by simp)]
  exact seq_blank N B y hB k g (by omega) (by omega)
theorem seq_one {σ:Type} (N:Nat) (B:σ→ByteArray→Option (σ×Bool)) (y:σ) (k fuel:Nat) (hB:B y (bmk (List.replicate k 35))=some (y,true)) (hf:0<fuel) (hk:k<1000000):M.strings_splitSeq_1_L2 N B fuel (ByteArray.mk #[10]) 0 (bmk (List.replicate k 35)) y=some y:=by
 obtain ⟨g,rfl⟩ : ∃g,fuel=g+1:=⟨fuel-1,by omega⟩
 have hix:M.strings_Index N (bmk (List.replicate k 35)) (ByteArray.mk #[10])=some (-1):=by
  unfold M.strings_Index
  rw [if_pos (by show (List.replicate k (35:UInt8)).length<_; simp; omega)]
  exact congrArg some (index_none k)
 rw [M.strings_splitSeq_1_L2,hix]
 simp only [Option.bind_some]
 rw [show decide ((-1:Int)<0)=true from rfl,cond_true,hB]
 rfl
theorem run_over (N:Nat) (c:Option T_cluster_Cluster) (l:List UInt8) (h:65536<l.length∨1024≤l.count 10):M.script_Shell_Run N ⟨c⟩ (bmk l)=some (bmk [],6,⟨c⟩):=by
 unfold M.script_Shell_Run
 have e:(bif decide (((bmk l).size:Int) > 65536) then (some true) else (Option.bind (M.strings_Count N (bmk l) (ByteArray.mk #[10])) fun x12=>(some (decide (x12 ≥ 1024)))))=some true:=by
  by_cases h1:65536<l.length
  ·rw [decide_eq_true (show ((bmk l).size:Int) > 65536 by show (l.length:Int) > 65536; omega)]; rfl
  ·have h2:1024≤l.count 10:=h.resolve_left h1
   rw [decide_eq_false (show ¬((bmk l).size:Int) > 65536 by show ¬(l.length:Int) > 65536; omega),cond_false]
   show some (decide (((l.count 10:Nat):Int) ≥ 1024))=_
   rw [decide_eq_true (by omega)]
 rw [e]
 rfl
theorem run_calm (N:Nat)(c:Option T_cluster_Cluster)(l:List UInt8)(h1:l.length≤65536)(h2:l.count 10<1024)
  (hs : ∀(B:(Bool×(List Int)×(Option T_cluster_Cluster)×Nat)→ByteArray→Option ((Bool×(List Int)×(Option T_cluster_Cluster)×Nat)×Bool)),(∀x,M.script_Shell_Do N ⟨c⟩ x=some (bmk [],⟨c⟩)→B (false,[],c,0) x=some ((false,[],c,0),true))→M.strings_splitSeq_1_L2 N B N (ByteArray.mk #[10]) 0 (bmk l) (false,[],c,0)=some (false,[],c,0)) :
  M.script_Shell_Run N ⟨c⟩ (bmk l)=some (bmk [],0,⟨c⟩):=by
 unfold M.script_Shell_Run
 rw [decide_eq_false (show ¬((bmk l).size:Int) > 65536 by show ¬(l.length:Int) > 65536; omega),cond_false]
 rw [show M.strings_Count N (bmk l) (ByteArray.mk #[10])=some ((l.count 10:Nat):Int) from rfl]
 simp only [Option.bind_some]
 rw [decide_eq_false (show ¬(((l.count 10:Nat):Int) ≥ 1024) by omega),cond_false]
 rw [show M.strings_SplitSeq N (bmk l) (ByteArray.mk #[10])=some () from rfl]
 simp only [Option.bind_some]
 unfold M.strings_splitSeq_1
 rw [show (((ByteArray.mk #[10]).size:Int)==0)=false from rfl,cond_false,hs]
 ·rfl
 ·intro x hx
  show (bif (0==0:Bool) then _ else none)=_
  simp only [beq_self_eq_true,cond_true]
  rw [show M.script_Shell_Do N (T_script_Shell.mk c) x=_ from hx]
  simp only [Option.bind_some]
  rw [show sEq (bmk []) (ByteArray.mk #[])=true from sEq_bmk [] []]
  rfl
end Go.Cf
namespace Go.Cf
open Go
set_option maxRecDepth 100000
theorem set_fill (m i:Nat) (c:Int) (h:i<m):(List.replicate i c++List.replicate (m-i) 0).set i c=List.replicate (i+1) c++List.replicate (m-(i+1)) 0:=by
 rw [List.set_append_right _ _ (by simp)]
 obtain ⟨k,hk⟩ : ∃k,m-i=k+1:=⟨m-i-1,by omega⟩
 rw [hk,show m-(i+1)=k by omega,List.replicate_succ,show i-(List.replicate i c).length=0 by simp,List.set_cons_zero,List.replicate_succ' (n:=i),List.append_assoc]
 rfl
theorem idx_fill (m i:Nat) (c:Int) (h:i<m):idx (List.replicate i c++List.replicate (m-i) 0) (i:Int)=some 0:=by
 unfold idx
 rw [if_pos (by omega),Int.toNat_natCast,List.getElem?_append_right (by simp)]
 simp only [List.length_replicate,Nat.sub_self]
 rw [List.getElem?_replicate_of_lt (by omega)]
theorem wrapi {x:Int} (h0 : -9223372036854775808≤x) (h1:x<9223372036854775808):IntKind.i64.wrap x=x:=by rw [IntKind.wrap_i64]; omega
theorem wrap_small (i:Nat) (h:i<1000000):IntKind.i64.wrap ((i:Int)+1)=((i+1:Nat):Int):=by
 rw [wrapi (by omega) (by omega)]
 omega
theorem fill1 (N:Nat)(a1:Int)(a2:Bool)(x5:T_script_Shell)(x13:List Int)(m:Nat)(hm:x13.length=m)(hb:m<1000000) : ∀(k i fuel:Nat),m-i=k→i≤m→k<fuel →
  ∃f,M.law24_ScriptLong_L1 N fuel a1 a2 x5 x13 (List.replicate i 10++List.replicate (m-i) 0) (i:Int)=M.law24_ScriptLong_L1 N (f+1) a1 a2 x5 x13 (List.replicate m 10) (m:Int)
 | 0,i,fuel,hk,hi,hf=>by
  obtain rfl:i=m:=by omega
  refine ⟨fuel-1,?_⟩
  rw [show fuel-1+1=fuel by omega,Nat.sub_self]
  simp
 | k+1,i,fuel,hk,hi,hf=>by
  obtain ⟨g,rfl⟩ : ∃g,fuel=g+1:=⟨fuel-1,by omega⟩
  obtain ⟨f,h⟩:=fill1 N a1 a2 x5 x13 m hm hb k (i+1) g (by omega) (by omega) (by omega)
  refine ⟨f,?_⟩
  rw [← h,M.law24_ScriptLong_L1,hm,decide_eq_true (show (i:Int)<(m:Int) by omega),cond_true,idx_fill m i 10 (by omega)]
  simp only [Option.bind_some,Int.toNat_natCast]
  rw [set_fill m i 10 (by omega),wrap_small i (by omega)]
theorem fill3 (N:Nat)(a1:Int)(x5:T_script_Shell)(x13:List Int)(m:Nat)(hm:x13.length=m)(hb:m<1000000) : ∀(k i fuel:Nat),m-i=k→i≤m→k<fuel →
  M.law24_ScriptLong_L3 N fuel a1 x5 x13 (List.replicate i 35++List.replicate (m-i) 0) (i:Int)=M.law24_ScriptLong_k2 N a1 x5 (List.replicate m 35)
 | 0,i,fuel,hk,hi,hf=>by
  obtain rfl:i=m:=by omega
  obtain ⟨g,rfl⟩ : ∃g,fuel=g+1:=⟨fuel-1,by omega⟩
  rw [M.law24_ScriptLong_L3,hm,decide_eq_false (show ¬((i:Int)<(i:Int)) by omega),cond_false,Nat.sub_self]
  simp
 | k+1,i,fuel,hk,hi,hf=>by
  obtain ⟨g,rfl⟩ : ∃g,fuel=g+1:=⟨fuel-1,by omega⟩
  have h:=fill3 N a1 x5 x13 m hm hb k (i+1) g (by omega) (by omega) (by omega)
  rw [← h,M.law24_ScriptLong_L3,hm,decide_eq_true (show (i:Int)<(m:Int) by omega),cond_true,idx_fill m i 35 (by omega)]
  simp only [Option.bind_some,Int.toNat_natCast]
  rw [set_fill m i 35 (by omega),wrap_small i (by omega)]
theorem five (a:Int) : ∃k:Nat,k<5∧IntKind.i64.wrap ((IntKind.i64.wrap (Int.tmod (IntKind.u64.wrap a) 5))-2)=(k:Int)-2:=by
 have h0:0≤IntKind.u64.wrap a:=by rw [IntKind.wrap_u64]; omega
 refine ⟨(Int.tmod (IntKind.u64.wrap a) 5).toNat,?_,?_⟩
 ·have:=Int.tmod_lt_of_pos (IntKind.u64.wrap a) (show (0:Int)<5 by decide)
  omega
 ·have h1:=Int.tmod_lt_of_pos (IntKind.u64.wrap a) (show (0:Int)<5 by decide)
  have h2:=Int.tmod_nonneg 5 h0
  rw [wrapi (x:=Int.tmod (IntKind.u64.wrap a) 5) (by omega) (by omega),wrapi (by omega) (by omega)]
  omega
theorem awake24:M.law24_awake 100000=some true:=by kernel_rfl
theorem strOf_replicate (m:Nat) (c:Int) (b:UInt8) (h:UInt8.ofNat c.toNat=b):strOfNums (List.replicate m c)=bmk (List.replicate m b):=by
 unfold strOfNums
 rw [List.map_replicate,h]
section
variable (N:Nat)(hN:70000<N)(haw:M.law24_awake N=some true)
include haw in
theorem long_k2 (a:Int)(k m:Nat)(c:Int)(b:UInt8)(hb:UInt8.ofNat c.toNat=b)(hk:k<5)(he:IntKind.i64.wrap ((IntKind.i64.wrap (Int.tmod (IntKind.u64.wrap a) 5))-2)=(k:Int)-2)
  (hr:M.script_Shell_Run N ⟨none⟩ (bmk (List.replicate m b))=some (bmk [],if 2<k then 6 else 0,⟨none⟩)):M.law24_ScriptLong_k2 N a ⟨none⟩ (List.replicate m c)=some true:=by
 unfold M.law24_ScriptLong_k2
 rw [strOf_replicate m c b hb,show M.script_Shell_Run N (T_script_Shell.mk (T_script_Shell.mk none).c) (bmk (List.replicate m b))=_ from hr]
 simp only [Option.bind_some,haw,cond_true]
 rw [show sEq (bmk []) (ByteArray.mk #[])=true from sEq_bmk [] [],cond_true,he]
 by_cases h2:2<k
 ·rw [if_pos h2,decide_eq_true (show (k:Int)-2 > 0 by omega)]
  rfl
 ·rw [if_neg h2,decide_eq_false (show ¬((k:Int)-2 > 0) by omega)]
  rfl
include hN in
theorem run_nl (m:Nat) (h:m<2000):M.script_Shell_Run N ⟨none⟩ (bmk (List.replicate m 10))=some (bmk [],if 1023<m then 6 else 0,⟨none⟩):=by
 by_cases hm:1023<m
 ·rw [if_pos hm]
  exact run_over _ _ _ (.inr (by rw [List.count_replicate_self]; omega))
 ·rw [if_neg hm]
  refine run_calm _ _ _ (by rw [List.length_replicate]; omega) (by rw [List.count_replicate_self]; omega) fun B hB=>?_
  exact seq_blank N B _ (hB _ (do_blank _ _)) m N (by omega) (by omega)
include hN in
theorem run_hash (m:Nat) (h0:0<m) (h:m<70000):M.script_Shell_Run N ⟨none⟩ (bmk (List.replicate m 35))=some (bmk [],if 65536<m then 6 else 0,⟨none⟩):=by
 by_cases hm:65536<m
 ·rw [if_pos hm]
  exact run_over _ _ _ (.inl (by rw [List.length_replicate]; exact hm))
 ·rw [if_neg hm]
  refine run_calm _ _ _ (by rw [List.length_replicate]; omega) (by rw [List.count_replicate]; simp) fun B hB=>?_
  refine seq_one N B _ m N (hB _ ?_) (by omega) (by omega)
  obtain ⟨j,rfl⟩ : ∃j,m=j+1:=⟨m-1,by omega⟩
  rw [List.replicate_succ]
  exact do_remark _ _ _
theorem mkl_some (m:Nat) (h:m<1000000):mkl (m:Int) (0:Int)=some (List.replicate m 0):=by
 unfold mkl
 rw [if_pos (by omega),Int.toNat_natCast]
include hN haw in
theorem long_law (a:Int) (b:Bool):M.law24_ScriptLong N a b=some true:=by
 obtain ⟨k,hk,he⟩:=five a
 unfold M.law24_ScriptLong
 rw [show M.script_New N=some ⟨none⟩ from rfl]
 simp only [Option.bind_some]
 rw [he,wrapi (x:=1023+((k:Int)-2)) (by omega) (by omega),show (1023:Int)+((k:Int)-2)=((1021+k:Nat):Int) by omega,mkl_some _ (by omega)]
 simp only [Option.bind_some]
 obtain ⟨m,hm⟩ : ∃m,m=1021+k:=⟨_,rfl⟩
 rw [← hm]
 obtain ⟨f,h1⟩:=fill1 N a b ⟨none⟩ (List.replicate m 0) m List.length_replicate (by omega) m 0 N (by omega) (by omega) (by omega)
 rw [List.replicate_zero,List.nil_append,Nat.sub_zero] at h1
 refine Eq.trans (show _=M.law24_ScriptLong_L1 N N a b ⟨none⟩ (List.replicate m 0) (List.replicate m 0) ((0:Nat):Int) from rfl) ?_
 rw [h1,M.law24_ScriptLong_L1,List.length_replicate,decide_eq_false (show ¬((m:Int)<(m:Int)) by omega),cond_false]
 cases b with
 | false=>
  rw [cond_false]
  refine long_k2 N haw a k m 10 10 rfl hk he ?_
  rw [run_nl N hN _ (by omega)]
  by_cases h2:2<k
  ·rw [if_pos h2,if_pos (by omega)]
  ·rw [if_neg h2,if_neg (by omega)]
 | true=>
  rw [cond_true,he,wrapi (x:=65536+((k:Int)-2)) (by omega) (by omega),show (65536:Int)+((k:Int)-2)=((65534+k:Nat):Int) by omega]
  rw [mkl_some _ (by omega)]
  simp only [Option.bind_some]
  obtain ⟨j,hj⟩ : ∃j,j=65534+k:=⟨_,rfl⟩
  rw [← hj]
  have h3:=fill3 N a ⟨none⟩ (List.replicate j 0) j List.length_replicate (by omega) j 0 N (by omega) (by omega) (by omega)
  rw [List.replicate_zero,List.nil_append,Nat.sub_zero] at h3
  refine Eq.trans (show _=M.law24_ScriptLong_L3 N N a ⟨none⟩ (List.replicate j 0) (List.replicate j 0) ((0:Nat):Int) from rfl) (h3.trans ?_)
  refine long_k2 N haw a k j 35 35 rfl hk he ?_
  rw [run_hash N hN _ (by omega) (by omega)]
  by_cases h2:2<k
  ·rw [if_pos h2,if_pos (by omega)]
  ·rw [if_neg h2,if_neg (by omega)]
end
theorem pScriptLong (a:Int) (b:Bool):M.law24_ScriptLong 100000 a b=some true:=long_law 100000 (by decide) awake24 a b
end Go.Cf
