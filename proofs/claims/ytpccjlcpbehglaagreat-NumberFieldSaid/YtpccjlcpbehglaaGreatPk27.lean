/- Part 28 of a proof. Conditions: each theorem's own. -/
import Derived.Test.YtpccjlcpbehglaaGreatPk24
import Derived.Test.YtpccjlcpbehglaaGreatPk26
set_option linter.all false
set_option maxHeartbeats 8000000
open Go.Proofs
namespace Go.Abs
open Go.RowKit
variable {b1 b2 b3:Bool} {l l1 l2 l3:List UInt32} {x y:Int}
theorem getD_of {i:Nat} {x:UInt32} (h:l[i]? =some x):l.getD i 0=x:=by rw[List.getD_eq_getElem?_getD,h];rfl
theorem cmp_sgn:sgnI (x-y)=cmpZ x y:=by
 unfold cmpZ sgnI
 split <;> split <;> (try split) <;> (try split) <;> omega
theorem Ytimes_ok {m z:List UInt32} {a b:Nat} (hl:natL l=a) (hm:natL m=b) (hz:z=limbs (a*b)) (sl:l.length≤17592186044416) (sm:m.length≤17592186044416):CF 174 [.one (.sl .u32 l),.one (.sl .u32 m)] (.one (.sl .u32 z)):=by
 refine acall_fn Tryz.func174 (by kernel_rfl) rfl fun E hE=>?_
 conv=>cbv
 intro n10 h10;have e10:=h10.eq;have f10:=h10.le;conv=>cbv
 intro n12 h12;have e12:=h12.eq;have f12:=h12.le;conv=>cbv
 intro n13 h13;conv=>cbv
 refine⟨fun _=>i64 (by omega),?_⟩
 refine⟨fun _=>⟨by omega,by omega,by show _*4≤140737488355328;omega⟩,?_⟩
 intro k14 (l14:List UInt32) ql14;have hk14:=ql14.1;have hl14:l14=List.replicate k14 (0:el .u32):=ql14.2;have gl14:l14.length=k14:=by rw[hl14,List.length_replicate]
 conv=>cbv
 refine .inr ?_
 obtain⟨J0,hJ0⟩:∃J:List AV→List Blk→Nat→Prop,J=fun vs bl k=>∃(o:List UInt32) (n i':Nat) (i:Int),vs=[.one (.sl .u32 l),.one (.sl .u32 m),.one (.lsl .u32 14 0 0 n),.one (.int .i64 i)]∧
  bl=[.arr 0 .u32 o]∧(o.length=l.length+m.length∧n=o.length∧NatIs i i'∧i'≤l.length)∧
  natL (o.take (i'+m.length))=natL (l.take i')*natL m∧k=l.length-i':=⟨_,rfl⟩
 refine⟨[0,1,5,6],[14],J0,⟨l.length-0,by rw[hJ0];exact⟨l14,k14,0,0,rfl,rfl,⟨by rw[hl14,List.length_replicate];omega,by rw[hl14,List.length_replicate],natIs 0,by omega⟩,by rw[hl14,List.take_replicate,natL_replicate];simp[natL],rfl⟩⟩,?_⟩
 intro vs bl kk0 hj;rw[hJ0] at hj
 obtain⟨o,n,i',i,rfl,rfl,⟨ho,hn,hi,hiL⟩,hinv,hk0⟩:=hj
 conv=>cbv
 have ei:=hi.eq
 intro n17 h17;have e17:=h17.eq;have f17:=h17.le;conv=>cbv
 intro n18 h18;conv=>cbv
 cases n18 <;> conv=>cbv
 ·have k18:=lss_f h18
  have hnl66:n≤(o).length:=by omega
  obtain⟨m66,hm66⟩:∃z:Nat,z=(trimL ((o).take n)).length:=⟨_,rfl⟩
  obtain⟨hle66,htk66⟩:=trim_take hnl66 hm66
  refine .inr (.inr (.inl ⟨[],.one (.lsl .u32 0 0 0 m66),.arr 0 .u32 o,fun _=>⟨by first | decide | simp[idsV,idsC],trivial⟩,fun _=>⟨useB hE (Ytrim_B hnl66 (by omega) hm66),rfl,rfl⟩,?_⟩))
  try conv=>cbv
  have hfin:natL (o.take n)=a*b:=by rw[show i'=l.length by omega,List.take_length,hl,hm,←ho,List.take_length] at hinv;rw[hn,List.take_length,hinv]
  exact fA ⟨⟨rfl,.inl ⟨_,rfl,by omega,congrArg _ (by rw[List.drop_zero,htk66,hfin,hz])⟩,trivial⟩,trivial⟩ rfl (by simp)
 ·have k18:=lss_t h18
  refine .inr ?_
  refine .inr ?_
  obtain⟨J1,hJ1⟩:∃J:List AV→List Blk→Nat→Prop,J=fun vs bl k=>∃(o1:List UInt32) (n1 c' k':Nat) (c i1:Int),vs=[.one (.sl .u32 l),.one (.sl .u32 m),.one (.lsl .u32 14 0 0 n1),.one (.int .i64 i),.one (.int .u64 c),.one (.int .i64 i1)]∧
   bl=[.arr 0 .u32 o1]∧(o1.length=l.length+m.length∧n1=o1.length∧NatIs i1 k'∧k'≤m.length∧NatIs c c'∧c'<4294967296)∧
   natL (o1.take (i'+m.length))+2^(32*(i'+k'))*c'=natL (l.take i')*natL m+(l.getD i' 0).toNat*2^(32*i')*natL (m.take k')∧k=m.length-k':=⟨_,rfl⟩
  refine⟨[0,1,5,6,7,8],[14],J1,⟨m.length-0,by rw[hJ1];exact⟨o,n,0,0,0,0,rfl,rfl,⟨ho,hn,natIs 0,by omega,natIs 0,by omega⟩,by rw[hinv];simp[natL],rfl⟩⟩,?_⟩
  intro vs bl kk1 hj;rw[hJ1] at hj
  obtain⟨o1,n1,c',k',c,i1,rfl,rfl,⟨ho1,hn1,hi1,hiL1,hc,hc1⟩,hinv1,hk1⟩:=hj
  conv=>cbv
  have ei1:=hi1.eq
  have ec:=hc.eq
  intro n23 h23;have e23:=h23.eq;have f23:=h23.le;conv=>cbv
  intro n24 h24;conv=>cbv
  cases n24 <;> conv=>cbv
  ·have k24:=lss_f h24
   intro n60 h60;have e60:=h60.eq;have f60:=h60.le;conv=>cbv
   intro n61 h61;conv=>cbv
   refine⟨fun _=>i64 (by omega),?_⟩
   intro n63 h63;conv=>cbv
   have h63:=wrap_u32 h63
   refine⟨fun _=>⟨by omega,by omega⟩,?_⟩
   intro j64 hj64;conv=>cbv
   obtain⟨w64,hw64⟩:=u32_ex (n:=n63) (by omega)
   have ew64:=hw64.eq;have fw64:=hw64.lt
   refine⟨w64,fun _=>⟨by show _<List.length (α:=UInt32) o1;(first | omega | (simp;omega)),put_w hw64⟩,?_⟩
   intro (l64:List UInt32) (hl64:l64=List.set (α:=UInt32) o1 j64 w64);have gl64:l64.length=o1.length:=by rw[hl64,List.length_set]
   conv=>cbv
   intro n20 h20;conv=>cbv
   refine⟨fun _=>i64 (by omega),?_⟩
   refine⟨l.length-(i'+1),?_,?_⟩
   ·omega
   rw[hJ0]
   refine⟨l64,n1,i'+1,n20,rfl,rfl,⟨by rw[hl64,List.length_set];exact ho1,by rw[hl64,List.length_set];exact hn1,⟨by omega⟩,by omega⟩,?_,rfl⟩
   obtain⟨ai,hai⟩:=get_ex (l:=l) (i:=i') (by omega)
   have hk:k'=m.length:=by omega
   have hlen:i'+m.length<o1.length:=by omega
   rw[hl64,show i'+1+m.length=i'+m.length+1 by omega,show j64=i'+m.length by omega,take_set_succ hlen,natL_snoc,List.length_take,Nat.min_eq_left (by omega),show w64.toNat=c' by omega]
   rw[hk,getD_of hai] at hinv1
   rw[hinv1,List.take_length,natL_take_succ hai]
   grind
  ·have k24:=lss_t h24
   refine .inr ?_
   intro n31 h31;conv=>cbv
   refine⟨fun _=>i64 (by omega),?_⟩
   refine⟨fun _=>⟨by omega,by omega⟩,?_⟩
   intro j32 hj32;conv=>cbv
   obtain⟨x33,hx33⟩:=get_ex (l:=o1) (i:=j32) (by omega)
   refine⟨x33,fun _=>hx33,?_⟩
   try conv=>cbv
   intro n33 h33;have e33:=h33.eq;have f33:=h33.lt;conv=>cbv
   intro n34 h34;conv=>cbv
   have h34:=wrap_u64 h34
   intro n35 h35;conv=>cbv
   have h35:=wrap_u64 h35
   obtain⟨x38,hx38⟩:=get_ex (l:=l) (i:=i') (by omega)
   refine⟨x38,fun _=>⟨by omega,by rw[show (i).toNat=i' by omega];exact hx38⟩,?_⟩
   try conv=>cbv
   intro n39 h39;have e39:=h39.eq;have f39:=h39.lt;conv=>cbv
   intro n40 h40;conv=>cbv
   have h40:=wrap_u64 h40
   obtain⟨x43,hx43⟩:=get_ex (l:=m) (i:=k') (by omega)
   refine⟨x43,fun _=>⟨by omega,by rw[show (i1).toNat=k' by omega];exact hx43⟩,?_⟩
   try conv=>cbv
   intro n44 h44;have e44:=h44.eq;have f44:=h44.lt;conv=>cbv
   intro n45 h45;conv=>cbv
   have h45:=wrap_u64 h45
   have ep:n40*n45=((x38.toNat*x43.toNat:Nat):Int):=by rw[Int.natCast_mul];congr 1 <;> omega
   have bp:x38.toNat*x43.toNat≤4294967295*4294967295:=Nat.mul_le_mul (by omega) (by omega)
   intro n46 h46;conv=>cbv
   have h46:=wrap_u64 h46
   intro n47 h47;conv=>cbv
   have h47:=wrap_u64 h47
   refine⟨fun _=>rfl,?_⟩
   intro n51 h51;conv=>cbv
   refine⟨fun _=>i64 (by omega),?_⟩
   intro n53 h53;conv=>cbv
   have h53:=wrap_u32 h53
   refine⟨fun _=>⟨by omega,by omega⟩,?_⟩
   intro j54 hj54;conv=>cbv
   obtain⟨w54,hw54⟩:=u32_ex (n:=n53) (by omega)
   have ew54:=hw54.eq;have fw54:=hw54.lt
   refine⟨w54,fun _=>⟨by show _<List.length (α:=UInt32) o1;(first | omega | (simp;omega)),put_w hw54⟩,?_⟩
   intro (l54:List UInt32) (hl54:l54=List.set (α:=UInt32) o1 j54 w54);have gl54:l54.length=o1.length:=by rw[hl54,List.length_set]
   conv=>cbv
   intro n56 h56;conv=>cbv
   refine⟨fun _=>by omega,?_⟩
   have h56:=shr_lit (p:=4294967296) h56 rfl
   intro n26 h26;conv=>cbv
   refine⟨fun _=>i64 (by omega),?_⟩
   refine⟨m.length-(k'+1),?_,?_⟩
   ·omega
   rw[hJ1]
   refine⟨l54,n1,n56.toNat,k'+1,n56,n26,rfl,rfl,⟨by rw[hl54,List.length_set];exact ho1,by rw[hl54,List.length_set];exact hn1,⟨by omega⟩,by omega,⟨by omega⟩,by omega⟩,?_,rfl⟩
   have hj:j54=i'+k':=by omega
   have hj2:j32=i'+k':=by omega
   rw[hj2] at hx33
   rw[getD_of hx38] at hinv1
   rw[hl54,hj,natL_take_succ hx43,show i'+(k'+1)=i'+k'+1 by omega,getD_of hx38]
   refine times_step (q:=x33) (xi:=x38.toNat) (yk:=x43.toNat) (old:=x33.toNat) (c:=c') rfl (by omega) hx33 rfl hinv1 ?_ rfl
   rw[ep] at h46
   omega
theorem YMul_ok (hx:IsI x b1 l1) (hy:IsI y b2 l2) (hz:IsI (x*y) b3 l3) (s1:l1.length≤17592186044416) (s2:l2.length≤17592186044416):CF 123 [.agg [.bool b1,.sl .u32 l1],.agg [.bool b2,.sl .u32 l2]] (.agg [.bool b3,.sl .u32 l3]):=by
 refine acall_fn Tryz.func123 (by kernel_rfl) rfl fun E hE=>?_
 conv=>cbv
 refine cA hE (YNorm_ok hx) ?_
 try conv=>cbv
 refine cA hE (YNorm_ok hy) ?_
 try conv=>cbv
 refine⟨fun _=>rfl,?_⟩
 intro n13 h13;conv=>cbv
 obtain⟨w18,hw18⟩:∃z:List UInt32,z=limbs (x.natAbs*y.natAbs):=⟨_,rfl⟩
 refine cA hE (Ytimes_ok hx.nat hy.nat hw18 s1 s2) ?_
 try conv=>cbv
 obtain⟨zb19,zl19,hz19⟩:=isI_ex (x*y)
 refine cL (r:= .agg [.bool zb19,.sl .u32 zl19]) hE (Ysigned_ok (by rw[hw18,natL_limbs,h13];exact mul_sgn hx.neg hy.neg) hz19) ⟨rfl,rfl,trivial⟩ ?_
 try conv=>cbv
 refine⟨fun _=>rfl,?_⟩
 exact fA ⟨⟨rfl,congrArg _ ((hz19.uniq hz rfl).1.symm),congrArg _ ((hz19.uniq hz rfl).2.symm),trivial⟩,trivial⟩ rfl (by simp)
theorem YAdd_ok (hx:IsI x b1 l1) (hy:IsI y b2 l2) (hz:IsI (x+y) b3 l3) (s1:l1.length≤17592186044416) (s2:l2.length≤17592186044416):CF 200 [.agg [.bool b1,.sl .u32 l1],.agg [.bool b2,.sl .u32 l2]] (.agg [.bool b3,.sl .u32 l3]):=by
 refine acall_fn Tryz.func200 (by kernel_rfl) rfl fun E hE=>?_
 conv=>cbv
 refine cA hE (YNorm_ok hx) ?_
 try conv=>cbv
 refine cA hE (YNorm_ok hy) ?_
 try conv=>cbv
 refine⟨fun _=>rfl,?_⟩
 intro n13 h13;conv=>cbv
 cases n13 <;> conv=>cbv
 ·have k13:=beq_f h13
  obtain⟨r26,hr26⟩:∃z:Int,z=cmpZ x.natAbs y.natAbs:=⟨_,rfl⟩
  refine cA hE (Ycompare_ok hx.mag hy.mag hr26) ?_
  try conv=>cbv
  intro n27 h27;conv=>cbv
  cases n27 <;> conv=>cbv
  ·have k27:=geq_f h27
   obtain⟨w42,hw42⟩:∃z:List UInt32,z=limbs (y.natAbs-x.natAbs):=⟨_,rfl⟩
   refine cL (r:= .one (.sl .u32 w42)) hE (Yminus_ok hy.mag hx.mag hw42 (by rw[hr26] at k27;have:=cmpZ_lt k27;omega) s2) ⟨rfl,rfl,trivial⟩ ?_
   try conv=>cbv
   obtain⟨zb43,zl43,hz43⟩:=isI_ex (x+y)
   refine cL (r:= .agg [.bool zb43,.sl .u32 zl43]) hE (Ysigned_ok (by rw[hw42,natL_limbs];rw[hr26] at k27;exact add_diff hx.neg hy.neg k13 (by have:=cmpZ_lt k27;omega)) hz43) ⟨rfl,rfl,trivial⟩ ?_
   try conv=>cbv
   refine⟨fun _=>rfl,?_⟩
   exact fA ⟨⟨rfl,congrArg _ ((hz43.uniq hz rfl).1.symm),congrArg _ ((hz43.uniq hz rfl).2.symm),trivial⟩,trivial⟩ rfl (by simp)
  ·have k27:=geq_t h27
   obtain⟨w34,hw34⟩:∃z:List UInt32,z=limbs (x.natAbs-y.natAbs):=⟨_,rfl⟩
   refine cL (r:= .one (.sl .u32 w34)) hE (Yminus_ok hx.mag hy.mag hw34 (by rw[hr26] at k27;have:=cmpZ_ge k27;omega) s1) ⟨rfl,rfl,trivial⟩ ?_
   try conv=>cbv
   obtain⟨zb35,zl35,hz35⟩:=isI_ex (x+y)
   refine cL (r:= .agg [.bool zb35,.sl .u32 zl35]) hE (Ysigned_ok (by rw[hw34,natL_limbs,Int.add_comm];rw[hr26] at k27;exact add_diff hy.neg hx.neg (Ne.symm k13) (by have:=cmpZ_ge k27;omega)) hz35) ⟨rfl,rfl,trivial⟩ ?_
   try conv=>cbv
   refine⟨fun _=>rfl,?_⟩
   exact fA ⟨⟨rfl,congrArg _ ((hz35.uniq hz rfl).1.symm),congrArg _ ((hz35.uniq hz rfl).2.symm),trivial⟩,trivial⟩ rfl (by simp)
 ·have k13:=beq_t h13
  obtain⟨w20,hw20⟩:∃z:List UInt32,z=limbs (x.natAbs+y.natAbs):=⟨_,rfl⟩
  refine cA hE (Yplus_ok hx.mag hy.mag hw20 s1 s2) ?_
  try conv=>cbv
  obtain⟨zb21,zl21,hz21⟩:=isI_ex (x+y)
  refine cL (r:= .agg [.bool zb21,.sl .u32 zl21]) hE (Ysigned_ok (by rw[hw20,natL_limbs];exact add_same hx.neg (k13.trans hy.neg)) hz21) ⟨rfl,rfl,trivial⟩ ?_
  try conv=>cbv
  refine⟨fun _=>rfl,?_⟩
  exact fA ⟨⟨rfl,congrArg _ ((hz21.uniq hz rfl).1.symm),congrArg _ ((hz21.uniq hz rfl).2.symm),trivial⟩,trivial⟩ rfl (by simp)
theorem YSub_ok (hx:IsI x b1 l1) (hy:IsI y b2 l2) (hz:IsI (x-y) b3 l3) (s1:l1.length≤17592186044416) (s2:l2.length≤17592186044416):CF 171 [.agg [.bool b1,.sl .u32 l1],.agg [.bool b2,.sl .u32 l2]] (.agg [.bool b3,.sl .u32 l3]):=by
 refine acall_fn Tryz.func171 (by kernel_rfl) rfl fun E hE=>?_
 conv=>cbv
 obtain⟨zb7,zl7,hz7⟩:=isI_ex (-y)
 refine cA hE (YNeg_ok hy hz7) ?_
 try conv=>cbv
 obtain⟨zb8,zl8,hz8⟩:=isI_ex (x-y)
 refine cL (r:= .agg [.bool zb8,.sl .u32 zl8]) hE (YAdd_ok hx hz7 hz8 s1 (by rw[hz7.mag,Int.natAbs_neg,←hy.mag];exact s2)) ⟨⟨rfl,rfl,trivial⟩,⟨rfl,rfl,trivial⟩,trivial⟩ ?_
 try conv=>cbv
 refine⟨fun _=>rfl,?_⟩
 exact fA ⟨⟨rfl,congrArg _ ((hz8.uniq hz rfl).1.symm),congrArg _ ((hz8.uniq hz rfl).2.symm),trivial⟩,trivial⟩ rfl (by simp)
theorem YCmp_ok (hx:IsI x b1 l1) (hy:IsI y b2 l2) {c:Int} (hc:c=cmpZ x y) (s1:l1.length≤17592186044416) (s2:l2.length≤17592186044416):CF 122 [.agg [.bool b1,.sl .u32 l1],.agg [.bool b2,.sl .u32 l2]] (.one (.int .i64 c)):=by
 refine acall_fn Tryz.func122 (by kernel_rfl) rfl fun E hE=>?_
 conv=>cbv
 obtain⟨zb7,zl7,hz7⟩:=isI_ex (x-y)
 refine cA hE (YSub_ok hx hy hz7 s1 s2) ?_
 try conv=>cbv
 obtain⟨r8,hr8⟩:∃z:Int,z=sgnI (x-y):=⟨_,rfl⟩
 refine cA hE (YSign_ok hz7 hr8) ?_
 try conv=>cbv
 exact fA ⟨⟨rfl,congrArg _ (by rw[hc,hr8,cmp_sgn]),trivial⟩,trivial⟩ rfl (by simp)
end Go.Abs
namespace Go.Abs
open Go.RowKit
variable {c:Int} {l:List UInt32} {n x:Nat}
theorem nbits_half (h:0<x):nbits x=nbits (x/2)+1:=by
 by_cases h1:x=1
 ·subst h1;decide
 ·have h2:x/2≠0:=by omega
  unfold nbits
  rw[if_neg (by omega),if_neg h2]
  have a:=Nat.log2_self_le h2
  have b:=Nat.lt_log2_self (n:=x/2)
  have c:Nat.log2 (x/2)+1≤Nat.log2 x:=(Nat.le_log2 (by omega)).2 (by rw[Nat.pow_succ];omega)
  have d:Nat.log2 x<Nat.log2 (x/2)+2:=(Nat.log2_lt (by omega)).2 (by rw[Nat.pow_succ,Nat.pow_succ];rw[Nat.pow_succ] at b;omega)
  omega
theorem nbits_spec (h:0<x):2^(nbits x-1)≤x∧x<2^nbits x∧1≤nbits x:=by
 unfold nbits
 rw[if_neg (by omega)]
 exact⟨by rw[Nat.add_sub_cancel];exact Nat.log2_self_le (by omega),Nat.lt_log2_self,by omega⟩
theorem nbits_32 (h:x<4294967296):nbits x≤32:=by
 unfold nbits
 split
 ·omega
 ·rename_i h0
  have:=(Nat.log2_lt h0).2 (show x<2^32 by omega)
  omega
theorem back_word {y r:Nat} (hn:n≤32):(x+4294967296*(y+4294967296*r))/2^n%4294967296=(x+4294967296*y)/2^n%4294967296:=by
 have hq:2^n*2^(32-n)=4294967296:=by rw[←Nat.pow_add,show n+(32-n)=32 by omega]
 have e:x+4294967296*(y+4294967296*r)=x+4294967296*y+2^n*(2^(32-n)*r*4294967296):=by
  rw[←Nat.mul_assoc,←Nat.mul_assoc,hq];grind
 rw[e,Nat.add_mul_div_left _ _ (Nat.two_pow_pos n),Nat.add_mul_mod_self_right]
theorem or_lohi {n a b:Int} {p q:Nat} (h:n=IntKind.u64.wrap (BitVec.ofInt IntKind.u64.bits a ||| BitVec.ofInt IntKind.u64.bits b).toNat) (ha:a=q) (hb:b=((p*4294967296:Nat):Int)) (hp:p<4294967296) (hq:q<4294967296):n=((q+4294967296*p:Nat):Int):=by
 rw[or_u64 h ha hb (by omega) (by omega),Nat.mul_comm]
 have:=or_add (a:=q) (b:=p) (d:=32) hq
 exact congrArg _ this
theorem top_guess {X V top high P R0 V0:Nat} (hX:X=top*P+R0) (hR:R0<P) (hV:V=high*P+V0) (hh:0<high):X/V≤top/high:=by
 have hP:0<P:=by omega
 have h1:X/V≤X/(high*P):=Nat.div_le_div_left (by omega) (Nat.mul_pos hh hP)
 have h2:X/(high*P)=X/P/high:=by rw[Nat.mul_comm,Nat.div_div_eq_div_mul]
 have h3:X/P=top:=by rw[hX,Nat.mul_comm,Nat.mul_add_div hP,Nat.div_eq_of_lt hR,Nat.add_zero]
 rw[h2,h3] at h1;exact h1
theorem Yshort_ok (hl:l.length≤2) (hc:NatIs c (natL l)):CF 237 [.one (.sl .u32 l)] (.one (.int .u64 c)):=by
 refine acall_fn Tryz.func237 (by kernel_rfl) rfl fun E hE=>?_
 conv=>cbv
 intro n6 h6;have e6:=h6.eq;have f6:=h6.le;conv=>cbv
 intro n7 h7;conv=>cbv
 refine⟨fun _=>i64 (by omega),?_⟩
 refine .inr ?_
 obtain⟨J0,hJ0⟩:∃J:List AV→List Blk→Nat→Prop,J=fun vs bl k=>∃(j' r':Nat) (r j:Int),vs=[.one (.sl .u32 l),.one (.int .u64 r),.one (.int .i64 j)]∧(NatIs (j+1) j'∧j'≤l.length∧NatIs r r')∧r'=natL (l.drop j')∧k=j':=⟨_,rfl⟩
 refine⟨[0,3,4],[],J0,⟨l.length,by rw[hJ0];exact⟨l.length,0,0,n7,rfl,⟨⟨by omega⟩,by omega,natIs 0⟩,by rw[List.drop_length];rfl,rfl⟩⟩,?_⟩
 intro vs bl kk0 hj;rw[hJ0] at hj
 obtain⟨j',r',r,j,rfl,⟨hj,hjL,hr⟩,hinv,hk0⟩:=hj
 conv=>cbv
 have ej:=hj.eq
 have er:=hr.eq
 intro n9 h9;conv=>cbv
 cases n9 <;> conv=>cbv
 ·have k9:=geq_f h9
  have hk:j'=0:=by omega
  rw[hk,List.drop_zero] at hinv
  exact fA ⟨⟨rfl,congrArg _ (by rw[hc.eq,er,hinv]),trivial⟩,trivial⟩ rfl (by simp)
 ·have k9:=geq_t h9
  refine .inr ?_
  intro n13 h13;conv=>cbv
  refine⟨fun _=>by omega,?_⟩
  have h13:=shl_u64 (p:=4294967296) h13 rfl
  obtain⟨i',rfl⟩:∃i',j'=i'+1:=⟨j'-1,by omega⟩
  have hr32:r'<4294967296:=by have:=natL_lt (l.drop (i'+1));rw[←hinv] at this;exact Nat.lt_of_lt_of_le this (Nat.pow_le_pow_right (by decide) (by rw[List.length_drop];omega:32*(l.drop (i'+1)).length≤32))
  obtain⟨x16,hx16⟩:=get_ex (l:=l) (i:=i') (by omega)
  refine⟨x16,fun _=>⟨by omega,by rw[show (j).toNat=i' by omega];exact hx16⟩,?_⟩
  try conv=>cbv
  intro n17 h17;have e17:=h17.eq;have f17:=h17.lt;conv=>cbv
  intro n18 h18;conv=>cbv
  have h18:=wrap_u64 h18
  intro n19 h19;conv=>cbv
  have h13b:n13=((r'*4294967296:Nat):Int):=by clear hinv;omega
  have h19:=or_hilo (p:=r') (q:=x16.toNat) h19 (by omega) (by omega) (by omega) (by omega)
  intro n11 h11;conv=>cbv
  refine⟨fun _=>i64 (by omega),?_⟩
  refine⟨i',?_,?_⟩
  ·omega
  rw[hJ0]
  refine⟨i',_,n19,n11,rfl,⟨⟨by omega⟩,by omega,⟨h19⟩⟩,?_,rfl⟩
  rw[drop_word hx16,hinv]
theorem Yby_ok {z1:List UInt32} {d:Int} {b:Nat} (hd:NatIs d b) (hb:0<b) (hb2:b<4294967296) (hz1:z1=limbs (natL l/b)) (hc:NatIs c (natL l%b)) (sl:l.length≤17592186044416):CF 238 [.one (.sl .u32 l),.one (.int .u32 d)] (.tup [(false,[.sl .u32 z1]),(false,[.int .u32 c])]):=by
 have ed:=hd.eq
 refine acall_fn Tryz.func238 (by kernel_rfl) rfl fun E hE=>?_
 conv=>cbv
 intro n10 h10;have e10:=h10.eq;have f10:=h10.le;conv=>cbv
 refine⟨fun _=>⟨by omega,by omega,by show _*4≤140737488355328;omega⟩,?_⟩
 intro k11 (l11:List UInt32) ql11;have hk11:=ql11.1;have hl11:l11=List.replicate k11 (0:el .u32):=ql11.2;have gl11:l11.length=k11:=by rw[hl11,List.length_replicate]
 conv=>cbv
 intro n13 h13;have e13:=h13.eq;have f13:=h13.le;conv=>cbv
 intro n14 h14;conv=>cbv
 refine⟨fun _=>i64 (by omega),?_⟩
 refine .inr ?_
 obtain⟨J0,hJ0⟩:∃J:List AV→List Blk→Nat→Prop,J=fun vs bl k=>∃(o:List UInt32) (m r' j':Nat) (r j:Int),vs=[.one (.sl .u32 l),.one (.int .u32 d),.one (.lsl .u32 11 0 0 m),.one (.int .u64 r),.one (.int .i64 j)]∧
  bl=[.arr 0 .u32 o]∧(o.length=l.length∧m=o.length∧NatIs (j+1) j'∧j'≤l.length∧NatIs r r'∧r'<b)∧
  natL (l.drop j')=natL (o.drop j')*b+r'∧k=j':=⟨_,rfl⟩
 refine⟨[0,1,6,7,8],[11],J0,⟨l.length,by rw[hJ0];exact⟨l11,k11,0,l.length,0,n14,rfl,rfl,⟨by rw[hl11,List.length_replicate];omega,by rw[hl11,List.length_replicate],⟨by omega⟩,by omega,natIs 0,hb⟩,by rw[List.drop_length,List.drop_eq_nil_of_le (by rw[hl11,List.length_replicate];omega)];simp[natL],rfl⟩⟩,?_⟩
 intro vs bl kk0 hj;rw[hJ0] at hj
 obtain⟨o,m,r',j',r,j,rfl,rfl,⟨ho,hm,hj,hjL,hr,hrb⟩,hinv,hk0⟩:=hj
 conv=>cbv
 have ej:=hj.eq
 have er:=hr.eq
 intro n16 h16;conv=>cbv
 cases n16 <;> conv=>cbv
 ·have k16:=geq_f h16
  have hnl40:m≤(o).length:=by omega
  obtain⟨m40,hm40⟩:∃z:Nat,z=(trimL ((o).take m)).length:=⟨_,rfl⟩
  obtain⟨hle40,htk40⟩:=trim_take hnl40 hm40
  refine .inr (.inr (.inl ⟨[],.one (.lsl .u32 0 0 0 m40),.arr 0 .u32 o,fun _=>⟨by first | decide | simp[idsV,idsC],trivial⟩,fun _=>⟨useB hE (Ytrim_B hnl40 (by omega) hm40),rfl,rfl⟩,?_⟩))
  try conv=>cbv
  intro n42 h42;conv=>cbv
  have h42:=wrap_u32 h42
  have hk:j'=0:=by omega
  rw[hk,List.drop_zero,List.drop_zero] at hinv
  have hq:natL o=natL l/b:=by rw[hinv,Nat.add_comm,Nat.add_mul_div_right _ _ hb,Nat.div_eq_of_lt hrb,Nat.zero_add]
  have hr2:r'=natL l%b:=by rw[hinv,Nat.add_comm,Nat.add_mul_mod_self_right,Nat.mod_eq_of_lt hrb]
  exact fA ⟨⟨rfl,.inl ⟨_,rfl,by omega,congrArg _ (by rw[List.drop_zero,htk40,hz1,hm,List.take_length,hq])⟩,trivial⟩,⟨rfl,congrArg _ (by rw[hc.eq,←hr2];omega),trivial⟩,trivial⟩ rfl (by simp)
 ·have k16:=geq_t h16
  refine .inr ?_
  intro n20 h20;conv=>cbv
  refine⟨fun _=>by omega,?_⟩
  have h20:=shl_u64 (p:=4294967296) h20 rfl
  have h20:n20=((r'*4294967296:Nat):Int):=by clear hinv;omega
  obtain⟨i',rfl⟩:∃i',j'=i'+1:=⟨j'-1,by omega⟩
  obtain⟨x23,hx23⟩:=get_ex (l:=l) (i:=i') (by omega)
  refine⟨x23,fun _=>⟨by omega,by rw[show (j).toNat=i' by omega];exact hx23⟩,?_⟩
  try conv=>cbv
  intro n24 h24;have e24:=h24.eq;have f24:=h24.lt;conv=>cbv
  intro n25 h25;conv=>cbv
  have h25:=wrap_u64 h25
  intro n26 h26;conv=>cbv
  have h26:=or_hilo (p:=r') (q:=x23.toNat) h26 (by omega) (by omega) (by omega) (by omega)
  intro n31 h31;conv=>cbv
  have h31:=wrap_u64 h31
  intro n32 h32;conv=>cbv
  refine⟨fun _=>⟨by omega,by omega⟩,?_⟩
  have h32:=wrap_u64 h32
  intro n33 h33;conv=>cbv
  have h33:=wrap_u32 h33
  have e31:n31=(b:Int):=by omega
  have e32:n32=(((x23.toNat+4294967296*r')/b:Nat):Int):=by rw[h32,h26,e31,←Int.natCast_ediv];have:=Nat.div_le_self (x23.toNat+4294967296*r') b;generalize (x23.toNat+4294967296*r')/b=Q at *;clear hinv;omega
  refine⟨fun _=>⟨by omega,by omega⟩,?_⟩
  intro j34 hj34;conv=>cbv
  obtain⟨w34,hw34⟩:=u32_ex (n:=n33) (by omega)
  have ew34:=hw34.eq;have fw34:=hw34.lt
  refine⟨w34,fun _=>⟨by show _<List.length (α:=UInt32) o;(first | omega | (simp;omega)),put_w hw34⟩,?_⟩
  intro (l34:List UInt32) (hl34:l34=List.set (α:=UInt32) o j34 w34);have gl34:l34.length=o.length:=by rw[hl34,List.length_set]
  conv=>cbv
  intro n37 h37;conv=>cbv
  have h37:=wrap_u64 h37
  intro n38 h38;conv=>cbv
  refine⟨fun _=>⟨by omega,by omega⟩,?_⟩
  intro n18 h18;conv=>cbv
  refine⟨fun _=>i64 (by omega),?_⟩
  refine⟨i',?_,?_⟩
  ·omega
  rw[hJ0]
  have e37:n37=(b:Int):=by omega
  have h5:=Nat.div_add_mod (x23.toNat+4294967296*r') b
  refine⟨l34,m,(x23.toNat+4294967296*r')%b,i',n38,n18,rfl,rfl,⟨by omega,by omega,⟨by omega⟩,by omega,⟨by rw[h38,h26,e37];simp⟩,Nat.mod_lt _ hb⟩,?_,rfl⟩
  have hqb:(x23.toNat+4294967296*r')/b<4294967296:=Nat.div_lt_of_lt_mul (by
   have:4294967296*(r'+1)≤4294967296*b:=Nat.mul_le_mul_left _ hrb
   rw[Nat.mul_comm b]
   omega)
  have ew:w34.toNat=(x23.toNat+4294967296*r')/b:=by
   rw[e32] at h33
   generalize (x23.toNat+4294967296*r')/b=Q at*
   clear hinv
   omega
  rw[drop_word hx23,hinv,hl34,drop_word (l:=o.set j34 w34) (i:=i') (x:=w34) (by rw[show j34=i' by omega,List.getElem?_set_self (by omega)]),show j34=i' by omega,List.drop_set_of_lt (by omega),ew]
  generalize (x23.toNat+4294967296*r')/b=Q at*
  generalize (x23.toNat+4294967296*r')%b=R at*
  grind
theorem Ylength_ok {a:Nat} (hl:l=limbs a) (hc:NatIs c (nbits a)) (sl:l.length≤17592186044416):CF 239 [.one (.sl .u32 l)] (.one (.int .i64 c)):=by
 refine acall_fn Tryz.func239 (by kernel_rfl) rfl fun E hE=>?_
 conv=>cbv
 intro n6 h6;have e6:=h6.eq;have f6:=h6.le;conv=>cbv
 intro n7 h7;conv=>cbv
 cases n7 <;> conv=>cbv
 ·have k7:=eql_f h7
  intro n10 h10;have e10:=h10.eq;have f10:=h10.le;conv=>cbv
  intro n11 h11;conv=>cbv
  refine⟨fun _=>i64 (by omega),?_⟩
  obtain⟨x12,hx12⟩:=get_ex (l:=l) (i:=(l.length-1)) (by omega)
  refine⟨x12,fun _=>⟨by omega,by rw[show (n11).toNat=(l.length-1) by omega];exact hx12⟩,?_⟩
  try conv=>cbv
  intro n13 h13;have e13:=h13.eq;have f13:=h13.lt;conv=>cbv
  refine .inr ?_
  obtain⟨J0,hJ0⟩:∃J:List AV→List Blk→Nat→Prop,J=fun vs bl k=>∃(c' x':Nat) (n x:Int),vs=[.one (.sl .u32 l),.one (.int .i64 n),.one (.int .u32 x)]∧(NatIs n c'∧NatIs x x'∧x'<4294967296)∧c'+nbits x'=nbits x12.toNat∧k=x':=⟨_,rfl⟩
  refine⟨[0,3,4],[],J0,⟨x12.toNat,by rw[hJ0];exact⟨0,x12.toNat,0,n13,rfl,⟨natIs 0,⟨by omega⟩,by omega⟩,Nat.zero_add _,rfl⟩⟩,?_⟩
  intro vs bl kk0 hj;rw[hJ0] at hj
  obtain⟨c',x',n,x,rfl,⟨hn,hx,hx32⟩,hinv,hk0⟩:=hj
  conv=>cbv
  have en:=hn.eq
  have ex:=hx.eq
  have h32:=nbits_32 (x:=x12.toNat) (by omega)
  intro n15 h15;conv=>cbv
  cases n15 <;> conv=>cbv
  ·have k15:=gtr_f h15
   intro n21 h21;have e21:=h21.eq;have f21:=h21.le;conv=>cbv
   intro n22 h22;conv=>cbv
   refine⟨fun _=>i64 (by omega),?_⟩
   intro n23 h23;conv=>cbv
   refine⟨fun _=>i64 (by omega),?_⟩
   intro n25 h25;conv=>cbv
   refine⟨fun _=>i64 (by omega),?_⟩
   have hx12b:=hx12
   rw[hl] at hx12b
   have hxl:(limbs a).length-1+1=(limbs a).length:=by rw[←hl];omega
   have hx120:=canon_last hx12b hxl
   have hs:=nbits_spec (x:=x12.toNat) (by omega)
   have hbw:=bits_words hx12b hxl hs.1 hs.2.1 hs.2.2
   have hx0:x'=0:=by omega
   have h0:nbits 0=0:=rfl
   rw[hx0,h0] at hinv
   rw[←hl] at hbw
   exact fA ⟨⟨rfl,congrArg _ (by rw[hc.eq,hbw];omega),trivial⟩,trivial⟩ rfl (by simp)
  ·have k15:=gtr_t h15
   refine .inr ?_
   intro n19 h19;conv=>cbv
   refine⟨fun _=>i64 (by omega),?_⟩
   intro n17 h17;conv=>cbv
   refine⟨fun _=>⟨by omega,by omega⟩,?_⟩
   have h17:=wrap_u32 h17
   have hx0:0<x':=by omega
   refine⟨x'/2,?_,?_⟩
   ·omega
   rw[hJ0]
   refine⟨c'+1,x'/2,n19,n17,rfl,⟨⟨by omega⟩,⟨by omega⟩,by omega⟩,?_,rfl⟩
   have:=nbits_half hx0
   omega
 ·have k7:=eql_t h7
  have h0:a=0:=limbs_eq_nil.1 (by rw[←hl];exact List.eq_nil_of_length_eq_zero (by omega))
  exact fA ⟨⟨rfl,congrArg _ (by rw[hc.eq,h0];rfl),trivial⟩,trivial⟩ rfl (by simp)
theorem Yshifted_own {z:List UInt32} {s:Int} {zn:Nat} (hs:NatIs s n) (hn:n≤31) (hz1:z.length=l.length+1) (hz2:natL z=natL l*2^n) (hzn:zn=z.length) (sl:l.length≤17592186044416):CF 240 [.one (.sl .u32 l),.one (.int .i64 s)] (.one (.own .u32 z zn)):=by
 have es:=hs.eq
 refine acall_fn Tryz.func240 (by kernel_rfl) rfl fun E hE=>?_
 conv=>cbv
 intro n9 h9;have e9:=h9.eq;have f9:=h9.le;conv=>cbv
 intro n10 h10;conv=>cbv
 refine⟨fun _=>i64 (by omega),?_⟩
 refine⟨fun _=>⟨by omega,by omega,by show _*4≤140737488355328;omega⟩,?_⟩
 intro k11 (l11:List UInt32) ql11;have hk11:=ql11.1;have hl11:l11=List.replicate k11 (0:el .u32):=ql11.2;have gl11:l11.length=k11:=by rw[hl11,List.length_replicate]
 conv=>cbv
 refine .inr ?_
 obtain⟨J0,hJ0⟩:∃J:List AV→List Blk→Nat→Prop,J=fun vs bl k=>∃(o:List UInt32) (c:UInt32) (m i':Nat) (i:Int),vs=[.one (.sl .u32 l),.one (.int .i64 s),.one (.lsl .u32 11 0 0 m),.one (.int .i64 i)]∧
  bl=[.arr 0 .u32 o]∧(o.length=l.length+1∧m=o.length∧NatIs i i'∧i'≤l.length)∧(o[i']? =some c∧c.toNat<2^n)∧
  natL (o.take i')+2^(32*i')*c.toNat=natL (l.take i')*2^n∧k=l.length-i':=⟨_,rfl⟩
 refine⟨[0,1,5,6],[11],J0,⟨l.length-0,by rw[hJ0];exact⟨l11,0,k11,0,0,rfl,rfl,⟨by rw[hl11,List.length_replicate];omega,by rw[hl11,List.length_replicate],natIs 0,by omega⟩,⟨by rw[hl11,List.getElem?_replicate,if_pos (by omega)],Nat.two_pow_pos n⟩,by simp[natL],rfl⟩⟩,?_⟩
 intro vs bl kk0 hj;rw[hJ0] at hj
 obtain⟨o,c,m,i',i,rfl,rfl,⟨ho,hm,hi,hiL⟩,⟨hc,hcn⟩,hinv,hk0⟩:=hj
 conv=>cbv
 have ei:=hi.eq
 intro n14 h14;have e14:=h14.eq;have f14:=h14.le;conv=>cbv
 intro n15 h15;conv=>cbv
 cases n15 <;> conv=>cbv
 ·have k15:=lss_f h15
  have hk:i'=l.length:=by omega
  have hfin:natL o=natL l*2^n:=by rw[hk,List.take_length,←natL_take_succ (l:=o) (by rw[←hk];exact hc),List.take_of_length_le (by omega)] at hinv;exact hinv
  exact fA ⟨⟨rfl,.inr (.inl ⟨_,_,by decide,rfl,rfl,hm,rfl,own_eq (natL_inj (by omega) (by rw[hz2,hfin])) (by omega)⟩),trivial⟩,trivial⟩ rfl (by simp)
 ·have k15:=lss_t h15
  refine .inr ?_
  obtain⟨x20,hx20⟩:=get_ex (l:=l) (i:=i') (by omega)
  refine⟨x20,fun _=>⟨by omega,by rw[show (i).toNat=i' by omega];exact hx20⟩,?_⟩
  try conv=>cbv
  intro n21 h21;have e21:=h21.eq;have f21:=h21.lt;conv=>cbv
  intro n22 h22;conv=>cbv
  have h22:=wrap_u64 h22
  intro n24 h24;conv=>cbv
  refine⟨fun _=>by omega,?_⟩
  have b24:x20.toNat*2^n<9223372036854775808:=Nat.mul_lt_mul_of_lt_of_le (by omega:x20.toNat<4294967296) (Nat.pow_le_pow_right (by decide) hn:2^n≤2^31) (by decide)
  obtain⟨q24,hq24,h24⟩:∃q:Nat,q=x20.toNat*2^n∧n24=q:=⟨_,rfl,(shl_var64 (p:=x20.toNat) (e:=n) h24 (by omega) (by omega) (by omega)).trans (by congr 1;exact Nat.mod_eq_of_lt (by omega))⟩
  rw[←hq24] at b24
  refine⟨fun _=>⟨by omega,by omega⟩,?_⟩
  intro j29 hj29;conv=>cbv
  obtain⟨x30,hx30⟩:=get_ex (l:=o) (i:=j29) (by omega)
  refine⟨x30,fun _=>hx30,?_⟩
  try conv=>cbv
  intro n30 h30;have e30:=h30.eq;have f30:=h30.lt;conv=>cbv
  intro n32 h32;conv=>cbv
  have h32:=wrap_u32 h32
  intro n33 h33;conv=>cbv
  have bo:0≤n33∧n33<4294967296:=by rw[wrap_u32 h33];omega
  refine⟨fun _=>⟨by omega,by omega⟩,?_⟩
  intro j34 hj34;conv=>cbv
  obtain⟨w34,hw34⟩:=u32_ex (n:=n33) (by omega)
  have ew34:=hw34.eq;have fw34:=hw34.lt
  refine⟨w34,fun _=>⟨by show _<List.length (α:=UInt32) o;(first | omega | (simp;omega)),put_w hw34⟩,?_⟩
  intro (l34:List UInt32) (hl34:l34=List.set (α:=UInt32) o j34 w34);have gl34:l34.length=o.length:=by rw[hl34,List.length_set]
  conv=>cbv
  intro n37 h37;conv=>cbv
  refine⟨fun _=>i64 (by omega),?_⟩
  intro n39 h39;conv=>cbv
  refine⟨fun _=>by omega,?_⟩
  have h39:=shr_lit (p:=4294967296) h39 rfl
  intro n40 h40;conv=>cbv
  have h40:=wrap_u32 h40
  refine⟨fun _=>⟨by omega,by omega⟩,?_⟩
  intro j41 hj41;conv=>cbv
  obtain⟨w41,hw41⟩:=u32_ex (n:=n40) (by omega)
  have ew41:=hw41.eq;have fw41:=hw41.lt
  refine⟨w41,fun _=>⟨by show _<List.length (α:=UInt32) l34;(first | omega | (simp;omega)),put_w hw41⟩,?_⟩
  intro (l41:List UInt32) (hl41:l41=List.set (α:=UInt32) l34 j41 w41);have gl41:l41.length=l34.length:=by rw[hl41,List.length_set]
  conv=>cbv
  intro n17 h17;conv=>cbv
  refine⟨fun _=>i64 (by omega),?_⟩
  refine⟨l.length-(i'+1),?_,?_⟩
  ·omega
  rw[hJ0]
  have hq:2^n*2^(32-n)=4294967296:=by rw[←Nat.pow_add,show n+(32-n)=32 by omega]
  have ec:x30=c:=by rw[show j29=i' by omega,hc] at hx30;exact (Option.some.inj hx30).symm
  have hlo:q24%4294967296=2^n*(x20.toNat%2^(32-n)):=by rw[hq24,Nat.mul_comm x20.toNat,←hq,Nat.mul_mod_mul_left]
  have h6:=or_u32 h33 (p:=c.toNat) (q:=q24%4294967296) (by rw[e30,ec]) (by omega) (by have:=c.toNat_lt;omega) (by omega)
  rw[hlo,or_add hcn,←hlo] at h6
  have hhi:w41.toNat<2^n:=by
   have:q24/4294967296<2^n:=Nat.div_lt_of_lt_mul (by rw[hq24];exact (Nat.mul_lt_mul_right (Nat.two_pow_pos n)).2 (by omega))
   omega
  refine⟨l41,w41,m,i'+1,n17,rfl,rfl,⟨by omega,by omega,⟨by omega⟩,by omega⟩,⟨by rw[hl41,show j41=i'+1 by omega,List.getElem?_set_self (by omega)],hhi⟩,?_,rfl⟩
  rw[hl41,show j41=i'+1 by omega,take_set_le (Nat.le_refl _),hl34,show j34=i' by omega,take_set_succ (by omega),natL_snoc,List.length_take,Nat.min_eq_left (by omega),natL_take_succ hx20,pow32,Nat.add_mul,←hinv]
  have e1:w34.toNat+4294967296*w41.toNat=c.toNat+x20.toNat*2^n:=by rw[←hq24];omega
  have e2:2^(32*i')*(w34.toNat+4294967296*w41.toNat)=2^(32*i')*(c.toNat+x20.toNat*2^n):=by rw[e1]
  generalize 2^(32*i')=P at*
  generalize 2^n=N at*
  grind
end Go.Abs
