/- Part 27 of a proof. Conditions: each theorem's own. -/
import Derived.Test.YtpccjlcpbehglaaGreatPk23
set_option linter.all false
set_option maxHeartbeats 8000000
open Go.Proofs
namespace Go.Abs
open Go.RowKit
variable {a n:Nat} {b c:Bool} {l m z:List UInt32} {x:Int}
theorem signed_v {w:List UInt32} (hx:x= -(natL l:Int)) (hw:w=limbs (natL l)) (hc:c=true↔0<w.length):IsI x c w:=by
 by_cases h0:natL l=0
 ·have hw0:w=[]:=by rw[hw,limbs_eq_nil.2 h0]
  have hc0:c=false:=by
   cases c with
   | false=>rfl
   | true=>have:=hc.1 rfl;rw[hw0] at this;simp at this
  subst hc0
  exact .val hw.symm (by rw[hx,h0];simp) (fun _=>rfl)
 ·have hc1:c=true:=hc.2 (List.length_pos_iff.2 (fun e=>h0 (limbs_eq_nil.1 (by rw[←hw];exact e))))
  subst hc1
  exact .val hw.symm (by rw[hx];rfl) (fun e=>absurd e h0)
theorem Ytrim_A (hn:natL l=n) (hz:z=limbs n):CF 213 [.one (.sl .u32 l)] (.one (.sl .u32 z)):=by
 have hz:trimL l=z:=by rw[hz,←hn,trimL_eq]
 refine acall_fn Tryz.func213 (by kernel_rfl) rfl fun E hE=>?_
 conv=>cbv
 refine .inr ?_
 obtain⟨J0,hJ0⟩:∃J:List AV→List Blk→Nat→Prop,J=fun vs bl k=>∃m:List UInt32,vs=[.one (.sl .u32 m)]∧trimL m=z∧k=m.length:=⟨_,rfl⟩
 refine⟨[0],[],J0,⟨l.length,by rw[hJ0];exact⟨l,rfl,hz,rfl⟩⟩,?_⟩
 intro vs bl kk0 hj;rw[hJ0] at hj
 obtain⟨m,rfl,hmz,hk0⟩:=hj
 conv=>cbv
 intro n4 h4;have e4:=h4.eq;have f4:=h4.le;conv=>cbv
 intro n5 h5;conv=>cbv
 cases n5 <;> conv=>cbv
 ·have k5:=gtr_f h5
  have hm0:m=[]:=List.eq_nil_of_length_eq_zero (by omega)
  exact fA ⟨⟨rfl,congrArg _ (by rw[←hmz,hm0];rfl),trivial⟩,trivial⟩ rfl (by simp)
 ·have k5:=gtr_t h5
  intro n9 h9;have e9:=h9.eq;have f9:=h9.le;conv=>cbv
  intro n10 h10;conv=>cbv
  refine⟨fun _=>i64 (by omega),?_⟩
  obtain⟨x11,hx11⟩:=get_ex (l:=m) (i:=(n10).toNat) (by omega)
  refine⟨x11,fun _=>⟨by omega,hx11⟩,?_⟩
  try conv=>cbv
  intro n12 h12;have e12:=h12.eq;have f12:=h12.lt;conv=>cbv
  intro n13 h13;conv=>cbv
  cases n13 <;> conv=>cbv
  ·have k13:=eql_f h13
   have hx0:x11≠0:=fun h=>by subst h;exact k13 h12.eq
   have e2:m=m.take (n10).toNat++[x11]:=by have:=take_snoc hx11;rw[List.take_of_length_le (by omega)] at this;exact this
   exact fA ⟨⟨rfl,congrArg _ (by rw[←hmz,e2,trimL_ne hx0]),trivial⟩,trivial⟩ rfl (by simp)
  ·have k13:=eql_t h13
   refine .inr ?_
   intro n17 h17;have e17:=h17.eq;have f17:=h17.le;conv=>cbv
   intro n18 h18;conv=>cbv
   refine⟨fun _=>i64 (by omega),?_⟩
   intro m19 hm19;conv=>cbv
   refine⟨fun _=>⟨by omega,by omega⟩,?_⟩
   intro b19 hb19;conv=>cbv
   intro l19 hl19;conv=>cbv
   refine⟨l19.length,?_,?_⟩
   ·rw[hl19];simp;omega
   rw[hJ0]
   have el:l19=m.take (n10).toNat:=by rw[hl19,show b19=(n10).toNat by omega];simp
   refine⟨l19,rfl,?_,rfl⟩
   obtain rfl:x11=0:=UInt32.toNat_inj.1 (by show _=0;omega)
   have e2:m=m.take (n10).toNat++[0]:=by
    have:=take_snoc hx11
    rw[List.take_of_length_le (by omega)] at this
    exact this
   rw[el,←hmz]
   conv=>rhs;rw[e2]
   rw[trimL_zero]
theorem Ytrim_B {m:Nat} (hn:n≤l.length) (hl:l.length≤140737488355328) (hm:m=(trimL (l.take n)).length):BCall Tryz.prog 213 (.lsl .u32 0 0 0 n) (.arr 0 .u32 l) [] (.one (.lsl .u32 0 0 0 m)) (.arr 0 .u32 l):=by
 refine bcall_fn Tryz.func213 (by kernel_rfl) rfl fun E hE=>?_
 conv=>cbv
 refine .inr ?_
 obtain⟨J0,hJ0⟩:∃J:List AV→List Blk→Nat→Prop,J=fun vs bl k=>∃q:Nat,vs=[.one (.lsl .u32 0 0 0 q)]∧bl=[.arr 0 .u32 l]∧q≤l.length∧m=(trimL (l.take q)).length∧k=q:=⟨_,rfl⟩
 refine⟨[0],[0],J0,⟨n,by rw[hJ0];exact⟨n,rfl,rfl,hn,hm,rfl⟩⟩,?_⟩
 intro vs bl kk0 hj;rw[hJ0] at hj
 obtain⟨q,rfl,rfl,hq,hmq,hk0⟩:=hj
 conv=>cbv
 intro n4 h4;have e4:=h4.eq;conv=>cbv
 intro n5 h5;conv=>cbv
 cases n5 <;> conv=>cbv
 ·have k5:=gtr_f h5
  refine⟨fun _=>⟨⟨⟨rfl,.inr (.inr ⟨rfl,rfl,congrArg (AC.lsl .u32 0 0 0) (by rw[hmq,show q=0 by omega];rfl)⟩),trivial⟩,trivial⟩,rfl,by simp⟩,fun _=>rfl⟩
 ·have k5:=gtr_t h5
  intro n9 h9;have e9:=h9.eq;conv=>cbv
  intro n10 h10;conv=>cbv
  refine⟨fun _=>i64 (by omega),?_⟩
  refine⟨fun _=>⟨by omega,by omega⟩,?_⟩
  intro j11 hj11;conv=>cbv
  obtain⟨x12,hx12⟩:=get_ex (l:=l) (i:=j11) (by omega)
  refine⟨x12,fun _=>hx12,?_⟩
  try conv=>cbv
  intro n12 h12;have e12:=h12.eq;have f12:=h12.lt;conv=>cbv
  intro n13 h13;conv=>cbv
  cases n13 <;> conv=>cbv
  ·have k13:=eql_f h13
   have hx0:x12≠0:=fun h=>by subst h;exact k13 h12.eq
   refine⟨fun _=>⟨⟨⟨rfl,.inr (.inr ⟨rfl,rfl,congrArg (AC.lsl .u32 0 0 0) (by rw[hmq,show q=j11+1 by omega,take_snoc hx12,trimL_ne hx0,List.length_append,List.length_take];simp;omega)⟩),trivial⟩,trivial⟩,rfl,by simp⟩,fun _=>rfl⟩
  ·have k13:=eql_t h13
   refine .inr ?_
   intro n17 h17;have e17:=h17.eq;conv=>cbv
   intro n18 h18;conv=>cbv
   refine⟨fun _=>i64 (by omega),?_⟩
   refine⟨fun _=>⟨by omega,by omega⟩,?_⟩
   intro b19 hb19;conv=>cbv
   rintro o19 c19 ⟨ho19,hc19⟩;conv=>cbv
   refine⟨c19,?_,?_⟩
   ·omega
   rw[hJ0]
   obtain rfl:o19=0:=by omega
   refine⟨c19,rfl,rfl,by omega,?_,rfl⟩
   obtain rfl:x12=0:=UInt32.toNat_inj.1 (by show _=0;omega)
   rw[hmq,show q=c19+1 by omega,take_snoc (x:=0) (by rw[show c19=j11 by omega];exact hx12),trimL_zero]
theorem Ysigned_ok {n:Bool} (hx:x=if n=true then -(natL l:Int) else natL l) (hz:IsI x b z):CF 173 [.one (.bool n),.one (.sl .u32 l)] (.agg [.bool b,.sl .u32 z]):=by
 refine acall_fn Tryz.func173 (by kernel_rfl) rfl fun E hE=>?_
 conv=>cbv
 obtain⟨w6,hw6⟩:∃z:List UInt32,z=limbs (natL l):=⟨_,rfl⟩
 refine cA hE (Ytrim_A rfl hw6) ?_
 try conv=>cbv
 cases n <;> conv=>cbv
 ·have hv:IsI x false w6:= .val hw6.symm hx (fun _=>rfl)
  exact fA ⟨⟨rfl,congrArg _ ((hv.uniq hz rfl).1.symm),congrArg _ ((hv.uniq hz rfl).2.symm),trivial⟩,trivial⟩ rfl (by simp)
 ·intro n10 h10;have e10:=h10.eq;have f10:=h10.le;conv=>cbv
  intro n11 h11;conv=>cbv
  have hv:IsI x n11 w6:=signed_v (by rw[hx];rfl) hw6 (by rw[h11,decide_eq_true_eq];omega)
  exact fA ⟨⟨rfl,congrArg _ ((hv.uniq hz rfl).1.symm),congrArg _ ((hv.uniq hz rfl).2.symm),trivial⟩,trivial⟩ rfl (by simp)
theorem Ywords_ok {n:Int} {k:Nat} (hn:NatIs n k) (hk:k<18446744073709551616) (hz:z=limbs k):CF 178 [.one (.int .u64 n)] (.one (.sl .u32 z)):=by
 have en:=hn.eq
 refine acall_fn Tryz.func178 (by kernel_rfl) rfl fun E hE=>?_
 conv=>cbv
 intro n4 h4;conv=>cbv
 have h4:=wrap_u32 h4
 intro n6 h6;conv=>cbv
 refine⟨fun _=>by omega,?_⟩
 have h6:=shr_lit (p:=4294967296) h6 rfl
 intro n7 h7;conv=>cbv
 have h7:=wrap_u32 h7
 obtain⟨w8_0,hw8_0⟩:=u32_ex (n:=n4) (by omega)
 have ew8_0:=hw8_0.eq;have fw8_0:=hw8_0.lt
 obtain⟨w8_1,hw8_1⟩:=u32_ex (n:=n7) (by omega)
 have ew8_1:=hw8_1.eq;have fw8_1:=hw8_1.lt
 refine⟨[w8_0,w8_1],fun _=>⟨rfl,by decide,rfl,⟨rfl,put_w hw8_0,⟨rfl,put_w hw8_1,trivial⟩⟩⟩,.inl ?_⟩
 try conv=>cbv
 obtain⟨m9,hm9⟩:∃z:Nat,z=(trimL ([w8_0,w8_1].take 2)).length:=⟨_,rfl⟩
 obtain⟨hle9,htk9⟩:=trim_take (by simp) hm9
 refine .inr (.inr (.inl ⟨[],.one (.lsl .u32 0 0 0 m9),.arr 0 .u32 [w8_0,w8_1],fun _=>⟨by first | decide | simp[idsV,idsC],trivial⟩,fun _=>⟨useB hE (Ytrim_B (by simp) (by simp) hm9),rfl,rfl⟩,?_⟩))
 try conv=>cbv
 exact fA ⟨⟨rfl,.inl ⟨_,rfl,by simp;omega,congrArg _ (by rw[List.drop_zero,htk9,hz];congr 1;simp[natL];omega)⟩,trivial⟩,trivial⟩ rfl (by simp)
theorem YFromInt_ok (hx: -9223372036854775808≤x∧x<9223372036854775808) (hz:IsI x b z):CF 126 [.one (.int .i64 x)] (.agg [.bool b,.sl .u32 z]):=by
 refine acall_fn Tryz.func126 (by kernel_rfl) rfl fun E hE=>?_
 conv=>cbv
 intro n4 h4;conv=>cbv
 cases n4 <;> conv=>cbv
 ·have k4:=lss_f h4
  intro n11 h11;conv=>cbv
  have h11:=wrap_u64 h11
  obtain⟨w12,hw12⟩:∃z:List UInt32,z=limbs x.natAbs:=⟨_,rfl⟩
  refine cL hE (Ywords_ok (NatIs.of (k:=x.natAbs) (by omega)) (by omega) hw12) ⟨rfl,trivial⟩ ?_
  try conv=>cbv
  obtain⟨zb13,zl13,hz13⟩:=isI_ex (x)
  refine cL (r:= .agg [.bool zb13,.sl .u32 zl13]) hE (Ysigned_ok (n:=false) (by rw[hw12,natL_limbs];simp;omega) hz13) ⟨rfl,rfl,trivial⟩ ?_
  try conv=>cbv
  exact fA ⟨⟨rfl,congrArg _ ((hz13.uniq hz rfl).1.symm),congrArg _ ((hz13.uniq hz rfl).2.symm),trivial⟩,trivial⟩ rfl (by simp)
 ·have k4:=lss_t h4
  intro n6 h6;conv=>cbv
  have h6:=wrap_u64 h6
  intro n7 h7;conv=>cbv
  have h7:=wrap_u64 h7
  obtain⟨w8,hw8⟩:∃z:List UInt32,z=limbs x.natAbs:=⟨_,rfl⟩
  refine cL hE (Ywords_ok (NatIs.of (k:=x.natAbs) (by omega)) (by omega) hw8) ⟨rfl,trivial⟩ ?_
  try conv=>cbv
  obtain⟨zb9,zl9,hz9⟩:=isI_ex (x)
  refine cL (r:= .agg [.bool zb9,.sl .u32 zl9]) hE (Ysigned_ok (n:=true) (by rw[hw8,natL_limbs];simp;omega) hz9) ⟨rfl,rfl,trivial⟩ ?_
  try conv=>cbv
  exact fA ⟨⟨rfl,congrArg _ ((hz9.uniq hz rfl).1.symm),congrArg _ ((hz9.uniq hz rfl).2.symm),trivial⟩,trivial⟩ rfl (by simp)
theorem YNorm_raw (hx:x=if b=true then -(natL l:Int) else natL l) (hz:IsI x c z):CF 172 [.agg [.bool b,.sl .u32 l]] (.agg [.bool c,.sl .u32 z]):=by
 refine acall_fn Tryz.func172 (by kernel_rfl) rfl fun E hE=>?_
 conv=>cbv
 obtain⟨zb7,zl7,hz7⟩:=isI_ex (x)
 refine cA hE (Ysigned_ok hx hz7) ?_
 try conv=>cbv
 exact fA ⟨⟨rfl,congrArg _ ((hz7.uniq hz rfl).1.symm),congrArg _ ((hz7.uniq hz rfl).2.symm),trivial⟩,trivial⟩ rfl (by simp)
theorem YNorm_ok (hx:IsI x b l):CF 172 [.agg [.bool b,.sl .u32 l]] (.agg [.bool b,.sl .u32 l]):=YNorm_raw hx.sgn hx
theorem YNeg_ok (hx:IsI x b l) (hz:IsI (-x) c z):CF 176 [.agg [.bool b,.sl .u32 l]] (.agg [.bool c,.sl .u32 z]):=by
 refine acall_fn Tryz.func176 (by kernel_rfl) rfl fun E hE=>?_
 conv=>cbv
 intro n5 h5;conv=>cbv
 obtain⟨zb8,zl8,hz8⟩:=isI_ex (-x)
 refine cL (r:= .agg [.bool zb8,.sl .u32 zl8]) hE (Ysigned_ok (by rw[h5];exact sgn_neg hx.sgn) hz8) ⟨rfl,rfl,trivial⟩ ?_
 try conv=>cbv
 exact fA ⟨⟨rfl,congrArg _ ((hz8.uniq hz rfl).1.symm),congrArg _ ((hz8.uniq hz rfl).2.symm),trivial⟩,trivial⟩ rfl (by simp)
theorem YSign_ok {c:Int} (hx:IsI x b l) (hc:c=sgnI x):CF 170 [.agg [.bool b,.sl .u32 l]] (.one (.int .i64 c)):=by
 refine acall_fn Tryz.func170 (by kernel_rfl) rfl fun E hE=>?_
 conv=>cbv
 refine cA hE (YNorm_ok hx) ?_
 try conv=>cbv
 intro n7 h7;have e7:=h7.eq;have f7:=h7.le;conv=>cbv
 intro n8 h8;conv=>cbv
 cases n8 <;> conv=>cbv
 ·have k8:=eql_f h8
  cases b <;> conv=>cbv
  ·have h0:natL l≠0:=fun e=>by rw[hx.mag] at e7;have:=hx.nat;rw[e] at this;rw[←this] at e7;exact k8 e7
   exact fA ⟨⟨rfl,congrArg _ (by rw[hc,sgnI_of hx.sgn h0];rfl),trivial⟩,trivial⟩ rfl (by simp)
  ·have h0:natL l≠0:=fun e=>by rw[hx.mag] at e7;have:=hx.nat;rw[e] at this;rw[←this] at e7;exact k8 e7
   exact fA ⟨⟨rfl,congrArg _ (by rw[hc,sgnI_of hx.sgn h0];rfl),trivial⟩,trivial⟩ rfl (by simp)
 ·have k8:=eql_t h8
  have h0:natL l=0:=by rw[List.eq_nil_of_length_eq_zero (by omega:l.length=0)];rfl
  exact fA ⟨⟨rfl,congrArg _ (by rw[hc,hx.sgn,h0];unfold sgnI;simp),trivial⟩,trivial⟩ rfl (by simp)
theorem Ycompare_ok {b:Nat} {c:Int} (hl:l=limbs a) (hm:m=limbs b) (hc:c=cmpZ a b):CF 229 [.one (.sl .u32 l),.one (.sl .u32 m)] (.one (.int .i64 c)):=by
 refine acall_fn Tryz.func229 (by kernel_rfl) rfl fun E hE=>?_
 conv=>cbv
 intro n7 h7;have e7:=h7.eq;have f7:=h7.le;conv=>cbv
 intro n9 h9;have e9:=h9.eq;have f9:=h9.le;conv=>cbv
 intro n10 h10;conv=>cbv
 cases n10 <;> conv=>cbv
 ·have k10:=neq_f h10
  intro n17 h17;have e17:=h17.eq;have f17:=h17.le;conv=>cbv
  intro n18 h18;conv=>cbv
  refine⟨fun _=>i64 (by omega),?_⟩
  refine .inr ?_
  obtain⟨J0,hJ0⟩:∃J:List AV→List Blk→Nat→Prop,J=fun vs bl k=>∃(j:Int) (k':Nat),vs=[.one (.sl .u32 l),.one (.sl .u32 m),.one (.int .i64 j)]∧(NatIs (j+1) k'∧k'≤l.length∧l.length=m.length∧natL (l.drop k')=natL (m.drop k'))∧k=k':=⟨_,rfl⟩
  refine⟨[0,1,5],[],J0,⟨l.length,by rw[hJ0];exact⟨n18,l.length,rfl,⟨⟨by omega⟩,by omega,by omega,by rw[List.drop_length,show l.length=m.length by omega,List.drop_length]⟩,rfl⟩⟩,?_⟩
  intro vs bl kk0 hj;rw[hJ0] at hj
  obtain⟨j,k',rfl,⟨hj,hjl,hlm,hd⟩,hk0⟩:=hj
  conv=>cbv
  have ej:=hj.eq
  intro n20 h20;conv=>cbv
  cases n20 <;> conv=>cbv
  ·have k20:=geq_f h20
   have hk:k'=0:=by omega
   have he:a=b:=by rw[hk] at hd;simpa [hl,hm,natL_limbs] using hd
   exact fA ⟨⟨rfl,congrArg _ (by rw[hc,he];simp[cmpZ]),trivial⟩,trivial⟩ rfl (by simp)
  ·have k20:=geq_t h20
   refine .inr ?_
   obtain⟨x25,hx25⟩:=get_ex (l:=l) (i:=(j).toNat) (by omega)
   refine⟨x25,fun _=>⟨by omega,hx25⟩,?_⟩
   try conv=>cbv
   intro n26 h26;have e26:=h26.eq;have f26:=h26.lt;conv=>cbv
   obtain⟨x29,hx29⟩:=get_ex (l:=m) (i:=(j).toNat) (by omega)
   refine⟨x29,fun _=>⟨by omega,hx29⟩,?_⟩
   try conv=>cbv
   intro n30 h30;have e30:=h30.eq;have f30:=h30.lt;conv=>cbv
   intro n31 h31;conv=>cbv
   refine⟨fun _=>rfl,?_⟩
   cases n31 <;> conv=>cbv
   ·have k31:=lss_f h31
    obtain⟨x34,hx34⟩:=get_ex (l:=l) (i:=(j).toNat) (by omega)
    refine⟨x34,fun _=>⟨by omega,hx34⟩,?_⟩
    try conv=>cbv
    intro n35 h35;have e35:=h35.eq;have f35:=h35.lt;conv=>cbv
    obtain⟨x38,hx38⟩:=get_ex (l:=m) (i:=(j).toNat) (by omega)
    refine⟨x38,fun _=>⟨by omega,hx38⟩,?_⟩
    try conv=>cbv
    intro n39 h39;have e39:=h39.eq;have f39:=h39.lt;conv=>cbv
    intro n40 h40;conv=>cbv
    refine⟨fun _=>rfl,?_⟩
    cases n40 <;> conv=>cbv
    ·have k40:=gtr_f h40
     intro n22 h22;conv=>cbv
     refine⟨fun _=>i64 (by omega),?_⟩
     refine⟨k'-1,?_,?_⟩
     ·omega
     rw[hJ0]
     obtain⟨i',rfl⟩:∃i',k'=i'+1:=⟨k'-1,by omega⟩
     have e3:l[i']? =some x25:=by rw[←hx25];congr 1;omega
     have e4:m[i']? =some x29:=by rw[←hx29];congr 1;omega
     have e1:l[i']? =some x34:=by rw[←hx34];congr 1;omega
     have e2:m[i']? =some x38:=by rw[←hx38];congr 1;omega
     obtain rfl:x34=x25:=Option.some.inj (e1.symm.trans e3)
     obtain rfl:x38=x29:=Option.some.inj (e2.symm.trans e4)
     refine⟨n22,i',rfl,⟨⟨by omega⟩,by omega,hlm,?_⟩,by omega⟩
     have e26:x34=x38:=UInt32.toNat_inj.1 (by omega)
     subst e26
     exact drop_eq (i:=i') e1 e2 hd
    ·have k40:=gtr_t h40
     obtain⟨i',rfl⟩:∃i',k'=i'+1:=⟨k'-1,by omega⟩
     have e1:l[i']? =some x34:=by rw[←hx34];congr 1;omega
     have e2:m[i']? =some x38:=by rw[←hx38];congr 1;omega
     have hlt:x38.toNat<x34.toNat:=by omega
     have hne:x34≠x38:=fun e=>by rw[e] at hlt;omega
     exact fA ⟨⟨rfl,congrArg _ (by rw[hc,←natL_limbs a,←natL_limbs b,←hl,←hm,←cmp_step e1 e2 hlm hd hne];unfold cmpZ;rw[if_neg (by omega),if_pos (by omega)]),trivial⟩,trivial⟩ rfl (by simp)
   ·have k31:=lss_t h31
    obtain⟨i',rfl⟩:∃i',k'=i'+1:=⟨k'-1,by omega⟩
    have e1:l[i']? =some x25:=by rw[←hx25];congr 1;omega
    have e2:m[i']? =some x29:=by rw[←hx29];congr 1;omega
    have hlt:x25.toNat<x29.toNat:=by omega
    have hne:x25≠x29:=fun e=>by rw[e] at hlt;omega
    exact fA ⟨⟨rfl,congrArg _ (by rw[hc,←natL_limbs a,←natL_limbs b,←hl,←hm,←cmp_step e1 e2 hlm hd hne];unfold cmpZ;rw[if_pos (by omega)]),trivial⟩,trivial⟩ rfl (by simp)
 ·have k10:=neq_t h10
  intro n12 h12;have e12:=h12.eq;have f12:=h12.le;conv=>cbv
  intro n14 h14;have e14:=h14.eq;have f14:=h14.le;conv=>cbv
  intro n15 h15;conv=>cbv
  cases n15 <;> conv=>cbv
  ·have k15:=lss_f h15
   exact fA ⟨⟨rfl,congrArg _ (by rw[hc,←cmp_len (by rw[←hl,←hm];omega),←hl,←hm];unfold cmpZ;rw[if_neg (by omega),if_pos (by omega)]),trivial⟩,trivial⟩ rfl (by simp)
  ·have k15:=lss_t h15
   exact fA ⟨⟨rfl,congrArg _ (by rw[hc,←cmp_len (by rw[←hl,←hm];omega),←hl,←hm];unfold cmpZ;rw[if_pos (by omega)]),trivial⟩,trivial⟩ rfl (by simp)
theorem Yminus_ok {b:Nat} (hl:l=limbs a) (hm:m=limbs b) (hz:z=limbs (a-b)) (hab:b≤a) (sl:l.length≤17592186044416):CF 231 [.one (.sl .u32 l),.one (.sl .u32 m)] (.one (.sl .u32 z)):=by
 have hml:m.length≤l.length:=by rw[hl,hm];exact limbs_len_mono hab
 refine acall_fn Tryz.func231 (by kernel_rfl) rfl fun E hE=>?_
 conv=>cbv
 intro n11 h11;have e11:=h11.eq;have f11:=h11.le;conv=>cbv
 refine⟨fun _=>⟨by omega,by omega,by show _*4≤140737488355328;omega⟩,?_⟩
 intro k12 (l12:List UInt32) ql12;have hk12:=ql12.1;have hl12:l12=List.replicate k12 (0:el .u32):=ql12.2;have gl12:l12.length=k12:=by rw[hl12,List.length_replicate]
 conv=>cbv
 refine .inr ?_
 obtain⟨J0,hJ0⟩:∃J:List AV→List Blk→Nat→Prop,J=fun vs bl k=>∃(o:List UInt32) (n c' i':Nat) (c i:Int),vs=[.one (.sl .u32 l),.one (.sl .u32 m),.one (.lsl .u32 12 0 0 n),.one (.int .u64 c),.one (.int .i64 i)]∧
  bl=[.arr 0 .u32 o]∧(o.length=l.length∧n=o.length∧NatIs i i'∧i'≤l.length∧NatIs c c'∧c'≤1)∧
  natL (o.take i')+natL (m.take i')=natL (l.take i')+2^(32*i')*c'∧k=l.length-i':=⟨_,rfl⟩
 refine⟨[0,1,5,6,7],[12],J0,⟨l.length-0,by rw[hJ0];exact⟨l12,k12,0,0,0,0,rfl,rfl,⟨by rw[hl12,List.length_replicate];omega,by rw[hl12,List.length_replicate],natIs 0,by omega,natIs 0,by omega⟩,by simp[natL],rfl⟩⟩,?_⟩
 intro vs bl kk0 hj;rw[hJ0] at hj
 obtain⟨o,n,c',i',c,i,rfl,rfl,⟨ho,hn,hi,hiL,hc,hc1⟩,hinv,hk0⟩:=hj
 conv=>cbv
 have ei:=hi.eq
 have ec:=hc.eq
 intro n15 h15;have e15:=h15.eq;have f15:=h15.le;conv=>cbv
 intro n16 h16;conv=>cbv
 cases n16 <;> conv=>cbv
 ·have k16:=lss_f h16
  have hnl47:n≤(o).length:=by omega
  obtain⟨m47,hm47⟩:∃z:Nat,z=(trimL ((o).take n)).length:=⟨_,rfl⟩
  obtain⟨hle47,htk47⟩:=trim_take hnl47 hm47
  refine .inr (.inr (.inl ⟨[],.one (.lsl .u32 0 0 0 m47),.arr 0 .u32 o,fun _=>⟨by first | decide | simp[idsV,idsC],trivial⟩,fun _=>⟨useB hE (Ytrim_B hnl47 (by omega) hm47),rfl,rfl⟩,?_⟩))
  try conv=>cbv
  have hk:i'=l.length:=by omega
  have hfin:natL (o.take n)=a-b:=by rw[hk,natL_take_ge hml,natL_take_ge (Nat.le_refl _),hm,hl,natL_limbs,natL_limbs,←hl,←ho,List.take_length] at hinv;have hlt:=natL_lt o;generalize 2^(32*o.length)=P at *;rw[hn,List.take_length];rcases (by omega:c'=0∨c'=1) with e | e <;> rw[e] at hinv <;> omega
  exact fA ⟨⟨rfl,.inl ⟨_,rfl,by omega,congrArg _ (by rw[List.drop_zero,htk47,hfin,hz])⟩,trivial⟩,trivial⟩ rfl (by simp)
 ·have k16:=lss_t h16
  refine .inr ?_
  intro n21 h21;have e21:=h21.eq;have f21:=h21.le;conv=>cbv
  intro n22 h22;conv=>cbv
  refine .inr ?_
  cases n22 <;> conv=>cbv
  ·have k22:=lss_f h22
   obtain⟨x30,hx30⟩:=get_ex (l:=l) (i:=i') (by omega)
   refine⟨x30,fun _=>⟨by omega,by rw[show (i).toNat=i' by omega];exact hx30⟩,?_⟩
   try conv=>cbv
   intro n31 h31;have e31:=h31.eq;have f31:=h31.lt;conv=>cbv
   intro n32 h32;conv=>cbv
   have h32:=wrap_u64 h32
   intro n33 h33;conv=>cbv
   have h33:=wrap_u64 h33
   intro n35 h35;conv=>cbv
   have h35:=wrap_u64 h35
   intro n37 h37;conv=>cbv
   have h37:=wrap_u64 h37
   intro n41 h41;conv=>cbv
   have h41:=wrap_u32 h41
   refine⟨fun _=>⟨by omega,by omega⟩,?_⟩
   intro j42 hj42;conv=>cbv
   obtain⟨w42,hw42⟩:=u32_ex (n:=n41) (by omega)
   have ew42:=hw42.eq;have fw42:=hw42.lt
   refine⟨w42,fun _=>⟨by show _<List.length (α:=UInt32) o;(first | omega | (simp;omega)),put_w hw42⟩,?_⟩
   intro (l42:List UInt32) (hl42:l42=List.set (α:=UInt32) o j42 w42);have gl42:l42.length=o.length:=by rw[hl42,List.length_set]
   conv=>cbv
   intro n44 h44;conv=>cbv
   refine⟨fun _=>by omega,?_⟩
   have h44:=shr_lit (p:=4294967296) h44 rfl
   intro n45 h45;conv=>cbv
   have h45:=wrap_u64 h45
   intro n18 h18;conv=>cbv
   refine⟨fun _=>i64 (by omega),?_⟩
   refine⟨l.length-(i'+1),?_,?_⟩
   ·omega
   rw[hJ0]
   refine⟨l42,n,n45.toNat,i'+1,n45,n18,rfl,rfl,⟨by rw[hl42,List.length_set];exact ho,by rw[hl42,List.length_set];exact hn,⟨by omega⟩,by omega,⟨by omega⟩,by omega⟩,?_,rfl⟩
   have hs:=minus_step (w:=w42) (o:=o) (i:=i') (xi:=x30.toNat) (yi:=0) (bor:=c') (bor':=n45.toNat) (by omega) hinv (by omega)
   rw[hl42,show j42=i' by omega,natL_take_succ hx30,←hs,natL_take_ge (l:=m) (i:=i'+1) (by omega),natL_take_ge (l:=m) (i:=i') (by omega),Nat.mul_zero]
   rfl
  ·have k22:=lss_t h22
   obtain⟨x25,hx25⟩:=get_ex (l:=m) (i:=i') (by omega)
   refine⟨x25,fun _=>⟨by omega,by rw[show (i).toNat=i' by omega];exact hx25⟩,?_⟩
   try conv=>cbv
   intro n26 h26;have e26:=h26.eq;have f26:=h26.lt;conv=>cbv
   intro n27 h27;conv=>cbv
   have h27:=wrap_u64 h27
   obtain⟨x30,hx30⟩:=get_ex (l:=l) (i:=i') (by omega)
   refine⟨x30,fun _=>⟨by omega,by rw[show (i).toNat=i' by omega];exact hx30⟩,?_⟩
   try conv=>cbv
   intro n31 h31;have e31:=h31.eq;have f31:=h31.lt;conv=>cbv
   intro n32 h32;conv=>cbv
   have h32:=wrap_u64 h32
   intro n33 h33;conv=>cbv
   have h33:=wrap_u64 h33
   intro n35 h35;conv=>cbv
   have h35:=wrap_u64 h35
   intro n37 h37;conv=>cbv
   have h37:=wrap_u64 h37
   intro n41 h41;conv=>cbv
   have h41:=wrap_u32 h41
   refine⟨fun _=>⟨by omega,by omega⟩,?_⟩
   intro j42 hj42;conv=>cbv
   obtain⟨w42,hw42⟩:=u32_ex (n:=n41) (by omega)
   have ew42:=hw42.eq;have fw42:=hw42.lt
   refine⟨w42,fun _=>⟨by show _<List.length (α:=UInt32) o;(first | omega | (simp;omega)),put_w hw42⟩,?_⟩
   intro (l42:List UInt32) (hl42:l42=List.set (α:=UInt32) o j42 w42);have gl42:l42.length=o.length:=by rw[hl42,List.length_set]
   conv=>cbv
   intro n44 h44;conv=>cbv
   refine⟨fun _=>by omega,?_⟩
   have h44:=shr_lit (p:=4294967296) h44 rfl
   intro n45 h45;conv=>cbv
   have h45:=wrap_u64 h45
   intro n18 h18;conv=>cbv
   refine⟨fun _=>i64 (by omega),?_⟩
   refine⟨l.length-(i'+1),?_,?_⟩
   ·omega
   rw[hJ0]
   refine⟨l42,n,n45.toNat,i'+1,n45,n18,rfl,rfl,⟨by rw[hl42,List.length_set];exact ho,by rw[hl42,List.length_set];exact hn,⟨by omega⟩,by omega,⟨by omega⟩,by omega⟩,?_,rfl⟩
   have hs:=minus_step (w:=w42) (o:=o) (i:=i') (xi:=x30.toNat) (yi:=x25.toNat) (bor:=c') (bor':=n45.toNat) (by omega) hinv (by omega)
   rw[hl42,show j42=i' by omega,natL_take_succ hx30,←hs,natL_take_succ hx25]
theorem Yplus_ok {b:Nat} (hl:l=limbs a) (hm:m=limbs b) (hz:z=limbs (a+b)) (sl:l.length≤17592186044416) (sm:m.length≤17592186044416):CF 230 [.one (.sl .u32 l),.one (.sl .u32 m)] (.one (.sl .u32 z)):=by
 refine acall_fn Tryz.func230 (by kernel_rfl) rfl fun E hE=>?_
 conv=>cbv
 intro n9 h9;have e9:=h9.eq;have f9:=h9.le;conv=>cbv
 intro n11 h11;have e11:=h11.eq;have f11:=h11.le;conv=>cbv
 intro n12 h12;conv=>cbv
 obtain⟨J12,hJ12⟩:∃J:List AV→List Blk→Prop,J=fun vs bl=>∃(p q:Nat) (x y:List UInt32),vs=[.one (.sl .u32 x),.one (.sl .u32 y)]∧x=limbs p∧y=limbs q∧p+q=a+b∧y.length≤x.length∧x.length≤17592186044416:=⟨_,rfl⟩
 refine .inl ⟨[0,1],[],J12,?_,?_⟩
 ·intro vs bl hj;rw[hJ12] at hj
  obtain⟨p,q,x,y,rfl,hx,hy,hpq,hyx,hxl⟩:=hj
  conv=>cbv
  intro n16 h16;have e16:=h16.eq;have f16:=h16.le;conv=>cbv
  intro n17 h17;conv=>cbv
  refine⟨fun _=>i64 (by omega),?_⟩
  refine⟨fun _=>⟨by omega,by omega,by show _*4≤140737488355328;omega⟩,?_⟩
  intro k18 (l18:List UInt32) ql18;have hk18:=ql18.1;have hl18:l18=List.replicate k18 (0:el .u32):=ql18.2;have gl18:l18.length=k18:=by rw[hl18,List.length_replicate]
  conv=>cbv
  refine .inr ?_
  obtain⟨J0,hJ0⟩:∃J:List AV→List Blk→Nat→Prop,J=fun vs bl k=>∃(o:List UInt32) (n c' i':Nat) (c i:Int),vs=[.one (.sl .u32 x),.one (.sl .u32 y),.one (.lsl .u32 18 0 0 n),.one (.int .u64 c),.one (.int .i64 i)]∧
   bl=[.arr 0 .u32 o]∧(o.length=x.length+1∧n=o.length∧NatIs i i'∧i'≤x.length∧NatIs c c'∧c'≤1)∧
   natL (o.take i')+2^(32*i')*c'=natL (x.take i')+natL (y.take i')∧k=x.length-i':=⟨_,rfl⟩
  refine⟨[0,1,5,6,7],[18],J0,⟨x.length-0,by rw[hJ0];exact⟨l18,k18,0,0,0,0,rfl,rfl,⟨by rw[hl18,List.length_replicate];omega,by rw[hl18,List.length_replicate],natIs 0,by omega,natIs 0,by omega⟩,by simp[natL],rfl⟩⟩,?_⟩
  intro vs bl kk0 hj;rw[hJ0] at hj
  obtain⟨o,n,c',i',c,i,rfl,rfl,⟨ho,hn,hi,hiL,hc,hc1⟩,hinv,hk0⟩:=hj
  conv=>cbv
  have ei:=hi.eq
  have ec:=hc.eq
  intro n21 h21;have e21:=h21.eq;have f21:=h21.le;conv=>cbv
  intro n22 h22;conv=>cbv
  cases n22 <;> conv=>cbv
  ·have k22:=lss_f h22
   intro n52 h52;have e52:=h52.eq;have f52:=h52.le;conv=>cbv
   intro n54 h54;conv=>cbv
   have h54:=wrap_u32 h54
   refine⟨fun _=>⟨by omega,by omega⟩,?_⟩
   intro j55 hj55;conv=>cbv
   obtain⟨w55,hw55⟩:=u32_ex (n:=n54) (by omega)
   have ew55:=hw55.eq;have fw55:=hw55.lt
   refine⟨w55,fun _=>⟨by show _<List.length (α:=UInt32) o;(first | omega | (simp;omega)),put_w hw55⟩,?_⟩
   intro (l55:List UInt32) (hl55:l55=List.set (α:=UInt32) o j55 w55);have gl55:l55.length=o.length:=by rw[hl55,List.length_set]
   conv=>cbv
   have hnl57:n≤(l55).length:=by omega
   obtain⟨m57,hm57⟩:∃z:Nat,z=(trimL ((l55).take n)).length:=⟨_,rfl⟩
   obtain⟨hle57,htk57⟩:=trim_take hnl57 hm57
   refine .inr (.inr (.inl ⟨[],.one (.lsl .u32 0 0 0 m57),.arr 0 .u32 l55,fun _=>⟨by first | decide | simp[idsV,idsC],trivial⟩,fun _=>⟨useB hE (Ytrim_B hnl57 (by omega) hm57),rfl,rfl⟩,?_⟩))
   try conv=>cbv
   have hk0:i'=x.length:=by omega
   have hfin:natL (l55.take n)=p+q:=by rw[hl55,hn,show j55=x.length by omega,show o.length=x.length+1 by omega,take_set_succ (by omega),natL_snoc,List.length_take,Nat.min_eq_left (by omega),show w55.toNat=c' by omega];rw[hk0,natL_take_ge (Nat.le_refl _),natL_take_ge hyx,hx,hy,natL_limbs,natL_limbs,←hx] at hinv;exact hinv
   exact fA ⟨⟨rfl,.inl ⟨_,rfl,by omega,congrArg _ (by rw[List.drop_zero,htk57,hfin,hpq,hz])⟩,trivial⟩,trivial⟩ rfl (by simp)
  ·have k22:=lss_t h22
   refine .inr ?_
   obtain⟨x28,hx28⟩:=get_ex (l:=x) (i:=i') (by omega)
   refine⟨x28,fun _=>⟨by omega,by rw[show (i).toNat=i' by omega];exact hx28⟩,?_⟩
   try conv=>cbv
   intro n29 h29;have e29:=h29.eq;have f29:=h29.lt;conv=>cbv
   intro n30 h30;conv=>cbv
   have h30:=wrap_u64 h30
   intro n31 h31;conv=>cbv
   have h31:=wrap_u64 h31
   intro n34 h34;have e34:=h34.eq;have f34:=h34.le;conv=>cbv
   intro n35 h35;conv=>cbv
   refine .inr ?_
   cases n35 <;> conv=>cbv
   ·have k35:=lss_f h35
    intro n46 h46;conv=>cbv
    have h46:=wrap_u32 h46
    refine⟨fun _=>⟨by omega,by omega⟩,?_⟩
    intro j47 hj47;conv=>cbv
    obtain⟨w47,hw47⟩:=u32_ex (n:=n46) (by omega)
    have ew47:=hw47.eq;have fw47:=hw47.lt
    refine⟨w47,fun _=>⟨by show _<List.length (α:=UInt32) o;(first | omega | (simp;omega)),put_w hw47⟩,?_⟩
    intro (l47:List UInt32) (hl47:l47=List.set (α:=UInt32) o j47 w47);have gl47:l47.length=o.length:=by rw[hl47,List.length_set]
    conv=>cbv
    intro n49 h49;conv=>cbv
    refine⟨fun _=>by omega,?_⟩
    have h49:=shr_lit (p:=4294967296) h49 rfl
    intro n24 h24;conv=>cbv
    refine⟨fun _=>i64 (by omega),?_⟩
    refine⟨x.length-(i'+1),?_,?_⟩
    ·omega
    rw[hJ0]
    refine⟨l47,n,n49.toNat,i'+1,n49,n24,rfl,rfl,⟨by rw[hl47,List.length_set];exact ho,by rw[hl47,List.length_set];exact hn,⟨by omega⟩,by omega,⟨by omega⟩,by omega⟩,?_,rfl⟩
    have hs:=carry_step (o:=o.take i') (i:=i') (xi:=x28.toNat) (yi:=0) (s:=n31.toNat) (w:=w47) (by rw[List.length_take];omega) hinv (by omega) (by omega)
    rw[hl47,show j47=i' by omega,take_set_succ (by omega),natL_take_succ hx28,natL_take_ge (l:=y) (i:=i'+1) (by omega)]
    rw[show n49.toNat=n31.toNat/4294967296 by omega]
    rw[hs];rw[natL_take_ge (l:=y) (i:=i') (by omega)];omega
   ·have k35:=lss_t h35
    obtain⟨x39,hx39⟩:=get_ex (l:=y) (i:=i') (by omega)
    refine⟨x39,fun _=>⟨by omega,by rw[show (i).toNat=i' by omega];exact hx39⟩,?_⟩
    try conv=>cbv
    intro n40 h40;have e40:=h40.eq;have f40:=h40.lt;conv=>cbv
    intro n41 h41;conv=>cbv
    have h41:=wrap_u64 h41
    intro n42 h42;conv=>cbv
    have h42:=wrap_u64 h42
    intro n46 h46;conv=>cbv
    have h46:=wrap_u32 h46
    refine⟨fun _=>⟨by omega,by omega⟩,?_⟩
    intro j47 hj47;conv=>cbv
    obtain⟨w47,hw47⟩:=u32_ex (n:=n46) (by omega)
    have ew47:=hw47.eq;have fw47:=hw47.lt
    refine⟨w47,fun _=>⟨by show _<List.length (α:=UInt32) o;(first | omega | (simp;omega)),put_w hw47⟩,?_⟩
    intro (l47:List UInt32) (hl47:l47=List.set (α:=UInt32) o j47 w47);have gl47:l47.length=o.length:=by rw[hl47,List.length_set]
    conv=>cbv
    intro n49 h49;conv=>cbv
    refine⟨fun _=>by omega,?_⟩
    have h49:=shr_lit (p:=4294967296) h49 rfl
    intro n24 h24;conv=>cbv
    refine⟨fun _=>i64 (by omega),?_⟩
    refine⟨x.length-(i'+1),?_,?_⟩
    ·omega
    rw[hJ0]
    refine⟨l47,n,n49.toNat,i'+1,n49,n24,rfl,rfl,⟨by rw[hl47,List.length_set];exact ho,by rw[hl47,List.length_set];exact hn,⟨by omega⟩,by omega,⟨by omega⟩,by omega⟩,?_,rfl⟩
    have hs:=carry_step (o:=o.take i') (i:=i') (xi:=x28.toNat) (yi:=x39.toNat) (s:=n42.toNat) (w:=w47) (by rw[List.length_take];omega) hinv (by omega) (by omega)
    rw[hl47,show j47=i' by omega,take_set_succ (by omega),natL_take_succ hx28,natL_take_succ hx39]
    rw[show n49.toNat=n42.toNat/4294967296 by omega]
    rw[hs]
 cases n12 <;> conv=>cbv
 ·have k12:=lss_f h12
  rw[hJ12]
  exact⟨a,b,_,_,rfl,hl,hm,rfl,by omega,by omega⟩
 ·have k12:=lss_t h12
  rw[hJ12]
  exact⟨b,a,_,_,rfl,hm,hl,Nat.add_comm _ _,by omega,by omega⟩
end Go.Abs
