/- Part 23 of a proof. Conditions: each theorem's own. -/
import Derived.Test.YtpccjlcpbehglaaGreatPk13
import Derived.Test.YtpccjlcpbehglaaGreatPk16
import Derived.Test.YtpccjlcpbehglaaGreatPk21
set_option linter.all false
set_option maxHeartbeats 8000000
open Go.Proofs
namespace Go.Abs
open Go.RowKit
variable {a b n:Int} {e p q:Nat}
theorem shl_var64 (h:n=IntKind.u64.wrap (a*2^min b.toNat IntKind.u64.bits)) (ha:a=p) (hb:b=e) (he:e≤64):n=((p*2^e%18446744073709551616:Nat):Int):=by
 have h1:min b.toNat IntKind.u64.bits=e:=by rw[hb];show min e 64=e;omega
 have h2:=wrap_u64 h
 rw[h2,h1,ha]
 simp
theorem shl_var32 (h:n=IntKind.u32.wrap (a*2^min b.toNat IntKind.u32.bits)) (ha:a=p) (hb:b=e) (he:e≤32):n=((p*2^e%4294967296:Nat):Int):=by
 have h1:min b.toNat IntKind.u32.bits=e:=by rw[hb];show min e 32=e;omega
 have h2:=wrap_u32 h
 rw[h2,h1,ha]
 simp
theorem shr_var {m:Nat} (h:n=a.fdiv (2^min b.toNat m)) (ha:a=p) (hb:b=e) (he:e≤m):n=((p/2^e:Nat):Int):=by
 have h1:min b.toNat m=e:=by rw[hb];simp;omega
 rw[h,h1,ha,Int.fdiv_eq_ediv_of_nonneg _ (by have:=Int.pow_pos (n:=2) (m:=e) (by decide);omega)]
 simp
theorem or_u32 (h:n=IntKind.u32.wrap (BitVec.ofInt IntKind.u32.bits a ||| BitVec.ofInt IntKind.u32.bits b).toNat) (ha:a=p) (hb:b=q) (hp:p<4294967296) (hq:q<4294967296):n=((p ||| q:Nat):Int):=by
 have h2:=wrap_u32 h
 rw[h2,ha,hb]
 have e1:(BitVec.ofInt IntKind.u32.bits (p:Int) ||| BitVec.ofInt IntKind.u32.bits (q:Int)).toNat=p ||| q:=by
  rw[BitVec.toNat_or,BitVec.toNat_ofInt,BitVec.toNat_ofInt]
  show ((p:Int)%4294967296).toNat ||| ((q:Int)%4294967296).toNat=_
  congr 1 <;> omega
 rw[e1]
 have:p ||| q<2^32:=Nat.or_lt_two_pow hp hq
 omega
theorem or_u64 (h:n=IntKind.u64.wrap (BitVec.ofInt IntKind.u64.bits a ||| BitVec.ofInt IntKind.u64.bits b).toNat) (ha:a=p) (hb:b=q) (hp:p<18446744073709551616) (hq:q<18446744073709551616):n=((p ||| q:Nat):Int):=by
 have h2:=wrap_u64 h
 rw[h2,ha,hb]
 have e1:(BitVec.ofInt IntKind.u64.bits (p:Int) ||| BitVec.ofInt IntKind.u64.bits (q:Int)).toNat=p ||| q:=by
  rw[BitVec.toNat_or,BitVec.toNat_ofInt,BitVec.toNat_ofInt]
  show ((p:Int)%18446744073709551616).toNat ||| ((q:Int)%18446744073709551616).toNat=_
  congr 1 <;> omega
 rw[e1]
 have:p ||| q<2^64:=Nat.or_lt_two_pow hp hq
 omega
theorem or_hilo (h:n=IntKind.u64.wrap (BitVec.ofInt IntKind.u64.bits a ||| BitVec.ofInt IntKind.u64.bits b).toNat) (ha:a=((p*4294967296:Nat):Int)) (hb:b=q) (hp:p<4294967296) (hq:q<4294967296):n=((q+4294967296*p:Nat):Int):=by
 rw[or_u64 h ha hb (by omega) (by omega),Nat.or_comm,Nat.mul_comm]
 have:=or_add (a:=q) (b:=p) (d:=32) hq
 exact congrArg _ this
end Go.Abs
namespace Go.Abs
open Go.RowKit
variable {l z:List UInt32} {n zn:Nat} {s:Int}
theorem shiftRight_own (hs:NatIs s n) (hn:n≤31) (hz1:z.length=l.length) (hz2:natL z=natL l/2^n) (hzn:zn=z.length) (sl:l.length≤17592186044416):CF 257 [.one (.sl .u32 l),.one (.int .i64 s)] (.one (.own .u32 z zn)):=by
 have es:=hs.eq
 refine acall_fn Tryz.func257 (by kernel_rfl) rfl fun E hE=>?_
 conv=>cbv
 intro n9 h9;have e9:=h9.eq;have f9:=h9.le;conv=>cbv
 refine⟨fun _=>⟨by omega,by omega,by show _*4≤140737488355328;omega⟩,?_⟩
 intro k10 (l10:List UInt32) ql10;have hk10:=ql10.1;have hl10:l10=List.replicate k10 (0:el .u32):=ql10.2;have gl10:l10.length=k10:=by rw[hl10,List.length_replicate]
 conv=>cbv
 intro n12 h12;have e12:=h12.eq;have f12:=h12.le;conv=>cbv
 refine .inr ?_
 obtain⟨J0,hJ0⟩:∃J:List AV→List Blk→Nat→Prop,J=fun vs bl k=>∃(o:List UInt32) (m i':Nat) (L i:Int),vs=[.one (.sl .u32 l),.one (.int .i64 s),.one (.lsl .u32 10 0 0 m),.one (.sl .u32 l),.one (.int .i64 L),.one (.int .i64 i)]∧
  bl=[.arr 0 .u32 o]∧(o.length=l.length∧m=o.length∧LenIs L l.length∧NatIs i i'∧i'≤l.length)∧
  natL (o.take i')=natL l/2^n%2^(32*i')∧k=l.length-i':=⟨_,rfl⟩
 refine⟨[0,1,5,11,12,13],[10],J0,⟨l.length-0,by rw[hJ0];exact⟨l10,k10,0,n12,0,rfl,rfl,⟨by rw[hl10,List.length_replicate];omega,by rw[hl10,List.length_replicate],h12,natIs 0,by omega⟩,by simp[natL,Nat.mod_one],rfl⟩⟩,?_⟩
 intro vs bl kk0 hj;rw[hJ0] at hj
 obtain⟨o,m,i',L,i,rfl,rfl,⟨ho,hm,hL,hi,hiL⟩,hinv,hk0⟩:=hj
 conv=>cbv
 have eL:=hL.eq
 have ei:=hi.eq
 intro n14 h14;conv=>cbv
 cases n14 <;> conv=>cbv
 ·have k14:=lss_f h14
  have hk:i'=l.length:=by omega
  have hfin:natL o=natL l/2^n:=by rw[hk,←ho,List.take_length,ho] at hinv;rw[hinv];exact Nat.mod_eq_of_lt (Nat.lt_of_le_of_lt (Nat.div_le_self _ _) (natL_lt l))
  exact fA ⟨⟨rfl,.inr (.inl ⟨_,_,by decide,rfl,rfl,hm,rfl,own_eq (natL_inj (by omega) (by rw[hz2,hfin])) (by omega)⟩),trivial⟩,trivial⟩ rfl (by simp)
 ·have k14:=lss_t h14
  refine .inr ?_
  obtain⟨x16,hx16⟩:=get_ex (l:=l) (i:=i') (by omega)
  refine⟨x16,fun _=>⟨by omega,by rw[show (i).toNat=i' by omega];exact hx16⟩,?_⟩
  try conv=>cbv
  intro n17 h17;have e17:=h17.eq;have f17:=h17.lt;conv=>cbv
  intro n22 h22;conv=>cbv
  refine⟨fun _=>by omega,?_⟩
  obtain⟨q22,hq22,h22⟩:∃q:Nat,q=x16.toNat/2^n∧n22=q:=⟨_,rfl,shr_var h22 (by omega) (by omega) (by show n≤32;omega)⟩
  have hl22:q22≤x16.toNat:=by rw[hq22];exact Nat.div_le_self _ _
  refine⟨fun _=>⟨by omega,by omega⟩,?_⟩
  intro j23 hj23;conv=>cbv
  obtain⟨w23,hw23⟩:=u32_ex (n:=n22) (by omega)
  have ew23:=hw23.eq;have fw23:=hw23.lt
  refine⟨w23,fun _=>⟨by show _<List.length (α:=UInt32) o;(first | omega | (simp;omega)),put_w hw23⟩,?_⟩
  intro (l23:List UInt32) (hl23:l23=List.set (α:=UInt32) o j23 w23);have gl23:l23.length=o.length:=by rw[hl23,List.length_set]
  conv=>cbv
  intro n25 h25;conv=>cbv
  refine⟨fun _=>i64 (by omega),?_⟩
  intro n27 h27;have e27:=h27.eq;have f27:=h27.le;conv=>cbv
  intro n28 h28;conv=>cbv
  refine .inr ?_
  cases n28 <;> conv=>cbv
  ·have k28:=lss_f h28
   intro n45 h45;conv=>cbv
   refine⟨fun _=>i64 (by omega),?_⟩
   refine⟨l.length-(i'+1),?_,?_⟩
   ·omega
   rw[hJ0]
   have ew:(w23.toNat)=x16.toNat/2^n+0*2^(32-n)%4294967296:=by
    rw[Nat.zero_mul,←hq22];omega
   refine⟨l23,m,i'+1,L,n45,rfl,rfl,⟨by rw[hl23,List.length_set];exact ho,by rw[hl23,List.length_set];exact hm,hL,⟨by omega⟩,by omega⟩,?_,rfl⟩
   rw[hl23,show j23=i' by omega,take_set_succ (by omega),natL_snoc,List.length_take,Nat.min_eq_left (by omega),hinv,trunc_succ,ew]
   rw[Nat.div_div_eq_div_mul,Nat.mul_comm (2^n),←Nat.div_div_eq_div_mul,div_pow_drop (by omega:i'≤l.length),drop_word hx16,List.drop_eq_nil_of_le (by omega:l.length≤i'+1)]
   rw[←shr_word (y:=0) (r:=0) (by omega) hn]
   simp[natL]
  ·have k28:=lss_t h28
   refine⟨fun _=>⟨by omega,by omega⟩,?_⟩
   intro j31 hj31;conv=>cbv
   obtain⟨x32,hx32⟩:=get_ex (l:=l23) (i:=j31) (by omega)
   refine⟨x32,fun _=>hx32,?_⟩
   try conv=>cbv
   intro n32 h32;have e32:=h32.eq;have f32:=h32.lt;conv=>cbv
   intro n35 h35;conv=>cbv
   refine⟨fun _=>i64 (by omega),?_⟩
   obtain⟨x36,hx36⟩:=get_ex (l:=l) (i:=(i'+1)) (by omega)
   refine⟨x36,fun _=>⟨by omega,by rw[show (n35).toNat=(i'+1) by omega];exact hx36⟩,?_⟩
   try conv=>cbv
   intro n37 h37;have e37:=h37.eq;have f37:=h37.lt;conv=>cbv
   intro n38 h38;conv=>cbv
   have h38:=wrap_u64 h38
   intro n40 h40;conv=>cbv
   refine⟨fun _=>i64 (by omega),?_⟩
   intro n41 h41;conv=>cbv
   refine⟨fun _=>by omega,?_⟩
   obtain⟨q41,hq41,h41⟩:∃q:Nat,q=x36.toNat*2^(32-n)%18446744073709551616∧n41=q:=⟨_,rfl,shl_var64 h41 (by omega) (by omega) (by omega)⟩
   intro n42 h42;conv=>cbv
   have h42:=wrap_u32 h42
   intro n43 h43;conv=>cbv
   have bo:0≤n43∧n43<4294967296:=by rw[wrap_u32 h43];omega
   have ex:x32=w23:=by rw[hl23,show j31=j23 by omega,List.getElem?_set_self (by omega)] at hx32;exact (Option.some.inj hx32).symm
   refine⟨fun _=>⟨by omega,by omega⟩,?_⟩
   intro j44 hj44;conv=>cbv
   obtain⟨w44,hw44⟩:=u32_ex (n:=n43) (by omega)
   have ew44:=hw44.eq;have fw44:=hw44.lt
   refine⟨w44,fun _=>⟨by show _<List.length (α:=UInt32) l23;(first | omega | (simp;omega)),put_w hw44⟩,?_⟩
   intro (l44:List UInt32) (hl44:l44=List.set (α:=UInt32) l23 j44 w44);have gl44:l44.length=l23.length:=by rw[hl44,List.length_set]
   conv=>cbv
   refine⟨fun _=>rfl,?_⟩
   intro n45 h45;conv=>cbv
   refine⟨fun _=>i64 (by omega),?_⟩
   refine⟨l.length-(i'+1),?_,?_⟩
   ·omega
   rw[hJ0]
   have ew:(w44.toNat)=x16.toNat/2^n+x36.toNat*2^(32-n)%4294967296:=by
    have hq:2^n*2^(32-n)=4294967296:=by rw[←Nat.pow_add,show n+(32-n)=32 by omega]
    have hlt:x16.toNat/2^n<2^(32-n):=Nat.div_lt_of_lt_mul (by rw[hq];omega)
    have hdv:x36.toNat*2^(32-n)%4294967296=2^(32-n)*(x36.toNat%2^n):=by rw[←hq,Nat.mul_comm x36.toNat,Nat.mul_comm (2^n),Nat.mul_mod_mul_left]
    have h5:n42=((x36.toNat*2^(32-n)%4294967296:Nat):Int):=by rw[h42,h41,hq41];generalize x36.toNat*2^(32-n)=Q;omega
    have h6:=or_u32 h43 (p:=x16.toNat/2^n) (q:=x36.toNat*2^(32-n)%4294967296) (by rw[e32,ex,←hq22];omega) h5 (by rw[←hq22];omega) (by omega)
    rw[hdv,or_add hlt,←hdv,←hq22] at h6
    rw[←hq22]
    generalize x36.toNat*2^(32-n)%4294967296=Q at*
    omega
   refine⟨l44,m,i'+1,L,n45,rfl,rfl,⟨by rw[hl44,hl23,List.length_set,List.length_set];exact ho,by rw[hl44,hl23,List.length_set,List.length_set];exact hm,hL,⟨by omega⟩,by omega⟩,?_,rfl⟩
   rw[hl44,show j44=i' by omega,take_set_succ (by rw[hl23,List.length_set];omega),hl23,show j23=i' by omega,take_set_le (Nat.le_refl _),natL_snoc,List.length_take,Nat.min_eq_left (by omega),hinv,trunc_succ,ew]
   rw[Nat.div_div_eq_div_mul,Nat.mul_comm (2^n),←Nat.div_div_eq_div_mul,div_pow_drop (by omega:i'≤l.length),drop_word hx16,drop_word (show l[i'+1]? =some x36 from hx36)]
   rw[shr_word (by omega) hn]
theorem shiftLeft_own (hs:NatIs s n) (hn:n≤31) (hz1:z.length=l.length+1) (hz2:natL z=natL l*2^n) (hzn:zn=z.length) (sl:l.length≤17592186044416):CF 254 [.one (.sl .u32 l),.one (.int .i64 s)] (.one (.own .u32 z zn)):=by
 have es:=hs.eq
 refine acall_fn Tryz.func254 (by kernel_rfl) rfl fun E hE=>?_
 conv=>cbv
 intro n10 h10;have e10:=h10.eq;have f10:=h10.le;conv=>cbv
 intro n11 h11;conv=>cbv
 refine⟨fun _=>i64 (by omega),?_⟩
 refine⟨fun _=>⟨by omega,by omega,by show _*4≤140737488355328;omega⟩,?_⟩
 intro k12 (l12:List UInt32) ql12;have hk12:=ql12.1;have hl12:l12=List.replicate k12 (0:el .u32):=ql12.2;have gl12:l12.length=k12:=by rw[hl12,List.length_replicate]
 conv=>cbv
 intro n14 h14;have e14:=h14.eq;have f14:=h14.le;conv=>cbv
 refine .inr ?_
 obtain⟨J0,hJ0⟩:∃J:List AV→List Blk→Nat→Prop,J=fun vs bl k=>∃(o:List UInt32) (c:UInt32) (m i':Nat) (L i:Int),vs=[.one (.sl .u32 l),.one (.int .i64 s),.one (.lsl .u32 12 0 0 m),.one (.sl .u32 l),.one (.int .i64 L),.one (.int .i64 i)]∧
  bl=[.arr 0 .u32 o]∧(o.length=l.length+1∧m=o.length∧LenIs L l.length∧NatIs i i'∧i'≤l.length)∧(o[i']? =some c∧c.toNat<2^n)∧
  natL (o.take i')+2^(32*i')*c.toNat=natL (l.take i')*2^n∧k=l.length-i':=⟨_,rfl⟩
 refine⟨[0,1,5,13,14,15],[12],J0,⟨l.length-0,by rw[hJ0];exact⟨l12,0,k12,0,n14,0,rfl,rfl,⟨by rw[hl12,List.length_replicate];omega,by rw[hl12,List.length_replicate],h14,natIs 0,by omega⟩,⟨by rw[hl12,List.getElem?_replicate,if_pos (by omega)],Nat.two_pow_pos n⟩,by simp[natL],rfl⟩⟩,?_⟩
 intro vs bl kk0 hj;rw[hJ0] at hj
 obtain⟨o,c,m,i',L,i,rfl,rfl,⟨ho,hm,hL,hi,hiL⟩,⟨hc,hcn⟩,hinv,hk0⟩:=hj
 conv=>cbv
 have eL:=hL.eq
 have ei:=hi.eq
 intro n16 h16;conv=>cbv
 cases n16 <;> conv=>cbv
 ·have k16:=lss_f h16
  have hk:i'=l.length:=by omega
  have hfin:natL o=natL l*2^n:=by rw[hk,List.take_length,←natL_take_succ (l:=o) (by rw[←hk];exact hc),List.take_of_length_le (by omega)] at hinv;exact hinv
  exact fA ⟨⟨rfl,.inr (.inl ⟨_,_,by decide,rfl,rfl,hm,rfl,own_eq (natL_inj (by omega) (by rw[hz2,hfin])) (by omega)⟩),trivial⟩,trivial⟩ rfl (by simp)
 ·have k16:=lss_t h16
  refine .inr ?_
  obtain⟨x18,hx18⟩:=get_ex (l:=l) (i:=i') (by omega)
  refine⟨x18,fun _=>⟨by omega,by rw[show (i).toNat=i' by omega];exact hx18⟩,?_⟩
  try conv=>cbv
  intro n19 h19;have e19:=h19.eq;have f19:=h19.lt;conv=>cbv
  intro n21 h21;conv=>cbv
  have h21:=wrap_u64 h21
  intro n23 h23;conv=>cbv
  refine⟨fun _=>by omega,?_⟩
  have b23:x18.toNat*2^n<9223372036854775808:=Nat.mul_lt_mul_of_lt_of_le (by omega:x18.toNat<4294967296) (Nat.pow_le_pow_right (by decide) hn:2^n≤2^31) (by decide)
  obtain⟨q23,hq23,h23⟩:∃q:Nat,q=x18.toNat*2^n∧n23=q:=⟨_,rfl,(shl_var64 (p:=x18.toNat) (e:=n) h23 (by omega) (by omega) (by omega)).trans (by congr 1;exact Nat.mod_eq_of_lt (by omega))⟩
  rw[←hq23] at b23
  refine⟨fun _=>⟨by omega,by omega⟩,?_⟩
  intro j26 hj26;conv=>cbv
  obtain⟨x27,hx27⟩:=get_ex (l:=o) (i:=j26) (by omega)
  refine⟨x27,fun _=>hx27,?_⟩
  try conv=>cbv
  intro n27 h27;have e27:=h27.eq;have f27:=h27.lt;conv=>cbv
  intro n29 h29;conv=>cbv
  have h29:=wrap_u32 h29
  intro n30 h30;conv=>cbv
  have bo:0≤n30∧n30<4294967296:=by rw[wrap_u32 h30];omega
  refine⟨fun _=>⟨by omega,by omega⟩,?_⟩
  intro j31 hj31;conv=>cbv
  obtain⟨w31,hw31⟩:=u32_ex (n:=n30) (by omega)
  have ew31:=hw31.eq;have fw31:=hw31.lt
  refine⟨w31,fun _=>⟨by show _<List.length (α:=UInt32) o;(first | omega | (simp;omega)),put_w hw31⟩,?_⟩
  intro (l31:List UInt32) (hl31:l31=List.set (α:=UInt32) o j31 w31);have gl31:l31.length=o.length:=by rw[hl31,List.length_set]
  conv=>cbv
  intro n34 h34;conv=>cbv
  refine⟨fun _=>i64 (by omega),?_⟩
  intro n36 h36;conv=>cbv
  refine⟨fun _=>by omega,?_⟩
  have h36:=shr_lit (p:=4294967296) h36 rfl
  intro n37 h37;conv=>cbv
  have h37:=wrap_u32 h37
  refine⟨fun _=>⟨by omega,by omega⟩,?_⟩
  intro j38 hj38;conv=>cbv
  obtain⟨w38,hw38⟩:=u32_ex (n:=n37) (by omega)
  have ew38:=hw38.eq;have fw38:=hw38.lt
  refine⟨w38,fun _=>⟨by show _<List.length (α:=UInt32) l31;(first | omega | (simp;omega)),put_w hw38⟩,?_⟩
  intro (l38:List UInt32) (hl38:l38=List.set (α:=UInt32) l31 j38 w38);have gl38:l38.length=l31.length:=by rw[hl38,List.length_set]
  conv=>cbv
  intro n39 h39;conv=>cbv
  refine⟨fun _=>i64 (by omega),?_⟩
  refine⟨l.length-(i'+1),?_,?_⟩
  ·omega
  rw[hJ0]
  have hq:2^n*2^(32-n)=4294967296:=by rw[←Nat.pow_add,show n+(32-n)=32 by omega]
  have ec:x27=c:=by rw[show j26=i' by omega,hc] at hx27;exact (Option.some.inj hx27).symm
  have hlo:q23%4294967296=2^n*(x18.toNat%2^(32-n)):=by rw[hq23,Nat.mul_comm x18.toNat,←hq,Nat.mul_mod_mul_left]
  have h6:=or_u32 h30 (p:=c.toNat) (q:=q23%4294967296) (by rw[e27,ec]) (by omega) (by have:=c.toNat_lt;omega) (by omega)
  rw[hlo,or_add hcn,←hlo] at h6
  have hhi:w38.toNat<2^n:=by
   have:q23/4294967296<2^n:=Nat.div_lt_of_lt_mul (by rw[hq23];exact (Nat.mul_lt_mul_right (Nat.two_pow_pos n)).2 (by omega))
   omega
  refine⟨l38,w38,m,i'+1,L,n39,rfl,rfl,⟨by omega,by omega,hL,⟨by omega⟩,by omega⟩,⟨by rw[hl38,show j38=i'+1 by omega,List.getElem?_set_self (by omega)],hhi⟩,?_,rfl⟩
  rw[hl38,show j38=i'+1 by omega,take_set_le (Nat.le_refl _),hl31,show j31=i' by omega,take_set_succ (by omega),natL_snoc,List.length_take,Nat.min_eq_left (by omega),natL_take_succ hx18,pow32,Nat.add_mul,←hinv]
  have e1:w31.toNat+4294967296*w38.toNat=c.toNat+x18.toNat*2^n:=by rw[←hq23];omega
  have e2:2^(32*i')*(w31.toNat+4294967296*w38.toNat)=2^(32*i')*(c.toNat+x18.toNat*2^n):=by rw[e1]
  generalize 2^(32*i')=P at*
  generalize 2^n=N at*
  grind
theorem divideWord_ok {z1 z2:List UInt32} {d:Int} {b:Nat} (hd:NatIs d b) (hb:0<b) (hb2:b<4294967296) (hz1:z1=limbs (natL l/b)) (hz2:z2=limbs (natL l%b)) (sl:l.length≤17592186044416):CF 252 [.one (.sl .u32 l),.one (.int .u32 d)] (.tup [(false,[.sl .u32 z1]),(false,[.sl .u32 z2])]):=by
 have ed:=hd.eq
 refine acall_fn Tryz.func252 (by kernel_rfl) rfl fun E hE=>?_
 conv=>cbv
 intro n10 h10;have e10:=h10.eq;have f10:=h10.le;conv=>cbv
 refine⟨fun _=>⟨by omega,by omega,by show _*4≤140737488355328;omega⟩,?_⟩
 intro k11 (l11:List UInt32) ql11;have hk11:=ql11.1;have hl11:l11=List.replicate k11 (0:el .u32):=ql11.2;have gl11:l11.length=k11:=by rw[hl11,List.length_replicate]
 conv=>cbv
 intro n13 h13;have e13:=h13.eq;have f13:=h13.le;conv=>cbv
 intro n14 h14;conv=>cbv
 refine⟨fun _=>i64 (by omega),?_⟩
 refine .inr ?_
 obtain⟨J0,hJ0⟩:∃J:List AV→List Blk→Nat→Prop,J=fun vs bl k=>∃(o:List UInt32) (m r' j':Nat) (r j:Int),vs=[.one (.sl .u32 l),.one (.int .u32 d),.one (.lsl .u32 11 0 0 m),.one (.int .u64 r),.one (.int .i64 j)]∧
  bl=[.arr 0 .u32 o]∧(o.length=l.length∧m=o.length∧NatIs (j+1) j'∧j'≤l.length∧NatIs r r'∧r'<b)∧
  natL (l.drop j')=natL (o.drop j')*b+r'∧k=j':=⟨_,rfl⟩
 refine⟨[0,1,6,7,8],[11],J0,⟨l.length,by rw[hJ0];exact⟨l11,k11,0,l.length,0,n14,rfl,rfl,⟨by rw[hl11,List.length_replicate];omega,by rw[hl11,List.length_replicate],⟨by omega⟩,by omega,natIs 0,hb⟩,by rw[List.drop_length,List.drop_eq_nil_of_le (by rw[hl11,List.length_replicate];omega)];simp[natL],rfl⟩⟩,?_⟩
 intro vs bl kk0 hj;rw[hJ0] at hj
 obtain⟨o,m,r',j',r,j,rfl,rfl,⟨ho,hm,hj,hjL,hr,hrb⟩,hinv,hk0⟩:=hj
 conv=>cbv
 have ej:=hj.eq
 have er:=hr.eq
 intro n16 h16;conv=>cbv
 cases n16 <;> conv=>cbv
 ·have k16:=geq_f h16
  have hnl40:m≤(o).length:=by omega
  obtain⟨m40,hm40⟩:∃z:Nat,z=(trimL ((o).take m)).length:=⟨_,rfl⟩
  obtain⟨hle40,htk40⟩:=trim_take hnl40 hm40
  refine .inr (.inr (.inl ⟨[],.one (.lsl .u32 0 0 0 m40),.arr 0 .u32 o,fun _=>⟨by first | decide | simp[idsV,idsC],trivial⟩,fun _=>⟨useB hE (trim_B hnl40 (by omega) hm40),rfl,rfl⟩,?_⟩))
  try conv=>cbv
  obtain⟨w42,hw42⟩:∃z:List UInt32,z=limbs r':=⟨_,rfl⟩
  refine cL hE (fromUint_ok hr (by omega) hw42) ⟨rfl,trivial⟩ ?_
  try conv=>cbv
  have hk:j'=0:=by omega
  rw[hk,List.drop_zero,List.drop_zero] at hinv
  have hq:natL o=natL l/b:=by rw[hinv,Nat.add_comm,Nat.add_mul_div_right _ _ hb,Nat.div_eq_of_lt hrb,Nat.zero_add]
  have hr2:r'=natL l%b:=by rw[hinv,Nat.add_comm,Nat.add_mul_mod_self_right,Nat.mod_eq_of_lt hrb]
  exact fA ⟨⟨rfl,.inl ⟨_,rfl,by omega,congrArg _ (by rw[List.drop_zero,htk40,hz1,hm,List.take_length,hq])⟩,trivial⟩,⟨rfl,congrArg _ (by rw[hz2,hw42,hr2]),trivial⟩,trivial⟩ rfl (by simp)
 ·have k16:=geq_t h16
  refine .inr ?_
  intro n20 h20;conv=>cbv
  refine⟨fun _=>by omega,?_⟩
  have h20:=shl_u64 (p:=4294967296) h20 rfl
  have h20:n20=((r'*4294967296:Nat):Int):=by clear hinv;omega
  obtain⟨i',rfl⟩:∃i',j'=i'+1:=⟨j'-1,by omega⟩
  obtain⟨x23,hx23⟩:=get_ex (l:=l) (i:=i') (by omega)
  refine⟨x23,fun _=>⟨by omega,by rw[show (j).toNat=i' by omega];exact hx23⟩,?_⟩
  try conv=>cbv
  intro n24 h24;have e24:=h24.eq;have f24:=h24.lt;conv=>cbv
  intro n25 h25;conv=>cbv
  have h25:=wrap_u64 h25
  intro n26 h26;conv=>cbv
  have h26:=or_hilo (p:=r') (q:=x23.toNat) h26 (by omega) (by omega) (by omega) (by omega)
  intro n31 h31;conv=>cbv
  have h31:=wrap_u64 h31
  intro n32 h32;conv=>cbv
  refine⟨fun _=>⟨by omega,by omega⟩,?_⟩
  have h32:=wrap_u64 h32
  intro n33 h33;conv=>cbv
  have h33:=wrap_u32 h33
  have e31:n31=(b:Int):=by omega
  have e32:n32=(((x23.toNat+4294967296*r')/b:Nat):Int):=by rw[h32,h26,e31,←Int.natCast_ediv];have:=Nat.div_le_self (x23.toNat+4294967296*r') b;generalize (x23.toNat+4294967296*r')/b=Q at *;clear hinv;omega
  refine⟨fun _=>⟨by omega,by omega⟩,?_⟩
  intro j34 hj34;conv=>cbv
  obtain⟨w34,hw34⟩:=u32_ex (n:=n33) (by omega)
  have ew34:=hw34.eq;have fw34:=hw34.lt
  refine⟨w34,fun _=>⟨by show _<List.length (α:=UInt32) o;(first | omega | (simp;omega)),put_w hw34⟩,?_⟩
  intro (l34:List UInt32) (hl34:l34=List.set (α:=UInt32) o j34 w34);have gl34:l34.length=o.length:=by rw[hl34,List.length_set]
  conv=>cbv
  intro n37 h37;conv=>cbv
  have h37:=wrap_u64 h37
  intro n38 h38;conv=>cbv
  refine⟨fun _=>⟨by omega,by omega⟩,?_⟩
  intro n18 h18;conv=>cbv
  refine⟨fun _=>i64 (by omega),?_⟩
  refine⟨i',?_,?_⟩
  ·omega
  rw[hJ0]
  have e37:n37=(b:Int):=by omega
  have h5:=Nat.div_add_mod (x23.toNat+4294967296*r') b
  refine⟨l34,m,(x23.toNat+4294967296*r')%b,i',n38,n18,rfl,rfl,⟨by omega,by omega,⟨by omega⟩,by omega,⟨by rw[h38,h26,e37];simp⟩,Nat.mod_lt _ hb⟩,?_,rfl⟩
  have hqb:(x23.toNat+4294967296*r')/b<4294967296:=Nat.div_lt_of_lt_mul (by
   have:4294967296*(r'+1)≤4294967296*b:=Nat.mul_le_mul_left _ hrb
   rw[Nat.mul_comm b]
   omega)
  have ew:w34.toNat=(x23.toNat+4294967296*r')/b:=by
   rw[e32] at h33
   generalize (x23.toNat+4294967296*r')/b=Q at*
   clear hinv
   omega
  rw[drop_word hx23,hinv,hl34,drop_word (l:=o.set j34 w34) (i:=i') (x:=w34) (by rw[show j34=i' by omega,List.getElem?_set_self (by omega)]),show j34=i' by omega,List.drop_set_of_lt (by omega),ew]
  generalize (x23.toNat+4294967296*r')/b=Q at*
  generalize (x23.toNat+4294967296*r')%b=R at*
  grind
end Go.Abs
