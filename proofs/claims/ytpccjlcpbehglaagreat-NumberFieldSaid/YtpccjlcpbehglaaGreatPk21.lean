/- Part 22 of a proof. Conditions: each theorem's own. -/
import Derived.Test.YtpccjlcpbehglaaGreatPk20
set_option linter.all false
set_option maxHeartbeats 8000000
open Go.Proofs
namespace Go.Abs
open Go.RowKit
variable {a b i:Nat} {l m z:List UInt32}
theorem cmp_step {x y:UInt32} (hx:l[i]? =some x) (hy:m[i]? =some y) (hl:l.length=m.length) (he:natL (l.drop (i+1))=natL (m.drop (i+1))) (hxy:x≠y):
  cmpZ x.toNat y.toNat=cmpZ (natL l) (natL m):=by
 have hi:=getE hx
 have h1:=natL_take_add_drop l (i+1) (by omega)
 have h2:=natL_take_add_drop m (i+1) (by omega)
 rw[natL_take_succ hx] at h1
 rw[natL_take_succ hy] at h2
 have b1:=natL_lt (l.take i)
 have b2:=natL_lt (m.take i)
 rw[List.length_take,Nat.min_eq_left (by omega)] at b1 b2
 rw[←he] at h2
 generalize natL (l.drop (i+1))=D at*
 generalize natL (l.take i)=A at*
 generalize natL (m.take i)=B at*
 generalize 2^(32*(i+1))*D=Q at*
 generalize hP:2^(32*i)=P at*
 have hne:x.toNat≠y.toNat:=fun e=>hxy (UInt32.toNat_inj.1 e)
 by_cases hlt:x.toNat<y.toNat
 ·have:P*(x.toNat+1)≤P*y.toNat:=Nat.mul_le_mul_left _ hlt
  rw[Nat.mul_add] at this
  have:natL l<natL m:=by omega
  unfold cmpZ
  rw[if_pos (by omega),if_pos (by omega)]
 ·have:P*(y.toNat+1)≤P*x.toNat:=Nat.mul_le_mul_left _ (by omega)
  rw[Nat.mul_add] at this
  have:natL m<natL l:=by omega
  unfold cmpZ
  rw[if_neg (by omega),if_pos (by omega),if_neg (by omega),if_pos (by omega)]
theorem cmp_len (h:(limbs a).length≠(limbs b).length):cmpZ (limbs a).length (limbs b).length=cmpZ a b:=by
 by_cases hlt:(limbs a).length<(limbs b).length
 ·have:a<b:=by
   apply Classical.byContradiction;intro hn
   have:=limbs_len_mono (a:=b) (b:=a) (by omega)
   omega
  unfold cmpZ
  rw[if_pos (by omega),if_pos (by omega)]
 ·have:b<a:=by
   apply Classical.byContradiction;intro hn
   have:=limbs_len_mono (a:=a) (b:=b) (by omega)
   omega
  unfold cmpZ
  rw[if_neg (by omega),if_pos (by omega),if_neg (by omega),if_pos (by omega)]
theorem drop_eq {x:UInt32} (hx:l[i]? =some x) (hy:m[i]? =some x) (he:natL (l.drop (i+1))=natL (m.drop (i+1))):natL (l.drop i)=natL (m.drop i):=by
 have h1:=getE hx
 have h2:=getE hy
 rw[List.drop_eq_getElem_cons h1,List.drop_eq_getElem_cons h2,natL,natL,he]
 rw[List.getElem?_eq_getElem h1] at hx
 rw[List.getElem?_eq_getElem h2] at hy
 rw[Option.some.inj hx,Option.some.inj hy]
theorem compare_ok {c:Int} (hl:l=limbs a) (hm:m=limbs b) (hc:c=cmpZ a b):CF 220 [.one (.sl .u32 l),.one (.sl .u32 m)] (.one (.int .i64 c)):=by
 refine acall_fn Tryz.func220 (by kernel_rfl) rfl fun E hE=>?_
 conv=>cbv
 intro n7 h7;have e7:=h7.eq;have f7:=h7.le;conv=>cbv
 intro n9 h9;have e9:=h9.eq;have f9:=h9.le;conv=>cbv
 intro n10 h10;conv=>cbv
 cases n10 <;> conv=>cbv
 ·have k10:=neq_f h10
  intro n17 h17;have e17:=h17.eq;have f17:=h17.le;conv=>cbv
  intro n18 h18;conv=>cbv
  refine⟨fun _=>i64 (by omega),?_⟩
  refine .inr ?_
  obtain⟨J0,hJ0⟩:∃J:List AV→List Blk→Nat→Prop,J=fun vs bl k=>∃(j:Int) (k':Nat),vs=[.one (.sl .u32 l),.one (.sl .u32 m),.one (.int .i64 j)]∧(NatIs (j+1) k'∧k'≤l.length∧l.length=m.length∧natL (l.drop k')=natL (m.drop k'))∧k=k':=⟨_,rfl⟩
  refine⟨[0,1,5],[],J0,⟨l.length,by rw[hJ0];exact⟨n18,l.length,rfl,⟨⟨by omega⟩,by omega,by omega,by rw[List.drop_length,show l.length=m.length by omega,List.drop_length]⟩,rfl⟩⟩,?_⟩
  intro vs bl kk0 hj;rw[hJ0] at hj
  obtain⟨j,k',rfl,⟨hj,hjl,hlm,hd⟩,hk0⟩:=hj
  conv=>cbv
  have ej:=hj.eq
  intro n20 h20;conv=>cbv
  cases n20 <;> conv=>cbv
  ·have k20:=geq_f h20
   have hk:k'=0:=by omega
   have he:a=b:=by rw[hk] at hd;simpa [hl,hm,natL_limbs] using hd
   exact fA ⟨⟨rfl,congrArg _ (by rw[hc,he];simp[cmpZ]),trivial⟩,trivial⟩ rfl (by simp)
  ·have k20:=geq_t h20
   refine .inr ?_
   obtain⟨x25,hx25⟩:=get_ex (l:=l) (i:=(j).toNat) (by omega)
   refine⟨x25,fun _=>⟨by omega,hx25⟩,?_⟩
   try conv=>cbv
   intro n26 h26;have e26:=h26.eq;have f26:=h26.lt;conv=>cbv
   obtain⟨x29,hx29⟩:=get_ex (l:=m) (i:=(j).toNat) (by omega)
   refine⟨x29,fun _=>⟨by omega,hx29⟩,?_⟩
   try conv=>cbv
   intro n30 h30;have e30:=h30.eq;have f30:=h30.lt;conv=>cbv
   intro n31 h31;conv=>cbv
   refine⟨fun _=>rfl,?_⟩
   cases n31 <;> conv=>cbv
   ·have k31:=neq_f h31
    intro n22 h22;conv=>cbv
    refine⟨fun _=>i64 (by omega),?_⟩
    refine⟨k'-1,?_,?_⟩
    ·omega
    rw[hJ0]
    obtain⟨i',rfl⟩:∃i',k'=i'+1:=⟨k'-1,by omega⟩
    refine⟨n22,i',rfl,⟨⟨by omega⟩,by omega,hlm,?_⟩,by omega⟩
    have e26:x25=x29:=UInt32.toNat_inj.1 (by omega)
    subst e26
    exact drop_eq (i:=i') (by rw[←hx25];congr 1;omega) (by rw[←hx29];congr 1;omega) hd
   ·have k31:=neq_t h31
    obtain⟨x34,hx34⟩:=get_ex (l:=l) (i:=(j).toNat) (by omega)
    refine⟨x34,fun _=>⟨by omega,hx34⟩,?_⟩
    try conv=>cbv
    intro n35 h35;have e35:=h35.eq;have f35:=h35.lt;conv=>cbv
    obtain⟨x38,hx38⟩:=get_ex (l:=m) (i:=(j).toNat) (by omega)
    refine⟨x38,fun _=>⟨by omega,hx38⟩,?_⟩
    try conv=>cbv
    intro n39 h39;have e39:=h39.eq;have f39:=h39.lt;conv=>cbv
    obtain⟨r40,hr40⟩:∃z:Int,z=cmpZ n35 n39:=⟨_,rfl⟩
    refine cA hE (Compare_u32 hr40) ?_
    try conv=>cbv
    refine⟨fun _=>rfl,?_⟩
    obtain⟨i',rfl⟩:∃i',k'=i'+1:=⟨k'-1,by omega⟩
    have e1:l[i']? =some x34:=by rw[←hx34];congr 1;omega
    have e2:m[i']? =some x38:=by rw[←hx38];congr 1;omega
    have e3:l[i']? =some x25:=by rw[←hx25];congr 1;omega
    have e4:m[i']? =some x29:=by rw[←hx29];congr 1;omega
    obtain rfl:x34=x25:=Option.some.inj (e1.symm.trans e3)
    obtain rfl:x38=x29:=Option.some.inj (e2.symm.trans e4)
    have hne:x34≠x38:=fun e=>by subst e;exact k31 (by omega)
    exact fA ⟨⟨rfl,congrArg _ (by rw[hr40,hc,h35.eq,h39.eq,cmp_step e1 e2 hlm hd hne,hl,hm,natL_limbs,natL_limbs]),trivial⟩,trivial⟩ rfl (by simp)
 ·have k10:=neq_t h10
  intro n12 h12;have e12:=h12.eq;have f12:=h12.le;conv=>cbv
  intro n14 h14;have e14:=h14.eq;have f14:=h14.le;conv=>cbv
  obtain⟨r15,hr15⟩:∃z:Int,z=cmpZ n12 n14:=⟨_,rfl⟩
  refine cA hE (Compare_int hr15) ?_
  try conv=>cbv
  exact fA ⟨⟨rfl,congrArg _ (by rw[hr15,hc,h12.eq,h14.eq,hl,hm,cmp_len (by rw[←hl,←hm];intro e;exact k10 (by omega))]),trivial⟩,trivial⟩ rfl (by simp)
theorem minus_ok (hl:l=limbs a) (hm:m=limbs b) (hz:z=limbs (a-b)) (hab:b≤a) (sl:l.length≤17592186044416):CF 248 [.one (.sl .u32 l),.one (.sl .u32 m)] (.one (.sl .u32 z)):=by
 have hml:m.length≤l.length:=by rw[hl,hm];exact limbs_len_mono hab
 refine acall_fn Tryz.func248 (by kernel_rfl) rfl fun E hE=>?_
 conv=>cbv
 intro n11 h11;have e11:=h11.eq;have f11:=h11.le;conv=>cbv
 refine⟨fun _=>⟨by omega,by omega,by show _*4≤140737488355328;omega⟩,?_⟩
 intro k12 (l12:List UInt32) ql12;have hk12:=ql12.1;have hl12:l12=List.replicate k12 (0:el .u32):=ql12.2;have gl12:l12.length=k12:=by rw[hl12,List.length_replicate]
 conv=>cbv
 intro n14 h14;have e14:=h14.eq;have f14:=h14.le;conv=>cbv
 refine .inr ?_
 obtain⟨J0,hJ0⟩:∃J:List AV→List Blk→Nat→Prop,J=fun vs bl k=>∃(o:List UInt32) (n c' i':Nat) (c L i:Int),vs=[.one (.sl .u32 l),.one (.sl .u32 m),.one (.lsl .u32 12 0 0 n),.one (.int .u64 c),.one (.sl .u32 l),.one (.int .i64 L),.one (.int .i64 i)]∧
  bl=[.arr 0 .u32 o]∧(o.length=l.length∧n=o.length∧LenIs L l.length∧NatIs i i'∧i'≤l.length∧NatIs c c'∧c'≤1)∧
  natL (o.take i')+natL (m.take i')=natL (l.take i')+2^(32*i')*c'∧k=l.length-i':=⟨_,rfl⟩
 refine⟨[0,1,5,6,13,14,15],[12],J0,⟨l.length-0,by rw[hJ0];exact⟨l12,k12,0,0,0,n14,0,rfl,rfl,⟨by rw[hl12,List.length_replicate];omega,by rw[hl12,List.length_replicate],h14,natIs 0,by omega,natIs 0,by omega⟩,by simp[natL],rfl⟩⟩,?_⟩
 intro vs bl kk0 hj;rw[hJ0] at hj
 obtain⟨o,n,c',i',c,L,i,rfl,rfl,⟨ho,hn,hL,hi,hiL,hc,hc1⟩,hinv,hk0⟩:=hj
 conv=>cbv
 have eL:=hL.eq
 have ei:=hi.eq
 have ec:=hc.eq
 intro n16 h16;conv=>cbv
 cases n16 <;> conv=>cbv
 ·have k16:=lss_f h16
  have hnl44:n≤(o).length:=by omega
  obtain⟨m44,hm44⟩:∃z:Nat,z=(trimL ((o).take n)).length:=⟨_,rfl⟩
  obtain⟨hle44,htk44⟩:=trim_take hnl44 hm44
  refine .inr (.inr (.inl ⟨[],.one (.lsl .u32 0 0 0 m44),.arr 0 .u32 o,fun _=>⟨by first | decide | simp[idsV,idsC],trivial⟩,fun _=>⟨useB hE (trim_B hnl44 (by omega) hm44),rfl,rfl⟩,?_⟩))
  try conv=>cbv
  have hk:i'=l.length:=by omega
  have hfin:natL (o.take n)=a-b:=by rw[hk,natL_take_ge hml,natL_take_ge (Nat.le_refl _),hm,hl,natL_limbs,natL_limbs,←hl,←ho,List.take_length] at hinv;have hlt:=natL_lt o;generalize 2^(32*o.length)=P at *;rw[hn,List.take_length];rcases (by omega:c'=0∨c'=1) with e | e <;> rw[e] at hinv <;> omega
  exact fA ⟨⟨rfl,.inl ⟨_,rfl,by omega,congrArg _ (by rw[List.drop_zero,htk44,hfin,hz])⟩,trivial⟩,trivial⟩ rfl (by simp)
 ·have k16:=lss_t h16
  refine .inr ?_
  obtain⟨x18,hx18⟩:=get_ex (l:=l) (i:=i') (by omega)
  refine⟨x18,fun _=>⟨by omega,by rw[show (i).toNat=i' by omega];exact hx18⟩,?_⟩
  try conv=>cbv
  intro n19 h19;have e19:=h19.eq;have f19:=h19.lt;conv=>cbv
  intro n21 h21;conv=>cbv
  have h21:=wrap_u64 h21
  intro n23 h23;conv=>cbv
  have h23:=wrap_u64 h23
  intro n26 h26;have e26:=h26.eq;have f26:=h26.le;conv=>cbv
  intro n27 h27;conv=>cbv
  refine .inr ?_
  cases n27 <;> conv=>cbv
  ·have k27:=lss_f h27
   intro n38 h38;conv=>cbv
   have h38:=wrap_u32 h38
   refine⟨fun _=>⟨by omega,by omega⟩,?_⟩
   intro j39 hj39;conv=>cbv
   obtain⟨w39,hw39⟩:=u32_ex (n:=n38) (by omega)
   have ew39:=hw39.eq;have fw39:=hw39.lt
   refine⟨w39,fun _=>⟨by show _<List.length (α:=UInt32) o;(first | omega | (simp;omega)),put_w hw39⟩,?_⟩
   intro (l39:List UInt32) (hl39:l39=List.set (α:=UInt32) o j39 w39);have gl39:l39.length=o.length:=by rw[hl39,List.length_set]
   conv=>cbv
   intro n41 h41;conv=>cbv
   refine⟨fun _=>by omega,?_⟩
   have h41:=shr_lit (p:=9223372036854775808) h41 rfl
   intro n42 h42;conv=>cbv
   refine⟨fun _=>i64 (by omega),?_⟩
   refine⟨l.length-(i'+1),?_,?_⟩
   ·omega
   rw[hJ0]
   refine⟨l39,n,n41.toNat,i'+1,n41,L,n42,rfl,rfl,⟨by rw[hl39,List.length_set];exact ho,by rw[hl39,List.length_set];exact hn,hL,⟨by omega⟩,by omega,⟨by omega⟩,by omega⟩,?_,rfl⟩
   have hs:=minus_step (w:=w39) (o:=o) (i:=i') (xi:=x18.toNat) (yi:=0) (bor:=c') (bor':=n41.toNat) (by omega) hinv (by omega)
   rw[hl39,show j39=i' by omega,natL_take_succ hx18,←hs,natL_take_ge (l:=m) (i:=i'+1) (by omega),natL_take_ge (l:=m) (i:=i') (by omega),Nat.mul_zero]
   rfl
  ·have k27:=lss_t h27
   obtain⟨x31,hx31⟩:=get_ex (l:=m) (i:=i') (by omega)
   refine⟨x31,fun _=>⟨by omega,by rw[show (i).toNat=i' by omega];exact hx31⟩,?_⟩
   try conv=>cbv
   intro n32 h32;have e32:=h32.eq;have f32:=h32.lt;conv=>cbv
   intro n33 h33;conv=>cbv
   have h33:=wrap_u64 h33
   intro n34 h34;conv=>cbv
   have h34:=wrap_u64 h34
   intro n38 h38;conv=>cbv
   have h38:=wrap_u32 h38
   refine⟨fun _=>⟨by omega,by omega⟩,?_⟩
   intro j39 hj39;conv=>cbv
   obtain⟨w39,hw39⟩:=u32_ex (n:=n38) (by omega)
   have ew39:=hw39.eq;have fw39:=hw39.lt
   refine⟨w39,fun _=>⟨by show _<List.length (α:=UInt32) o;(first | omega | (simp;omega)),put_w hw39⟩,?_⟩
   intro (l39:List UInt32) (hl39:l39=List.set (α:=UInt32) o j39 w39);have gl39:l39.length=o.length:=by rw[hl39,List.length_set]
   conv=>cbv
   intro n41 h41;conv=>cbv
   refine⟨fun _=>by omega,?_⟩
   have h41:=shr_lit (p:=9223372036854775808) h41 rfl
   intro n42 h42;conv=>cbv
   refine⟨fun _=>i64 (by omega),?_⟩
   refine⟨l.length-(i'+1),?_,?_⟩
   ·omega
   rw[hJ0]
   refine⟨l39,n,n41.toNat,i'+1,n41,L,n42,rfl,rfl,⟨by rw[hl39,List.length_set];exact ho,by rw[hl39,List.length_set];exact hn,hL,⟨by omega⟩,by omega,⟨by omega⟩,by omega⟩,?_,rfl⟩
   have hs:=minus_step (w:=w39) (o:=o) (i:=i') (xi:=x18.toNat) (yi:=x31.toNat) (bor:=c') (bor':=n41.toNat) (by omega) hinv (by omega)
   rw[hl39,show j39=i' by omega,natL_take_succ hx18,←hs,natL_take_succ hx31]
theorem times_ok (hl:l=limbs a) (hm:m=limbs b) (hz:z=limbs (a*b)) (sl:l.length≤17592186044416) (sm:m.length≤17592186044416):CF 222 [.one (.sl .u32 l),.one (.sl .u32 m)] (.one (.sl .u32 z)):=by
 refine acall_fn Tryz.func222 (by kernel_rfl) rfl fun E hE=>?_
 conv=>cbv
 intro n12 h12;have e12:=h12.eq;have f12:=h12.le;conv=>cbv
 intro n13 h13;conv=>cbv
 cases n13 <;> conv=>cbv
 ·have k13:=eql_f h13
  intro n16 h16;have e16:=h16.eq;have f16:=h16.le;conv=>cbv
  intro n17 h17;conv=>cbv
  cases n17 <;> conv=>cbv
  ·have k17:=eql_f h17
   intro n20 h20;have e20:=h20.eq;have f20:=h20.le;conv=>cbv
   intro n22 h22;have e22:=h22.eq;have f22:=h22.le;conv=>cbv
   intro n23 h23;conv=>cbv
   refine⟨fun _=>i64 (by omega),?_⟩
   refine⟨fun _=>⟨by omega,by omega,by show _*4≤140737488355328;omega⟩,?_⟩
   intro k24 (l24:List UInt32) ql24;have hk24:=ql24.1;have hl24:l24=List.replicate k24 (0:el .u32):=ql24.2;have gl24:l24.length=k24:=by rw[hl24,List.length_replicate]
   conv=>cbv
   intro n26 h26;have e26:=h26.eq;have f26:=h26.le;conv=>cbv
   refine .inr ?_
   obtain⟨J0,hJ0⟩:∃J:List AV→List Blk→Nat→Prop,J=fun vs bl k=>∃(o:List UInt32) (n i':Nat) (L i:Int),vs=[.one (.sl .u32 l),.one (.sl .u32 m),.one (.lsl .u32 24 0 0 n),.one (.sl .u32 l),.one (.int .i64 L),.one (.int .i64 i)]∧
    bl=[.arr 0 .u32 o]∧(o.length=l.length+m.length∧n=o.length∧LenIs L l.length∧NatIs i i'∧i'≤l.length)∧
    natL (o.take (i'+m.length))=natL (l.take i')*natL m∧k=l.length-i':=⟨_,rfl⟩
   refine⟨[0,1,5,25,26,27],[24],J0,⟨l.length-0,by rw[hJ0];exact⟨l24,k24,0,n26,0,rfl,rfl,⟨by rw[hl24,List.length_replicate];omega,by rw[hl24,List.length_replicate],h26,natIs 0,by omega⟩,by rw[hl24,List.take_replicate,natL_replicate];simp[natL],rfl⟩⟩,?_⟩
   intro vs bl kk0 hj;rw[hJ0] at hj
   obtain⟨o,n,i',L,i,rfl,rfl,⟨ho,hn,hL,hi,hiL⟩,hinv,hk0⟩:=hj
   conv=>cbv
   have eL:=hL.eq
   have ei:=hi.eq
   intro n28 h28;conv=>cbv
   cases n28 <;> conv=>cbv
   ·have k28:=lss_f h28
    have hnl74:n≤(o).length:=by omega
    obtain⟨m74,hm74⟩:∃z:Nat,z=(trimL ((o).take n)).length:=⟨_,rfl⟩
    obtain⟨hle74,htk74⟩:=trim_take hnl74 hm74
    refine .inr (.inr (.inl ⟨[],.one (.lsl .u32 0 0 0 m74),.arr 0 .u32 o,fun _=>⟨by first | decide | simp[idsV,idsC],trivial⟩,fun _=>⟨useB hE (trim_B hnl74 (by omega) hm74),rfl,rfl⟩,?_⟩))
    try conv=>cbv
    have hfin:natL (o.take n)=a*b:=by rw[show i'=l.length by omega,List.take_length,hl,hm,natL_limbs,natL_limbs,←hl,←hm,←ho,List.take_length] at hinv;rw[hn,List.take_length,hinv]
    exact fA ⟨⟨rfl,.inl ⟨_,rfl,by omega,congrArg _ (by rw[List.drop_zero,htk74,hfin,hz])⟩,trivial⟩,trivial⟩ rfl (by simp)
   ·have k28:=lss_t h28
    refine .inr ?_
    obtain⟨x30,hx30⟩:=get_ex (l:=l) (i:=i') (by omega)
    refine⟨x30,fun _=>⟨by omega,by rw[show (i).toNat=i' by omega];exact hx30⟩,?_⟩
    try conv=>cbv
    intro n31 h31;have e31:=h31.eq;have f31:=h31.lt;conv=>cbv
    intro n33 h33;have e33:=h33.eq;have f33:=h33.le;conv=>cbv
    refine .inr ?_
    obtain⟨J1,hJ1⟩:∃J:List AV→List Blk→Nat→Prop,J=fun vs bl k=>∃(o1:List UInt32) (n1 c' k':Nat) (c L1 i1:Int),vs=[.one (.sl .u32 l),.one (.sl .u32 m),.one (.lsl .u32 24 0 0 n1),.one (.int .i64 i),.one (.int .u32 n31),.one (.int .u64 c),.one (.sl .u32 l),.one (.int .i64 L),.one (.int .i64 i),.one (.sl .u32 m),.one (.int .i64 L1),.one (.int .i64 i1)]∧
     bl=[.arr 0 .u32 o1]∧(o1.length=l.length+m.length∧n1=o1.length∧LenIs L1 m.length∧NatIs i1 k'∧k'≤m.length∧NatIs c c'∧c'<4294967296)∧
     natL (o1.take (i'+m.length))+2^(32*(i'+k'))*c'=natL (l.take i')*natL m+x30.toNat*2^(32*i')*natL (m.take k')∧k=m.length-k':=⟨_,rfl⟩
    refine⟨[0,1,5,6,7,8,25,26,27,32,33,34],[24],J1,⟨m.length-0,by rw[hJ1];exact⟨o,n,0,0,0,n33,0,rfl,rfl,⟨ho,hn,h33,natIs 0,by omega,natIs 0,by omega⟩,by rw[hinv];simp[natL],rfl⟩⟩,?_⟩
    intro vs bl kk1 hj;rw[hJ1] at hj
    obtain⟨o1,n1,c',k',c,L1,i1,rfl,rfl,⟨ho1,hn1,hL1,hi1,hiL1,hc,hc1⟩,hinv1,hk1⟩:=hj
    conv=>cbv
    have eL1:=hL1.eq
    have ei1:=hi1.eq
    have ec:=hc.eq
    intro n35 h35;conv=>cbv
    cases n35 <;> conv=>cbv
    ·have k35:=lss_f h35
     intro n67 h67;have e67:=h67.eq;have f67:=h67.le;conv=>cbv
     intro n68 h68;conv=>cbv
     refine⟨fun _=>i64 (by omega),?_⟩
     intro n70 h70;conv=>cbv
     have h70:=wrap_u32 h70
     refine⟨fun _=>⟨by omega,by omega⟩,?_⟩
     intro j71 hj71;conv=>cbv
     obtain⟨w71,hw71⟩:=u32_ex (n:=n70) (by omega)
     have ew71:=hw71.eq;have fw71:=hw71.lt
     refine⟨w71,fun _=>⟨by show _<List.length (α:=UInt32) o1;(first | omega | (simp;omega)),put_w hw71⟩,?_⟩
     intro (l71:List UInt32) (hl71:l71=List.set (α:=UInt32) o1 j71 w71);have gl71:l71.length=o1.length:=by rw[hl71,List.length_set]
     conv=>cbv
     intro n72 h72;conv=>cbv
     refine⟨fun _=>i64 (by omega),?_⟩
     refine⟨l.length-(i'+1),?_,?_⟩
     ·omega
     rw[hJ0]
     refine⟨l71,n1,i'+1,L,n72,rfl,rfl,⟨by rw[hl71,List.length_set];exact ho1,by rw[hl71,List.length_set];exact hn1,hL,⟨by omega⟩,by omega⟩,?_,rfl⟩
     have hk:k'=m.length:=by omega
     have hlen:i'+m.length<o1.length:=by omega
     rw[hl71,show i'+1+m.length=i'+m.length+1 by omega,show j71=i'+m.length by omega,take_set_succ hlen,natL_snoc,List.length_take,Nat.min_eq_left (by omega),show w71.toNat=c' by omega]
     rw[hk] at hinv1
     rw[hinv1,List.take_length,natL_take_succ hx30]
     grind
    ·have k35:=lss_t h35
     refine .inr ?_
     obtain⟨x37,hx37⟩:=get_ex (l:=m) (i:=k') (by omega)
     refine⟨x37,fun _=>⟨by omega,by rw[show (i1).toNat=k' by omega];exact hx37⟩,?_⟩
     try conv=>cbv
     intro n38 h38;have e38:=h38.eq;have f38:=h38.lt;conv=>cbv
     intro n41 h41;conv=>cbv
     have h41:=wrap_u64 h41
     intro n43 h43;conv=>cbv
     have h43:=wrap_u64 h43
     have ep:n41*n43=((x30.toNat*x37.toNat:Nat):Int):=by rw[Int.natCast_mul];congr 1 <;> omega
     have bp:x30.toNat*x37.toNat≤4294967295*4294967295:=Nat.mul_le_mul (by omega) (by omega)
     intro n44 h44;conv=>cbv
     have h44:=wrap_u64 h44
     intro n48 h48;conv=>cbv
     refine⟨fun _=>i64 (by omega),?_⟩
     refine⟨fun _=>⟨by omega,by omega⟩,?_⟩
     intro j49 hj49;conv=>cbv
     obtain⟨x50,hx50⟩:=get_ex (l:=o1) (i:=j49) (by omega)
     refine⟨x50,fun _=>hx50,?_⟩
     try conv=>cbv
     intro n50 h50;have e50:=h50.eq;have f50:=h50.lt;conv=>cbv
     intro n51 h51;conv=>cbv
     have h51:=wrap_u64 h51
     intro n52 h52;conv=>cbv
     have h52:=wrap_u64 h52
     intro n53 h53;conv=>cbv
     have h53:=wrap_u64 h53
     intro n57 h57;conv=>cbv
     refine⟨fun _=>i64 (by omega),?_⟩
     intro n59 h59;conv=>cbv
     have h59:=wrap_u32 h59
     refine⟨fun _=>⟨by omega,by omega⟩,?_⟩
     intro j60 hj60;conv=>cbv
     obtain⟨w60,hw60⟩:=u32_ex (n:=n59) (by omega)
     have ew60:=hw60.eq;have fw60:=hw60.lt
     refine⟨w60,fun _=>⟨by show _<List.length (α:=UInt32) o1;(first | omega | (simp;omega)),put_w hw60⟩,?_⟩
     intro (l60:List UInt32) (hl60:l60=List.set (α:=UInt32) o1 j60 w60);have gl60:l60.length=o1.length:=by rw[hl60,List.length_set]
     conv=>cbv
     intro n62 h62;conv=>cbv
     refine⟨fun _=>by omega,?_⟩
     have h62:=shr_lit (p:=4294967296) h62 rfl
     intro n63 h63;conv=>cbv
     refine⟨fun _=>i64 (by omega),?_⟩
     refine⟨m.length-(k'+1),?_,?_⟩
     ·omega
     rw[hJ1]
     refine⟨l60,n1,n62.toNat,k'+1,n62,L1,n63,rfl,rfl,⟨by rw[hl60,List.length_set];exact ho1,by rw[hl60,List.length_set];exact hn1,hL1,⟨by omega⟩,by omega,⟨by omega⟩,by omega⟩,?_,rfl⟩
     have hj:j60=i'+k':=by omega
     have hj2:j49=i'+k':=by omega
     rw[hj2] at hx50
     rw[hl60,hj,natL_take_succ hx37,show i'+(k'+1)=i'+k'+1 by omega]
     refine times_step (q:=x50) (xi:=x30.toNat) (yk:=x37.toNat) (old:=x50.toNat) (c:=c') rfl (by omega) hx50 rfl hinv1 ?_ rfl
     rw[ep] at h44
     omega
  ·have k17:=eql_t h17
   have h0:b=0:=limbs_eq_nil.1 (by rw[←hm];exact List.length_eq_zero_iff.1 (by omega))
   exact fA ⟨⟨rfl,.inr (.inl ⟨_,congrArg _ (by rw[hz,h0];rfl)⟩),trivial⟩,trivial⟩ rfl (by simp)
 ·have k13:=eql_t h13
  have h0:a=0:=limbs_eq_nil.1 (by rw[←hl];exact List.length_eq_zero_iff.1 (by have k13:=eql_t h13;omega))
  exact fA ⟨⟨rfl,.inr (.inl ⟨_,congrArg _ (by rw[hz,h0,Nat.zero_mul];rfl)⟩),trivial⟩,trivial⟩ rfl (by simp)
end Go.Abs
namespace Go.Abs
open Go.RowKit
variable {b b1 b2 b3 c:Bool} {l l1 l2 l3 z:List UInt32} {x y:Int}
theorem valid_last {i:Nat} {x:UInt32} {n:Int} (hx:l[i]? =some x) (hi:i+1=l.length) (hn:n=x.toNat):validI b l=(n !=0):=by
 have hl:l.getLast? =some x:=by rw[List.getLast?_eq_getElem?,←hx];congr 1;omega
 unfold validI
 rw[hl,hn]
 show (x !=0)=_
 rw[Bool.eq_iff_iff]
 simp only[bne_iff_ne,ne_eq]
 rw[←UInt32.toNat_inj]
 show ¬x.toNat=0↔_
 omega
theorem Norm_raw (hx:x=if b=true then -(natL l:Int) else natL l) (hl:l.length≤17592186044416) (hz:IsI x c z):CF 208 [.agg [.bool b,.sl .u32 l]] (.agg [.bool c,.sl .u32 z]):=by
 refine acall_fn Tryz.func208 (by kernel_rfl) rfl fun E hE=>?_
 conv=>cbv
 obtain⟨w7,hw7⟩:∃z:List UInt32,z=limbs (natL l):=⟨_,rfl⟩
 refine cA hE (trim_A rfl hw7) ?_
 try conv=>cbv
 obtain⟨w8,hw8⟩:∃z:List UInt32,z=w7:=⟨_,rfl⟩
 refine cL (r:= .one (.sl .u32 w8)) hE (Clone_w hw8 (by rw[hw7,←trimL_eq];exact Nat.le_trans (trimL_len l) hl)) ⟨rfl,trivial⟩ ?_
 try conv=>cbv
 obtain⟨zb9,zl9,hz9⟩:=isI_ex (x)
 refine cL (r:= .agg [.bool zb9,.sl .u32 zl9]) hE (signed_ok (by rw[hw8,hw7,natL_limbs];exact hx) hz9) ⟨rfl,rfl,trivial⟩ ?_
 try conv=>cbv
 refine⟨fun _=>rfl,?_⟩
 exact fA ⟨⟨rfl,congrArg _ ((hz9.uniq hz rfl).1.symm),congrArg _ ((hz9.uniq hz rfl).2.symm),trivial⟩,trivial⟩ rfl (by simp)
theorem Neg_ok (hx:IsI x b l) (hl:l.length≤17592186044416) (hz:IsI (-x) c z):CF 235 [.agg [.bool b,.sl .u32 l]] (.agg [.bool c,.sl .u32 z]):=by
 refine acall_fn Tryz.func235 (by kernel_rfl) rfl fun E hE=>?_
 conv=>cbv
 intro n5 h5;conv=>cbv
 obtain⟨w8,hw8⟩:∃z:List UInt32,z=limbs (natL l):=⟨_,rfl⟩
 refine cA hE (trim_A rfl hw8) ?_
 try conv=>cbv
 have t8:w8=l:=by rw[hw8];exact hx.trim
 obtain⟨w9,hw9⟩:∃z:List UInt32,z=l:=⟨_,rfl⟩
 refine cL (r:= .one (.sl .u32 w9)) hE (Clone_w (hw9.trans t8.symm) (by rw[t8];exact hl)) ⟨rfl,trivial⟩ ?_
 try conv=>cbv
 obtain⟨zb10,zl10,hz10⟩:=isI_ex (-x)
 refine cL (r:= .agg [.bool zb10,.sl .u32 zl10]) hE (signed_ok (by rw[hw9,h5];exact sgn_neg hx.sgn) hz10) ⟨rfl,rfl,trivial⟩ ?_
 try conv=>cbv
 refine⟨fun _=>rfl,?_⟩
 exact fA ⟨⟨rfl,congrArg _ ((hz10.uniq hz rfl).1.symm),congrArg _ ((hz10.uniq hz rfl).2.symm),trivial⟩,trivial⟩ rfl (by simp)
theorem Sign_raw {c:Int} (hx:x=if b=true then -(natL l:Int) else natL l) (hc:c=sgnI x):CF 218 [.agg [.bool b,.sl .u32 l]] (.one (.int .i64 c)):=by
 refine acall_fn Tryz.func218 (by kernel_rfl) rfl fun E hE=>?_
 conv=>cbv
 refine .inr ?_
 obtain⟨w6,hw6⟩:∃z:List UInt32,z=limbs (natL l):=⟨_,rfl⟩
 refine cA hE (trim_A rfl hw6) ?_
 try conv=>cbv
 intro n7 h7;have e7:=h7.eq;have f7:=h7.le;conv=>cbv
 intro n8 h8;conv=>cbv
 cases n8 <;> conv=>cbv
 ·have k8:=eql_f h8
  cases b <;> conv=>cbv
  ·have h0:natL l≠0:=fun e=>by rw[hw6,e] at e7;exact (eql_f h8) e7
   exact fA ⟨⟨rfl,congrArg _ (by rw[hc,sgnI_of hx h0];rfl),trivial⟩,trivial⟩ rfl (by simp)
  ·have h0:natL l≠0:=fun e=>by rw[hw6,e] at e7;exact (eql_f h8) e7
   exact fA ⟨⟨rfl,congrArg _ (by rw[hc,sgnI_of hx h0];rfl),trivial⟩,trivial⟩ rfl (by simp)
 ·have k8:=eql_t h8
  have h0:natL l=0:=by rw[hw6] at e7;exact limbs_eq_nil.1 (List.length_eq_zero_iff.1 (by omega))
  exact fA ⟨⟨rfl,congrArg _ (by rw[hc,hx,h0];unfold sgnI;simp),trivial⟩,trivial⟩ rfl (by simp)
theorem Sign_ok {c:Int} (hx:IsI x b l) (hc:c=sgnI x):CF 218 [.agg [.bool b,.sl .u32 l]] (.one (.int .i64 c)):=Sign_raw hx.sgn hc
theorem Norm_ok (hx:IsI x b l) (hl:l.length≤17592186044416) (hz:IsI x c z):CF 208 [.agg [.bool b,.sl .u32 l]] (.agg [.bool c,.sl .u32 z]):=Norm_raw hx.sgn hl hz
theorem Cmp_ok {c:Int} (hx:IsI x b1 l1) (hy:IsI y b2 l2) (hc:c=cmpZ x y):CF 191 [.agg [.bool b1,.sl .u32 l1],.agg [.bool b2,.sl .u32 l2]] (.one (.int .i64 c)):=by
 refine acall_fn Tryz.func191 (by kernel_rfl) rfl fun E hE=>?_
 conv=>cbv
 obtain⟨r8,hr8⟩:∃z:Int,z=sgnI x:=⟨_,rfl⟩
 refine cA hE (Sign_ok hx hr8) ?_
 try conv=>cbv
 obtain⟨r10,hr10⟩:∃z:Int,z=sgnI y:=⟨_,rfl⟩
 refine cA hE (Sign_ok hy hr10) ?_
 try conv=>cbv
 refine⟨fun _=>rfl,?_⟩
 intro n13 h13;conv=>cbv
 cases n13 <;> conv=>cbv
 ·have k13:=neq_f h13
  obtain⟨w20,hw20⟩:∃z:List UInt32,z=limbs (natL l1):=⟨_,rfl⟩
  refine cA hE (trim_A rfl hw20) ?_
  try conv=>cbv
  have t20:w20=l1:=by rw[hw20];exact hx.trim
  obtain⟨w23,hw23⟩:∃z:List UInt32,z=limbs (natL l2):=⟨_,rfl⟩
  refine cA hE (trim_A rfl hw23) ?_
  try conv=>cbv
  have t23:w23=l2:=by rw[hw23];exact hy.trim
  obtain⟨r24,hr24⟩:∃z:Int,z=cmpZ x.natAbs y.natAbs:=⟨_,rfl⟩
  refine cA hE (compare_ok (t20.trans hx.mag) (t23.trans hy.mag) hr24) ?_
  try conv=>cbv
  intro n25 h25;conv=>cbv
  refine⟨fun _=>by rw[h25,hr8,hr24];exact sgn_cmp_in _ _ _,?_⟩
  refine⟨fun _=>rfl,?_⟩
  exact fA ⟨⟨rfl,congrArg _ (by rw[hc,h25,hr8,hr24];exact cmp_same (by rw[←hr8,←hr10];exact k13)),trivial⟩,trivial⟩ rfl (by simp)
 ·have k13:=neq_t h13
  obtain⟨r16,hr16⟩:∃z:Int,z=cmpZ r8 r10:=⟨_,rfl⟩
  refine cA hE (Compare_int hr16) ?_
  try conv=>cbv
  exact fA ⟨⟨rfl,congrArg _ (by rw[hc,hr16,hr8,hr10];exact cmp_diff (by rw[←hr8,←hr10];exact k13)),trivial⟩,trivial⟩ rfl (by simp)
theorem Add_ok (hx:IsI x b1 l1) (hy:IsI y b2 l2) (hz:IsI (x+y) b3 l3) (s1:l1.length≤17592186044416) (s2:l2.length≤17592186044416):CF 232 [.agg [.bool b1,.sl .u32 l1],.agg [.bool b2,.sl .u32 l2]] (.agg [.bool b3,.sl .u32 l3]):=by
 refine acall_fn Tryz.func232 (by kernel_rfl) rfl fun E hE=>?_
 conv=>cbv
 obtain⟨w9,hw9⟩:∃z:List UInt32,z=limbs (natL l1):=⟨_,rfl⟩
 refine cA hE (trim_A rfl hw9) ?_
 try conv=>cbv
 have t9:w9=l1:=by rw[hw9];exact hx.trim
 obtain⟨w12,hw12⟩:∃z:List UInt32,z=limbs (natL l2):=⟨_,rfl⟩
 refine cA hE (trim_A rfl hw12) ?_
 try conv=>cbv
 have t12:w12=l2:=by rw[hw12];exact hy.trim
 refine⟨fun _=>rfl,?_⟩
 intro n17 h17;conv=>cbv
 cases n17 <;> conv=>cbv
 ·have k17:=beq_f h17
  obtain⟨r26,hr26⟩:∃z:Int,z=cmpZ x.natAbs y.natAbs:=⟨_,rfl⟩
  refine cA hE (compare_ok (t9.trans hx.mag) (t12.trans hy.mag) hr26) ?_
  try conv=>cbv
  intro n27 h27;conv=>cbv
  cases n27 <;> conv=>cbv
  ·have k27:=lss_f h27
   obtain⟨w38,hw38⟩:∃z:List UInt32,z=limbs (x.natAbs-y.natAbs):=⟨_,rfl⟩
   refine cL (r:= .one (.sl .u32 w38)) hE (minus_ok (t9.trans hx.mag) (t12.trans hy.mag) hw38 (by rw[hr26] at k27;have:=cmpZ_ge k27;omega) (by rw[t9];exact s1)) ⟨rfl,rfl,trivial⟩ ?_
   try conv=>cbv
   obtain⟨zb39,zl39,hz39⟩:=isI_ex (x+y)
   refine cL (r:= .agg [.bool zb39,.sl .u32 zl39]) hE (signed_ok (by rw[hw38,natL_limbs,Int.add_comm];rw[hr26] at k27;exact add_diff hy.neg hx.neg (Ne.symm k17) (by have:=cmpZ_ge k27;omega)) hz39) ⟨rfl,rfl,trivial⟩ ?_
   try conv=>cbv
   refine⟨fun _=>rfl,?_⟩
   exact fA ⟨⟨rfl,congrArg _ ((hz39.uniq hz rfl).1.symm),congrArg _ ((hz39.uniq hz rfl).2.symm),trivial⟩,trivial⟩ rfl (by simp)
  ·have k27:=lss_t h27
   obtain⟨w32,hw32⟩:∃z:List UInt32,z=limbs (y.natAbs-x.natAbs):=⟨_,rfl⟩
   refine cL (r:= .one (.sl .u32 w32)) hE (minus_ok (t12.trans hy.mag) (t9.trans hx.mag) hw32 (by rw[hr26] at k27;have:=cmpZ_lt k27;omega) (by rw[t12];exact s2)) ⟨rfl,rfl,trivial⟩ ?_
   try conv=>cbv
   obtain⟨zb33,zl33,hz33⟩:=isI_ex (x+y)
   refine cL (r:= .agg [.bool zb33,.sl .u32 zl33]) hE (signed_ok (by rw[hw32,natL_limbs];rw[hr26] at k27;exact add_diff hx.neg hy.neg k17 (by have:=cmpZ_lt k27;omega)) hz33) ⟨rfl,rfl,trivial⟩ ?_
   try conv=>cbv
   refine⟨fun _=>rfl,?_⟩
   exact fA ⟨⟨rfl,congrArg _ ((hz33.uniq hz rfl).1.symm),congrArg _ ((hz33.uniq hz rfl).2.symm),trivial⟩,trivial⟩ rfl (by simp)
 ·have k17:=beq_t h17
  obtain⟨w22,hw22⟩:∃z:List UInt32,z=limbs (x.natAbs+y.natAbs):=⟨_,rfl⟩
  refine cL (r:= .one (.sl .u32 w22)) hE (plus_ok (t9.trans hx.mag) (t12.trans hy.mag) hw22 (by rw[t9];exact s1) (by rw[t12];exact s2)) ⟨rfl,rfl,trivial⟩ ?_
  try conv=>cbv
  obtain⟨zb23,zl23,hz23⟩:=isI_ex (x+y)
  refine cL (r:= .agg [.bool zb23,.sl .u32 zl23]) hE (signed_ok (by rw[hw22,natL_limbs];exact add_same hx.neg (k17.trans hy.neg)) hz23) ⟨rfl,rfl,trivial⟩ ?_
  try conv=>cbv
  refine⟨fun _=>rfl,?_⟩
  exact fA ⟨⟨rfl,congrArg _ ((hz23.uniq hz rfl).1.symm),congrArg _ ((hz23.uniq hz rfl).2.symm),trivial⟩,trivial⟩ rfl (by simp)
theorem Mul_ok (hx:IsI x b1 l1) (hy:IsI y b2 l2) (hz:IsI (x*y) b3 l3) (s1:l1.length≤17592186044416) (s2:l2.length≤17592186044416):CF 192 [.agg [.bool b1,.sl .u32 l1],.agg [.bool b2,.sl .u32 l2]] (.agg [.bool b3,.sl .u32 l3]):=by
 refine acall_fn Tryz.func192 (by kernel_rfl) rfl fun E hE=>?_
 conv=>cbv
 intro n9 h9;conv=>cbv
 obtain⟨w12,hw12⟩:∃z:List UInt32,z=limbs (natL l1):=⟨_,rfl⟩
 refine cA hE (trim_A rfl hw12) ?_
 try conv=>cbv
 have t12:w12=l1:=by rw[hw12];exact hx.trim
 obtain⟨w15,hw15⟩:∃z:List UInt32,z=limbs (natL l2):=⟨_,rfl⟩
 refine cA hE (trim_A rfl hw15) ?_
 try conv=>cbv
 have t15:w15=l2:=by rw[hw15];exact hy.trim
 obtain⟨w16,hw16⟩:∃z:List UInt32,z=limbs (x.natAbs*y.natAbs):=⟨_,rfl⟩
 refine cL (r:= .one (.sl .u32 w16)) hE (times_ok (t12.trans hx.mag) (t15.trans hy.mag) hw16 (by rw[t12];exact s1) (by rw[t15];exact s2)) ⟨rfl,rfl,trivial⟩ ?_
 try conv=>cbv
 obtain⟨zb17,zl17,hz17⟩:=isI_ex (x*y)
 refine cL (r:= .agg [.bool zb17,.sl .u32 zl17]) hE (signed_ok (by rw[hw16,natL_limbs,h9];exact mul_sgn hx.neg hy.neg) hz17) ⟨rfl,rfl,trivial⟩ ?_
 try conv=>cbv
 refine⟨fun _=>rfl,?_⟩
 exact fA ⟨⟨rfl,congrArg _ ((hz17.uniq hz rfl).1.symm),congrArg _ ((hz17.uniq hz rfl).2.symm),trivial⟩,trivial⟩ rfl (by simp)
theorem Valid_ok (hc:c=validI b l):CF 225 [.agg [.bool b,.sl .u32 l]] (.one (.bool c)):=by
 refine acall_fn Tryz.func225 (by kernel_rfl) rfl fun E hE=>?_
 conv=>cbv
 intro n6 h6;have e6:=h6.eq;have f6:=h6.le;conv=>cbv
 intro n8 h8;conv=>cbv
 cases n8 <;> conv=>cbv
 ·have k8:=eql_f h8
  intro n16 h16;conv=>cbv
  cases n16 <;> conv=>cbv
  ·have k16:=gtr_f h16
   exfalso;omega
  ·have k16:=gtr_t h16
   intro n21 h21;conv=>cbv
   refine⟨fun _=>i64 (by omega),?_⟩
   obtain⟨x22,hx22⟩:=get_ex (l:=l) (i:=(n21).toNat) (by omega)
   refine⟨x22,fun _=>⟨by omega,hx22⟩,?_⟩
   try conv=>cbv
   intro n23 h23;have e23:=h23.eq;have f23:=h23.lt;conv=>cbv
   intro n24 h24;conv=>cbv
   exact fA ⟨⟨rfl,congrArg _ (by rw[hc,h24];exact valid_last hx22 (by omega) e23),trivial⟩,trivial⟩ rfl (by simp)
 ·have k8:=eql_t h8
  intro n12 h12;conv=>cbv
  cases n12 <;> conv=>cbv
  ·have k12:=not_f h12
   intro n16 h16;conv=>cbv
   cases n16 <;> conv=>cbv
   ·have k16:=gtr_f h16
    exact fA ⟨⟨rfl,congrArg _ (by rw[hc,List.eq_nil_of_length_eq_zero (by omega:l.length=0),k12];rfl),trivial⟩,trivial⟩ rfl (by simp)
   ·have k16:=gtr_t h16
    intro n21 h21;conv=>cbv
    refine⟨fun _=>i64 (by omega),?_⟩
    obtain⟨x22,hx22⟩:=get_ex (l:=l) (i:=(n21).toNat) (by omega)
    refine⟨x22,fun _=>⟨by omega,hx22⟩,?_⟩
    try conv=>cbv
    intro n23 h23;have e23:=h23.eq;have f23:=h23.lt;conv=>cbv
    intro n24 h24;conv=>cbv
    exfalso;omega
  ·have k12:=not_t h12
   exact fA ⟨⟨rfl,congrArg _ (by rw[hc,List.eq_nil_of_length_eq_zero (by omega:l.length=0),k12];rfl),trivial⟩,trivial⟩ rfl (by simp)
end Go.Abs
