/- Part 26 of a proof. Conditions: each theorem's own. -/
import Derived.Test.YtpccjlcpbehglaaGreatPk24
set_option linter.all false
set_option maxHeartbeats 8000000
open Go.Proofs
namespace Go.Abs
open Go.RowKit
variable {b b1 b2 b3:Bool} {l l1 l2 l3:List UInt32} {x y:Int}
theorem DivMod_ok {b4:Bool} {l4:List UInt32} (hx:IsI x b1 l1) (hy:IsI y b2 l2) (hy0:y≠0) (hq:IsI (divI x y) b3 l3) (hr:IsI (modI x y) b4 l4) (s1:l1.length≤17592186043000) (s2:l2.length≤17592186043000):CF 250 [.agg [.bool b1,.sl .u32 l1],.agg [.bool b2,.sl .u32 l2]] (.tup [(true,[.bool b3,.sl .u32 l3]),(true,[.bool b4,.sl .u32 l4]),(false,[.int .i64 0])]):=by
 refine acall_fn Tryz.func250 (by kernel_rfl) rfl fun E hE=>?_
 conv=>cbv
 obtain⟨w12,hw12⟩:∃z:List UInt32,z=limbs (natL l2):=⟨_,rfl⟩
 refine cA hE (trim_A rfl hw12) ?_
 try conv=>cbv
 have t12:w12=l2:=by rw[hw12];exact hy.trim
 intro n14 h14;have e14:=h14.eq;have f14:=h14.le;conv=>cbv
 intro n15 h15;conv=>cbv
 cases n15 <;> conv=>cbv
 ·have k15:=eql_f h15
  obtain⟨w21,hw21⟩:∃z:List UInt32,z=limbs (natL l1):=⟨_,rfl⟩
  refine cA hE (trim_A rfl hw21) ?_
  try conv=>cbv
  have t21:w21=l1:=by rw[hw21];exact hx.trim
  obtain⟨w23,hw23⟩:∃z:List UInt32,z=limbs (x.natAbs/y.natAbs):=⟨_,rfl⟩
  obtain⟨v23,hv23⟩:∃z:List UInt32,z=limbs (x.natAbs%y.natAbs):=⟨_,rfl⟩
  refine cL (r:= .tup [(false,[.sl .u32 w23]),(false,[.sl .u32 v23])]) hE (divide_ok (t21.trans hx.mag) (t12.trans hy.mag) (by omega) hw23 hv23 (by rw[t21];omega)) ⟨rfl,rfl,trivial⟩ ?_
  try conv=>cbv
  have hy1:0<y.natAbs:=by omega
  have hdm:=Nat.div_add_mod x.natAbs y.natAbs
  have hml:=Nat.mod_lt x.natAbs hy1
  have hb1:=hx.neg
  have hb2:=hy.neg
  intro n30 h30;conv=>cbv
  cases n30 <;> conv=>cbv
  ·have k30:=bne_f h30
   refine .inr ?_
   intro n46 h46;conv=>cbv
   obtain⟨zb48,zl48,hz48⟩:=isI_ex (divI x y)
   refine cL (r:= .agg [.bool zb48,.sl .u32 zl48]) hE (signed_ok (by rw[hw23,natL_limbs,h46,k30,divI_same hy0 (by rw[←hb1,←hb2];exact k30)];simp) hz48) ⟨rfl,rfl,trivial⟩ ?_
   try conv=>cbv
   obtain⟨zb52,zl52,hz52⟩:=isI_ex (modI x y)
   refine cL (r:= .agg [.bool zb52,.sl .u32 zl52]) hE (signed_ok (by rw[hv23,natL_limbs];exact modI_same hb2 hy0 (by rw[←hb1,←hb2];exact k30)) hz52) ⟨rfl,rfl,trivial⟩ ?_
   try conv=>cbv
   refine⟨fun _=>rfl,?_⟩
   exact fA ⟨⟨rfl,congrArg _ ((hz48.uniq hq rfl).1.symm),congrArg _ ((hz48.uniq hq rfl).2.symm),trivial⟩,⟨rfl,congrArg _ ((hz52.uniq hr rfl).1.symm),congrArg _ ((hz52.uniq hr rfl).2.symm),trivial⟩,⟨rfl,rfl,trivial⟩,trivial⟩ rfl (by simp)
  ·have k30:=bne_t h30
   intro n33 h33;have e33:=h33.eq;have f33:=h33.le;conv=>cbv
   intro n34 h34;conv=>cbv
   refine .inr ?_
   cases n34 <;> conv=>cbv
   ·have k34:=gtr_f h34
    intro n46 h46;conv=>cbv
    obtain⟨zb48,zl48,hz48⟩:=isI_ex (divI x y)
    refine cL (r:= .agg [.bool zb48,.sl .u32 zl48]) hE (signed_ok (by have hne:decide (x<0)≠decide (y<0):=(by rw[←hb1,←hb2];exact k30);have e46:n46=true:=(by rw[h46];simpa using k30);rw[hw23,natL_limbs,e46,if_pos rfl];exact divI_diff0 hy0 hne (limbs_eq_nil.1 (by rw[←hv23];exact List.eq_nil_of_length_eq_zero (by omega)))) hz48) ⟨rfl,rfl,trivial⟩ ?_
    try conv=>cbv
    obtain⟨zb52,zl52,hz52⟩:=isI_ex (modI x y)
    refine cL (r:= .agg [.bool zb52,.sl .u32 zl52]) hE (signed_ok (by have hne:decide (x<0)≠decide (y<0):=(by rw[←hb1,←hb2];exact k30);rw[hv23,natL_limbs];exact modI_diff0 hy0 hne (limbs_eq_nil.1 (by rw[←hv23];exact List.eq_nil_of_length_eq_zero (by omega)))) hz52) ⟨rfl,rfl,trivial⟩ ?_
    try conv=>cbv
    refine⟨fun _=>rfl,?_⟩
    exact fA ⟨⟨rfl,congrArg _ ((hz48.uniq hq rfl).1.symm),congrArg _ ((hz48.uniq hq rfl).2.symm),trivial⟩,⟨rfl,congrArg _ ((hz52.uniq hr rfl).1.symm),congrArg _ ((hz52.uniq hr rfl).2.symm),trivial⟩,⟨rfl,rfl,trivial⟩,trivial⟩ rfl (by simp)
   ·have k34:=gtr_t h34
    refine⟨[(1:UInt32)],fun _=>⟨rfl,by decide,rfl,⟨rfl,⟨rfl,trivial⟩,trivial⟩⟩,.inl ?_⟩
    try conv=>cbv
    obtain⟨w38,hw38⟩:∃z:List UInt32,z=limbs (x.natAbs/y.natAbs+1):=⟨_,rfl⟩
    refine .inr (.inl ⟨[.one (.sl .u32 w23),.one (.sl .u32 [(1:UInt32)])],.one (.sl .u32 w38),fun _=>⟨rfl,⟨_,rfl,by simp <;> omega,by simp⟩,trivial⟩,fun _=>useC hE (acall_plain (acall_flat rfl (plus_own hw23 (rfl:[(1:UInt32)]=limbs 1) hw38 rfl (by rw[hw23];have h1:=limbs_len_mono (Nat.div_le_self x.natAbs y.natAbs);rw[←hx.mag] at h1;omega) (by decide)))),?_⟩)
    try conv=>cbv
    obtain⟨w41,hw41⟩:∃z:List UInt32,z=limbs (y.natAbs-x.natAbs%y.natAbs):=⟨_,rfl⟩
    refine cL (r:= .one (.sl .u32 w41)) hE (minus_ok (t12.trans hy.mag) hv23 hw41 (Nat.le_of_lt (Nat.mod_lt _ (by omega))) (by rw[t12];omega)) ⟨rfl,rfl,trivial⟩ ?_
    try conv=>cbv
    intro n46 h46;conv=>cbv
    obtain⟨zb48,zl48,hz48⟩:=isI_ex (divI x y)
    refine cL (r:= .agg [.bool zb48,.sl .u32 zl48]) hE (signed_ok (by have hne:decide (x<0)≠decide (y<0):=(by rw[←hb1,←hb2];exact k30);have e46:n46=true:=(by rw[h46];simpa using k30);rw[hw38,natL_limbs,e46,if_pos rfl];exact divI_diff1 hy0 hne (fun e=>by rw[e,limbs_zero] at hv23;rw[hv23] at e33;simp at e33;omega)) hz48) ⟨rfl,rfl,trivial⟩ ?_
    try conv=>cbv
    obtain⟨zb52,zl52,hz52⟩:=isI_ex (modI x y)
    refine cL (r:= .agg [.bool zb52,.sl .u32 zl52]) hE (signed_ok (by have hne:decide (x<0)≠decide (y<0):=(by rw[←hb1,←hb2];exact k30);rw[hw41,natL_limbs];exact modI_diff1 hb2 hy0 hne (fun e=>by rw[e,limbs_zero] at hv23;rw[hv23] at e33;simp at e33;omega)) hz52) ⟨rfl,rfl,trivial⟩ ?_
    try conv=>cbv
    refine⟨fun _=>rfl,?_⟩
    exact fA ⟨⟨rfl,congrArg _ ((hz48.uniq hq rfl).1.symm),congrArg _ ((hz48.uniq hq rfl).2.symm),trivial⟩,⟨rfl,congrArg _ ((hz52.uniq hr rfl).1.symm),congrArg _ ((hz52.uniq hr rfl).2.symm),trivial⟩,⟨rfl,rfl,trivial⟩,trivial⟩ rfl (by simp)
 ·have k15:=eql_t h15
  exfalso;exact hy0 (hy.len0.1 (by rw[←t12];omega))
theorem GCD_ok (hx:IsI x b1 l1) (hy:IsI y b2 l2) (hz:IsI ((Nat.gcd x.natAbs y.natAbs:Nat):Int) b3 l3) (s1:l1.length≤17592186043000) (s2:l2.length≤17592186043000):CF 226 [.agg [.bool b1,.sl .u32 l1],.agg [.bool b2,.sl .u32 l2]] (.agg [.bool b3,.sl .u32 l3]):=by
 refine acall_fn Tryz.func226 (by kernel_rfl) rfl fun E hE=>?_
 conv=>cbv
 obtain⟨w13,hw13⟩:∃z:List UInt32,z=limbs (natL l1):=⟨_,rfl⟩
 refine cA hE (trim_A rfl hw13) ?_
 try conv=>cbv
 have t13:w13=l1:=by rw[hw13];exact hx.trim
 obtain⟨w16,hw16⟩:∃z:List UInt32,z=limbs (natL l2):=⟨_,rfl⟩
 refine cA hE (trim_A rfl hw16) ?_
 try conv=>cbv
 have t16:w16=l2:=by rw[hw16];exact hy.trim
 refine⟨fun _=>rfl,?_⟩
 obtain⟨K0,hK0⟩:∃J:List AV→List Blk→Prop,J=fun vs bl=>∃(u v:List UInt32) (P Q:Nat),vs=[.one (.lptr 4 0 0),.one (.sl .u32 u),.one (.sl .u32 v)]∧bl=[.var 0 [.bool false,.nil]]∧(u=limbs P∧v=limbs Q∧Nat.gcd P Q=Nat.gcd x.natAbs y.natAbs∧u.length≤17592186043000)∧v.length≤2∧(2<u.length→v.length=0):=⟨_,rfl⟩
 refine .inl ⟨[4,5,6],[4],K0,?_,?_⟩
 ·intro vs bl hj;rw[hK0] at hj
  obtain⟨u,v,P,Q,rfl,rfl,⟨hu,hv,hG,hul⟩,hv2,hu2⟩:=hj
  conv=>cbv
  intro n39 h39;have e39:=h39.eq;have f39:=h39.le;conv=>cbv
  intro n40 h40;conv=>cbv
  cases n40 <;> conv=>cbv
  ·have k40:=eql_f h40
   have hul2:u.length≤2:=by omega
   have hvl2:v.length≤2:=by omega
   have hP64:P<18446744073709551616:=by have:=natL_lt u;rw[hu,natL_limbs] at this;exact Nat.lt_of_lt_of_le this (Nat.pow_le_pow_right (by decide) (by rw[←hu];omega:32*(limbs P).length≤64))
   have hQ64:Q<18446744073709551616:=by have:=natL_lt v;rw[hv,natL_limbs] at this;exact Nat.lt_of_lt_of_le this (Nat.pow_le_pow_right (by decide) (by rw[←hv];omega:32*(limbs Q).length≤64))
   obtain⟨r45,hr45⟩:∃n:Int,NatIs n (P):=⟨_,⟨rfl⟩⟩
   have er45:=hr45.eq
   refine cL (r:= .one (.int .u64 r45)) hE (toUint_ok (by rw[hu,natL_limbs]) (by omega) hr45) ⟨rfl,trivial⟩ ?_
   try conv=>cbv
   obtain⟨r47,hr47⟩:∃n:Int,NatIs n (Q):=⟨_,⟨rfl⟩⟩
   have er47:=hr47.eq
   refine cL (r:= .one (.int .u64 r47)) hE (toUint_ok (by rw[hv,natL_limbs]) (by omega) hr47) ⟨rfl,trivial⟩ ?_
   try conv=>cbv
   refine .inr ?_
   obtain⟨J1,hJ1⟩:∃J:List AV→List Blk→Nat→Prop,J=fun vs bl k=>∃(p' q':Nat) (p q:Int),vs=[.one (.lptr 4 0 0),.one (.int .u64 p),.one (.int .u64 q)]∧bl=[.var 0 [.bool false,.nil]]∧(NatIs p p'∧NatIs q q'∧p'<18446744073709551616∧q'<18446744073709551616)∧Nat.gcd p' q'=Nat.gcd P Q∧k=q':=⟨_,rfl⟩
   refine⟨[4,9,10],[4],J1,⟨Q,by rw[hJ1];exact⟨P,Q,r45,r47,rfl,rfl,⟨hr45,hr47,hP64,hQ64⟩,rfl,rfl⟩⟩,?_⟩
   intro vs bl kk1 hj;rw[hJ1] at hj
   obtain⟨p',q',p,q,rfl,rfl,⟨hp,hq,hp64,hq64⟩,hpq,hk1⟩:=hj
   conv=>cbv
   have ep:=hp.eq
   have eq:=hq.eq
   intro n49 h49;conv=>cbv
   cases n49 <;> conv=>cbv
   ·have k49:=neq_f h49
    obtain⟨w55,hw55⟩:∃z:List UInt32,z=limbs p':=⟨_,rfl⟩
    refine cL hE (fromUint_ok hp (by omega) hw55) ⟨rfl,trivial⟩ ?_
    try conv=>cbv
    obtain⟨zb56,zl56,hz56⟩:=isI_ex (((Nat.gcd x.natAbs y.natAbs:Nat):Int))
    refine cL (r:= .agg [.bool zb56,.sl .u32 zl56]) hE (signed_ok (by rw[hw55,natL_limbs,←hG,←hpq,show q'=0 by omega,Nat.gcd_zero_right];rfl) hz56) ⟨rfl,rfl,trivial⟩ ?_
    try conv=>cbv
    exact fA ⟨⟨rfl,congrArg _ ((hz56.uniq hz rfl).1.symm),congrArg _ ((hz56.uniq hz rfl).2.symm),trivial⟩,trivial⟩ rfl (by simp)
   ·have k49:=neq_t h49
    refine .inr ?_
    have hq0:0<q':=by omega
    intro n53 h53;conv=>cbv
    refine⟨fun _=>⟨by omega,by omega⟩,?_⟩
    have e53:n53=((p'%q':Nat):Int):=by rw[h53,ep,eq];exact (Int.natCast_emod _ _).symm
    refine⟨fun _=>rfl,?_⟩
    refine⟨p'%q',?_,?_⟩
    ·rw[hk1];exact Nat.mod_lt _ hq0
    rw[hJ1]
    exact⟨q',p'%q',_,_,rfl,rfl,⟨hq,⟨e53⟩,hq64,by have:=Nat.mod_lt p' hq0;omega⟩,by rw[←hpq,Nat.gcd_comm q',←Nat.gcd_rec,Nat.gcd_comm],rfl⟩
  ·have k40:=eql_t h40
   have hQ00:Q=0:=limbs_eq_nil.1 (by rw[←hv];exact List.eq_nil_of_length_eq_zero (by omega))
   obtain⟨w42,hw42⟩:∃z:List UInt32,z=u:=⟨_,rfl⟩
   refine cL hE (Clone_w hw42 (by omega)) ⟨rfl,trivial⟩ ?_
   try conv=>cbv
   obtain⟨zb43,zl43,hz43⟩:=isI_ex (((Nat.gcd x.natAbs y.natAbs:Nat):Int))
   refine cL (r:= .agg [.bool zb43,.sl .u32 zl43]) hE (signed_ok (by rw[hw42,hu,natL_limbs,←hG,hQ00,Nat.gcd_zero_right];rfl) hz43) ⟨rfl,rfl,trivial⟩ ?_
   try conv=>cbv
   exact fA ⟨⟨rfl,congrArg _ ((hz43.uniq hz rfl).1.symm),congrArg _ ((hz43.uniq hz rfl).2.symm),trivial⟩,trivial⟩ rfl (by simp)
 obtain⟨J0,hJ0⟩:∃J:List AV→List Blk→Nat→Prop,J=fun vs bl k=>∃(u v:List UInt32) (P Q:Nat),vs=[.one (.lptr 4 0 0),.one (.sl .u32 u),.one (.sl .u32 v)]∧bl=[.var 0 [.bool false,.nil]]∧(u=limbs P∧v=limbs Q∧Nat.gcd P Q=Nat.gcd x.natAbs y.natAbs∧u.length≤17592186043000∧v.length≤17592186043000)∧k=Q:=⟨_,rfl⟩
 refine⟨[4,5,6],[4],J0,⟨y.natAbs,by rw[hJ0];exact⟨w13,w16,x.natAbs,y.natAbs,rfl,rfl,⟨t13.trans hx.mag,t16.trans hy.mag,rfl,by rw[t13];exact s1,by rw[t16];exact s2⟩,rfl⟩⟩,?_⟩
 intro vs bl kk0 hj;rw[hJ0] at hj
 obtain⟨u,v,P,Q,rfl,rfl,⟨hu,hv,hG,hul,hvl⟩,hk0⟩:=hj
 conv=>cbv
 intro n18 h18;have e18:=h18.eq;have f18:=h18.le;conv=>cbv
 intro n19 h19;conv=>cbv
 cases n19 <;> conv=>cbv
 ·have k19:=gtr_f h19
  intro n22 h22;have e22:=h22.eq;have f22:=h22.le;conv=>cbv
  intro n23 h23;conv=>cbv
  cases n23 <;> conv=>cbv
  ·have k23:=gtr_f h23
   rw[hK0]
   exact⟨u,v,P,Q,rfl,rfl,⟨hu,hv,hG,hul⟩,by omega,by omega⟩
  ·have k23:=gtr_t h23
   intro n26 h26;have e26:=h26.eq;have f26:=h26.le;conv=>cbv
   intro n27 h27;conv=>cbv
   cases n27 <;> conv=>cbv
   ·have k27:=gtr_f h27
    rw[hK0]
    exact⟨u,v,P,Q,rfl,rfl,⟨hu,hv,hG,hul⟩,by omega,by omega⟩
   ·have k27:=gtr_t h27
    refine .inr ?_
    have hQ0:0<Q:=by apply Nat.pos_of_ne_zero;intro e;rw[e,limbs_zero] at hv;rw[hv] at *;simp at *;omega
    obtain⟨w33,hw33⟩:∃z:List UInt32,z=limbs (P/Q):=⟨_,rfl⟩
    obtain⟨v33,hv33⟩:∃z:List UInt32,z=limbs (P%Q):=⟨_,rfl⟩
    refine cL hE (divide_ok hu hv hQ0 hw33 hv33 (by omega)) ⟨rfl,rfl,trivial⟩ ?_
    try conv=>cbv
    refine⟨P%Q,?_,?_⟩
    ·rw[hk0];exact Nat.mod_lt _ hQ0
    rw[hJ0]
    exact⟨v,v33,Q,P%Q,rfl,rfl,⟨hv,hv33,by rw[←hG,Nat.gcd_comm Q,←Nat.gcd_rec,Nat.gcd_comm],hvl,by have:=limbs_len_mono (Nat.le_of_lt (Nat.mod_lt P hQ0));rw[←hv33,←hv] at this;omega⟩,rfl⟩
 ·have k19:=gtr_t h19
  refine .inr ?_
  have hQ0:0<Q:=by apply Nat.pos_of_ne_zero;intro e;rw[e,limbs_zero] at hv;rw[hv] at *;simp at *;omega
  obtain⟨w33,hw33⟩:∃z:List UInt32,z=limbs (P/Q):=⟨_,rfl⟩
  obtain⟨v33,hv33⟩:∃z:List UInt32,z=limbs (P%Q):=⟨_,rfl⟩
  refine cL hE (divide_ok hu hv hQ0 hw33 hv33 (by omega)) ⟨rfl,rfl,trivial⟩ ?_
  try conv=>cbv
  refine⟨P%Q,?_,?_⟩
  ·rw[hk0];exact Nat.mod_lt _ hQ0
  rw[hJ0]
  exact⟨v,v33,Q,P%Q,rfl,rfl,⟨hv,hv33,by rw[←hG,Nat.gcd_comm Q,←Nat.gcd_rec,Nat.gcd_comm],hvl,by have:=limbs_len_mono (Nat.le_of_lt (Nat.mod_lt P hQ0));rw[←hv33,←hv] at this;omega⟩,rfl⟩
theorem plus_len {u:List UInt32} {X:Nat} (hu:u=limbs X) (hul:u.length≤l.length+1) (hx:IsI x b l) (s1:l.length≤17592186042000):(limbs (X+x.natAbs/X)).length≤17592186044416:=by
 refine Nat.le_trans (limbs_len_le (k:=l.length+2) ?_) (by omega)
 have h1:=natL_lt u
 rw[hu,natL_limbs] at h1
 have h2:=natL_lt l
 rw[hx.nat] at h2
 have h3:=Nat.div_le_self x.natAbs X
 have h4:2^(32*(limbs X).length)≤2^(32*(l.length+1)):=Nat.pow_le_pow_right (by decide) (by rw[←hu];omega)
 have h5:2^(32*l.length)≤2^(32*(l.length+1)):=Nat.pow_le_pow_right (by decide) (by omega)
 have h6:2^(32*(l.length+2))=4294967296*2^(32*(l.length+1)):=pow32 (l.length+1)
 omega
theorem nbits_le (hx:IsI x b l) (h0:x.natAbs≠0):nbits x.natAbs≤32*l.length∧nbits x.natAbs=Nat.log2 x.natAbs+1:=by
 have h1:=natL_lt l
 rw[hx.nat] at h1
 have h2:=(Nat.log2_lt h0).2 h1
 unfold nbits
 rw[if_neg h0]
 exact⟨by omega,rfl⟩
theorem Sqrt_ok {e:Int} (hx:IsI x b1 l1) (hz:IsI ((isqrt x.toNat:Nat):Int) b3 l3) (he:e=if x<0 then 7 else 0) (s1:l1.length≤17592186042000):CF 249 [.agg [.bool b1,.sl .u32 l1]] (.tup [(true,[.bool b3,.sl .u32 l3]),(false,[.int .i64 e])]):=by
 refine acall_fn Tryz.func249 (by kernel_rfl) rfl fun E hE=>?_
 conv=>cbv
 obtain⟨r10,hr10⟩:∃z:Int,z=sgnI x:=⟨_,rfl⟩
 refine cA hE (Sign_ok hx hr10) ?_
 try conv=>cbv
 refine .inr ?_
 intro n12 h12;conv=>cbv
 cases n12 <;> conv=>cbv
 ·have k12:=eql_f h12
  intro n15 h15;conv=>cbv
  cases n15 <;> conv=>cbv
  ·have k15:=eql_f h15
   have hx1:0<x:=by rcases sgnI_cases x with⟨h1,h2⟩ |⟨h1,h2⟩ |⟨h1,h2⟩ <;> omega
   have hN0:x.natAbs≠0:=by omega
   have hnb:=nbits_le hx hN0
   have hs1:0<isqrt x.natAbs:=by apply Nat.pos_of_ne_zero;intro e;have:=lt_isqrt x.natAbs;rw[e] at this;omega
   obtain⟨r18,hr18⟩:∃n:Int,NatIs n (nbits x.natAbs):=⟨_,⟨rfl⟩⟩
   have er18:=hr18.eq
   refine cL hE (Bits_ok hx hr18 (by omega)) ⟨⟨rfl,rfl,trivial⟩,trivial⟩ ?_
   try conv=>cbv
   intro n19 h19;conv=>cbv
   refine⟨fun _=>⟨by omega,by omega,i64 (by omega)⟩,?_⟩
   intro n20 h20;conv=>cbv
   refine⟨fun _=>i64 (by omega),?_⟩
   obtain⟨w22,hw22⟩:∃z:List UInt32,z=limbs (2^(nbits x.natAbs/2+1)):=⟨_,rfl⟩
   refine cL hE (shifted_ok (n:=nbits x.natAbs/2+1) ⟨by omega⟩ (by omega) hw22) ⟨rfl,trivial⟩ ?_
   try conv=>cbv
   refine .inr ?_
   obtain⟨J0,hJ0⟩:∃J:List AV→List Blk→Nat→Prop,J=fun vs bl k=>∃(u:List UInt32) (X:Nat),vs=[.one (.lptr 1 0 0),.one (.lptr 2 0 0),.one (.sl .u32 u)]∧bl=[.var 0 [.bool b1,.sl .u32 l1],.var 0 [.bool false,.nil]]∧(u=limbs X∧isqrt x.natAbs≤X∧0<X∧u.length≤l1.length+1)∧k=X:=⟨_,rfl⟩
   refine⟨[1,2,5],[1,2],J0,⟨2^(nbits x.natAbs/2+1),by rw[hJ0];exact⟨w22,_,rfl,rfl,⟨hw22,by rw[hnb.2];exact sqrt_start hN0,Nat.two_pow_pos _,by rw[hw22];exact limbs_len_le (Nat.pow_lt_pow_right (by decide) (by omega))⟩,rfl⟩⟩,?_⟩
   intro vs bl kk0 hj;rw[hJ0] at hj
   obtain⟨u,X,rfl,rfl,⟨hu,hXs,hX0,hul⟩,hk0⟩:=hj
   conv=>cbv
   refine .inr ?_
   obtain⟨w26,hw26⟩:∃z:List UInt32,z=limbs (natL l1):=⟨_,rfl⟩
   refine cA hE (trim_A rfl hw26) ?_
   try conv=>cbv
   have t26:w26=l1:=by rw[hw26];exact hx.trim
   obtain⟨w28,hw28⟩:∃z:List UInt32,z=limbs (x.natAbs/X):=⟨_,rfl⟩
   obtain⟨v28,hv28⟩:∃z:List UInt32,z=limbs (x.natAbs%X):=⟨_,rfl⟩
   refine cL (r:= .tup [(false,[.sl .u32 w28]),(false,[.sl .u32 v28])]) hE (divide_ok (t26.trans hx.mag) hu hX0 hw28 hv28 (by rw[t26];omega)) ⟨rfl,rfl,trivial⟩ ?_
   try conv=>cbv
   obtain⟨w33,hw33⟩:∃z:List UInt32,z=limbs (X+x.natAbs/X):=⟨_,rfl⟩
   refine cL (r:= .one (.sl .u32 w33)) hE (plus_ok hu hw28 hw33 (by omega) (by rw[hw28];have h1:=limbs_len_mono (Nat.div_le_self x.natAbs X);rw[←hx.mag] at h1;omega)) ⟨rfl,rfl,trivial⟩ ?_
   try conv=>cbv
   obtain⟨w34,hw34⟩:∃z:List UInt32,z=limbs ((X+x.natAbs/X)/2):=⟨_,rfl⟩
   refine cL (r:= .one (.sl .u32 w34)) hE (half_ok hw33 hw34 (by rw[hw33];exact plus_len hu hul hx s1)) ⟨rfl,trivial⟩ ?_
   try conv=>cbv
   obtain⟨r37,hr37⟩:∃z:Int,z=cmpZ ((X+x.natAbs/X)/2:Nat) X:=⟨_,rfl⟩
   refine cA hE (compare_ok hw34 hu hr37) ?_
   try conv=>cbv
   intro n38 h38;conv=>cbv
   cases n38 <;> conv=>cbv
   ·have k38:=geq_f h38
    have hlt:(X+x.natAbs/X)/2<X:=by rw[hr37] at k38;have:=cmpZ_lt k38;omega
    refine⟨(X+x.natAbs/X)/2,?_,?_⟩
    ·rw[hk0];exact hlt
    rw[hJ0]
    exact⟨w34,_,rfl,rfl,⟨hw34,sqrt_round hXs hX0,by have:=sqrt_round hXs hX0;omega,by rw[hw34];have:=limbs_len_mono (Nat.le_of_lt hlt);rw[←hu] at this;omega⟩,rfl⟩
   ·have k38:=geq_t h38
    obtain⟨zb40,zl40,hz40⟩:=isI_ex (((X:Nat):Int))
    refine cL (r:= .agg [.bool zb40,.sl .u32 zl40]) hE (signed_ok (by rw[hu,natL_limbs];rfl) hz40) ⟨rfl,rfl,trivial⟩ ?_
    try conv=>cbv
    have hge:X≤(X+x.natAbs/X)/2:=by rw[hr37] at k38;have:=cmpZ_ge k38;omega
    have hX:=sqrt_done hXs hX0 hge
    exact fA ⟨⟨rfl,congrArg _ ((hz40.uniq hz (by rw[←hX];congr 2;omega)).1.symm),congrArg _ ((hz40.uniq hz (by rw[←hX];congr 2;omega)).2.symm),trivial⟩,⟨rfl,congrArg _ (by rw[he,if_neg (by omega)]),trivial⟩,trivial⟩ rfl (by simp)
  ·have k15:=eql_t h15
   have hx1:x=0:=by rcases sgnI_cases x with⟨h1,h2⟩ |⟨h1,h2⟩ |⟨h1,h2⟩ <;> omega
   have h0:((isqrt x.toNat:Nat):Int)=0:=by rw[show x.toNat=0 by omega];rfl
   rw[h0] at hz
   exact fA ⟨⟨rfl,congrArg _ (hz.neg.trans rfl),.inr (.inl ⟨_,congrArg _ (hz.mag.trans rfl)⟩),trivial⟩,⟨rfl,congrArg _ (by rw[he,if_neg (by omega)]),trivial⟩,trivial⟩ rfl (by simp)
 ·have k12:=eql_t h12
  have hx1:x<0:=by rcases sgnI_cases x with⟨h1,h2⟩ |⟨h1,h2⟩ |⟨h1,h2⟩ <;> omega
  have h0:((isqrt x.toNat:Nat):Int)=0:=by rw[show x.toNat=0 by omega];rfl
  rw[h0] at hz
  exact fA ⟨⟨rfl,congrArg _ (hz.neg.trans rfl),.inr (.inl ⟨_,congrArg _ (hz.mag.trans rfl)⟩),trivial⟩,⟨rfl,congrArg _ (by rw[he,if_pos hx1]),trivial⟩,trivial⟩ rfl (by simp)
end Go.Abs
