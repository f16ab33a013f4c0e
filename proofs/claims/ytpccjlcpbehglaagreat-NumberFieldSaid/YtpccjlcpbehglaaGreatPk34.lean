/- Part 35 of a proof. Conditions: each theorem's own. -/
import Derived.Test.YtpccjlcpbehglaaGreatPk29
import Derived.Test.YtpccjlcpbehglaaGreatPk30
set_option linter.all false
set_option maxHeartbeats 8000000
open Go.Proofs
namespace Go.Abs
open Go.RowKit
variable {a b:Nat} {b1 b2 c c1 c2 d1 d2:Bool} {k1 k2 l l' l1 l2 m1 m2:List UInt32} {r:Rat} {x y:Int}
theorem mulY_num (p q:Rat):(p*q).num=(p.num/((Nat.gcd p.num.natAbs q.den:Nat):Int))*(q.num/((Nat.gcd q.num.natAbs p.den:Nat):Int)):=by
 show (Rat.mul p q).num=_
 unfold Rat.mul
 dsimp only
 rw[Int.divExact_eq_ediv,Int.divExact_eq_ediv]
theorem mulY_den (p q:Rat):((p*q).den:Int)=((p.den:Int)/((Nat.gcd q.num.natAbs p.den:Nat):Int))*((q.den:Int)/((Nat.gcd p.num.natAbs q.den:Nat):Int)):=by
 have:(p*q).den=(p.den/Nat.gcd q.num.natAbs p.den)*(q.den/Nat.gcd p.num.natAbs q.den):=by
  show (Rat.mul p q).den=_
  unfold Rat.mul
  dsimp only
  rw[Nat.divExact_eq_div,Nat.divExact_eq_div]
 rw[this,Int.natCast_mul,Int.natCast_ediv,Int.natCast_ediv]
theorem addY_1 (p q:Rat) (h:Nat.gcd p.den q.den=1):(p+q).num=p.num*q.den+q.num*p.den∧((p+q).den:Int)=(p.den:Int)*q.den:=by
 have:(p+q)=Rat.add p q:=rfl
 rw[this]
 unfold Rat.add
 dsimp only
 rw[dif_pos h]
 exact⟨rfl,by rw[Int.natCast_mul]⟩
theorem addY_g (p q:Rat) {g h:Nat} {N:Int} (hg:g=Nat.gcd p.den q.den) (h1:g≠1) (hx:x=(p.den:Int)/g) (hy:y=(q.den:Int)/g) (hN:N=p.num*y+q.num*x) (hh:h=Nat.gcd N.natAbs g):
  (p+q).num=N/h∧((p+q).den:Int)=x*((q.den:Int)/h):=by
 have e:(p+q)=Rat.add p q:=rfl
 have hxn:x=((p.den/g:Nat):Int):=by rw[hx,Int.natCast_ediv]
 have hyn:y=((q.den/g:Nat):Int):=by rw[hy,Int.natCast_ediv]
 have hN2:p.num*((q.den/Nat.gcd p.den q.den:Nat):Int)+q.num*((p.den/Nat.gcd p.den q.den:Nat):Int)=N:=by rw[hN,hxn,hyn,hg]
 have hd:h∣q.den:=by rw[hh];exact Nat.dvd_trans (Nat.gcd_dvd_right _ _) (by rw[hg];exact Nat.gcd_dvd_right _ _)
 subst hg
 rw[e]
 unfold Rat.add
 dsimp only
 rw[dif_neg h1,Rat.maybeNormalize_eq]
 dsimp only
 rw[Int.divExact_eq_ediv,hN2,←hh]
 refine⟨rfl,?_⟩
 rw[hxn,Nat.mul_div_assoc _ hd,Int.natCast_mul,Int.natCast_ediv (q.den)]
theorem gcd_dv {a:Int} (hb:b≠0):a=a/((Nat.gcd a.natAbs b:Nat):Int)*((Nat.gcd a.natAbs b:Nat):Int)∧(b:Int)=(b:Int)/((Nat.gcd a.natAbs b:Nat):Int)*((Nat.gcd a.natAbs b:Nat):Int):=by
 exact⟨(Int.ediv_mul_cancel (Int.ofNat_dvd_left.2 (Nat.gcd_dvd_left _ _))).symm,(Int.ediv_mul_cancel (Int.natCast_dvd_natCast.2 (Nat.gcd_dvd_right _ _))).symm⟩
theorem gcd_pos_n (hb:b≠0):((Nat.gcd a b:Nat):Int)≠0:=by
 have:=Nat.gcd_pos_of_pos_right a (n:=b) (by omega)
 omega
theorem quo_len {q:Int} {b b':Bool} (hx:IsI x b l) (hq:IsI q b' l') (hy:y≠0) (h:x=q*y):l'.length≤l.length:=by
 rw[hx.mag,hq.mag]
 exact limbs_len_mono (by rw[h,Int.natAbs_mul];exact Nat.le_mul_of_pos_right _ (by omega))
theorem gcd_llen {x:Int} {c':Bool} (hb:b≠0) (h:IsI (b:Int) c l) (h':IsI ((Nat.gcd a b:Nat):Int) c' l'):l'.length≤l.length:=by
 rw[h.mag,h'.mag,Int.natAbs_natCast,Int.natAbs_natCast]
 exact limbs_len_mono (Nat.le_of_dvd (by omega) (Nat.gcd_dvd_right _ _))
theorem Yone_ok {b:Bool} (hx:IsI x b l) (hc:c=decide (x=1)):CF 184 [.agg [.bool b,.sl .u32 l]] (.one (.bool c)):=by
 refine acall_fn Tryz.func184 (by kernel_rfl) rfl fun E hE=>?_
 conv=>cbv
 intro n5 h5;have e5:=h5.eq;have f5:=h5.le;conv=>cbv
 intro n6 h6;conv=>cbv
 cases n6 <;> conv=>cbv
 ·have k6:=eql_f h6
  exact fA ⟨⟨rfl,congrArg _ (by rw[hc];exact (one_len hx (by omega)).symm),trivial⟩,trivial⟩ rfl (by simp)
 ·have k6:=eql_t h6
  obtain⟨x10,hx10⟩:=get_ex (l:=l) (i:=0) (by omega)
  refine⟨x10,fun _=>⟨by omega,hx10⟩,?_⟩
  try conv=>cbv
  intro n11 h11;have e11:=h11.eq;have f11:=h11.lt;conv=>cbv
  intro n12 h12;conv=>cbv
  cases n12 <;> conv=>cbv
  ·have k12:=eql_f h12
   exact fA ⟨⟨rfl,congrArg _ (by rw[hc];cases b with | true=>exact (one_neg hx rfl).symm | false=>rw[←one_word hx rfl (by omega) hx10];simp only[decide_eq_false_iff_not];omega),trivial⟩,trivial⟩ rfl (by simp)
  ·have k12:=eql_t h12
   intro n17 h17;conv=>cbv
   exact fA ⟨⟨rfl,congrArg _ (by rw[hc,h17];cases b with | true=>exact (one_neg hx rfl).symm | false=>rw[←one_word hx rfl (by omega) hx10];simp;omega),trivial⟩,trivial⟩ rfl (by simp)
theorem Yquo_ok {q:Int} {b3:Bool} {l3:List UInt32} (hx:IsI x b1 l1) (hy:IsI y b2 l2) (hy0:y≠0) (hxy:x=q*y) (hq:IsI q b3 l3) (s1:l1.length≤17592186043000) (s2:l2.length≤17592186043000):CF 177 [.agg [.bool b1,.sl .u32 l1],.agg [.bool b2,.sl .u32 l2]] (.agg [.bool b3,.sl .u32 l3]):=by
 refine acall_fn Tryz.func177 (by kernel_rfl) rfl fun E hE=>?_
 conv=>cbv
 refine cA hE (YDivMod_ex hx hy hy0 hxy hq s1 s2) ?_
 try conv=>cbv
 exact fA ⟨⟨rfl,rfl,rfl,trivial⟩,trivial⟩ rfl (by simp)
theorem YRFromInt_ok {q:Rat} (hx: -9223372036854775808≤x∧x<9223372036854775808) (hq:q=(x:Rat)) (hz:IsR q c1 m1 c2 m2):CF 124 [.one (.int .i64 x)] (.agg [.bool c1,.sl .u32 m1,.bool c2,.sl .u32 m2]):=by
 refine acall_fn Tryz.func124 (by kernel_rfl) rfl fun E hE=>?_
 conv=>cbv
 obtain⟨zb4,zl4,hz4⟩:=isI_ex (x)
 refine cA hE (YFromInt_ok hx hz4) ?_
 try conv=>cbv
 obtain⟨zb5,zl5,hz5⟩:=isI_ex (1)
 refine cL hE (YFromInt_ok (by omega) hz5) ⟨rfl,trivial⟩ ?_
 try conv=>cbv
 exact fA ⟨⟨rfl,congrArg _ ((hz4.uniq hz.num (by rw[hq];rfl)).1.symm),congrArg _ ((hz4.uniq hz.num (by rw[hq];rfl)).2.symm),congrArg _ ((hz5.uniq hz.den (by rw[hq];rfl)).1.symm),congrArg _ ((hz5.uniq hz.den (by rw[hq];rfl)).2.symm),trivial⟩,trivial⟩ rfl (by simp)
theorem YRSign_ok {q:Rat} {c:Int} (hx:IsR q b1 l1 b2 l2) (hc:c=sgnQ q):CF 141 [.agg [.bool b1,.sl .u32 l1,.bool b2,.sl .u32 l2]] (.one (.int .i64 c)):=by
 refine acall_fn Tryz.func141 (by kernel_rfl) rfl fun E hE=>?_
 conv=>cbv
 obtain⟨r5,hr5⟩:∃z:Int,z=sgnI q.num:=⟨_,rfl⟩
 refine cA hE (YSign_ok hx.num hr5) ?_
 try conv=>cbv
 exact fA ⟨⟨rfl,congrArg _ (by rw[hc,hr5];rfl),trivial⟩,trivial⟩ rfl (by simp)
theorem YRNeg_ok {q p:Rat} (hx:IsR q b1 l1 b2 l2) (hp:p= -q) (hz:IsR p c1 m1 c2 m2):CF 158 [.agg [.bool b1,.sl .u32 l1,.bool b2,.sl .u32 l2]] (.agg [.bool c1,.sl .u32 m1,.bool c2,.sl .u32 m2]):=by
 refine acall_fn Tryz.func158 (by kernel_rfl) rfl fun E hE=>?_
 conv=>cbv
 obtain⟨zb5,zl5,hz5⟩:=isI_ex (-q.num)
 refine cA hE (YNeg_ok hx.num hz5) ?_
 try conv=>cbv
 refine⟨fun _=>rfl,?_⟩
 exact fA ⟨⟨rfl,congrArg _ ((hz5.uniq hz.num (by rw[hp];rfl)).1.symm),congrArg _ ((hz5.uniq hz.num (by rw[hp];rfl)).2.symm),congrArg _ ((hx.den.uniq hz.den (by rw[hp];rfl)).1.symm),congrArg _ ((hx.den.uniq hz.den (by rw[hp];rfl)).2.symm),trivial⟩,trivial⟩ rfl (by simp)
theorem YRCmp_ok {p q:Rat} {c:Int} (hx:IsR p b1 l1 b2 l2) (hy:IsR q c1 m1 c2 m2) (hs:SmallQ p) (ht:SmallQ q) (hc:c=cmpQ p q):CF 61 [.agg [.bool b1,.sl .u32 l1,.bool b2,.sl .u32 l2],.agg [.bool c1,.sl .u32 m1,.bool c2,.sl .u32 m2]] (.one (.int .i64 c)):=by
 refine acall_fn Tryz.func61 (by kernel_rfl) rfl fun E hE=>?_
 conv=>cbv
 obtain⟨zb9,zl9,hz9⟩:=isI_ex (p.num*q.den)
 refine cL (r:= .agg [.bool zb9,.sl .u32 zl9]) hE (YMul_ok hx.num hy.den hz9 (by have:=hx.small hs;have:=hy.small ht;omega) (by have:=hx.small hs;have:=hy.small ht;omega)) ⟨⟨rfl,rfl,trivial⟩,⟨rfl,rfl,trivial⟩,trivial⟩ ?_
 try conv=>cbv
 obtain⟨zb14,zl14,hz14⟩:=isI_ex (q.num*p.den)
 refine cL (r:= .agg [.bool zb14,.sl .u32 zl14]) hE (YMul_ok hy.num hx.den hz14 (by have:=hx.small hs;have:=hy.small ht;omega) (by have:=hx.small hs;have:=hy.small ht;omega)) ⟨⟨rfl,rfl,trivial⟩,⟨rfl,rfl,trivial⟩,trivial⟩ ?_
 try conv=>cbv
 obtain⟨r15,hr15⟩:∃z:Int,z=cmpZ (p.num*q.den) (q.num*p.den):=⟨_,rfl⟩
 refine cL (r:= .one (.int .i64 r15)) hE (YCmp_ok hz9 hz14 hr15 (by have:=hx.small hs;have:=hy.small ht;have:=hx.num.mul_len hy.den hz9 rfl;omega) (by have:=hx.small hs;have:=hy.small ht;have:=hy.num.mul_len hx.den hz14 rfl;omega)) ⟨⟨rfl,rfl,trivial⟩,⟨rfl,rfl,trivial⟩,trivial⟩ ?_
 try conv=>cbv
 refine⟨fun _=>rfl,?_⟩
 exact fA ⟨⟨rfl,congrArg _ (by rw[hc,hr15,cmpQ_eq]),trivial⟩,trivial⟩ rfl (by simp)
theorem YRMul_ok {p q:Rat} (hx:IsR p b1 l1 b2 l2) (hy:IsR q c1 m1 c2 m2) (hs:SmallQ p) (ht:SmallQ q) (hr:r=p*q) (hz:IsR r d1 k1 d2 k2):CF 130 [.agg [.bool b1,.sl .u32 l1,.bool b2,.sl .u32 l2],.agg [.bool c1,.sl .u32 m1,.bool c2,.sl .u32 m2]] (.agg [.bool d1,.sl .u32 k1,.bool d2,.sl .u32 k2]):=by
 have hsl:=hx.small hs
 have htl:=hy.small ht
 have hpd:=p.den_nz
 have hqd:=q.den_nz
 refine acall_fn Tryz.func130 (by kernel_rfl) rfl fun E hE=>?_
 conv=>cbv
 intro n10 h10;have e10:=h10.eq;have f10:=h10.le;conv=>cbv
 intro n11 h11;conv=>cbv
 cases n11 <;> conv=>cbv
 ·have k11:=eql_f h11
  intro n16 h16;have e16:=h16.eq;have f16:=h16.le;conv=>cbv
  intro n17 h17;conv=>cbv
  cases n17 <;> conv=>cbv
  ·have k17:=eql_f h17
   obtain⟨b22,hb22⟩:∃z:Bool,z=decide ((p.den:Int)=1):=⟨_,rfl⟩
   refine cA hE (Yone_ok hx.den hb22) ?_
   try conv=>cbv
   cases b22 <;> conv=>cbv
   ·obtain⟨zb40,zl40,hz40⟩:=isI_ex (((Nat.gcd p.num.natAbs q.den:Nat):Int))
    refine cL hE (YGCD_ok hx.num hy.den hz40 (by omega) (by omega)) ⟨⟨rfl,rfl,trivial⟩,⟨rfl,rfl,trivial⟩,trivial⟩ ?_
    try conv=>cbv
    obtain⟨zb45,zl45,hz45⟩:=isI_ex (((Nat.gcd q.num.natAbs p.den:Nat):Int))
    refine cL hE (YGCD_ok hy.num hx.den hz45 (by omega) (by omega)) ⟨⟨rfl,rfl,trivial⟩,⟨rfl,rfl,trivial⟩,trivial⟩ ?_
    try conv=>cbv
    refine⟨fun _=>rfl,?_⟩
    obtain⟨zb49,zl49,hz49⟩:=isI_ex (p.num/((Nat.gcd p.num.natAbs q.den:Nat):Int))
    refine cL (r:= .agg [.bool zb49,.sl .u32 zl49]) hE (Yquo_ok hx.num hz40 (gcd_pos_n hqd) (gcd_dv hqd).1 hz49 (by omega) (by have:=gcd_llen (x:=0) hqd hy.den hz40;omega)) ⟨⟨rfl,rfl,trivial⟩,⟨rfl,rfl,trivial⟩,trivial⟩ ?_
    try conv=>cbv
    obtain⟨zb53,zl53,hz53⟩:=isI_ex (q.num/((Nat.gcd q.num.natAbs p.den:Nat):Int))
    refine cL (r:= .agg [.bool zb53,.sl .u32 zl53]) hE (Yquo_ok hy.num hz45 (gcd_pos_n hpd) (gcd_dv hpd).1 hz53 (by omega) (by have:=gcd_llen (x:=0) hpd hx.den hz45;omega)) ⟨⟨rfl,rfl,trivial⟩,⟨rfl,rfl,trivial⟩,trivial⟩ ?_
    try conv=>cbv
    obtain⟨zb54,zl54,hz54⟩:=isI_ex ((p.num/((Nat.gcd p.num.natAbs q.den:Nat):Int))*(q.num/((Nat.gcd q.num.natAbs p.den:Nat):Int)))
    refine cL (r:= .agg [.bool zb54,.sl .u32 zl54]) hE (YMul_ok hz49 hz53 hz54 (by have:=quo_len hx.num hz49 (gcd_pos_n hqd) (gcd_dv hqd).1;omega) (by have:=quo_len hy.num hz53 (gcd_pos_n hpd) (gcd_dv hpd).1;omega)) ⟨⟨rfl,rfl,trivial⟩,⟨rfl,rfl,trivial⟩,trivial⟩ ?_
    try conv=>cbv
    obtain⟨zb58,zl58,hz58⟩:=isI_ex ((p.den:Int)/((Nat.gcd q.num.natAbs p.den:Nat):Int))
    refine cL (r:= .agg [.bool zb58,.sl .u32 zl58]) hE (Yquo_ok hx.den hz45 (gcd_pos_n hpd) (gcd_dv hpd).2 hz58 (by omega) (by have:=gcd_llen (x:=0) hpd hx.den hz45;omega)) ⟨⟨rfl,rfl,trivial⟩,⟨rfl,rfl,trivial⟩,trivial⟩ ?_
    try conv=>cbv
    obtain⟨zb62,zl62,hz62⟩:=isI_ex ((q.den:Int)/((Nat.gcd p.num.natAbs q.den:Nat):Int))
    refine cL (r:= .agg [.bool zb62,.sl .u32 zl62]) hE (Yquo_ok hy.den hz40 (gcd_pos_n hqd) (gcd_dv hqd).2 hz62 (by omega) (by have:=gcd_llen (x:=0) hqd hy.den hz40;omega)) ⟨⟨rfl,rfl,trivial⟩,⟨rfl,rfl,trivial⟩,trivial⟩ ?_
    try conv=>cbv
    obtain⟨zb63,zl63,hz63⟩:=isI_ex (((p.den:Int)/((Nat.gcd q.num.natAbs p.den:Nat):Int))*((q.den:Int)/((Nat.gcd p.num.natAbs q.den:Nat):Int)))
    refine cL (r:= .agg [.bool zb63,.sl .u32 zl63]) hE (YMul_ok hz58 hz62 hz63 (by have:=quo_len hx.den hz58 (gcd_pos_n hpd) (gcd_dv hpd).2;omega) (by have:=quo_len hy.den hz62 (gcd_pos_n hqd) (gcd_dv hqd).2;omega)) ⟨⟨rfl,rfl,trivial⟩,⟨rfl,rfl,trivial⟩,trivial⟩ ?_
    try conv=>cbv
    refine⟨fun _=>rfl,?_⟩
    exact fA ⟨⟨rfl,congrArg _ ((hz54.uniq hz.num (by rw[hr,mulY_num])).1.symm),congrArg _ ((hz54.uniq hz.num (by rw[hr,mulY_num])).2.symm),congrArg _ ((hz63.uniq hz.den (by rw[hr,mulY_den])).1.symm),congrArg _ ((hz63.uniq hz.den (by rw[hr,mulY_den])).2.symm),trivial⟩,trivial⟩ rfl (by simp)
   ·obtain⟨b26,hb26⟩:∃z:Bool,z=decide ((q.den:Int)=1):=⟨_,rfl⟩
    refine cA hE (Yone_ok hy.den hb26) ?_
    try conv=>cbv
    cases b26 <;> conv=>cbv
    ·obtain⟨zb40,zl40,hz40⟩:=isI_ex (((Nat.gcd p.num.natAbs q.den:Nat):Int))
     refine cL hE (YGCD_ok hx.num hy.den hz40 (by omega) (by omega)) ⟨⟨rfl,rfl,trivial⟩,⟨rfl,rfl,trivial⟩,trivial⟩ ?_
     try conv=>cbv
     obtain⟨zb45,zl45,hz45⟩:=isI_ex (((Nat.gcd q.num.natAbs p.den:Nat):Int))
     refine cL hE (YGCD_ok hy.num hx.den hz45 (by omega) (by omega)) ⟨⟨rfl,rfl,trivial⟩,⟨rfl,rfl,trivial⟩,trivial⟩ ?_
     try conv=>cbv
     refine⟨fun _=>rfl,?_⟩
     obtain⟨zb49,zl49,hz49⟩:=isI_ex (p.num/((Nat.gcd p.num.natAbs q.den:Nat):Int))
     refine cL (r:= .agg [.bool zb49,.sl .u32 zl49]) hE (Yquo_ok hx.num hz40 (gcd_pos_n hqd) (gcd_dv hqd).1 hz49 (by omega) (by have:=gcd_llen (x:=0) hqd hy.den hz40;omega)) ⟨⟨rfl,rfl,trivial⟩,⟨rfl,rfl,trivial⟩,trivial⟩ ?_
     try conv=>cbv
     obtain⟨zb53,zl53,hz53⟩:=isI_ex (q.num/((Nat.gcd q.num.natAbs p.den:Nat):Int))
     refine cL (r:= .agg [.bool zb53,.sl .u32 zl53]) hE (Yquo_ok hy.num hz45 (gcd_pos_n hpd) (gcd_dv hpd).1 hz53 (by omega) (by have:=gcd_llen (x:=0) hpd hx.den hz45;omega)) ⟨⟨rfl,rfl,trivial⟩,⟨rfl,rfl,trivial⟩,trivial⟩ ?_
     try conv=>cbv
     obtain⟨zb54,zl54,hz54⟩:=isI_ex ((p.num/((Nat.gcd p.num.natAbs q.den:Nat):Int))*(q.num/((Nat.gcd q.num.natAbs p.den:Nat):Int)))
     refine cL (r:= .agg [.bool zb54,.sl .u32 zl54]) hE (YMul_ok hz49 hz53 hz54 (by have:=quo_len hx.num hz49 (gcd_pos_n hqd) (gcd_dv hqd).1;omega) (by have:=quo_len hy.num hz53 (gcd_pos_n hpd) (gcd_dv hpd).1;omega)) ⟨⟨rfl,rfl,trivial⟩,⟨rfl,rfl,trivial⟩,trivial⟩ ?_
     try conv=>cbv
     obtain⟨zb58,zl58,hz58⟩:=isI_ex ((p.den:Int)/((Nat.gcd q.num.natAbs p.den:Nat):Int))
     refine cL (r:= .agg [.bool zb58,.sl .u32 zl58]) hE (Yquo_ok hx.den hz45 (gcd_pos_n hpd) (gcd_dv hpd).2 hz58 (by omega) (by have:=gcd_llen (x:=0) hpd hx.den hz45;omega)) ⟨⟨rfl,rfl,trivial⟩,⟨rfl,rfl,trivial⟩,trivial⟩ ?_
     try conv=>cbv
     obtain⟨zb62,zl62,hz62⟩:=isI_ex ((q.den:Int)/((Nat.gcd p.num.natAbs q.den:Nat):Int))
     refine cL (r:= .agg [.bool zb62,.sl .u32 zl62]) hE (Yquo_ok hy.den hz40 (gcd_pos_n hqd) (gcd_dv hqd).2 hz62 (by omega) (by have:=gcd_llen (x:=0) hqd hy.den hz40;omega)) ⟨⟨rfl,rfl,trivial⟩,⟨rfl,rfl,trivial⟩,trivial⟩ ?_
     try conv=>cbv
     obtain⟨zb63,zl63,hz63⟩:=isI_ex (((p.den:Int)/((Nat.gcd q.num.natAbs p.den:Nat):Int))*((q.den:Int)/((Nat.gcd p.num.natAbs q.den:Nat):Int)))
     refine cL (r:= .agg [.bool zb63,.sl .u32 zl63]) hE (YMul_ok hz58 hz62 hz63 (by have:=quo_len hx.den hz58 (gcd_pos_n hpd) (gcd_dv hpd).2;omega) (by have:=quo_len hy.den hz62 (gcd_pos_n hqd) (gcd_dv hqd).2;omega)) ⟨⟨rfl,rfl,trivial⟩,⟨rfl,rfl,trivial⟩,trivial⟩ ?_
     try conv=>cbv
     refine⟨fun _=>rfl,?_⟩
     exact fA ⟨⟨rfl,congrArg _ ((hz54.uniq hz.num (by rw[hr,mulY_num])).1.symm),congrArg _ ((hz54.uniq hz.num (by rw[hr,mulY_num])).2.symm),congrArg _ ((hz63.uniq hz.den (by rw[hr,mulY_den])).1.symm),congrArg _ ((hz63.uniq hz.den (by rw[hr,mulY_den])).2.symm),trivial⟩,trivial⟩ rfl (by simp)
    ·obtain⟨zb32,zl32,hz32⟩:=isI_ex (p.num*q.num)
     refine cL hE (YMul_ok hx.num hy.num hz32 (by omega) (by omega)) ⟨⟨rfl,rfl,trivial⟩,⟨rfl,rfl,trivial⟩,trivial⟩ ?_
     try conv=>cbv
     refine⟨fun _=>rfl,?_⟩
     exact fA ⟨⟨rfl,congrArg _ ((hz32.uniq hz.num (by rw[hr];exact (mul_ones (of_decide_eq_true hb22.symm) (of_decide_eq_true hb26.symm)).1.symm)).1.symm),congrArg _ ((hz32.uniq hz.num (by rw[hr];exact (mul_ones (of_decide_eq_true hb22.symm) (of_decide_eq_true hb26.symm)).1.symm)).2.symm),congrArg _ ((hx.den.uniq hz.den (by rw[hr,(mul_ones (of_decide_eq_true hb22.symm) (of_decide_eq_true hb26.symm)).2];exact of_decide_eq_true hb22.symm)).1.symm),congrArg _ ((hx.den.uniq hz.den (by rw[hr,(mul_ones (of_decide_eq_true hb22.symm) (of_decide_eq_true hb26.symm)).2];exact of_decide_eq_true hb22.symm)).2.symm),trivial⟩,trivial⟩ rfl (by simp)
  ·have k17:=eql_t h17
   obtain⟨zb19,zl19,yb19,yl19,hz19⟩:=isR_ex (r)
   refine cL (r:= .agg [.bool zb19,.sl .u32 zl19,.bool yb19,.sl .u32 yl19]) hE (YRFromInt_ok (x:=0) (by omega) (by rw[hr];first | (rw[Rat.num_eq_zero.1 (hx.num.len0.1 (by omega)),Rat.zero_mul];rfl) | (rw[Rat.num_eq_zero.1 (hy.num.len0.1 (by omega)),Rat.mul_zero];rfl)) hz19) ⟨rfl,trivial⟩ ?_
   try conv=>cbv
   exact fA ⟨⟨rfl,congrArg _ ((hz19.uniq hz rfl).1.1.symm),congrArg _ ((hz19.uniq hz rfl).1.2.symm),congrArg _ ((hz19.uniq hz rfl).2.1.symm),congrArg _ ((hz19.uniq hz rfl).2.2.symm),trivial⟩,trivial⟩ rfl (by simp)
 ·have k11:=eql_t h11
  obtain⟨zb19,zl19,yb19,yl19,hz19⟩:=isR_ex (r)
  refine cL (r:= .agg [.bool zb19,.sl .u32 zl19,.bool yb19,.sl .u32 yl19]) hE (YRFromInt_ok (x:=0) (by omega) (by rw[hr];first | (rw[Rat.num_eq_zero.1 (hx.num.len0.1 (by omega)),Rat.zero_mul];rfl) | (rw[Rat.num_eq_zero.1 (hy.num.len0.1 (by omega)),Rat.mul_zero];rfl)) hz19) ⟨rfl,trivial⟩ ?_
  try conv=>cbv
  exact fA ⟨⟨rfl,congrArg _ ((hz19.uniq hz rfl).1.1.symm),congrArg _ ((hz19.uniq hz rfl).1.2.symm),congrArg _ ((hz19.uniq hz rfl).2.1.symm),congrArg _ ((hz19.uniq hz rfl).2.2.symm),trivial⟩,trivial⟩ rfl (by simp)
theorem YRAdd_ok {p q:Rat} (hx:IsR p b1 l1 b2 l2) (hy:IsR q c1 m1 c2 m2) (hs:SmallQ p) (ht:SmallQ q) (hr:r=p+q) (hz:IsR r d1 k1 d2 k2):CF 157 [.agg [.bool b1,.sl .u32 l1,.bool b2,.sl .u32 l2],.agg [.bool c1,.sl .u32 m1,.bool c2,.sl .u32 m2]] (.agg [.bool d1,.sl .u32 k1,.bool d2,.sl .u32 k2]):=by
 have hsl:=hx.small hs
 have htl:=hy.small ht
 have hpd:=p.den_nz
 have hqd:=q.den_nz
 have hgd:((Nat.gcd p.den q.den:Nat):Int)≠0:=gcd_pos_n hqd
 obtain⟨x,hxe⟩:∃x:Int,x=(p.den:Int)/((Nat.gcd p.den q.den:Nat):Int):=⟨_,rfl⟩
 obtain⟨y,hye⟩:∃y:Int,y=(q.den:Int)/((Nat.gcd p.den q.den:Nat):Int):=⟨_,rfl⟩
 have hpx:(p.den:Int)=x*((Nat.gcd p.den q.den:Nat):Int):=by rw[hxe];exact (Int.ediv_mul_cancel (Int.natCast_dvd_natCast.2 (Nat.gcd_dvd_left _ _))).symm
 have hqy:(q.den:Int)=y*((Nat.gcd p.den q.den:Nat):Int):=by rw[hye];exact (Int.ediv_mul_cancel (Int.natCast_dvd_natCast.2 (Nat.gcd_dvd_right _ _))).symm
 refine acall_fn Tryz.func157 (by kernel_rfl) rfl fun E hE=>?_
 conv=>cbv
 intro n14 h14;have e14:=h14.eq;have f14:=h14.le;conv=>cbv
 intro n15 h15;conv=>cbv
 cases n15 <;> conv=>cbv
 ·have k15:=eql_f h15
  intro n20 h20;have e20:=h20.eq;have f20:=h20.le;conv=>cbv
  intro n21 h21;conv=>cbv
  cases n21 <;> conv=>cbv
  ·have k21:=eql_f h21
   obtain⟨b25,hb25⟩:∃z:Bool,z=decide ((p.den:Int)=1):=⟨_,rfl⟩
   refine cA hE (Yone_ok hx.den hb25) ?_
   try conv=>cbv
   cases b25 <;> conv=>cbv
   ·obtain⟨zb43,zl43,hz43⟩:=isI_ex (((Nat.gcd p.den q.den:Nat):Int))
    refine cL hE (YGCD_ok hx.den hy.den hz43 (by omega) (by omega)) ⟨⟨rfl,rfl,trivial⟩,⟨rfl,rfl,trivial⟩,trivial⟩ ?_
    try conv=>cbv
    have hl43:=gcd_llen (x:=0) hqd hy.den hz43
    obtain⟨b45,hb45⟩:∃z:Bool,z=decide (((Nat.gcd p.den q.den:Nat):Int)=1):=⟨_,rfl⟩
    refine cA hE (Yone_ok hz43 hb45) ?_
    try conv=>cbv
    cases b45 <;> conv=>cbv
    ·obtain⟨zb67,zl67,hz67⟩:=isI_ex (x)
     refine cL hE (Yquo_ok hx.den hz43 hgd hpx hz67 (by omega) (by omega)) ⟨⟨rfl,rfl,trivial⟩,⟨rfl,rfl,trivial⟩,trivial⟩ ?_
     try conv=>cbv
     have hl67:=quo_len hx.den hz67 hgd hpx
     obtain⟨zb71,zl71,hz71⟩:=isI_ex (y)
     refine cL hE (Yquo_ok hy.den hz43 hgd hqy hz71 (by omega) (by omega)) ⟨⟨rfl,rfl,trivial⟩,⟨rfl,rfl,trivial⟩,trivial⟩ ?_
     try conv=>cbv
     have hl71:=quo_len hy.den hz71 hgd hqy
     refine⟨fun _=>rfl,?_⟩
     obtain⟨zb75,zl75,hz75⟩:=isI_ex (p.num*y)
     refine cL hE (YMul_ok hx.num hz71 hz75 (by omega) (by omega)) ⟨⟨rfl,rfl,trivial⟩,⟨rfl,rfl,trivial⟩,trivial⟩ ?_
     try conv=>cbv
     have hl75:=hx.num.mul_len hz71 hz75 rfl
     obtain⟨zb79,zl79,hz79⟩:=isI_ex (q.num*x)
     refine cL hE (YMul_ok hy.num hz67 hz79 (by omega) (by omega)) ⟨⟨rfl,rfl,trivial⟩,⟨rfl,rfl,trivial⟩,trivial⟩ ?_
     try conv=>cbv
     have hl79:=hy.num.mul_len hz67 hz79 rfl
     obtain⟨zb80,zl80,hz80⟩:=isI_ex ((p.num*y+q.num*x))
     refine cL hE (YAdd_ok hz75 hz79 hz80 (by omega) (by omega)) ⟨⟨rfl,rfl,trivial⟩,⟨rfl,rfl,trivial⟩,trivial⟩ ?_
     try conv=>cbv
     have hl80:=hz75.add_len hz79 hz80 rfl (k:=8000000000000) (by omega) (by omega)
     refine⟨fun _=>rfl,?_⟩
     obtain⟨zb83,zl83,hz83⟩:=isI_ex (((Nat.gcd (p.num*y+q.num*x).natAbs (Nat.gcd p.den q.den):Nat):Int))
     refine cL (r:= .agg [.bool zb83,.sl .u32 zl83]) hE (YGCD_ok hz80 hz43 (by rw[Int.natAbs_natCast];exact hz83) (by omega) (by omega)) ⟨⟨rfl,rfl,trivial⟩,⟨rfl,rfl,trivial⟩,trivial⟩ ?_
     try conv=>cbv
     have hgn:Nat.gcd p.den q.den≠0:=by omega
     have hl83:=gcd_llen (x:=0) hgn hz43 hz83
     have hdv:(p.num*y+q.num*x)=(p.num*y+q.num*x)/((Nat.gcd (p.num*y+q.num*x).natAbs (Nat.gcd p.den q.den):Nat):Int)*((Nat.gcd (p.num*y+q.num*x).natAbs (Nat.gcd p.den q.den):Nat):Int):=(gcd_dv hgn).1
     have hhd:=gcd_pos_n (a:=(p.num*y+q.num*x).natAbs) hgn
     have hdq:(q.den:Int)=(q.den:Int)/((Nat.gcd (p.num*y+q.num*x).natAbs (Nat.gcd p.den q.den):Nat):Int)*((Nat.gcd (p.num*y+q.num*x).natAbs (Nat.gcd p.den q.den):Nat):Int):=(Int.ediv_mul_cancel (Int.natCast_dvd_natCast.2 (Nat.dvd_trans (Nat.gcd_dvd_right _ _) (Nat.gcd_dvd_right _ _)))).symm
     obtain⟨zb86,zl86,hz86⟩:=isI_ex ((p.num*y+q.num*x)/((Nat.gcd (p.num*y+q.num*x).natAbs (Nat.gcd p.den q.den):Nat):Int))
     refine cL hE (Yquo_ok hz80 hz83 hhd hdv hz86 (by omega) (by omega)) ⟨⟨rfl,rfl,trivial⟩,⟨rfl,rfl,trivial⟩,trivial⟩ ?_
     try conv=>cbv
     obtain⟨zb91,zl91,hz91⟩:=isI_ex ((q.den:Int)/((Nat.gcd (p.num*y+q.num*x).natAbs (Nat.gcd p.den q.den):Nat):Int))
     refine cL hE (Yquo_ok hy.den hz83 hhd hdq hz91 (by omega) (by omega)) ⟨⟨rfl,rfl,trivial⟩,⟨rfl,rfl,trivial⟩,trivial⟩ ?_
     try conv=>cbv
     have hl91:=quo_len hy.den hz91 hhd hdq
     obtain⟨zb92,zl92,hz92⟩:=isI_ex (x*((q.den:Int)/((Nat.gcd (p.num*y+q.num*x).natAbs (Nat.gcd p.den q.den):Nat):Int)))
     refine cL hE (YMul_ok hz67 hz91 hz92 (by omega) (by omega)) ⟨⟨rfl,rfl,trivial⟩,⟨rfl,rfl,trivial⟩,trivial⟩ ?_
     try conv=>cbv
     refine⟨fun _=>rfl,?_⟩
     have hA:=addY_g p q rfl (fun e=>by have:=of_decide_eq_false hb45.symm;omega) hxe hye rfl rfl
     exact fA ⟨⟨rfl,congrArg _ ((hz86.uniq hz.num (by rw[hr];exact hA.1.symm)).1.symm),congrArg _ ((hz86.uniq hz.num (by rw[hr];exact hA.1.symm)).2.symm),congrArg _ ((hz92.uniq hz.den (by rw[hr];exact hA.2.symm)).1.symm),congrArg _ ((hz92.uniq hz.den (by rw[hr];exact hA.2.symm)).2.symm),trivial⟩,trivial⟩ rfl (by simp)
    ·obtain⟨zb50,zl50,hz50⟩:=isI_ex (p.num*q.den)
     refine cL hE (YMul_ok hx.num hy.den hz50 (by omega) (by omega)) ⟨⟨rfl,rfl,trivial⟩,⟨rfl,rfl,trivial⟩,trivial⟩ ?_
     try conv=>cbv
     obtain⟨zb55,zl55,hz55⟩:=isI_ex (q.num*p.den)
     refine cL hE (YMul_ok hy.num hx.den hz55 (by omega) (by omega)) ⟨⟨rfl,rfl,trivial⟩,⟨rfl,rfl,trivial⟩,trivial⟩ ?_
     try conv=>cbv
     obtain⟨zb56,zl56,hz56⟩:=isI_ex (p.num*q.den+q.num*p.den)
     refine cL (r:= .agg [.bool zb56,.sl .u32 zl56]) hE (YAdd_ok hz50 hz55 hz56 (by have:=hx.num.mul_len hy.den hz50 rfl;omega) (by have:=hy.num.mul_len hx.den hz55 rfl;omega)) ⟨⟨rfl,rfl,trivial⟩,⟨rfl,rfl,trivial⟩,trivial⟩ ?_
     try conv=>cbv
     refine⟨fun _=>rfl,?_⟩
     obtain⟨zb62,zl62,hz62⟩:=isI_ex ((p.den:Int)*q.den)
     refine cL hE (YMul_ok hx.den hy.den hz62 (by omega) (by omega)) ⟨⟨rfl,rfl,trivial⟩,⟨rfl,rfl,trivial⟩,trivial⟩ ?_
     try conv=>cbv
     refine⟨fun _=>rfl,?_⟩
     have hA:=addY_1 p q (by have:=of_decide_eq_true hb45.symm;omega)
     exact fA ⟨⟨rfl,congrArg _ ((hz56.uniq hz.num (by rw[hr];exact hA.1.symm)).1.symm),congrArg _ ((hz56.uniq hz.num (by rw[hr];exact hA.1.symm)).2.symm),congrArg _ ((hz62.uniq hz.den (by rw[hr];exact hA.2.symm)).1.symm),congrArg _ ((hz62.uniq hz.den (by rw[hr];exact hA.2.symm)).2.symm),trivial⟩,trivial⟩ rfl (by simp)
   ·obtain⟨b29,hb29⟩:∃z:Bool,z=decide ((q.den:Int)=1):=⟨_,rfl⟩
    refine cA hE (Yone_ok hy.den hb29) ?_
    try conv=>cbv
    cases b29 <;> conv=>cbv
    ·obtain⟨zb43,zl43,hz43⟩:=isI_ex (((Nat.gcd p.den q.den:Nat):Int))
     refine cL hE (YGCD_ok hx.den hy.den hz43 (by omega) (by omega)) ⟨⟨rfl,rfl,trivial⟩,⟨rfl,rfl,trivial⟩,trivial⟩ ?_
     try conv=>cbv
     have hl43:=gcd_llen (x:=0) hqd hy.den hz43
     obtain⟨b45,hb45⟩:∃z:Bool,z=decide (((Nat.gcd p.den q.den:Nat):Int)=1):=⟨_,rfl⟩
     refine cA hE (Yone_ok hz43 hb45) ?_
     try conv=>cbv
     cases b45 <;> conv=>cbv
     ·obtain⟨zb67,zl67,hz67⟩:=isI_ex (x)
      refine cL hE (Yquo_ok hx.den hz43 hgd hpx hz67 (by omega) (by omega)) ⟨⟨rfl,rfl,trivial⟩,⟨rfl,rfl,trivial⟩,trivial⟩ ?_
      try conv=>cbv
      have hl67:=quo_len hx.den hz67 hgd hpx
      obtain⟨zb71,zl71,hz71⟩:=isI_ex (y)
      refine cL hE (Yquo_ok hy.den hz43 hgd hqy hz71 (by omega) (by omega)) ⟨⟨rfl,rfl,trivial⟩,⟨rfl,rfl,trivial⟩,trivial⟩ ?_
      try conv=>cbv
      have hl71:=quo_len hy.den hz71 hgd hqy
      refine⟨fun _=>rfl,?_⟩
      obtain⟨zb75,zl75,hz75⟩:=isI_ex (p.num*y)
      refine cL hE (YMul_ok hx.num hz71 hz75 (by omega) (by omega)) ⟨⟨rfl,rfl,trivial⟩,⟨rfl,rfl,trivial⟩,trivial⟩ ?_
      try conv=>cbv
      have hl75:=hx.num.mul_len hz71 hz75 rfl
      obtain⟨zb79,zl79,hz79⟩:=isI_ex (q.num*x)
      refine cL hE (YMul_ok hy.num hz67 hz79 (by omega) (by omega)) ⟨⟨rfl,rfl,trivial⟩,⟨rfl,rfl,trivial⟩,trivial⟩ ?_
      try conv=>cbv
      have hl79:=hy.num.mul_len hz67 hz79 rfl
      obtain⟨zb80,zl80,hz80⟩:=isI_ex ((p.num*y+q.num*x))
      refine cL hE (YAdd_ok hz75 hz79 hz80 (by omega) (by omega)) ⟨⟨rfl,rfl,trivial⟩,⟨rfl,rfl,trivial⟩,trivial⟩ ?_
      try conv=>cbv
      have hl80:=hz75.add_len hz79 hz80 rfl (k:=8000000000000) (by omega) (by omega)
      refine⟨fun _=>rfl,?_⟩
      obtain⟨zb83,zl83,hz83⟩:=isI_ex (((Nat.gcd (p.num*y+q.num*x).natAbs (Nat.gcd p.den q.den):Nat):Int))
      refine cL (r:= .agg [.bool zb83,.sl .u32 zl83]) hE (YGCD_ok hz80 hz43 (by rw[Int.natAbs_natCast];exact hz83) (by omega) (by omega)) ⟨⟨rfl,rfl,trivial⟩,⟨rfl,rfl,trivial⟩,trivial⟩ ?_
      try conv=>cbv
      have hgn:Nat.gcd p.den q.den≠0:=by omega
      have hl83:=gcd_llen (x:=0) hgn hz43 hz83
      have hdv:(p.num*y+q.num*x)=(p.num*y+q.num*x)/((Nat.gcd (p.num*y+q.num*x).natAbs (Nat.gcd p.den q.den):Nat):Int)*((Nat.gcd (p.num*y+q.num*x).natAbs (Nat.gcd p.den q.den):Nat):Int):=(gcd_dv hgn).1
      have hhd:=gcd_pos_n (a:=(p.num*y+q.num*x).natAbs) hgn
      have hdq:(q.den:Int)=(q.den:Int)/((Nat.gcd (p.num*y+q.num*x).natAbs (Nat.gcd p.den q.den):Nat):Int)*((Nat.gcd (p.num*y+q.num*x).natAbs (Nat.gcd p.den q.den):Nat):Int):=(Int.ediv_mul_cancel (Int.natCast_dvd_natCast.2 (Nat.dvd_trans (Nat.gcd_dvd_right _ _) (Nat.gcd_dvd_right _ _)))).symm
      obtain⟨zb86,zl86,hz86⟩:=isI_ex ((p.num*y+q.num*x)/((Nat.gcd (p.num*y+q.num*x).natAbs (Nat.gcd p.den q.den):Nat):Int))
      refine cL hE (Yquo_ok hz80 hz83 hhd hdv hz86 (by omega) (by omega)) ⟨⟨rfl,rfl,trivial⟩,⟨rfl,rfl,trivial⟩,trivial⟩ ?_
      try conv=>cbv
      obtain⟨zb91,zl91,hz91⟩:=isI_ex ((q.den:Int)/((Nat.gcd (p.num*y+q.num*x).natAbs (Nat.gcd p.den q.den):Nat):Int))
      refine cL hE (Yquo_ok hy.den hz83 hhd hdq hz91 (by omega) (by omega)) ⟨⟨rfl,rfl,trivial⟩,⟨rfl,rfl,trivial⟩,trivial⟩ ?_
      try conv=>cbv
      have hl91:=quo_len hy.den hz91 hhd hdq
      obtain⟨zb92,zl92,hz92⟩:=isI_ex (x*((q.den:Int)/((Nat.gcd (p.num*y+q.num*x).natAbs (Nat.gcd p.den q.den):Nat):Int)))
      refine cL hE (YMul_ok hz67 hz91 hz92 (by omega) (by omega)) ⟨⟨rfl,rfl,trivial⟩,⟨rfl,rfl,trivial⟩,trivial⟩ ?_
      try conv=>cbv
      refine⟨fun _=>rfl,?_⟩
      have hA:=addY_g p q rfl (fun e=>by have:=of_decide_eq_false hb45.symm;omega) hxe hye rfl rfl
      exact fA ⟨⟨rfl,congrArg _ ((hz86.uniq hz.num (by rw[hr];exact hA.1.symm)).1.symm),congrArg _ ((hz86.uniq hz.num (by rw[hr];exact hA.1.symm)).2.symm),congrArg _ ((hz92.uniq hz.den (by rw[hr];exact hA.2.symm)).1.symm),congrArg _ ((hz92.uniq hz.den (by rw[hr];exact hA.2.symm)).2.symm),trivial⟩,trivial⟩ rfl (by simp)
     ·obtain⟨zb50,zl50,hz50⟩:=isI_ex (p.num*q.den)
      refine cL hE (YMul_ok hx.num hy.den hz50 (by omega) (by omega)) ⟨⟨rfl,rfl,trivial⟩,⟨rfl,rfl,trivial⟩,trivial⟩ ?_
      try conv=>cbv
      obtain⟨zb55,zl55,hz55⟩:=isI_ex (q.num*p.den)
      refine cL hE (YMul_ok hy.num hx.den hz55 (by omega) (by omega)) ⟨⟨rfl,rfl,trivial⟩,⟨rfl,rfl,trivial⟩,trivial⟩ ?_
      try conv=>cbv
      obtain⟨zb56,zl56,hz56⟩:=isI_ex (p.num*q.den+q.num*p.den)
      refine cL (r:= .agg [.bool zb56,.sl .u32 zl56]) hE (YAdd_ok hz50 hz55 hz56 (by have:=hx.num.mul_len hy.den hz50 rfl;omega) (by have:=hy.num.mul_len hx.den hz55 rfl;omega)) ⟨⟨rfl,rfl,trivial⟩,⟨rfl,rfl,trivial⟩,trivial⟩ ?_
      try conv=>cbv
      refine⟨fun _=>rfl,?_⟩
      obtain⟨zb62,zl62,hz62⟩:=isI_ex ((p.den:Int)*q.den)
      refine cL hE (YMul_ok hx.den hy.den hz62 (by omega) (by omega)) ⟨⟨rfl,rfl,trivial⟩,⟨rfl,rfl,trivial⟩,trivial⟩ ?_
      try conv=>cbv
      refine⟨fun _=>rfl,?_⟩
      have hA:=addY_1 p q (by have:=of_decide_eq_true hb45.symm;omega)
      exact fA ⟨⟨rfl,congrArg _ ((hz56.uniq hz.num (by rw[hr];exact hA.1.symm)).1.symm),congrArg _ ((hz56.uniq hz.num (by rw[hr];exact hA.1.symm)).2.symm),congrArg _ ((hz62.uniq hz.den (by rw[hr];exact hA.2.symm)).1.symm),congrArg _ ((hz62.uniq hz.den (by rw[hr];exact hA.2.symm)).2.symm),trivial⟩,trivial⟩ rfl (by simp)
    ·obtain⟨zb35,zl35,hz35⟩:=isI_ex (p.num+q.num)
     refine cL hE (YAdd_ok hx.num hy.num hz35 (by omega) (by omega)) ⟨⟨rfl,rfl,trivial⟩,⟨rfl,rfl,trivial⟩,trivial⟩ ?_
     try conv=>cbv
     refine⟨fun _=>rfl,?_⟩
     exact fA ⟨⟨rfl,congrArg _ ((hz35.uniq hz.num (by rw[hr];exact (add_ones (of_decide_eq_true hb25.symm) (of_decide_eq_true hb29.symm)).1.symm)).1.symm),congrArg _ ((hz35.uniq hz.num (by rw[hr];exact (add_ones (of_decide_eq_true hb25.symm) (of_decide_eq_true hb29.symm)).1.symm)).2.symm),congrArg _ ((hx.den.uniq hz.den (by rw[hr,(add_ones (of_decide_eq_true hb25.symm) (of_decide_eq_true hb29.symm)).2];exact of_decide_eq_true hb25.symm)).1.symm),congrArg _ ((hx.den.uniq hz.den (by rw[hr,(add_ones (of_decide_eq_true hb25.symm) (of_decide_eq_true hb29.symm)).2];exact of_decide_eq_true hb25.symm)).2.symm),trivial⟩,trivial⟩ rfl (by simp)
  ·have k21:=eql_t h21
   have e0:q=0:=Rat.num_eq_zero.1 (hy.num.len0.1 (by omega))
   have e1:r=p:=by rw[hr,e0,Rat.add_zero]
   exact fA ⟨⟨rfl,congrArg _ ((hx.num.uniq hz.num (by rw[e1])).1.symm),congrArg _ ((hx.num.uniq hz.num (by rw[e1])).2.symm),congrArg _ ((hx.den.uniq hz.den (by rw[e1])).1.symm),congrArg _ ((hx.den.uniq hz.den (by rw[e1])).2.symm),trivial⟩,trivial⟩ rfl (by simp)
 ·have k15:=eql_t h15
  have e0:p=0:=Rat.num_eq_zero.1 (hx.num.len0.1 (by omega))
  have e1:r=q:=by rw[hr,e0,Rat.zero_add]
  exact fA ⟨⟨rfl,congrArg _ ((hy.num.uniq hz.num (by rw[e1])).1.symm),congrArg _ ((hy.num.uniq hz.num (by rw[e1])).2.symm),congrArg _ ((hy.den.uniq hz.den (by rw[e1])).1.symm),congrArg _ ((hy.den.uniq hz.den (by rw[e1])).2.symm),trivial⟩,trivial⟩ rfl (by simp)
theorem inv_num {p:Rat} (h:p≠0):(1/p).num=(if p.num<0 then -(p.den:Int) else p.den)∧((1/p).den:Int)=if p.num<0 then -p.num else p.num:=by
 have hn:p.num≠0:=mt Rat.num_eq_zero.1 h
 have e:1/p=Rat.inv p:=by rw[Rat.div_def,Rat.one_mul];rfl
 rw[e]
 unfold Rat.inv
 split
 ·rename_i h1;exact⟨rfl,by show ((p.num.natAbs:Nat):Int)=_;omega⟩
 ·rename_i h1
  rw[dif_pos (by omega)]
  exact⟨rfl,by show ((p.num.natAbs:Nat):Int)=_;omega⟩
theorem YRInv_ok {p:Rat} (hx:IsR p b1 l1 b2 l2) (h0:p≠0) (hr:r=1/p) (hz:IsR r d1 k1 d2 k2):CF 193 [.agg [.bool b1,.sl .u32 l1,.bool b2,.sl .u32 l2]] (.agg [.bool d1,.sl .u32 k1,.bool d2,.sl .u32 k2]):=by
 obtain⟨hin,hid⟩:=inv_num h0
 rw[←hr] at hin hid
 refine acall_fn Tryz.func193 (by kernel_rfl) rfl fun E hE=>?_
 conv=>cbv
 cases b1 <;> conv=>cbv
 ·have hn:=isneg_f hx.num rfl
  exact fA ⟨⟨rfl,congrArg _ ((hx.den.uniq hz.num (by rw[hin,if_neg hn])).1.symm),congrArg _ ((hx.den.uniq hz.num (by rw[hin,if_neg hn])).2.symm),congrArg _ ((hx.num.uniq hz.den (by rw[hid,if_neg hn])).1.symm),congrArg _ ((hx.num.uniq hz.den (by rw[hid,if_neg hn])).2.symm),trivial⟩,trivial⟩ rfl (by simp)
 ·obtain⟨zb8,zl8,hz8⟩:=isI_ex (-(p.den:Int))
  refine cA hE (YNeg_ok hx.den hz8) ?_
  try conv=>cbv
  obtain⟨zb11,zl11,hz11⟩:=isI_ex (-p.num)
  refine cA hE (YNeg_ok hx.num hz11) ?_
  try conv=>cbv
  refine⟨fun _=>rfl,?_⟩
  have hn:=isneg_t hx.num rfl
  exact fA ⟨⟨rfl,congrArg _ ((hz8.uniq hz.num (by rw[hin,if_pos hn])).1.symm),congrArg _ ((hz8.uniq hz.num (by rw[hin,if_pos hn])).2.symm),congrArg _ ((hz11.uniq hz.den (by rw[hid,if_pos hn])).1.symm),congrArg _ ((hz11.uniq hz.den (by rw[hid,if_pos hn])).2.symm),trivial⟩,trivial⟩ rfl (by simp)
theorem YRValid_ok {p:Rat} (hx:IsR p b1 l1 b2 l2) (hs:SmallQ p):CF 188 [.agg [.bool b1,.sl .u32 l1,.bool b2,.sl .u32 l2]] (.one (.bool true)):=by
 have hsl:=hx.small hs
 have hpp:=p.den_pos
 refine acall_fn Tryz.func188 (by kernel_rfl) rfl fun E hE=>?_
 conv=>cbv
 refine cA hE (YValid_ok hx.num) ?_
 try conv=>cbv
 refine cA hE (YValid_ok hx.den) ?_
 try conv=>cbv
 obtain⟨r14,hr14⟩:∃z:Int,z=(1:Int):=⟨_,rfl⟩
 refine cL (r:= .one (.int .i64 r14)) hE (YSign_ok hx.den (hr14.trans (by unfold sgnI;rw[if_neg (by omega),if_neg (by omega)]))) ⟨⟨rfl,rfl,trivial⟩,trivial⟩ ?_
 try conv=>cbv
 intro n15 h15;conv=>cbv
 cases n15 <;> conv=>cbv
 ·have k15:=gtr_f h15
  exact absurd k15 (by omega)
 ·have k15:=gtr_t h15
  obtain⟨zb22,zl22,hz22⟩:=isI_ex ((1:Int))
  refine cL (r:= .agg [.bool zb22,.sl .u32 zl22]) hE (YGCD_ok hx.num hx.den (by rw[Int.natAbs_natCast,show Nat.gcd p.num.natAbs p.den=1 from p.reduced];exact hz22) (by omega) (by omega)) ⟨⟨rfl,rfl,trivial⟩,⟨rfl,rfl,trivial⟩,trivial⟩ ?_
  try conv=>cbv
  refine cA hE (Yone_ok hz22 rfl) ?_
  try conv=>cbv
  exact fA ⟨⟨rfl,rfl,trivial⟩,trivial⟩ rfl (by simp)
theorem neg_of_sgn {d r:Int} (hr:r=sgnI d) (h:r<0):d<0:=by rcases sgnI_cases d with⟨a,e⟩ |⟨a,e⟩ |⟨a,e⟩ <;> omega
theorem nneg_of_sgn {d r:Int} (hr:r=sgnI d) (h:0≤r):¬d<0:=by rcases sgnI_cases d with⟨a,e⟩ |⟨a,e⟩ |⟨a,e⟩ <;> omega
theorem divI_dvd {g:Int} (hg:g≠0) (h:g∣x):x=divI x g*g:=by
 unfold divI
 split
 ·exact (Int.ediv_mul_cancel h).symm
 ·have:=Int.ediv_mul_cancel (a:= -x) (b:= -g) (Int.neg_dvd.2 (Int.dvd_neg.2 h))
  rw[Int.mul_neg] at this
  generalize -x/ -g*g=Q at*
  omega
theorem gcds_dvd (n d:Int):(if d<0 then -((Nat.gcd n.natAbs d.natAbs:Nat):Int) else ((Nat.gcd n.natAbs d.natAbs:Nat):Int))∣n∧(if d<0 then -((Nat.gcd n.natAbs d.natAbs:Nat):Int) else ((Nat.gcd n.natAbs d.natAbs:Nat):Int))∣d:=by
 have h1:((Nat.gcd n.natAbs d.natAbs:Nat):Int)∣n:=Int.ofNat_dvd_left.2 (Nat.gcd_dvd_left _ _)
 have h2:((Nat.gcd n.natAbs d.natAbs:Nat):Int)∣d:=Int.ofNat_dvd_left.2 (Nat.gcd_dvd_right _ _)
 split
 ·exact⟨Int.neg_dvd.2 h1,Int.neg_dvd.2 h2⟩
 ·exact⟨h1,h2⟩
theorem YMake_ok {n d:Int} {q:Rat} (hx:IsI n b1 l1) (hy:IsI d b2 l2) (hd:d≠0) (hq:q=Rat.divInt n d) (hz:IsR q c1 m1 c2 m2) (s1:l1.length≤17592186042000) (s2:l2.length≤17592186042000):CF 125 [.agg [.bool b1,.sl .u32 l1],.agg [.bool b2,.sl .u32 l2]] (.agg [.bool c1,.sl .u32 m1,.bool c2,.sl .u32 m2]):=by
 refine acall_fn Tryz.func125 (by kernel_rfl) rfl fun E hE=>?_
 conv=>cbv
 obtain⟨zb8,zl8,hz8⟩:=isI_ex (((Nat.gcd n.natAbs d.natAbs:Nat):Int))
 refine cL hE (YGCD_ok hx hy hz8 (by omega) (by omega)) ⟨⟨rfl,rfl,trivial⟩,⟨rfl,rfl,trivial⟩,trivial⟩ ?_
 try conv=>cbv
 obtain⟨r10,hr10⟩:∃z:Int,z=sgnI d:=⟨_,rfl⟩
 refine cA hE (YSign_ok hy hr10) ?_
 try conv=>cbv
 intro n11 h11;conv=>cbv
 refine .inr ?_
 cases n11 <;> conv=>cbv
 ·have k11:=lss_f h11
  obtain⟨zb16,zl16,hz16⟩:=isI_ex (divI n (if d<0 then -((Nat.gcd n.natAbs d.natAbs:Nat):Int) else ((Nat.gcd n.natAbs d.natAbs:Nat):Int)))
  have hg:IsI (if d<0 then -((Nat.gcd n.natAbs d.natAbs:Nat):Int) else ((Nat.gcd n.natAbs d.natAbs:Nat):Int)) zb8 zl8:=by rw[if_neg (nneg_of_sgn hr10 k11)];exact hz8
  have hg0:(if d<0 then -((Nat.gcd n.natAbs d.natAbs:Nat):Int) else ((Nat.gcd n.natAbs d.natAbs:Nat):Int))≠0:=by rw[if_neg (nneg_of_sgn hr10 k11)];have:=gcd_ne (n:=n) hd;omega
  have hN:divI n (if d<0 then -((Nat.gcd n.natAbs d.natAbs:Nat):Int) else ((Nat.gcd n.natAbs d.natAbs:Nat):Int))=q.num:=by rw[hq];exact (lowest_num hd).symm
  have hD:divI d (if d<0 then -((Nat.gcd n.natAbs d.natAbs:Nat):Int) else ((Nat.gcd n.natAbs d.natAbs:Nat):Int))=(q.den:Int):=by rw[hq];exact (lowest_den hd).symm
  have hnd:n=divI n (if d<0 then -((Nat.gcd n.natAbs d.natAbs:Nat):Int) else ((Nat.gcd n.natAbs d.natAbs:Nat):Int))*(if d<0 then -((Nat.gcd n.natAbs d.natAbs:Nat):Int) else ((Nat.gcd n.natAbs d.natAbs:Nat):Int)):=divI_dvd hg0 (gcds_dvd n d).1
  have hdd:d=divI d (if d<0 then -((Nat.gcd n.natAbs d.natAbs:Nat):Int) else ((Nat.gcd n.natAbs d.natAbs:Nat):Int))*(if d<0 then -((Nat.gcd n.natAbs d.natAbs:Nat):Int) else ((Nat.gcd n.natAbs d.natAbs:Nat):Int)):=divI_dvd hg0 (gcds_dvd n d).2
  refine cL (r:= .agg [.bool zb16,.sl .u32 zl16]) hE (Yquo_ok hx hg hg0 (hnd) hz16 (by omega) (by have:=gcd_len hd hy hz8;omega)) ⟨⟨rfl,rfl,trivial⟩,⟨rfl,rfl,trivial⟩,trivial⟩ ?_
  try conv=>cbv
  obtain⟨zb19,zl19,hz19⟩:=isI_ex (divI d (if d<0 then -((Nat.gcd n.natAbs d.natAbs:Nat):Int) else ((Nat.gcd n.natAbs d.natAbs:Nat):Int)))
  refine cL (r:= .agg [.bool zb19,.sl .u32 zl19]) hE (Yquo_ok hy hg hg0 (hdd) hz19 (by omega) (by have:=gcd_len hd hy hz8;omega)) ⟨⟨rfl,rfl,trivial⟩,⟨rfl,rfl,trivial⟩,trivial⟩ ?_
  try conv=>cbv
  refine⟨fun _=>rfl,?_⟩
  exact fA ⟨⟨rfl,congrArg _ ((hz16.uniq hz.num hN).1.symm),congrArg _ ((hz16.uniq hz.num hN).2.symm),congrArg _ ((hz19.uniq hz.den hD).1.symm),congrArg _ ((hz19.uniq hz.den hD).2.symm),trivial⟩,trivial⟩ rfl (by simp)
 ·have k11:=lss_t h11
  obtain⟨zb13,zl13,hz13⟩:=isI_ex (-((Nat.gcd n.natAbs d.natAbs:Nat):Int))
  refine cA hE (YNeg_ok hz8 hz13) ?_
  try conv=>cbv
  obtain⟨zb16,zl16,hz16⟩:=isI_ex (divI n (if d<0 then -((Nat.gcd n.natAbs d.natAbs:Nat):Int) else ((Nat.gcd n.natAbs d.natAbs:Nat):Int)))
  have hg:IsI (if d<0 then -((Nat.gcd n.natAbs d.natAbs:Nat):Int) else ((Nat.gcd n.natAbs d.natAbs:Nat):Int)) zb13 zl13:=by rw[if_pos (neg_of_sgn hr10 k11)];exact hz13
  have hg0:(if d<0 then -((Nat.gcd n.natAbs d.natAbs:Nat):Int) else ((Nat.gcd n.natAbs d.natAbs:Nat):Int))≠0:=by rw[if_pos (neg_of_sgn hr10 k11)];have:=gcd_ne (n:=n) hd;omega
  have hN:divI n (if d<0 then -((Nat.gcd n.natAbs d.natAbs:Nat):Int) else ((Nat.gcd n.natAbs d.natAbs:Nat):Int))=q.num:=by rw[hq];exact (lowest_num hd).symm
  have hD:divI d (if d<0 then -((Nat.gcd n.natAbs d.natAbs:Nat):Int) else ((Nat.gcd n.natAbs d.natAbs:Nat):Int))=(q.den:Int):=by rw[hq];exact (lowest_den hd).symm
  have hnd:n=divI n (if d<0 then -((Nat.gcd n.natAbs d.natAbs:Nat):Int) else ((Nat.gcd n.natAbs d.natAbs:Nat):Int))*(if d<0 then -((Nat.gcd n.natAbs d.natAbs:Nat):Int) else ((Nat.gcd n.natAbs d.natAbs:Nat):Int)):=divI_dvd hg0 (gcds_dvd n d).1
  have hdd:d=divI d (if d<0 then -((Nat.gcd n.natAbs d.natAbs:Nat):Int) else ((Nat.gcd n.natAbs d.natAbs:Nat):Int))*(if d<0 then -((Nat.gcd n.natAbs d.natAbs:Nat):Int) else ((Nat.gcd n.natAbs d.natAbs:Nat):Int)):=divI_dvd hg0 (gcds_dvd n d).2
  refine cL (r:= .agg [.bool zb16,.sl .u32 zl16]) hE (Yquo_ok hx hg hg0 (hnd) hz16 (by omega) (by have:=gcd_len' hd hy hz13;omega)) ⟨⟨rfl,rfl,trivial⟩,⟨rfl,rfl,trivial⟩,trivial⟩ ?_
  try conv=>cbv
  obtain⟨zb19,zl19,hz19⟩:=isI_ex (divI d (if d<0 then -((Nat.gcd n.natAbs d.natAbs:Nat):Int) else ((Nat.gcd n.natAbs d.natAbs:Nat):Int)))
  refine cL (r:= .agg [.bool zb19,.sl .u32 zl19]) hE (Yquo_ok hy hg hg0 (hdd) hz19 (by omega) (by have:=gcd_len' hd hy hz13;omega)) ⟨⟨rfl,rfl,trivial⟩,⟨rfl,rfl,trivial⟩,trivial⟩ ?_
  try conv=>cbv
  refine⟨fun _=>rfl,?_⟩
  exact fA ⟨⟨rfl,congrArg _ ((hz16.uniq hz.num hN).1.symm),congrArg _ ((hz16.uniq hz.num hN).2.symm),congrArg _ ((hz19.uniq hz.den hD).1.symm),congrArg _ ((hz19.uniq hz.den hD).2.symm),trivial⟩,trivial⟩ rfl (by simp)
theorem YFrac_ok {n d:Int} {q:Rat} (hn: -9223372036854775808≤n∧n<9223372036854775808) (hd: -9223372036854775808≤d∧d<9223372036854775808) (h0:d≠0) (hq:q=Rat.divInt n d) (hz:IsR q c1 m1 c2 m2):CF 62 [.one (.int .i64 n),.one (.int .i64 d)] (.agg [.bool c1,.sl .u32 m1,.bool c2,.sl .u32 m2]):=by
 refine acall_fn Tryz.func62 (by kernel_rfl) rfl fun E hE=>?_
 conv=>cbv
 intro n6 h6;conv=>cbv
 cases n6 <;> conv=>cbv
 ·have k6:=eql_f h6
  obtain⟨zb9,zl9,hz9⟩:=isI_ex (n)
  refine cA hE (YFromInt_ok hn hz9) ?_
  try conv=>cbv
  obtain⟨zb11,zl11,hz11⟩:=isI_ex (d)
  refine cA hE (YFromInt_ok hd hz11) ?_
  try conv=>cbv
  refine cL (r:= .agg [.bool c1,.sl .u32 m1,.bool c2,.sl .u32 m2]) hE (YMake_ok hz9 hz11 h0 hq hz (by have:=word_len hn hz9;omega) (by have:=word_len hd hz11;omega)) ⟨⟨rfl,rfl,trivial⟩,⟨rfl,rfl,trivial⟩,trivial⟩ ?_
  try conv=>cbv
  exact fA ⟨⟨rfl,rfl,rfl,rfl,rfl,trivial⟩,trivial⟩ rfl (by simp)
 ·have k6:=eql_t h6
  exact absurd k6 h0
end Go.Abs
