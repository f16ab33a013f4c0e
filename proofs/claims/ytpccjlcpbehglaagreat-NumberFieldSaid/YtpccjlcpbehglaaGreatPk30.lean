/- Part 31 of a proof. Conditions: each theorem's own. -/
import Derived.Test.YtpccjlcpbehglaaGreatPk25
set_option linter.all false
set_option maxHeartbeats 8000000
open Go.Proofs
namespace Go.Abs
open Go.RowKit
variable {b' b1 b2 c c1 c2 d1 d2:Bool} {d n x y:Int} {k1 k2 l l' l1 l2 m1 m2:List UInt32} {r:Rat}
theorem isZero_ok {b:Bool} (hx:IsI x b l) (hc:c=decide (x=0)):CF 209 [.agg [.bool b,.sl .u32 l]] (.one (.bool c)):=by
 refine acall_fn Tryz.func209 (by kernel_rfl) rfl fun E hE=>?_
 conv=>cbv
 intro n5 h5;have e5:=h5.eq;have f5:=h5.le;conv=>cbv
 intro n6 h6;conv=>cbv
 exact fA ⟨⟨rfl,congrArg _ (by rw[hc,h6,Bool.eq_iff_iff];simp only[decide_eq_true_eq,beq_iff_eq];rw[←hx.len0];omega),trivial⟩,trivial⟩ rfl (by simp)
theorem isOne_ok {b:Bool} (hx:IsI x b l) (hc:c=decide (x=1)):CF 216 [.agg [.bool b,.sl .u32 l]] (.one (.bool c)):=by
 refine acall_fn Tryz.func216 (by kernel_rfl) rfl fun E hE=>?_
 conv=>cbv
 intro n5 h5;conv=>cbv
 cases n5 <;> conv=>cbv
 ·have k5:=not_f h5
  exact fA ⟨⟨rfl,congrArg _ (by rw[hc];exact (one_neg hx k5).symm),trivial⟩,trivial⟩ rfl (by simp)
 ·have k5:=not_t h5
  intro n9 h9;have e9:=h9.eq;have f9:=h9.le;conv=>cbv
  intro n10 h10;conv=>cbv
  cases n10 <;> conv=>cbv
  ·have k10:=eql_f h10
   exact fA ⟨⟨rfl,congrArg _ (by rw[hc];exact (one_len hx (by omega)).symm),trivial⟩,trivial⟩ rfl (by simp)
  ·have k10:=eql_t h10
   obtain⟨x15,hx15⟩:=get_ex (l:=l) (i:=0) (by omega)
   refine⟨x15,fun _=>⟨by omega,hx15⟩,?_⟩
   try conv=>cbv
   intro n16 h16;have e16:=h16.eq;have f16:=h16.lt;conv=>cbv
   intro n17 h17;conv=>cbv
   exact fA ⟨⟨rfl,congrArg _ (by rw[hc,h17,←one_word hx k5 (by omega) hx15,Bool.eq_iff_iff];simp only[decide_eq_true_eq,beq_iff_eq];omega),trivial⟩,trivial⟩ rfl (by simp)
theorem one_ok {b:Bool} (hz:IsI 1 b l):CF 179 [] (.agg [.bool b,.sl .u32 l]):=by
 refine acall_fn Tryz.func179 (by kernel_rfl) rfl fun E hE=>?_
 conv=>cbv
 obtain⟨zb1,zl1,hz1⟩:=isI_ex (1)
 refine cL hE (FromInt_ok (by omega) hz1) ⟨rfl,trivial⟩ ?_
 try conv=>cbv
 exact fA ⟨⟨rfl,congrArg _ ((hz1.uniq hz rfl).1.symm),congrArg _ ((hz1.uniq hz rfl).2.symm),trivial⟩,trivial⟩ rfl (by simp)
theorem quo_ok {b3:Bool} {l3:List UInt32} (hx:IsI x b1 l1) (hy:IsI y b2 l2) (hy0:y≠0) (hz:IsI (divI x y) b3 l3) (s1:l1.length≤17592186042000) (s2:l2.length≤17592186042000):CF 236 [.agg [.bool b1,.sl .u32 l1],.agg [.bool b2,.sl .u32 l2]] (.agg [.bool b3,.sl .u32 l3]):=by
 refine acall_fn Tryz.func236 (by kernel_rfl) rfl fun E hE=>?_
 conv=>cbv
 obtain⟨b9,hb9⟩:∃z:Bool,z=decide (y=1):=⟨_,rfl⟩
 refine cA hE (isOne_ok hy hb9) ?_
 try conv=>cbv
 cases b9 <;> conv=>cbv
 ·obtain⟨zb14,zl14,hz14⟩:=isI_ex (divI x y)
  obtain⟨yb14,yl14,hy14⟩:=isI_ex (modI x y)
  refine cL hE (DivMod_ok hx hy hy0 hz14 hy14 (by omega) (by omega)) ⟨⟨rfl,rfl,trivial⟩,⟨rfl,rfl,trivial⟩,trivial⟩ ?_
  try conv=>cbv
  exact fA ⟨⟨rfl,congrArg _ ((hz14.uniq hz rfl).1.symm),congrArg _ ((hz14.uniq hz rfl).2.symm),trivial⟩,trivial⟩ rfl (by simp)
 ·exact fA ⟨⟨rfl,congrArg _ ((hz.uniq hx (by rw[of_decide_eq_true hb9.symm];exact divI_one x)).1),congrArg _ ((hz.uniq hx (by rw[of_decide_eq_true hb9.symm];exact divI_one x)).2),trivial⟩,trivial⟩ rfl (by simp)
theorem gcd_len {b:Bool} (hd:d≠0) (h:IsI d b l) (h':IsI ((Nat.gcd n.natAbs d.natAbs:Nat):Int) b' l'):l'.length≤l.length:=by
 rw[h.mag,h'.mag,Int.natAbs_natCast]
 exact limbs_len_mono (Nat.le_of_dvd (by omega) (Nat.gcd_dvd_right _ _))
theorem gcd_len' {b:Bool} (hd:d≠0) (h:IsI d b l) (h':IsI (-((Nat.gcd n.natAbs d.natAbs:Nat):Int)) b' l'):l'.length≤l.length:=by
 rw[h.mag,h'.mag,Int.natAbs_neg,Int.natAbs_natCast]
 exact limbs_len_mono (Nat.le_of_dvd (by omega) (Nat.gcd_dvd_right _ _))
theorem gcd_ne (hd:d≠0):((Nat.gcd n.natAbs d.natAbs:Nat):Int)≠0:=by
 have:=Nat.gcd_pos_of_pos_right n.natAbs (n:=d.natAbs) (by omega)
 omega
theorem isneg_t {b:Bool} (h:IsI d b l) (e:b=true):d<0:=by
 have:=h.neg;rw[e] at this;simpa using this.symm
theorem isneg_f {b:Bool} (h:IsI d b l) (e:b=false):¬d<0:=by
 have:=h.neg;rw[e] at this;simpa using this.symm
theorem lowest_ok {q:Rat} (hx:IsI n b1 l1) (hy:IsI d b2 l2) (hd:d≠0) (hq:q=Rat.divInt n d) (hz:IsR q c1 m1 c2 m2) (s1:l1.length≤17592186042000) (s2:l2.length≤17592186042000):CF 210 [.agg [.bool b1,.sl .u32 l1],.agg [.bool b2,.sl .u32 l2]] (.agg [.bool c1,.sl .u32 m1,.bool c2,.sl .u32 m2]):=by
 refine acall_fn Tryz.func210 (by kernel_rfl) rfl fun E hE=>?_
 conv=>cbv
 obtain⟨zb8,zl8,hz8⟩:=isI_ex (((Nat.gcd n.natAbs d.natAbs:Nat):Int))
 refine cL hE (GCD_ok hx hy hz8 (by omega) (by omega)) ⟨⟨rfl,rfl,trivial⟩,⟨rfl,rfl,trivial⟩,trivial⟩ ?_
 try conv=>cbv
 refine .inr ?_
 cases b2 <;> conv=>cbv
 ·obtain⟨zb15,zl15,hz15⟩:=isI_ex (divI n (if d<0 then -((Nat.gcd n.natAbs d.natAbs:Nat):Int) else ((Nat.gcd n.natAbs d.natAbs:Nat):Int)))
  have hg:IsI (if d<0 then -((Nat.gcd n.natAbs d.natAbs:Nat):Int) else ((Nat.gcd n.natAbs d.natAbs:Nat):Int)) zb8 zl8:=by rw[if_neg (isneg_f hy rfl)];exact hz8
  have hg0:(if d<0 then -((Nat.gcd n.natAbs d.natAbs:Nat):Int) else ((Nat.gcd n.natAbs d.natAbs:Nat):Int))≠0:=by rw[if_neg (isneg_f hy rfl)];have:=gcd_ne (n:=n) hd;omega
  have hN:divI n (if d<0 then -((Nat.gcd n.natAbs d.natAbs:Nat):Int) else ((Nat.gcd n.natAbs d.natAbs:Nat):Int))=q.num:=by rw[hq];exact (lowest_num hd).symm
  have hD:divI d (if d<0 then -((Nat.gcd n.natAbs d.natAbs:Nat):Int) else ((Nat.gcd n.natAbs d.natAbs:Nat):Int))=(q.den:Int):=by rw[hq];exact (lowest_den hd).symm
  refine cL (r:= .agg [.bool zb15,.sl .u32 zl15]) hE (quo_ok hx hg hg0 hz15 (by omega) (by have:=gcd_len hd hy hz8;omega)) ⟨⟨rfl,rfl,trivial⟩,⟨rfl,rfl,trivial⟩,trivial⟩ ?_
  try conv=>cbv
  obtain⟨zb18,zl18,hz18⟩:=isI_ex (divI d (if d<0 then -((Nat.gcd n.natAbs d.natAbs:Nat):Int) else ((Nat.gcd n.natAbs d.natAbs:Nat):Int)))
  refine cL (r:= .agg [.bool zb18,.sl .u32 zl18]) hE (quo_ok hy hg hg0 hz18 (by omega) (by have:=gcd_len hd hy hz8;omega)) ⟨⟨rfl,rfl,trivial⟩,⟨rfl,rfl,trivial⟩,trivial⟩ ?_
  try conv=>cbv
  refine⟨fun _=>rfl,?_⟩
  exact fA ⟨⟨rfl,congrArg _ ((hz15.uniq hz.num hN).1.symm),congrArg _ ((hz15.uniq hz.num hN).2.symm),congrArg _ ((hz18.uniq hz.den hD).1.symm),congrArg _ ((hz18.uniq hz.den hD).2.symm),trivial⟩,trivial⟩ rfl (by simp)
 ·obtain⟨zb12,zl12,hz12⟩:=isI_ex (-((Nat.gcd n.natAbs d.natAbs:Nat):Int))
  refine cL (r:= .agg [.bool zb12,.sl .u32 zl12]) hE (Neg_ok hz8 (by have:=gcd_len hd hy hz8;omega) hz12) ⟨⟨rfl,rfl,trivial⟩,trivial⟩ ?_
  try conv=>cbv
  obtain⟨zb15,zl15,hz15⟩:=isI_ex (divI n (if d<0 then -((Nat.gcd n.natAbs d.natAbs:Nat):Int) else ((Nat.gcd n.natAbs d.natAbs:Nat):Int)))
  have hg:IsI (if d<0 then -((Nat.gcd n.natAbs d.natAbs:Nat):Int) else ((Nat.gcd n.natAbs d.natAbs:Nat):Int)) zb12 zl12:=by rw[if_pos (isneg_t hy rfl)];exact hz12
  have hg0:(if d<0 then -((Nat.gcd n.natAbs d.natAbs:Nat):Int) else ((Nat.gcd n.natAbs d.natAbs:Nat):Int))≠0:=by rw[if_pos (isneg_t hy rfl)];have:=gcd_ne (n:=n) hd;omega
  have hN:divI n (if d<0 then -((Nat.gcd n.natAbs d.natAbs:Nat):Int) else ((Nat.gcd n.natAbs d.natAbs:Nat):Int))=q.num:=by rw[hq];exact (lowest_num hd).symm
  have hD:divI d (if d<0 then -((Nat.gcd n.natAbs d.natAbs:Nat):Int) else ((Nat.gcd n.natAbs d.natAbs:Nat):Int))=(q.den:Int):=by rw[hq];exact (lowest_den hd).symm
  refine cL (r:= .agg [.bool zb15,.sl .u32 zl15]) hE (quo_ok hx hg hg0 hz15 (by omega) (by have:=gcd_len' hd hy hz12;omega)) ⟨⟨rfl,rfl,trivial⟩,⟨rfl,rfl,trivial⟩,trivial⟩ ?_
  try conv=>cbv
  obtain⟨zb18,zl18,hz18⟩:=isI_ex (divI d (if d<0 then -((Nat.gcd n.natAbs d.natAbs:Nat):Int) else ((Nat.gcd n.natAbs d.natAbs:Nat):Int)))
  refine cL (r:= .agg [.bool zb18,.sl .u32 zl18]) hE (quo_ok hy hg hg0 hz18 (by omega) (by have:=gcd_len' hd hy hz12;omega)) ⟨⟨rfl,rfl,trivial⟩,⟨rfl,rfl,trivial⟩,trivial⟩ ?_
  try conv=>cbv
  refine⟨fun _=>rfl,?_⟩
  exact fA ⟨⟨rfl,congrArg _ ((hz15.uniq hz.num hN).1.symm),congrArg _ ((hz15.uniq hz.num hN).2.symm),congrArg _ ((hz18.uniq hz.den hD).1.symm),congrArg _ ((hz18.uniq hz.den hD).2.symm),trivial⟩,trivial⟩ rfl (by simp)
theorem RFromInt_ok {q:Rat} (hx: -9223372036854775808≤x∧x<9223372036854775808) (hq:q=(x:Rat)) (hz:IsR q c1 m1 c2 m2):CF 127 [.one (.int .i64 x)] (.agg [.bool c1,.sl .u32 m1,.bool c2,.sl .u32 m2]):=by
 refine acall_fn Tryz.func127 (by kernel_rfl) rfl fun E hE=>?_
 conv=>cbv
 obtain⟨zb4,zl4,hz4⟩:=isI_ex (x)
 refine cA hE (FromInt_ok hx hz4) ?_
 try conv=>cbv
 obtain⟨zb5,zl5,hz5⟩:=isI_ex (1)
 refine cA hE (one_ok hz5) ?_
 try conv=>cbv
 exact fA ⟨⟨rfl,congrArg _ ((hz4.uniq hz.num (by rw[hq];rfl)).1.symm),congrArg _ ((hz4.uniq hz.num (by rw[hq];rfl)).2.symm),congrArg _ ((hz5.uniq hz.den (by rw[hq];rfl)).1.symm),congrArg _ ((hz5.uniq hz.den (by rw[hq];rfl)).2.symm),trivial⟩,trivial⟩ rfl (by simp)
theorem RSign_ok {q:Rat} {c:Int} (hx:IsR q b1 l1 b2 l2) (hc:c=sgnQ q):CF 190 [.agg [.bool b1,.sl .u32 l1,.bool b2,.sl .u32 l2]] (.one (.int .i64 c)):=by
 refine acall_fn Tryz.func190 (by kernel_rfl) rfl fun E hE=>?_
 conv=>cbv
 obtain⟨r5,hr5⟩:∃z:Int,z=sgnI q.num:=⟨_,rfl⟩
 refine cA hE (Sign_ok hx.num hr5) ?_
 try conv=>cbv
 exact fA ⟨⟨rfl,congrArg _ (by rw[hc,hr5];rfl),trivial⟩,trivial⟩ rfl (by simp)
theorem RNeg_ok {q p:Rat} (hx:IsR q b1 l1 b2 l2) (hs:SmallQ q) (hp:p= -q) (hz:IsR p c1 m1 c2 m2):CF 207 [.agg [.bool b1,.sl .u32 l1,.bool b2,.sl .u32 l2]] (.agg [.bool c1,.sl .u32 m1,.bool c2,.sl .u32 m2]):=by
 refine acall_fn Tryz.func207 (by kernel_rfl) rfl fun E hE=>?_
 conv=>cbv
 obtain⟨zb5,zl5,hz5⟩:=isI_ex (-q.num)
 refine cL (r:= .agg [.bool zb5,.sl .u32 zl5]) hE (Neg_ok hx.num (by have:=hx.small hs;omega) hz5) ⟨⟨rfl,rfl,trivial⟩,trivial⟩ ?_
 try conv=>cbv
 refine⟨fun _=>rfl,?_⟩
 exact fA ⟨⟨rfl,congrArg _ ((hz5.uniq hz.num (by rw[hp];rfl)).1.symm),congrArg _ ((hz5.uniq hz.num (by rw[hp];rfl)).2.symm),congrArg _ ((hx.den.uniq hz.den (by rw[hp];rfl)).1.symm),congrArg _ ((hx.den.uniq hz.den (by rw[hp];rfl)).2.symm),trivial⟩,trivial⟩ rfl (by simp)
theorem RAdd_ok {p q:Rat} (hx:IsR p b1 l1 b2 l2) (hy:IsR q c1 m1 c2 m2) (hs:SmallQ p) (ht:SmallQ q) (hr:r=p+q) (hz:IsR r d1 k1 d2 k2):CF 201 [.agg [.bool b1,.sl .u32 l1,.bool b2,.sl .u32 l2],.agg [.bool c1,.sl .u32 m1,.bool c2,.sl .u32 m2]] (.agg [.bool d1,.sl .u32 k1,.bool d2,.sl .u32 k2]):=by
 refine acall_fn Tryz.func201 (by kernel_rfl) rfl fun E hE=>?_
 conv=>cbv
 obtain⟨b8,hb8⟩:∃z:Bool,z=decide ((p.den:Int)=1):=⟨_,rfl⟩
 refine cA hE (isOne_ok hx.den hb8) ?_
 try conv=>cbv
 cases b8 <;> conv=>cbv
 ·obtain⟨zb25,zl25,hz25⟩:=isI_ex (p.num*q.den)
  refine cL (r:= .agg [.bool zb25,.sl .u32 zl25]) hE (Mul_ok hx.num hy.den hz25 (by have:=hx.small hs;have:=hy.small ht;omega) (by have:=hx.small hs;have:=hy.small ht;omega)) ⟨⟨rfl,rfl,trivial⟩,⟨rfl,rfl,trivial⟩,trivial⟩ ?_
  try conv=>cbv
  obtain⟨zb30,zl30,hz30⟩:=isI_ex (q.num*p.den)
  refine cL (r:= .agg [.bool zb30,.sl .u32 zl30]) hE (Mul_ok hy.num hx.den hz30 (by have:=hx.small hs;have:=hy.small ht;omega) (by have:=hx.small hs;have:=hy.small ht;omega)) ⟨⟨rfl,rfl,trivial⟩,⟨rfl,rfl,trivial⟩,trivial⟩ ?_
  try conv=>cbv
  obtain⟨zb31,zl31,hz31⟩:=isI_ex (p.num*q.den+q.num*p.den)
  refine cL (r:= .agg [.bool zb31,.sl .u32 zl31]) hE (Add_ok hz25 hz30 hz31 (by have:=hx.small hs;have:=hy.small ht;have:=hx.num.mul_len hy.den hz25 rfl;omega) (by have:=hx.small hs;have:=hy.small ht;have:=hy.num.mul_len hx.den hz30 rfl;omega)) ⟨⟨rfl,rfl,trivial⟩,⟨rfl,rfl,trivial⟩,trivial⟩ ?_
  try conv=>cbv
  refine⟨fun _=>rfl,?_⟩
  obtain⟨zb37,zl37,hz37⟩:=isI_ex ((p.den:Int)*q.den)
  refine cL (r:= .agg [.bool zb37,.sl .u32 zl37]) hE (Mul_ok hx.den hy.den hz37 (by have:=hx.small hs;have:=hy.small ht;omega) (by have:=hx.small hs;have:=hy.small ht;omega)) ⟨⟨rfl,rfl,trivial⟩,⟨rfl,rfl,trivial⟩,trivial⟩ ?_
  try conv=>cbv
  obtain⟨zb38,zl38,yb38,yl38,hz38⟩:=isR_ex (r)
  refine cL (r:= .agg [.bool zb38,.sl .u32 zl38,.bool yb38,.sl .u32 yl38]) hE (lowest_ok hz31 hz37 (Int.mul_ne_zero (den_ne p) (den_ne q)) (hr.trans (addQ p q)) hz38 (by have:=hx.small hs;have:=hy.small ht;have:=hx.num.mul_len hy.den hz25 rfl;have:=hy.num.mul_len hx.den hz30 rfl;have:=hz25.add_len hz30 hz31 rfl (k:=8000000000000) (by omega) (by omega);omega) (by have:=hx.small hs;have:=hy.small ht;have:=hx.den.mul_len hy.den hz37 rfl;omega)) ⟨⟨rfl,rfl,trivial⟩,⟨rfl,rfl,trivial⟩,trivial⟩ ?_
  try conv=>cbv
  refine⟨fun _=>rfl,?_⟩
  exact fA ⟨⟨rfl,congrArg _ ((hz38.uniq hz rfl).1.1.symm),congrArg _ ((hz38.uniq hz rfl).1.2.symm),congrArg _ ((hz38.uniq hz rfl).2.1.symm),congrArg _ ((hz38.uniq hz rfl).2.2.symm),trivial⟩,trivial⟩ rfl (by simp)
 ·obtain⟨b12,hb12⟩:∃z:Bool,z=decide ((q.den:Int)=1):=⟨_,rfl⟩
  refine cA hE (isOne_ok hy.den hb12) ?_
  try conv=>cbv
  cases b12 <;> conv=>cbv
  ·obtain⟨zb25,zl25,hz25⟩:=isI_ex (p.num*q.den)
   refine cL (r:= .agg [.bool zb25,.sl .u32 zl25]) hE (Mul_ok hx.num hy.den hz25 (by have:=hx.small hs;have:=hy.small ht;omega) (by have:=hx.small hs;have:=hy.small ht;omega)) ⟨⟨rfl,rfl,trivial⟩,⟨rfl,rfl,trivial⟩,trivial⟩ ?_
   try conv=>cbv
   obtain⟨zb30,zl30,hz30⟩:=isI_ex (q.num*p.den)
   refine cL (r:= .agg [.bool zb30,.sl .u32 zl30]) hE (Mul_ok hy.num hx.den hz30 (by have:=hx.small hs;have:=hy.small ht;omega) (by have:=hx.small hs;have:=hy.small ht;omega)) ⟨⟨rfl,rfl,trivial⟩,⟨rfl,rfl,trivial⟩,trivial⟩ ?_
   try conv=>cbv
   obtain⟨zb31,zl31,hz31⟩:=isI_ex (p.num*q.den+q.num*p.den)
   refine cL (r:= .agg [.bool zb31,.sl .u32 zl31]) hE (Add_ok hz25 hz30 hz31 (by have:=hx.small hs;have:=hy.small ht;have:=hx.num.mul_len hy.den hz25 rfl;omega) (by have:=hx.small hs;have:=hy.small ht;have:=hy.num.mul_len hx.den hz30 rfl;omega)) ⟨⟨rfl,rfl,trivial⟩,⟨rfl,rfl,trivial⟩,trivial⟩ ?_
   try conv=>cbv
   refine⟨fun _=>rfl,?_⟩
   obtain⟨zb37,zl37,hz37⟩:=isI_ex ((p.den:Int)*q.den)
   refine cL (r:= .agg [.bool zb37,.sl .u32 zl37]) hE (Mul_ok hx.den hy.den hz37 (by have:=hx.small hs;have:=hy.small ht;omega) (by have:=hx.small hs;have:=hy.small ht;omega)) ⟨⟨rfl,rfl,trivial⟩,⟨rfl,rfl,trivial⟩,trivial⟩ ?_
   try conv=>cbv
   obtain⟨zb38,zl38,yb38,yl38,hz38⟩:=isR_ex (r)
   refine cL (r:= .agg [.bool zb38,.sl .u32 zl38,.bool yb38,.sl .u32 yl38]) hE (lowest_ok hz31 hz37 (Int.mul_ne_zero (den_ne p) (den_ne q)) (hr.trans (addQ p q)) hz38 (by have:=hx.small hs;have:=hy.small ht;have:=hx.num.mul_len hy.den hz25 rfl;have:=hy.num.mul_len hx.den hz30 rfl;have:=hz25.add_len hz30 hz31 rfl (k:=8000000000000) (by omega) (by omega);omega) (by have:=hx.small hs;have:=hy.small ht;have:=hx.den.mul_len hy.den hz37 rfl;omega)) ⟨⟨rfl,rfl,trivial⟩,⟨rfl,rfl,trivial⟩,trivial⟩ ?_
   try conv=>cbv
   refine⟨fun _=>rfl,?_⟩
   exact fA ⟨⟨rfl,congrArg _ ((hz38.uniq hz rfl).1.1.symm),congrArg _ ((hz38.uniq hz rfl).1.2.symm),congrArg _ ((hz38.uniq hz rfl).2.1.symm),congrArg _ ((hz38.uniq hz rfl).2.2.symm),trivial⟩,trivial⟩ rfl (by simp)
  ·obtain⟨zb18,zl18,hz18⟩:=isI_ex (p.num+q.num)
   refine cL (r:= .agg [.bool zb18,.sl .u32 zl18]) hE (Add_ok hx.num hy.num hz18 (by have:=hx.small hs;have:=hy.small ht;omega) (by have:=hx.small hs;have:=hy.small ht;omega)) ⟨⟨rfl,rfl,trivial⟩,⟨rfl,rfl,trivial⟩,trivial⟩ ?_
   try conv=>cbv
   obtain⟨zb19,zl19,hz19⟩:=isI_ex (1)
   refine cA hE (one_ok hz19) ?_
   try conv=>cbv
   exact fA ⟨⟨rfl,congrArg _ ((hz18.uniq hz.num (by rw[hr];exact (add_ones (of_decide_eq_true hb8.symm) (of_decide_eq_true hb12.symm)).1.symm)).1.symm),congrArg _ ((hz18.uniq hz.num (by rw[hr];exact (add_ones (of_decide_eq_true hb8.symm) (of_decide_eq_true hb12.symm)).1.symm)).2.symm),congrArg _ ((hz19.uniq hz.den (by rw[hr,(add_ones (of_decide_eq_true hb8.symm) (of_decide_eq_true hb12.symm)).2];rfl)).1.symm),congrArg _ ((hz19.uniq hz.den (by rw[hr,(add_ones (of_decide_eq_true hb8.symm) (of_decide_eq_true hb12.symm)).2];rfl)).2.symm),trivial⟩,trivial⟩ rfl (by simp)
theorem RMul_ok {p q:Rat} (hx:IsR p b1 l1 b2 l2) (hy:IsR q c1 m1 c2 m2) (hs:SmallQ p) (ht:SmallQ q) (hr:r=p*q) (hz:IsR r d1 k1 d2 k2):CF 180 [.agg [.bool b1,.sl .u32 l1,.bool b2,.sl .u32 l2],.agg [.bool c1,.sl .u32 m1,.bool c2,.sl .u32 m2]] (.agg [.bool d1,.sl .u32 k1,.bool d2,.sl .u32 k2]):=by
 refine acall_fn Tryz.func180 (by kernel_rfl) rfl fun E hE=>?_
 conv=>cbv
 obtain⟨b7,hb7⟩:∃z:Bool,z=decide ((p.den:Int)=1):=⟨_,rfl⟩
 refine cA hE (isOne_ok hx.den hb7) ?_
 try conv=>cbv
 cases b7 <;> conv=>cbv
 ·obtain⟨zb24,zl24,hz24⟩:=isI_ex (p.num*q.num)
  refine cL (r:= .agg [.bool zb24,.sl .u32 zl24]) hE (Mul_ok hx.num hy.num hz24 (by have:=hx.small hs;have:=hy.small ht;omega) (by have:=hx.small hs;have:=hy.small ht;omega)) ⟨⟨rfl,rfl,trivial⟩,⟨rfl,rfl,trivial⟩,trivial⟩ ?_
  try conv=>cbv
  obtain⟨zb29,zl29,hz29⟩:=isI_ex ((p.den:Int)*q.den)
  refine cL (r:= .agg [.bool zb29,.sl .u32 zl29]) hE (Mul_ok hx.den hy.den hz29 (by have:=hx.small hs;have:=hy.small ht;omega) (by have:=hx.small hs;have:=hy.small ht;omega)) ⟨⟨rfl,rfl,trivial⟩,⟨rfl,rfl,trivial⟩,trivial⟩ ?_
  try conv=>cbv
  obtain⟨zb30,zl30,yb30,yl30,hz30⟩:=isR_ex (r)
  refine cL (r:= .agg [.bool zb30,.sl .u32 zl30,.bool yb30,.sl .u32 yl30]) hE (lowest_ok hz24 hz29 (Int.mul_ne_zero (den_ne p) (den_ne q)) (hr.trans (mulQ p q)) hz30 (by have:=hx.small hs;have:=hy.small ht;have:=hx.num.mul_len hy.num hz24 rfl;omega) (by have:=hx.small hs;have:=hy.small ht;have:=hx.den.mul_len hy.den hz29 rfl;omega)) ⟨⟨rfl,rfl,trivial⟩,⟨rfl,rfl,trivial⟩,trivial⟩ ?_
  try conv=>cbv
  refine⟨fun _=>rfl,?_⟩
  exact fA ⟨⟨rfl,congrArg _ ((hz30.uniq hz rfl).1.1.symm),congrArg _ ((hz30.uniq hz rfl).1.2.symm),congrArg _ ((hz30.uniq hz rfl).2.1.symm),congrArg _ ((hz30.uniq hz rfl).2.2.symm),trivial⟩,trivial⟩ rfl (by simp)
 ·obtain⟨b11,hb11⟩:∃z:Bool,z=decide ((q.den:Int)=1):=⟨_,rfl⟩
  refine cA hE (isOne_ok hy.den hb11) ?_
  try conv=>cbv
  cases b11 <;> conv=>cbv
  ·obtain⟨zb24,zl24,hz24⟩:=isI_ex (p.num*q.num)
   refine cL (r:= .agg [.bool zb24,.sl .u32 zl24]) hE (Mul_ok hx.num hy.num hz24 (by have:=hx.small hs;have:=hy.small ht;omega) (by have:=hx.small hs;have:=hy.small ht;omega)) ⟨⟨rfl,rfl,trivial⟩,⟨rfl,rfl,trivial⟩,trivial⟩ ?_
   try conv=>cbv
   obtain⟨zb29,zl29,hz29⟩:=isI_ex ((p.den:Int)*q.den)
   refine cL (r:= .agg [.bool zb29,.sl .u32 zl29]) hE (Mul_ok hx.den hy.den hz29 (by have:=hx.small hs;have:=hy.small ht;omega) (by have:=hx.small hs;have:=hy.small ht;omega)) ⟨⟨rfl,rfl,trivial⟩,⟨rfl,rfl,trivial⟩,trivial⟩ ?_
   try conv=>cbv
   obtain⟨zb30,zl30,yb30,yl30,hz30⟩:=isR_ex (r)
   refine cL (r:= .agg [.bool zb30,.sl .u32 zl30,.bool yb30,.sl .u32 yl30]) hE (lowest_ok hz24 hz29 (Int.mul_ne_zero (den_ne p) (den_ne q)) (hr.trans (mulQ p q)) hz30 (by have:=hx.small hs;have:=hy.small ht;have:=hx.num.mul_len hy.num hz24 rfl;omega) (by have:=hx.small hs;have:=hy.small ht;have:=hx.den.mul_len hy.den hz29 rfl;omega)) ⟨⟨rfl,rfl,trivial⟩,⟨rfl,rfl,trivial⟩,trivial⟩ ?_
   try conv=>cbv
   refine⟨fun _=>rfl,?_⟩
   exact fA ⟨⟨rfl,congrArg _ ((hz30.uniq hz rfl).1.1.symm),congrArg _ ((hz30.uniq hz rfl).1.2.symm),congrArg _ ((hz30.uniq hz rfl).2.1.symm),congrArg _ ((hz30.uniq hz rfl).2.2.symm),trivial⟩,trivial⟩ rfl (by simp)
  ·obtain⟨zb17,zl17,hz17⟩:=isI_ex (p.num*q.num)
   refine cL (r:= .agg [.bool zb17,.sl .u32 zl17]) hE (Mul_ok hx.num hy.num hz17 (by have:=hx.small hs;have:=hy.small ht;omega) (by have:=hx.small hs;have:=hy.small ht;omega)) ⟨⟨rfl,rfl,trivial⟩,⟨rfl,rfl,trivial⟩,trivial⟩ ?_
   try conv=>cbv
   obtain⟨zb18,zl18,hz18⟩:=isI_ex (1)
   refine cA hE (one_ok hz18) ?_
   try conv=>cbv
   exact fA ⟨⟨rfl,congrArg _ ((hz17.uniq hz.num (by rw[hr];exact (mul_ones (of_decide_eq_true hb7.symm) (of_decide_eq_true hb11.symm)).1.symm)).1.symm),congrArg _ ((hz17.uniq hz.num (by rw[hr];exact (mul_ones (of_decide_eq_true hb7.symm) (of_decide_eq_true hb11.symm)).1.symm)).2.symm),congrArg _ ((hz18.uniq hz.den (by rw[hr,(mul_ones (of_decide_eq_true hb7.symm) (of_decide_eq_true hb11.symm)).2];rfl)).1.symm),congrArg _ ((hz18.uniq hz.den (by rw[hr,(mul_ones (of_decide_eq_true hb7.symm) (of_decide_eq_true hb11.symm)).2];rfl)).2.symm),trivial⟩,trivial⟩ rfl (by simp)
theorem RDiv_ok {p q:Rat} (hx:IsR p b1 l1 b2 l2) (hy:IsR q c1 m1 c2 m2) (hs:SmallQ p) (ht:SmallQ q) (hq0:q≠0) (hr:r=p/q) (hz:IsR r d1 k1 d2 k2):CF 185 [.agg [.bool b1,.sl .u32 l1,.bool b2,.sl .u32 l2],.agg [.bool c1,.sl .u32 m1,.bool c2,.sl .u32 m2]] (.tup [(true,[.bool d1,.sl .u32 k1,.bool d2,.sl .u32 k2]),(false,[.int .i64 0])]):=by
 refine acall_fn Tryz.func185 (by kernel_rfl) rfl fun E hE=>?_
 conv=>cbv
 obtain⟨b8,hb8⟩:∃z:Bool,z=decide (q.num=0):=⟨_,rfl⟩
 refine cA hE (isZero_ok hy.num hb8) ?_
 try conv=>cbv
 cases b8 <;> conv=>cbv
 ·obtain⟨zb14,zl14,hz14⟩:=isI_ex (p.num*q.den)
  refine cL (r:= .agg [.bool zb14,.sl .u32 zl14]) hE (Mul_ok hx.num hy.den hz14 (by have:=hx.small hs;have:=hy.small ht;omega) (by have:=hx.small hs;have:=hy.small ht;omega)) ⟨⟨rfl,rfl,trivial⟩,⟨rfl,rfl,trivial⟩,trivial⟩ ?_
  try conv=>cbv
  obtain⟨zb19,zl19,hz19⟩:=isI_ex ((p.den:Int)*q.num)
  refine cL (r:= .agg [.bool zb19,.sl .u32 zl19]) hE (Mul_ok hx.den hy.num hz19 (by have:=hx.small hs;have:=hy.small ht;omega) (by have:=hx.small hs;have:=hy.small ht;omega)) ⟨⟨rfl,rfl,trivial⟩,⟨rfl,rfl,trivial⟩,trivial⟩ ?_
  try conv=>cbv
  obtain⟨zb20,zl20,yb20,yl20,hz20⟩:=isR_ex (r)
  refine cL (r:= .agg [.bool zb20,.sl .u32 zl20,.bool yb20,.sl .u32 yl20]) hE (lowest_ok hz14 hz19 (Int.mul_ne_zero (den_ne p) (mt Rat.num_eq_zero.1 hq0)) (hr.trans (divQ p q)) hz20 (by have:=hx.small hs;have:=hy.small ht;have:=hx.num.mul_len hy.den hz14 rfl;omega) (by have:=hx.small hs;have:=hy.small ht;have:=hx.den.mul_len hy.num hz19 rfl;omega)) ⟨⟨rfl,rfl,trivial⟩,⟨rfl,rfl,trivial⟩,trivial⟩ ?_
  try conv=>cbv
  refine⟨fun _=>rfl,?_⟩
  exact fA ⟨⟨rfl,congrArg _ ((hz20.uniq hz rfl).1.1.symm),congrArg _ ((hz20.uniq hz rfl).1.2.symm),congrArg _ ((hz20.uniq hz rfl).2.1.symm),congrArg _ ((hz20.uniq hz rfl).2.2.symm),trivial⟩,⟨rfl,rfl,trivial⟩,trivial⟩ rfl (by simp)
 ·exact absurd (Rat.num_eq_zero.1 (of_decide_eq_true hb8.symm)) hq0
theorem RDiv_zero {p q:Rat} (hx:IsR p b1 l1 b2 l2) (hy:IsR q c1 m1 c2 m2) (hq0:q=0):CF 185 [.agg [.bool b1,.sl .u32 l1,.bool b2,.sl .u32 l2],.agg [.bool c1,.sl .u32 m1,.bool c2,.sl .u32 m2]] (.tup [(true,[.bool false,.sl .u32 [],.bool false,.sl .u32 []]),(false,[.int .i64 6])]):=by
 refine acall_fn Tryz.func185 (by kernel_rfl) rfl fun E hE=>?_
 conv=>cbv
 refine cL (r:= .one (.bool true)) hE (isZero_ok hy.num (by rw[hq0];rfl)) ⟨⟨rfl,rfl,trivial⟩,trivial⟩ ?_
 try conv=>cbv
 exact fA ⟨⟨rfl,rfl,.inr (.inl ⟨_,congrArg _ (by simp_all)⟩),rfl,.inr (.inl ⟨_,congrArg _ (by simp_all)⟩),trivial⟩,⟨rfl,rfl,trivial⟩,trivial⟩ rfl (by simp)
theorem sgnQ_cases (q:Rat):(q.num<0∧sgnQ q= -1)∨(q.num=0∧sgnQ q=0)∨(0<q.num∧sgnQ q=1):=sgnI_cases q.num
theorem den_pos' (q:Rat):0<(q.den:Int):=by have:=q.den_pos;omega
theorem sgn_lt {p q:Rat} (h:sgnQ p<sgnQ q):p<q:=by
 rw[Rat.lt_iff]
 rcases sgnQ_cases p with⟨a,e⟩ |⟨a,e⟩ |⟨a,e⟩ <;> rcases sgnQ_cases q with⟨a',e'⟩ |⟨a',e'⟩ |⟨a',e'⟩ <;> rw[e,e'] at h <;> try omega
 ·rw[a',Int.zero_mul];exact Int.mul_neg_of_neg_of_pos a (den_pos' q)
 ·exact Int.lt_trans (Int.mul_neg_of_neg_of_pos a (den_pos' q)) (Int.mul_pos a' (den_pos' p))
 ·rw[a,Int.zero_mul];exact Int.mul_pos a' (den_pos' p)
theorem cmpQ_lt {p q:Rat} (h:p<q):cmpQ p q= -1:=by unfold cmpQ;rw[if_pos h]
theorem cmpQ_gt {p q:Rat} (h:q<p):cmpQ p q=1:=by
 unfold cmpQ;rw[if_neg (fun h'=>Int.lt_asymm ((Rat.lt_iff _ _).1 h) ((Rat.lt_iff _ _).1 h')),if_pos h]
theorem cmpQ_eq (p q:Rat):cmpQ p q=cmpZ (p.num*q.den) (q.num*p.den):=by
 unfold cmpQ cmpZ
 simp only[Rat.lt_iff]
theorem RCmp_ok {p q:Rat} {c:Int} (hx:IsR p b1 l1 b2 l2) (hy:IsR q c1 m1 c2 m2) (hs:SmallQ p) (ht:SmallQ q) (hc:c=cmpQ p q):CF 147 [.agg [.bool b1,.sl .u32 l1,.bool b2,.sl .u32 l2],.agg [.bool c1,.sl .u32 m1,.bool c2,.sl .u32 m2]] (.one (.int .i64 c)):=by
 refine acall_fn Tryz.func147 (by kernel_rfl) rfl fun E hE=>?_
 conv=>cbv
 obtain⟨r8,hr8⟩:∃z:Int,z=sgnQ p:=⟨_,rfl⟩
 refine cA hE (RSign_ok hx hr8) ?_
 try conv=>cbv
 obtain⟨r10,hr10⟩:∃z:Int,z=sgnQ q:=⟨_,rfl⟩
 refine cA hE (RSign_ok hy hr10) ?_
 try conv=>cbv
 refine⟨fun _=>rfl,?_⟩
 intro n13 h13;conv=>cbv
 cases n13 <;> conv=>cbv
 ·have k13:=neq_f h13
  obtain⟨zb21,zl21,hz21⟩:=isI_ex (p.num*q.den)
  refine cL (r:= .agg [.bool zb21,.sl .u32 zl21]) hE (Mul_ok hx.num hy.den hz21 (by have:=hx.small hs;have:=hy.small ht;omega) (by have:=hx.small hs;have:=hy.small ht;omega)) ⟨⟨rfl,rfl,trivial⟩,⟨rfl,rfl,trivial⟩,trivial⟩ ?_
  try conv=>cbv
  obtain⟨zb26,zl26,hz26⟩:=isI_ex (q.num*p.den)
  refine cL (r:= .agg [.bool zb26,.sl .u32 zl26]) hE (Mul_ok hy.num hx.den hz26 (by have:=hx.small hs;have:=hy.small ht;omega) (by have:=hx.small hs;have:=hy.small ht;omega)) ⟨⟨rfl,rfl,trivial⟩,⟨rfl,rfl,trivial⟩,trivial⟩ ?_
  try conv=>cbv
  obtain⟨r27,hr27⟩:∃z:Int,z=cmpZ (p.num*q.den) (q.num*p.den):=⟨_,rfl⟩
  refine cA hE (Cmp_ok hz21 hz26 hr27) ?_
  try conv=>cbv
  refine⟨fun _=>rfl,?_⟩
  exact fA ⟨⟨rfl,congrArg _ (by rw[hc,hr27,cmpQ_eq]),trivial⟩,trivial⟩ rfl (by simp)
 ·have k13:=neq_t h13
  intro n16 h16;conv=>cbv
  cases n16 <;> conv=>cbv
  ·have k16:=lss_f h16
   exact fA ⟨⟨rfl,congrArg _ (by rw[hc];exact cmpQ_gt (sgn_lt (by omega))),trivial⟩,trivial⟩ rfl (by simp)
  ·have k16:=lss_t h16
   exact fA ⟨⟨rfl,congrArg _ (by rw[hc];exact cmpQ_lt (sgn_lt (by omega))),trivial⟩,trivial⟩ rfl (by simp)
theorem isqrt_len {b:Bool} (h:IsI x b l) (h':IsI ((isqrt x.toNat:Nat):Int) b' l'):l'.length≤l.length:=by
 rw[h.mag,h'.mag,Int.natAbs_natCast]
 exact limbs_len_mono (Nat.le_trans (Nat.le_trans (Nat.le_mul_self _) (isqrt_le x.toNat)) (by omega))
theorem root_neg {e:Int} (h:e=if x<0 then 7 else 0) (h0:e≠0):decide (((isqrt x.toNat:Nat):Int)*((isqrt x.toNat:Nat):Int)=x)=false:=by
 have hx:x<0:=by
  apply Classical.byContradiction;intro hn;rw[if_neg hn] at h;exact h0 h
 rw[show x.toNat=0 by omega]
 simp only[decide_eq_false_iff_not]
 intro h';rw[show isqrt 0=0 from rfl] at h';omega
theorem cmpZ_zero (a b:Int):decide (a=b)=(cmpZ a b==0):=by
 unfold cmpZ
 rw[Bool.eq_iff_iff,decide_eq_true_eq,beq_iff_eq]
 split
 ·omega
 ·split <;> omega
theorem root_ok (hx:IsI x b1 l1) (hz:IsI ((isqrt x.toNat:Nat):Int) b2 l2) (hc:c=decide (((isqrt x.toNat:Nat):Int)*((isqrt x.toNat:Nat):Int)=x)) (s1:l1.length≤4000000000000):CF 233 [.agg [.bool b1,.sl .u32 l1]] (.tup [(true,[.bool b2,.sl .u32 l2]),(false,[.bool c])]):=by
 refine acall_fn Tryz.func233 (by kernel_rfl) rfl fun E hE=>?_
 conv=>cbv
 obtain⟨zb8,zl8,hz8⟩:=isI_ex ((isqrt x.toNat:Nat):Int)
 obtain⟨r8,hr8⟩:∃e:Int,e=if x<0 then 7 else 0:=⟨_,rfl⟩
 refine cL hE (Sqrt_ok hx hz8 hr8 (by omega)) ⟨⟨rfl,rfl,trivial⟩,trivial⟩ ?_
 try conv=>cbv
 intro n13 h13;conv=>cbv
 cases n13 <;> conv=>cbv
 ·have k13:=eql_f h13
  refine⟨fun _=>rfl,?_⟩
  exact fA ⟨⟨rfl,congrArg _ ((hz8.uniq hz rfl).1.symm),congrArg _ ((hz8.uniq hz rfl).2.symm),trivial⟩,⟨rfl,congrArg _ (by rw[hc];exact root_neg hr8 k13),trivial⟩,trivial⟩ rfl (by simp)
 ·have k13:=eql_t h13
  obtain⟨zb17,zl17,hz17⟩:=isI_ex (((isqrt x.toNat:Nat):Int)*((isqrt x.toNat:Nat):Int))
  refine cL (r:= .agg [.bool zb17,.sl .u32 zl17]) hE (Mul_ok hz8 hz8 hz17 (by have:=isqrt_len hx hz8;omega) (by have:=isqrt_len hx hz8;omega)) ⟨⟨rfl,rfl,trivial⟩,⟨rfl,rfl,trivial⟩,trivial⟩ ?_
  try conv=>cbv
  obtain⟨r19,hr19⟩:∃z:Int,z=cmpZ (((isqrt x.toNat:Nat):Int)*((isqrt x.toNat:Nat):Int)) x:=⟨_,rfl⟩
  refine cA hE (Cmp_ok hz17 hx hr19) ?_
  try conv=>cbv
  intro n20 h20;conv=>cbv
  refine⟨fun _=>rfl,?_⟩
  exact fA ⟨⟨rfl,congrArg _ ((hz8.uniq hz rfl).1.symm),congrArg _ ((hz8.uniq hz rfl).2.symm),trivial⟩,⟨rfl,congrArg _ (by rw[hc,h20,hr19];exact cmpZ_zero _ _),trivial⟩,trivial⟩ rfl (by simp)
theorem RSqrt_ok {q:Rat} (hx:IsR q b1 l1 b2 l2) (hs:SmallQ q) (h0:0≤r) (hr:r*r=q) (hz:IsR r c1 m1 c2 m2):CF 203 [.agg [.bool b1,.sl .u32 l1,.bool b2,.sl .u32 l2]] (.tup [(true,[.bool c1,.sl .u32 m1,.bool c2,.sl .u32 m2]),(false,[.bool true])]):=by
 refine acall_fn Tryz.func203 (by kernel_rfl) rfl fun E hE=>?_
 conv=>cbv
 obtain⟨zb11,zl11,hz11⟩:=isI_ex (r.num)
 have hn:=sqrt_num h0 hr
 refine cL (r:= .tup [(true,[.bool zb11,.sl .u32 zl11]),(false,[.bool true])]) hE (root_ok hx.num (by rw[hn.1];exact hz11) (by rw[hn.1];exact (decide_eq_true hn.2).symm) (by have:=hx.small hs;omega)) ⟨⟨rfl,rfl,trivial⟩,trivial⟩ ?_
 try conv=>cbv
 obtain⟨zb17,zl17,hz17⟩:=isI_ex (r.den:Int)
 have hd:=sqrt_den h0 hr
 refine cL (r:= .tup [(true,[.bool zb17,.sl .u32 zl17]),(false,[.bool true])]) hE (root_ok hx.den (by rw[hd.1];exact hz17) (by rw[hd.1];exact (decide_eq_true hd.2).symm) (by have:=hx.small hs;omega)) ⟨⟨rfl,rfl,trivial⟩,trivial⟩ ?_
 try conv=>cbv
 intro n21 h21;conv=>cbv
 cases n21 <;> conv=>cbv
 ·have k21:=not_f h21
  intro n24 h24;conv=>cbv
  cases n24 <;> conv=>cbv
  ·have k24:=not_f h24
   exact fA ⟨⟨rfl,congrArg _ ((hz11.uniq hz.num rfl).1.symm),congrArg _ ((hz11.uniq hz.num rfl).2.symm),congrArg _ ((hz17.uniq hz.den rfl).1.symm),congrArg _ ((hz17.uniq hz.den rfl).2.symm),trivial⟩,⟨rfl,rfl,trivial⟩,trivial⟩ rfl (by simp)
  ·have k24:=not_t h24
   exact absurd k24 (by decide)
 ·have k21:=not_t h21
  exact absurd k21 (by decide)
theorem RSqrt_none {q:Rat} (hx:IsR q b1 l1 b2 l2) (hs:SmallQ q) (hr:¬∃r:Rat,0≤r∧r*r=q):CF 203 [.agg [.bool b1,.sl .u32 l1,.bool b2,.sl .u32 l2]] (.tup [(true,[.bool false,.sl .u32 [],.bool false,.sl .u32 []]),(false,[.bool false])]):=by
 refine acall_fn Tryz.func203 (by kernel_rfl) rfl fun E hE=>?_
 conv=>cbv
 obtain⟨zb11,zl11,hz11⟩:=isI_ex (((isqrt q.num.toNat:Nat):Int))
 obtain⟨b11,hb11⟩:∃z:Bool,z=decide (((isqrt q.num.toNat:Nat):Int)*((isqrt q.num.toNat:Nat):Int)=q.num):=⟨_,rfl⟩
 refine cL (r:= .tup [(true,[.bool zb11,.sl .u32 zl11]),(false,[.bool b11])]) hE (root_ok hx.num hz11 hb11 (by have:=hx.small hs;omega)) ⟨⟨rfl,rfl,trivial⟩,trivial⟩ ?_
 try conv=>cbv
 obtain⟨zb17,zl17,hz17⟩:=isI_ex (((isqrt (q.den:Int).toNat:Nat):Int))
 obtain⟨b17,hb17⟩:∃z:Bool,z=decide (((isqrt (q.den:Int).toNat:Nat):Int)*((isqrt (q.den:Int).toNat:Nat):Int)=(q.den:Int)):=⟨_,rfl⟩
 refine cL (r:= .tup [(true,[.bool zb17,.sl .u32 zl17]),(false,[.bool b17])]) hE (root_ok hx.den hz17 hb17 (by have:=hx.small hs;omega)) ⟨⟨rfl,rfl,trivial⟩,trivial⟩ ?_
 try conv=>cbv
 intro n21 h21;conv=>cbv
 cases n21 <;> conv=>cbv
 ·have k21:=not_f h21
  intro n24 h24;conv=>cbv
  cases n24 <;> conv=>cbv
  ·have k24:=not_f h24
   exact absurd (sqrt_both (of_decide_eq_true (hb11.symm.trans k21)) (of_decide_eq_true (hb17.symm.trans k24))) hr
  ·have k24:=not_t h24
   exact fA ⟨⟨rfl,rfl,.inr (.inl ⟨_,rfl⟩),rfl,.inr (.inl ⟨_,rfl⟩),trivial⟩,⟨rfl,rfl,trivial⟩,trivial⟩ rfl (by simp)
 ·have k21:=not_t h21
  exact fA ⟨⟨rfl,rfl,.inr (.inl ⟨_,rfl⟩),rfl,.inr (.inl ⟨_,rfl⟩),trivial⟩,⟨rfl,rfl,trivial⟩,trivial⟩ rfl (by simp)
theorem Make_ok {q:Rat} (hx:IsI n b1 l1) (hy:IsI d b2 l2) (hd:d≠0) (hq:q=Rat.divInt n d) (hz:IsR q c1 m1 c2 m2) (s1:l1.length≤17592186042000) (s2:l2.length≤17592186042000):CF 166 [.agg [.bool b1,.sl .u32 l1],.agg [.bool b2,.sl .u32 l2]] (.tup [(true,[.bool c1,.sl .u32 m1,.bool c2,.sl .u32 m2]),(false,[.int .i64 0])]):=by
 refine acall_fn Tryz.func166 (by kernel_rfl) rfl fun E hE=>?_
 conv=>cbv
 obtain⟨zb7,zl7,hz7⟩:=isI_ex (n)
 refine cL hE (Norm_ok hx (by omega) hz7) ⟨⟨rfl,rfl,trivial⟩,trivial⟩ ?_
 try conv=>cbv
 obtain⟨zb9,zl9,hz9⟩:=isI_ex (d)
 refine cL hE (Norm_ok hy (by omega) hz9) ⟨⟨rfl,rfl,trivial⟩,trivial⟩ ?_
 try conv=>cbv
 refine⟨fun _=>rfl,?_⟩
 refine cL (r:= .one (.bool false)) hE (isZero_ok hz9 (by simp[hd])) ⟨⟨rfl,rfl,trivial⟩,trivial⟩ ?_
 try conv=>cbv
 obtain⟨zb15,zl15,yb15,yl15,hz15⟩:=isR_ex (q)
 refine cL (r:= .agg [.bool zb15,.sl .u32 zl15,.bool yb15,.sl .u32 yl15]) hE (lowest_ok hz7 hz9 hd hq hz15 (by rw[(hz7.uniq hx rfl).2];exact s1) (by rw[(hz9.uniq hy rfl).2];exact s2)) ⟨⟨rfl,rfl,trivial⟩,⟨rfl,rfl,trivial⟩,trivial⟩ ?_
 try conv=>cbv
 exact fA ⟨⟨rfl,congrArg _ ((hz15.uniq hz rfl).1.1.symm),congrArg _ ((hz15.uniq hz rfl).1.2.symm),congrArg _ ((hz15.uniq hz rfl).2.1.symm),congrArg _ ((hz15.uniq hz rfl).2.2.symm),trivial⟩,⟨rfl,rfl,trivial⟩,trivial⟩ rfl (by simp)
theorem word_len {b:Bool} (hx: -9223372036854775808≤x∧x<9223372036854775808) (h:IsI x b l):l.length≤2:=by
 rw[h.mag];exact limbs_len_le (by omega)
theorem Frac_ok {q:Rat} (hn: -9223372036854775808≤n∧n<9223372036854775808) (hd: -9223372036854775808≤d∧d<9223372036854775808) (h0:d≠0) (hq:q=Rat.divInt n d) (hz:IsR q c1 m1 c2 m2):CF 114 [.one (.int .i64 n),.one (.int .i64 d)] (.agg [.bool c1,.sl .u32 m1,.bool c2,.sl .u32 m2]):=by
 refine acall_fn Tryz.func114 (by kernel_rfl) rfl fun E hE=>?_
 conv=>cbv
 obtain⟨zb9,zl9,hz9⟩:=isI_ex (n)
 refine cA hE (FromInt_ok hn hz9) ?_
 try conv=>cbv
 obtain⟨zb11,zl11,hz11⟩:=isI_ex (d)
 refine cA hE (FromInt_ok hd hz11) ?_
 try conv=>cbv
 obtain⟨zb12,zl12,yb12,yl12,hz12⟩:=isR_ex q
 refine cL (r:= .tup [(true,[.bool zb12,.sl .u32 zl12,.bool yb12,.sl .u32 yl12]),(false,[.int .i64 0])]) hE (Make_ok hz9 hz11 h0 hq hz12 (by have:=word_len hn hz9;omega) (by have:=word_len hd hz11;omega)) ⟨⟨rfl,rfl,trivial⟩,⟨rfl,rfl,trivial⟩,trivial⟩ ?_
 try conv=>cbv
 intro n16 h16;conv=>cbv
 cases n16 <;> conv=>cbv
 ·have k16:=neq_f h16
  exact fA ⟨⟨rfl,congrArg _ ((hz12.uniq hz rfl).1.1.symm),congrArg _ ((hz12.uniq hz rfl).1.2.symm),congrArg _ ((hz12.uniq hz rfl).2.1.symm),congrArg _ ((hz12.uniq hz rfl).2.2.symm),trivial⟩,trivial⟩ rfl (by simp)
 ·have k16:=neq_t h16
  obtain⟨zb17,zl17,yb17,yl17,hz17⟩:=isR_ex (((0:Int):Rat))
  refine cL hE (RFromInt_ok (by omega) rfl hz17) ⟨rfl,trivial⟩ ?_
  try conv=>cbv
  exact absurd k16 (by decide)
theorem validQ_neg (hy:IsI y b2 l2) (h:sgnI y≤0):validQ b1 l1 b2 l2=false:=by
 apply Bool.eq_false_iff.2
 intro h'
 obtain⟨q,hq⟩:=validQ_iff.1 h'
 have e:y=(q.den:Int):=by rw[hy.sgn,hq.den.sgn]
 have:=den_pos' q
 rcases sgnI_cases y with⟨a,e'⟩ |⟨a,e'⟩ |⟨a,e'⟩ <;> omega
theorem validQ_gcd (h1:true=validI b1 l1) (h2:true=validI b2 l2) (hx:IsI x b1 l1) (hy:IsI y b2 l2) (h:0<sgnI y) (hc:c=decide (((Nat.gcd x.natAbs y.natAbs:Nat):Int)=1)):validQ b1 l1 b2 l2=c:=by
 have hy0:0<y:=by rcases sgnI_cases y with⟨a,e'⟩ |⟨a,e'⟩ |⟨a,e'⟩ <;> omega
 have hb:b2=false:=by rw[hy.neg];exact decide_eq_false (by omega)
 have hn:l2≠[]:=fun e=>by have:=hy.nil.1 e;omega
 unfold validQ
 rw[←h1,←h2,hb,decide_eq_true hn,hc,hx.nat,hy.nat]
 simp only[Bool.true_and,Bool.not_false]
 rw[Bool.eq_iff_iff,decide_eq_true_eq,decide_eq_true_eq]
 omega
theorem RValid_ok (hc:c=validQ b1 l1 b2 l2) (s1:l1.length≤17592186042000) (s2:l2.length≤17592186042000):CF 195 [.agg [.bool b1,.sl .u32 l1,.bool b2,.sl .u32 l2]] (.one (.bool c)):=by
 refine acall_fn Tryz.func195 (by kernel_rfl) rfl fun E hE=>?_
 conv=>cbv
 obtain⟨b5,hb5⟩:∃z:Bool,z=validI b1 l1:=⟨_,rfl⟩
 refine cA hE (Valid_ok hb5) ?_
 try conv=>cbv
 cases b5 <;> conv=>cbv
 ·exact fA ⟨⟨rfl,congrArg _ (by rw[hc];unfold validQ;rw[←hb5];rfl),trivial⟩,trivial⟩ rfl (by simp)
 ·obtain⟨b9,hb9⟩:∃z:Bool,z=validI b2 l2:=⟨_,rfl⟩
  refine cA hE (Valid_ok hb9) ?_
  try conv=>cbv
  cases b9 <;> conv=>cbv
  ·exact fA ⟨⟨rfl,congrArg _ (by rw[hc];unfold validQ;rw[←hb9];exact Bool.and_false _),trivial⟩,trivial⟩ rfl (by simp)
  ·obtain⟨x,hx⟩:=validI_iff.1 hb5.symm
   obtain⟨y,hy⟩:=validI_iff.1 hb9.symm
   obtain⟨r14,hr14⟩:∃z:Int,z=sgnI y:=⟨_,rfl⟩
   refine cA hE (Sign_ok hy hr14) ?_
   try conv=>cbv
   intro n15 h15;conv=>cbv
   cases n15 <;> conv=>cbv
   ·have k15:=gtr_f h15
    exact fA ⟨⟨rfl,congrArg _ (by rw[hc];exact validQ_neg hy (by omega)),trivial⟩,trivial⟩ rfl (by simp)
   ·have k15:=gtr_t h15
    obtain⟨zb22,zl22,hz22⟩:=isI_ex (((Nat.gcd x.natAbs y.natAbs:Nat):Int))
    refine cL hE (GCD_ok hx hy hz22 (by omega) (by omega)) ⟨⟨rfl,rfl,trivial⟩,⟨rfl,rfl,trivial⟩,trivial⟩ ?_
    try conv=>cbv
    obtain⟨b23,hb23⟩:∃z:Bool,z=decide (((Nat.gcd x.natAbs y.natAbs:Nat):Int)=1):=⟨_,rfl⟩
    refine cA hE (isOne_ok hz22 hb23) ?_
    try conv=>cbv
    exact fA ⟨⟨rfl,congrArg _ (by rw[hc];exact validQ_gcd hb5 hb9 hx hy (by omega) hb23),trivial⟩,trivial⟩ rfl (by simp)
end Go.Abs
