/- Part 29 of a proof. Conditions: each theorem's own. -/
import Derived.Test.YtfilemenbchajaaGreatPk24
import Derived.Test.YtfilemenbchajaaGreatPk25
set_option linter.all false
set_option maxHeartbeats 8000000
set_option maxRecDepth 20000
open Go.Proofs
namespace Go.Abs
open Go.RowKit
variable {a b:Nat} {b1 b2 c c1 c2 d1 d2:Bool} {k1 k2 l l' l1 l2 m1 m2:List UInt32} {r:Rat} {x y:Int}
theorem MK (p q:Rat):(p*q).num=(p.num/((Nat.gcd p.num.natAbs q.den:Nat):Int))*(q.num/((Nat.gcd q.num.natAbs p.den:Nat):Int)):=by
 show (Rat.mul p q).num=_
 unfold Rat.mul
 dsimp only
 rw[Int.divExact_eq_ediv,Int.divExact_eq_ediv]
theorem MJ (p q:Rat):((p*q).den:Int)=((p.den:Int)/((Nat.gcd q.num.natAbs p.den:Nat):Int))*((q.den:Int)/((Nat.gcd p.num.natAbs q.den:Nat):Int)):=by
 have:(p*q).den=(p.den/Nat.gcd q.num.natAbs p.den)*(q.den/Nat.gcd p.num.natAbs q.den):=by
  show (Rat.mul p q).den=_
  unfold Rat.mul
  dsimp only
  rw[Nat.divExact_eq_div,Nat.divExact_eq_div]
 rw[this,Int.natCast_mul,Int.natCast_ediv,Int.natCast_ediv]
theorem RE (p q:Rat) (h:Nat.gcd p.den q.den=1):(p+q).num=p.num*q.den+q.num*p.den/\((p+q).den:Int)=(p.den:Int)*q.den:=by
 have:(p+q)=Rat.add p q:=rfl;rw[this];unfold Rat.add
 dsimp only
 rw[dif_pos h];exact⟨rfl,by rw[Int.natCast_mul]⟩
theorem RF (p q:Rat) {g h:Nat} {N:Int} (i:g=Nat.gcd p.den q.den) (m:g≠1) (s:x=(p.den:Int)/g) (t:y=(q.den:Int)/g) (n:N=p.num*y+q.num*x) (k:h=Nat.gcd N.natAbs g):
  (p+q).num=N/h/\((p+q).den:Int)=x*((q.den:Int)/h):=by
 have e:(p+q)=Rat.add p q:=rfl;have d:x=((p.den/g:Nat):Int):=by rw[s,Int.natCast_ediv]
 have j:y=((q.den/g:Nat):Int):=by rw[t,Int.natCast_ediv]
 have f:p.num*((q.den/Nat.gcd p.den q.den:Nat):Int)+q.num*((p.den/Nat.gcd p.den q.den:Nat):Int)=N:=by rw[n,d,j,i]
 have o:h∣q.den:=by rw[k];exact Nat.dvd_trans (Nat.gcd_dvd_right _ _) (by rw[i];exact Nat.gcd_dvd_right _ _)
 subst i;rw[e];unfold Rat.add
 dsimp only
 rw[dif_neg m,Rat.maybeNormalize_eq]
 dsimp only
 rw[Int.divExact_eq_ediv,f,<-k];refine⟨rfl,?_⟩;rw[d,Nat.mul_div_assoc _ o,Int.natCast_mul,Int.natCast_ediv (q.den)]
theorem Dz {a:Int} (hb:b≠0):a=a/((Nat.gcd a.natAbs b:Nat):Int)*((Nat.gcd a.natAbs b:Nat):Int)/\(b:Int)=(b:Int)/((Nat.gcd a.natAbs b:Nat):Int)*((Nat.gcd a.natAbs b:Nat):Int):=by
 exact⟨(Int.ediv_mul_cancel (Int.ofNat_dvd_left.2 (Nat.gcd_dvd_left _ _))).symm,(Int.ediv_mul_cancel (Int.natCast_dvd_natCast.2 (Nat.gcd_dvd_right _ _))).symm⟩
theorem Dp (hb:b≠0):((Nat.gcd a b:Nat):Int)≠0:=by
 have:=Nat.gcd_pos_of_pos_right a (n:=b) (by omega);omega
theorem Ev {q:Int} {b b':Bool} (f:Ag x b l) (d:Ag q b' l') (g:y≠0) (h:x=q*y):l'.length<=l.length:=by
 rw[f.BI,d.BI];exact DW (by rw[h,Int.natAbs_mul];exact Nat.le_mul_of_pos_right _ (by omega))
theorem FI {x:Int} {d:Bool} (hb:b≠0) (h:Ag (b:Int) c l) (h':Ag ((Nat.gcd a b:Nat):Int) d l'):l'.length<=l.length:=by
 rw[h.BI,h'.BI,Int.natAbs_natCast,Int.natAbs_natCast];exact DW (Nat.le_of_dvd (by omega) (Nat.gcd_dvd_right _ _))
theorem Hm {b:Bool} (h:Ag x b l) (k:c=decide (x=1)):CF 268 [.agg [.bool b,.sl .u32 l]] (.one (.bool c)):=by
 refine AH Tryz.func268 (by kernel_rfl) rfl fun E z=>?_
 conv=>cbv
 rintro A ⟨w,f5⟩;conv=>cbv
 intro v p;conv=>cbv
 cases v <;> conv=>cbv
 ·have s:=Au p;exact fA ⟨⟨rfl,congrArg _ (by rw[k];exact (UR h (by omega)).symm),trivial⟩,trivial⟩ rfl (by simp)
 have s:=Av p;obtain⟨o,d⟩:=AG (l:=l) (i:=0) (by omega);refine⟨o,fun _=>⟨by omega,d⟩,?_⟩;try conv=>cbv
 intro t f;have q:=f.eq;have f11:=f.lt;conv=>cbv
 intro n g;conv=>cbv
 cases n <;> conv=>cbv
 ·have m:=Au g;exact fA ⟨⟨rfl,congrArg _ (by rw[k];cases b with | true=>exact (O0 h rfl).symm | false=>rw[<-O3 h rfl (by omega) d];simp only[decide_eq_false_iff_not];omega),trivial⟩,trivial⟩ rfl (by simp)
 have m:=Av g;intro u j;conv=>cbv
 exact fA ⟨⟨rfl,congrArg _ (by rw[k,j];cases b with | true=>exact (O0 h rfl).symm | false=>rw[<-O3 h rfl (by omega) d];simp;omega),trivial⟩,trivial⟩ rfl (by simp)
theorem Dc {q:Int} {b3:Bool} {l3:List UInt32} (i:Ag x b1 l1) (j:Ag y b2 l2) (f:y≠0) (d:x=q*y) (h:Ag q b3 l3) (s1:l1.length<=17592186043000) (s2:l2.length<=17592186043000):CF 271 [.agg [.bool b1,.sl .u32 l1],.agg [.bool b2,.sl .u32 l2]] (.agg [.bool b3,.sl .u32 l3]):=by
 refine AH Tryz.func271 (by kernel_rfl) rfl fun E g=>?_
 conv=>cbv
 refine cL g (XV i j f d h s1 s2) ⟨t2,t2,trivial⟩ ?_;try conv=>cbv
 exact fA ⟨t3,trivial⟩ rfl (by simp)
theorem D7 {q:Rat} (j: -9223372036854775808<=x/\x<9223372036854775808) (g:q=(x:Rat)) (h:BM q c1 m1 c2 m2):CF 170 [.one (.int .i64 x)] (.agg [.bool c1,.sl .u32 m1,.bool c2,.sl .u32 m2]):=by
 refine AH Tryz.func170 (by kernel_rfl) rfl fun E i=>?_
 conv=>cbv
 obtain⟨k,n,d⟩:=Ac (x);refine cL i (K5 j d) t1 ?_;try conv=>cbv
 obtain⟨m,o,f⟩:=Ac (1);refine cL i (K5 (by omega) f) t1 ?_;try conv=>cbv
 exact fA ⟨⟨rfl,congrArg _ ((d.uniq h.num (by rw[g];rfl)).1.symm),congrArg _ ((d.uniq h.num (by rw[g];rfl)).2.symm),congrArg _ ((f.uniq h.den (by rw[g];rfl)).1.symm),congrArg _ ((f.uniq h.den (by rw[g];rfl)).2.symm),trivial⟩,trivial⟩ rfl (by simp)
theorem Qq {q:Rat} {c:Int} (h:BM q b1 l1 b2 l2) (g:c=Dk q):CF 238 [.agg [.bool b1,.sl .u32 l1,.bool b2,.sl .u32 l2]] (.one (.int .i64 c)):=by
 refine AH Tryz.func238 (by kernel_rfl) rfl fun E f=>?_
 conv=>cbv
 obtain⟨i,d⟩:=xI (Bu q.num);refine cL f (IT h.num d) ⟨t2,trivial⟩ ?_;try conv=>cbv
 exact fA ⟨⟨rfl,congrArg _ (by rw[g,d];rfl),trivial⟩,trivial⟩ rfl (by simp)
theorem Qp {q p:Rat} (h:BM q b1 l1 b2 l2) (f:p= -q) (g:BM p c1 m1 c2 m2):CF 192 [.agg [.bool b1,.sl .u32 l1,.bool b2,.sl .u32 l2]] (.agg [.bool c1,.sl .u32 m1,.bool c2,.sl .u32 m2]):=by
 refine AH Tryz.func192 (by kernel_rfl) rfl fun E i=>?_
 conv=>cbv
 obtain⟨j,k,d⟩:=Ac (-q.num);refine cL i (Je h.num d) ⟨t2,trivial⟩ ?_;try conv=>cbv
 refine g2 rfl ?_;exact fA ⟨⟨rfl,congrArg _ ((d.uniq g.num (by rw[f];rfl)).1.symm),congrArg _ ((d.uniq g.num (by rw[f];rfl)).2.symm),congrArg _ ((h.den.uniq g.den (by rw[f];rfl)).1.symm),congrArg _ ((h.den.uniq g.den (by rw[f];rfl)).2.symm),trivial⟩,trivial⟩ rfl (by simp)
theorem Xh {p q:Rat} {c:Int} (f:BM p b1 l1 b2 l2) (g:BM q c1 m1 c2 m2) (j:Bj p) (ht:Bj q) (u:c=FG p q):CF 338 [.agg [.bool b1,.sl .u32 l1,.bool b2,.sl .u32 l2],.agg [.bool c1,.sl .u32 m1,.bool c2,.sl .u32 m2]] (.one (.int .i64 c)):=by
 refine AH Tryz.func338 (by kernel_rfl) rfl fun E n=>?_
 conv=>cbv
 obtain⟨s,t,i⟩:=Ac (p.num*q.den);refine cL (r:= .agg [.bool s,.sl .u32 t]) n (DC f.num g.den i (by have:=f.small j;have:=g.small ht;omega) (by have:=f.small j;have:=g.small ht;omega)) ⟨t2,t2,trivial⟩ ?_;try conv=>cbv
 obtain⟨k,m,d⟩:=Ac (q.num*p.den);refine cL (r:= .agg [.bool k,.sl .u32 m]) n (DC g.num f.den d (by have:=f.small j;have:=g.small ht;omega) (by have:=f.small j;have:=g.small ht;omega)) ⟨t2,t2,trivial⟩ ?_;try conv=>cbv
 obtain⟨o,h⟩:=xI (BT (p.num*q.den) (q.num*p.den));refine cL (r:= .one (.int .i64 o)) n (XU i d h (by have:=f.small j;have:=g.small ht;have:=f.num.C0 g.den i rfl;omega) (by have:=f.small j;have:=g.small ht;have:=g.num.C0 f.den d rfl;omega)) ⟨t2,t2,trivial⟩ ?_;try conv=>cbv
 refine g2 rfl ?_;exact fA ⟨⟨rfl,congrArg _ (by rw[u,h,SF]),trivial⟩,trivial⟩ rfl (by simp)
theorem Xj {p q:Rat} (k:BM p b1 l1 b2 l2) (w:BM q c1 m1 c2 m2) (hs:Bj p) (ht:Bj q) (B:r=p*q) (z:BM r d1 k1 d2 k2):CF 223 [.agg [.bool b1,.sl .u32 l1,.bool b2,.sl .u32 l2],.agg [.bool c1,.sl .u32 m1,.bool c2,.sl .u32 m2]] (.agg [.bool d1,.sl .u32 k1,.bool d2,.sl .u32 k2]):=by
 have af:=k.small hs;have ag:=w.small ht;have d:=p.den_nz;have f:=q.den_nz;refine AH Tryz.func223 (by kernel_rfl) rfl fun E v=>?_
 conv=>cbv
 rintro ah ⟨ad,f10⟩;conv=>cbv
 intro a7 U;conv=>cbv
 cases a7 <;> conv=>cbv
 ·have a5:=Au U;rintro ai ⟨ae,f16⟩;conv=>cbv
  intro a8 V;conv=>cbv
  cases a8 <;> conv=>cbv
  ·have a6:=Au V;obtain⟨a1,j⟩:=xB (decide ((p.den:Int)=1));refine cL v (Hm k.den j) ⟨t2,trivial⟩ ?_;try conv=>cbv
   cases a1 <;> conv=>cbv
   ·obtain⟨W,Y,h⟩:=Ac (((Nat.gcd p.num.natAbs q.den:Nat):Int));refine cL v (F4 k.num w.den h (by omega) (by omega)) ⟨t2,t2,trivial⟩ ?_;try conv=>cbv
    obtain⟨X,Z,i⟩:=Ac (((Nat.gcd q.num.natAbs p.den:Nat):Int));refine cL v (F4 w.num k.den i (by omega) (by omega)) ⟨t2,t2,trivial⟩ ?_;try conv=>cbv
    refine g2 rfl ?_;obtain⟨H,O,m⟩:=Ac (p.num/((Nat.gcd p.num.natAbs q.den:Nat):Int));refine cL (r:= .agg [.bool H,.sl .u32 O]) v (Dc k.num h (Dp f) (Dz f).1 m (by omega) (by have:=FI (x:=0) f w.den h;omega)) ⟨t2,t2,trivial⟩ ?_;try conv=>cbv
    obtain⟨I,P,n⟩:=Ac (q.num/((Nat.gcd q.num.natAbs p.den:Nat):Int));refine cL (r:= .agg [.bool I,.sl .u32 P]) v (Dc w.num i (Dp d) (Dz d).1 n (by omega) (by have:=FI (x:=0) d k.den i;omega)) ⟨t2,t2,trivial⟩ ?_;try conv=>cbv
    obtain⟨J,Q,o⟩:=Ac ((p.num/((Nat.gcd p.num.natAbs q.den:Nat):Int))*(q.num/((Nat.gcd q.num.natAbs p.den:Nat):Int)));refine cL (r:= .agg [.bool J,.sl .u32 Q]) v (DC m n o (by have:=Ev k.num m (Dp f) (Dz f).1;omega) (by have:=Ev w.num n (Dp d) (Dz d).1;omega)) ⟨t2,t2,trivial⟩ ?_;try conv=>cbv
    obtain⟨K,R,s⟩:=Ac ((p.den:Int)/((Nat.gcd q.num.natAbs p.den:Nat):Int));refine cL (r:= .agg [.bool K,.sl .u32 R]) v (Dc k.den i (Dp d) (Dz d).2 s (by omega) (by have:=FI (x:=0) d k.den i;omega)) ⟨t2,t2,trivial⟩ ?_;try conv=>cbv
    obtain⟨L,S,t⟩:=Ac ((q.den:Int)/((Nat.gcd p.num.natAbs q.den:Nat):Int));refine cL (r:= .agg [.bool L,.sl .u32 S]) v (Dc w.den h (Dp f) (Dz f).2 t (by omega) (by have:=FI (x:=0) f w.den h;omega)) ⟨t2,t2,trivial⟩ ?_;try conv=>cbv
    obtain⟨M,T,u⟩:=Ac (((p.den:Int)/((Nat.gcd q.num.natAbs p.den:Nat):Int))*((q.den:Int)/((Nat.gcd p.num.natAbs q.den:Nat):Int)));refine cL (r:= .agg [.bool M,.sl .u32 T]) v (DC s t u (by have:=Ev k.den s (Dp d) (Dz d).2;omega) (by have:=Ev w.den t (Dp f) (Dz f).2;omega)) ⟨t2,t2,trivial⟩ ?_;try conv=>cbv
    refine g2 rfl ?_;exact fA ⟨⟨rfl,congrArg _ ((o.uniq z.num (by rw[B,MK])).1.symm),congrArg _ ((o.uniq z.num (by rw[B,MK])).2.symm),congrArg _ ((u.uniq z.den (by rw[B,MJ])).1.symm),congrArg _ ((u.uniq z.den (by rw[B,MJ])).2.symm),trivial⟩,trivial⟩ rfl (by simp)
   obtain⟨a2,A⟩:=xB (decide ((q.den:Int)=1));refine cL v (Hm w.den A) ⟨t2,trivial⟩ ?_;try conv=>cbv
   cases a2 <;> conv=>cbv
   ·obtain⟨W,Y,h⟩:=Ac (((Nat.gcd p.num.natAbs q.den:Nat):Int));refine cL v (F4 k.num w.den h (by omega) (by omega)) ⟨t2,t2,trivial⟩ ?_;try conv=>cbv
    obtain⟨X,Z,i⟩:=Ac (((Nat.gcd q.num.natAbs p.den:Nat):Int));refine cL v (F4 w.num k.den i (by omega) (by omega)) ⟨t2,t2,trivial⟩ ?_;try conv=>cbv
    refine g2 rfl ?_;obtain⟨H,O,m⟩:=Ac (p.num/((Nat.gcd p.num.natAbs q.den:Nat):Int));refine cL (r:= .agg [.bool H,.sl .u32 O]) v (Dc k.num h (Dp f) (Dz f).1 m (by omega) (by have:=FI (x:=0) f w.den h;omega)) ⟨t2,t2,trivial⟩ ?_;try conv=>cbv
    obtain⟨I,P,n⟩:=Ac (q.num/((Nat.gcd q.num.natAbs p.den:Nat):Int));refine cL (r:= .agg [.bool I,.sl .u32 P]) v (Dc w.num i (Dp d) (Dz d).1 n (by omega) (by have:=FI (x:=0) d k.den i;omega)) ⟨t2,t2,trivial⟩ ?_;try conv=>cbv
    obtain⟨J,Q,o⟩:=Ac ((p.num/((Nat.gcd p.num.natAbs q.den:Nat):Int))*(q.num/((Nat.gcd q.num.natAbs p.den:Nat):Int)));refine cL (r:= .agg [.bool J,.sl .u32 Q]) v (DC m n o (by have:=Ev k.num m (Dp f) (Dz f).1;omega) (by have:=Ev w.num n (Dp d) (Dz d).1;omega)) ⟨t2,t2,trivial⟩ ?_;try conv=>cbv
    obtain⟨K,R,s⟩:=Ac ((p.den:Int)/((Nat.gcd q.num.natAbs p.den:Nat):Int));refine cL (r:= .agg [.bool K,.sl .u32 R]) v (Dc k.den i (Dp d) (Dz d).2 s (by omega) (by have:=FI (x:=0) d k.den i;omega)) ⟨t2,t2,trivial⟩ ?_;try conv=>cbv
    obtain⟨L,S,t⟩:=Ac ((q.den:Int)/((Nat.gcd p.num.natAbs q.den:Nat):Int));refine cL (r:= .agg [.bool L,.sl .u32 S]) v (Dc w.den h (Dp f) (Dz f).2 t (by omega) (by have:=FI (x:=0) f w.den h;omega)) ⟨t2,t2,trivial⟩ ?_;try conv=>cbv
    obtain⟨M,T,u⟩:=Ac (((p.den:Int)/((Nat.gcd q.num.natAbs p.den:Nat):Int))*((q.den:Int)/((Nat.gcd p.num.natAbs q.den:Nat):Int)));refine cL (r:= .agg [.bool M,.sl .u32 T]) v (DC s t u (by have:=Ev k.den s (Dp d) (Dz d).2;omega) (by have:=Ev w.den t (Dp f) (Dz f).2;omega)) ⟨t2,t2,trivial⟩ ?_;try conv=>cbv
    refine g2 rfl ?_;exact fA ⟨⟨rfl,congrArg _ ((o.uniq z.num (by rw[B,MK])).1.symm),congrArg _ ((o.uniq z.num (by rw[B,MK])).2.symm),congrArg _ ((u.uniq z.den (by rw[B,MJ])).1.symm),congrArg _ ((u.uniq z.den (by rw[B,MJ])).2.symm),trivial⟩,trivial⟩ rfl (by simp)
   obtain⟨aa,ab,C⟩:=Ac (p.num*q.num);refine cL v (DC k.num w.num C (by omega) (by omega)) ⟨t2,t2,trivial⟩ ?_;try conv=>cbv
   refine g2 rfl ?_;exact fA ⟨⟨rfl,congrArg _ ((C.uniq z.num (by rw[B];exact (mul_ones (of_decide_eq_true j.symm) (of_decide_eq_true A.symm)).1.symm)).1.symm),congrArg _ ((C.uniq z.num (by rw[B];exact (mul_ones (of_decide_eq_true j.symm) (of_decide_eq_true A.symm)).1.symm)).2.symm),congrArg _ ((k.den.uniq z.den (by rw[B,(mul_ones (of_decide_eq_true j.symm) (of_decide_eq_true A.symm)).2];exact of_decide_eq_true j.symm)).1.symm),congrArg _ ((k.den.uniq z.den (by rw[B,(mul_ones (of_decide_eq_true j.symm) (of_decide_eq_true A.symm)).2];exact of_decide_eq_true j.symm)).2.symm),trivial⟩,trivial⟩ rfl (by simp)
  have a6:=Av V;obtain⟨G,N,D,F,g⟩:=Bb (r);refine cL (r:= .agg [.bool G,.sl .u32 N,.bool D,.sl .u32 F]) v (D7 (x:=0) (by omega) (by rw[B];first | (rw[Rat.num_eq_zero.1 (k.num.Eb.1 (by omega)),Rat.zero_mul];rfl) | (rw[Rat.num_eq_zero.1 (w.num.Eb.1 (by omega)),Rat.mul_zero];rfl)) g) t1 ?_;try conv=>cbv
  exact fA ⟨⟨rfl,congrArg _ ((g.uniq z rfl).1.1.symm),congrArg _ ((g.uniq z rfl).1.2.symm),congrArg _ ((g.uniq z rfl).2.1.symm),congrArg _ ((g.uniq z rfl).2.2.symm),trivial⟩,trivial⟩ rfl (by simp)
 have a5:=Av U;obtain⟨G,N,D,F,g⟩:=Bb (r);refine cL (r:= .agg [.bool G,.sl .u32 N,.bool D,.sl .u32 F]) v (D7 (x:=0) (by omega) (by rw[B];first | (rw[Rat.num_eq_zero.1 (k.num.Eb.1 (by omega)),Rat.zero_mul];rfl) | (rw[Rat.num_eq_zero.1 (w.num.Eb.1 (by omega)),Rat.mul_zero];rfl)) g) t1 ?_;try conv=>cbv
 exact fA ⟨⟨rfl,congrArg _ ((g.uniq z rfl).1.1.symm),congrArg _ ((g.uniq z rfl).1.2.symm),congrArg _ ((g.uniq z rfl).2.1.symm),congrArg _ ((g.uniq z rfl).2.2.symm),trivial⟩,trivial⟩ rfl (by simp)
theorem Qo {p q:Rat} (i:BM p b1 l1 b2 l2) (g:BM q c1 m1 c2 m2) (hs:Bj p) (ht:Bj q) (G:r=p+q) (t:BM r d1 k1 d2 k2):CF 230 [.agg [.bool b1,.sl .u32 l1,.bool b2,.sl .u32 l2],.agg [.bool c1,.sl .u32 m1,.bool c2,.sl .u32 m2]] (.agg [.bool d1,.sl .u32 k1,.bool d2,.sl .u32 k2]):=by
 have aS:=i.small hs;have aT:=g.small ht;have aR:=p.den_nz;have X:=q.den_nz;have J:((Nat.gcd p.den q.den:Nat):Int)≠0:=Dp X;obtain⟨x,Y⟩:=xI ((p.den:Int)/((Nat.gcd p.den q.den:Nat):Int));obtain⟨y,Z⟩:=xI ((q.den:Int)/((Nat.gcd p.den q.den:Nat):Int));have T:(p.den:Int)=x*((Nat.gcd p.den q.den:Nat):Int):=by rw[Y];exact (Int.ediv_mul_cancel (Int.natCast_dvd_natCast.2 (Nat.gcd_dvd_left _ _))).symm
 have U:(q.den:Int)=y*((Nat.gcd p.den q.den:Nat):Int):=by rw[Z];exact (Int.ediv_mul_cancel (Int.natCast_dvd_natCast.2 (Nat.gcd_dvd_right _ _))).symm
 refine AH Tryz.func230 (by kernel_rfl) rfl fun E h=>?_
 conv=>cbv
 rintro aU ⟨aP,f14⟩;conv=>cbv
 intro aL a1;conv=>cbv
 cases aL <;> conv=>cbv
 ·have aJ:=Au a1;rintro aV ⟨aQ,f20⟩;conv=>cbv
  intro aM a2;conv=>cbv
  cases aM <;> conv=>cbv
  ·have aK:=Au a2;obtain⟨aH,u⟩:=xB (decide ((p.den:Int)=1));refine cL h (Hm i.den u) ⟨t2,trivial⟩ ?_;try conv=>cbv
   cases aH <;> conv=>cbv
   ·obtain⟨af,av,d⟩:=Ac (((Nat.gcd p.den q.den:Nat):Int));refine cL h (F4 i.den g.den d (by omega) (by omega)) ⟨t2,t2,trivial⟩ ?_;try conv=>cbv
    have a5:=FI (x:=0) X g.den d;obtain⟨V,v⟩:=xB (decide (((Nat.gcd p.den q.den:Nat):Int)=1));refine cL h (Hm d v) ⟨t2,trivial⟩ ?_;try conv=>cbv
    cases V <;> conv=>cbv
    ·obtain⟨aj,az,f⟩:=Ac (x);refine cL h (Dc i.den d J T f (by omega) (by omega)) ⟨t2,t2,trivial⟩ ?_;try conv=>cbv
     have a6:=Ev i.den f J T;obtain⟨ak,aA,j⟩:=Ac (y);refine cL h (Dc g.den d J U j (by omega) (by omega)) ⟨t2,t2,trivial⟩ ?_;try conv=>cbv
     have a7:=Ev g.den j J U;refine g2 rfl ?_;obtain⟨al,aB,m⟩:=Ac (p.num*y);refine cL h (DC i.num j m (by omega) (by omega)) ⟨t2,t2,trivial⟩ ?_;try conv=>cbv
     have a8:=i.num.C0 j m rfl;obtain⟨an,aC,n⟩:=Ac (q.num*x);refine cL h (DC g.num f n (by omega) (by omega)) ⟨t2,t2,trivial⟩ ?_;try conv=>cbv
     have aa:=g.num.C0 f n rfl;obtain⟨ao,aD,o⟩:=Ac ((p.num*y+q.num*x));refine cL h (IS m n o (by omega) (by omega)) ⟨t2,t2,trivial⟩ ?_;try conv=>cbv
     have ab:=m.LF n o rfl (k:=8000000000000) (by omega) (by omega);refine g2 rfl ?_;obtain⟨P,R,s⟩:=Ac (((Nat.gcd (p.num*y+q.num*x).natAbs (Nat.gcd p.den q.den):Nat):Int));refine cL (r:= .agg [.bool P,.sl .u32 R]) h (F4 o d (by rw[Int.natAbs_natCast];exact s) (by omega) (by omega)) ⟨t2,t2,trivial⟩ ?_;try conv=>cbv
     have K:Nat.gcd p.den q.den≠0:=by omega
     have ad:=FI (x:=0) K d s;have W:(p.num*y+q.num*x)=(p.num*y+q.num*x)/((Nat.gcd (p.num*y+q.num*x).natAbs (Nat.gcd p.den q.den):Nat):Int)*((Nat.gcd (p.num*y+q.num*x).natAbs (Nat.gcd p.den q.den):Nat):Int):=(Dz K).1;have L:=Dp (a:=(p.num*y+q.num*x).natAbs) K;have M:(q.den:Int)=(q.den:Int)/((Nat.gcd (p.num*y+q.num*x).natAbs (Nat.gcd p.den q.den):Nat):Int)*((Nat.gcd (p.num*y+q.num*x).natAbs (Nat.gcd p.den q.den):Nat):Int):=(Int.ediv_mul_cancel (Int.natCast_dvd_natCast.2 (Nat.dvd_trans (Nat.gcd_dvd_right _ _) (Nat.gcd_dvd_right _ _)))).symm;obtain⟨aq,aE,C⟩:=Ac ((p.num*y+q.num*x)/((Nat.gcd (p.num*y+q.num*x).natAbs (Nat.gcd p.den q.den):Nat):Int));refine cL h (Dc o s L W C (by omega) (by omega)) ⟨t2,t2,trivial⟩ ?_;try conv=>cbv
     obtain⟨ar,aF,D⟩:=Ac ((q.den:Int)/((Nat.gcd (p.num*y+q.num*x).natAbs (Nat.gcd p.den q.den):Nat):Int));refine cL h (Dc g.den s L M D (by omega) (by omega)) ⟨t2,t2,trivial⟩ ?_;try conv=>cbv
     have ae:=Ev g.den D L M;obtain⟨au,aG,F⟩:=Ac (x*((q.den:Int)/((Nat.gcd (p.num*y+q.num*x).natAbs (Nat.gcd p.den q.den):Nat):Int)));refine cL h (DC f D F (by omega) (by omega)) ⟨t2,t2,trivial⟩ ?_;try conv=>cbv
     refine g2 rfl ?_;have H:=RF p q rfl (fun e=>by have:=of_decide_eq_false v.symm;omega) Y Z rfl rfl;exact fA ⟨⟨rfl,congrArg _ ((C.uniq t.num (by rw[G];exact H.1.symm)).1.symm),congrArg _ ((C.uniq t.num (by rw[G];exact H.1.symm)).2.symm),congrArg _ ((F.uniq t.den (by rw[G];exact H.2.symm)).1.symm),congrArg _ ((F.uniq t.den (by rw[G];exact H.2.symm)).2.symm),trivial⟩,trivial⟩ rfl (by simp)
    obtain⟨ag,aw,w⟩:=Ac (p.num*q.den);refine cL h (DC i.num g.den w (by omega) (by omega)) ⟨t2,t2,trivial⟩ ?_;try conv=>cbv
    obtain⟨ah,ax,z⟩:=Ac (q.num*p.den);refine cL h (DC g.num i.den z (by omega) (by omega)) ⟨t2,t2,trivial⟩ ?_;try conv=>cbv
    obtain⟨O,Q,A⟩:=Ac (p.num*q.den+q.num*p.den);refine cL (r:= .agg [.bool O,.sl .u32 Q]) h (IS w z A (by have:=i.num.C0 g.den w rfl;omega) (by have:=g.num.C0 i.den z rfl;omega)) ⟨t2,t2,trivial⟩ ?_;try conv=>cbv
    refine g2 rfl ?_;obtain⟨ai,ay,B⟩:=Ac ((p.den:Int)*q.den);refine cL h (DC i.den g.den B (by omega) (by omega)) ⟨t2,t2,trivial⟩ ?_;try conv=>cbv
    refine g2 rfl ?_;have H:=RE p q (by have:=of_decide_eq_true v.symm;omega);exact fA ⟨⟨rfl,congrArg _ ((A.uniq t.num (by rw[G];exact H.1.symm)).1.symm),congrArg _ ((A.uniq t.num (by rw[G];exact H.1.symm)).2.symm),congrArg _ ((B.uniq t.den (by rw[G];exact H.2.symm)).1.symm),congrArg _ ((B.uniq t.den (by rw[G];exact H.2.symm)).2.symm),trivial⟩,trivial⟩ rfl (by simp)
   obtain⟨aI,I⟩:=xB (decide ((q.den:Int)=1));refine cL h (Hm g.den I) ⟨t2,trivial⟩ ?_;try conv=>cbv
   cases aI <;> conv=>cbv
   ·obtain⟨af,av,d⟩:=Ac (((Nat.gcd p.den q.den:Nat):Int));refine cL h (F4 i.den g.den d (by omega) (by omega)) ⟨t2,t2,trivial⟩ ?_;try conv=>cbv
    have a5:=FI (x:=0) X g.den d;obtain⟨V,v⟩:=xB (decide (((Nat.gcd p.den q.den:Nat):Int)=1));refine cL h (Hm d v) ⟨t2,trivial⟩ ?_;try conv=>cbv
    cases V <;> conv=>cbv
    ·obtain⟨aj,az,f⟩:=Ac (x);refine cL h (Dc i.den d J T f (by omega) (by omega)) ⟨t2,t2,trivial⟩ ?_;try conv=>cbv
     have a6:=Ev i.den f J T;obtain⟨ak,aA,j⟩:=Ac (y);refine cL h (Dc g.den d J U j (by omega) (by omega)) ⟨t2,t2,trivial⟩ ?_;try conv=>cbv
     have a7:=Ev g.den j J U;refine g2 rfl ?_;obtain⟨al,aB,m⟩:=Ac (p.num*y);refine cL h (DC i.num j m (by omega) (by omega)) ⟨t2,t2,trivial⟩ ?_;try conv=>cbv
     have a8:=i.num.C0 j m rfl;obtain⟨an,aC,n⟩:=Ac (q.num*x);refine cL h (DC g.num f n (by omega) (by omega)) ⟨t2,t2,trivial⟩ ?_;try conv=>cbv
     have aa:=g.num.C0 f n rfl;obtain⟨ao,aD,o⟩:=Ac ((p.num*y+q.num*x));refine cL h (IS m n o (by omega) (by omega)) ⟨t2,t2,trivial⟩ ?_;try conv=>cbv
     have ab:=m.LF n o rfl (k:=8000000000000) (by omega) (by omega);refine g2 rfl ?_;obtain⟨P,R,s⟩:=Ac (((Nat.gcd (p.num*y+q.num*x).natAbs (Nat.gcd p.den q.den):Nat):Int));refine cL (r:= .agg [.bool P,.sl .u32 R]) h (F4 o d (by rw[Int.natAbs_natCast];exact s) (by omega) (by omega)) ⟨t2,t2,trivial⟩ ?_;try conv=>cbv
     have K:Nat.gcd p.den q.den≠0:=by omega
     have ad:=FI (x:=0) K d s;have W:(p.num*y+q.num*x)=(p.num*y+q.num*x)/((Nat.gcd (p.num*y+q.num*x).natAbs (Nat.gcd p.den q.den):Nat):Int)*((Nat.gcd (p.num*y+q.num*x).natAbs (Nat.gcd p.den q.den):Nat):Int):=(Dz K).1;have L:=Dp (a:=(p.num*y+q.num*x).natAbs) K;have M:(q.den:Int)=(q.den:Int)/((Nat.gcd (p.num*y+q.num*x).natAbs (Nat.gcd p.den q.den):Nat):Int)*((Nat.gcd (p.num*y+q.num*x).natAbs (Nat.gcd p.den q.den):Nat):Int):=(Int.ediv_mul_cancel (Int.natCast_dvd_natCast.2 (Nat.dvd_trans (Nat.gcd_dvd_right _ _) (Nat.gcd_dvd_right _ _)))).symm;obtain⟨aq,aE,C⟩:=Ac ((p.num*y+q.num*x)/((Nat.gcd (p.num*y+q.num*x).natAbs (Nat.gcd p.den q.den):Nat):Int));refine cL h (Dc o s L W C (by omega) (by omega)) ⟨t2,t2,trivial⟩ ?_;try conv=>cbv
     obtain⟨ar,aF,D⟩:=Ac ((q.den:Int)/((Nat.gcd (p.num*y+q.num*x).natAbs (Nat.gcd p.den q.den):Nat):Int));refine cL h (Dc g.den s L M D (by omega) (by omega)) ⟨t2,t2,trivial⟩ ?_;try conv=>cbv
     have ae:=Ev g.den D L M;obtain⟨au,aG,F⟩:=Ac (x*((q.den:Int)/((Nat.gcd (p.num*y+q.num*x).natAbs (Nat.gcd p.den q.den):Nat):Int)));refine cL h (DC f D F (by omega) (by omega)) ⟨t2,t2,trivial⟩ ?_;try conv=>cbv
     refine g2 rfl ?_;have H:=RF p q rfl (fun e=>by have:=of_decide_eq_false v.symm;omega) Y Z rfl rfl;exact fA ⟨⟨rfl,congrArg _ ((C.uniq t.num (by rw[G];exact H.1.symm)).1.symm),congrArg _ ((C.uniq t.num (by rw[G];exact H.1.symm)).2.symm),congrArg _ ((F.uniq t.den (by rw[G];exact H.2.symm)).1.symm),congrArg _ ((F.uniq t.den (by rw[G];exact H.2.symm)).2.symm),trivial⟩,trivial⟩ rfl (by simp)
    obtain⟨ag,aw,w⟩:=Ac (p.num*q.den);refine cL h (DC i.num g.den w (by omega) (by omega)) ⟨t2,t2,trivial⟩ ?_;try conv=>cbv
    obtain⟨ah,ax,z⟩:=Ac (q.num*p.den);refine cL h (DC g.num i.den z (by omega) (by omega)) ⟨t2,t2,trivial⟩ ?_;try conv=>cbv
    obtain⟨O,Q,A⟩:=Ac (p.num*q.den+q.num*p.den);refine cL (r:= .agg [.bool O,.sl .u32 Q]) h (IS w z A (by have:=i.num.C0 g.den w rfl;omega) (by have:=g.num.C0 i.den z rfl;omega)) ⟨t2,t2,trivial⟩ ?_;try conv=>cbv
    refine g2 rfl ?_;obtain⟨ai,ay,B⟩:=Ac ((p.den:Int)*q.den);refine cL h (DC i.den g.den B (by omega) (by omega)) ⟨t2,t2,trivial⟩ ?_;try conv=>cbv
    refine g2 rfl ?_;have H:=RE p q (by have:=of_decide_eq_true v.symm;omega);exact fA ⟨⟨rfl,congrArg _ ((A.uniq t.num (by rw[G];exact H.1.symm)).1.symm),congrArg _ ((A.uniq t.num (by rw[G];exact H.1.symm)).2.symm),congrArg _ ((B.uniq t.den (by rw[G];exact H.2.symm)).1.symm),congrArg _ ((B.uniq t.den (by rw[G];exact H.2.symm)).2.symm),trivial⟩,trivial⟩ rfl (by simp)
   obtain⟨aN,aO,N⟩:=Ac (p.num+q.num);refine cL h (IS i.num g.num N (by omega) (by omega)) ⟨t2,t2,trivial⟩ ?_;try conv=>cbv
   refine g2 rfl ?_;exact fA ⟨⟨rfl,congrArg _ ((N.uniq t.num (by rw[G];exact (G1 (of_decide_eq_true u.symm) (of_decide_eq_true I.symm)).1.symm)).1.symm),congrArg _ ((N.uniq t.num (by rw[G];exact (G1 (of_decide_eq_true u.symm) (of_decide_eq_true I.symm)).1.symm)).2.symm),congrArg _ ((i.den.uniq t.den (by rw[G,(G1 (of_decide_eq_true u.symm) (of_decide_eq_true I.symm)).2];exact of_decide_eq_true u.symm)).1.symm),congrArg _ ((i.den.uniq t.den (by rw[G,(G1 (of_decide_eq_true u.symm) (of_decide_eq_true I.symm)).2];exact of_decide_eq_true u.symm)).2.symm),trivial⟩,trivial⟩ rfl (by simp)
  have aK:=Av a2;have e0:q=0:=Rat.num_eq_zero.1 (g.num.Eb.1 (by omega));have S:r=p:=by rw[G,e0,Rat.add_zero]
  exact fA ⟨⟨rfl,congrArg _ ((i.num.uniq t.num (by rw[S])).1.symm),congrArg _ ((i.num.uniq t.num (by rw[S])).2.symm),congrArg _ ((i.den.uniq t.den (by rw[S])).1.symm),congrArg _ ((i.den.uniq t.den (by rw[S])).2.symm),trivial⟩,trivial⟩ rfl (by simp)
 have aJ:=Av a1;have e0:p=0:=Rat.num_eq_zero.1 (i.num.Eb.1 (by omega));have S:r=q:=by rw[G,e0,Rat.zero_add]
 exact fA ⟨⟨rfl,congrArg _ ((g.num.uniq t.num (by rw[S])).1.symm),congrArg _ ((g.num.uniq t.num (by rw[S])).2.symm),congrArg _ ((g.den.uniq t.den (by rw[S])).1.symm),congrArg _ ((g.den.uniq t.den (by rw[S])).2.symm),trivial⟩,trivial⟩ rfl (by simp)
theorem af {p:Rat} (h:p≠0):(1/p).num=(if p.num<0 then -(p.den:Int) else p.den)/\((1/p).den:Int)=if p.num<0 then -p.num else p.num:=by
 have f:p.num≠0:=mt Rat.num_eq_zero.1 h;have e:1/p=Rat.inv p:=by rw[Rat.div_def,Rat.one_mul];rfl
 rw[e];unfold Rat.inv
 split
 ·rename_i d;exact⟨rfl,by show ((p.num.natAbs:Nat):Int)=_;omega⟩
 rename_i d
 rw[dif_pos (by omega)];exact⟨rfl,by show ((p.num.natAbs:Nat):Int)=_;omega⟩
theorem Xi {p:Rat} (i:BM p b1 l1 b2 l2) (q:p≠0) (s:r=1/p) (j:BM r d1 k1 d2 k2):CF 247 [.agg [.bool b1,.sl .u32 l1,.bool b2,.sl .u32 l2]] (.agg [.bool d1,.sl .u32 k1,.bool d2,.sl .u32 k2]):=by
 obtain⟨f,d⟩:=af q;rw[<-s] at f d;refine AH Tryz.func247 (by kernel_rfl) rfl fun E m=>?_
 conv=>cbv
 cases b1 <;> conv=>cbv
 ·have h:=OR i.num rfl;exact fA ⟨⟨rfl,congrArg _ ((i.den.uniq j.num (by rw[f,if_neg h])).1.symm),congrArg _ ((i.den.uniq j.num (by rw[f,if_neg h])).2.symm),congrArg _ ((i.num.uniq j.den (by rw[d,if_neg h])).1.symm),congrArg _ ((i.num.uniq j.den (by rw[d,if_neg h])).2.symm),trivial⟩,trivial⟩ rfl (by simp)
 obtain⟨t,u,k⟩:=Ac (-(p.den:Int));refine cL m (Je i.den k) ⟨t2,trivial⟩ ?_;try conv=>cbv
 obtain⟨n,o,g⟩:=Ac (-p.num);refine cL m (Je i.num g) ⟨t2,trivial⟩ ?_;try conv=>cbv
 refine g2 rfl ?_;have h:=OS i.num rfl;exact fA ⟨⟨rfl,congrArg _ ((k.uniq j.num (by rw[f,if_pos h])).1.symm),congrArg _ ((k.uniq j.num (by rw[f,if_pos h])).2.symm),congrArg _ ((g.uniq j.den (by rw[d,if_pos h])).1.symm),congrArg _ ((g.uniq j.den (by rw[d,if_pos h])).2.symm),trivial⟩,trivial⟩ rfl (by simp)
theorem Xm {p:Rat} (f:BM p b1 l1 b2 l2) (s:Bj p):CF 316 [.agg [.bool b1,.sl .u32 l1,.bool b2,.sl .u32 l2]] (.one (.bool true)):=by
 have t:=f.small s;have q:=p.den_pos;refine AH Tryz.func316 (by kernel_rfl) rfl fun E h=>?_
 conv=>cbv
 refine cL h (Qw f.num) ⟨t2,trivial⟩ ?_;try conv=>cbv
 refine cL h (Qw f.den) ⟨t2,trivial⟩ ?_;try conv=>cbv
 obtain⟨o,i⟩:=xI ((1:Int));refine cL (r:= .one (.int .i64 o)) h (IT f.den (i.trans (by unfold Bu;rw[if_neg (by omega),if_neg (by omega)]))) ⟨t2,trivial⟩ ?_;try conv=>cbv
 intro n g;conv=>cbv
 cases n <;> conv=>cbv
 ·have j:=CA g;exact absurd j (by omega)
 have j:=CB g;obtain⟨k,m,d⟩:=Ac ((1:Int));refine cL (r:= .agg [.bool k,.sl .u32 m]) h (F4 f.num f.den (by rw[Int.natAbs_natCast,show Nat.gcd p.num.natAbs p.den=1 from p.reduced];exact d) (by omega) (by omega)) ⟨t2,t2,trivial⟩ ?_;try conv=>cbv
 refine cL h (Hm d rfl) ⟨t2,trivial⟩ ?_;try conv=>cbv
 exact fA ⟨t2,trivial⟩ rfl (by simp)
theorem Tw {d r:Int} (f:r=Bu d) (h:r<0):d<0:=by rcases Ee d with⟨a,e⟩ |⟨a,e⟩ |⟨a,e⟩ <;> omega
theorem Tx {d r:Int} (f:r=Bu d) (h:0<=r):¬d<0:=by rcases Ee d with⟨a,e⟩ |⟨a,e⟩ |⟨a,e⟩ <;> omega
theorem Lb {g:Int} (d:g≠0) (h:g∣x):x=Br x g*g:=by
 unfold Br
 split
 ·exact (Int.ediv_mul_cancel h).symm
 have:=Int.ediv_mul_cancel (a:= -x) (b:= -g) (Int.neg_dvd.2 (Int.dvd_neg.2 h));rw[Int.mul_neg] at this
 generalize -x/ -g*g=Q at*
 omega
theorem Ls (n d:Int):(if d<0 then -((Nat.gcd n.natAbs d.natAbs:Nat):Int) else ((Nat.gcd n.natAbs d.natAbs:Nat):Int))∣n/\(if d<0 then -((Nat.gcd n.natAbs d.natAbs:Nat):Int) else ((Nat.gcd n.natAbs d.natAbs:Nat):Int))∣d:=by
 have f:((Nat.gcd n.natAbs d.natAbs:Nat):Int)∣n:=Int.ofNat_dvd_left.2 (Nat.gcd_dvd_left _ _);have g:((Nat.gcd n.natAbs d.natAbs:Nat):Int)∣d:=Int.ofNat_dvd_left.2 (Nat.gcd_dvd_right _ _)
 split
 ·exact⟨Int.neg_dvd.2 f,Int.neg_dvd.2 g⟩
 exact⟨f,g⟩
theorem Xa {n d:Int} {q:Rat} (K:Ag n b1 l1) (v:Ag d b2 l2) (u:d≠0) (J:q=Rat.divInt n d) (w:BM q c1 m1 c2 m2) (s1:l1.length<=17592186042000) (s2:l2.length<=17592186042000):CF 260 [.agg [.bool b1,.sl .u32 l1],.agg [.bool b2,.sl .u32 l2]] (.agg [.bool c1,.sl .u32 m1,.bool c2,.sl .u32 m2]):=by
 refine AH Tryz.func260 (by kernel_rfl) rfl fun E z=>?_
 conv=>cbv
 obtain⟨M,N,k⟩:=Ac (((Nat.gcd n.natAbs d.natAbs:Nat):Int));refine cL z (F4 K v k (by omega) (by omega)) ⟨t2,t2,trivial⟩ ?_;try conv=>cbv
 obtain⟨O,i⟩:=xI (Bu d);refine cL z (IT v i) ⟨t2,trivial⟩ ?_;try conv=>cbv
 intro L C;conv=>cbv
 refine .inr ?_;cases L <;> conv=>cbv
 ·have m:=Ad C;obtain⟨o,s,f⟩:=Ac (Br n (if d<0 then -((Nat.gcd n.natAbs d.natAbs:Nat):Int) else ((Nat.gcd n.natAbs d.natAbs:Nat):Int)));have G:Ag (if d<0 then -((Nat.gcd n.natAbs d.natAbs:Nat):Int) else ((Nat.gcd n.natAbs d.natAbs:Nat):Int)) M N:=by rw[if_neg (Tx i m)];exact k
  have h:(if d<0 then -((Nat.gcd n.natAbs d.natAbs:Nat):Int) else ((Nat.gcd n.natAbs d.natAbs:Nat):Int))≠0:=by rw[if_neg (Tx i m)];have:=Lr (n:=n) u;omega
  have F:Br n (if d<0 then -((Nat.gcd n.natAbs d.natAbs:Nat):Int) else ((Nat.gcd n.natAbs d.natAbs:Nat):Int))=q.num:=by rw[J];exact (MA u).symm
  have D:Br d (if d<0 then -((Nat.gcd n.natAbs d.natAbs:Nat):Int) else ((Nat.gcd n.natAbs d.natAbs:Nat):Int))=(q.den:Int):=by rw[J];exact (L8 u).symm
  have B:n=Br n (if d<0 then -((Nat.gcd n.natAbs d.natAbs:Nat):Int) else ((Nat.gcd n.natAbs d.natAbs:Nat):Int))*(if d<0 then -((Nat.gcd n.natAbs d.natAbs:Nat):Int) else ((Nat.gcd n.natAbs d.natAbs:Nat):Int)):=Lb h (Ls n d).1;have A:d=Br d (if d<0 then -((Nat.gcd n.natAbs d.natAbs:Nat):Int) else ((Nat.gcd n.natAbs d.natAbs:Nat):Int))*(if d<0 then -((Nat.gcd n.natAbs d.natAbs:Nat):Int) else ((Nat.gcd n.natAbs d.natAbs:Nat):Int)):=Lb h (Ls n d).2;refine cL (r:= .agg [.bool o,.sl .u32 s]) z (Dc K G h (B) f (by omega) (by have:=J3 u v k;omega)) ⟨t2,t2,trivial⟩ ?_;try conv=>cbv
  obtain⟨p,t,g⟩:=Ac (Br d (if d<0 then -((Nat.gcd n.natAbs d.natAbs:Nat):Int) else ((Nat.gcd n.natAbs d.natAbs:Nat):Int)));refine cL (r:= .agg [.bool p,.sl .u32 t]) z (Dc v G h (A) g (by omega) (by have:=J3 u v k;omega)) ⟨t2,t2,trivial⟩ ?_;try conv=>cbv
  refine g2 rfl ?_;exact fA ⟨⟨rfl,congrArg _ ((f.uniq w.num F).1.symm),congrArg _ ((f.uniq w.num F).2.symm),congrArg _ ((g.uniq w.den D).1.symm),congrArg _ ((g.uniq w.den D).2.symm),trivial⟩,trivial⟩ rfl (by simp)
 have m:=Ae C;obtain⟨H,I,j⟩:=Ac (-((Nat.gcd n.natAbs d.natAbs:Nat):Int));refine cL z (Je k j) ⟨t2,trivial⟩ ?_;try conv=>cbv
 obtain⟨o,s,f⟩:=Ac (Br n (if d<0 then -((Nat.gcd n.natAbs d.natAbs:Nat):Int) else ((Nat.gcd n.natAbs d.natAbs:Nat):Int)));have G:Ag (if d<0 then -((Nat.gcd n.natAbs d.natAbs:Nat):Int) else ((Nat.gcd n.natAbs d.natAbs:Nat):Int)) H I:=by rw[if_pos (Tw i m)];exact j
 have h:(if d<0 then -((Nat.gcd n.natAbs d.natAbs:Nat):Int) else ((Nat.gcd n.natAbs d.natAbs:Nat):Int))≠0:=by rw[if_pos (Tw i m)];have:=Lr (n:=n) u;omega
 have F:Br n (if d<0 then -((Nat.gcd n.natAbs d.natAbs:Nat):Int) else ((Nat.gcd n.natAbs d.natAbs:Nat):Int))=q.num:=by rw[J];exact (MA u).symm
 have D:Br d (if d<0 then -((Nat.gcd n.natAbs d.natAbs:Nat):Int) else ((Nat.gcd n.natAbs d.natAbs:Nat):Int))=(q.den:Int):=by rw[J];exact (L8 u).symm
 have B:n=Br n (if d<0 then -((Nat.gcd n.natAbs d.natAbs:Nat):Int) else ((Nat.gcd n.natAbs d.natAbs:Nat):Int))*(if d<0 then -((Nat.gcd n.natAbs d.natAbs:Nat):Int) else ((Nat.gcd n.natAbs d.natAbs:Nat):Int)):=Lb h (Ls n d).1;have A:d=Br d (if d<0 then -((Nat.gcd n.natAbs d.natAbs:Nat):Int) else ((Nat.gcd n.natAbs d.natAbs:Nat):Int))*(if d<0 then -((Nat.gcd n.natAbs d.natAbs:Nat):Int) else ((Nat.gcd n.natAbs d.natAbs:Nat):Int)):=Lb h (Ls n d).2;refine cL (r:= .agg [.bool o,.sl .u32 s]) z (Dc K G h (B) f (by omega) (by have:=Lq u v j;omega)) ⟨t2,t2,trivial⟩ ?_;try conv=>cbv
 obtain⟨p,t,g⟩:=Ac (Br d (if d<0 then -((Nat.gcd n.natAbs d.natAbs:Nat):Int) else ((Nat.gcd n.natAbs d.natAbs:Nat):Int)));refine cL (r:= .agg [.bool p,.sl .u32 t]) z (Dc v G h (A) g (by omega) (by have:=Lq u v j;omega)) ⟨t2,t2,trivial⟩ ?_;try conv=>cbv
 refine g2 rfl ?_;exact fA ⟨⟨rfl,congrArg _ ((f.uniq w.num F).1.symm),congrArg _ ((f.uniq w.num F).2.symm),congrArg _ ((g.uniq w.den D).1.symm),congrArg _ ((g.uniq w.den D).2.symm),trivial⟩,trivial⟩ rfl (by simp)
theorem NK {n d:Int} {q:Rat} (m: -9223372036854775808<=n/\n<9223372036854775808) (k: -9223372036854775808<=d/\d<9223372036854775808) (i:d≠0) (t:q=Rat.divInt n d) (u:BM q c1 m1 c2 m2):CF 201 [.one (.int .i64 n),.one (.int .i64 d)] (.agg [.bool c1,.sl .u32 m1,.bool c2,.sl .u32 m2]):=by
 refine AH Tryz.func201 (by kernel_rfl) rfl fun E h=>?_
 conv=>cbv
 intro v j;conv=>cbv
 cases v <;> conv=>cbv
 ·have o:=Au j;obtain⟨w,z,g⟩:=Ac (n);refine cL h (K5 m g) t1 ?_;try conv=>cbv
  obtain⟨p,s,f⟩:=Ac (d);refine cL h (K5 k f) t1 ?_;try conv=>cbv
  refine cL (r:= .agg [.bool c1,.sl .u32 m1,.bool c2,.sl .u32 m2]) h (Xa g f i t u (by have:=M3 m g;omega) (by have:=M3 k f;omega)) ⟨t2,t2,trivial⟩ ?_;try conv=>cbv
  exact fA ⟨⟨rfl,rfl,rfl,rfl,rfl,trivial⟩,trivial⟩ rfl (by simp)
 have o:=Av j;exact absurd o i
end Go.Abs
