/- Part 28 of a proof. Conditions: each theorem's own. -/
import Derived.Test.YtoonaidhfikkeaaGreatPk23
import Derived.Test.YtoonaidhfikkeaaGreatPk24
set_option linter.all false
set_option maxHeartbeats 8000000
open Go.Proofs
namespace Go.Abs
open Go.RowKit
variable {a b:Nat} {b1 b2 c c1 c2 d1 d2:Bool} {k1 k2 l l' l1 l2 m1 m2:List UInt32} {r:Rat} {x y:Int}
theorem KS (p q:Rat):(p*q).num=(p.num/((Nat.gcd p.num.natAbs q.den:Nat):Int))*(q.num/((Nat.gcd q.num.natAbs p.den:Nat):Int)):=by
 show (Rat.mul p q).num=_
 unfold Rat.mul
 dsimp only
 rw[Int.divExact_eq_ediv,Int.divExact_eq_ediv]
theorem KR (p q:Rat):((p*q).den:Int)=((p.den:Int)/((Nat.gcd q.num.natAbs p.den:Nat):Int))*((q.den:Int)/((Nat.gcd p.num.natAbs q.den:Nat):Int)):=by
 have:(p*q).den=(p.den/Nat.gcd q.num.natAbs p.den)*(q.den/Nat.gcd p.num.natAbs q.den):=by
  show (Rat.mul p q).den=_
  unfold Rat.mul
  dsimp only
  rw[Nat.divExact_eq_div,Nat.divExact_eq_div]
 rw[this,Int.natCast_mul,Int.natCast_ediv,Int.natCast_ediv]
theorem O3 (p q:Rat) (h:Nat.gcd p.den q.den=1):(p+q).num=p.num*q.den+q.num*p.den/\((p+q).den:Int)=(p.den:Int)*q.den:=by
 have:(p+q)=Rat.add p q:=rfl;rw[this];unfold Rat.add
 dsimp only
 rw[dif_pos h];exact⟨rfl,by rw[Int.natCast_mul]⟩
theorem O4 (p q:Rat) {g h:Nat} {N:Int} (i:g=Nat.gcd p.den q.den) (m:g≠1) (s:x=(p.den:Int)/g) (t:y=(q.den:Int)/g) (n:N=p.num*y+q.num*x) (k:h=Nat.gcd N.natAbs g):
  (p+q).num=N/h/\((p+q).den:Int)=x*((q.den:Int)/h):=by
 have e:(p+q)=Rat.add p q:=rfl;have d:x=((p.den/g:Nat):Int):=by rw[s,Int.natCast_ediv]
 have j:y=((q.den/g:Nat):Int):=by rw[t,Int.natCast_ediv]
 have f:p.num*((q.den/Nat.gcd p.den q.den:Nat):Int)+q.num*((p.den/Nat.gcd p.den q.den:Nat):Int)=N:=by rw[n,d,j,i]
 have o:h∣q.den:=by rw[k];exact Nat.dvd_trans (Nat.gcd_dvd_right _ _) (by rw[i];exact Nat.gcd_dvd_right _ _)
 subst i;rw[e];unfold Rat.add
 dsimp only
 rw[dif_neg m,Rat.maybeNormalize_eq]
 dsimp only
 rw[Int.divExact_eq_ediv,f,<-k];refine⟨rfl,?_⟩;rw[d,Nat.mul_div_assoc _ o,Int.natCast_mul,Int.natCast_ediv (q.den)]
theorem DD {a:Int} (hb:b≠0):a=a/((Nat.gcd a.natAbs b:Nat):Int)*((Nat.gcd a.natAbs b:Nat):Int)/\(b:Int)=(b:Int)/((Nat.gcd a.natAbs b:Nat):Int)*((Nat.gcd a.natAbs b:Nat):Int):=by
 exact⟨(Int.ediv_mul_cancel (Int.ofNat_dvd_left.2 (Nat.gcd_dvd_left _ _))).symm,(Int.ediv_mul_cancel (Int.natCast_dvd_natCast.2 (Nat.gcd_dvd_right _ _))).symm⟩
theorem C5 (hb:b≠0):((Nat.gcd a b:Nat):Int)≠0:=by
 have:=Nat.gcd_pos_of_pos_right a (n:=b) (by omega);omega
theorem D5 {q:Int} {b b':Bool} (f:AT x b l) (d:AT q b' l') (g:y≠0) (h:x=q*y):l'.length<=l.length:=by
 rw[f.An,d.An];exact Cp (by rw[h,Int.natAbs_mul];exact Nat.le_mul_of_pos_right _ (by omega))
theorem ES {x:Int} {d:Bool} (hb:b≠0) (h:AT (b:Int) c l) (h':AT ((Nat.gcd a b:Nat):Int) d l'):l'.length<=l.length:=by
 rw[h.An,h'.An,Int.natAbs_natCast,Int.natAbs_natCast];exact Cp (Nat.le_of_dvd (by omega) (Nat.gcd_dvd_right _ _))
theorem Gf {b:Bool} (h:AT x b l) (k:c=decide (x=1)):CF 190 [.agg [.bool b,.sl .u32 l]] (.one (.bool c)):=by
 refine AE Tryz.func190 (by kernel_rfl) rfl fun E z=>?_
 conv=>cbv
 rintro A ⟨w,f5⟩;conv=>cbv
 intro v p;conv=>cbv
 cases v <;> conv=>cbv
 ·have s:=Ab p;exact fA ⟨⟨rfl,congrArg _ (by rw[k];exact (RZ h (by omega)).symm),trivial⟩,trivial⟩ rfl (by simp)
 have s:=Ad p;obtain⟨o,d⟩:=AG (l:=l) (i:=0) (by omega);refine⟨o,fun _=>⟨by omega,d⟩,?_⟩;try conv=>cbv
 intro t f;have q:=f.eq;have f11:=f.lt;conv=>cbv
 intro n g;conv=>cbv
 cases n <;> conv=>cbv
 ·have m:=Ab g;exact fA ⟨⟨rfl,congrArg _ (by rw[k];cases b with | true=>exact (M4 h rfl).symm | false=>rw[<-M6 h rfl (by omega) d];simp only[decide_eq_false_iff_not];omega),trivial⟩,trivial⟩ rfl (by simp)
 have m:=Ad g;intro u j;conv=>cbv
 exact fA ⟨⟨rfl,congrArg _ (by rw[k,j];cases b with | true=>exact (M4 h rfl).symm | false=>rw[<-M6 h rfl (by omega) d];simp;omega),trivial⟩,trivial⟩ rfl (by simp)
theorem Cy {q:Int} {b3:Bool} {l3:List UInt32} (i:AT x b1 l1) (j:AT y b2 l2) (f:y≠0) (d:x=q*y) (h:AT q b3 l3) (s1:l1.length<=17592186043000) (s2:l2.length<=17592186043000):CF 193 [.agg [.bool b1,.sl .u32 l1],.agg [.bool b2,.sl .u32 l2]] (.agg [.bool b3,.sl .u32 l3]):=by
 refine AE Tryz.func193 (by kernel_rfl) rfl fun E g=>?_
 conv=>cbv
 refine cL g (Uc i j f d h s1 s2) ⟨t2,t2,trivial⟩ ?_;try conv=>cbv
 exact fA ⟨t3,trivial⟩ rfl (by simp)
theorem DI {q:Rat} (j: -9223372036854775808<=x/\x<9223372036854775808) (g:q=(x:Rat)) (h:Ap q c1 m1 c2 m2):CF 109 [.one (.int .i64 x)] (.agg [.bool c1,.sl .u32 m1,.bool c2,.sl .u32 m2]):=by
 refine AE Tryz.func109 (by kernel_rfl) rfl fun E i=>?_
 conv=>cbv
 obtain⟨k,n,d⟩:=AP (x);refine cL i (JM j d) t1 ?_;try conv=>cbv
 obtain⟨m,o,f⟩:=AP (1);refine cL i (JM (by omega) f) t1 ?_;try conv=>cbv
 exact fA ⟨⟨rfl,congrArg _ ((d.uniq h.num (by rw[g];rfl)).1.symm),congrArg _ ((d.uniq h.num (by rw[g];rfl)).2.symm),congrArg _ ((f.uniq h.den (by rw[g];rfl)).1.symm),congrArg _ ((f.uniq h.den (by rw[g];rfl)).2.symm),trivial⟩,trivial⟩ rfl (by simp)
theorem Oc {q:Rat} {c:Int} (h:Ap q b1 l1 b2 l2) (g:c=C0 q):CF 183 [.agg [.bool b1,.sl .u32 l1,.bool b2,.sl .u32 l2]] (.one (.int .i64 c)):=by
 refine AE Tryz.func183 (by kernel_rfl) rfl fun E f=>?_
 conv=>cbv
 obtain⟨i,d⟩:=xI (BR q.num);refine cL f (G9 h.num d) ⟨t2,trivial⟩ ?_;try conv=>cbv
 exact fA ⟨⟨rfl,congrArg _ (by rw[g,d];rfl),trivial⟩,trivial⟩ rfl (by simp)
theorem Ob {q p:Rat} (h:Ap q b1 l1 b2 l2) (f:p= -q) (g:Ap p c1 m1 c2 m2):CF 142 [.agg [.bool b1,.sl .u32 l1,.bool b2,.sl .u32 l2]] (.agg [.bool c1,.sl .u32 m1,.bool c2,.sl .u32 m2]):=by
 refine AE Tryz.func142 (by kernel_rfl) rfl fun E i=>?_
 conv=>cbv
 obtain⟨j,k,d⟩:=AP (-q.num);refine cL i (IB h.num d) ⟨t2,trivial⟩ ?_;try conv=>cbv
 refine g2 rfl ?_;exact fA ⟨⟨rfl,congrArg _ ((d.uniq g.num (by rw[f];rfl)).1.symm),congrArg _ ((d.uniq g.num (by rw[f];rfl)).2.symm),congrArg _ ((h.den.uniq g.den (by rw[f];rfl)).1.symm),congrArg _ ((h.den.uniq g.den (by rw[f];rfl)).2.symm),trivial⟩,trivial⟩ rfl (by simp)
theorem Uq {p q:Rat} {c:Int} (f:Ap p b1 l1 b2 l2) (g:Ap q c1 m1 c2 m2) (j:BK p) (ht:BK q) (u:c=EO p q):CF 261 [.agg [.bool b1,.sl .u32 l1,.bool b2,.sl .u32 l2],.agg [.bool c1,.sl .u32 m1,.bool c2,.sl .u32 m2]] (.one (.int .i64 c)):=by
 refine AE Tryz.func261 (by kernel_rfl) rfl fun E n=>?_
 conv=>cbv
 obtain⟨s,t,i⟩:=AP (p.num*q.den);refine cL (r:= .agg [.bool s,.sl .u32 t]) n (CW f.num g.den i (by have:=f.small j;have:=g.small ht;omega) (by have:=f.small j;have:=g.small ht;omega)) ⟨t2,t2,trivial⟩ ?_;try conv=>cbv
 obtain⟨k,m,d⟩:=AP (q.num*p.den);refine cL (r:= .agg [.bool k,.sl .u32 m]) n (CW g.num f.den d (by have:=f.small j;have:=g.small ht;omega) (by have:=f.small j;have:=g.small ht;omega)) ⟨t2,t2,trivial⟩ ?_;try conv=>cbv
 obtain⟨o,h⟩:=xI (Ax (p.num*q.den) (q.num*p.den));refine cL (r:= .one (.int .i64 o)) n (Ub i d h (by have:=f.small j;have:=g.small ht;have:=f.num.CK g.den i rfl;omega) (by have:=f.small j;have:=g.small ht;have:=g.num.CK f.den d rfl;omega)) ⟨t2,t2,trivial⟩ ?_;try conv=>cbv
 refine g2 rfl ?_;exact fA ⟨⟨rfl,congrArg _ (by rw[u,h,Pq]),trivial⟩,trivial⟩ rfl (by simp)
theorem Us {p q:Rat} (k:Ap p b1 l1 b2 l2) (w:Ap q c1 m1 c2 m2) (hs:BK p) (ht:BK q) (B:r=p*q) (z:Ap r d1 k1 d2 k2):CF 144 [.agg [.bool b1,.sl .u32 l1,.bool b2,.sl .u32 l2],.agg [.bool c1,.sl .u32 m1,.bool c2,.sl .u32 m2]] (.agg [.bool d1,.sl .u32 k1,.bool d2,.sl .u32 k2]):=by
 have af:=k.small hs;have ag:=w.small ht;have d:=p.den_nz;have f:=q.den_nz;refine AE Tryz.func144 (by kernel_rfl) rfl fun E v=>?_
 conv=>cbv
 rintro ah ⟨ad,f10⟩;conv=>cbv
 intro a7 U;conv=>cbv
 cases a7 <;> conv=>cbv
 ·have a5:=Ab U;rintro ai ⟨ae,f16⟩;conv=>cbv
  intro a8 V;conv=>cbv
  cases a8 <;> conv=>cbv
  ·have a6:=Ab V;obtain⟨a1,j⟩:=xB (decide ((p.den:Int)=1));refine cL v (Gf k.den j) ⟨t2,trivial⟩ ?_;try conv=>cbv
   cases a1 <;> conv=>cbv
   ·obtain⟨W,Y,h⟩:=AP (((Nat.gcd p.num.natAbs q.den:Nat):Int));refine cL v (FD k.num w.den h (by omega) (by omega)) ⟨t2,t2,trivial⟩ ?_;try conv=>cbv
    obtain⟨X,Z,i⟩:=AP (((Nat.gcd q.num.natAbs p.den:Nat):Int));refine cL v (FD w.num k.den i (by omega) (by omega)) ⟨t2,t2,trivial⟩ ?_;try conv=>cbv
    refine g2 rfl ?_;obtain⟨H,O,m⟩:=AP (p.num/((Nat.gcd p.num.natAbs q.den:Nat):Int));refine cL (r:= .agg [.bool H,.sl .u32 O]) v (Cy k.num h (C5 f) (DD f).1 m (by omega) (by have:=ES (x:=0) f w.den h;omega)) ⟨t2,t2,trivial⟩ ?_;try conv=>cbv
    obtain⟨I,P,n⟩:=AP (q.num/((Nat.gcd q.num.natAbs p.den:Nat):Int));refine cL (r:= .agg [.bool I,.sl .u32 P]) v (Cy w.num i (C5 d) (DD d).1 n (by omega) (by have:=ES (x:=0) d k.den i;omega)) ⟨t2,t2,trivial⟩ ?_;try conv=>cbv
    obtain⟨J,Q,o⟩:=AP ((p.num/((Nat.gcd p.num.natAbs q.den:Nat):Int))*(q.num/((Nat.gcd q.num.natAbs p.den:Nat):Int)));refine cL (r:= .agg [.bool J,.sl .u32 Q]) v (CW m n o (by have:=D5 k.num m (C5 f) (DD f).1;omega) (by have:=D5 w.num n (C5 d) (DD d).1;omega)) ⟨t2,t2,trivial⟩ ?_;try conv=>cbv
    obtain⟨K,R,s⟩:=AP ((p.den:Int)/((Nat.gcd q.num.natAbs p.den:Nat):Int));refine cL (r:= .agg [.bool K,.sl .u32 R]) v (Cy k.den i (C5 d) (DD d).2 s (by omega) (by have:=ES (x:=0) d k.den i;omega)) ⟨t2,t2,trivial⟩ ?_;try conv=>cbv
    obtain⟨L,S,t⟩:=AP ((q.den:Int)/((Nat.gcd p.num.natAbs q.den:Nat):Int));refine cL (r:= .agg [.bool L,.sl .u32 S]) v (Cy w.den h (C5 f) (DD f).2 t (by omega) (by have:=ES (x:=0) f w.den h;omega)) ⟨t2,t2,trivial⟩ ?_;try conv=>cbv
    obtain⟨M,T,u⟩:=AP (((p.den:Int)/((Nat.gcd q.num.natAbs p.den:Nat):Int))*((q.den:Int)/((Nat.gcd p.num.natAbs q.den:Nat):Int)));refine cL (r:= .agg [.bool M,.sl .u32 T]) v (CW s t u (by have:=D5 k.den s (C5 d) (DD d).2;omega) (by have:=D5 w.den t (C5 f) (DD f).2;omega)) ⟨t2,t2,trivial⟩ ?_;try conv=>cbv
    refine g2 rfl ?_;exact fA ⟨⟨rfl,congrArg _ ((o.uniq z.num (by rw[B,KS])).1.symm),congrArg _ ((o.uniq z.num (by rw[B,KS])).2.symm),congrArg _ ((u.uniq z.den (by rw[B,KR])).1.symm),congrArg _ ((u.uniq z.den (by rw[B,KR])).2.symm),trivial⟩,trivial⟩ rfl (by simp)
   obtain⟨a2,A⟩:=xB (decide ((q.den:Int)=1));refine cL v (Gf w.den A) ⟨t2,trivial⟩ ?_;try conv=>cbv
   cases a2 <;> conv=>cbv
   ·obtain⟨W,Y,h⟩:=AP (((Nat.gcd p.num.natAbs q.den:Nat):Int));refine cL v (FD k.num w.den h (by omega) (by omega)) ⟨t2,t2,trivial⟩ ?_;try conv=>cbv
    obtain⟨X,Z,i⟩:=AP (((Nat.gcd q.num.natAbs p.den:Nat):Int));refine cL v (FD w.num k.den i (by omega) (by omega)) ⟨t2,t2,trivial⟩ ?_;try conv=>cbv
    refine g2 rfl ?_;obtain⟨H,O,m⟩:=AP (p.num/((Nat.gcd p.num.natAbs q.den:Nat):Int));refine cL (r:= .agg [.bool H,.sl .u32 O]) v (Cy k.num h (C5 f) (DD f).1 m (by omega) (by have:=ES (x:=0) f w.den h;omega)) ⟨t2,t2,trivial⟩ ?_;try conv=>cbv
    obtain⟨I,P,n⟩:=AP (q.num/((Nat.gcd q.num.natAbs p.den:Nat):Int));refine cL (r:= .agg [.bool I,.sl .u32 P]) v (Cy w.num i (C5 d) (DD d).1 n (by omega) (by have:=ES (x:=0) d k.den i;omega)) ⟨t2,t2,trivial⟩ ?_;try conv=>cbv
    obtain⟨J,Q,o⟩:=AP ((p.num/((Nat.gcd p.num.natAbs q.den:Nat):Int))*(q.num/((Nat.gcd q.num.natAbs p.den:Nat):Int)));refine cL (r:= .agg [.bool J,.sl .u32 Q]) v (CW m n o (by have:=D5 k.num m (C5 f) (DD f).1;omega) (by have:=D5 w.num n (C5 d) (DD d).1;omega)) ⟨t2,t2,trivial⟩ ?_;try conv=>cbv
    obtain⟨K,R,s⟩:=AP ((p.den:Int)/((Nat.gcd q.num.natAbs p.den:Nat):Int));refine cL (r:= .agg [.bool K,.sl .u32 R]) v (Cy k.den i (C5 d) (DD d).2 s (by omega) (by have:=ES (x:=0) d k.den i;omega)) ⟨t2,t2,trivial⟩ ?_;try conv=>cbv
    obtain⟨L,S,t⟩:=AP ((q.den:Int)/((Nat.gcd p.num.natAbs q.den:Nat):Int));refine cL (r:= .agg [.bool L,.sl .u32 S]) v (Cy w.den h (C5 f) (DD f).2 t (by omega) (by have:=ES (x:=0) f w.den h;omega)) ⟨t2,t2,trivial⟩ ?_;try conv=>cbv
    obtain⟨M,T,u⟩:=AP (((p.den:Int)/((Nat.gcd q.num.natAbs p.den:Nat):Int))*((q.den:Int)/((Nat.gcd p.num.natAbs q.den:Nat):Int)));refine cL (r:= .agg [.bool M,.sl .u32 T]) v (CW s t u (by have:=D5 k.den s (C5 d) (DD d).2;omega) (by have:=D5 w.den t (C5 f) (DD f).2;omega)) ⟨t2,t2,trivial⟩ ?_;try conv=>cbv
    refine g2 rfl ?_;exact fA ⟨⟨rfl,congrArg _ ((o.uniq z.num (by rw[B,KS])).1.symm),congrArg _ ((o.uniq z.num (by rw[B,KS])).2.symm),congrArg _ ((u.uniq z.den (by rw[B,KR])).1.symm),congrArg _ ((u.uniq z.den (by rw[B,KR])).2.symm),trivial⟩,trivial⟩ rfl (by simp)
   obtain⟨aa,ab,C⟩:=AP (p.num*q.num);refine cL v (CW k.num w.num C (by omega) (by omega)) ⟨t2,t2,trivial⟩ ?_;try conv=>cbv
   refine g2 rfl ?_;exact fA ⟨⟨rfl,congrArg _ ((C.uniq z.num (by rw[B];exact (mul_ones (of_decide_eq_true j.symm) (of_decide_eq_true A.symm)).1.symm)).1.symm),congrArg _ ((C.uniq z.num (by rw[B];exact (mul_ones (of_decide_eq_true j.symm) (of_decide_eq_true A.symm)).1.symm)).2.symm),congrArg _ ((k.den.uniq z.den (by rw[B,(mul_ones (of_decide_eq_true j.symm) (of_decide_eq_true A.symm)).2];exact of_decide_eq_true j.symm)).1.symm),congrArg _ ((k.den.uniq z.den (by rw[B,(mul_ones (of_decide_eq_true j.symm) (of_decide_eq_true A.symm)).2];exact of_decide_eq_true j.symm)).2.symm),trivial⟩,trivial⟩ rfl (by simp)
  have a6:=Ad V;obtain⟨G,N,D,F,g⟩:=BD (r);refine cL (r:= .agg [.bool G,.sl .u32 N,.bool D,.sl .u32 F]) v (DI (x:=0) (by omega) (by rw[B];first | (rw[Rat.num_eq_zero.1 (k.num.Dm.1 (by omega)),Rat.zero_mul];rfl) | (rw[Rat.num_eq_zero.1 (w.num.Dm.1 (by omega)),Rat.mul_zero];rfl)) g) t1 ?_;try conv=>cbv
  exact fA ⟨⟨rfl,congrArg _ ((g.uniq z rfl).1.1.symm),congrArg _ ((g.uniq z rfl).1.2.symm),congrArg _ ((g.uniq z rfl).2.1.symm),congrArg _ ((g.uniq z rfl).2.2.symm),trivial⟩,trivial⟩ rfl (by simp)
 have a5:=Ad U;obtain⟨G,N,D,F,g⟩:=BD (r);refine cL (r:= .agg [.bool G,.sl .u32 N,.bool D,.sl .u32 F]) v (DI (x:=0) (by omega) (by rw[B];first | (rw[Rat.num_eq_zero.1 (k.num.Dm.1 (by omega)),Rat.zero_mul];rfl) | (rw[Rat.num_eq_zero.1 (w.num.Dm.1 (by omega)),Rat.mul_zero];rfl)) g) t1 ?_;try conv=>cbv
 exact fA ⟨⟨rfl,congrArg _ ((g.uniq z rfl).1.1.symm),congrArg _ ((g.uniq z rfl).1.2.symm),congrArg _ ((g.uniq z rfl).2.1.symm),congrArg _ ((g.uniq z rfl).2.2.symm),trivial⟩,trivial⟩ rfl (by simp)
theorem Oa {p q:Rat} (i:Ap p b1 l1 b2 l2) (g:Ap q c1 m1 c2 m2) (hs:BK p) (ht:BK q) (G:r=p+q) (t:Ap r d1 k1 d2 k2):CF 194 [.agg [.bool b1,.sl .u32 l1,.bool b2,.sl .u32 l2],.agg [.bool c1,.sl .u32 m1,.bool c2,.sl .u32 m2]] (.agg [.bool d1,.sl .u32 k1,.bool d2,.sl .u32 k2]):=by
 have aS:=i.small hs;have aT:=g.small ht;have aR:=p.den_nz;have X:=q.den_nz;have J:((Nat.gcd p.den q.den:Nat):Int)≠0:=C5 X;obtain⟨x,Y⟩:=xI ((p.den:Int)/((Nat.gcd p.den q.den:Nat):Int));obtain⟨y,Z⟩:=xI ((q.den:Int)/((Nat.gcd p.den q.den:Nat):Int));have T:(p.den:Int)=x*((Nat.gcd p.den q.den:Nat):Int):=by rw[Y];exact (Int.ediv_mul_cancel (Int.natCast_dvd_natCast.2 (Nat.gcd_dvd_left _ _))).symm
 have U:(q.den:Int)=y*((Nat.gcd p.den q.den:Nat):Int):=by rw[Z];exact (Int.ediv_mul_cancel (Int.natCast_dvd_natCast.2 (Nat.gcd_dvd_right _ _))).symm
 refine AE Tryz.func194 (by kernel_rfl) rfl fun E h=>?_
 conv=>cbv
 rintro aU ⟨aP,f14⟩;conv=>cbv
 intro aL a1;conv=>cbv
 cases aL <;> conv=>cbv
 ·have aJ:=Ab a1;rintro aV ⟨aQ,f20⟩;conv=>cbv
  intro aM a2;conv=>cbv
  cases aM <;> conv=>cbv
  ·have aK:=Ab a2;obtain⟨aH,u⟩:=xB (decide ((p.den:Int)=1));refine cL h (Gf i.den u) ⟨t2,trivial⟩ ?_;try conv=>cbv
   cases aH <;> conv=>cbv
   ·obtain⟨af,av,d⟩:=AP (((Nat.gcd p.den q.den:Nat):Int));refine cL h (FD i.den g.den d (by omega) (by omega)) ⟨t2,t2,trivial⟩ ?_;try conv=>cbv
    have a5:=ES (x:=0) X g.den d;obtain⟨V,v⟩:=xB (decide (((Nat.gcd p.den q.den:Nat):Int)=1));refine cL h (Gf d v) ⟨t2,trivial⟩ ?_;try conv=>cbv
    cases V <;> conv=>cbv
    ·obtain⟨aj,az,f⟩:=AP (x);refine cL h (Cy i.den d J T f (by omega) (by omega)) ⟨t2,t2,trivial⟩ ?_;try conv=>cbv
     have a6:=D5 i.den f J T;obtain⟨ak,aA,j⟩:=AP (y);refine cL h (Cy g.den d J U j (by omega) (by omega)) ⟨t2,t2,trivial⟩ ?_;try conv=>cbv
     have a7:=D5 g.den j J U;refine g2 rfl ?_;obtain⟨al,aB,m⟩:=AP (p.num*y);refine cL h (CW i.num j m (by omega) (by omega)) ⟨t2,t2,trivial⟩ ?_;try conv=>cbv
     have a8:=i.num.CK j m rfl;obtain⟨an,aC,n⟩:=AP (q.num*x);refine cL h (CW g.num f n (by omega) (by omega)) ⟨t2,t2,trivial⟩ ?_;try conv=>cbv
     have aa:=g.num.CK f n rfl;obtain⟨ao,aD,o⟩:=AP ((p.num*y+q.num*x));refine cL h (G8 m n o (by omega) (by omega)) ⟨t2,t2,trivial⟩ ?_;try conv=>cbv
     have ab:=m.JU n o rfl (k:=8000000000000) (by omega) (by omega);refine g2 rfl ?_;obtain⟨P,R,s⟩:=AP (((Nat.gcd (p.num*y+q.num*x).natAbs (Nat.gcd p.den q.den):Nat):Int));refine cL (r:= .agg [.bool P,.sl .u32 R]) h (FD o d (by rw[Int.natAbs_natCast];exact s) (by omega) (by omega)) ⟨t2,t2,trivial⟩ ?_;try conv=>cbv
     have K:Nat.gcd p.den q.den≠0:=by omega
     have ad:=ES (x:=0) K d s;have W:(p.num*y+q.num*x)=(p.num*y+q.num*x)/((Nat.gcd (p.num*y+q.num*x).natAbs (Nat.gcd p.den q.den):Nat):Int)*((Nat.gcd (p.num*y+q.num*x).natAbs (Nat.gcd p.den q.den):Nat):Int):=(DD K).1;have L:=C5 (a:=(p.num*y+q.num*x).natAbs) K;have M:(q.den:Int)=(q.den:Int)/((Nat.gcd (p.num*y+q.num*x).natAbs (Nat.gcd p.den q.den):Nat):Int)*((Nat.gcd (p.num*y+q.num*x).natAbs (Nat.gcd p.den q.den):Nat):Int):=(Int.ediv_mul_cancel (Int.natCast_dvd_natCast.2 (Nat.dvd_trans (Nat.gcd_dvd_right _ _) (Nat.gcd_dvd_right _ _)))).symm;obtain⟨aq,aE,C⟩:=AP ((p.num*y+q.num*x)/((Nat.gcd (p.num*y+q.num*x).natAbs (Nat.gcd p.den q.den):Nat):Int));refine cL h (Cy o s L W C (by omega) (by omega)) ⟨t2,t2,trivial⟩ ?_;try conv=>cbv
     obtain⟨ar,aF,D⟩:=AP ((q.den:Int)/((Nat.gcd (p.num*y+q.num*x).natAbs (Nat.gcd p.den q.den):Nat):Int));refine cL h (Cy g.den s L M D (by omega) (by omega)) ⟨t2,t2,trivial⟩ ?_;try conv=>cbv
     have ae:=D5 g.den D L M;obtain⟨au,aG,F⟩:=AP (x*((q.den:Int)/((Nat.gcd (p.num*y+q.num*x).natAbs (Nat.gcd p.den q.den):Nat):Int)));refine cL h (CW f D F (by omega) (by omega)) ⟨t2,t2,trivial⟩ ?_;try conv=>cbv
     refine g2 rfl ?_;have H:=O4 p q rfl (fun e=>by have:=of_decide_eq_false v.symm;omega) Y Z rfl rfl;exact fA ⟨⟨rfl,congrArg _ ((C.uniq t.num (by rw[G];exact H.1.symm)).1.symm),congrArg _ ((C.uniq t.num (by rw[G];exact H.1.symm)).2.symm),congrArg _ ((F.uniq t.den (by rw[G];exact H.2.symm)).1.symm),congrArg _ ((F.uniq t.den (by rw[G];exact H.2.symm)).2.symm),trivial⟩,trivial⟩ rfl (by simp)
    obtain⟨ag,aw,w⟩:=AP (p.num*q.den);refine cL h (CW i.num g.den w (by omega) (by omega)) ⟨t2,t2,trivial⟩ ?_;try conv=>cbv
    obtain⟨ah,ax,z⟩:=AP (q.num*p.den);refine cL h (CW g.num i.den z (by omega) (by omega)) ⟨t2,t2,trivial⟩ ?_;try conv=>cbv
    obtain⟨O,Q,A⟩:=AP (p.num*q.den+q.num*p.den);refine cL (r:= .agg [.bool O,.sl .u32 Q]) h (G8 w z A (by have:=i.num.CK g.den w rfl;omega) (by have:=g.num.CK i.den z rfl;omega)) ⟨t2,t2,trivial⟩ ?_;try conv=>cbv
    refine g2 rfl ?_;obtain⟨ai,ay,B⟩:=AP ((p.den:Int)*q.den);refine cL h (CW i.den g.den B (by omega) (by omega)) ⟨t2,t2,trivial⟩ ?_;try conv=>cbv
    refine g2 rfl ?_;have H:=O3 p q (by have:=of_decide_eq_true v.symm;omega);exact fA ⟨⟨rfl,congrArg _ ((A.uniq t.num (by rw[G];exact H.1.symm)).1.symm),congrArg _ ((A.uniq t.num (by rw[G];exact H.1.symm)).2.symm),congrArg _ ((B.uniq t.den (by rw[G];exact H.2.symm)).1.symm),congrArg _ ((B.uniq t.den (by rw[G];exact H.2.symm)).2.symm),trivial⟩,trivial⟩ rfl (by simp)
   obtain⟨aI,I⟩:=xB (decide ((q.den:Int)=1));refine cL h (Gf g.den I) ⟨t2,trivial⟩ ?_;try conv=>cbv
   cases aI <;> conv=>cbv
   ·obtain⟨af,av,d⟩:=AP (((Nat.gcd p.den q.den:Nat):Int));refine cL h (FD i.den g.den d (by omega) (by omega)) ⟨t2,t2,trivial⟩ ?_;try conv=>cbv
    have a5:=ES (x:=0) X g.den d;obtain⟨V,v⟩:=xB (decide (((Nat.gcd p.den q.den:Nat):Int)=1));refine cL h (Gf d v) ⟨t2,trivial⟩ ?_;try conv=>cbv
    cases V <;> conv=>cbv
    ·obtain⟨aj,az,f⟩:=AP (x);refine cL h (Cy i.den d J T f (by omega) (by omega)) ⟨t2,t2,trivial⟩ ?_;try conv=>cbv
     have a6:=D5 i.den f J T;obtain⟨ak,aA,j⟩:=AP (y);refine cL h (Cy g.den d J U j (by omega) (by omega)) ⟨t2,t2,trivial⟩ ?_;try conv=>cbv
     have a7:=D5 g.den j J U;refine g2 rfl ?_;obtain⟨al,aB,m⟩:=AP (p.num*y);refine cL h (CW i.num j m (by omega) (by omega)) ⟨t2,t2,trivial⟩ ?_;try conv=>cbv
     have a8:=i.num.CK j m rfl;obtain⟨an,aC,n⟩:=AP (q.num*x);refine cL h (CW g.num f n (by omega) (by omega)) ⟨t2,t2,trivial⟩ ?_;try conv=>cbv
     have aa:=g.num.CK f n rfl;obtain⟨ao,aD,o⟩:=AP ((p.num*y+q.num*x));refine cL h (G8 m n o (by omega) (by omega)) ⟨t2,t2,trivial⟩ ?_;try conv=>cbv
     have ab:=m.JU n o rfl (k:=8000000000000) (by omega) (by omega);refine g2 rfl ?_;obtain⟨P,R,s⟩:=AP (((Nat.gcd (p.num*y+q.num*x).natAbs (Nat.gcd p.den q.den):Nat):Int));refine cL (r:= .agg [.bool P,.sl .u32 R]) h (FD o d (by rw[Int.natAbs_natCast];exact s) (by omega) (by omega)) ⟨t2,t2,trivial⟩ ?_;try conv=>cbv
     have K:Nat.gcd p.den q.den≠0:=by omega
     have ad:=ES (x:=0) K d s;have W:(p.num*y+q.num*x)=(p.num*y+q.num*x)/((Nat.gcd (p.num*y+q.num*x).natAbs (Nat.gcd p.den q.den):Nat):Int)*((Nat.gcd (p.num*y+q.num*x).natAbs (Nat.gcd p.den q.den):Nat):Int):=(DD K).1;have L:=C5 (a:=(p.num*y+q.num*x).natAbs) K;have M:(q.den:Int)=(q.den:Int)/((Nat.gcd (p.num*y+q.num*x).natAbs (Nat.gcd p.den q.den):Nat):Int)*((Nat.gcd (p.num*y+q.num*x).natAbs (Nat.gcd p.den q.den):Nat):Int):=(Int.ediv_mul_cancel (Int.natCast_dvd_natCast.2 (Nat.dvd_trans (Nat.gcd_dvd_right _ _) (Nat.gcd_dvd_right _ _)))).symm;obtain⟨aq,aE,C⟩:=AP ((p.num*y+q.num*x)/((Nat.gcd (p.num*y+q.num*x).natAbs (Nat.gcd p.den q.den):Nat):Int));refine cL h (Cy o s L W C (by omega) (by omega)) ⟨t2,t2,trivial⟩ ?_;try conv=>cbv
     obtain⟨ar,aF,D⟩:=AP ((q.den:Int)/((Nat.gcd (p.num*y+q.num*x).natAbs (Nat.gcd p.den q.den):Nat):Int));refine cL h (Cy g.den s L M D (by omega) (by omega)) ⟨t2,t2,trivial⟩ ?_;try conv=>cbv
     have ae:=D5 g.den D L M;obtain⟨au,aG,F⟩:=AP (x*((q.den:Int)/((Nat.gcd (p.num*y+q.num*x).natAbs (Nat.gcd p.den q.den):Nat):Int)));refine cL h (CW f D F (by omega) (by omega)) ⟨t2,t2,trivial⟩ ?_;try conv=>cbv
     refine g2 rfl ?_;have H:=O4 p q rfl (fun e=>by have:=of_decide_eq_false v.symm;omega) Y Z rfl rfl;exact fA ⟨⟨rfl,congrArg _ ((C.uniq t.num (by rw[G];exact H.1.symm)).1.symm),congrArg _ ((C.uniq t.num (by rw[G];exact H.1.symm)).2.symm),congrArg _ ((F.uniq t.den (by rw[G];exact H.2.symm)).1.symm),congrArg _ ((F.uniq t.den (by rw[G];exact H.2.symm)).2.symm),trivial⟩,trivial⟩ rfl (by simp)
    obtain⟨ag,aw,w⟩:=AP (p.num*q.den);refine cL h (CW i.num g.den w (by omega) (by omega)) ⟨t2,t2,trivial⟩ ?_;try conv=>cbv
    obtain⟨ah,ax,z⟩:=AP (q.num*p.den);refine cL h (CW g.num i.den z (by omega) (by omega)) ⟨t2,t2,trivial⟩ ?_;try conv=>cbv
    obtain⟨O,Q,A⟩:=AP (p.num*q.den+q.num*p.den);refine cL (r:= .agg [.bool O,.sl .u32 Q]) h (G8 w z A (by have:=i.num.CK g.den w rfl;omega) (by have:=g.num.CK i.den z rfl;omega)) ⟨t2,t2,trivial⟩ ?_;try conv=>cbv
    refine g2 rfl ?_;obtain⟨ai,ay,B⟩:=AP ((p.den:Int)*q.den);refine cL h (CW i.den g.den B (by omega) (by omega)) ⟨t2,t2,trivial⟩ ?_;try conv=>cbv
    refine g2 rfl ?_;have H:=O3 p q (by have:=of_decide_eq_true v.symm;omega);exact fA ⟨⟨rfl,congrArg _ ((A.uniq t.num (by rw[G];exact H.1.symm)).1.symm),congrArg _ ((A.uniq t.num (by rw[G];exact H.1.symm)).2.symm),congrArg _ ((B.uniq t.den (by rw[G];exact H.2.symm)).1.symm),congrArg _ ((B.uniq t.den (by rw[G];exact H.2.symm)).2.symm),trivial⟩,trivial⟩ rfl (by simp)
   obtain⟨aN,aO,N⟩:=AP (p.num+q.num);refine cL h (G8 i.num g.num N (by omega) (by omega)) ⟨t2,t2,trivial⟩ ?_;try conv=>cbv
   refine g2 rfl ?_;exact fA ⟨⟨rfl,congrArg _ ((N.uniq t.num (by rw[G];exact (F4 (of_decide_eq_true u.symm) (of_decide_eq_true I.symm)).1.symm)).1.symm),congrArg _ ((N.uniq t.num (by rw[G];exact (F4 (of_decide_eq_true u.symm) (of_decide_eq_true I.symm)).1.symm)).2.symm),congrArg _ ((i.den.uniq t.den (by rw[G,(F4 (of_decide_eq_true u.symm) (of_decide_eq_true I.symm)).2];exact of_decide_eq_true u.symm)).1.symm),congrArg _ ((i.den.uniq t.den (by rw[G,(F4 (of_decide_eq_true u.symm) (of_decide_eq_true I.symm)).2];exact of_decide_eq_true u.symm)).2.symm),trivial⟩,trivial⟩ rfl (by simp)
  have aK:=Ad a2;have e0:q=0:=Rat.num_eq_zero.1 (g.num.Dm.1 (by omega));have S:r=p:=by rw[G,e0,Rat.add_zero]
  exact fA ⟨⟨rfl,congrArg _ ((i.num.uniq t.num (by rw[S])).1.symm),congrArg _ ((i.num.uniq t.num (by rw[S])).2.symm),congrArg _ ((i.den.uniq t.den (by rw[S])).1.symm),congrArg _ ((i.den.uniq t.den (by rw[S])).2.symm),trivial⟩,trivial⟩ rfl (by simp)
 have aJ:=Ad a1;have e0:p=0:=Rat.num_eq_zero.1 (i.num.Dm.1 (by omega));have S:r=q:=by rw[G,e0,Rat.zero_add]
 exact fA ⟨⟨rfl,congrArg _ ((g.num.uniq t.num (by rw[S])).1.symm),congrArg _ ((g.num.uniq t.num (by rw[S])).2.symm),congrArg _ ((g.den.uniq t.den (by rw[S])).1.symm),congrArg _ ((g.den.uniq t.den (by rw[S])).2.symm),trivial⟩,trivial⟩ rfl (by simp)
theorem XM {p:Rat} (h:p≠0):(1/p).num=(if p.num<0 then -(p.den:Int) else p.den)/\((1/p).den:Int)=if p.num<0 then -p.num else p.num:=by
 have f:p.num≠0:=mt Rat.num_eq_zero.1 h;have e:1/p=Rat.inv p:=by rw[Rat.div_def,Rat.one_mul];rfl
 rw[e];unfold Rat.inv
 split
 ·rename_i d;exact⟨rfl,by show ((p.num.natAbs:Nat):Int)=_;omega⟩
 rename_i d
 rw[dif_pos (by omega)];exact⟨rfl,by show ((p.num.natAbs:Nat):Int)=_;omega⟩
theorem Ur {p:Rat} (i:Ap p b1 l1 b2 l2) (q:p≠0) (s:r=1/p) (j:Ap r d1 k1 d2 k2):CF 211 [.agg [.bool b1,.sl .u32 l1,.bool b2,.sl .u32 l2]] (.agg [.bool d1,.sl .u32 k1,.bool d2,.sl .u32 k2]):=by
 obtain⟨f,d⟩:=XM q;rw[<-s] at f d;refine AE Tryz.func211 (by kernel_rfl) rfl fun E m=>?_
 conv=>cbv
 cases b1 <;> conv=>cbv
 ·have h:=Ma i.num rfl;exact fA ⟨⟨rfl,congrArg _ ((i.den.uniq j.num (by rw[f,if_neg h])).1.symm),congrArg _ ((i.den.uniq j.num (by rw[f,if_neg h])).2.symm),congrArg _ ((i.num.uniq j.den (by rw[d,if_neg h])).1.symm),congrArg _ ((i.num.uniq j.den (by rw[d,if_neg h])).2.symm),trivial⟩,trivial⟩ rfl (by simp)
 obtain⟨t,u,k⟩:=AP (-(p.den:Int));refine cL m (IB i.den k) ⟨t2,trivial⟩ ?_;try conv=>cbv
 obtain⟨n,o,g⟩:=AP (-p.num);refine cL m (IB i.num g) ⟨t2,trivial⟩ ?_;try conv=>cbv
 refine g2 rfl ?_;have h:=Mb i.num rfl;exact fA ⟨⟨rfl,congrArg _ ((k.uniq j.num (by rw[f,if_pos h])).1.symm),congrArg _ ((k.uniq j.num (by rw[f,if_pos h])).2.symm),congrArg _ ((g.uniq j.den (by rw[d,if_pos h])).1.symm),congrArg _ ((g.uniq j.den (by rw[d,if_pos h])).2.symm),trivial⟩,trivial⟩ rfl (by simp)
theorem Uv {p:Rat} (f:Ap p b1 l1 b2 l2) (s:BK p):CF 176 [.agg [.bool b1,.sl .u32 l1,.bool b2,.sl .u32 l2]] (.one (.bool true)):=by
 have t:=f.small s;have q:=p.den_pos;refine AE Tryz.func176 (by kernel_rfl) rfl fun E h=>?_
 conv=>cbv
 refine cL h (Oi f.num) ⟨t2,trivial⟩ ?_;try conv=>cbv
 refine cL h (Oi f.den) ⟨t2,trivial⟩ ?_;try conv=>cbv
 obtain⟨o,i⟩:=xI ((1:Int));refine cL (r:= .one (.int .i64 o)) h (G9 f.den (i.trans (by unfold BR;rw[if_neg (by omega),if_neg (by omega)]))) ⟨t2,trivial⟩ ?_;try conv=>cbv
 intro n g;conv=>cbv
 cases n <;> conv=>cbv
 ·have j:=Bc g;exact absurd j (by omega)
 have j:=Be g;obtain⟨k,m,d⟩:=AP ((1:Int));refine cL (r:= .agg [.bool k,.sl .u32 m]) h (FD f.num f.den (by rw[Int.natAbs_natCast,show Nat.gcd p.num.natAbs p.den=1 from p.reduced];exact d) (by omega) (by omega)) ⟨t2,t2,trivial⟩ ?_;try conv=>cbv
 refine cL h (Gf d rfl) ⟨t2,trivial⟩ ?_;try conv=>cbv
 exact fA ⟨t2,trivial⟩ rfl (by simp)
theorem RC {d r:Int} (f:r=BR d) (h:r<0):d<0:=by rcases Dq d with⟨a,e⟩ |⟨a,e⟩ |⟨a,e⟩ <;> omega
theorem RD {d r:Int} (f:r=BR d) (h:0<=r):¬d<0:=by rcases Dq d with⟨a,e⟩ |⟨a,e⟩ |⟨a,e⟩ <;> omega
theorem Jk {g:Int} (d:g≠0) (h:g∣x):x=BQ x g*g:=by
 unfold BQ
 split
 ·exact (Int.ediv_mul_cancel h).symm
 have:=Int.ediv_mul_cancel (a:= -x) (b:= -g) (Int.neg_dvd.2 (Int.dvd_neg.2 h));rw[Int.mul_neg] at this
 generalize -x/ -g*g=Q at*
 omega
theorem J6 (n d:Int):(if d<0 then -((Nat.gcd n.natAbs d.natAbs:Nat):Int) else ((Nat.gcd n.natAbs d.natAbs:Nat):Int))∣n/\(if d<0 then -((Nat.gcd n.natAbs d.natAbs:Nat):Int) else ((Nat.gcd n.natAbs d.natAbs:Nat):Int))∣d:=by
 have f:((Nat.gcd n.natAbs d.natAbs:Nat):Int)∣n:=Int.ofNat_dvd_left.2 (Nat.gcd_dvd_left _ _);have g:((Nat.gcd n.natAbs d.natAbs:Nat):Int)∣d:=Int.ofNat_dvd_left.2 (Nat.gcd_dvd_right _ _)
 split
 ·exact⟨Int.neg_dvd.2 f,Int.neg_dvd.2 g⟩
 exact⟨f,g⟩
theorem Ui {n d:Int} {q:Rat} (K:AT n b1 l1) (v:AT d b2 l2) (u:d≠0) (J:q=Rat.divInt n d) (w:Ap q c1 m1 c2 m2) (s1:l1.length<=17592186042000) (s2:l2.length<=17592186042000):CF 163 [.agg [.bool b1,.sl .u32 l1],.agg [.bool b2,.sl .u32 l2]] (.agg [.bool c1,.sl .u32 m1,.bool c2,.sl .u32 m2]):=by
 refine AE Tryz.func163 (by kernel_rfl) rfl fun E z=>?_
 conv=>cbv
 obtain⟨M,N,k⟩:=AP (((Nat.gcd n.natAbs d.natAbs:Nat):Int));refine cL z (FD K v k (by omega) (by omega)) ⟨t2,t2,trivial⟩ ?_;try conv=>cbv
 obtain⟨O,i⟩:=xI (BR d);refine cL z (G9 v i) ⟨t2,trivial⟩ ?_;try conv=>cbv
 intro L C;conv=>cbv
 refine .inr ?_;cases L <;> conv=>cbv
 ·have m:=AR C;obtain⟨o,s,f⟩:=AP (BQ n (if d<0 then -((Nat.gcd n.natAbs d.natAbs:Nat):Int) else ((Nat.gcd n.natAbs d.natAbs:Nat):Int)));have G:AT (if d<0 then -((Nat.gcd n.natAbs d.natAbs:Nat):Int) else ((Nat.gcd n.natAbs d.natAbs:Nat):Int)) M N:=by rw[if_neg (RD i m)];exact k
  have h:(if d<0 then -((Nat.gcd n.natAbs d.natAbs:Nat):Int) else ((Nat.gcd n.natAbs d.natAbs:Nat):Int))≠0:=by rw[if_neg (RD i m)];have:=J5 (n:=n) u;omega
  have F:BQ n (if d<0 then -((Nat.gcd n.natAbs d.natAbs:Nat):Int) else ((Nat.gcd n.natAbs d.natAbs:Nat):Int))=q.num:=by rw[J];exact (KK u).symm
  have D:BQ d (if d<0 then -((Nat.gcd n.natAbs d.natAbs:Nat):Int) else ((Nat.gcd n.natAbs d.natAbs:Nat):Int))=(q.den:Int):=by rw[J];exact (KJ u).symm
  have B:n=BQ n (if d<0 then -((Nat.gcd n.natAbs d.natAbs:Nat):Int) else ((Nat.gcd n.natAbs d.natAbs:Nat):Int))*(if d<0 then -((Nat.gcd n.natAbs d.natAbs:Nat):Int) else ((Nat.gcd n.natAbs d.natAbs:Nat):Int)):=Jk h (J6 n d).1;have A:d=BQ d (if d<0 then -((Nat.gcd n.natAbs d.natAbs:Nat):Int) else ((Nat.gcd n.natAbs d.natAbs:Nat):Int))*(if d<0 then -((Nat.gcd n.natAbs d.natAbs:Nat):Int) else ((Nat.gcd n.natAbs d.natAbs:Nat):Int)):=Jk h (J6 n d).2;refine cL (r:= .agg [.bool o,.sl .u32 s]) z (Cy K G h (B) f (by omega) (by have:=Ia u v k;omega)) ⟨t2,t2,trivial⟩ ?_;try conv=>cbv
  obtain⟨p,t,g⟩:=AP (BQ d (if d<0 then -((Nat.gcd n.natAbs d.natAbs:Nat):Int) else ((Nat.gcd n.natAbs d.natAbs:Nat):Int)));refine cL (r:= .agg [.bool p,.sl .u32 t]) z (Cy v G h (A) g (by omega) (by have:=Ia u v k;omega)) ⟨t2,t2,trivial⟩ ?_;try conv=>cbv
  refine g2 rfl ?_;exact fA ⟨⟨rfl,congrArg _ ((f.uniq w.num F).1.symm),congrArg _ ((f.uniq w.num F).2.symm),congrArg _ ((g.uniq w.den D).1.symm),congrArg _ ((g.uniq w.den D).2.symm),trivial⟩,trivial⟩ rfl (by simp)
 have m:=AS C;obtain⟨H,I,j⟩:=AP (-((Nat.gcd n.natAbs d.natAbs:Nat):Int));refine cL z (IB k j) ⟨t2,trivial⟩ ?_;try conv=>cbv
 obtain⟨o,s,f⟩:=AP (BQ n (if d<0 then -((Nat.gcd n.natAbs d.natAbs:Nat):Int) else ((Nat.gcd n.natAbs d.natAbs:Nat):Int)));have G:AT (if d<0 then -((Nat.gcd n.natAbs d.natAbs:Nat):Int) else ((Nat.gcd n.natAbs d.natAbs:Nat):Int)) H I:=by rw[if_pos (RC i m)];exact j
 have h:(if d<0 then -((Nat.gcd n.natAbs d.natAbs:Nat):Int) else ((Nat.gcd n.natAbs d.natAbs:Nat):Int))≠0:=by rw[if_pos (RC i m)];have:=J5 (n:=n) u;omega
 have F:BQ n (if d<0 then -((Nat.gcd n.natAbs d.natAbs:Nat):Int) else ((Nat.gcd n.natAbs d.natAbs:Nat):Int))=q.num:=by rw[J];exact (KK u).symm
 have D:BQ d (if d<0 then -((Nat.gcd n.natAbs d.natAbs:Nat):Int) else ((Nat.gcd n.natAbs d.natAbs:Nat):Int))=(q.den:Int):=by rw[J];exact (KJ u).symm
 have B:n=BQ n (if d<0 then -((Nat.gcd n.natAbs d.natAbs:Nat):Int) else ((Nat.gcd n.natAbs d.natAbs:Nat):Int))*(if d<0 then -((Nat.gcd n.natAbs d.natAbs:Nat):Int) else ((Nat.gcd n.natAbs d.natAbs:Nat):Int)):=Jk h (J6 n d).1;have A:d=BQ d (if d<0 then -((Nat.gcd n.natAbs d.natAbs:Nat):Int) else ((Nat.gcd n.natAbs d.natAbs:Nat):Int))*(if d<0 then -((Nat.gcd n.natAbs d.natAbs:Nat):Int) else ((Nat.gcd n.natAbs d.natAbs:Nat):Int)):=Jk h (J6 n d).2;refine cL (r:= .agg [.bool o,.sl .u32 s]) z (Cy K G h (B) f (by omega) (by have:=J4 u v j;omega)) ⟨t2,t2,trivial⟩ ?_;try conv=>cbv
 obtain⟨p,t,g⟩:=AP (BQ d (if d<0 then -((Nat.gcd n.natAbs d.natAbs:Nat):Int) else ((Nat.gcd n.natAbs d.natAbs:Nat):Int)));refine cL (r:= .agg [.bool p,.sl .u32 t]) z (Cy v G h (A) g (by omega) (by have:=J4 u v j;omega)) ⟨t2,t2,trivial⟩ ?_;try conv=>cbv
 refine g2 rfl ?_;exact fA ⟨⟨rfl,congrArg _ ((f.uniq w.num F).1.symm),congrArg _ ((f.uniq w.num F).2.symm),congrArg _ ((g.uniq w.den D).1.symm),congrArg _ ((g.uniq w.den D).2.symm),trivial⟩,trivial⟩ rfl (by simp)
theorem LX {n d:Int} {q:Rat} (m: -9223372036854775808<=n/\n<9223372036854775808) (k: -9223372036854775808<=d/\d<9223372036854775808) (i:d≠0) (t:q=Rat.divInt n d) (u:Ap q c1 m1 c2 m2):CF 111 [.one (.int .i64 n),.one (.int .i64 d)] (.agg [.bool c1,.sl .u32 m1,.bool c2,.sl .u32 m2]):=by
 refine AE Tryz.func111 (by kernel_rfl) rfl fun E h=>?_
 conv=>cbv
 intro v j;conv=>cbv
 cases v <;> conv=>cbv
 ·have o:=Ab j;obtain⟨w,z,g⟩:=AP (n);refine cL h (JM m g) t1 ?_;try conv=>cbv
  obtain⟨p,s,f⟩:=AP (d);refine cL h (JM k f) t1 ?_;try conv=>cbv
  refine cL (r:= .agg [.bool c1,.sl .u32 m1,.bool c2,.sl .u32 m2]) h (Ui g f i t u (by have:=LC m g;omega) (by have:=LC k f;omega)) ⟨t2,t2,trivial⟩ ?_;try conv=>cbv
  exact fA ⟨⟨rfl,rfl,rfl,rfl,rfl,trivial⟩,trivial⟩ rfl (by simp)
 have o:=Ad j;exact absurd o i
end Go.Abs
