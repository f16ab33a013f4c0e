/- Part 26 of a proof. Conditions: each theorem's own. -/
import Derived.Test.YtfilemenbchajaaGreatPk21
set_option linter.all false
set_option maxHeartbeats 8000000
set_option maxRecDepth 20000
open Go.Proofs
namespace Go.Abs
open Go.RowKit
variable {b' b1 b2 c c1 c2 d1 d2:Bool} {d n x y:Int} {k1 k2 l l' l1 l2 m1 m2:List UInt32} {r:Rat}
theorem TJ {b:Bool} (g:Ag x b l) (f:c=decide (x=0)):CF 291 [.agg [.bool b,.sl .u32 l]] (.one (.bool c)):=by
 refine AH Tryz.func291 (by kernel_rfl) rfl fun E i=>?_
 conv=>cbv
 rintro j ⟨h,f5⟩;conv=>cbv
 intro k a;conv=>cbv
 exact fA ⟨⟨rfl,congrArg _ (by rw[f,a,Bool.eq_iff_iff];simp only[decide_eq_true_eq,beq_iff_eq];rw[<-g.Eb];omega),trivial⟩,trivial⟩ rfl (by simp)
theorem Iw {b:Bool} (k:Ag x b l) (j:c=decide (x=1)):CF 351 [.agg [.bool b,.sl .u32 l]] (.one (.bool c)):=by
 refine AH Tryz.func351 (by kernel_rfl) rfl fun E A=>?_
 conv=>cbv
 intro w s;conv=>cbv
 cases w <;> conv=>cbv
 ·have o:=CJ s;exact fA ⟨⟨rfl,congrArg _ (by rw[j];exact (O0 k o).symm),trivial⟩,trivial⟩ rfl (by simp)
 have o:=CK s;rintro B ⟨z,f9⟩;conv=>cbv
 intro p f;conv=>cbv
 cases p <;> conv=>cbv
 ·have m:=Au f;exact fA ⟨⟨rfl,congrArg _ (by rw[j];exact (UR k (by omega)).symm),trivial⟩,trivial⟩ rfl (by simp)
 have m:=Av f;obtain⟨q,a⟩:=AG (l:=l) (i:=0) (by omega);refine⟨q,fun _=>⟨by omega,a⟩,?_⟩;try conv=>cbv
 intro u g;have t:=g.eq;have f16:=g.lt;conv=>cbv
 intro v h;conv=>cbv
 exact fA ⟨⟨rfl,congrArg _ (by rw[j,h,<-O3 k o (by omega) a,Bool.eq_iff_iff];simp only[decide_eq_true_eq,beq_iff_eq];omega),trivial⟩,trivial⟩ rfl (by simp)
theorem O1 {b:Bool} (f:Ag 1 b l):CF 246 [] (.agg [.bool b,.sl .u32 l]):=by
 refine AH Tryz.func246 (by kernel_rfl) rfl fun E g=>?_
 conv=>cbv
 obtain⟨h,i,a⟩:=Ac (1);refine cL g (Kq (by omega) a) t1 ?_;try conv=>cbv
 exact fA ⟨⟨rfl,congrArg _ ((a.uniq f rfl).1.symm),congrArg _ ((a.uniq f rfl).2.symm),trivial⟩,trivial⟩ rfl (by simp)
theorem MV {b3:Bool} {l3:List UInt32} (h:Ag x b1 l1) (k:Ag y b2 l2) (i:y≠0) (g:Ag (Br x y) b3 l3) (s1:l1.length<=17592186042000) (s2:l2.length<=17592186042000):CF 331 [.agg [.bool b1,.sl .u32 l1],.agg [.bool b2,.sl .u32 l2]] (.agg [.bool b3,.sl .u32 l3]):=by
 refine AH Tryz.func331 (by kernel_rfl) rfl fun E j=>?_
 conv=>cbv
 obtain⟨s,b⟩:=xB (decide (y=1));refine cL j (Iw k b) ⟨t2,trivial⟩ ?_;try conv=>cbv
 cases s <;> conv=>cbv
 ·obtain⟨p,q,a⟩:=Ac (Br x y);obtain⟨m,o,f⟩:=Ac (Fh x y);refine cL j (Ws h k i a f (by omega) (by omega)) ⟨t2,t2,trivial⟩ ?_;try conv=>cbv
  exact fA ⟨⟨rfl,congrArg _ ((a.uniq g rfl).1.symm),congrArg _ ((a.uniq g rfl).2.symm),trivial⟩,trivial⟩ rfl (by simp)
 exact fA ⟨⟨rfl,congrArg _ ((g.uniq h (by rw[of_decide_eq_true b.symm];exact SU x)).1),congrArg _ ((g.uniq h (by rw[of_decide_eq_true b.symm];exact SU x)).2),trivial⟩,trivial⟩ rfl (by simp)
theorem J3 {b:Bool} (a:d≠0) (h:Ag d b l) (h':Ag ((Nat.gcd n.natAbs d.natAbs:Nat):Int) b' l'):l'.length<=l.length:=by
 rw[h.BI,h'.BI,Int.natAbs_natCast];exact DW (Nat.le_of_dvd (by omega) (Nat.gcd_dvd_right _ _))
theorem Lq {b:Bool} (a:d≠0) (h:Ag d b l) (h':Ag (-((Nat.gcd n.natAbs d.natAbs:Nat):Int)) b' l'):l'.length<=l.length:=by
 rw[h.BI,h'.BI,Int.natAbs_neg,Int.natAbs_natCast];exact DW (Nat.le_of_dvd (by omega) (Nat.gcd_dvd_right _ _))
theorem Lr (a:d≠0):((Nat.gcd n.natAbs d.natAbs:Nat):Int)≠0:=by
 have:=Nat.gcd_pos_of_pos_right n.natAbs (n:=d.natAbs) (by omega);omega
theorem OS {b:Bool} (h:Ag d b l) (e:b=true):d<0:=by
 have:=h.neg;rw[e] at this;simpa using this.symm
theorem OR {b:Bool} (h:Ag d b l) (e:b=false):¬d<0:=by
 have:=h.neg;rw[e] at this;simpa using this.symm
theorem I3 {q:Rat} (C:Ag n b1 l1) (h:Ag d b2 l2) (i:d≠0) (B:q=Rat.divInt n d) (s:BM q c1 m1 c2 m2) (s1:l1.length<=17592186042000) (s2:l2.length<=17592186042000):CF 292 [.agg [.bool b1,.sl .u32 l1],.agg [.bool b2,.sl .u32 l2]] (.agg [.bool c1,.sl .u32 m1,.bool c2,.sl .u32 m2]):=by
 refine AH Tryz.func292 (by kernel_rfl) rfl fun E v=>?_
 conv=>cbv
 obtain⟨D,F,g⟩:=Ac (((Nat.gcd n.natAbs d.natAbs:Nat):Int));refine cL v (QL C h g (by omega) (by omega)) ⟨t2,t2,trivial⟩ ?_;try conv=>cbv
 refine .inr ?_;cases b2 <;> conv=>cbv
 ·obtain⟨k,o,a⟩:=Ac (Br n (if d<0 then -((Nat.gcd n.natAbs d.natAbs:Nat):Int) else ((Nat.gcd n.natAbs d.natAbs:Nat):Int)));have A:Ag (if d<0 then -((Nat.gcd n.natAbs d.natAbs:Nat):Int) else ((Nat.gcd n.natAbs d.natAbs:Nat):Int)) D F:=by rw[if_neg (OR h rfl)];exact g
  have j:(if d<0 then -((Nat.gcd n.natAbs d.natAbs:Nat):Int) else ((Nat.gcd n.natAbs d.natAbs:Nat):Int))≠0:=by rw[if_neg (OR h rfl)];have:=Lr (n:=n) i;omega
  have z:Br n (if d<0 then -((Nat.gcd n.natAbs d.natAbs:Nat):Int) else ((Nat.gcd n.natAbs d.natAbs:Nat):Int))=q.num:=by rw[B];exact (MA i).symm
  have w:Br d (if d<0 then -((Nat.gcd n.natAbs d.natAbs:Nat):Int) else ((Nat.gcd n.natAbs d.natAbs:Nat):Int))=(q.den:Int):=by rw[B];exact (L8 i).symm
  refine cL (r:= .agg [.bool k,.sl .u32 o]) v (MV C A j a (by omega) (by have:=J3 i h g;omega)) ⟨t2,t2,trivial⟩ ?_;try conv=>cbv
  obtain⟨m,p,b⟩:=Ac (Br d (if d<0 then -((Nat.gcd n.natAbs d.natAbs:Nat):Int) else ((Nat.gcd n.natAbs d.natAbs:Nat):Int)));refine cL (r:= .agg [.bool m,.sl .u32 p]) v (MV h A j b (by omega) (by have:=J3 i h g;omega)) ⟨t2,t2,trivial⟩ ?_;try conv=>cbv
  refine g2 rfl ?_;exact fA ⟨⟨rfl,congrArg _ ((a.uniq s.num z).1.symm),congrArg _ ((a.uniq s.num z).2.symm),congrArg _ ((b.uniq s.den w).1.symm),congrArg _ ((b.uniq s.den w).2.symm),trivial⟩,trivial⟩ rfl (by simp)
 obtain⟨t,u,f⟩:=Ac (-((Nat.gcd n.natAbs d.natAbs:Nat):Int));refine cL (r:= .agg [.bool t,.sl .u32 u]) v (QT g (by have:=J3 i h g;omega) f) ⟨t2,trivial⟩ ?_;try conv=>cbv
 obtain⟨k,o,a⟩:=Ac (Br n (if d<0 then -((Nat.gcd n.natAbs d.natAbs:Nat):Int) else ((Nat.gcd n.natAbs d.natAbs:Nat):Int)));have A:Ag (if d<0 then -((Nat.gcd n.natAbs d.natAbs:Nat):Int) else ((Nat.gcd n.natAbs d.natAbs:Nat):Int)) t u:=by rw[if_pos (OS h rfl)];exact f
 have j:(if d<0 then -((Nat.gcd n.natAbs d.natAbs:Nat):Int) else ((Nat.gcd n.natAbs d.natAbs:Nat):Int))≠0:=by rw[if_pos (OS h rfl)];have:=Lr (n:=n) i;omega
 have z:Br n (if d<0 then -((Nat.gcd n.natAbs d.natAbs:Nat):Int) else ((Nat.gcd n.natAbs d.natAbs:Nat):Int))=q.num:=by rw[B];exact (MA i).symm
 have w:Br d (if d<0 then -((Nat.gcd n.natAbs d.natAbs:Nat):Int) else ((Nat.gcd n.natAbs d.natAbs:Nat):Int))=(q.den:Int):=by rw[B];exact (L8 i).symm
 refine cL (r:= .agg [.bool k,.sl .u32 o]) v (MV C A j a (by omega) (by have:=Lq i h f;omega)) ⟨t2,t2,trivial⟩ ?_;try conv=>cbv
 obtain⟨m,p,b⟩:=Ac (Br d (if d<0 then -((Nat.gcd n.natAbs d.natAbs:Nat):Int) else ((Nat.gcd n.natAbs d.natAbs:Nat):Int)));refine cL (r:= .agg [.bool m,.sl .u32 p]) v (MV h A j b (by omega) (by have:=Lq i h f;omega)) ⟨t2,t2,trivial⟩ ?_;try conv=>cbv
 refine g2 rfl ?_;exact fA ⟨⟨rfl,congrArg _ ((a.uniq s.num z).1.symm),congrArg _ ((a.uniq s.num z).2.symm),congrArg _ ((b.uniq s.den w).1.symm),congrArg _ ((b.uniq s.den w).2.symm),trivial⟩,trivial⟩ rfl (by simp)
theorem F1 {q:Rat} (i: -9223372036854775808<=x/\x<9223372036854775808) (f:q=(x:Rat)) (g:BM q c1 m1 c2 m2):CF 187 [.one (.int .i64 x)] (.agg [.bool c1,.sl .u32 m1,.bool c2,.sl .u32 m2]):=by
 refine AH Tryz.func187 (by kernel_rfl) rfl fun E h=>?_
 conv=>cbv
 obtain⟨j,m,a⟩:=Ac (x);refine cL h (Kq i a) t1 ?_;try conv=>cbv
 obtain⟨k,o,b⟩:=Ac (1);refine cL h (O1 b) trivial ?_;try conv=>cbv
 exact fA ⟨⟨rfl,congrArg _ ((a.uniq g.num (by rw[f];rfl)).1.symm),congrArg _ ((a.uniq g.num (by rw[f];rfl)).2.symm),congrArg _ ((b.uniq g.den (by rw[f];rfl)).1.symm),congrArg _ ((b.uniq g.den (by rw[f];rfl)).2.symm),trivial⟩,trivial⟩ rfl (by simp)
theorem Kw {q:Rat} {c:Int} (g:BM q b1 l1 b2 l2) (f:c=Dk q):CF 288 [.agg [.bool b1,.sl .u32 l1,.bool b2,.sl .u32 l2]] (.one (.int .i64 c)):=by
 refine AH Tryz.func288 (by kernel_rfl) rfl fun E b=>?_
 conv=>cbv
 obtain⟨h,a⟩:=xI (Bu q.num);refine cL b (JY g.num a) ⟨t2,trivial⟩ ?_;try conv=>cbv
 exact fA ⟨⟨rfl,congrArg _ (by rw[f,a];rfl),trivial⟩,trivial⟩ rfl (by simp)
theorem XG {q p:Rat} (f:BM q b1 l1 b2 l2) (k:Bj q) (b:p= -q) (g:BM p c1 m1 c2 m2):CF 295 [.agg [.bool b1,.sl .u32 l1,.bool b2,.sl .u32 l2]] (.agg [.bool c1,.sl .u32 m1,.bool c2,.sl .u32 m2]):=by
 refine AH Tryz.func295 (by kernel_rfl) rfl fun E j=>?_
 conv=>cbv
 obtain⟨h,i,a⟩:=Ac (-q.num);refine cL (r:= .agg [.bool h,.sl .u32 i]) j (QT f.num (by have:=f.small k;omega) a) ⟨t2,trivial⟩ ?_;try conv=>cbv
 refine g2 rfl ?_;exact fA ⟨⟨rfl,congrArg _ ((a.uniq g.num (by rw[b];rfl)).1.symm),congrArg _ ((a.uniq g.num (by rw[b];rfl)).2.symm),congrArg _ ((f.den.uniq g.den (by rw[b];rfl)).1.symm),congrArg _ ((f.den.uniq g.den (by rw[b];rfl)).2.symm),trivial⟩,trivial⟩ rfl (by simp)
theorem XC {p q:Rat} (a:BM p b1 l1 b2 l2) (b:BM q c1 m1 c2 m2) (m:Bj p) (ht:Bj q) (M:r=p+q) (t:BM r d1 k1 d2 k2):CF 336 [.agg [.bool b1,.sl .u32 l1,.bool b2,.sl .u32 l2],.agg [.bool c1,.sl .u32 m1,.bool c2,.sl .u32 m2]] (.agg [.bool d1,.sl .u32 k1,.bool d2,.sl .u32 k2]):=by
 refine AH Tryz.func336 (by kernel_rfl) rfl fun E s=>?_
 conv=>cbv
 obtain⟨S,u⟩:=xB (decide ((p.den:Int)=1));refine cL s (Iw a.den u) ⟨t2,trivial⟩ ?_;try conv=>cbv
 cases S <;> conv=>cbv
 ·obtain⟨B,H,f⟩:=Ac (p.num*q.den);refine cL (r:= .agg [.bool B,.sl .u32 H]) s (EJ a.num b.den f (by have:=a.small m;have:=b.small ht;omega) (by have:=a.small m;have:=b.small ht;omega)) ⟨t2,t2,trivial⟩ ?_;try conv=>cbv
  obtain⟨C,I,g⟩:=Ac (q.num*p.den);refine cL (r:= .agg [.bool C,.sl .u32 I]) s (EJ b.num a.den g (by have:=a.small m;have:=b.small ht;omega) (by have:=a.small m;have:=b.small ht;omega)) ⟨t2,t2,trivial⟩ ?_;try conv=>cbv
  obtain⟨D,J,i⟩:=Ac (p.num*q.den+q.num*p.den);refine cL (r:= .agg [.bool D,.sl .u32 J]) s (M9 f g i (by have:=a.small m;have:=b.small ht;have:=a.num.C0 b.den f rfl;omega) (by have:=a.small m;have:=b.small ht;have:=b.num.C0 a.den g rfl;omega)) ⟨t2,t2,trivial⟩ ?_;try conv=>cbv
  refine g2 rfl ?_;obtain⟨F,K,j⟩:=Ac ((p.den:Int)*q.den);refine cL (r:= .agg [.bool F,.sl .u32 K]) s (EJ a.den b.den j (by have:=a.small m;have:=b.small ht;omega) (by have:=a.small m;have:=b.small ht;omega)) ⟨t2,t2,trivial⟩ ?_;try conv=>cbv
  obtain⟨G,L,z,A,h⟩:=Bb (r);refine cL (r:= .agg [.bool G,.sl .u32 L,.bool z,.sl .u32 A]) s (I3 i j (Int.mul_ne_zero (FW p) (FW q)) (M.trans (NZ p q)) h (by have:=a.small m;have:=b.small ht;have:=a.num.C0 b.den f rfl;have:=b.num.C0 a.den g rfl;have:=f.LF g i rfl (k:=8000000000000) (by omega) (by omega);omega) (by have:=a.small m;have:=b.small ht;have:=a.den.C0 b.den j rfl;omega)) ⟨t2,t2,trivial⟩ ?_;try conv=>cbv
  refine g2 rfl ?_;exact fA ⟨⟨rfl,congrArg _ ((h.uniq t rfl).1.1.symm),congrArg _ ((h.uniq t rfl).1.2.symm),congrArg _ ((h.uniq t rfl).2.1.symm),congrArg _ ((h.uniq t rfl).2.2.symm),trivial⟩,trivial⟩ rfl (by simp)
 obtain⟨P,o⟩:=xB (decide ((q.den:Int)=1));refine cL s (Iw b.den o) ⟨t2,trivial⟩ ?_;try conv=>cbv
 cases P <;> conv=>cbv
 ·obtain⟨B,H,f⟩:=Ac (p.num*q.den);refine cL (r:= .agg [.bool B,.sl .u32 H]) s (EJ a.num b.den f (by have:=a.small m;have:=b.small ht;omega) (by have:=a.small m;have:=b.small ht;omega)) ⟨t2,t2,trivial⟩ ?_;try conv=>cbv
  obtain⟨C,I,g⟩:=Ac (q.num*p.den);refine cL (r:= .agg [.bool C,.sl .u32 I]) s (EJ b.num a.den g (by have:=a.small m;have:=b.small ht;omega) (by have:=a.small m;have:=b.small ht;omega)) ⟨t2,t2,trivial⟩ ?_;try conv=>cbv
  obtain⟨D,J,i⟩:=Ac (p.num*q.den+q.num*p.den);refine cL (r:= .agg [.bool D,.sl .u32 J]) s (M9 f g i (by have:=a.small m;have:=b.small ht;have:=a.num.C0 b.den f rfl;omega) (by have:=a.small m;have:=b.small ht;have:=b.num.C0 a.den g rfl;omega)) ⟨t2,t2,trivial⟩ ?_;try conv=>cbv
  refine g2 rfl ?_;obtain⟨F,K,j⟩:=Ac ((p.den:Int)*q.den);refine cL (r:= .agg [.bool F,.sl .u32 K]) s (EJ a.den b.den j (by have:=a.small m;have:=b.small ht;omega) (by have:=a.small m;have:=b.small ht;omega)) ⟨t2,t2,trivial⟩ ?_;try conv=>cbv
  obtain⟨G,L,z,A,h⟩:=Bb (r);refine cL (r:= .agg [.bool G,.sl .u32 L,.bool z,.sl .u32 A]) s (I3 i j (Int.mul_ne_zero (FW p) (FW q)) (M.trans (NZ p q)) h (by have:=a.small m;have:=b.small ht;have:=a.num.C0 b.den f rfl;have:=b.num.C0 a.den g rfl;have:=f.LF g i rfl (k:=8000000000000) (by omega) (by omega);omega) (by have:=a.small m;have:=b.small ht;have:=a.den.C0 b.den j rfl;omega)) ⟨t2,t2,trivial⟩ ?_;try conv=>cbv
  refine g2 rfl ?_;exact fA ⟨⟨rfl,congrArg _ ((h.uniq t rfl).1.1.symm),congrArg _ ((h.uniq t rfl).1.2.symm),congrArg _ ((h.uniq t rfl).2.1.symm),congrArg _ ((h.uniq t rfl).2.2.symm),trivial⟩,trivial⟩ rfl (by simp)
 obtain⟨N,O,v⟩:=Ac (p.num+q.num);refine cL (r:= .agg [.bool N,.sl .u32 O]) s (M9 a.num b.num v (by have:=a.small m;have:=b.small ht;omega) (by have:=a.small m;have:=b.small ht;omega)) ⟨t2,t2,trivial⟩ ?_;try conv=>cbv
 obtain⟨Q,R,w⟩:=Ac (1);refine cL s (O1 w) trivial ?_;try conv=>cbv
 exact fA ⟨⟨rfl,congrArg _ ((v.uniq t.num (by rw[M];exact (G1 (of_decide_eq_true u.symm) (of_decide_eq_true o.symm)).1.symm)).1.symm),congrArg _ ((v.uniq t.num (by rw[M];exact (G1 (of_decide_eq_true u.symm) (of_decide_eq_true o.symm)).1.symm)).2.symm),congrArg _ ((w.uniq t.den (by rw[M,(G1 (of_decide_eq_true u.symm) (of_decide_eq_true o.symm)).2];rfl)).1.symm),congrArg _ ((w.uniq t.den (by rw[M,(G1 (of_decide_eq_true u.symm) (of_decide_eq_true o.symm)).2];rfl)).2.symm),trivial⟩,trivial⟩ rfl (by simp)
theorem XF {p q:Rat} (b:BM p b1 l1 b2 l2) (f:BM q c1 m1 c2 m2) (j:Bj p) (ht:Bj q) (F:r=p*q) (k:BM r d1 k1 d2 k2):CF 337 [.agg [.bool b1,.sl .u32 l1,.bool b2,.sl .u32 l2],.agg [.bool c1,.sl .u32 m1,.bool c2,.sl .u32 m2]] (.agg [.bool d1,.sl .u32 k1,.bool d2,.sl .u32 k2]):=by
 refine AH Tryz.func337 (by kernel_rfl) rfl fun E D=>?_
 conv=>cbv
 obtain⟨L,m⟩:=xB (decide ((p.den:Int)=1));refine cL D (Iw b.den m) ⟨t2,trivial⟩ ?_;try conv=>cbv
 cases L <;> conv=>cbv
 ·obtain⟨v,A,g⟩:=Ac (p.num*q.num);refine cL (r:= .agg [.bool v,.sl .u32 A]) D (EJ b.num f.num g (by have:=b.small j;have:=f.small ht;omega) (by have:=b.small j;have:=f.small ht;omega)) ⟨t2,t2,trivial⟩ ?_;try conv=>cbv
  obtain⟨w,B,h⟩:=Ac ((p.den:Int)*q.den);refine cL (r:= .agg [.bool w,.sl .u32 B]) D (EJ b.den f.den h (by have:=b.small j;have:=f.small ht;omega) (by have:=b.small j;have:=f.small ht;omega)) ⟨t2,t2,trivial⟩ ?_;try conv=>cbv
  obtain⟨z,C,t,u,a⟩:=Bb (r);refine cL (r:= .agg [.bool z,.sl .u32 C,.bool t,.sl .u32 u]) D (I3 g h (Int.mul_ne_zero (FW p) (FW q)) (F.trans (MI p q)) a (by have:=b.small j;have:=f.small ht;have:=b.num.C0 f.num g rfl;omega) (by have:=b.small j;have:=f.small ht;have:=b.den.C0 f.den h rfl;omega)) ⟨t2,t2,trivial⟩ ?_;try conv=>cbv
  refine g2 rfl ?_;exact fA ⟨⟨rfl,congrArg _ ((a.uniq k rfl).1.1.symm),congrArg _ ((a.uniq k rfl).1.2.symm),congrArg _ ((a.uniq k rfl).2.1.symm),congrArg _ ((a.uniq k rfl).2.2.symm),trivial⟩,trivial⟩ rfl (by simp)
 obtain⟨I,i⟩:=xB (decide ((q.den:Int)=1));refine cL D (Iw f.den i) ⟨t2,trivial⟩ ?_;try conv=>cbv
 cases I <;> conv=>cbv
 ·obtain⟨v,A,g⟩:=Ac (p.num*q.num);refine cL (r:= .agg [.bool v,.sl .u32 A]) D (EJ b.num f.num g (by have:=b.small j;have:=f.small ht;omega) (by have:=b.small j;have:=f.small ht;omega)) ⟨t2,t2,trivial⟩ ?_;try conv=>cbv
  obtain⟨w,B,h⟩:=Ac ((p.den:Int)*q.den);refine cL (r:= .agg [.bool w,.sl .u32 B]) D (EJ b.den f.den h (by have:=b.small j;have:=f.small ht;omega) (by have:=b.small j;have:=f.small ht;omega)) ⟨t2,t2,trivial⟩ ?_;try conv=>cbv
  obtain⟨z,C,t,u,a⟩:=Bb (r);refine cL (r:= .agg [.bool z,.sl .u32 C,.bool t,.sl .u32 u]) D (I3 g h (Int.mul_ne_zero (FW p) (FW q)) (F.trans (MI p q)) a (by have:=b.small j;have:=f.small ht;have:=b.num.C0 f.num g rfl;omega) (by have:=b.small j;have:=f.small ht;have:=b.den.C0 f.den h rfl;omega)) ⟨t2,t2,trivial⟩ ?_;try conv=>cbv
  refine g2 rfl ?_;exact fA ⟨⟨rfl,congrArg _ ((a.uniq k rfl).1.1.symm),congrArg _ ((a.uniq k rfl).1.2.symm),congrArg _ ((a.uniq k rfl).2.1.symm),congrArg _ ((a.uniq k rfl).2.2.symm),trivial⟩,trivial⟩ rfl (by simp)
 obtain⟨G,H,o⟩:=Ac (p.num*q.num);refine cL (r:= .agg [.bool G,.sl .u32 H]) D (EJ b.num f.num o (by have:=b.small j;have:=f.small ht;omega) (by have:=b.small j;have:=f.small ht;omega)) ⟨t2,t2,trivial⟩ ?_;try conv=>cbv
 obtain⟨J,K,s⟩:=Ac (1);refine cL D (O1 s) trivial ?_;try conv=>cbv
 exact fA ⟨⟨rfl,congrArg _ ((o.uniq k.num (by rw[F];exact (mul_ones (of_decide_eq_true m.symm) (of_decide_eq_true i.symm)).1.symm)).1.symm),congrArg _ ((o.uniq k.num (by rw[F];exact (mul_ones (of_decide_eq_true m.symm) (of_decide_eq_true i.symm)).1.symm)).2.symm),congrArg _ ((s.uniq k.den (by rw[F,(mul_ones (of_decide_eq_true m.symm) (of_decide_eq_true i.symm)).2];rfl)).1.symm),congrArg _ ((s.uniq k.den (by rw[F,(mul_ones (of_decide_eq_true m.symm) (of_decide_eq_true i.symm)).2];rfl)).2.symm),trivial⟩,trivial⟩ rfl (by simp)
theorem XE {p q:Rat} (h:BM p b1 l1 b2 l2) (b:BM q c1 m1 c2 m2) (i:Bj p) (ht:Bj q) (k:q≠0) (D:r=p/q) (B:BM r d1 k1 d2 k2):CF 302 [.agg [.bool b1,.sl .u32 l1,.bool b2,.sl .u32 l2],.agg [.bool c1,.sl .u32 m1,.bool c2,.sl .u32 m2]] (.AE [(true,[.bool d1,.sl .u32 k1,.bool d2,.sl .u32 k2]),(false,[.int .i64 0])]):=by
 refine AH Tryz.func302 (by kernel_rfl) rfl fun E A=>?_
 conv=>cbv
 obtain⟨C,j⟩:=xB (decide (q.num=0));refine cL A (TJ b.num j) ⟨t2,trivial⟩ ?_;try conv=>cbv
 cases C <;> conv=>cbv
 ·obtain⟨s,v,f⟩:=Ac (p.num*q.den);refine cL (r:= .agg [.bool s,.sl .u32 v]) A (EJ h.num b.den f (by have:=h.small i;have:=b.small ht;omega) (by have:=h.small i;have:=b.small ht;omega)) ⟨t2,t2,trivial⟩ ?_;try conv=>cbv
  obtain⟨t,w,g⟩:=Ac ((p.den:Int)*q.num);refine cL (r:= .agg [.bool t,.sl .u32 w]) A (EJ h.den b.num g (by have:=h.small i;have:=b.small ht;omega) (by have:=h.small i;have:=b.small ht;omega)) ⟨t2,t2,trivial⟩ ?_;try conv=>cbv
  obtain⟨u,z,m,o,a⟩:=Bb (r);refine cL (r:= .agg [.bool u,.sl .u32 z,.bool m,.sl .u32 o]) A (I3 f g (Int.mul_ne_zero (FW p) (mt Rat.num_eq_zero.1 k)) (D.trans (Zj p q)) a (by have:=h.small i;have:=b.small ht;have:=h.num.C0 b.den f rfl;omega) (by have:=h.small i;have:=b.small ht;have:=h.den.C0 b.num g rfl;omega)) ⟨t2,t2,trivial⟩ ?_;try conv=>cbv
  refine g2 rfl ?_;exact fA ⟨⟨rfl,congrArg _ ((a.uniq B rfl).1.1.symm),congrArg _ ((a.uniq B rfl).1.2.symm),congrArg _ ((a.uniq B rfl).2.1.symm),congrArg _ ((a.uniq B rfl).2.2.symm),trivial⟩,t2,trivial⟩ rfl (by simp)
 exact absurd (Rat.num_eq_zero.1 (of_decide_eq_true j.symm)) k
theorem Ph (q:Rat):(q.num<0/\Dk q= -1)\/(q.num=0/\Dk q=0)\/(0<q.num/\Dk q=1):=Ee q.num
theorem Jw (q:Rat):0<(q.den:Int):=by have:=q.den_pos;omega
theorem Vg {p q:Rat} (h:Dk p<Dk q):p<q:=by
 rw[Rat.lt_iff];rcases Ph p with⟨a,e⟩ |⟨a,e⟩ |⟨a,e⟩ <;> rcases Ph q with⟨b,e'⟩ |⟨b,e'⟩ |⟨b,e'⟩ <;> rw[e,e'] at h <;> try omega
 ·rw[b,Int.zero_mul];exact Int.mul_neg_of_neg_of_pos a (Jw q)
 ·exact Int.lt_trans (Int.mul_neg_of_neg_of_pos a (Jw q)) (Int.mul_pos b (Jw p))
 rw[a,Int.zero_mul];exact Int.mul_pos b (Jw p)
theorem ZS {p q:Rat} (h:p<q):FG p q= -1:=by unfold FG;rw[if_pos h]
theorem ZR {p q:Rat} (h:q<p):FG p q=1:=by
 unfold FG;rw[if_neg (fun h'=>Int.lt_asymm ((Rat.lt_iff _ _).1 h) ((Rat.lt_iff _ _).1 h')),if_pos h]
theorem SF (p q:Rat):FG p q=BT (p.num*q.den) (q.num*p.den):=by
 unfold FG BT;simp only[Rat.lt_iff]
theorem XD {p q:Rat} {c:Int} (g:BM p b1 l1 b2 l2) (h:BM q c1 m1 c2 m2) (v:Bj p) (ht:Bj q) (w:c=FG p q):CF 254 [.agg [.bool b1,.sl .u32 l1,.bool b2,.sl .u32 l2],.agg [.bool c1,.sl .u32 m1,.bool c2,.sl .u32 m2]] (.one (.int .i64 c)):=by
 refine AH Tryz.func254 (by kernel_rfl) rfl fun E k=>?_
 conv=>cbv
 obtain⟨H,z⟩:=xI (Dk p);refine cL k (Kw g z) ⟨t4,trivial⟩ ?_;try conv=>cbv
 obtain⟨F,m⟩:=xI (Dk q);refine cL k (Kw h m) ⟨t4,trivial⟩ ?_;try conv=>cbv
 refine g2 rfl ?_;intro C i;conv=>cbv
 cases C <;> conv=>cbv
 ·have A:=Dg i;obtain⟨o,t,b⟩:=Ac (p.num*q.den);refine cL (r:= .agg [.bool o,.sl .u32 t]) k (EJ g.num h.den b (by have:=g.small v;have:=h.small ht;omega) (by have:=g.small v;have:=h.small ht;omega)) ⟨t2,t2,trivial⟩ ?_;try conv=>cbv
  obtain⟨s,u,f⟩:=Ac (q.num*p.den);refine cL (r:= .agg [.bool s,.sl .u32 u]) k (EJ h.num g.den f (by have:=g.small v;have:=h.small ht;omega) (by have:=g.small v;have:=h.small ht;omega)) ⟨t2,t2,trivial⟩ ?_;try conv=>cbv
  obtain⟨G,a⟩:=xI (BT (p.num*q.den) (q.num*p.den));refine cL k (QH b f a) ⟨t2,t2,trivial⟩ ?_;try conv=>cbv
  refine g2 rfl ?_;exact fA ⟨⟨rfl,congrArg _ (by rw[w,a,SF]),trivial⟩,trivial⟩ rfl (by simp)
 have A:=Dh i;intro D j;conv=>cbv
 cases D <;> conv=>cbv
 ·have B:=Ad j;exact fA ⟨⟨rfl,congrArg _ (by rw[w];exact ZR (Vg (by omega))),trivial⟩,trivial⟩ rfl (by simp)
 have B:=Ae j;exact fA ⟨⟨rfl,congrArg _ (by rw[w];exact ZS (Vg (by omega))),trivial⟩,trivial⟩ rfl (by simp)
theorem Ix {b:Bool} (h:Ag x b l) (h':Ag ((BN x.toNat:Nat):Int) b' l'):l'.length<=l.length:=by
 rw[h.BI,h'.BI,Int.natAbs_natCast];exact DW (Nat.le_trans (Nat.le_trans (Nat.le_mul_self _) (J6 x.toNat)) (by omega))
theorem eJ {e:Int} (h:e=if x<0 then 7 else 0) (a:e≠0):decide (((BN x.toNat:Nat):Int)*((BN x.toNat:Nat):Int)=x)=false:=by
 have f:x<0:=by
  apply Classical.byContradiction;intro b;rw[if_neg b] at h;exact a h
 rw[show x.toNat=0 by omega];simp only[decide_eq_false_iff_not];intro h';rw[show BN 0=0 from rfl] at h';omega
theorem ZV (a b:Int):decide (a=b)=(BT a b==0):=by
 unfold BT;rw[Bool.eq_iff_iff,decide_eq_true_eq,beq_iff_eq]
 split
 ·omega
 split <;> omega
theorem Mk (m:Ag x b1 l1) (o:Ag ((BN x.toNat:Nat):Int) b2 l2) (t:c=decide (((BN x.toNat:Nat):Int)*((BN x.toNat:Nat):Int)=x)) (s1:l1.length<=4000000000000):CF 352 [.agg [.bool b1,.sl .u32 l1]] (.AE [(true,[.bool b2,.sl .u32 l2]),(false,[.bool c])]):=by
 refine AH Tryz.func352 (by kernel_rfl) rfl fun E q=>?_
 conv=>cbv
 obtain⟨w,z,a⟩:=Ac ((BN x.toNat:Nat):Int);obtain⟨A,h⟩:=xI (if x<0 then 7 else 0);refine cL q (XP m a h (by omega)) ⟨t2,trivial⟩ ?_;try conv=>cbv
 intro s g;conv=>cbv
 cases s <;> conv=>cbv
 ·have i:=Au g;refine g2 rfl ?_;exact fA ⟨⟨rfl,congrArg _ ((a.uniq o rfl).1.symm),congrArg _ ((a.uniq o rfl).2.symm),trivial⟩,⟨rfl,congrArg _ (by rw[t];exact eJ h i),trivial⟩,trivial⟩ rfl (by simp)
 have i:=Av g;obtain⟨j,k,f⟩:=Ac (((BN x.toNat:Nat):Int)*((BN x.toNat:Nat):Int));refine cL (r:= .agg [.bool j,.sl .u32 k]) q (EJ a a f (by have:=Ix m a;omega) (by have:=Ix m a;omega)) ⟨t2,t2,trivial⟩ ?_;try conv=>cbv
 obtain⟨v,b⟩:=xI (BT (((BN x.toNat:Nat):Int)*((BN x.toNat:Nat):Int)) x);refine cL q (QH f m b) ⟨t2,t2,trivial⟩ ?_;try conv=>cbv
 intro u p;conv=>cbv
 refine g2 rfl ?_;exact fA ⟨⟨rfl,congrArg _ ((a.uniq o rfl).1.symm),congrArg _ ((a.uniq o rfl).2.symm),trivial⟩,⟨rfl,congrArg _ (by rw[t,p,b];exact ZV _ _),trivial⟩,trivial⟩ rfl (by simp)
theorem XI {q:Rat} (p:BM q b1 l1 b2 l2) (C:Bj q) (z:0<=r) (B:r*r=q) (s:BM r c1 m1 c2 m2):CF 323 [.agg [.bool b1,.sl .u32 l1,.bool b2,.sl .u32 l2]] (.AE [(true,[.bool c1,.sl .u32 m1,.bool c2,.sl .u32 m2]),(false,[.bool true])]):=by
 refine AH Tryz.func323 (by kernel_rfl) rfl fun E A=>?_
 conv=>cbv
 obtain⟨j,m,a⟩:=Ac (r.num);have u:=WA z B;refine cL (r:= .AE [(true,[.bool j,.sl .u32 m]),(false,[.bool true])]) A (Mk p.num (by rw[u.1];exact a) (by rw[u.1];exact (decide_eq_true u.2).symm) (by have:=p.small C;omega)) ⟨t2,trivial⟩ ?_;try conv=>cbv
 obtain⟨k,o,b⟩:=Ac (r.den:Int);have t:=V9 z B;refine cL (r:= .AE [(true,[.bool k,.sl .u32 o]),(false,[.bool true])]) A (Mk p.den (by rw[t.1];exact b) (by rw[t.1];exact (decide_eq_true t.2).symm) (by have:=p.small C;omega)) ⟨t2,trivial⟩ ?_;try conv=>cbv
 intro v f;conv=>cbv
 cases v <;> conv=>cbv
 ·have h:=CJ f;intro w g;conv=>cbv
  cases w <;> conv=>cbv
  ·have i:=CJ g;exact fA ⟨⟨rfl,congrArg _ ((a.uniq s.num rfl).1.symm),congrArg _ ((a.uniq s.num rfl).2.symm),congrArg _ ((b.uniq s.den rfl).1.symm),congrArg _ ((b.uniq s.den rfl).2.symm),trivial⟩,t2,trivial⟩ rfl (by simp)
  have i:=CK g;exact absurd i (by decide)
 have h:=CK f;exact absurd h (by decide)
theorem XH {q:Rat} (t:BM q b1 l1 b2 l2) (B:Bj q) (C:¬∃r:Rat,0<=r/\r*r=q):CF 323 [.agg [.bool b1,.sl .u32 l1,.bool b2,.sl .u32 l2]] (.AE [(true,[.bool false,.sl .u32 [],.bool false,.sl .u32 []]),(false,[.bool false])]):=by
 refine AH Tryz.func323 (by kernel_rfl) rfl fun E A=>?_
 conv=>cbv
 obtain⟨m,p,h⟩:=Ac (((BN q.num.toNat:Nat):Int));obtain⟨u,a⟩:=xB (decide (((BN q.num.toNat:Nat):Int)*((BN q.num.toNat:Nat):Int)=q.num));refine cL (r:= .AE [(true,[.bool m,.sl .u32 p]),(false,[.bool u])]) A (Mk t.num h a (by have:=t.small B;omega)) ⟨t2,trivial⟩ ?_;try conv=>cbv
 obtain⟨o,s,i⟩:=Ac (((BN (q.den:Int).toNat:Nat):Int));obtain⟨v,b⟩:=xB (decide (((BN (q.den:Int).toNat:Nat):Int)*((BN (q.den:Int).toNat:Nat):Int)=(q.den:Int)));refine cL (r:= .AE [(true,[.bool o,.sl .u32 s]),(false,[.bool v])]) A (Mk t.den i b (by have:=t.small B;omega)) ⟨t2,trivial⟩ ?_;try conv=>cbv
 intro w f;conv=>cbv
 cases w <;> conv=>cbv
 ·have j:=CJ f;intro z g;conv=>cbv
  cases z <;> conv=>cbv
  ·have k:=CJ g;exact absurd (V8 (of_decide_eq_true (a.symm.trans j)) (of_decide_eq_true (b.symm.trans k))) C
  have k:=CK g;exact fA ⟨⟨rfl,rfl,.inr (.inl ⟨_,rfl⟩),rfl,.inr (.inl ⟨_,rfl⟩),trivial⟩,t2,trivial⟩ rfl (by simp)
 have j:=CK f;exact fA ⟨⟨rfl,rfl,.inr (.inl ⟨_,rfl⟩),rfl,.inr (.inl ⟨_,rfl⟩),trivial⟩,t2,trivial⟩ rfl (by simp)
theorem Wz {q:Rat} (p:Ag n b1 l1) (s:Ag d b2 l2) (o:d≠0) (t:q=Rat.divInt n d) (m:BM q c1 m1 c2 m2) (s1:l1.length<=17592186042000) (s2:l2.length<=17592186042000):CF 243 [.agg [.bool b1,.sl .u32 l1],.agg [.bool b2,.sl .u32 l2]] (.AE [(true,[.bool c1,.sl .u32 m1,.bool c2,.sl .u32 m2]),(false,[.int .i64 0])]):=by
 refine AH Tryz.func243 (by kernel_rfl) rfl fun E k=>?_
 conv=>cbv
 obtain⟨u,w,f⟩:=Ac (n);refine cL k (QV p (by omega) f) ⟨t2,trivial⟩ ?_;try conv=>cbv
 obtain⟨v,z,b⟩:=Ac (d);refine cL k (QV s (by omega) b) ⟨t2,trivial⟩ ?_;try conv=>cbv
 refine g2 rfl ?_;refine cL (r:= .one (.bool false)) k (TJ b (by simp[o])) ⟨t2,trivial⟩ ?_;try conv=>cbv
 obtain⟨i,j,g,h,a⟩:=Bb (q);refine cL (r:= .agg [.bool i,.sl .u32 j,.bool g,.sl .u32 h]) k (I3 f b o t a (by rw[(f.uniq p rfl).2];exact s1) (by rw[(b.uniq s rfl).2];exact s2)) ⟨t2,t2,trivial⟩ ?_;try conv=>cbv
 exact fA ⟨⟨rfl,congrArg _ ((a.uniq m rfl).1.1.symm),congrArg _ ((a.uniq m rfl).1.2.symm),congrArg _ ((a.uniq m rfl).2.1.symm),congrArg _ ((a.uniq m rfl).2.2.symm),trivial⟩,t2,trivial⟩ rfl (by simp)
theorem M3 {b:Bool} (a: -9223372036854775808<=x/\x<9223372036854775808) (h:Ag x b l):l.length<=2:=by
 rw[h.BI];exact E2 (by omega)
theorem QK {q:Rat} (v: -9223372036854775808<=n/\n<9223372036854775808) (u: -9223372036854775808<=d/\d<9223372036854775808) (F:d≠0) (G:q=Rat.divInt n d) (s:BM q c1 m1 c2 m2):CF 185 [.one (.int .i64 n),.one (.int .i64 d)] (.agg [.bool c1,.sl .u32 m1,.bool c2,.sl .u32 m2]):=by
 refine AH Tryz.func185 (by kernel_rfl) rfl fun E p=>?_
 conv=>cbv
 obtain⟨H,I,f⟩:=Ac (n);refine cL p (Kq v f) t1 ?_;try conv=>cbv
 obtain⟨A,C,b⟩:=Ac (d);refine cL p (Kq u b) t1 ?_;try conv=>cbv
 obtain⟨m,o,j,k,a⟩:=Bb q;refine cL (r:= .AE [(true,[.bool m,.sl .u32 o,.bool j,.sl .u32 k]),(false,[.int .i64 0])]) p (Wz f b F G a (by have:=M3 v f;omega) (by have:=M3 u b;omega)) ⟨t2,t2,trivial⟩ ?_;try conv=>cbv
 intro t g;conv=>cbv
 cases t <;> conv=>cbv
 ·have i:=Dg g;exact fA ⟨⟨rfl,congrArg _ ((a.uniq s rfl).1.1.symm),congrArg _ ((a.uniq s rfl).1.2.symm),congrArg _ ((a.uniq s rfl).2.1.symm),congrArg _ ((a.uniq s rfl).2.2.symm),trivial⟩,trivial⟩ rfl (by simp)
 have i:=Dh g;obtain⟨B,D,w,z,h⟩:=Bb (((0:Int):Rat));refine cL p (F1 (by omega) rfl h) t1 ?_;try conv=>cbv
 exact absurd i (by decide)
theorem gk (f:Ag y b2 l2) (h:Bu y<=0):GP b1 l1 b2 l2=false:=by
 apply Bool.eq_false_iff.2;intro h';obtain⟨q,b⟩:=P6.1 h';have e:y=(q.den:Int):=by rw[f.ER,b.den.ER]
 have:=Jw q;rcases Ee y with⟨a,e'⟩ |⟨a,e'⟩ |⟨a,e'⟩ <;> omega
theorem gj (f:true=Fw b1 l1) (g:true=Fw b2 l2) (k:Ag x b1 l1) (b:Ag y b2 l2) (h:0<Bu y) (i:c=decide (((Nat.gcd x.natAbs y.natAbs:Nat):Int)=1)):GP b1 l1 b2 l2=c:=by
 have m:0<y:=by rcases Ee y with⟨a,e'⟩ |⟨a,e'⟩ |⟨a,e'⟩ <;> omega
 have hb:b2=false:=by rw[b.neg];exact decide_eq_false (by omega)
 have j:l2≠[]:=fun e=>by have:=b.nil.1 e;omega
 unfold GP;rw[<-f,<-g,hb,decide_eq_true j,i,k.nat,b.nat];simp only[Bool.true_and,Bool.not_false];rw[Bool.eq_iff_iff,decide_eq_true_eq,decide_eq_true_eq];omega
theorem QX (k:c=GP b1 l1 b2 l2) (s1:l1.length<=17592186042000) (s2:l2.length<=17592186042000):CF 322 [.agg [.bool b1,.sl .u32 l1,.bool b2,.sl .u32 l2]] (.one (.bool c)):=by
 refine AH Tryz.func322 (by kernel_rfl) rfl fun E i=>?_
 conv=>cbv
 obtain⟨v,a⟩:=xB (Fw b1 l1);refine cL i (Qg a) ⟨t2,trivial⟩ ?_;try conv=>cbv
 cases v <;> conv=>cbv
 ·exact fA ⟨⟨rfl,congrArg _ (by rw[k];unfold GP;rw[<-a];rfl),trivial⟩,trivial⟩ rfl (by simp)
 obtain⟨w,b⟩:=xB (Fw b2 l2);refine cL i (Qg b) ⟨t2,trivial⟩ ?_;try conv=>cbv
 cases w <;> conv=>cbv
 ·exact fA ⟨⟨rfl,congrArg _ (by rw[k];unfold GP;rw[<-b];exact Bool.and_false _),trivial⟩,trivial⟩ rfl (by simp)
 obtain⟨x,q⟩:=JS.1 a.symm;obtain⟨y,m⟩:=JS.1 b.symm;obtain⟨z,j⟩:=xI (Bu y);refine cL i (JY m j) ⟨t2,trivial⟩ ?_;try conv=>cbv
 intro p h;conv=>cbv
 cases p <;> conv=>cbv
 ·have o:=CA h;exact fA ⟨⟨rfl,congrArg _ (by rw[k];exact gk m (by omega)),trivial⟩,trivial⟩ rfl (by simp)
 have o:=CB h;obtain⟨s,t,g⟩:=Ac (((Nat.gcd x.natAbs y.natAbs:Nat):Int));refine cL i (QL q m g (by omega) (by omega)) ⟨t2,t2,trivial⟩ ?_;try conv=>cbv
 obtain⟨u,f⟩:=xB (decide (((Nat.gcd x.natAbs y.natAbs:Nat):Int)=1));refine cL i (Iw g f) ⟨t2,trivial⟩ ?_;try conv=>cbv
 exact fA ⟨⟨rfl,congrArg _ (by rw[k];exact gj a b q m (by omega) f),trivial⟩,trivial⟩ rfl (by simp)
end Go.Abs
