/- Part 18 of a proof. Conditions: each theorem's own. -/
import Derived.Test.YtclgfoceefhnkaaGreatDoorLk14
set_option linter.all false
set_option maxHeartbeats 80000000
set_option maxRecDepth 20000
open Go.Proofs
namespace Go.Abs
open Go.RowKit
variable {b' b1 b2 c c1 c2 d1 d2:Bool} {d n x y:Int} {k1 k2 l l' l1 l2 m1 m2:List UInt32} {r:Rat}
theorem UE {b:Bool} (h:Af x b l) (f:c=decide (x=0)):CF 350 [.agg (BC b l)] (.one (.bool c)):=by
 refine AM Tryz.func350 fun E k=>?_
 conv=>cbv
 rintro m ⟨j,f5⟩;conv=>cbv
 intro q a;conv=>cbv
 exact AD ⟨⟨rfl,congrArg _ (by rw[f,a,Bool.eq_iff_iff];simp only[decide_eq_true_eq,beq_iff_eq];rw[<-h.Eo];omega),trivial⟩,trivial⟩
theorem Iy {b:Bool} (m:Af x b l) (k:c=decide (x=1)):CF 383 [.agg (BC b l)] (.one (.bool c)):=by
 refine AM Tryz.func383 fun E J=>?_
 conv=>cbv
 intro H z;conv=>cbv
 cases H <;> conv=>cbv
 ·have u:=CN z;exact AD ⟨⟨rfl,congrArg _ (by rw[k];exact (PD m u).symm),trivial⟩,trivial⟩
 have u:=CO z;rintro K ⟨I,f9⟩;conv=>cbv
 intro v f;conv=>cbv
 cases v <;> conv=>cbv
 ·have q:=AN f;exact AD ⟨⟨rfl,congrArg _ (by rw[k];exact (U8 m (by omega)).symm),trivial⟩,trivial⟩
 have q:=AO f;obtain⟨w,a⟩:=AL (l:=l) (i:=0) (by omega);refine⟨w,fun _=>⟨by omega,a⟩,?_⟩;try conv=>cbv
 intro F h;have D:=h.eq;have f16:=h.lt;conv=>cbv
 intro G j;conv=>cbv
 exact AD ⟨⟨rfl,congrArg _ (by rw[k,j,<-PF m u (by omega) a,Bool.eq_iff_iff];simp only[decide_eq_true_eq,beq_iff_eq];omega),trivial⟩,trivial⟩
theorem PE {b:Bool} (f:Af 1 b l):CF 305 [] (.agg (BC b l)):=by
 refine AM Tryz.func305 fun E h=>?_
 conv=>cbv
 obtain⟨j,k,a⟩:=AW (1);refine AB h (K9 (by omega) a) ?_;conv=>cbv
 exact AD ⟨⟨rfl,congrArg _ ((a.uniq f rfl).1.symm),congrArg _ ((a.uniq f rfl).2.symm),trivial⟩,trivial⟩
theorem Ml {b3:Bool} {l3:List UInt32} (j:Af x b1 l1) (q:Af y b2 l2) (k:y≠0) (h:Af (B9 x y) b3 l3) (s1:l1.length<=17592186042000) (s2:l2.length<=17592186042000):CF 382 [.agg (BC b1 l1),.agg (BC b2 l2)] (.agg (BC b3 l3)):=by
 refine AM Tryz.func382 fun E m=>?_
 conv=>cbv
 obtain⟨D,b⟩:=xB (decide (y=1));refine AB m (Iy q b) ?_;conv=>cbv
 cases D <;> conv=>cbv
 ·obtain⟨w,z,a⟩:=AW (B9 x y);obtain⟨u,v,f⟩:=AW (F6 x y);refine AB m (Xc j q k a f (by omega) (by omega)) ?_;conv=>cbv
  exact AD ⟨⟨rfl,congrArg _ ((a.uniq h rfl).1.symm),congrArg _ ((a.uniq h rfl).2.symm),trivial⟩,trivial⟩
 exact AD ⟨⟨rfl,congrArg _ ((h.uniq j (by rw[of_decide_eq_true b.symm];exact Sx x)).1),congrArg _ ((h.uniq j (by rw[of_decide_eq_true b.symm];exact Sx x)).2),trivial⟩,trivial⟩
theorem KK {b:Bool} (a:d≠0) (h:Af d b l) (h':Af ((Nat.gcd n.natAbs d.natAbs:Nat):Int) b' l'):l'.length<=l.length:=by
 rw[h.BD,h'.BD,Int.natAbs_natCast];exact Df (Nat.le_of_dvd (by omega) (Nat.gcd_dvd_right _ _))
theorem L5 {b:Bool} (a:d≠0) (h:Af d b l) (h':Af (-((Nat.gcd n.natAbs d.natAbs:Nat):Int)) b' l'):l'.length<=l.length:=by
 rw[h.BD,h'.BD,Int.natAbs_neg,Int.natAbs_natCast];exact Df (Nat.le_of_dvd (by omega) (Nat.gcd_dvd_right _ _))
theorem L6 (a:d≠0):((Nat.gcd n.natAbs d.natAbs:Nat):Int)≠0:=by
 have:=Nat.gcd_pos_of_pos_right n.natAbs (n:=d.natAbs) (by omega);omega
theorem Og {b:Bool} (h:Af d b l) (e:b=true):d<0:=by
 have:=h.neg;rw[e] at this;simpa using this.symm
theorem Of {b:Bool} (h:Af d b l) (e:b=false):¬d<0:=by
 have:=h.neg;rw[e] at this;simpa using this.symm
theorem I6 {q:Rat} (M:Af n b1 l1) (j:Af d b2 l2) (k:d≠0) (L:q=Rat.divInt n d) (D:BE q c1 m1 c2 m2) (s1:l1.length<=17592186042000) (s2:l2.length<=17592186042000):CF 351 [.agg (BC b1 l1),.agg (BC b2 l2)] (.agg (BV c1 m1 c2 m2)):=by
 refine AM Tryz.func351 fun E H=>?_
 conv=>cbv
 obtain⟨N,O,h⟩:=AW (((Nat.gcd n.natAbs d.natAbs:Nat):Int));refine AB H (QS M j h (by omega) (by omega)) ?_;conv=>cbv
 refine .inr ?_;cases b2 <;> conv=>cbv
 ·obtain⟨u,w,a⟩:=AW (B9 n (if d<0 then -((Nat.gcd n.natAbs d.natAbs:Nat):Int) else ((Nat.gcd n.natAbs d.natAbs:Nat):Int)));have K:Af (if d<0 then -((Nat.gcd n.natAbs d.natAbs:Nat):Int) else ((Nat.gcd n.natAbs d.natAbs:Nat):Int)) N O:=by rw[if_neg (Of j rfl)];exact h
  have m:(if d<0 then -((Nat.gcd n.natAbs d.natAbs:Nat):Int) else ((Nat.gcd n.natAbs d.natAbs:Nat):Int))≠0:=by rw[if_neg (Of j rfl)];have:=L6 (n:=n) k;omega
  have J:B9 n (if d<0 then -((Nat.gcd n.natAbs d.natAbs:Nat):Int) else ((Nat.gcd n.natAbs d.natAbs:Nat):Int))=q.num:=by rw[L];exact (MP k).symm
  have I:B9 d (if d<0 then -((Nat.gcd n.natAbs d.natAbs:Nat):Int) else ((Nat.gcd n.natAbs d.natAbs:Nat):Int))=(q.den:Int):=by rw[L];exact (MO k).symm
  refine AB (r:= .agg [.bool u,.sl .u32 w]) H (Ml M K m a (by omega) (by have:=KK k j h;omega)) ?_;try conv=>cbv
  obtain⟨v,z,b⟩:=AW (B9 d (if d<0 then -((Nat.gcd n.natAbs d.natAbs:Nat):Int) else ((Nat.gcd n.natAbs d.natAbs:Nat):Int)));refine AB (r:= .agg [.bool v,.sl .u32 z]) H (Ml j K m b (by omega) (by have:=KK k j h;omega)) ?_;try conv=>cbv
  refine g2 rfl ?_;exact AD ⟨⟨rfl,congrArg _ ((a.uniq D.num J).1.symm),congrArg _ ((a.uniq D.num J).2.symm),congrArg _ ((b.uniq D.den I).1.symm),congrArg _ ((b.uniq D.den I).2.symm),trivial⟩,trivial⟩
 obtain⟨F,G,f⟩:=AW (-((Nat.gcd n.natAbs d.natAbs:Nat):Int));refine AB (r:= .agg [.bool F,.sl .u32 G]) H (Qa h (by have:=KK k j h;omega) f) ?_;try conv=>cbv
 obtain⟨u,w,a⟩:=AW (B9 n (if d<0 then -((Nat.gcd n.natAbs d.natAbs:Nat):Int) else ((Nat.gcd n.natAbs d.natAbs:Nat):Int)));have K:Af (if d<0 then -((Nat.gcd n.natAbs d.natAbs:Nat):Int) else ((Nat.gcd n.natAbs d.natAbs:Nat):Int)) F G:=by rw[if_pos (Og j rfl)];exact f
 have m:(if d<0 then -((Nat.gcd n.natAbs d.natAbs:Nat):Int) else ((Nat.gcd n.natAbs d.natAbs:Nat):Int))≠0:=by rw[if_pos (Og j rfl)];have:=L6 (n:=n) k;omega
 have J:B9 n (if d<0 then -((Nat.gcd n.natAbs d.natAbs:Nat):Int) else ((Nat.gcd n.natAbs d.natAbs:Nat):Int))=q.num:=by rw[L];exact (MP k).symm
 have I:B9 d (if d<0 then -((Nat.gcd n.natAbs d.natAbs:Nat):Int) else ((Nat.gcd n.natAbs d.natAbs:Nat):Int))=(q.den:Int):=by rw[L];exact (MO k).symm
 refine AB (r:= .agg [.bool u,.sl .u32 w]) H (Ml M K m a (by omega) (by have:=L5 k j f;omega)) ?_;try conv=>cbv
 obtain⟨v,z,b⟩:=AW (B9 d (if d<0 then -((Nat.gcd n.natAbs d.natAbs:Nat):Int) else ((Nat.gcd n.natAbs d.natAbs:Nat):Int)));refine AB (r:= .agg [.bool v,.sl .u32 z]) H (Ml j K m b (by omega) (by have:=L5 k j f;omega)) ?_;try conv=>cbv
 refine g2 rfl ?_;exact AD ⟨⟨rfl,congrArg _ ((a.uniq D.num J).1.symm),congrArg _ ((a.uniq D.num J).2.symm),congrArg _ ((b.uniq D.den I).1.symm),congrArg _ ((b.uniq D.den I).2.symm),trivial⟩,trivial⟩
theorem Gn {q:Rat} (k: -9223372036854775808<=x/\x<9223372036854775808) (f:q=(x:Rat)) (h:BE q c1 m1 c2 m2):CF 245 [.one (.int .i64 x)] (.agg (BV c1 m1 c2 m2)):=by
 refine AM Tryz.func245 fun E j=>?_
 conv=>cbv
 obtain⟨m,v,a⟩:=AW (x);refine AB j (K9 k a) ?_;conv=>cbv
 obtain⟨u,w,b⟩:=AW (1);refine AB j (PE b) ?_;conv=>cbv
 exact AD ⟨⟨rfl,congrArg _ ((a.uniq h.num (by rw[f];rfl)).1.symm),congrArg _ ((a.uniq h.num (by rw[f];rfl)).2.symm),congrArg _ ((b.uniq h.den (by rw[f];rfl)).1.symm),congrArg _ ((b.uniq h.den (by rw[f];rfl)).2.symm),trivial⟩,trivial⟩
theorem LD {q:Rat} {c:Int} (h:BE q b1 l1 b2 l2) (f:c=DO q):CF 311 [.agg (BV b1 l1 b2 l2)] (.one (.int .i64 c)):=by
 refine AM Tryz.func311 fun E b=>?_
 conv=>cbv
 obtain⟨j,a⟩:=xI (B7 q.num);refine AB b (Jn h.num a) ?_;conv=>cbv
 exact AD ⟨⟨rfl,congrArg _ (by rw[f,a];rfl),trivial⟩,trivial⟩
theorem X0 {q p:Rat} (f:BE q b1 l1 b2 l2) (u:Bt q) (b:p= -q) (h:BE p c1 m1 c2 m2):CF 314 [.agg (BV b1 l1 b2 l2)] (.agg (BV c1 m1 c2 m2)):=by
 refine AM Tryz.func314 fun E m=>?_
 conv=>cbv
 obtain⟨j,k,a⟩:=AW (-q.num);refine AB (r:= .agg [.bool j,.sl .u32 k]) m (Qa f.num (by have:=f.small u;omega) a) ?_;try conv=>cbv
 refine g2 rfl ?_;exact AD ⟨⟨rfl,congrArg _ ((a.uniq h.num (by rw[b];rfl)).1.symm),congrArg _ ((a.uniq h.num (by rw[b];rfl)).2.symm),congrArg _ ((f.den.uniq h.den (by rw[b];rfl)).1.symm),congrArg _ ((f.den.uniq h.den (by rw[b];rfl)).2.symm),trivial⟩,trivial⟩
theorem Xw {p q:Rat} (a:BE p b1 l1 b2 l2) (b:BE q c1 m1 c2 m2) (v:Bt p) (ht:Bt q) (W:r=p+q) (D:BE r d1 k1 d2 k2):CF 354 [.agg (BV b1 l1 b2 l2),.agg (BV c1 m1 c2 m2)] (.agg (BV d1 k1 d2 k2)):=by
 refine AM Tryz.func354 fun E z=>?_
 conv=>cbv
 obtain⟨b8,F⟩:=xB (decide ((p.den:Int)=1));refine AB z (Iy a.den F) ?_;conv=>cbv
 cases b8 <;> conv=>cbv
 ·obtain⟨K,P,f⟩:=AW (p.num*q.den);refine AB (r:= .agg [.bool K,.sl .u32 P]) z (EU a.num b.den f (by have:=a.small v;have:=b.small ht;omega) (by have:=a.small v;have:=b.small ht;omega)) ?_;try conv=>cbv
  obtain⟨L,Q,h⟩:=AW (q.num*p.den);refine AB (r:= .agg [.bool L,.sl .u32 Q]) z (EU b.num a.den h (by have:=a.small v;have:=b.small ht;omega) (by have:=a.small v;have:=b.small ht;omega)) ?_;try conv=>cbv
  obtain⟨M,S,m⟩:=AW (p.num*q.den+q.num*p.den);refine AB (r:= .agg [.bool M,.sl .u32 S]) z (NJ f h m (by have:=a.small v;have:=b.small ht;have:=a.num.C8 b.den f rfl;omega) (by have:=a.small v;have:=b.small ht;have:=b.num.C8 a.den h rfl;omega)) ?_;try conv=>cbv
  refine g2 rfl ?_;obtain⟨N,U,u⟩:=AW ((p.den:Int)*q.den);refine AB (r:= .agg [.bool N,.sl .u32 U]) z (EU a.den b.den u (by have:=a.small v;have:=b.small ht;omega) (by have:=a.small v;have:=b.small ht;omega)) ?_;try conv=>cbv
  obtain⟨O,V,I,J,j⟩:=Bl (r);refine AB (r:= .agg [.bool O,.sl .u32 V,.bool I,.sl .u32 J]) z (I6 m u (Int.mul_ne_zero (Fy p) (Fy q)) (W.trans (Ng p q)) j (by have:=a.small v;have:=b.small ht;have:=a.num.C8 b.den f rfl;have:=b.num.C8 a.den h rfl;have:=f.LS h m rfl (k:=8000000000000) (by omega) (by omega);omega) (by have:=a.small v;have:=b.small ht;have:=a.den.C8 b.den u rfl;omega)) ?_;try conv=>cbv
  refine g2 rfl ?_;exact AD ⟨⟨rfl,congrArg _ ((j.uniq D rfl).1.1.symm),congrArg _ ((j.uniq D rfl).1.2.symm),congrArg _ ((j.uniq D rfl).2.1.symm),congrArg _ ((j.uniq D rfl).2.2.symm),trivial⟩,trivial⟩
 obtain⟨a5,w⟩:=xB (decide ((q.den:Int)=1));refine AB z (Iy b.den w) ?_;conv=>cbv
 cases a5 <;> conv=>cbv
 ·obtain⟨K,P,f⟩:=AW (p.num*q.den);refine AB (r:= .agg [.bool K,.sl .u32 P]) z (EU a.num b.den f (by have:=a.small v;have:=b.small ht;omega) (by have:=a.small v;have:=b.small ht;omega)) ?_;try conv=>cbv
  obtain⟨L,Q,h⟩:=AW (q.num*p.den);refine AB (r:= .agg [.bool L,.sl .u32 Q]) z (EU b.num a.den h (by have:=a.small v;have:=b.small ht;omega) (by have:=a.small v;have:=b.small ht;omega)) ?_;try conv=>cbv
  obtain⟨M,S,m⟩:=AW (p.num*q.den+q.num*p.den);refine AB (r:= .agg [.bool M,.sl .u32 S]) z (NJ f h m (by have:=a.small v;have:=b.small ht;have:=a.num.C8 b.den f rfl;omega) (by have:=a.small v;have:=b.small ht;have:=b.num.C8 a.den h rfl;omega)) ?_;try conv=>cbv
  refine g2 rfl ?_;obtain⟨N,U,u⟩:=AW ((p.den:Int)*q.den);refine AB (r:= .agg [.bool N,.sl .u32 U]) z (EU a.den b.den u (by have:=a.small v;have:=b.small ht;omega) (by have:=a.small v;have:=b.small ht;omega)) ?_;try conv=>cbv
  obtain⟨O,V,I,J,j⟩:=Bl (r);refine AB (r:= .agg [.bool O,.sl .u32 V,.bool I,.sl .u32 J]) z (I6 m u (Int.mul_ne_zero (Fy p) (Fy q)) (W.trans (Ng p q)) j (by have:=a.small v;have:=b.small ht;have:=a.num.C8 b.den f rfl;have:=b.num.C8 a.den h rfl;have:=f.LS h m rfl (k:=8000000000000) (by omega) (by omega);omega) (by have:=a.small v;have:=b.small ht;have:=a.den.C8 b.den u rfl;omega)) ?_;try conv=>cbv
  refine g2 rfl ?_;exact AD ⟨⟨rfl,congrArg _ ((j.uniq D rfl).1.1.symm),congrArg _ ((j.uniq D rfl).1.2.symm),congrArg _ ((j.uniq D rfl).2.1.symm),congrArg _ ((j.uniq D rfl).2.2.symm),trivial⟩,trivial⟩
 obtain⟨a1,a2,G⟩:=AW (p.num+q.num);refine AB (r:= .agg [.bool a1,.sl .u32 a2]) z (NJ a.num b.num G (by have:=a.small v;have:=b.small ht;omega) (by have:=a.small v;have:=b.small ht;omega)) ?_;try conv=>cbv
 obtain⟨a6,a7,H⟩:=AW (1);refine AB z (PE H) ?_;conv=>cbv
 exact AD ⟨⟨rfl,congrArg _ ((G.uniq D.num (by rw[W];exact (HQ (of_decide_eq_true F.symm) (of_decide_eq_true w.symm)).1.symm)).1.symm),congrArg _ ((G.uniq D.num (by rw[W];exact (HQ (of_decide_eq_true F.symm) (of_decide_eq_true w.symm)).1.symm)).2.symm),congrArg _ ((H.uniq D.den (by rw[W,(HQ (of_decide_eq_true F.symm) (of_decide_eq_true w.symm)).2];rfl)).1.symm),congrArg _ ((H.uniq D.den (by rw[W,(HQ (of_decide_eq_true F.symm) (of_decide_eq_true w.symm)).2];rfl)).2.symm),trivial⟩,trivial⟩
theorem Xz {p q:Rat} (b:BE p b1 l1 b2 l2) (f:BE q c1 m1 c2 m2) (m:Bt p) (ht:Bt q) (N:r=p*q) (u:BE r d1 k1 d2 k2):CF 366 [.agg (BV b1 l1 b2 l2),.agg (BV c1 m1 c2 m2)] (.agg (BV d1 k1 d2 k2)):=by
 refine AM Tryz.func366 fun E M=>?_
 conv=>cbv
 obtain⟨V,v⟩:=xB (decide ((p.den:Int)=1));refine AB M (Iy b.den v) ?_;conv=>cbv
 cases V <;> conv=>cbv
 ·obtain⟨G,J,h⟩:=AW (p.num*q.num);refine AB (r:= .agg [.bool G,.sl .u32 J]) M (EU b.num f.num h (by have:=b.small m;have:=f.small ht;omega) (by have:=b.small m;have:=f.small ht;omega)) ?_;try conv=>cbv
  obtain⟨H,K,j⟩:=AW ((p.den:Int)*q.den);refine AB (r:= .agg [.bool H,.sl .u32 K]) M (EU b.den f.den j (by have:=b.small m;have:=f.small ht;omega) (by have:=b.small m;have:=f.small ht;omega)) ?_;try conv=>cbv
  obtain⟨I,L,D,F,a⟩:=Bl (r);refine AB (r:= .agg [.bool I,.sl .u32 L,.bool D,.sl .u32 F]) M (I6 h j (Int.mul_ne_zero (Fy p) (Fy q)) (N.trans (MT p q)) a (by have:=b.small m;have:=f.small ht;have:=b.num.C8 f.num h rfl;omega) (by have:=b.small m;have:=f.small ht;have:=b.den.C8 f.den j rfl;omega)) ?_;try conv=>cbv
  refine g2 rfl ?_;exact AD ⟨⟨rfl,congrArg _ ((a.uniq u rfl).1.1.symm),congrArg _ ((a.uniq u rfl).1.2.symm),congrArg _ ((a.uniq u rfl).2.1.symm),congrArg _ ((a.uniq u rfl).2.2.symm),trivial⟩,trivial⟩
 obtain⟨Q,k⟩:=xB (decide ((q.den:Int)=1));refine AB M (Iy f.den k) ?_;conv=>cbv
 cases Q <;> conv=>cbv
 ·obtain⟨G,J,h⟩:=AW (p.num*q.num);refine AB (r:= .agg [.bool G,.sl .u32 J]) M (EU b.num f.num h (by have:=b.small m;have:=f.small ht;omega) (by have:=b.small m;have:=f.small ht;omega)) ?_;try conv=>cbv
  obtain⟨H,K,j⟩:=AW ((p.den:Int)*q.den);refine AB (r:= .agg [.bool H,.sl .u32 K]) M (EU b.den f.den j (by have:=b.small m;have:=f.small ht;omega) (by have:=b.small m;have:=f.small ht;omega)) ?_;try conv=>cbv
  obtain⟨I,L,D,F,a⟩:=Bl (r);refine AB (r:= .agg [.bool I,.sl .u32 L,.bool D,.sl .u32 F]) M (I6 h j (Int.mul_ne_zero (Fy p) (Fy q)) (N.trans (MT p q)) a (by have:=b.small m;have:=f.small ht;have:=b.num.C8 f.num h rfl;omega) (by have:=b.small m;have:=f.small ht;have:=b.den.C8 f.den j rfl;omega)) ?_;try conv=>cbv
  refine g2 rfl ?_;exact AD ⟨⟨rfl,congrArg _ ((a.uniq u rfl).1.1.symm),congrArg _ ((a.uniq u rfl).1.2.symm),congrArg _ ((a.uniq u rfl).2.1.symm),congrArg _ ((a.uniq u rfl).2.2.symm),trivial⟩,trivial⟩
 obtain⟨O,P,w⟩:=AW (p.num*q.num);refine AB (r:= .agg [.bool O,.sl .u32 P]) M (EU b.num f.num w (by have:=b.small m;have:=f.small ht;omega) (by have:=b.small m;have:=f.small ht;omega)) ?_;try conv=>cbv
 obtain⟨S,U,z⟩:=AW (1);refine AB M (PE z) ?_;conv=>cbv
 exact AD ⟨⟨rfl,congrArg _ ((w.uniq u.num (by rw[N];exact (mul_ones (of_decide_eq_true v.symm) (of_decide_eq_true k.symm)).1.symm)).1.symm),congrArg _ ((w.uniq u.num (by rw[N];exact (mul_ones (of_decide_eq_true v.symm) (of_decide_eq_true k.symm)).1.symm)).2.symm),congrArg _ ((z.uniq u.den (by rw[N,(mul_ones (of_decide_eq_true v.symm) (of_decide_eq_true k.symm)).2];rfl)).1.symm),congrArg _ ((z.uniq u.den (by rw[N,(mul_ones (of_decide_eq_true v.symm) (of_decide_eq_true k.symm)).2];rfl)).2.symm),trivial⟩,trivial⟩
theorem Xy {p q:Rat} (j:BE p b1 l1 b2 l2) (b:BE q c1 m1 c2 m2) (k:Bt p) (ht:Bt q) (u:q≠0) (M:r=p/q) (K:BE r d1 k1 d2 k2):CF 372 [.agg (BV b1 l1 b2 l2),.agg (BV c1 m1 c2 m2)] (.AJ [(true,(BV d1 k1 d2 k2)),(false,[.int .i64 0])]):=by
 refine AM Tryz.func372 fun E J=>?_
 conv=>cbv
 obtain⟨L,m⟩:=xB (decide (q.num=0));refine AB J (UE b.num m) ?_;conv=>cbv
 cases L <;> conv=>cbv
 ·obtain⟨z,G,f⟩:=AW (p.num*q.den);refine AB (r:= .agg [.bool z,.sl .u32 G]) J (EU j.num b.den f (by have:=j.small k;have:=b.small ht;omega) (by have:=j.small k;have:=b.small ht;omega)) ?_;try conv=>cbv
  obtain⟨D,H,h⟩:=AW ((p.den:Int)*q.num);refine AB (r:= .agg [.bool D,.sl .u32 H]) J (EU j.den b.num h (by have:=j.small k;have:=b.small ht;omega) (by have:=j.small k;have:=b.small ht;omega)) ?_;try conv=>cbv
  obtain⟨F,I,v,w,a⟩:=Bl (r);refine AB (r:= .agg [.bool F,.sl .u32 I,.bool v,.sl .u32 w]) J (I6 f h (Int.mul_ne_zero (Fy p) (mt Rat.num_eq_zero.1 u)) (M.trans (aj p q)) a (by have:=j.small k;have:=b.small ht;have:=j.num.C8 b.den f rfl;omega) (by have:=j.small k;have:=b.small ht;have:=j.den.C8 b.num h rfl;omega)) ?_;try conv=>cbv
  refine g2 rfl ?_;exact AD ⟨⟨rfl,congrArg _ ((a.uniq K rfl).1.1.symm),congrArg _ ((a.uniq K rfl).1.2.symm),congrArg _ ((a.uniq K rfl).2.1.symm),congrArg _ ((a.uniq K rfl).2.2.symm),trivial⟩,t2,trivial⟩
 exact absurd (Rat.num_eq_zero.1 (of_decide_eq_true m.symm)) u
theorem Pn (q:Rat):(q.num<0/\DO q= -1)\/(q.num=0/\DO q=0)\/(0<q.num/\DO q=1):=Es q.num
theorem KH (q:Rat):0<(q.den:Int):=by have:=q.den_pos;omega
theorem WO {p q:Rat} (h:DO p<DO q):p<q:=by
 rw[Rat.lt_iff];rcases Pn p with⟨a,e⟩ |⟨a,e⟩ |⟨a,e⟩ <;> rcases Pn q with⟨b,e'⟩ |⟨b,e'⟩ |⟨b,e'⟩ <;> rw[e,e'] at h <;> try omega
 ·rw[b,Int.zero_mul];exact Int.mul_neg_of_neg_of_pos a (KH q)
 ·exact Int.lt_trans (Int.mul_neg_of_neg_of_pos a (KH q)) (Int.mul_pos b (KH p))
 rw[a,Int.zero_mul];exact Int.mul_pos b (KH p)
theorem aB {p q:Rat} (h:p<q):FV p q= -1:=by unfold FV;rw[if_pos h]
theorem aA {p q:Rat} (h:q<p):FV p q=1:=by
 unfold FV;rw[if_neg (fun h'=>Int.lt_asymm ((Rat.lt_iff _ _).1 h) ((Rat.lt_iff _ _).1 h')),if_pos h]
theorem Sd (p q:Rat):FV p q=BQ (p.num*q.den) (q.num*p.den):=by
 unfold FV BQ;simp only[Rat.lt_iff]
theorem Xx {p q:Rat} {c:Int} (h:BE p b1 l1 b2 l2) (j:BE q c1 m1 c2 m2) (G:Bt p) (ht:Bt q) (H:c=FV p q):CF 338 [.agg (BV b1 l1 b2 l2),.agg (BV c1 m1 c2 m2)] (.one (.int .i64 c)):=by
 refine AM Tryz.func338 fun E u=>?_
 conv=>cbv
 obtain⟨P,I⟩:=xI (DO p);refine AB u (LD h I) ?_;conv=>cbv
 obtain⟨N,v⟩:=xI (DO q);refine AB u (LD j v) ?_;conv=>cbv
 refine g2 rfl ?_;intro L k;conv=>cbv
 cases L <;> conv=>cbv
 ·have J:=BY k;obtain⟨w,D,b⟩:=AW (p.num*q.den);refine AB (r:= .agg [.bool w,.sl .u32 D]) u (EU h.num j.den b (by have:=h.small G;have:=j.small ht;omega) (by have:=h.small G;have:=j.small ht;omega)) ?_;try conv=>cbv
  obtain⟨z,F,f⟩:=AW (q.num*p.den);refine AB (r:= .agg [.bool z,.sl .u32 F]) u (EU j.num h.den f (by have:=h.small G;have:=j.small ht;omega) (by have:=h.small G;have:=j.small ht;omega)) ?_;try conv=>cbv
  obtain⟨O,a⟩:=xI (BQ (p.num*q.den) (q.num*p.den));refine AB u (QM b f a) ?_;conv=>cbv
  refine g2 rfl ?_;exact AD ⟨⟨rfl,congrArg _ (by rw[H,a,Sd]),trivial⟩,trivial⟩
 have J:=BZ k;intro M m;conv=>cbv
 cases M <;> conv=>cbv
 ·have K:=AY m;exact AD ⟨⟨rfl,congrArg _ (by rw[H];exact aA (WO (by omega))),trivial⟩,trivial⟩
 have K:=AZ m;exact AD ⟨⟨rfl,congrArg _ (by rw[H];exact aB (WO (by omega))),trivial⟩,trivial⟩
theorem Iz {b:Bool} (h:Af x b l) (h':Af ((BL x.toNat:Nat):Int) b' l'):l'.length<=l.length:=by
 rw[h.BD,h'.BD,Int.natAbs_natCast];exact Df (Nat.le_trans (Nat.le_trans (Nat.le_mul_self _) (KO x.toNat)) (by omega))
theorem eI {e:Int} (h:e=if x<0 then 7 else 0) (a:e≠0):decide (((BL x.toNat:Nat):Int)*((BL x.toNat:Nat):Int)=x)=false:=by
 have f:x<0:=by
  apply Classical.byContradiction;intro b;rw[if_neg b] at h;exact a h
 rw[show x.toNat=0 by omega];simp only[decide_eq_false_iff_not];intro h';rw[show BL 0=0 from rfl] at h';omega
theorem aE (a b:Int):decide (a=b)=(BQ a b==0):=by
 unfold BQ;rw[Bool.eq_iff_iff,decide_eq_true_eq,beq_iff_eq]
 split
 ·omega
 split <;> omega
theorem Mt (u:Af x b1 l1) (v:Af ((BL x.toNat:Nat):Int) b2 l2) (F:c=decide (((BL x.toNat:Nat):Int)*((BL x.toNat:Nat):Int)=x)) (s1:l1.length<=4000000000000):CF 394 [.agg (BC b1 l1)] (.AJ [(true,(BC b2 l2)),(false,[.bool c])]):=by
 refine AM Tryz.func394 fun E z=>?_
 conv=>cbv
 obtain⟨I,J,a⟩:=AW ((BL x.toNat:Nat):Int);obtain⟨K,j⟩:=xI (if x<0 then 7 else 0);refine AB z (X9 u a j (by omega)) ?_;conv=>cbv
 intro D h;conv=>cbv
 cases D <;> conv=>cbv
 ·have k:=AN h;refine g2 rfl ?_;exact AD ⟨⟨rfl,congrArg _ ((a.uniq v rfl).1.symm),congrArg _ ((a.uniq v rfl).2.symm),trivial⟩,⟨rfl,congrArg _ (by rw[F];exact eI j k),trivial⟩,trivial⟩
 have k:=AO h;obtain⟨m,q,f⟩:=AW (((BL x.toNat:Nat):Int)*((BL x.toNat:Nat):Int));refine AB (r:= .agg [.bool m,.sl .u32 q]) z (EU a a f (by have:=Iz u a;omega) (by have:=Iz u a;omega)) ?_;try conv=>cbv
 obtain⟨H,b⟩:=xI (BQ (((BL x.toNat:Nat):Int)*((BL x.toNat:Nat):Int)) x);refine AB z (QM f u b) ?_;conv=>cbv
 intro G w;conv=>cbv
 refine g2 rfl ?_;exact AD ⟨⟨rfl,congrArg _ ((a.uniq v rfl).1.symm),congrArg _ ((a.uniq v rfl).2.symm),trivial⟩,⟨rfl,congrArg _ (by rw[F,w,b];exact aE _ _),trivial⟩,trivial⟩
theorem X2 {q:Rat} (z:BE q b1 l1 b2 l2) (M:Bt q) (J:0<=r) (L:r*r=q) (D:BE r c1 m1 c2 m2):CF 374 [.agg (BV b1 l1 b2 l2)] (.AJ [(true,(BV c1 m1 c2 m2)),(false,[.bool true])]):=by
 refine AM Tryz.func374 fun E K=>?_
 conv=>cbv
 obtain⟨m,v,a⟩:=AW (r.num);have G:=Wr J L;refine AB (r:= .AJ [(true,[.bool m,.sl .u32 v]),(false,[.bool true])]) K (Mt z.num (by rw[G.1];exact a) (by rw[G.1];exact (decide_eq_true G.2).symm) (by have:=z.small M;omega)) ?_;try conv=>cbv
 obtain⟨u,w,b⟩:=AW (r.den:Int);have F:=Wq J L;refine AB (r:= .AJ [(true,[.bool u,.sl .u32 w]),(false,[.bool true])]) K (Mt z.den (by rw[F.1];exact b) (by rw[F.1];exact (decide_eq_true F.2).symm) (by have:=z.small M;omega)) ?_;try conv=>cbv
 intro H f;conv=>cbv
 cases H <;> conv=>cbv
 ·have j:=CN f;intro I h;conv=>cbv
  cases I <;> conv=>cbv
  ·have k:=CN h;exact AD ⟨⟨rfl,congrArg _ ((a.uniq D.num rfl).1.symm),congrArg _ ((a.uniq D.num rfl).2.symm),congrArg _ ((b.uniq D.den rfl).1.symm),congrArg _ ((b.uniq D.den rfl).2.symm),trivial⟩,t2,trivial⟩
  have k:=CO h;exact absurd k (by decide)
 have j:=CO f;exact absurd j (by decide)
theorem X1 {q:Rat} (F:BE q b1 l1 b2 l2) (L:Bt q) (M:¬∃r:Rat,0<=r/\r*r=q):CF 374 [.agg (BV b1 l1 b2 l2)] (.AJ [(true,[.bool false,.sl .u32 [],.bool false,.sl .u32 []]),(false,[.bool false])]):=by
 refine AM Tryz.func374 fun E K=>?_
 conv=>cbv
 obtain⟨v,z,j⟩:=AW (((BL q.num.toNat:Nat):Int));obtain⟨G,a⟩:=xB (decide (((BL q.num.toNat:Nat):Int)*((BL q.num.toNat:Nat):Int)=q.num));refine AB (r:= .AJ [(true,[.bool v,.sl .u32 z]),(false,[.bool G])]) K (Mt F.num j a (by have:=F.small L;omega)) ?_;try conv=>cbv
 obtain⟨w,D,k⟩:=AW (((BL (q.den:Int).toNat:Nat):Int));obtain⟨H,b⟩:=xB (decide (((BL (q.den:Int).toNat:Nat):Int)*((BL (q.den:Int).toNat:Nat):Int)=(q.den:Int)));refine AB (r:= .AJ [(true,[.bool w,.sl .u32 D]),(false,[.bool H])]) K (Mt F.den k b (by have:=F.small L;omega)) ?_;try conv=>cbv
 intro I f;conv=>cbv
 cases I <;> conv=>cbv
 ·have m:=CN f;intro J h;conv=>cbv
  cases J <;> conv=>cbv
  ·have u:=CN h;exact absurd (Wp (of_decide_eq_true (a.symm.trans m)) (of_decide_eq_true (b.symm.trans u))) M
  have u:=CO h;exact AD ⟨⟨rfl,rfl,Bo,rfl,Bo,trivial⟩,t2,trivial⟩
 have m:=CO f;exact AD ⟨⟨rfl,rfl,Bo,rfl,Bo,trivial⟩,t2,trivial⟩
theorem Xo {q:Rat} (z:Af n b1 l1) (D:Af d b2 l2) (w:d≠0) (F:q=Rat.divInt n d) (v:BE q c1 m1 c2 m2) (s1:l1.length<=17592186042000) (s2:l2.length<=17592186042000):CF 303 [.agg (BC b1 l1),.agg (BC b2 l2)] (.AJ [(true,(BV c1 m1 c2 m2)),(false,[.int .i64 0])]):=by
 refine AM Tryz.func303 fun E u=>?_
 conv=>cbv
 obtain⟨G,I,f⟩:=AW (n);refine AB u (Qc z (by omega) f) ?_;conv=>cbv
 obtain⟨H,J,b⟩:=AW (d);refine AB u (Qc D (by omega) b) ?_;conv=>cbv
 refine g2 rfl ?_;refine AB (r:= .one (.bool false)) u (UE b (by simp[w])) ?_;conv=>cbv
 obtain⟨k,m,h,j,a⟩:=Bl (q);refine AB (r:= .agg [.bool k,.sl .u32 m,.bool h,.sl .u32 j]) u (I6 f b w F a (by rw[(f.uniq z rfl).2];exact s1) (by rw[(b.uniq D rfl).2];exact s2)) ?_;try conv=>cbv
 exact AD ⟨⟨rfl,congrArg _ ((a.uniq v rfl).1.1.symm),congrArg _ ((a.uniq v rfl).1.2.symm),congrArg _ ((a.uniq v rfl).2.1.symm),congrArg _ ((a.uniq v rfl).2.2.symm),trivial⟩,t2,trivial⟩
theorem NG {b:Bool} (a: -9223372036854775808<=x/\x<9223372036854775808) (h:Af x b l):l.length<=2:=by
 rw[h.BD];exact Ep (by omega)
theorem Xh {q:Rat} (H: -9223372036854775808<=n/\n<9223372036854775808) (G: -9223372036854775808<=d/\d<9223372036854775808) (O:d≠0) (P:q=Rat.divInt n d) (D:BE q c1 m1 c2 m2):CF 241 [.one (.int .i64 n),.one (.int .i64 d)] (.agg (BV c1 m1 c2 m2)):=by
 refine AM Tryz.func241 fun E z=>?_
 conv=>cbv
 obtain⟨Q,S,f⟩:=AW (n);refine AB z (K9 H f) ?_;conv=>cbv
 obtain⟨K,M,b⟩:=AW (d);refine AB z (K9 G b) ?_;conv=>cbv
 obtain⟨v,w,m,u,a⟩:=Bl q;refine AB (r:= .AJ [(true,[.bool v,.sl .u32 w,.bool m,.sl .u32 u]),(false,[.int .i64 0])]) z (Xo f b O P a (by have:=NG H f;omega) (by have:=NG G b;omega)) ?_;try conv=>cbv
 intro F h;conv=>cbv
 cases F <;> conv=>cbv
 ·have k:=BY h;exact AD ⟨⟨rfl,congrArg _ ((a.uniq D rfl).1.1.symm),congrArg _ ((a.uniq D rfl).1.2.symm),congrArg _ ((a.uniq D rfl).2.1.symm),congrArg _ ((a.uniq D rfl).2.2.symm),trivial⟩,trivial⟩
 have k:=BZ h;obtain⟨L,N,I,J,j⟩:=Bl (((0:Int):Rat));refine AB z (Gn (by omega) rfl j) ?_;conv=>cbv
 exact absurd k (by decide)
theorem XC (f:Af y b2 l2) (h:B7 y<=0:=by omega):D6 b1 l1 b2 l2=false:=by
 apply Bool.eq_false_iff.2;intro h';obtain⟨q,b⟩:=K4.1 h';have e:y=(q.den:Int):=by rw[f.Dz,b.den.Dz]
 have:=KH q;rcases Es y with⟨a,e'⟩ |⟨a,e'⟩ |⟨a,e'⟩ <;> omega
theorem XB (f:true=Ef b1 l1) (j:true=Ef b2 l2) (u:Af x b1 l1) (b:Af y b2 l2) (h:0<B7 y) (m:c=decide (((Nat.gcd x.natAbs y.natAbs:Nat):Int)=1)):D6 b1 l1 b2 l2=c:=by
 have v:0<y:=by rcases Es y with⟨a,e'⟩ |⟨a,e'⟩ |⟨a,e'⟩ <;> omega
 have k:b2=false:=by rw[b.neg];exact decide_eq_false (by omega)
 have q:l2≠[]:=fun e=>by have:=b.nil.1 e;omega
 unfold D6;rw[<-f,<-j,k,decide_eq_true q,m,u.nat,b.nat];simp only[Bool.true_and,Bool.not_false];rw[Bool.eq_iff_iff,decide_eq_true_eq,decide_eq_true_eq];omega
theorem Qg (q:c=D6 b1 l1 b2 l2) (s1:l1.length<=17592186042000) (s2:l2.length<=17592186042000):CF 359 [.agg (BV b1 l1 b2 l2)] (.one (.bool c)):=by
 refine AM Tryz.func359 fun E k=>?_
 conv=>cbv
 obtain⟨H,a⟩:=xB (Ef b1 l1);refine AB k (Qq a) ?_;conv=>cbv
 cases H <;> conv=>cbv
 ·exact AD ⟨⟨rfl,congrArg _ (by rw[q];unfold D6;rw[<-a];rfl),trivial⟩,trivial⟩
 obtain⟨I,b⟩:=xB (Ef b2 l2);refine AB k (Qq b) ?_;conv=>cbv
 cases I <;> conv=>cbv
 ·exact AD ⟨⟨rfl,congrArg _ (by rw[q];unfold D6;rw[<-b];exact Bool.and_false _),trivial⟩,trivial⟩
 obtain⟨x,z⟩:=Hm.1 a.symm;obtain⟨y,u⟩:=Hm.1 b.symm;obtain⟨J,m⟩:=xI (B7 y);refine AB k (Jn u m) ?_;conv=>cbv
 intro w j;conv=>cbv
 cases w <;> conv=>cbv
 ·have v:=Bf j;exact AD ⟨⟨rfl,congrArg _ (by rw[q];exact XC u),trivial⟩,trivial⟩
 have v:=Bg j;obtain⟨D,F,h⟩:=AW (((Nat.gcd x.natAbs y.natAbs:Nat):Int));refine AB k (QS z u h (by omega) (by omega)) ?_;conv=>cbv
 obtain⟨G,f⟩:=xB (decide (((Nat.gcd x.natAbs y.natAbs:Nat):Int)=1));refine AB k (Iy h f) ?_;conv=>cbv
 exact AD ⟨⟨rfl,congrArg _ (by rw[q];exact XB a b z u (by omega) f),trivial⟩,trivial⟩
end Go.Abs
namespace Go.Abs
open Go.RowKit
variable {B X Z o:LR} {i n zn:Nat} {xs ys:List Rat}
theorem bQ {A:LR} (w:A=X.take (X.length/2)) (z:B=X.drop (X.length/2)):CF 369 [.one (.sl AA X)] (.AJ [(false,[.sl AA A]),(false,[.sl AA B])]):=by
 refine AM Tryz.func369 fun E M=>?_
 conv=>cbv
 rintro P ⟨K,f6⟩;conv=>cbv
 intro Q L;conv=>cbv
 refine g2 ⟨by omega,by omega,i64 (by omega)⟩ ?_;intro O F;conv=>cbv
 refine AH ?_;intro q D;conv=>cbv
 intro N j;conv=>cbv
 rintro I ⟨u,f11⟩;conv=>cbv
 intro J v;conv=>cbv
 refine g2 ⟨by omega,by omega,i64 (by omega)⟩ ?_;intro H f;conv=>cbv
 refine AH ?_;rintro h m ⟨k,a⟩;conv=>cbv
 intro G b;conv=>cbv
 refine g2 rfl ?_;exact AD ⟨⟨rfl,congrArg _ (by rw[w,j,List.drop_zero,show q=X.length/2 by omega]),trivial⟩,⟨rfl,congrArg _ (by rw[z,b,a,f,List.take_length,show h=X.length/2 by omega]),trivial⟩,trivial⟩
theorem fz {X A:List LR} (m:X≠[]) (u:A=X.take (X.length-1)) (v:X[X.length-1]? =some B):CF 368 [.one (.sl (.sl AA) X)] (.AJ [(false,[.sl (.sl AA) A]),(false,[.sl AA B])]):=by
 refine AM Tryz.func368 fun E I=>?_
 conv=>cbv
 rintro L ⟨F,f6⟩;conv=>cbv
 have G:0<X.length:=List.length_pos_iff.2 m;intro M H;conv=>cbv
 refine AI ?_;intro K z;conv=>cbv
 refine AH ?_;intro j w;conv=>cbv
 intro J f;conv=>cbv
 rintro D ⟨k,f11⟩;conv=>cbv
 intro b q;conv=>cbv
 refine AI ?_;obtain⟨h,a⟩:=AL (l:=X) (i:=(b).toNat) (by omega);refine⟨h,fun _=>⟨by omega,a⟩,?_⟩;try conv=>cbv
 refine g2 rfl ?_;exact AD ⟨⟨rfl,congrArg _ (by rw[u,f,List.drop_zero,show j=X.length-1 by omega]),trivial⟩,⟨rfl,congrArg _ (by rw[show b.toNat=X.length-1 by omega] at a;exact (Option.some.inj (v.symm.trans a))),trivial⟩,trivial⟩
theorem bT {Z:Nat->LR} (h:o.take i=Z i) (e:i=n):o.take n=Z n:=by rw[<-e];exact h
theorem M4 {α:Type} {o:List α} {w:α} (h:i<o.length):(o.set i w).take (i+1)=o.take i++[w]:=by
 rw[List.take_succ_eq_append_getElem (by rw[List.length_set];exact h),List.take_set_of_le (Nat.le_refl _),List.getElem_set_self]
theorem iK {a:Int} (ha:AR a n) (hn:n<=1000000) (hX:X=Aj (List.replicate n 0)) (I:zn=X.length):CF 344 [.one (.int .i64 a)] (.one (.own AA X zn)):=by
 have ea:=ha.eq;refine AM Tryz.func344 fun E hE=>?_
 conv=>cbv
 refine⟨fun _=>⟨by omega,by omega,by show _*64<=140737488355328;omega⟩,?_⟩;intro K (M:LR) G;have a7:=G.1;have H:M=List.replicate K (((false,[]),(false,[])):el AA):=G.2;have a1:M.length=K:=by rw[H,List.length_replicate]
 conv=>cbv
 intro n8 h8;have e8:=h8.eq;conv=>cbv
 refine .inr ?_;obtain⟨W,w⟩:=xJ fun vs P k=>∃(o:LR) (m i':Nat) (L i:Int),vs=[.one (.AQ AA 6 0 0 m),.one (.int .i64 L),.one (.int .i64 i)]/\P=[.arr 0 AA o]/\(o.length=n/\m=n/\Cl L n/\AR i i'/\i'<=n)/\o.take i'=Aj (List.replicate i' 0)/\k=n-i'
 refine⟨[],[3,8,9],[6],W,⟨n-0,by rw[w];exact⟨M,K,0,n8,0,rfl,rfl,⟨by omega,by omega,⟨by omega,by omega⟩,Ak 0,by omega⟩,rfl,rfl⟩⟩,?_⟩;intro vs P a8 U;rw[w] at U;obtain⟨o,m,i',L,i,rfl,rfl,⟨ho,hm,S,hi,a5⟩,hinv,a6⟩:=U;conv=>cbv
 have eL:=S.eq;have ei:=hi.eq;intro N D;conv=>cbv
 cases N <;> conv=>cbv
 ·have J:=AY D;have b:o=X:=by rw[hX,<-bT (Z:=fun i=>Aj (List.replicate i 0)) hinv (by omega),List.take_of_length_le (by omega)]
  exact AD ⟨⟨rfl,.inr (.inl ⟨_,_,by decide,rfl,rfl,by omega,rfl,DB (b.symm) (by rw[I,<-b])⟩),trivial⟩,trivial⟩
 have J:=AZ D;refine .inr ?_;obtain⟨u,v,j,q,h⟩:=Bl (((0:Int):Rat));refine AB hE (Gn (by omega) rfl h) ?_;conv=>cbv
 refine AH ?_;intro F V;conv=>cbv
 refine⟨((u,v),(j,q)),fun _=>⟨by show _<List.length (α:=(el AA)) o;(first | omega | (simp;omega)),by first | exact t1 | exact t2 | exact t4 | simp[Aq,BG,cells]⟩,?_⟩;intro (z:LR) (f:z=List.set (α:=(el AA)) o F (((u,v),(j,q))));have Q:z.length=o.length:=by rw[f,List.length_set]
 conv=>cbv
 intro O a2;conv=>cbv
 refine AI ?_;refine⟨n-(i'+1),?_,?_⟩
 ·omega
 rw[w];refine⟨z,m,i'+1,L,O,rfl,rfl,⟨by omega,by omega,S,⟨by omega⟩,by omega⟩,?_,rfl⟩;rw[f,show F=i' by omega,M4 (by omega),hinv,List.replicate_succ',Aj,Aj,List.map_append,<-h.rp];rfl
theorem G4 {x:el AA} (b:X=Aj xs) (f:DU xs) (a:X[i]? =some x):∃q,BE q x.1.1 x.1.2 x.2.1 x.2.2/\xs[i]? =some q/\Bt q:=by
 rw[b,Aj,List.getElem?_map] at a;cases h:xs[i]? with
 | none=>rw[h] at a;simp at a
 | some q=>
  rw[h] at a;have e:x=rp q:=(Option.some.inj a).symm;exact⟨q,by rw[e];exact Fa q,rfl,f q (List.mem_of_getElem? h)⟩
theorem Vw (h:o.take i=Aj (ys.take i)) (b:i=n) (a:o.length=n) (f:ys.length=n):Aj ys=o.take n:=by
 rw[b] at h;rw[h,<-f,List.take_length]
theorem Vx {l:LR} {j:Nat} {q:Rat} {w:el AA} (h:o.take i=Aj (ys.take i)) (b:i<o.length) (f:j=i) (k:l=o.set j w) (a:ys[i]? =some q) (hw:rp q=w):l.take (i+1)=Aj (ys.take (i+1)):=by
 have m:i<ys.length:=FI a;rw[k,f,M4 b,h,List.take_succ,a,Aj,Aj,List.map_append,<-hw];rfl
theorem dC (hX:X=Aj xs) (hs:DU xs) (hn:xs.length<=1000000) (hZ:Z=Aj (xs.map (- ·))):CF 258 [.one (.sl AA X)] (.one (.sl AA Z)):=by
 refine AM Tryz.func258 fun E hE=>?_
 conv=>cbv
 have a7:X.length=xs.length:=by rw[hX,List.length_map]
 rintro n7 ⟨e7,f7⟩;conv=>cbv
 refine⟨fun _=>⟨by omega,by omega,by show _*64<=140737488355328;omega⟩,?_⟩;intro N (O:LR) G;have ab:=G.1;have H:O=List.replicate N (((false,[]),(false,[])):el AA):=G.2;have a5:O.length=N:=by rw[H,List.length_replicate]
 conv=>cbv
 intro P w;have a2:=w.eq;have f10:=w.le;conv=>cbv
 refine .inr ?_;obtain⟨J0,z⟩:=xJ fun vs V k=>∃(o:LR) (m i':Nat) (L i:Int),vs=[.one (.AQ AA 8 0 0 m),.one (.sl AA X),.one (.int .i64 L),.one (.int .i64 i)]/\V=[.arr 0 AA o]/\(o.length=X.length/\m=X.length/\Cl L X.length/\AR i i'/\i'<=X.length)/\o.take i'=Aj ((xs.map (- ·)).take i')/\k=X.length-i'
 refine⟨[],[3,9,10,11],[8],J0,⟨X.length-0,by rw[z];exact⟨O,N,0,P,0,rfl,rfl,⟨by omega,by omega,w,Ak 0,by omega⟩,rfl,rfl⟩⟩,?_⟩;intro vs V ad hj;rw[z] at hj;obtain⟨o,m,i',L,i,rfl,rfl,⟨ho,hm,hL,hi,a8⟩,hinv,aa⟩:=hj;conv=>cbv
 have eL:=hL.eq;have ei:=hi.eq;intro Q F;conv=>cbv
 cases Q <;> conv=>cbv
 ·have M:=AY F;exact AD ⟨⟨rfl,.inl ⟨_,rfl,by omega,congrArg _ (by rw[hZ,hm,List.drop_zero];exact Vw hinv (by omega) (by omega) (by rw[List.length_map];omega))⟩,trivial⟩,trivial⟩
 have M:=AZ F;refine .inr ?_;obtain⟨U,b⟩:=AL (l:=X) (i:=i') (by omega);refine⟨U,fun _=>⟨by omega,by rw[show (i).toNat=i' by omega];exact b⟩,?_⟩;try conv=>cbv
 obtain⟨q,hq,I,J⟩:=G4 hX hs b;obtain⟨u,v,h,j,f⟩:=Bl (-q);refine AB hE (X0 hq J rfl f) ?_;conv=>cbv
 refine AH ?_;intro K a1;conv=>cbv
 refine⟨((u,v),(h,j)),fun _=>⟨by show _<List.length (α:=(el AA)) o;(first | omega | (simp;omega)),by first | exact t1 | exact t2 | exact t4 | simp[Aq,BG,cells]⟩,?_⟩;intro (D:LR) (a:D=List.set (α:=(el AA)) o K (((u,v),(h,j))));have W:D.length=o.length:=by rw[a,List.length_set]
 conv=>cbv
 intro S a6;conv=>cbv
 refine AI ?_;refine⟨X.length-(i'+1),?_,?_⟩
 ·omega
 rw[z];refine⟨D,m,i'+1,L,S,rfl,rfl,⟨by omega,by omega,hL,⟨by omega⟩,by omega⟩,?_,rfl⟩;exact Vx hinv (by omega) (by omega) a (by rw[List.getElem?_map,I];rfl) f.rp
theorem ZV {Y:LR} (hX:X=Aj xs) (hY:Y=Aj ys) (hs:DU xs) (ht:DU ys) (Q:ys.length=xs.length) (hn:xs.length<=1000000) (hZ:Z=Aj (List.zipWith (· + ·) xs ys)) (S:zn=Z.length):CF 309 [.one (.sl AA X),.one (.sl AA Y)] (.one (.own AA Z zn)):=by
 refine AM Tryz.func309 fun E hE=>?_
 conv=>cbv
 have af:X.length=xs.length:=by rw[hX,List.length_map]
 have ag:Y.length=xs.length:=by rw[hY,List.length_map,Q]
 rintro n8 ⟨e8,f8⟩;conv=>cbv
 refine⟨fun _=>⟨by omega,by omega,by show _*64<=140737488355328;omega⟩,?_⟩;intro W (l9:LR) I;have aj:=I.1;have K:l9=List.replicate W (((false,[]),(false,[])):el AA):=I.2;have ad:l9.length=W:=by rw[K,List.length_replicate]
 conv=>cbv
 intro a1 J;have ab:=J.eq;conv=>cbv
 refine .inr ?_;obtain⟨J0,D⟩:=xJ fun vs bl k=>∃(o:LR) (m i':Nat) (L i:Int),vs=[.one (.sl AA X),.one (.sl AA Y),.one (.AQ AA 9 0 0 m),.one (.int .i64 L),.one (.int .i64 i)]/\bl=[.arr 0 AA o]/\(o.length=X.length/\m=X.length/\AR L X.length/\AR i i'/\i'<=X.length)/\o.take i'=Aj ((List.zipWith (· + ·) xs ys).take i')/\k=X.length-i'
 refine⟨[],[0,1,5,11,12],[9],J0,⟨X.length-0,by rw[D];exact⟨l9,W,0,a1,0,rfl,rfl,⟨by omega,by omega,⟨by omega⟩,Ak 0,by omega⟩,rfl,rfl⟩⟩,?_⟩;intro vs bl ak hj;rw[D] at hj;obtain⟨o,m,i',L,i,rfl,rfl,⟨ho,hm,hL,hi,ah⟩,hinv,ai⟩:=hj;conv=>cbv
 have eL:=hL.eq;have ei:=hi.eq;intro a2 G;conv=>cbv
 cases a2 <;> conv=>cbv
 ·have V:=AY G;have H:Aj (List.zipWith (· + ·) xs ys)=o.take X.length:=Vw hinv (by omega) (by omega) (by rw[List.length_zipWith];omega);have a:Z=o:=by rw[hZ,H,List.take_of_length_le (by omega)]
  exact AD ⟨⟨rfl,.inr (.inl ⟨_,_,by decide,rfl,rfl,by omega,rfl,DB (a) (by rw[S,a])⟩),trivial⟩,trivial⟩
 have V:=AZ G;refine .inr ?_;obtain⟨a6,f⟩:=AL (l:=X) (i:=i') (by omega);refine⟨a6,fun _=>⟨by omega,by rw[show (i).toNat=i' by omega];exact f⟩,?_⟩;try conv=>cbv
 obtain⟨a7,h⟩:=AL (l:=Y) (i:=i') (by omega);refine⟨a7,fun _=>⟨by omega,by rw[show (i).toNat=i' by omega];exact h⟩,?_⟩;try conv=>cbv
 obtain⟨p,hp,M,O⟩:=G4 hX hs f;obtain⟨q,hq,N,P⟩:=G4 hY ht h;obtain⟨w,z,u,v,j⟩:=Bl (p+q);refine AB hE (Xw hp hq O P rfl j) ?_;conv=>cbv
 refine AH ?_;intro U aa;conv=>cbv
 refine⟨((w,z),(u,v)),fun _=>⟨by show _<List.length (α:=(el AA)) o;(first | omega | (simp;omega)),by first | exact t1 | exact t2 | exact t4 | simp[Aq,BG,cells]⟩,?_⟩;intro (F:LR) (b:F=List.set (α:=(el AA)) o U (((w,z),(u,v))));have a8:F.length=o.length:=by rw[b,List.length_set]
 conv=>cbv
 refine g2 rfl ?_;intro a5 ae;conv=>cbv
 refine AI ?_;refine⟨X.length-(i'+1),?_,?_⟩
 ·omega
 rw[D];refine⟨F,m,i'+1,L,a5,rfl,rfl,⟨by omega,by omega,hL,⟨by omega⟩,by omega⟩,?_,rfl⟩;exact Vx hinv (by omega) (by omega) b (by rw[List.getElem?_zipWith,M,N]) j.rp
end Go.Abs
namespace Go.Abs
open Go.RowKit
def F2 (p:el AA->Bool):Nat->LR->Int
 | _,[]=> -1
 | i,x::l=>if p x=true then i else F2 p (i+1) l
variable {Y:LR} {b1 b2 c:Bool} {g:FuncId} {i:Nat} {l1 l2:List UInt32} {ys:List Rat}
theorem Tu {X:LR} {x:el AA} (h:X[i]? =some x):X.drop i=x::X.drop (i+1):=by
 have a:=FI h;rw[List.drop_eq_getElem_cons a];rw[List.getElem?_eq_getElem a] at h;rw[Option.some.inj h]
theorem bV {X:LR} {p:el AA->Bool} {x:el AA} (h:X[i]? =some x) (a:p x=false):F2 p i (X.drop i)=F2 p (i+1) (X.drop (i+1)):=by
 rw[Tu h,F2,a];rfl
theorem bU {X:LR} {p:el AA->Bool} {x:el AA} (h:X[i]? =some x) (a:p x=true):F2 p i (X.drop i)=i:=by
 rw[Tu h,F2,if_pos a]
theorem Xl {X:LR} {p:el AA->Bool} {r:Int} (H:∀x∈X,CF g [.agg (cells AA x)] (.one (.bool (p x)))) (M:r=F2 p 0 X):CF 385 [.one (.sl AA X),.one (.fn g)] (.one (.int .i64 r)):=by
 refine AM Tryz.func385 fun E G=>?_
 conv=>cbv
 intro P m;have S:=m.eq;have f7:=m.le;conv=>cbv
 refine .inr ?_;obtain⟨z,h⟩:=xJ fun vs D k=>∃(i':Nat) (L i:Int),vs=[.one (.sl AA X),.one (.fn g),.one (.int .i64 L),.one (.int .i64 i)]/\(Cl L X.length/\AR i i'/\i'<=X.length)/\r=F2 p i' (X.drop i')/\k=X.length-i'
 refine⟨[],[0,1,7,8],[],z,⟨X.length-0,by rw[h];exact⟨0,P,0,rfl,⟨m,Ak 0,by omega⟩,M,rfl⟩⟩,?_⟩;intro vs D O w;rw[h] at w;obtain⟨i',L,i,rfl,⟨v,I,J⟩,hinv,K⟩:=w;conv=>cbv
 have U:=v.eq;have V:=I.eq;intro Q u;conv=>cbv
 cases Q <;> conv=>cbv
 ·have N:=AY u;exact AD ⟨⟨rfl,congrArg _ (by rw[hinv,List.drop_eq_nil_of_le (by omega)];rfl),trivial⟩,trivial⟩
 have N:=AZ u;refine .inr ?_;obtain⟨a,b⟩:=AL (l:=X) (i:=i') (by omega);refine⟨a,fun _=>⟨by omega,by rw[show (i).toNat=i' by omega];exact b⟩,?_⟩;try conv=>cbv
 obtain⟨j,f⟩:=xB (p a);refine .inl ⟨[.agg [.bool a.1.1,.sl .u32 a.1.2,.bool a.2.1,.sl .u32 a.2.2]],.one (.bool j),fun _=>⟨t4,trivial⟩,fun _=>ES G ((by rw[f];exact H a (List.mem_of_getElem? b))),?_⟩;try conv=>cbv
 cases j <;> conv=>cbv
 ·intro q F;conv=>cbv
  refine AI ?_;refine⟨X.length-(i'+1),?_,?_⟩
  ·omega
  rw[h];refine⟨i'+1,L,q,rfl,⟨v,⟨by omega⟩,by omega⟩,?_,rfl⟩;rw[hinv,bV b f.symm]
 exact AD ⟨⟨rfl,congrArg _ (by rw[hinv,bU b f.symm];omega),trivial⟩,trivial⟩
theorem Tq (p:el AA->Bool):∀(X:LR) (i:Nat),decide (F2 p i X >= 0)=X.any p
 | [],i=>rfl
 | x::X,i=>by
  rw[F2,List.any_cons]
  split
  ·rename_i h;rw[h,Bool.true_or];exact decide_eq_true (by omega)
  rename_i h;rw[Bool.eq_false_iff.2 h,Bool.false_or];exact Tq p X (i+1)
theorem QO {X:LR} {p:el AA->Bool} (j:∀x∈X,CF g [.agg (cells AA x)] (.one (.bool (p x)))) (h:c=X.any p):CF 357 [.one (.sl AA X),.one (.fn g)] (.one (.bool c)):=by
 refine AM Tryz.func357 fun E f=>?_
 conv=>cbv
 obtain⟨m,a⟩:=xI (F2 p 0 X);refine AB f (Xl j a) ?_;conv=>cbv
 intro k b;conv=>cbv
 exact AD ⟨⟨rfl,congrArg _ (by rw[h,b,a];exact (Tq p X 0).symm),trivial⟩,trivial⟩
theorem fF (q:Rat):decide (q≠0)=(DO q !=0):=by
 have h:= @Rat.num_eq_zero q;rw[Bool.eq_iff_iff,decide_eq_true_eq,bne_iff_ne];rcases Pn q with⟨a,e⟩ |⟨a,e⟩ |⟨a,e⟩ <;> rw[e]
 ·exact⟨fun _=>by decide,fun _ b=>by rw[h.2 b] at a;omega⟩
 ·exact⟨fun b=>absurd (h.1 a) b,fun b=>absurd rfl b⟩
 exact⟨fun _=>by decide,fun _ b=>by rw[h.2 b] at a;omega⟩
theorem dD {q:Rat} (j:BE q b1 l1 b2 l2) (h:c=decide (q≠0)):CF 390 [.agg (BV b1 l1 b2 l2)] (.one (.bool c)):=by
 refine AM Tryz.func390 fun E f=>?_
 conv=>cbv
 obtain⟨m,a⟩:=xI (DO q);refine AB f (LD j a) ?_;conv=>cbv
 intro k b;conv=>cbv
 exact AD ⟨⟨rfl,congrArg _ (by rw[h,b,a];exact fF q),trivial⟩,trivial⟩
theorem Vv (q:Rat):decide (q≠0)= !(rp q).1.2.isEmpty:=by
 have h:(rp q).1.2=AS q.num.natAbs:=rfl;rw[h,Bool.eq_iff_iff,decide_eq_true_eq,Bool.not_eq_true',List.isEmpty_eq_false_iff,Ne,Ne,Dx,<-Rat.num_eq_zero];omega
theorem eK (xs:List Rat):(Aj xs).any (fun x=> !x.1.2.isEmpty)= !decide (∀q∈xs,q=0):=by
 induction xs with
 | nil=>rfl
 | cons q xs a=>
  rw[Aj,List.map_cons,List.any_cons,<-Vv,<-Aj,a]
  by_cases h:q=0 <;> simp[h]
theorem gT {X:LR} {xs:List Rat} (b:X=Aj xs):∀x∈X,CF 390 [.agg (cells AA x)] (.one (.bool (!x.1.2.isEmpty))):=by
 intro x a;rw[b] at a;obtain⟨q,_,rfl⟩:=List.mem_map.1 a;exact dD (Fa q) (Vv q).symm
theorem RW {X:LR} {xs:List Rat} (b:X=Aj xs) (j:c=decide (∀q∈xs,q=0)):CF 367 [.one (.sl AA X)] (.one (.bool c)):=by
 refine AM Tryz.func367 fun E h=>?_
 conv=>cbv
 obtain⟨k,a⟩:=xB (X.any (fun x=> !x.1.2.isEmpty));refine AB h (QO (gT b) a) ?_;conv=>cbv
 intro m f;conv=>cbv
 exact AD ⟨⟨rfl,congrArg _ (by rw[j,f,a,b,eK,Bool.not_not]),trivial⟩,trivial⟩
theorem cA (h:c= !D6 b1 l1 b2 l2) (s1:l1.length<=17592186042000) (s2:l2.length<=17592186042000):CF 358 [.agg (BV b1 l1 b2 l2)] (.one (.bool c)):=by
 refine AM Tryz.func358 fun E f=>?_
 conv=>cbv
 obtain⟨j,a⟩:=xB (D6 b1 l1 b2 l2);refine AB f (Qg a s1 s2) ?_;conv=>cbv
 intro k b;conv=>cbv
 exact AD ⟨⟨rfl,congrArg _ (by rw[h,b,a]),trivial⟩,trivial⟩
theorem Zq {X:LR} {xs:List Rat} (b:X=Aj xs) (j:DU xs):∀x∈X,CF 358 [.agg (cells AA x)] (.one (.bool false)):=by
 intro x a;rw[b] at a;obtain⟨q,f,rfl⟩:=List.mem_map.1 a;have h:=(Fa q).small (j q f);exact cA (by rw[K4.2 ⟨q,Fa q⟩];rfl) (by omega) (by omega)
theorem any_false (X:LR):false=X.any (fun _=>false):=by
 induction X with
 | nil=>rfl
 | cons x X a=>rw[List.any_cons,<-a];rfl
theorem O6 {X:LR} {xs:List Rat} {k:Int} {n:Nat} (b:X=Aj xs) (u:DU xs) (q:AR k n) (j:c=decide (xs.length=n)):CF 313 [.one (.sl AA X),.one (.int .i64 k)] (.one (.bool c)):=by
 have F:=q.eq;refine AM Tryz.func313 fun E m=>?_
 conv=>cbv
 rintro G ⟨D,f6⟩;conv=>cbv
 intro z h;conv=>cbv
 cases z <;> conv=>cbv
 ·have v:=AN h;exact AD ⟨⟨rfl,congrArg _ (by have f:X.length=xs.length:=(by rw[b,List.length_map]);rw[j];exact decide_eq_false (by omega)),trivial⟩,trivial⟩
 have v:=AO h;refine AB m (QO (p:=fun _=>false) (Zq b u) (any_false X)) ?_;conv=>cbv
 intro w a;conv=>cbv
 exact AD ⟨⟨rfl,congrArg _ (by have f:X.length=xs.length:=(by rw[b,List.length_map]);rw[j,a];exact decide_eq_true (by omega)),trivial⟩,trivial⟩
theorem EG {n i:Int} {k:Nat} (h:n=IntKind.i64.wrap (1*2^min i.toNat IntKind.i64.bits)) (e:i=k) (a:k<=20:=by omega):AR n (2^k):=by
 have b:=wrap_i64 h;have j:2^k<=2^20:=Nat.pow_le_pow_right (by decide) a
 have f:((2:Int)^min i.toNat IntKind.i64.bits)=((2^k:Nat):Int):=by
  rw[e,Int.toNat_natCast,Nat.min_eq_left (Nat.le_trans a (by decide))];simp
 rw[f,Int.one_mul] at b
 generalize 2^k=Q at*
 exact⟨by omega⟩
theorem H5 {X:List LR} {xs:List (List Rat)} {x:LR} (b:X=xs.map Aj) (a:X[i]? =some x):∃y,x=Aj y/\xs[i]? =some y:=by
 rw[b,List.getElem?_map] at a;cases h:xs[i]? with
 | none=>rw[h] at a;simp at a
 | some q=>rw[h] at a;exact⟨q,(Option.some.inj a).symm,rfl⟩
theorem PO {X:List LR} {xs:List (List Rat)} (G:X=xs.map Aj) (ht:LG xs) (P:c=true):CF 312 [.one (.sl (.sl AA) X)] (.one (.bool c)):=by
 refine AM Tryz.func312 fun E N=>?_
 conv=>cbv
 have O:X.length=xs.length:=by rw[G,List.length_map]
 have hl:=ht.OW;intro n6 q;have e6:=q.eq;have f6:=q.le;conv=>cbv
 refine .inr ?_;obtain⟨I,b⟩:=xJ fun vs J k=>∃(i':Nat) (L i:Int),vs=[.one (.sl (.sl AA) X),.one (.int .i64 L),.one (.int .i64 i)]/\(Cl L X.length/\AR i i'/\i'<=X.length)/\k=X.length-i'
 refine⟨[],[5,6,7],[],I,⟨X.length-0,by rw[b];exact⟨0,n6,0,rfl,⟨q,Ak 0,by omega⟩,rfl⟩⟩,?_⟩;intro vs J W H;rw[b] at H;obtain⟨i',L,i,rfl,⟨F,Q,S⟩,U⟩:=H;conv=>cbv
 have eL:=F.eq;have K:=Q.eq;intro n8 D;conv=>cbv
 cases n8 <;> conv=>cbv
 ·have V:=AY D;exact AD ⟨⟨rfl,congrArg _ (P),trivial⟩,trivial⟩
 have V:=AZ D;refine .inr ?_;obtain⟨z,a⟩:=AL (l:=X) (i:=i') (by omega);refine⟨z,fun _=>⟨by omega,by rw[show (i).toNat=i' by omega];exact a⟩,?_⟩;try conv=>cbv
 intro a1 m;conv=>cbv
 refine AH ?_;obtain⟨x,u,h⟩:=H5 G a;refine AB (r:= .one (.bool true)) N (O6 u (ht.small x (List.mem_of_getElem? h)) (EG m K) (by rw[ht.form i' x h];exact (decide_eq_true rfl).symm)) ?_;try conv=>cbv
 intro v f;conv=>cbv
 cases v <;> conv=>cbv
 ·have j:=CN f;intro w M;conv=>cbv
  refine AI ?_;refine⟨X.length-(i'+1),?_,?_⟩
  ·omega
  rw[b];exact⟨i'+1,L,w,rfl,⟨F,⟨by omega⟩,by omega⟩,rfl⟩
 have j:=CO f;exact absurd j (by decide)
theorem Gl {X:List LR} {xs:List (List Rat)} (k:X=xs.map Aj) (ht:LG xs) (q:Y=Aj ys) (v:DU ys) (u:c=decide (ys.length=2^xs.length)):CF 257 [.one (.sl (.sl AA) X),.one (.sl AA Y)] (.one (.bool c)):=by
 refine AM Tryz.func257 fun E j=>?_
 conv=>cbv
 have h:X.length=xs.length:=by rw[k,List.length_map]
 have D:=ht.OW;refine AB j (PO k ht rfl) ?_;conv=>cbv
 rintro w ⟨b,f10⟩;conv=>cbv
 intro z f;conv=>cbv
 refine AH ?_;obtain⟨m,a⟩:=xB (decide (ys.length=2^xs.length));refine AB j (O6 q v (EG f (b.trans (congrArg _ h))) a) ?_;conv=>cbv
 exact AD ⟨⟨rfl,congrArg _ (u.trans a.symm),trivial⟩,trivial⟩
theorem OO {X:List LR} {Z:LR} {xs:List (List Rat)} {m:List Rat} (u:X=xs.map Aj) (ht:LG xs) (v:Y=Aj ys) (z:DU ys) (j:ys.length=2^xs.length) (w:Z=Aj m) (h:DU m) (k:m.length=2^xs.length):CF 308 [.one (.sl (.sl AA) X),.one (.sl AA Y),.one (.sl AA Z)] (.one (.bool true)):=by
 refine AM Tryz.func308 fun E q=>?_
 conv=>cbv
 have f:X.length=xs.length:=by rw[u,List.length_map]
 have G:=ht.OW;refine AB q (Gl u ht v z (decide_eq_true j).symm) ?_;conv=>cbv
 rintro D ⟨a,f13⟩;conv=>cbv
 intro F b;conv=>cbv
 refine AH ?_;refine AB q (O6 w h (EG b (a.trans (congrArg _ f))) (decide_eq_true k).symm) ?_;conv=>cbv
 exact AD ⟨t2,trivial⟩
end Go.Abs
namespace Go.Abs
open Go.RowKit
variable {A B C X Y Z:LR} {R s t zn:Nat} {T:List LR} {p:Rat} {x y:Re}
theorem Hx {u:List (List Rat)} (h:Ag u) (f:In u x) (b:X=em u x) (a:x=0):CF 367 [.one (.sl AA X)] (.one (.bool true)):=
 RW b (decide_eq_true ((KE h f).2 a)).symm
theorem Gv {u:List (List Rat)} (h:Ag u) (f:In u x) (b:X=em u x) (a:x≠0):CF 367 [.one (.sl AA X)] (.one (.bool false)):=
 RW b (decide_eq_false (fun k=>a ((KE h f).1 k))).symm
theorem MC {u:List (List Rat)} {r:List Rat} {p q:Re} (h:Ag (r::u)) (b:In u p) (f:In u q) (j:x=p+q*rt u r) (a:X=em (r::u) x) (k:A=em u p) (m:B=em u q):
  CF 369 [.one (.sl AA X)] (.AJ [(false,[.sl AA A]),(false,[.sl AA B])]):=
 bQ (by rw[a,k,CE h b f j]) (by rw[a,m,B6 h b f j])
theorem Jc (r:List Rat) (u:List (List Rat)):tw (r::u)≠[]:=by rw[Kz];simp
theorem Pu {X A:List LR} {u:List (List Rat)} {r:List Rat} (a:X=tw (r::u)) (b:A=tw u) (f:B=Aj r):
  CF 368 [.one (.sl (.sl AA) X)] (.AJ [(false,[.sl (.sl AA) A]),(false,[.sl AA B])]):=
 fz (by rw[a];exact Jc r u) (by rw[a,b,DD]) (by rw[a,f,Ed])
theorem Hf {n:Nat} (h:n<=16:=by omega):2^n<=1000000:=Nat.le_trans (Cu h) (by decide)
theorem Rb {u:List (List Rat)} (h:Ah R u) (j:X=em u x) (k:Y=em u y) (a:El u s x) (b:El u t y) (q:s<=60000000000000) (ht:t<=60000000000000) (m:Z=em u (x+y)) (f:zn=Z.length):
  CF 309 [.one (.sl AA X),.one (.sl AA Y)] (.one (.own AA Z zn)):=
 ZV j k (a.B8 q) (b.B8 ht) (by rw[a.len,b.len]) (by rw[a.len];exact Hf h.ht) (by rw[m,TA h.red a.mem b.mem]) f
theorem LV {u:List (List Rat)} (h:Ah R u) (a:X=em u x) (b:Y=em u y) (k:El u s x) (m:El u t y) (j:s<=60000000000000) (ht:t<=60000000000000) (f:Z=em u (x+y)):
 CF 309 [.one (.sl AA X),.one (.sl AA Y)] (.one (.sl AA Z)):=Ct (Rb h a b k m j ht f rfl)
theorem Ma {u:List (List Rat)} (h:Ah R u) (b:X=em u x) (a:El u s x) (j:s<=60000000000000) (f:Z=em u (-x)):
  CF 258 [.one (.sl AA X)] (.one (.sl AA Z)):=
 dC b (a.B8 j) (by rw[a.len];exact Hf h.ht) (by rw[f,TC h.red a.mem])
theorem NI {a:Int} {u:List (List Rat)} (h:Ah R u) (j:AR a (2^u.length)) (f:Z=em u 0) (b:zn=Z.length):
  CF 344 [.one (.int .i64 a)] (.one (.own AA Z zn)):=
 iK j (Hf h.ht) (by rw[f,OB h.red]) b
theorem ED {x:el AA} (b:A=[rp p]) (a:A[0]? =some x):BE p x.1.1 x.1.2 x.2.1 x.2.2:=by
 rw[b] at a;rw[<-Option.some.inj a];exact Fa p
theorem cj {q:Rat} (M:T=[]) (G:A=[rp p]) (H:B=[rp q]) (P:Bt p) (ht:Bt q) (I:C=[rp (p*q)]) (w:zn=C.length):CF 334 [.one (.sl (.sl AA) T),.one (.sl AA A),.one (.sl AA B)] (.one (.own AA C zn)):=by
 refine AM Tryz.func334 fun E L=>?_
 conv=>cbv
 refine .inr ?_;rintro Q ⟨v,f16⟩;conv=>cbv
 intro z h;conv=>cbv
 cases z <;> conv=>cbv
 ·have B0:=AN h;exact absurd (by rw[v,M];rfl) B0
 have B0:=AO h;have J:A.length=1:=by rw[G];rfl
 have K:B.length=1:=by rw[H];rfl
 obtain⟨D,a⟩:=AL (l:=A) (i:=0) (by omega);refine⟨D,fun _=>⟨by omega,a⟩,?_⟩;try conv=>cbv
 obtain⟨F,b⟩:=AL (l:=B) (i:=0) (by omega);refine⟨F,fun _=>⟨by omega,b⟩,?_⟩;try conv=>cbv
 have N:=ED G a;have O:=ED H b;obtain⟨m,u,j,k,f⟩:=Bl (p*q);refine AB L (Xz N O P ht rfl f) ?_;conv=>cbv
 refine⟨[((m,u),(j,k))],fun _=>⟨rfl,by decide,rfl,⟨rfl,by first | exact t1 | exact t2 | exact t4 | simp[Aq,BG,cells],trivial⟩⟩,.inl ?_⟩;try conv=>cbv
 refine g2 rfl ?_;exact AD ⟨⟨rfl,.inr (.inl ⟨_,_,by decide,rfl,rfl,rfl,rfl,DB (by rw[I,f.rp]) (by rw[w,I];rfl)⟩),trivial⟩,trivial⟩
theorem cq {u:List (List Rat)} (h:Ah R u) (J:T≠[]) (z:A=em u x) (M:B=em u y) (G:In u x) (N:In u y) (I:x=0) (D:C=em u 0) (v:zn=C.length):CF 334 [.one (.sl (.sl AA) T),.one (.sl AA A),.one (.sl AA B)] (.one (.own AA C zn)):=by
 refine AM Tryz.func334 fun E F=>?_
 conv=>cbv
 refine .inr ?_;rintro K ⟨H,f16⟩;conv=>cbv
 intro w f;conv=>cbv
 cases w <;> conv=>cbv
 ·have B0:=AN f;refine AB F (Hx h.red G z I) ?_;conv=>cbv
  have q:A.length=2^u.length:=by rw[z,BI G]
  rintro L ⟨m,f34⟩;conv=>cbv
  obtain⟨j,a⟩:=xR (em u (0));obtain⟨k,b⟩:=xN j.length;refine AB (r:= .one (.own AA j k)) F (NI h (AR.of (by rw[m,q])) a b) ?_;conv=>cbv
  exact AD ⟨⟨rfl,.inr (.inl ⟨_,_,by decide,rfl,rfl,b,rfl,DB (by rw[D,a]) (by rw[v,D,<-a])⟩),trivial⟩,trivial⟩
 have B0:=AO f;exact absurd (List.length_eq_zero_iff.1 (by omega)) J
theorem ct {u:List (List Rat)} (h:Ah R u) (L:T≠[]) (D:A=em u x) (K:B=em u y) (G:In u x) (M:In u y) (I:y=0) (J:x≠0) (F:C=em u 0) (w:zn=C.length):CF 334 [.one (.sl (.sl AA) T),.one (.sl AA A),.one (.sl AA B)] (.one (.own AA C zn)):=by
 refine AM Tryz.func334 fun E v=>?_
 conv=>cbv
 refine .inr ?_;rintro N ⟨H,f16⟩;conv=>cbv
 intro z f;conv=>cbv
 cases z <;> conv=>cbv
 ·have B0:=AN f;refine AB v (Gv h.red G D J) ?_;conv=>cbv
  refine AB v (Hx h.red M K I) ?_;conv=>cbv
  have q:A.length=2^u.length:=by rw[D,BI G]
  rintro O ⟨m,f34⟩;conv=>cbv
  obtain⟨j,a⟩:=xR (em u (0));obtain⟨k,b⟩:=xN j.length;refine AB (r:= .one (.own AA j k)) v (NI h (AR.of (by rw[m,q])) a b) ?_;conv=>cbv
  exact AD ⟨⟨rfl,.inr (.inl ⟨_,_,by decide,rfl,rfl,b,rfl,DB (by rw[F,a]) (by rw[w,F,<-a])⟩),trivial⟩,trivial⟩
 have B0:=AO f;exact absurd (List.length_eq_zero_iff.1 (by omega)) L
def QY (f:FuncId) (R:Nat) (u:List (List Rat)):Prop:=∀{T:List LR} {A B C:LR} {zn s t:Nat} {x y:Re},T=tw u->A=em u x->B=em u y->El u s x->El u t y->s+t+EE u.length R<=60000000000000->C=em u (x*y)->zn=C.length->
 CF f [.one (.sl (.sl AA) T),.one (.sl AA A),.one (.sl AA B)] (.one (.own AA C zn))
theorem cp {u:List (List Rat)} {r:List Rat} (h:Ah R (r::u)) (ih:QY 334 R u) (hT:T=tw (r::u)) (hA:A=em (r::u) x) (hB:B=em (r::u) y) (hx:El (r::u) s x) (hy:El (r::u) t y) (al:s+t+EE (r::u).length R<=60000000000000) (h0:x≠0) (h1:y≠0) (hC:C=em (r::u) (x*y)) (aa:zn=C.length):CF 334 [.one (.sl (.sl AA) T),.one (.sl AA A),.one (.sl AA B)] (.one (.own AA C zn)):=by
 obtain⟨p,q,a7,J,H⟩:=El.parts h.red hx;obtain⟨a,b,a8,I,G⟩:=El.parts h.red hy;have aj:EE (r::u).length R=2*EE u.length R+R+2:=rfl;have K:=El.Cj h;have hR:=h.hR;have ak:=CX h.red;refine AM Tryz.func334 fun E j=>?_
 conv=>cbv
 refine .inr ?_;rintro an ⟨ai,f16⟩;conv=>cbv
 intro ab a2;conv=>cbv
 cases ab <;> conv=>cbv
 ·have B0:=AN a2;refine AB j (Gv h.red hx.mem hA h0) ?_;conv=>cbv
  refine AB j (Gv h.red hy.mem hB h1) ?_;conv=>cbv
  obtain⟨ao,f⟩:=xV (tw u);obtain⟨aq,O⟩:=xR (Aj r);refine AB j (Pu hT f O) ?_;conv=>cbv
  obtain⟨ar,k⟩:=xR (em u p);obtain⟨au,m⟩:=xR (em u q);refine AB j (MC h.red J.mem H.mem a7 hA k m) ?_;conv=>cbv
  obtain⟨av,v⟩:=xR (em u a);obtain⟨aw,w⟩:=xR (em u b);refine AB j (MC h.red I.mem G.mem a8 hB v w) ?_;conv=>cbv
  obtain⟨ax,P⟩:=xR (em u (p*a));refine AB j (Ct (ih f k v J I (by omega) P rfl)) ?_;conv=>cbv
  obtain⟨ay,Q⟩:=xR (em u (q*b));refine AB j (Ct (ih f m w H G (by omega) Q rfl)) ?_;conv=>cbv
  obtain⟨az,S⟩:=xR (em u (q*b*AP u r));refine AB j (Ct (ih f Q (O.trans (Dw h.red)) (H.mul h.tail G) K (by omega) S rfl)) ?_;conv=>cbv
  obtain⟨L,z⟩:=xR (em u (p*a+q*b*AP u r));obtain⟨ah,D⟩:=xN L.length;refine AB j (Rb h.tail P S (J.mul h.tail I) ((H.mul h.tail G).mul h.tail K) (by omega) (by omega) z D) ?_;conv=>cbv
  obtain⟨aA,U⟩:=xR (em u (p*b));refine AB j (Ct (ih f k w J G (by omega) U rfl)) ?_;conv=>cbv
  obtain⟨aB,V⟩:=xR (em u (q*a));refine AB j (Ct (ih f m v H I (by omega) V rfl)) ?_;conv=>cbv
  obtain⟨M,F⟩:=xR (em u (p*b+q*a));refine AB j (LV h.tail U V (J.mul h.tail G) (H.mul h.tail I) (by omega) (by omega) F) ?_;conv=>cbv
  have ae:L.length=2^u.length:=by rw[z,BI (C0 (J.mul h.tail I).mem ((H.mul h.tail G).mul h.tail K).mem)]
  have af:M.length=2^u.length:=by rw[F,BI (C0 (J.mul h.tail G).mem (H.mul h.tail I).mem)]
  have ag:=Cu h.tail.ht;refine .inl ⟨M,fun _=>⟨rfl,D,rfl,by show (L.length+M.length)*64<=140737488355328;(try simp only[List.length_take,List.length_drop]);omega⟩,?_⟩;intro (a1:LR) ad W;have a5:a1=(L:LR)++(M:LR):=W.1;have a6:ad=List.length (α:=(el AA)) a1:=W.2;conv=>cbv
  have N:C=a1:=by rw[hC,a5,z,F];exact EN h.red (C0 (J.mul h.tail I).mem ((H.mul h.tail G).mul h.tail K).mem) (C0 (J.mul h.tail G).mem (H.mul h.tail I).mem) (by rw[a7,a8];clear ih;grind)
  exact AD ⟨⟨rfl,.inr (.inl ⟨_,_,by decide,rfl,rfl,a6,rfl,DB (N) (by rw[aa,N])⟩),trivial⟩,trivial⟩
 have B0:=AO a2;exact absurd (List.length_eq_zero_iff.1 (by omega)) (hT ▸ Jc r u)
theorem mulC {u:List (List Rat)} (h:Ah R u):QY 334 R u:=by
 induction u with
 | nil=>
  intro T A B C zn s t x y v b f k m w j a;obtain⟨p,rfl⟩:=CV.1 k.mem;obtain⟨q,rfl⟩:=CV.1 m.mem;rw[Dl] at b f;rw[<-Re.ofRat_mul,Dl] at j;have F:=k.B8 (by omega);have G:=m.B8 (by omega);rw[DY] at F G;exact cj v b f (F _ List.mem_cons_self) (G _ List.mem_cons_self) j a
 | cons r u H=>
  intro T A B C zn s t x y v b f k m w j a
  by_cases z:x=0
  ·refine cq h (v ▸ Jc r u) b f k.mem m.mem z ?_ a;rw[j,z];congr 1;grind
  by_cases D:y=0
  ·refine ct h (v ▸ Jc r u) b f k.mem m.mem D z ?_ a;rw[j,D];congr 1;grind
  exact cp h (H h.tail) v b f k m w z D j a
theorem KY {u:List (List Rat)} (h:Ah R u) (k:T=tw u) (b:A=em u x) (f:B=em u y) (m:El u s x) (q:El u t y) (a:s+t+EE u.length R<=60000000000000) (j:C=em u (x*y)):
 CF 334 [.one (.sl (.sl AA) T),.one (.sl AA A),.one (.sl AA B)] (.one (.sl AA C)):=Ct (mulC h k b f m q a j rfl)
end Go.Abs
