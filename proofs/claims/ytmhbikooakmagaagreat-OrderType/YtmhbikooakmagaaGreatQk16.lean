/- Part 17 of a proof. Conditions: each theorem's own. -/
import Derived.Test.YtmhbikooakmagaaGreatQk13
set_option linter.all false
set_option maxHeartbeats 8000000
set_option maxRecDepth 20000
open Go.Proofs
namespace Go.Abs
open Go.RowKit
variable {b' b1 b2 c c1 c2 d1 d2:Bool} {d n x y:Int} {k1 k2 l l' l1 l2 m1 m2:List UInt32} {r:Rat}
theorem Ss {b:Bool} (h:AU x b l) (f:c=decide (x=0)):CF 374 [.agg (At b l)] (.one (.bool c)):=by
 refine AJ Tryz.func374 fun E k=>?_
 conv=>cbv
 rintro m ⟨j,f5⟩;conv=>cbv
 intro q a;conv=>cbv
 exact AD ⟨⟨rfl,congrArg _ (by rw[f,a,Bool.eq_iff_iff];simp only[decide_eq_true_eq,beq_iff_eq];rw[<-h.EW];omega),trivial⟩,trivial⟩
theorem IP {b:Bool} (m:AU x b l) (k:c=decide (x=1)):CF 367 [.agg (At b l)] (.one (.bool c)):=by
 refine AJ Tryz.func367 fun E H=>?_
 conv=>cbv
 intro F z;conv=>cbv
 cases F <;> conv=>cbv
 ·have u:=C1 z;exact AD ⟨⟨rfl,congrArg _ (by rw[k];exact (OX m u).symm),trivial⟩,trivial⟩
 have u:=C2 z;rintro I ⟨G,f9⟩;conv=>cbv
 intro v f;conv=>cbv
 cases v <;> conv=>cbv
 ·have q:=Ac f;exact AD ⟨⟨rfl,congrArg _ (by rw[k];exact (Tt m (by omega)).symm),trivial⟩,trivial⟩
 have q:=Ae f;obtain⟨w,a⟩:=AL (l:=l) (i:=0) (by omega);refine⟨w,fun _=>⟨by omega,a⟩,?_⟩;try conv=>cbv
 intro n16 h;have D:=h.eq;have f16:=h.lt;conv=>cbv
 intro n17 j;conv=>cbv
 exact AD ⟨⟨rfl,congrArg _ (by rw[k,j,<-OZ m u (by omega) a,Bool.eq_iff_iff];simp only[decide_eq_true_eq,beq_iff_eq];omega),trivial⟩,trivial⟩
theorem OY {b:Bool} (f:AU 1 b l):CF 303 [] (.agg (At b l)):=by
 refine AJ Tryz.func303 fun E h=>?_
 conv=>cbv
 obtain⟨j,k,a⟩:=AT (1);refine AB h (KS (by omega) a) ?_;conv=>cbv
 exact AD ⟨⟨rfl,congrArg _ ((a.uniq f rfl).1.symm),congrArg _ ((a.uniq f rfl).2.symm),trivial⟩,trivial⟩
theorem L5 {b3:Bool} {l3:List UInt32} (j:AU x b1 l1) (q:AU y b2 l2) (k:y≠0) (h:AU (Bk x y) b3 l3) (s1:l1.length<=17592186042000) (s2:l2.length<=17592186042000):CF 392 [.agg (At b1 l1),.agg (At b2 l2)] (.agg (At b3 l3)):=by
 refine AJ Tryz.func392 fun E m=>?_
 conv=>cbv
 obtain⟨D,b⟩:=xB (decide (y=1));refine AB m (IP q b) ?_;conv=>cbv
 cases D <;> conv=>cbv
 ·obtain⟨w,z,a⟩:=AT (Bk x y);obtain⟨u,v,f⟩:=AT (FY x y);refine AB m (WQ j q k a f (by omega) (by omega)) ?_;conv=>cbv
  exact AD ⟨⟨rfl,congrArg _ ((a.uniq h rfl).1.symm),congrArg _ ((a.uniq h rfl).2.symm),trivial⟩,trivial⟩
 exact AD ⟨⟨rfl,congrArg _ ((h.uniq j (by rw[of_decide_eq_true b.symm];exact Rs x)).1),congrArg _ ((h.uniq j (by rw[of_decide_eq_true b.symm];exact Rs x)).2),trivial⟩,trivial⟩
theorem Jh {b:Bool} (a:d≠0) (h:AU d b l) (h':AU ((Nat.gcd n.natAbs d.natAbs:Nat):Int) b' l'):l'.length<=l.length:=by
 rw[h.Au,h'.Au,Int.natAbs_natCast];exact DG (Nat.le_of_dvd (by omega) (Nat.gcd_dvd_right _ _))
theorem LP {b:Bool} (a:d≠0) (h:AU d b l) (h':AU (-((Nat.gcd n.natAbs d.natAbs:Nat):Int)) b' l'):l'.length<=l.length:=by
 rw[h.Au,h'.Au,Int.natAbs_neg,Int.natAbs_natCast];exact DG (Nat.le_of_dvd (by omega) (Nat.gcd_dvd_right _ _))
theorem LQ (a:d≠0):((Nat.gcd n.natAbs d.natAbs:Nat):Int)≠0:=by
 have:=Nat.gcd_pos_of_pos_right n.natAbs (n:=d.natAbs) (by omega);omega
theorem Ny {b:Bool} (h:AU d b l) (e:b=true):d<0:=by
 have:=h.neg;rw[e] at this;simpa using this.symm
theorem Nx {b:Bool} (h:AU d b l) (e:b=false):¬d<0:=by
 have:=h.neg;rw[e] at this;simpa using this.symm
theorem IY {q:Rat} (M:AU n b1 l1) (j:AU d b2 l2) (k:d≠0) (L:q=Rat.divInt n d) (D:Ay q c1 m1 c2 m2) (s1:l1.length<=17592186042000) (s2:l2.length<=17592186042000):CF 375 [.agg (At b1 l1),.agg (At b2 l2)] (.agg (BK c1 m1 c2 m2)):=by
 refine AJ Tryz.func375 fun E H=>?_
 conv=>cbv
 obtain⟨N,O,h⟩:=AT (((Nat.gcd n.natAbs d.natAbs:Nat):Int));refine AB H (Pg M j h (by omega) (by omega)) ?_;conv=>cbv
 refine .inr ?_;cases b2 <;> conv=>cbv
 ·obtain⟨u,w,a⟩:=AT (Bk n (if d<0 then -((Nat.gcd n.natAbs d.natAbs:Nat):Int) else ((Nat.gcd n.natAbs d.natAbs:Nat):Int)));have K:AU (if d<0 then -((Nat.gcd n.natAbs d.natAbs:Nat):Int) else ((Nat.gcd n.natAbs d.natAbs:Nat):Int)) N O:=by rw[if_neg (Nx j rfl)];exact h
  have m:(if d<0 then -((Nat.gcd n.natAbs d.natAbs:Nat):Int) else ((Nat.gcd n.natAbs d.natAbs:Nat):Int))≠0:=by rw[if_neg (Nx j rfl)];have:=LQ (n:=n) k;omega
  have J:Bk n (if d<0 then -((Nat.gcd n.natAbs d.natAbs:Nat):Int) else ((Nat.gcd n.natAbs d.natAbs:Nat):Int))=q.num:=by rw[L];exact (Lj k).symm
  have I:Bk d (if d<0 then -((Nat.gcd n.natAbs d.natAbs:Nat):Int) else ((Nat.gcd n.natAbs d.natAbs:Nat):Int))=(q.den:Int):=by rw[L];exact (Li k).symm
  refine AB (r:= .agg [.bool u,.sl .u32 w]) H (L5 M K m a (by omega) (by have:=Jh k j h;omega)) ?_;try conv=>cbv
  obtain⟨v,z,b⟩:=AT (Bk d (if d<0 then -((Nat.gcd n.natAbs d.natAbs:Nat):Int) else ((Nat.gcd n.natAbs d.natAbs:Nat):Int)));refine AB (r:= .agg [.bool v,.sl .u32 z]) H (L5 j K m b (by omega) (by have:=Jh k j h;omega)) ?_;try conv=>cbv
  refine g2 rfl ?_;exact AD ⟨⟨rfl,congrArg _ ((a.uniq D.num J).1.symm),congrArg _ ((a.uniq D.num J).2.symm),congrArg _ ((b.uniq D.den I).1.symm),congrArg _ ((b.uniq D.den I).2.symm),trivial⟩,trivial⟩
 obtain⟨F,G,f⟩:=AT (-((Nat.gcd n.natAbs d.natAbs:Nat):Int));refine AB (r:= .agg [.bool F,.sl .u32 G]) H (Pq h (by have:=Jh k j h;omega) f) ?_;try conv=>cbv
 obtain⟨u,w,a⟩:=AT (Bk n (if d<0 then -((Nat.gcd n.natAbs d.natAbs:Nat):Int) else ((Nat.gcd n.natAbs d.natAbs:Nat):Int)));have K:AU (if d<0 then -((Nat.gcd n.natAbs d.natAbs:Nat):Int) else ((Nat.gcd n.natAbs d.natAbs:Nat):Int)) F G:=by rw[if_pos (Ny j rfl)];exact f
 have m:(if d<0 then -((Nat.gcd n.natAbs d.natAbs:Nat):Int) else ((Nat.gcd n.natAbs d.natAbs:Nat):Int))≠0:=by rw[if_pos (Ny j rfl)];have:=LQ (n:=n) k;omega
 have J:Bk n (if d<0 then -((Nat.gcd n.natAbs d.natAbs:Nat):Int) else ((Nat.gcd n.natAbs d.natAbs:Nat):Int))=q.num:=by rw[L];exact (Lj k).symm
 have I:Bk d (if d<0 then -((Nat.gcd n.natAbs d.natAbs:Nat):Int) else ((Nat.gcd n.natAbs d.natAbs:Nat):Int))=(q.den:Int):=by rw[L];exact (Li k).symm
 refine AB (r:= .agg [.bool u,.sl .u32 w]) H (L5 M K m a (by omega) (by have:=LP k j f;omega)) ?_;try conv=>cbv
 obtain⟨v,z,b⟩:=AT (Bk d (if d<0 then -((Nat.gcd n.natAbs d.natAbs:Nat):Int) else ((Nat.gcd n.natAbs d.natAbs:Nat):Int)));refine AB (r:= .agg [.bool v,.sl .u32 z]) H (L5 j K m b (by omega) (by have:=LP k j f;omega)) ?_;try conv=>cbv
 refine g2 rfl ?_;exact AD ⟨⟨rfl,congrArg _ ((a.uniq D.num J).1.symm),congrArg _ ((a.uniq D.num J).2.symm),congrArg _ ((b.uniq D.den I).1.symm),congrArg _ ((b.uniq D.den I).2.symm),trivial⟩,trivial⟩
theorem Fq {q:Rat} (k: -9223372036854775808<=x/\x<9223372036854775808) (f:q=(x:Rat)) (h:Ay q c1 m1 c2 m2):CF 228 [.one (.int .i64 x)] (.agg (BK c1 m1 c2 m2)):=by
 refine AJ Tryz.func228 fun E j=>?_
 conv=>cbv
 obtain⟨m,v,a⟩:=AT (x);refine AB j (KS k a) ?_;conv=>cbv
 obtain⟨u,w,b⟩:=AT (1);refine AB j (OY b) ?_;conv=>cbv
 exact AD ⟨⟨rfl,congrArg _ ((a.uniq h.num (by rw[f];rfl)).1.symm),congrArg _ ((a.uniq h.num (by rw[f];rfl)).2.symm),congrArg _ ((b.uniq h.den (by rw[f];rfl)).1.symm),congrArg _ ((b.uniq h.den (by rw[f];rfl)).2.symm),trivial⟩,trivial⟩
theorem KX {q:Rat} {c:Int} (h:Ay q b1 l1 b2 l2) (f:c=Cw q):CF 241 [.agg (BK b1 l1 b2 l2)] (.one (.int .i64 c)):=by
 refine AJ Tryz.func241 fun E b=>?_
 conv=>cbv
 obtain⟨j,a⟩:=xI (Bn q.num);refine AB b (JC h.num a) ?_;conv=>cbv
 exact AD ⟨⟨rfl,congrArg _ (by rw[f,a];rfl),trivial⟩,trivial⟩
theorem Wm {q p:Rat} (f:Ay q b1 l1 b2 l2) (u:BX q) (b:p= -q) (h:Ay p c1 m1 c2 m2):CF 371 [.agg (BK b1 l1 b2 l2)] (.agg (BK c1 m1 c2 m2)):=by
 refine AJ Tryz.func371 fun E m=>?_
 conv=>cbv
 obtain⟨j,k,a⟩:=AT (-q.num);refine AB (r:= .agg [.bool j,.sl .u32 k]) m (Pq f.num (by have:=f.small u;omega) a) ?_;try conv=>cbv
 refine g2 rfl ?_;exact AD ⟨⟨rfl,congrArg _ ((a.uniq h.num (by rw[b];rfl)).1.symm),congrArg _ ((a.uniq h.num (by rw[b];rfl)).2.symm),congrArg _ ((f.den.uniq h.den (by rw[b];rfl)).1.symm),congrArg _ ((f.den.uniq h.den (by rw[b];rfl)).2.symm),trivial⟩,trivial⟩
theorem Wi {p q:Rat} (a:Ay p b1 l1 b2 l2) (b:Ay q c1 m1 c2 m2) (v:BX p) (ht:BX q) (W:r=p+q) (D:Ay r d1 k1 d2 k2):CF 355 [.agg (BK b1 l1 b2 l2),.agg (BK c1 m1 c2 m2)] (.agg (BK d1 k1 d2 k2)):=by
 refine AJ Tryz.func355 fun E z=>?_
 conv=>cbv
 obtain⟨b8,F⟩:=xB (decide ((p.den:Int)=1));refine AB z (IP a.den F) ?_;conv=>cbv
 cases b8 <;> conv=>cbv
 ·obtain⟨K,P,f⟩:=AT (p.num*q.den);refine AB (r:= .agg [.bool K,.sl .u32 P]) z (ED a.num b.den f (by have:=a.small v;have:=b.small ht;omega) (by have:=a.small v;have:=b.small ht;omega)) ?_;try conv=>cbv
  obtain⟨L,Q,h⟩:=AT (q.num*p.den);refine AB (r:= .agg [.bool L,.sl .u32 Q]) z (ED b.num a.den h (by have:=a.small v;have:=b.small ht;omega) (by have:=a.small v;have:=b.small ht;omega)) ?_;try conv=>cbv
  obtain⟨M,S,m⟩:=AT (p.num*q.den+q.num*p.den);refine AB (r:= .agg [.bool M,.sl .u32 S]) z (MY f h m (by have:=a.small v;have:=b.small ht;have:=a.num.Cb b.den f rfl;omega) (by have:=a.small v;have:=b.small ht;have:=b.num.Cb a.den h rfl;omega)) ?_;try conv=>cbv
  refine g2 rfl ?_;obtain⟨N,U,u⟩:=AT ((p.den:Int)*q.den);refine AB (r:= .agg [.bool N,.sl .u32 U]) z (ED a.den b.den u (by have:=a.small v;have:=b.small ht;omega) (by have:=a.small v;have:=b.small ht;omega)) ?_;try conv=>cbv
  obtain⟨O,V,I,J,j⟩:=BP (r);refine AB (r:= .agg [.bool O,.sl .u32 V,.bool I,.sl .u32 J]) z (IY m u (Int.mul_ne_zero (FN p) (FN q)) (W.trans (Mx p q)) j (by have:=a.small v;have:=b.small ht;have:=a.num.Cb b.den f rfl;have:=b.num.Cb a.den h rfl;have:=f.Ko h m rfl (k:=8000000000000) (by omega) (by omega);omega) (by have:=a.small v;have:=b.small ht;have:=a.den.Cb b.den u rfl;omega)) ?_;try conv=>cbv
  refine g2 rfl ?_;exact AD ⟨⟨rfl,congrArg _ ((j.uniq D rfl).1.1.symm),congrArg _ ((j.uniq D rfl).1.2.symm),congrArg _ ((j.uniq D rfl).2.1.symm),congrArg _ ((j.uniq D rfl).2.2.symm),trivial⟩,trivial⟩
 obtain⟨a5,w⟩:=xB (decide ((q.den:Int)=1));refine AB z (IP b.den w) ?_;conv=>cbv
 cases a5 <;> conv=>cbv
 ·obtain⟨K,P,f⟩:=AT (p.num*q.den);refine AB (r:= .agg [.bool K,.sl .u32 P]) z (ED a.num b.den f (by have:=a.small v;have:=b.small ht;omega) (by have:=a.small v;have:=b.small ht;omega)) ?_;try conv=>cbv
  obtain⟨L,Q,h⟩:=AT (q.num*p.den);refine AB (r:= .agg [.bool L,.sl .u32 Q]) z (ED b.num a.den h (by have:=a.small v;have:=b.small ht;omega) (by have:=a.small v;have:=b.small ht;omega)) ?_;try conv=>cbv
  obtain⟨M,S,m⟩:=AT (p.num*q.den+q.num*p.den);refine AB (r:= .agg [.bool M,.sl .u32 S]) z (MY f h m (by have:=a.small v;have:=b.small ht;have:=a.num.Cb b.den f rfl;omega) (by have:=a.small v;have:=b.small ht;have:=b.num.Cb a.den h rfl;omega)) ?_;try conv=>cbv
  refine g2 rfl ?_;obtain⟨N,U,u⟩:=AT ((p.den:Int)*q.den);refine AB (r:= .agg [.bool N,.sl .u32 U]) z (ED a.den b.den u (by have:=a.small v;have:=b.small ht;omega) (by have:=a.small v;have:=b.small ht;omega)) ?_;try conv=>cbv
  obtain⟨O,V,I,J,j⟩:=BP (r);refine AB (r:= .agg [.bool O,.sl .u32 V,.bool I,.sl .u32 J]) z (IY m u (Int.mul_ne_zero (FN p) (FN q)) (W.trans (Mx p q)) j (by have:=a.small v;have:=b.small ht;have:=a.num.Cb b.den f rfl;have:=b.num.Cb a.den h rfl;have:=f.Ko h m rfl (k:=8000000000000) (by omega) (by omega);omega) (by have:=a.small v;have:=b.small ht;have:=a.den.Cb b.den u rfl;omega)) ?_;try conv=>cbv
  refine g2 rfl ?_;exact AD ⟨⟨rfl,congrArg _ ((j.uniq D rfl).1.1.symm),congrArg _ ((j.uniq D rfl).1.2.symm),congrArg _ ((j.uniq D rfl).2.1.symm),congrArg _ ((j.uniq D rfl).2.2.symm),trivial⟩,trivial⟩
 obtain⟨a1,a2,G⟩:=AT (p.num+q.num);refine AB (r:= .agg [.bool a1,.sl .u32 a2]) z (MY a.num b.num G (by have:=a.small v;have:=b.small ht;omega) (by have:=a.small v;have:=b.small ht;omega)) ?_;try conv=>cbv
 obtain⟨a6,a7,H⟩:=AT (1);refine AB z (OY H) ?_;conv=>cbv
 exact AD ⟨⟨rfl,congrArg _ ((G.uniq D.num (by rw[W];exact (Gq (of_decide_eq_true F.symm) (of_decide_eq_true w.symm)).1.symm)).1.symm),congrArg _ ((G.uniq D.num (by rw[W];exact (Gq (of_decide_eq_true F.symm) (of_decide_eq_true w.symm)).1.symm)).2.symm),congrArg _ ((H.uniq D.den (by rw[W,(Gq (of_decide_eq_true F.symm) (of_decide_eq_true w.symm)).2];rfl)).1.symm),congrArg _ ((H.uniq D.den (by rw[W,(Gq (of_decide_eq_true F.symm) (of_decide_eq_true w.symm)).2];rfl)).2.symm),trivial⟩,trivial⟩
theorem Wl {p q:Rat} (b:Ay p b1 l1 b2 l2) (f:Ay q c1 m1 c2 m2) (m:BX p) (ht:BX q) (N:r=p*q) (u:Ay r d1 k1 d2 k2):CF 351 [.agg (BK b1 l1 b2 l2),.agg (BK c1 m1 c2 m2)] (.agg (BK d1 k1 d2 k2)):=by
 refine AJ Tryz.func351 fun E M=>?_
 conv=>cbv
 obtain⟨V,v⟩:=xB (decide ((p.den:Int)=1));refine AB M (IP b.den v) ?_;conv=>cbv
 cases V <;> conv=>cbv
 ·obtain⟨G,J,h⟩:=AT (p.num*q.num);refine AB (r:= .agg [.bool G,.sl .u32 J]) M (ED b.num f.num h (by have:=b.small m;have:=f.small ht;omega) (by have:=b.small m;have:=f.small ht;omega)) ?_;try conv=>cbv
  obtain⟨H,K,j⟩:=AT ((p.den:Int)*q.den);refine AB (r:= .agg [.bool H,.sl .u32 K]) M (ED b.den f.den j (by have:=b.small m;have:=f.small ht;omega) (by have:=b.small m;have:=f.small ht;omega)) ?_;try conv=>cbv
  obtain⟨I,L,D,F,a⟩:=BP (r);refine AB (r:= .agg [.bool I,.sl .u32 L,.bool D,.sl .u32 F]) M (IY h j (Int.mul_ne_zero (FN p) (FN q)) (N.trans (Ln p q)) a (by have:=b.small m;have:=f.small ht;have:=b.num.Cb f.num h rfl;omega) (by have:=b.small m;have:=f.small ht;have:=b.den.Cb f.den j rfl;omega)) ?_;try conv=>cbv
  refine g2 rfl ?_;exact AD ⟨⟨rfl,congrArg _ ((a.uniq u rfl).1.1.symm),congrArg _ ((a.uniq u rfl).1.2.symm),congrArg _ ((a.uniq u rfl).2.1.symm),congrArg _ ((a.uniq u rfl).2.2.symm),trivial⟩,trivial⟩
 obtain⟨Q,k⟩:=xB (decide ((q.den:Int)=1));refine AB M (IP f.den k) ?_;conv=>cbv
 cases Q <;> conv=>cbv
 ·obtain⟨G,J,h⟩:=AT (p.num*q.num);refine AB (r:= .agg [.bool G,.sl .u32 J]) M (ED b.num f.num h (by have:=b.small m;have:=f.small ht;omega) (by have:=b.small m;have:=f.small ht;omega)) ?_;try conv=>cbv
  obtain⟨H,K,j⟩:=AT ((p.den:Int)*q.den);refine AB (r:= .agg [.bool H,.sl .u32 K]) M (ED b.den f.den j (by have:=b.small m;have:=f.small ht;omega) (by have:=b.small m;have:=f.small ht;omega)) ?_;try conv=>cbv
  obtain⟨I,L,D,F,a⟩:=BP (r);refine AB (r:= .agg [.bool I,.sl .u32 L,.bool D,.sl .u32 F]) M (IY h j (Int.mul_ne_zero (FN p) (FN q)) (N.trans (Ln p q)) a (by have:=b.small m;have:=f.small ht;have:=b.num.Cb f.num h rfl;omega) (by have:=b.small m;have:=f.small ht;have:=b.den.Cb f.den j rfl;omega)) ?_;try conv=>cbv
  refine g2 rfl ?_;exact AD ⟨⟨rfl,congrArg _ ((a.uniq u rfl).1.1.symm),congrArg _ ((a.uniq u rfl).1.2.symm),congrArg _ ((a.uniq u rfl).2.1.symm),congrArg _ ((a.uniq u rfl).2.2.symm),trivial⟩,trivial⟩
 obtain⟨O,P,w⟩:=AT (p.num*q.num);refine AB (r:= .agg [.bool O,.sl .u32 P]) M (ED b.num f.num w (by have:=b.small m;have:=f.small ht;omega) (by have:=b.small m;have:=f.small ht;omega)) ?_;try conv=>cbv
 obtain⟨S,U,z⟩:=AT (1);refine AB M (OY z) ?_;conv=>cbv
 exact AD ⟨⟨rfl,congrArg _ ((w.uniq u.num (by rw[N];exact (mul_ones (of_decide_eq_true v.symm) (of_decide_eq_true k.symm)).1.symm)).1.symm),congrArg _ ((w.uniq u.num (by rw[N];exact (mul_ones (of_decide_eq_true v.symm) (of_decide_eq_true k.symm)).1.symm)).2.symm),congrArg _ ((z.uniq u.den (by rw[N,(mul_ones (of_decide_eq_true v.symm) (of_decide_eq_true k.symm)).2];rfl)).1.symm),congrArg _ ((z.uniq u.den (by rw[N,(mul_ones (of_decide_eq_true v.symm) (of_decide_eq_true k.symm)).2];rfl)).2.symm),trivial⟩,trivial⟩
theorem Wk {p q:Rat} (j:Ay p b1 l1 b2 l2) (b:Ay q c1 m1 c2 m2) (k:BX p) (ht:BX q) (u:q≠0) (M:r=p/q) (K:Ay r d1 k1 d2 k2):CF 345 [.agg (BK b1 l1 b2 l2),.agg (BK c1 m1 c2 m2)] (.AI [(true,(BK d1 k1 d2 k2)),(false,[.int .i64 0])]):=by
 refine AJ Tryz.func345 fun E J=>?_
 conv=>cbv
 obtain⟨L,m⟩:=xB (decide (q.num=0));refine AB J (Ss b.num m) ?_;conv=>cbv
 cases L <;> conv=>cbv
 ·obtain⟨z,G,f⟩:=AT (p.num*q.den);refine AB (r:= .agg [.bool z,.sl .u32 G]) J (ED j.num b.den f (by have:=j.small k;have:=b.small ht;omega) (by have:=j.small k;have:=b.small ht;omega)) ?_;try conv=>cbv
  obtain⟨D,H,h⟩:=AT ((p.den:Int)*q.num);refine AB (r:= .agg [.bool D,.sl .u32 H]) J (ED j.den b.num h (by have:=j.small k;have:=b.small ht;omega) (by have:=j.small k;have:=b.small ht;omega)) ?_;try conv=>cbv
  obtain⟨F,I,v,w,a⟩:=BP (r);refine AB (r:= .agg [.bool F,.sl .u32 I,.bool v,.sl .u32 w]) J (IY f h (Int.mul_ne_zero (FN p) (mt Rat.num_eq_zero.1 u)) (M.trans (ZT p q)) a (by have:=j.small k;have:=b.small ht;have:=j.num.Cb b.den f rfl;omega) (by have:=j.small k;have:=b.small ht;have:=j.den.Cb b.num h rfl;omega)) ?_;try conv=>cbv
  refine g2 rfl ?_;exact AD ⟨⟨rfl,congrArg _ ((a.uniq K rfl).1.1.symm),congrArg _ ((a.uniq K rfl).1.2.symm),congrArg _ ((a.uniq K rfl).2.1.symm),congrArg _ ((a.uniq K rfl).2.2.symm),trivial⟩,t2,trivial⟩
 exact absurd (Rat.num_eq_zero.1 (of_decide_eq_true m.symm)) u
theorem O3 (q:Rat):(q.num<0/\Cw q= -1)\/(q.num=0/\Cw q=0)\/(0<q.num/\Cw q=1):=EY q.num
theorem Jc (q:Rat):0<(q.den:Int):=by have:=q.den_pos;omega
theorem VC {p q:Rat} (h:Cw p<Cw q):p<q:=by
 rw[Rat.lt_iff];rcases O3 p with⟨a,e⟩ |⟨a,e⟩ |⟨a,e⟩ <;> rcases O3 q with⟨b,e'⟩ |⟨b,e'⟩ |⟨b,e'⟩ <;> rw[e,e'] at h <;> try omega
 ·rw[b,Int.zero_mul];exact Int.mul_neg_of_neg_of_pos a (Jc q)
 ·exact Int.lt_trans (Int.mul_neg_of_neg_of_pos a (Jc q)) (Int.mul_pos b (Jc p))
 rw[a,Int.zero_mul];exact Int.mul_pos b (Jc p)
theorem ZG {p q:Rat} (h:p<q):E8 p q= -1:=by unfold E8;rw[if_pos h]
theorem ZF {p q:Rat} (h:q<p):E8 p q=1:=by
 unfold E8;rw[if_neg (fun h'=>Int.lt_asymm ((Rat.lt_iff _ _).1 h) ((Rat.lt_iff _ _).1 h')),if_pos h]
theorem Ra (p q:Rat):E8 p q=BF (p.num*q.den) (q.num*p.den):=by
 unfold E8 BF;simp only[Rat.lt_iff]
theorem Wj {p q:Rat} {c:Int} (h:Ay p b1 l1 b2 l2) (j:Ay q c1 m1 c2 m2) (G:BX p) (ht:BX q) (H:c=E8 p q):CF 312 [.agg (BK b1 l1 b2 l2),.agg (BK c1 m1 c2 m2)] (.one (.int .i64 c)):=by
 refine AJ Tryz.func312 fun E u=>?_
 conv=>cbv
 obtain⟨O,I⟩:=xI (Cw p);refine AB u (KX h I) ?_;conv=>cbv
 obtain⟨M,v⟩:=xI (Cw q);refine AB u (KX j v) ?_;conv=>cbv
 refine g2 rfl ?_;intro L k;conv=>cbv
 cases L <;> conv=>cbv
 ·have J:=Cr k;obtain⟨w,D,b⟩:=AT (p.num*q.den);refine AB (r:= .agg [.bool w,.sl .u32 D]) u (ED h.num j.den b (by have:=h.small G;have:=j.small ht;omega) (by have:=h.small G;have:=j.small ht;omega)) ?_;try conv=>cbv
  obtain⟨z,F,f⟩:=AT (q.num*p.den);refine AB (r:= .agg [.bool z,.sl .u32 F]) u (ED j.num h.den f (by have:=h.small G;have:=j.small ht;omega) (by have:=h.small G;have:=j.small ht;omega)) ?_;try conv=>cbv
  obtain⟨N,a⟩:=xI (BF (p.num*q.den) (q.num*p.den));refine AB u (Pd b f a) ?_;conv=>cbv
  refine g2 rfl ?_;exact AD ⟨⟨rfl,congrArg _ (by rw[H,a,Ra]),trivial⟩,trivial⟩
 have J:=Cs k;intro n16 m;conv=>cbv
 cases n16 <;> conv=>cbv
 ·have K:=AW m;exact AD ⟨⟨rfl,congrArg _ (by rw[H];exact ZF (VC (by omega))),trivial⟩,trivial⟩
 have K:=AY m;exact AD ⟨⟨rfl,congrArg _ (by rw[H];exact ZG (VC (by omega))),trivial⟩,trivial⟩
theorem IQ {b:Bool} (h:AU x b l) (h':AU ((A0 x.toNat:Nat):Int) b' l'):l'.length<=l.length:=by
 rw[h.Au,h'.Au,Int.natAbs_natCast];exact DG (Nat.le_trans (Nat.le_trans (Nat.le_mul_self _) (Jl x.toNat)) (by omega))
theorem cw {e:Int} (h:e=if x<0 then 7 else 0) (a:e≠0):decide (((A0 x.toNat:Nat):Int)*((A0 x.toNat:Nat):Int)=x)=false:=by
 have f:x<0:=by
  apply Classical.byContradiction;intro b;rw[if_neg b] at h;exact a h
 rw[show x.toNat=0 by omega];simp only[decide_eq_false_iff_not];intro h';rw[show A0 0=0 from rfl] at h';omega
theorem ZJ (a b:Int):decide (a=b)=(BF a b==0):=by
 unfold BF;rw[Bool.eq_iff_iff,decide_eq_true_eq,beq_iff_eq]
 split
 ·omega
 split <;> omega
theorem MD (u:AU x b1 l1) (v:AU ((A0 x.toNat:Nat):Int) b2 l2) (F:c=decide (((A0 x.toNat:Nat):Int)*((A0 x.toNat:Nat):Int)=x)) (s1:l1.length<=4000000000000):CF 369 [.agg (At b1 l1)] (.AI [(true,(At b2 l2)),(false,[.bool c])]):=by
 refine AJ Tryz.func369 fun E z=>?_
 conv=>cbv
 obtain⟨H,I,a⟩:=AT ((A0 x.toNat:Nat):Int);obtain⟨J,j⟩:=xI (if x<0 then 7 else 0);refine AB z (Ww u a j (by omega)) ?_;conv=>cbv
 intro D h;conv=>cbv
 cases D <;> conv=>cbv
 ·have k:=Ac h;refine g2 rfl ?_;exact AD ⟨⟨rfl,congrArg _ ((a.uniq v rfl).1.symm),congrArg _ ((a.uniq v rfl).2.symm),trivial⟩,⟨rfl,congrArg _ (by rw[F];exact cw j k),trivial⟩,trivial⟩
 have k:=Ae h;obtain⟨m,q,f⟩:=AT (((A0 x.toNat:Nat):Int)*((A0 x.toNat:Nat):Int));refine AB (r:= .agg [.bool m,.sl .u32 q]) z (ED a a f (by have:=IQ u a;omega) (by have:=IQ u a;omega)) ?_;try conv=>cbv
 obtain⟨G,b⟩:=xI (BF (((A0 x.toNat:Nat):Int)*((A0 x.toNat:Nat):Int)) x);refine AB z (Pd f u b) ?_;conv=>cbv
 intro n20 w;conv=>cbv
 refine g2 rfl ?_;exact AD ⟨⟨rfl,congrArg _ ((a.uniq v rfl).1.symm),congrArg _ ((a.uniq v rfl).2.symm),trivial⟩,⟨rfl,congrArg _ (by rw[F,w,b];exact ZJ _ _),trivial⟩,trivial⟩
theorem Wo {q:Rat} (z:Ay q b1 l1 b2 l2) (K:BX q) (H:0<=r) (J:r*r=q) (D:Ay r c1 m1 c2 m2):CF 328 [.agg (BK b1 l1 b2 l2)] (.AI [(true,(BK c1 m1 c2 m2)),(false,[.bool true])]):=by
 refine AJ Tryz.func328 fun E I=>?_
 conv=>cbv
 obtain⟨m,v,a⟩:=AT (r.num);have G:=Vh H J;refine AB (r:= .AI [(true,[.bool m,.sl .u32 v]),(false,[.bool true])]) I (MD z.num (by rw[G.1];exact a) (by rw[G.1];exact (decide_eq_true G.2).symm) (by have:=z.small K;omega)) ?_;try conv=>cbv
 obtain⟨u,w,b⟩:=AT (r.den:Int);have F:=Vg H J;refine AB (r:= .AI [(true,[.bool u,.sl .u32 w]),(false,[.bool true])]) I (MD z.den (by rw[F.1];exact b) (by rw[F.1];exact (decide_eq_true F.2).symm) (by have:=z.small K;omega)) ?_;try conv=>cbv
 intro n21 f;conv=>cbv
 cases n21 <;> conv=>cbv
 ·have j:=C1 f;intro n24 h;conv=>cbv
  cases n24 <;> conv=>cbv
  ·have k:=C1 h;exact AD ⟨⟨rfl,congrArg _ ((a.uniq D.num rfl).1.symm),congrArg _ ((a.uniq D.num rfl).2.symm),congrArg _ ((b.uniq D.den rfl).1.symm),congrArg _ ((b.uniq D.den rfl).2.symm),trivial⟩,t2,trivial⟩
  have k:=C2 h;exact absurd k (by decide)
 have j:=C2 f;exact absurd j (by decide)
theorem Wn {q:Rat} (F:Ay q b1 l1 b2 l2) (J:BX q) (K:¬∃r:Rat,0<=r/\r*r=q):CF 328 [.agg (BK b1 l1 b2 l2)] (.AI [(true,[.bool false,.sl .u32 [],.bool false,.sl .u32 []]),(false,[.bool false])]):=by
 refine AJ Tryz.func328 fun E I=>?_
 conv=>cbv
 obtain⟨v,z,j⟩:=AT (((A0 q.num.toNat:Nat):Int));obtain⟨G,a⟩:=xB (decide (((A0 q.num.toNat:Nat):Int)*((A0 q.num.toNat:Nat):Int)=q.num));refine AB (r:= .AI [(true,[.bool v,.sl .u32 z]),(false,[.bool G])]) I (MD F.num j a (by have:=F.small J;omega)) ?_;try conv=>cbv
 obtain⟨w,D,k⟩:=AT (((A0 (q.den:Int).toNat:Nat):Int));obtain⟨H,b⟩:=xB (decide (((A0 (q.den:Int).toNat:Nat):Int)*((A0 (q.den:Int).toNat:Nat):Int)=(q.den:Int)));refine AB (r:= .AI [(true,[.bool w,.sl .u32 D]),(false,[.bool H])]) I (MD F.den k b (by have:=F.small J;omega)) ?_;try conv=>cbv
 intro n21 f;conv=>cbv
 cases n21 <;> conv=>cbv
 ·have m:=C1 f;intro n24 h;conv=>cbv
  cases n24 <;> conv=>cbv
  ·have u:=C1 h;exact absurd (Vf (of_decide_eq_true (a.symm.trans m)) (of_decide_eq_true (b.symm.trans u))) K
  have u:=C2 h;exact AD ⟨⟨rfl,rfl,C7,rfl,C7,trivial⟩,t2,trivial⟩
 have m:=C2 f;exact AD ⟨⟨rfl,rfl,C7,rfl,C7,trivial⟩,t2,trivial⟩
theorem WY {q:Rat} (z:AU n b1 l1) (D:AU d b2 l2) (w:d≠0) (F:q=Rat.divInt n d) (v:Ay q c1 m1 c2 m2) (s1:l1.length<=17592186042000) (s2:l2.length<=17592186042000):CF 373 [.agg (At b1 l1),.agg (At b2 l2)] (.AI [(true,(BK c1 m1 c2 m2)),(false,[.int .i64 0])]):=by
 refine AJ Tryz.func373 fun E u=>?_
 conv=>cbv
 obtain⟨G,I,f⟩:=AT (n);refine AB u (Ps z (by omega) f) ?_;conv=>cbv
 obtain⟨H,J,b⟩:=AT (d);refine AB u (Ps D (by omega) b) ?_;conv=>cbv
 refine g2 rfl ?_;refine AB (r:= .one (.bool false)) u (Ss b (by simp[w])) ?_;conv=>cbv
 obtain⟨k,m,h,j,a⟩:=BP (q);refine AB (r:= .agg [.bool k,.sl .u32 m,.bool h,.sl .u32 j]) u (IY f b w F a (by rw[(f.uniq z rfl).2];exact s1) (by rw[(b.uniq D rfl).2];exact s2)) ?_;try conv=>cbv
 exact AD ⟨⟨rfl,congrArg _ ((a.uniq v rfl).1.1.symm),congrArg _ ((a.uniq v rfl).1.2.symm),congrArg _ ((a.uniq v rfl).2.1.symm),congrArg _ ((a.uniq v rfl).2.2.symm),trivial⟩,t2,trivial⟩
theorem MT {b:Bool} (a: -9223372036854775808<=x/\x<9223372036854775808) (h:AU x b l):l.length<=2:=by
 rw[h.Au];exact Ex (by omega)
theorem WT {q:Rat} (G: -9223372036854775808<=n/\n<9223372036854775808) (F: -9223372036854775808<=d/\d<9223372036854775808) (N:d≠0) (O:q=Rat.divInt n d) (D:Ay q c1 m1 c2 m2):CF 336 [.one (.int .i64 n),.one (.int .i64 d)] (.agg (BK c1 m1 c2 m2)):=by
 refine AJ Tryz.func336 fun E z=>?_
 conv=>cbv
 obtain⟨P,Q,f⟩:=AT (n);refine AB z (KS G f) ?_;conv=>cbv
 obtain⟨J,L,b⟩:=AT (d);refine AB z (KS F b) ?_;conv=>cbv
 obtain⟨v,w,m,u,a⟩:=BP q;refine AB (r:= .AI [(true,[.bool v,.sl .u32 w,.bool m,.sl .u32 u]),(false,[.int .i64 0])]) z (WY f b N O a (by have:=MT G f;omega) (by have:=MT F b;omega)) ?_;try conv=>cbv
 intro n16 h;conv=>cbv
 cases n16 <;> conv=>cbv
 ·have k:=Cr h;exact AD ⟨⟨rfl,congrArg _ ((a.uniq D rfl).1.1.symm),congrArg _ ((a.uniq D rfl).1.2.symm),congrArg _ ((a.uniq D rfl).2.1.symm),congrArg _ ((a.uniq D rfl).2.2.symm),trivial⟩,trivial⟩
 have k:=Cs h;obtain⟨K,M,H,I,j⟩:=BP (((0:Int):Rat));refine AB z (Fq (by omega) rfl j) ?_;conv=>cbv
 exact absurd k (by decide)
theorem fK (f:AU y b2 l2) (h:Bn y<=0:=by omega):GA b1 l1 b2 l2=false:=by
 apply Bool.eq_false_iff.2;intro h';obtain⟨q,b⟩:=PQ.1 h';have e:y=(q.den:Int):=by rw[f.EK,b.den.EK]
 have:=Jc q;rcases EY y with⟨a,e'⟩ |⟨a,e'⟩ |⟨a,e'⟩ <;> omega
theorem fJ (f:true=Fl b1 l1) (j:true=Fl b2 l2) (q:AU x b1 l1) (b:AU y b2 l2) (h:0<Bn y) (k:c=decide (((Nat.gcd x.natAbs y.natAbs:Nat):Int)=1)):GA b1 l1 b2 l2=c:=by
 have u:0<y:=by rcases EY y with⟨a,e'⟩ |⟨a,e'⟩ |⟨a,e'⟩ <;> omega
 have hb:b2=false:=by rw[b.neg];exact decide_eq_false (by omega)
 have m:l2≠[]:=fun e=>by have:=b.nil.1 e;omega
 unfold GA;rw[<-f,<-j,hb,decide_eq_true m,k,q.nat,b.nat];simp only[Bool.true_and,Bool.not_false];rw[Bool.eq_iff_iff,decide_eq_true_eq,decide_eq_true_eq];omega
theorem Pu (q:c=GA b1 l1 b2 l2) (s1:l1.length<=17592186042000) (s2:l2.length<=17592186042000):CF 327 [.agg (BK b1 l1 b2 l2)] (.one (.bool c)):=by
 refine AJ Tryz.func327 fun E k=>?_
 conv=>cbv
 obtain⟨G,a⟩:=xB (Fl b1 l1);refine AB k (P7 a) ?_;conv=>cbv
 cases G <;> conv=>cbv
 ·exact AD ⟨⟨rfl,congrArg _ (by rw[q];unfold GA;rw[<-a];rfl),trivial⟩,trivial⟩
 obtain⟨H,b⟩:=xB (Fl b2 l2);refine AB k (P7 b) ?_;conv=>cbv
 cases H <;> conv=>cbv
 ·exact AD ⟨⟨rfl,congrArg _ (by rw[q];unfold GA;rw[<-b];exact Bool.and_false _),trivial⟩,trivial⟩
 obtain⟨x,w⟩:=I5.1 a.symm;obtain⟨y,u⟩:=I5.1 b.symm;obtain⟨I,m⟩:=xI (Bn y);refine AB k (JC u m) ?_;conv=>cbv
 intro n15 j;conv=>cbv
 cases n15 <;> conv=>cbv
 ·have v:=Bh j;exact AD ⟨⟨rfl,congrArg _ (by rw[q];exact fK u),trivial⟩,trivial⟩
 have v:=Bi j;obtain⟨z,D,h⟩:=AT (((Nat.gcd x.natAbs y.natAbs:Nat):Int));refine AB k (Pg w u h (by omega) (by omega)) ?_;conv=>cbv
 obtain⟨F,f⟩:=xB (decide (((Nat.gcd x.natAbs y.natAbs:Nat):Int)=1));refine AB k (IP h f) ?_;conv=>cbv
 exact AD ⟨⟨rfl,congrArg _ (by rw[q];exact fJ a b w u (by omega) f),trivial⟩,trivial⟩
end Go.Abs
namespace Go.Abs
open Go.RowKit
variable {B X Z o:LR} {i n zn:Nat} {xs ys:List Rat}
theorem Zv {A:LR} (w:A=X.take (X.length/2)) (z:B=X.drop (X.length/2)):CF 348 [.one (.sl AA X)] (.AI [(false,[.sl AA A]),(false,[.sl AA B])]):=by
 refine AJ Tryz.func348 fun E M=>?_
 conv=>cbv
 rintro P ⟨K,f6⟩;conv=>cbv
 intro Q L;conv=>cbv
 refine g2 ⟨by omega,by omega,i64 (by omega)⟩ ?_;intro O F;conv=>cbv
 refine AG ?_;intro q D;conv=>cbv
 intro N j;conv=>cbv
 rintro I ⟨u,f11⟩;conv=>cbv
 intro J v;conv=>cbv
 refine g2 ⟨by omega,by omega,i64 (by omega)⟩ ?_;intro H f;conv=>cbv
 refine AG ?_;rintro h m ⟨k,a⟩;conv=>cbv
 intro G b;conv=>cbv
 refine g2 rfl ?_;exact AD ⟨⟨rfl,congrArg _ (by rw[w,j,List.drop_zero,show q=X.length/2 by omega]),trivial⟩,⟨rfl,congrArg _ (by rw[z,b,a,f,List.take_length,show h=X.length/2 by omega]),trivial⟩,trivial⟩
theorem dy {X A:List LR} (m:X≠[]) (u:A=X.take (X.length-1)) (v:X[X.length-1]? =some B):CF 346 [.one (.sl (.sl AA) X)] (.AI [(false,[.sl (.sl AA) A]),(false,[.sl AA B])]):=by
 refine AJ Tryz.func346 fun E I=>?_
 conv=>cbv
 rintro L ⟨F,f6⟩;conv=>cbv
 have G:0<X.length:=List.length_pos_iff.2 m;intro M H;conv=>cbv
 refine AH ?_;intro K z;conv=>cbv
 refine AG ?_;intro j w;conv=>cbv
 intro J f;conv=>cbv
 rintro D ⟨k,f11⟩;conv=>cbv
 intro b q;conv=>cbv
 refine AH ?_;obtain⟨h,a⟩:=AL (l:=X) (i:=(b).toNat) (by omega);refine⟨h,fun _=>⟨by omega,a⟩,?_⟩;try conv=>cbv
 refine g2 rfl ?_;exact AD ⟨⟨rfl,congrArg _ (by rw[u,f,List.drop_zero,show j=X.length-1 by omega]),trivial⟩,⟨rfl,congrArg _ (by rw[show b.toNat=X.length-1 by omega] at a;exact (Option.some.inj (v.symm.trans a))),trivial⟩,trivial⟩
theorem Zx {Z:Nat->LR} (h:o.take i=Z i) (e:i=n):o.take n=Z n:=by rw[<-e];exact h
theorem MM {α:Type} {o:List α} {w:α} (h:i<o.length):(o.set i w).take (i+1)=o.take i++[w]:=by
 rw[List.take_succ_eq_append_getElem (by rw[List.length_set];exact h),List.take_set_of_le (Nat.le_refl _),List.getElem_set_self]
theorem fh {a:Int} (ha:AQ a n) (hn:n<=1000000) (hX:X=Ad (List.replicate n 0)) (I:zn=X.length):CF 352 [.one (.int .i64 a)] (.one (.own AA X zn)):=by
 have ea:=ha.eq;refine AJ Tryz.func352 fun E hE=>?_
 conv=>cbv
 refine⟨fun _=>⟨by omega,by omega,by show _*64<=140737488355328;omega⟩,?_⟩;intro K (M:LR) G;have a6:=G.1;have H:M=List.replicate K (((false,[]),(false,[])):el AA):=G.2;have W:M.length=K:=by rw[H,List.length_replicate]
 conv=>cbv
 intro n8 h8;have e8:=h8.eq;conv=>cbv
 refine .inr ?_;obtain⟨V,w⟩:=xJ fun vs O k=>∃(o:LR) (m i':Nat) (L i:Int),vs=[.one (.AN AA 6 0 0 m),.one (.int .i64 L),.one (.int .i64 i)]/\O=[.arr 0 AA o]/\(o.length=n/\m=n/\CM L n/\AQ i i'/\i'<=n)/\o.take i'=Ad (List.replicate i' 0)/\k=n-i'
 refine⟨[],[3,8,9],[6],V,⟨n-0,by rw[w];exact⟨M,K,0,n8,0,rfl,rfl,⟨by omega,by omega,⟨by omega,by omega⟩,An 0,by omega⟩,rfl,rfl⟩⟩,?_⟩;intro vs O a7 S;rw[w] at S;obtain⟨o,m,i',L,i,rfl,rfl,⟨ho,hm,Q,hi,a2⟩,hinv,a5⟩:=S;conv=>cbv
 have eL:=Q.eq;have ei:=hi.eq;intro N D;conv=>cbv
 cases N <;> conv=>cbv
 ·have J:=AW D;have b:o=X:=by rw[hX,<-Zx (Z:=fun i=>Ad (List.replicate i 0)) hinv (by omega),List.take_of_length_le (by omega)]
  exact AD ⟨⟨rfl,.inr (.inl ⟨_,_,by decide,rfl,rfl,by omega,rfl,CX (b.symm) (by rw[I,<-b])⟩),trivial⟩,trivial⟩
 have J:=AY D;refine .inr ?_;obtain⟨u,v,j,q,h⟩:=BP (((0:Int):Rat));refine AB hE (Fq (by omega) rfl h) ?_;conv=>cbv
 refine AG ?_;intro F U;conv=>cbv
 refine⟨((u,v),(j,q)),fun _=>⟨by show _<List.length (α:=(el AA)) o;(first | omega | (simp;omega)),by first | exact t1 | exact t2 | exact t4 | simp[Aj,Ar,cells]⟩,?_⟩;intro (z:LR) (f:z=List.set (α:=(el AA)) o F (((u,v),(j,q))));have P:z.length=o.length:=by rw[f,List.length_set]
 conv=>cbv
 intro n16 a1;conv=>cbv
 refine AH ?_;refine⟨n-(i'+1),?_,?_⟩
 ·omega
 rw[w];refine⟨z,m,i'+1,L,n16,rfl,rfl,⟨by omega,by omega,Q,⟨by omega⟩,by omega⟩,?_,rfl⟩;rw[f,show F=i' by omega,MM (by omega),hinv,List.replicate_succ',Ad,Ad,List.map_append,<-h.rp];rfl
theorem GV {x:el AA} (b:X=Ad xs) (f:C4 xs) (a:X[i]? =some x):∃q,Ay q x.1.1 x.1.2 x.2.1 x.2.2/\xs[i]? =some q/\BX q:=by
 rw[b,Ad,List.getElem?_map] at a;cases h:xs[i]? with
 | none=>rw[h] at a;simp at a
 | some q=>
  rw[h] at a;have e:x=rp q:=(Option.some.inj a).symm;exact⟨q,by rw[e];exact FA q,rfl,f q (List.mem_of_getElem? h)⟩
theorem Un (h:o.take i=Ad (ys.take i)) (b:i=n) (a:o.length=n) (f:ys.length=n):Ad ys=o.take n:=by
 rw[b] at h;rw[h,<-f,List.take_length]
theorem Up {l:LR} {j:Nat} {q:Rat} {w:el AA} (h:o.take i=Ad (ys.take i)) (b:i<o.length) (f:j=i) (k:l=o.set j w) (a:ys[i]? =some q) (hw:rp q=w):l.take (i+1)=Ad (ys.take (i+1)):=by
 have m:i<ys.length:=Ew a;rw[k,f,MM b,h,List.take_succ,a,Ad,Ad,List.map_append,<-hw];rfl
theorem bK (hX:X=Ad xs) (hs:C4 xs) (hn:xs.length<=1000000) (hZ:Z=Ad (xs.map (- ·))):CF 333 [.one (.sl AA X)] (.one (.sl AA Z)):=by
 refine AJ Tryz.func333 fun E hE=>?_
 conv=>cbv
 have a7:X.length=xs.length:=by rw[hX,List.length_map]
 rintro n7 ⟨e7,f7⟩;conv=>cbv
 refine⟨fun _=>⟨by omega,by omega,by show _*64<=140737488355328;omega⟩,?_⟩;intro N (O:LR) G;have ab:=G.1;have H:O=List.replicate N (((false,[]),(false,[])):el AA):=G.2;have a5:O.length=N:=by rw[H,List.length_replicate]
 conv=>cbv
 intro P w;have a2:=w.eq;have f10:=w.le;conv=>cbv
 refine .inr ?_;obtain⟨J0,z⟩:=xJ fun vs U k=>∃(o:LR) (m i':Nat) (L i:Int),vs=[.one (.AN AA 8 0 0 m),.one (.sl AA X),.one (.int .i64 L),.one (.int .i64 i)]/\U=[.arr 0 AA o]/\(o.length=X.length/\m=X.length/\CM L X.length/\AQ i i'/\i'<=X.length)/\o.take i'=Ad ((xs.map (- ·)).take i')/\k=X.length-i'
 refine⟨[],[3,9,10,11],[8],J0,⟨X.length-0,by rw[z];exact⟨O,N,0,P,0,rfl,rfl,⟨by omega,by omega,w,An 0,by omega⟩,rfl,rfl⟩⟩,?_⟩;intro vs U ad hj;rw[z] at hj;obtain⟨o,m,i',L,i,rfl,rfl,⟨ho,hm,W,hi,a8⟩,hinv,aa⟩:=hj;conv=>cbv
 have eL:=W.eq;have ei:=hi.eq;intro Q F;conv=>cbv
 cases Q <;> conv=>cbv
 ·have M:=AW F;exact AD ⟨⟨rfl,.inl ⟨_,rfl,by omega,congrArg _ (by rw[hZ,hm,List.drop_zero];exact Un hinv (by omega) (by omega) (by rw[List.length_map];omega))⟩,trivial⟩,trivial⟩
 have M:=AY F;refine .inr ?_;obtain⟨S,b⟩:=AL (l:=X) (i:=i') (by omega);refine⟨S,fun _=>⟨by omega,by rw[show (i).toNat=i' by omega];exact b⟩,?_⟩;try conv=>cbv
 obtain⟨q,hq,I,J⟩:=GV hX hs b;obtain⟨u,v,h,j,f⟩:=BP (-q);refine AB hE (Wm hq J rfl f) ?_;conv=>cbv
 refine AG ?_;intro K a1;conv=>cbv
 refine⟨((u,v),(h,j)),fun _=>⟨by show _<List.length (α:=(el AA)) o;(first | omega | (simp;omega)),by first | exact t1 | exact t2 | exact t4 | simp[Aj,Ar,cells]⟩,?_⟩;intro (D:LR) (a:D=List.set (α:=(el AA)) o K (((u,v),(h,j))));have V:D.length=o.length:=by rw[a,List.length_set]
 conv=>cbv
 intro n21 a6;conv=>cbv
 refine AH ?_;refine⟨X.length-(i'+1),?_,?_⟩
 ·omega
 rw[z];refine⟨D,m,i'+1,L,n21,rfl,rfl,⟨by omega,by omega,W,⟨by omega⟩,by omega⟩,?_,rfl⟩;exact Up hinv (by omega) (by omega) a (by rw[List.getElem?_map,I];rfl) f.rp
theorem YK {Y:LR} (hX:X=Ad xs) (hY:Y=Ad ys) (hs:C4 xs) (ht:C4 ys) (Q:ys.length=xs.length) (hn:xs.length<=1000000) (hZ:Z=Ad (List.zipWith (· + ·) xs ys)) (S:zn=Z.length):CF 304 [.one (.sl AA X),.one (.sl AA Y)] (.one (.own AA Z zn)):=by
 refine AJ Tryz.func304 fun E hE=>?_
 conv=>cbv
 have ae:X.length=xs.length:=by rw[hX,List.length_map]
 have af:Y.length=xs.length:=by rw[hY,List.length_map,Q]
 rintro n8 ⟨e8,f8⟩;conv=>cbv
 refine⟨fun _=>⟨by omega,by omega,by show _*64<=140737488355328;omega⟩,?_⟩;intro W (l9:LR) I;have ai:=I.1;have K:l9=List.replicate W (((false,[]),(false,[])):el AA):=I.2;have ab:l9.length=W:=by rw[K,List.length_replicate]
 conv=>cbv
 intro a1 J;have aa:=J.eq;conv=>cbv
 refine .inr ?_;obtain⟨J0,D⟩:=xJ fun vs bl k=>∃(o:LR) (m i':Nat) (L i:Int),vs=[.one (.sl AA X),.one (.sl AA Y),.one (.AN AA 9 0 0 m),.one (.int .i64 L),.one (.int .i64 i)]/\bl=[.arr 0 AA o]/\(o.length=X.length/\m=X.length/\AQ L X.length/\AQ i i'/\i'<=X.length)/\o.take i'=Ad ((List.zipWith (· + ·) xs ys).take i')/\k=X.length-i'
 refine⟨[],[0,1,5,11,12],[9],J0,⟨X.length-0,by rw[D];exact⟨l9,W,0,a1,0,rfl,rfl,⟨by omega,by omega,⟨by omega⟩,An 0,by omega⟩,rfl,rfl⟩⟩,?_⟩;intro vs bl aj hj;rw[D] at hj;obtain⟨o,m,i',L,i,rfl,rfl,⟨ho,hm,hL,hi,ag⟩,hinv,ah⟩:=hj;conv=>cbv
 have eL:=hL.eq;have ei:=hi.eq;intro a2 G;conv=>cbv
 cases a2 <;> conv=>cbv
 ·have V:=AW G;have H:Ad (List.zipWith (· + ·) xs ys)=o.take X.length:=Un hinv (by omega) (by omega) (by rw[List.length_zipWith];omega);have a:Z=o:=by rw[hZ,H,List.take_of_length_le (by omega)]
  exact AD ⟨⟨rfl,.inr (.inl ⟨_,_,by decide,rfl,rfl,by omega,rfl,CX (a) (by rw[S,a])⟩),trivial⟩,trivial⟩
 have V:=AY G;refine .inr ?_;obtain⟨a5,f⟩:=AL (l:=X) (i:=i') (by omega);refine⟨a5,fun _=>⟨by omega,by rw[show (i).toNat=i' by omega];exact f⟩,?_⟩;try conv=>cbv
 obtain⟨a6,h⟩:=AL (l:=Y) (i:=i') (by omega);refine⟨a6,fun _=>⟨by omega,by rw[show (i).toNat=i' by omega];exact h⟩,?_⟩;try conv=>cbv
 obtain⟨p,hp,M,O⟩:=GV hX hs f;obtain⟨q,hq,N,P⟩:=GV hY ht h;obtain⟨w,z,u,v,j⟩:=BP (p+q);refine AB hE (Wi hp hq O P rfl j) ?_;conv=>cbv
 refine AG ?_;intro U a8;conv=>cbv
 refine⟨((w,z),(u,v)),fun _=>⟨by show _<List.length (α:=(el AA)) o;(first | omega | (simp;omega)),by first | exact t1 | exact t2 | exact t4 | simp[Aj,Ar,cells]⟩,?_⟩;intro (F:LR) (b:F=List.set (α:=(el AA)) o U (((w,z),(u,v))));have a7:F.length=o.length:=by rw[b,List.length_set]
 conv=>cbv
 refine g2 rfl ?_;intro n27 ad;conv=>cbv
 refine AH ?_;refine⟨X.length-(i'+1),?_,?_⟩
 ·omega
 rw[D];refine⟨F,m,i'+1,L,n27,rfl,rfl,⟨by omega,by omega,hL,⟨by omega⟩,by omega⟩,?_,rfl⟩;exact Up hinv (by omega) (by omega) b (by rw[List.getElem?_zipWith,M,N]) j.rp
end Go.Abs
namespace Go.Abs
open Go.RowKit
def FP (p:el AA->Bool):Nat->LR->Int
 | _,[]=> -1
 | i,x::l=>if p x=true then i else FP p (i+1) l
variable {Y:LR} {b1 b2 c:Bool} {g:FuncId} {i:Nat} {l1 l2:List UInt32} {ys:List Rat}
theorem Sc {X:LR} {x:el AA} (h:X[i]? =some x):X.drop i=x::X.drop (i+1):=by
 have a:=Ew h;rw[List.drop_eq_getElem_cons a];rw[List.getElem?_eq_getElem a] at h;rw[Option.some.inj h]
theorem Z2 {X:LR} {p:el AA->Bool} {x:el AA} (h:X[i]? =some x) (a:p x=false):FP p i (X.drop i)=FP p (i+1) (X.drop (i+1)):=by
 rw[Sc h,FP,a];rfl
theorem Z1 {X:LR} {p:el AA->Bool} {x:el AA} (h:X[i]? =some x) (a:p x=true):FP p i (X.drop i)=i:=by
 rw[Sc h,FP,if_pos a]
theorem WV {X:LR} {p:el AA->Bool} {r:Int} (G:∀x∈X,CF g [.agg (cells AA x)] (.one (.bool (p x)))) (K:r=FP p 0 X):CF 365 [.one (.sl AA X),.one (.fn g)] (.one (.int .i64 r)):=by
 refine AJ Tryz.func365 fun E F=>?_
 conv=>cbv
 intro O m;have Q:=m.eq;have f7:=m.le;conv=>cbv
 refine .inr ?_;obtain⟨w,h⟩:=xJ fun vs z k=>∃(i':Nat) (L i:Int),vs=[.one (.sl AA X),.one (.fn g),.one (.int .i64 L),.one (.int .i64 i)]/\(CM L X.length/\AQ i i'/\i'<=X.length)/\r=FP p i' (X.drop i')/\k=X.length-i'
 refine⟨[],[0,1,7,8],[],w,⟨X.length-0,by rw[h];exact⟨0,O,0,rfl,⟨m,An 0,by omega⟩,K,rfl⟩⟩,?_⟩;intro vs z N v;rw[h] at v;obtain⟨i',L,i,rfl,⟨u,H,I⟩,hinv,J⟩:=v;conv=>cbv
 have S:=u.eq;have U:=H.eq;intro P q;conv=>cbv
 cases P <;> conv=>cbv
 ·have M:=AW q;exact AD ⟨⟨rfl,congrArg _ (by rw[hinv,List.drop_eq_nil_of_le (by omega)];rfl),trivial⟩,trivial⟩
 have M:=AY q;refine .inr ?_;obtain⟨a,b⟩:=AL (l:=X) (i:=i') (by omega);refine⟨a,fun _=>⟨by omega,by rw[show (i).toNat=i' by omega];exact b⟩,?_⟩;try conv=>cbv
 obtain⟨j,f⟩:=xB (p a);refine .inl ⟨[.agg [.bool a.1.1,.sl .u32 a.1.2,.bool a.2.1,.sl .u32 a.2.2]],.one (.bool j),fun _=>⟨t4,trivial⟩,fun _=>Et F ((by rw[f];exact G a (List.mem_of_getElem? b))),?_⟩;try conv=>cbv
 cases j <;> conv=>cbv
 ·intro n18 D;conv=>cbv
  refine AH ?_;refine⟨X.length-(i'+1),?_,?_⟩
  ·omega
  rw[h];refine⟨i'+1,L,n18,rfl,⟨u,⟨by omega⟩,by omega⟩,?_,rfl⟩;rw[hinv,Z2 b f.symm]
 exact AD ⟨⟨rfl,congrArg _ (by rw[hinv,Z1 b f.symm];omega),trivial⟩,trivial⟩
theorem Sb (p:el AA->Bool):∀(X:LR) (i:Nat),decide (FP p i X >= 0)=X.any p
 | [],i=>rfl
 | x::X,i=>by
  rw[FP,List.any_cons]
  split
  ·rename_i h;rw[h,Bool.true_or];exact decide_eq_true (by omega)
  rename_i h;rw[Bool.eq_false_iff.2 h,Bool.false_or];exact Sb p X (i+1)
theorem Pf {X:LR} {p:el AA->Bool} (j:∀x∈X,CF g [.agg (cells AA x)] (.one (.bool (p x)))) (h:c=X.any p):CF 324 [.one (.sl AA X),.one (.fn g)] (.one (.bool c)):=by
 refine AJ Tryz.func324 fun E f=>?_
 conv=>cbv
 obtain⟨m,a⟩:=xI (FP p 0 X);refine AB f (WV j a) ?_;conv=>cbv
 intro k b;conv=>cbv
 exact AD ⟨⟨rfl,congrArg _ (by rw[h,b,a];exact (Sb p X 0).symm),trivial⟩,trivial⟩
theorem dP (q:Rat):decide (q≠0)=(Cw q !=0):=by
 have h:= @Rat.num_eq_zero q;rw[Bool.eq_iff_iff,decide_eq_true_eq,bne_iff_ne];rcases O3 q with⟨a,e⟩ |⟨a,e⟩ |⟨a,e⟩ <;> rw[e]
 ·exact⟨fun _=>by decide,fun _ b=>by rw[h.2 b] at a;omega⟩
 ·exact⟨fun b=>absurd (h.1 a) b,fun b=>absurd rfl b⟩
 exact⟨fun _=>by decide,fun _ b=>by rw[h.2 b] at a;omega⟩
theorem bL {q:Rat} (j:Ay q b1 l1 b2 l2) (h:c=decide (q≠0)):CF 325 [.agg (BK b1 l1 b2 l2)] (.one (.bool c)):=by
 refine AJ Tryz.func325 fun E f=>?_
 conv=>cbv
 obtain⟨m,a⟩:=xI (Cw q);refine AB f (KX j a) ?_;conv=>cbv
 intro k b;conv=>cbv
 exact AD ⟨⟨rfl,congrArg _ (by rw[h,b,a];exact dP q),trivial⟩,trivial⟩
theorem Um (q:Rat):decide (q≠0)= !(rp q).1.2.isEmpty:=by
 have h:(rp q).1.2=AP q.num.natAbs:=rfl;rw[h,Bool.eq_iff_iff,decide_eq_true_eq,Bool.not_eq_true',List.isEmpty_eq_false_iff,Ne,Ne,EI,<-Rat.num_eq_zero];omega
theorem cy (xs:List Rat):(Ad xs).any (fun x=> !x.1.2.isEmpty)= !decide (∀q∈xs,q=0):=by
 induction xs with
 | nil=>rfl
 | cons q xs a=>
  rw[Ad,List.map_cons,List.any_cons,<-Um,<-Ad,a]
  by_cases h:q=0 <;> simp[h]
theorem eW {X:LR} {xs:List Rat} (b:X=Ad xs):∀x∈X,CF 325 [.agg (cells AA x)] (.one (.bool (!x.1.2.isEmpty))):=by
 intro x a;rw[b] at a;obtain⟨q,_,rfl⟩:=List.mem_map.1 a;exact bL (FA q) (Um q).symm
theorem Qc {X:LR} {xs:List Rat} (b:X=Ad xs) (j:c=decide (∀q∈xs,q=0)):CF 253 [.one (.sl AA X)] (.one (.bool c)):=by
 refine AJ Tryz.func253 fun E h=>?_
 conv=>cbv
 obtain⟨k,a⟩:=xB (X.any (fun x=> !x.1.2.isEmpty));refine AB h (Pf (eW b) a) ?_;conv=>cbv
 intro m f;conv=>cbv
 exact AD ⟨⟨rfl,congrArg _ (by rw[j,f,a,b,cy,Bool.not_not]),trivial⟩,trivial⟩
theorem aN (h:c= !GA b1 l1 b2 l2) (s1:l1.length<=17592186042000) (s2:l2.length<=17592186042000):CF 326 [.agg (BK b1 l1 b2 l2)] (.one (.bool c)):=by
 refine AJ Tryz.func326 fun E f=>?_
 conv=>cbv
 obtain⟨j,a⟩:=xB (GA b1 l1 b2 l2);refine AB f (Pu a s1 s2) ?_;conv=>cbv
 intro k b;conv=>cbv
 exact AD ⟨⟨rfl,congrArg _ (by rw[h,b,a]),trivial⟩,trivial⟩
theorem Ye {X:LR} {xs:List Rat} (b:X=Ad xs) (j:C4 xs):∀x∈X,CF 326 [.agg (cells AA x)] (.one (.bool false)):=by
 intro x a;rw[b] at a;obtain⟨q,f,rfl⟩:=List.mem_map.1 a;have h:=(FA q).small (j q f);exact aN (by rw[PQ.2 ⟨q,FA q⟩];rfl) (by omega) (by omega)
theorem any_false (X:LR):false=X.any (fun _=>false):=by
 induction X with
 | nil=>rfl
 | cons x X a=>rw[List.any_cons,<-a];rfl
theorem OO {X:LR} {xs:List Rat} {k:Int} {n:Nat} (b:X=Ad xs) (u:C4 xs) (q:AQ k n) (j:c=decide (xs.length=n)):CF 257 [.one (.sl AA X),.one (.int .i64 k)] (.one (.bool c)):=by
 have F:=q.eq;refine AJ Tryz.func257 fun E m=>?_
 conv=>cbv
 rintro G ⟨D,f6⟩;conv=>cbv
 intro z h;conv=>cbv
 cases z <;> conv=>cbv
 ·have v:=Ac h;exact AD ⟨⟨rfl,congrArg _ (by have f:X.length=xs.length:=(by rw[b,List.length_map]);rw[j];exact decide_eq_false (by omega)),trivial⟩,trivial⟩
 have v:=Ae h;refine AB m (Pf (p:=fun _=>false) (Ye b u) (any_false X)) ?_;conv=>cbv
 intro w a;conv=>cbv
 exact AD ⟨⟨rfl,congrArg _ (by have f:X.length=xs.length:=(by rw[b,List.length_map]);rw[j,a];exact decide_eq_true (by omega)),trivial⟩,trivial⟩
theorem Dy {n i:Int} {k:Nat} (h:n=IntKind.i64.wrap (1*2^min i.toNat IntKind.i64.bits)) (e:i=k) (a:k<=20:=by omega):AQ n (2^k):=by
 have b:=wrap_i64 h;have f:2^k<=2^20:=Nat.pow_le_pow_right (by decide) a
 have h3:((2:Int)^min i.toNat IntKind.i64.bits)=((2^k:Nat):Int):=by
  rw[e,Int.toNat_natCast,Nat.min_eq_left (Nat.le_trans a (by decide))];simp
 rw[h3,Int.one_mul] at b
 generalize 2^k=Q at*
 exact⟨by omega⟩
theorem HZ {X:List LR} {xs:List (List Rat)} {x:LR} (b:X=xs.map Ad) (a:X[i]? =some x):∃y,x=Ad y/\xs[i]? =some y:=by
 rw[b,List.getElem?_map] at a;cases h:xs[i]? with
 | none=>rw[h] at a;simp at a
 | some q=>rw[h] at a;exact⟨q,(Option.some.inj a).symm,rfl⟩
theorem Oi {X:List LR} {xs:List (List Rat)} (D:X=xs.map Ad) (ht:Kb xs) (N:c=true):CF 256 [.one (.sl (.sl AA) X)] (.one (.bool c)):=by
 refine AJ Tryz.func256 fun E K=>?_
 conv=>cbv
 have M:X.length=xs.length:=by rw[D,List.length_map]
 have hl:=ht.No;intro W q;have e6:=q.eq;have f6:=q.le;conv=>cbv
 refine .inr ?_;obtain⟨G,b⟩:=xJ fun vs H k=>∃(i':Nat) (L i:Int),vs=[.one (.sl (.sl AA) X),.one (.int .i64 L),.one (.int .i64 i)]/\(CM L X.length/\AQ i i'/\i'<=X.length)/\k=X.length-i'
 refine⟨[],[5,6,7],[],G,⟨X.length-0,by rw[b];exact⟨0,W,0,rfl,⟨q,An 0,by omega⟩,rfl⟩⟩,?_⟩;intro vs H U F;rw[b] at F;obtain⟨i',L,i,rfl,⟨z,O,P⟩,Q⟩:=F;conv=>cbv
 have eL:=z.eq;have I:=O.eq;intro n8 w;conv=>cbv
 cases n8 <;> conv=>cbv
 ·have S:=AW w;exact AD ⟨⟨rfl,congrArg _ (N),trivial⟩,trivial⟩
 have S:=AY w;refine .inr ?_;obtain⟨v,a⟩:=AL (l:=X) (i:=i') (by omega);refine⟨v,fun _=>⟨by omega,by rw[show (i).toNat=i' by omega];exact a⟩,?_⟩;try conv=>cbv
 intro V m;conv=>cbv
 refine AG ?_;obtain⟨x,u,h⟩:=HZ D a;refine AB (r:= .one (.bool true)) K (OO u (ht.small x (List.mem_of_getElem? h)) (Dy m I) (by rw[ht.form i' x h];exact (decide_eq_true rfl).symm)) ?_;try conv=>cbv
 intro n16 f;conv=>cbv
 cases n16 <;> conv=>cbv
 ·have j:=C1 f;intro n17 J;conv=>cbv
  refine AH ?_;refine⟨X.length-(i'+1),?_,?_⟩
  ·omega
  rw[b];exact⟨i'+1,L,n17,rfl,⟨z,⟨by omega⟩,by omega⟩,rfl⟩
 have j:=C2 f;exact absurd j (by decide)
theorem GC {X:List LR} {xs:List (List Rat)} (k:X=xs.map Ad) (ht:Kb xs) (q:Y=Ad ys) (v:C4 ys) (u:c=decide (ys.length=2^xs.length)):CF 138 [.one (.sl (.sl AA) X),.one (.sl AA Y)] (.one (.bool c)):=by
 refine AJ Tryz.func138 fun E j=>?_
 conv=>cbv
 have h:X.length=xs.length:=by rw[k,List.length_map]
 have D:=ht.No;refine AB j (Oi k ht rfl) ?_;conv=>cbv
 rintro w ⟨b,f10⟩;conv=>cbv
 intro z f;conv=>cbv
 refine AG ?_;obtain⟨m,a⟩:=xB (decide (ys.length=2^xs.length));refine AB j (OO q v (Dy f (b.trans (congrArg _ h))) a) ?_;conv=>cbv
 exact AD ⟨⟨rfl,congrArg _ (u.trans a.symm),trivial⟩,trivial⟩
theorem Ng {X:List LR} {Z:LR} {xs:List (List Rat)} {m:List Rat} (u:X=xs.map Ad) (ht:Kb xs) (v:Y=Ad ys) (z:C4 ys) (j:ys.length=2^xs.length) (w:Z=Ad m) (h:C4 m) (k:m.length=2^xs.length):CF 300 [.one (.sl (.sl AA) X),.one (.sl AA Y),.one (.sl AA Z)] (.one (.bool true)):=by
 refine AJ Tryz.func300 fun E q=>?_
 conv=>cbv
 have f:X.length=xs.length:=by rw[u,List.length_map]
 have G:=ht.No;refine AB q (GC u ht v z (decide_eq_true j).symm) ?_;conv=>cbv
 rintro D ⟨a,f13⟩;conv=>cbv
 intro F b;conv=>cbv
 refine AG ?_;refine AB q (OO w h (Dy b (a.trans (congrArg _ f))) (decide_eq_true k).symm) ?_;conv=>cbv
 exact AD ⟨t2,trivial⟩
end Go.Abs
namespace Go.Abs
open Go.RowKit
variable {A B C X Y Z:LR} {R s t zn:Nat} {T:List LR} {p:Rat} {x y:Re}
theorem HT {u:List (List Rat)} (h:AS u) (f:In u x) (b:X=em u x) (a:x=0):CF 253 [.one (.sl AA X)] (.one (.bool true)):=
 Qc b (decide_eq_true ((Ja h f).2 a)).symm
theorem GM {u:List (List Rat)} (h:AS u) (f:In u x) (b:X=em u x) (a:x≠0):CF 253 [.one (.sl AA X)] (.one (.bool false)):=
 Qc b (decide_eq_false (fun k=>a ((Ja h f).1 k))).symm
theorem LX {u:List (List Rat)} {r:List Rat} {p q:Re} (h:AS (r::u)) (b:In u p) (f:In u q) (j:x=p+q*rt u r) (a:X=em (r::u) x) (k:A=em u p) (m:B=em u q):
  CF 348 [.one (.sl AA X)] (.AI [(false,[.sl AA A]),(false,[.sl AA B])]):=
 Zv (by rw[a,k,Br h b f j]) (by rw[a,m,Bc h b f j])
theorem I4 (r:List Rat) (u:List (List Rat)):tw (r::u)≠[]:=by rw[KP];simp
theorem O9 {X A:List LR} {u:List (List Rat)} {r:List Rat} (a:X=tw (r::u)) (b:A=tw u) (f:B=Ad r):
  CF 346 [.one (.sl (.sl AA) X)] (.AI [(false,[.sl (.sl AA) A]),(false,[.sl AA B])]):=
 dy (by rw[a];exact I4 r u) (by rw[a,b,Ci]) (by rw[a,f,EL])
theorem G9 {n:Nat} (h:n<=16:=by omega):2^n<=1000000:=Nat.le_trans (CT h) (by decide)
theorem Qi {u:List (List Rat)} (h:Aa R u) (j:X=em u x) (k:Y=em u y) (a:El u s x) (b:El u t y) (q:s<=60000000000000) (ht:t<=60000000000000) (m:Z=em u (x+y)) (f:zn=Z.length):
  CF 304 [.one (.sl AA X),.one (.sl AA Y)] (.one (.own AA Z zn)):=
 YK j k (a.BT q) (b.BT ht) (by rw[a.len,b.len]) (by rw[a.len];exact G9 h.ht) (by rw[m,R6 h.red a.mem b.mem]) f
theorem Kq {u:List (List Rat)} (h:Aa R u) (a:X=em u x) (b:Y=em u y) (k:El u s x) (m:El u t y) (j:s<=60000000000000) (ht:t<=60000000000000) (f:Z=em u (x+y)):
 CF 304 [.one (.sl AA X),.one (.sl AA Y)] (.one (.sl AA Z)):=CP (Qi h a b k m j ht f rfl)
theorem Ls {u:List (List Rat)} (h:Aa R u) (b:X=em u x) (a:El u s x) (j:s<=60000000000000) (f:Z=em u (-x)):
  CF 333 [.one (.sl AA X)] (.one (.sl AA Z)):=
 bK b (a.BT j) (by rw[a.len];exact G9 h.ht) (by rw[f,R7 h.red a.mem])
theorem MW {a:Int} {u:List (List Rat)} (h:Aa R u) (ha:AQ a (2^u.length)) (f:Z=em u 0) (b:zn=Z.length):
  CF 352 [.one (.int .i64 a)] (.one (.own AA Z zn)):=
 fh ha (G9 h.ht) (by rw[f,NV h.red]) b
theorem Dw {x:el AA} (b:A=[rp p]) (a:A[0]? =some x):Ay p x.1.1 x.1.2 x.2.1 x.2.2:=by
 rw[b] at a;rw[<-Option.some.inj a];exact FA p
theorem ay {q:Rat} (M:T=[]) (G:A=[rp p]) (H:B=[rp q]) (P:BX p) (ht:BX q) (I:C=[rp (p*q)]) (z:zn=C.length):CF 301 [.one (.sl (.sl AA) T),.one (.sl AA A),.one (.sl AA B)] (.one (.own AA C zn)):=by
 refine AJ Tryz.func301 fun E L=>?_
 conv=>cbv
 refine .inr ?_;rintro n16 ⟨w,f16⟩;conv=>cbv
 intro n17 h;conv=>cbv
 cases n17 <;> conv=>cbv
 ·have j:=Ac h;exact absurd (by rw[w,M];rfl) j
 have j:=Ae h;have J:A.length=1:=by rw[G];rfl
 have K:B.length=1:=by rw[H];rfl
 obtain⟨D,a⟩:=AL (l:=A) (i:=0) (by omega);refine⟨D,fun _=>⟨by omega,a⟩,?_⟩;try conv=>cbv
 obtain⟨F,b⟩:=AL (l:=B) (i:=0) (by omega);refine⟨F,fun _=>⟨by omega,b⟩,?_⟩;try conv=>cbv
 have N:=Dw G a;have O:=Dw H b;obtain⟨u,v,k,m,f⟩:=BP (p*q);refine AB L (Wl N O P ht rfl f) ?_;conv=>cbv
 refine⟨[((u,v),(k,m))],fun _=>⟨rfl,by decide,rfl,⟨rfl,by first | exact t1 | exact t2 | exact t4 | simp[Aj,Ar,cells],trivial⟩⟩,.inl ?_⟩;try conv=>cbv
 refine g2 rfl ?_;exact AD ⟨⟨rfl,.inr (.inl ⟨_,_,by decide,rfl,rfl,rfl,rfl,CX (by rw[I,f.rp]) (by rw[z,I];rfl)⟩),trivial⟩,trivial⟩
theorem bB {u:List (List Rat)} (h:Aa R u) (J:T≠[]) (z:A=em u x) (K:B=em u y) (G:In u x) (L:In u y) (I:x=0) (D:C=em u 0) (v:zn=C.length):CF 301 [.one (.sl (.sl AA) T),.one (.sl AA A),.one (.sl AA B)] (.one (.own AA C zn)):=by
 refine AJ Tryz.func301 fun E F=>?_
 conv=>cbv
 refine .inr ?_;rintro n16 ⟨H,f16⟩;conv=>cbv
 intro n17 f;conv=>cbv
 cases n17 <;> conv=>cbv
 ·have w:=Ac f;refine AB F (HT h.red G z I) ?_;conv=>cbv
  have q:A.length=2^u.length:=by rw[z,Aw G]
  rintro n34 ⟨m,f34⟩;conv=>cbv
  obtain⟨j,a⟩:=xR (em u (0));obtain⟨k,b⟩:=xN j.length;refine AB (r:= .one (.own AA j k)) F (MW h (AQ.of (by rw[m,q])) a b) ?_;conv=>cbv
  exact AD ⟨⟨rfl,.inr (.inl ⟨_,_,by decide,rfl,rfl,b,rfl,CX (by rw[D,a]) (by rw[v,D,<-a])⟩),trivial⟩,trivial⟩
 have w:=Ae f;exact absurd (List.length_eq_zero_iff.1 (by omega)) J
theorem bC {u:List (List Rat)} (h:Aa R u) (L:T≠[]) (D:A=em u x) (K:B=em u y) (G:In u x) (M:In u y) (I:y=0) (J:x≠0) (F:C=em u 0) (w:zn=C.length):CF 301 [.one (.sl (.sl AA) T),.one (.sl AA A),.one (.sl AA B)] (.one (.own AA C zn)):=by
 refine AJ Tryz.func301 fun E v=>?_
 conv=>cbv
 refine .inr ?_;rintro n16 ⟨H,f16⟩;conv=>cbv
 intro n17 f;conv=>cbv
 cases n17 <;> conv=>cbv
 ·have z:=Ac f;refine AB v (GM h.red G D J) ?_;conv=>cbv
  refine AB v (HT h.red M K I) ?_;conv=>cbv
  have q:A.length=2^u.length:=by rw[D,Aw G]
  rintro n34 ⟨m,f34⟩;conv=>cbv
  obtain⟨j,a⟩:=xR (em u (0));obtain⟨k,b⟩:=xN j.length;refine AB (r:= .one (.own AA j k)) v (MW h (AQ.of (by rw[m,q])) a b) ?_;conv=>cbv
  exact AD ⟨⟨rfl,.inr (.inl ⟨_,_,by decide,rfl,rfl,b,rfl,CX (by rw[F,a]) (by rw[w,F,<-a])⟩),trivial⟩,trivial⟩
 have z:=Ae f;exact absurd (List.length_eq_zero_iff.1 (by omega)) L
def Pm (f:FuncId) (R:Nat) (u:List (List Rat)):Prop:=∀{T:List LR} {A B C:LR} {zn s t:Nat} {x y:Re},T=tw u->A=em u x->B=em u y->El u s x->El u t y->s+t+EE u.length R<=60000000000000->C=em u (x*y)->zn=C.length->
 CF f [.one (.sl (.sl AA) T),.one (.sl AA A),.one (.sl AA B)] (.one (.own AA C zn))
theorem bA {u:List (List Rat)} {r:List Rat} (h:Aa R (r::u)) (W:Pm 301 R u) (hT:T=tw (r::u)) (hA:A=em (r::u) x) (hB:B=em (r::u) y) (hx:El (r::u) s x) (hy:El (r::u) t y) (ak:s+t+EE (r::u).length R<=60000000000000) (h0:x≠0) (h1:y≠0) (hC:C=em (r::u) (x*y)) (a8:zn=C.length):CF 301 [.one (.sl (.sl AA) T),.one (.sl AA A),.one (.sl AA B)] (.one (.own AA C zn)):=by
 obtain⟨p,q,a6,H,G⟩:=El.parts h.red hx;obtain⟨a,b,a7,ha,hb⟩:=El.parts h.red hy;have ai:EE (r::u).length R=2*EE u.length R+R+2:=rfl;have I:=El.CK h;have hR:=h.hR;have aj:=B4 h.red;refine AJ Tryz.func301 fun E j=>?_
 conv=>cbv
 refine .inr ?_;rintro n16 ⟨ah,f16⟩;conv=>cbv
 intro n17 a1;conv=>cbv
 cases n17 <;> conv=>cbv
 ·have aa:=Ac a1;refine AB j (GM h.red hx.mem hA h0) ?_;conv=>cbv
  refine AB j (GM h.red hy.mem hB h1) ?_;conv=>cbv
  obtain⟨al,f⟩:=xV (tw u);obtain⟨an,M⟩:=xR (Ad r);refine AB j (O9 hT f M) ?_;conv=>cbv
  obtain⟨ao,k⟩:=xR (em u p);obtain⟨aq,m⟩:=xR (em u q);refine AB j (LX h.red H.mem G.mem a6 hA k m) ?_;conv=>cbv
  obtain⟨ar,v⟩:=xR (em u a);obtain⟨au,w⟩:=xR (em u b);refine AB j (LX h.red ha.mem hb.mem a7 hB v w) ?_;conv=>cbv
  obtain⟨av,N⟩:=xR (em u (p*a));refine AB j (CP (W f k v H ha (by omega) N rfl)) ?_;conv=>cbv
  obtain⟨aw,O⟩:=xR (em u (q*b));refine AB j (CP (W f m w G hb (by omega) O rfl)) ?_;conv=>cbv
  obtain⟨ax,P⟩:=xR (em u (q*b*AM u r));refine AB j (CP (W f O (M.trans (DR h.red)) (G.mul h.tail hb) I (by omega) P rfl)) ?_;conv=>cbv
  obtain⟨J,z⟩:=xR (em u (p*a+q*b*AM u r));obtain⟨ag,D⟩:=xN J.length;refine AB j (Qi h.tail N P (H.mul h.tail ha) ((G.mul h.tail hb).mul h.tail I) (by omega) (by omega) z D) ?_;conv=>cbv
  obtain⟨ay,Q⟩:=xR (em u (p*b));refine AB j (CP (W f k w H hb (by omega) Q rfl)) ?_;conv=>cbv
  obtain⟨az,S⟩:=xR (em u (q*a));refine AB j (CP (W f m v G ha (by omega) S rfl)) ?_;conv=>cbv
  obtain⟨K,F⟩:=xR (em u (p*b+q*a));refine AB j (Kq h.tail Q S (H.mul h.tail hb) (G.mul h.tail ha) (by omega) (by omega) F) ?_;conv=>cbv
  have ad:J.length=2^u.length:=by rw[z,Aw (CQ (H.mul h.tail ha).mem ((G.mul h.tail hb).mul h.tail I).mem)]
  have ae:K.length=2^u.length:=by rw[F,Aw (CQ (H.mul h.tail hb).mem (G.mul h.tail ha).mem)]
  have af:=CT h.tail.ht;refine .inl ⟨K,fun _=>⟨rfl,D,rfl,by show (J.length+K.length)*64<=140737488355328;(try simp only[List.length_take,List.length_drop]);omega⟩,?_⟩;intro (V:LR) ab U;have a2:V=(J:LR)++(K:LR):=U.1;have a5:ab=List.length (α:=(el AA)) V:=U.2;conv=>cbv
  have L:C=V:=by rw[hC,a2,z,F];exact D6 h.red (CQ (H.mul h.tail ha).mem ((G.mul h.tail hb).mul h.tail I).mem) (CQ (H.mul h.tail hb).mem (G.mul h.tail ha).mem) (by rw[a6,a7];clear W;grind)
  exact AD ⟨⟨rfl,.inr (.inl ⟨_,_,by decide,rfl,rfl,a5,rfl,CX (L) (by rw[a8,L])⟩),trivial⟩,trivial⟩
 have aa:=Ae a1;exact absurd (List.length_eq_zero_iff.1 (by omega)) (hT ▸ I4 r u)
theorem mulC {u:List (List Rat)} (h:Aa R u):Pm 301 R u:=by
 induction u with
 | nil=>
  intro T A B C zn s t x y v b f k m w j a;obtain⟨p,rfl⟩:=Bv.1 k.mem;obtain⟨q,rfl⟩:=Bv.1 m.mem;rw[DD] at b f;rw[<-Re.ofRat_mul,DD] at j;have F:=k.BT (by omega);have G:=m.BT (by omega);rw[Cp] at F G;exact ay v b f (F _ List.mem_cons_self) (G _ List.mem_cons_self) j a
 | cons r u H=>
  intro T A B C zn s t x y v b f k m w j a
  by_cases z:x=0
  ·refine bB h (v ▸ I4 r u) b f k.mem m.mem z ?_ a;rw[j,z];congr 1;grind
  by_cases D:y=0
  ·refine bC h (v ▸ I4 r u) b f k.mem m.mem D z ?_ a;rw[j,D];congr 1;grind
  exact bA h (H h.tail) v b f k m w z D j a
theorem Js {u:List (List Rat)} (h:Aa R u) (k:T=tw u) (b:A=em u x) (f:B=em u y) (m:El u s x) (q:El u t y) (a:s+t+EE u.length R<=60000000000000) (j:C=em u (x*y)):
 CF 301 [.one (.sl (.sl AA) T),.one (.sl AA A),.one (.sl AA B)] (.one (.sl AA C)):=CP (mulC h k b f m q a j rfl)
end Go.Abs
