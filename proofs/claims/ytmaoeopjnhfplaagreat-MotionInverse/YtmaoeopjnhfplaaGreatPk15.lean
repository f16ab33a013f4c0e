/- Part 16 of a proof. Conditions: each theorem's own. -/
import Derived.Test.YtmaoeopjnhfplaaGreatPk12
set_option linter.all false
set_option maxHeartbeats 8000000
set_option maxRecDepth 20000
open Go.Proofs
namespace Go.Abs
open Go.RowKit
variable {b' b1 b2 c c1 c2 d1 d2:Bool} {d n x y:Int} {k1 k2 l l' l1 l2 m1 m2:List UInt32} {r:Rat}
theorem Zw {b:Bool} (f:BZ x b l) (hc:c=decide (x=0)):CF 336 [.agg (B3 b l)] (.one (.bool c)):=by
 refine Av Tryz.func336 fun E j=>?_
 conv=>cbv
 rintro k ⟨h,f5⟩;conv=>cbv
 intro m a;conv=>cbv
 exact AF ⟨⟨rfl,congrArg _ (by rw[hc,a,Bool.eq_iff_iff];simp only[decide_eq_true_eq,beq_iff_eq];rw[<-f.HQ];omega),trivial⟩,trivial⟩
theorem Mi {b:Bool} (k:BZ x b l) (hc:c=decide (x=1)):CF 344 [.agg (B3 b l)] (.one (.bool c)):=by
 refine Av Tryz.func344 fun E I=>?_
 conv=>cbv
 intro G w;conv=>cbv
 cases G <;> conv=>cbv
 ·have q:=Fo w;exact AF ⟨⟨rfl,congrArg _ (by rw[hc];exact (VJ k q).symm),trivial⟩,trivial⟩
 have q:=Fp w;rintro J ⟨H,f9⟩;conv=>cbv
 intro u f;conv=>cbv
 cases u <;> conv=>cbv
 ·have m:=BR f;exact AF ⟨⟨rfl,congrArg _ (by rw[hc];exact (bU k (by omega)).symm),trivial⟩,trivial⟩
 have m:=BS f;obtain⟨v,a⟩:=Ao (l:=l) (i:=0) (by omega);refine⟨v,fun _=>⟨by omega,a⟩,?_⟩;try conv=>cbv
 intro D h;have z:=h.eq;have f16:=h.lt;conv=>cbv
 intro F j;conv=>cbv
 exact AF ⟨⟨rfl,congrArg _ (by rw[hc,j,<-VL k q (by omega) a,Bool.eq_iff_iff];simp only[decide_eq_true_eq,beq_iff_eq];omega),trivial⟩,trivial⟩
theorem VK {b:Bool} (f:BZ 1 b l):CF 251 [] (.agg (B3 b l)):=by
 refine Av Tryz.func251 fun E h=>?_
 conv=>cbv
 obtain⟨j,k,a⟩:=BU (1);refine AB h (Pj (by omega) a) ?_;conv=>cbv
 exact AF ⟨⟨rfl,congrArg _ ((a.uniq f rfl).1.symm),congrArg _ ((a.uniq f rfl).2.symm),trivial⟩,trivial⟩
theorem Rp {b3:Bool} {l3:List UInt32} (j:BZ x b1 l1) (q:BZ y b2 l2) (k:y≠0) (h:BZ (DA x y) b3 l3) (s1:l1.length<=17592186042000) (s2:l2.length<=17592186042000):CF 359 [.agg (B3 b1 l1),.agg (B3 b2 l2)] (.agg (B3 b3 l3)):=by
 refine Av Tryz.func359 fun E m=>?_
 conv=>cbv
 obtain⟨D,b⟩:=xB (decide (y=1));refine AB m (Mi q b) ?_;conv=>cbv
 cases D <;> conv=>cbv
 ·obtain⟨w,z,a⟩:=BU (DA x y);obtain⟨u,v,f⟩:=BU (I0 x y);refine AB m (fc j q k a f (by omega) (by omega)) ?_;conv=>cbv
  exact AF ⟨⟨rfl,congrArg _ ((a.uniq h rfl).1.symm),congrArg _ ((a.uniq h rfl).2.symm),trivial⟩,trivial⟩
 exact AF ⟨⟨rfl,congrArg _ ((h.uniq j (by rw[of_decide_eq_true b.symm];exact Y6 x)).1),congrArg _ ((h.uniq j (by rw[of_decide_eq_true b.symm];exact Y6 x)).2),trivial⟩,trivial⟩
theorem OK {b:Bool} (a:d≠0) (h:BZ d b l) (h':BZ ((Nat.gcd n.natAbs d.natAbs:Nat):Int) b' l'):l'.length<=l.length:=by
 rw[h.B4,h'.B4,Int.natAbs_natCast];exact Fj (Nat.le_of_dvd (by omega) (Nat.gcd_dvd_right _ _))
theorem Qp {b:Bool} (a:d≠0) (h:BZ d b l) (h':BZ (-((Nat.gcd n.natAbs d.natAbs:Nat):Int)) b' l'):l'.length<=l.length:=by
 rw[h.B4,h'.B4,Int.natAbs_neg,Int.natAbs_natCast];exact Fj (Nat.le_of_dvd (by omega) (Nat.gcd_dvd_right _ _))
theorem Qq (a:d≠0):((Nat.gcd n.natAbs d.natAbs:Nat):Int)≠0:=by
 have:=Nat.gcd_pos_of_pos_right n.natAbs (n:=d.natAbs) (by omega);omega
theorem UX {b:Bool} (h:BZ d b l) (e:b=true):d<0:=by
 have:=h.neg;rw[e] at this;simpa using this.symm
theorem UW {b:Bool} (h:BZ d b l) (e:b=false):¬d<0:=by
 have:=h.neg;rw[e] at this;simpa using this.symm
theorem Ms {q:Rat} (M:BZ n b1 l1) (j:BZ d b2 l2) (k:d≠0) (L:q=Rat.divInt n d) (D:B6 q c1 m1 c2 m2) (s1:l1.length<=17592186042000) (s2:l2.length<=17592186042000):CF 337 [.agg (B3 b1 l1),.agg (B3 b2 l2)] (.agg (CX c1 m1 c2 m2)):=by
 refine Av Tryz.func337 fun E H=>?_
 conv=>cbv
 obtain⟨N,O,h⟩:=BU (((Nat.gcd n.natAbs d.natAbs:Nat):Int));refine AB H (Ws M j h (by omega) (by omega)) ?_;conv=>cbv
 refine .inr ?_;cases b2 <;> conv=>cbv
 ·obtain⟨u,w,a⟩:=BU (DA n (if d<0 then -((Nat.gcd n.natAbs d.natAbs:Nat):Int) else ((Nat.gcd n.natAbs d.natAbs:Nat):Int)));have K:BZ (if d<0 then -((Nat.gcd n.natAbs d.natAbs:Nat):Int) else ((Nat.gcd n.natAbs d.natAbs:Nat):Int)) N O:=by rw[if_neg (UW j rfl)];exact h
  have m:(if d<0 then -((Nat.gcd n.natAbs d.natAbs:Nat):Int) else ((Nat.gcd n.natAbs d.natAbs:Nat):Int))≠0:=by rw[if_neg (UW j rfl)];have:=Qq (n:=n) k;omega
  have J:DA n (if d<0 then -((Nat.gcd n.natAbs d.natAbs:Nat):Int) else ((Nat.gcd n.natAbs d.natAbs:Nat):Int))=q.num:=by rw[L];exact (Q9 k).symm
  have I:DA d (if d<0 then -((Nat.gcd n.natAbs d.natAbs:Nat):Int) else ((Nat.gcd n.natAbs d.natAbs:Nat):Int))=(q.den:Int):=by rw[L];exact (Q8 k).symm
  refine AB (r:= .agg [.bool u,.sl .u32 w]) H (Rp M K m a (by omega) (by have:=OK k j h;omega)) ?_;try conv=>cbv
  obtain⟨v,z,b⟩:=BU (DA d (if d<0 then -((Nat.gcd n.natAbs d.natAbs:Nat):Int) else ((Nat.gcd n.natAbs d.natAbs:Nat):Int)));refine AB (r:= .agg [.bool v,.sl .u32 z]) H (Rp j K m b (by omega) (by have:=OK k j h;omega)) ?_;try conv=>cbv
  refine g2 rfl ?_;exact AF ⟨⟨rfl,congrArg _ ((a.uniq D.num J).1.symm),congrArg _ ((a.uniq D.num J).2.symm),congrArg _ ((b.uniq D.den I).1.symm),congrArg _ ((b.uniq D.den I).2.symm),trivial⟩,trivial⟩
 obtain⟨F,G,f⟩:=BU (-((Nat.gcd n.natAbs d.natAbs:Nat):Int));refine AB (r:= .agg [.bool F,.sl .u32 G]) H (Wz h (by have:=OK k j h;omega) f) ?_;try conv=>cbv
 obtain⟨u,w,a⟩:=BU (DA n (if d<0 then -((Nat.gcd n.natAbs d.natAbs:Nat):Int) else ((Nat.gcd n.natAbs d.natAbs:Nat):Int)));have K:BZ (if d<0 then -((Nat.gcd n.natAbs d.natAbs:Nat):Int) else ((Nat.gcd n.natAbs d.natAbs:Nat):Int)) F G:=by rw[if_pos (UX j rfl)];exact f
 have m:(if d<0 then -((Nat.gcd n.natAbs d.natAbs:Nat):Int) else ((Nat.gcd n.natAbs d.natAbs:Nat):Int))≠0:=by rw[if_pos (UX j rfl)];have:=Qq (n:=n) k;omega
 have J:DA n (if d<0 then -((Nat.gcd n.natAbs d.natAbs:Nat):Int) else ((Nat.gcd n.natAbs d.natAbs:Nat):Int))=q.num:=by rw[L];exact (Q9 k).symm
 have I:DA d (if d<0 then -((Nat.gcd n.natAbs d.natAbs:Nat):Int) else ((Nat.gcd n.natAbs d.natAbs:Nat):Int))=(q.den:Int):=by rw[L];exact (Q8 k).symm
 refine AB (r:= .agg [.bool u,.sl .u32 w]) H (Rp M K m a (by omega) (by have:=Qp k j f;omega)) ?_;try conv=>cbv
 obtain⟨v,z,b⟩:=BU (DA d (if d<0 then -((Nat.gcd n.natAbs d.natAbs:Nat):Int) else ((Nat.gcd n.natAbs d.natAbs:Nat):Int)));refine AB (r:= .agg [.bool v,.sl .u32 z]) H (Rp j K m b (by omega) (by have:=Qp k j f;omega)) ?_;try conv=>cbv
 refine g2 rfl ?_;exact AF ⟨⟨rfl,congrArg _ ((a.uniq D.num J).1.symm),congrArg _ ((a.uniq D.num J).2.symm),congrArg _ ((b.uniq D.den I).1.symm),congrArg _ ((b.uniq D.den I).2.symm),trivial⟩,trivial⟩
theorem JH {q:Rat} (k: -9223372036854775808<=x/\x<9223372036854775808) (f:q=(x:Rat)) (h:B6 q c1 m1 c2 m2):CF 180 [.one (.int .i64 x)] (.agg (CX c1 m1 c2 m2)):=by
 refine Av Tryz.func180 fun E j=>?_
 conv=>cbv
 obtain⟨m,v,a⟩:=BU (x);refine AB j (Pj k a) ?_;conv=>cbv
 obtain⟨u,w,b⟩:=BU (1);refine AB j (VK b) ?_;conv=>cbv
 exact AF ⟨⟨rfl,congrArg _ ((a.uniq h.num (by rw[f];rfl)).1.symm),congrArg _ ((a.uniq h.num (by rw[f];rfl)).2.symm),congrArg _ ((b.uniq h.den (by rw[f];rfl)).1.symm),congrArg _ ((b.uniq h.den (by rw[f];rfl)).2.symm),trivial⟩,trivial⟩
theorem Po {q:Rat} {c:Int} (f:B6 q b1 l1 b2 l2) (hc:c=GB q):CF 276 [.agg (CX b1 l1 b2 l2)] (.one (.int .i64 c)):=by
 refine Av Tryz.func276 fun E b=>?_
 conv=>cbv
 obtain⟨h,a⟩:=xI (DB q.num);refine AB b (Nk f.num a) ?_;conv=>cbv
 exact AF ⟨⟨rfl,congrArg _ (by rw[hc,a];rfl),trivial⟩,trivial⟩
theorem gj {q p:Rat} (f:B6 q b1 l1 b2 l2) (u:Cp q) (b:p= -q) (h:B6 p c1 m1 c2 m2):CF 283 [.agg (CX b1 l1 b2 l2)] (.agg (CX c1 m1 c2 m2)):=by
 refine Av Tryz.func283 fun E m=>?_
 conv=>cbv
 obtain⟨j,k,a⟩:=BU (-q.num);refine AB (r:= .agg [.bool j,.sl .u32 k]) m (Wz f.num (by have:=f.small u;omega) a) ?_;try conv=>cbv
 refine g2 rfl ?_;exact AF ⟨⟨rfl,congrArg _ ((a.uniq h.num (by rw[b];rfl)).1.symm),congrArg _ ((a.uniq h.num (by rw[b];rfl)).2.symm),congrArg _ ((f.den.uniq h.den (by rw[b];rfl)).1.symm),congrArg _ ((f.den.uniq h.den (by rw[b];rfl)).2.symm),trivial⟩,trivial⟩
theorem gd {p q:Rat} (a:B6 p b1 l1 b2 l2) (b:B6 q c1 m1 c2 m2) (v:Cp p) (ht:Cp q) (W:r=p+q) (D:B6 r d1 k1 d2 k2):CF 310 [.agg (CX b1 l1 b2 l2),.agg (CX c1 m1 c2 m2)] (.agg (CX d1 k1 d2 k2)):=by
 refine Av Tryz.func310 fun E z=>?_
 conv=>cbv
 obtain⟨b8,F⟩:=xB (decide ((p.den:Int)=1));refine AB z (Mi a.den F) ?_;conv=>cbv
 cases b8 <;> conv=>cbv
 ·obtain⟨K,P,f⟩:=BU (p.num*q.den);refine AB (r:= .agg [.bool K,.sl .u32 P]) z (Gx a.num b.den f (by have:=a.small v;have:=b.small ht;omega) (by have:=a.small v;have:=b.small ht;omega)) ?_;try conv=>cbv
  obtain⟨L,Q,h⟩:=BU (q.num*p.den);refine AB (r:= .agg [.bool L,.sl .u32 Q]) z (Gx b.num a.den h (by have:=a.small v;have:=b.small ht;omega) (by have:=a.small v;have:=b.small ht;omega)) ?_;try conv=>cbv
  obtain⟨M,S,m⟩:=BU (p.num*q.den+q.num*p.den);refine AB (r:= .agg [.bool M,.sl .u32 S]) z (SX f h m (by have:=a.small v;have:=b.small ht;have:=a.num.E3 b.den f rfl;omega) (by have:=a.small v;have:=b.small ht;have:=b.num.E3 a.den h rfl;omega)) ?_;try conv=>cbv
  refine g2 rfl ?_;obtain⟨N,U,u⟩:=BU ((p.den:Int)*q.den);refine AB (r:= .agg [.bool N,.sl .u32 U]) z (Gx a.den b.den u (by have:=a.small v;have:=b.small ht;omega) (by have:=a.small v;have:=b.small ht;omega)) ?_;try conv=>cbv
  obtain⟨O,V,I,J,j⟩:=Ca (r);refine AB (r:= .agg [.bool O,.sl .u32 V,.bool I,.sl .u32 J]) z (Ms m u (Int.mul_ne_zero (Ik p) (Ik q)) (W.trans (Sx p q)) j (by have:=a.small v;have:=b.small ht;have:=a.num.E3 b.den f rfl;have:=b.num.E3 a.den h rfl;have:=f.P9 h m rfl (k:=8000000000000) (by omega) (by omega);omega) (by have:=a.small v;have:=b.small ht;have:=a.den.E3 b.den u rfl;omega)) ?_;try conv=>cbv
  refine g2 rfl ?_;exact AF ⟨⟨rfl,congrArg _ ((j.uniq D rfl).1.1.symm),congrArg _ ((j.uniq D rfl).1.2.symm),congrArg _ ((j.uniq D rfl).2.1.symm),congrArg _ ((j.uniq D rfl).2.2.symm),trivial⟩,trivial⟩
 obtain⟨a5,w⟩:=xB (decide ((q.den:Int)=1));refine AB z (Mi b.den w) ?_;conv=>cbv
 cases a5 <;> conv=>cbv
 ·obtain⟨K,P,f⟩:=BU (p.num*q.den);refine AB (r:= .agg [.bool K,.sl .u32 P]) z (Gx a.num b.den f (by have:=a.small v;have:=b.small ht;omega) (by have:=a.small v;have:=b.small ht;omega)) ?_;try conv=>cbv
  obtain⟨L,Q,h⟩:=BU (q.num*p.den);refine AB (r:= .agg [.bool L,.sl .u32 Q]) z (Gx b.num a.den h (by have:=a.small v;have:=b.small ht;omega) (by have:=a.small v;have:=b.small ht;omega)) ?_;try conv=>cbv
  obtain⟨M,S,m⟩:=BU (p.num*q.den+q.num*p.den);refine AB (r:= .agg [.bool M,.sl .u32 S]) z (SX f h m (by have:=a.small v;have:=b.small ht;have:=a.num.E3 b.den f rfl;omega) (by have:=a.small v;have:=b.small ht;have:=b.num.E3 a.den h rfl;omega)) ?_;try conv=>cbv
  refine g2 rfl ?_;obtain⟨N,U,u⟩:=BU ((p.den:Int)*q.den);refine AB (r:= .agg [.bool N,.sl .u32 U]) z (Gx a.den b.den u (by have:=a.small v;have:=b.small ht;omega) (by have:=a.small v;have:=b.small ht;omega)) ?_;try conv=>cbv
  obtain⟨O,V,I,J,j⟩:=Ca (r);refine AB (r:= .agg [.bool O,.sl .u32 V,.bool I,.sl .u32 J]) z (Ms m u (Int.mul_ne_zero (Ik p) (Ik q)) (W.trans (Sx p q)) j (by have:=a.small v;have:=b.small ht;have:=a.num.E3 b.den f rfl;have:=b.num.E3 a.den h rfl;have:=f.P9 h m rfl (k:=8000000000000) (by omega) (by omega);omega) (by have:=a.small v;have:=b.small ht;have:=a.den.E3 b.den u rfl;omega)) ?_;try conv=>cbv
  refine g2 rfl ?_;exact AF ⟨⟨rfl,congrArg _ ((j.uniq D rfl).1.1.symm),congrArg _ ((j.uniq D rfl).1.2.symm),congrArg _ ((j.uniq D rfl).2.1.symm),congrArg _ ((j.uniq D rfl).2.2.symm),trivial⟩,trivial⟩
 obtain⟨a1,a2,G⟩:=BU (p.num+q.num);refine AB (r:= .agg [.bool a1,.sl .u32 a2]) z (SX a.num b.num G (by have:=a.small v;have:=b.small ht;omega) (by have:=a.small v;have:=b.small ht;omega)) ?_;try conv=>cbv
 obtain⟨a6,a7,H⟩:=BU (1);refine AB z (VK H) ?_;conv=>cbv
 exact AF ⟨⟨rfl,congrArg _ ((G.uniq D.num (by rw[W];exact (Kf (of_decide_eq_true F.symm) (of_decide_eq_true w.symm)).1.symm)).1.symm),congrArg _ ((G.uniq D.num (by rw[W];exact (Kf (of_decide_eq_true F.symm) (of_decide_eq_true w.symm)).1.symm)).2.symm),congrArg _ ((H.uniq D.den (by rw[W,(Kf (of_decide_eq_true F.symm) (of_decide_eq_true w.symm)).2];rfl)).1.symm),congrArg _ ((H.uniq D.den (by rw[W,(Kf (of_decide_eq_true F.symm) (of_decide_eq_true w.symm)).2];rfl)).2.symm),trivial⟩,trivial⟩
theorem gi {p q:Rat} (b:B6 p b1 l1 b2 l2) (f:B6 q c1 m1 c2 m2) (m:Cp p) (ht:Cp q) (N:r=p*q) (u:B6 r d1 k1 d2 k2):CF 317 [.agg (CX b1 l1 b2 l2),.agg (CX c1 m1 c2 m2)] (.agg (CX d1 k1 d2 k2)):=by
 refine Av Tryz.func317 fun E M=>?_
 conv=>cbv
 obtain⟨V,v⟩:=xB (decide ((p.den:Int)=1));refine AB M (Mi b.den v) ?_;conv=>cbv
 cases V <;> conv=>cbv
 ·obtain⟨G,J,h⟩:=BU (p.num*q.num);refine AB (r:= .agg [.bool G,.sl .u32 J]) M (Gx b.num f.num h (by have:=b.small m;have:=f.small ht;omega) (by have:=b.small m;have:=f.small ht;omega)) ?_;try conv=>cbv
  obtain⟨H,K,j⟩:=BU ((p.den:Int)*q.den);refine AB (r:= .agg [.bool H,.sl .u32 K]) M (Gx b.den f.den j (by have:=b.small m;have:=f.small ht;omega) (by have:=b.small m;have:=f.small ht;omega)) ?_;try conv=>cbv
  obtain⟨I,L,D,F,a⟩:=Ca (r);refine AB (r:= .agg [.bool I,.sl .u32 L,.bool D,.sl .u32 F]) M (Ms h j (Int.mul_ne_zero (Ik p) (Ik q)) (N.trans (RQ p q)) a (by have:=b.small m;have:=f.small ht;have:=b.num.E3 f.num h rfl;omega) (by have:=b.small m;have:=f.small ht;have:=b.den.E3 f.den j rfl;omega)) ?_;try conv=>cbv
  refine g2 rfl ?_;exact AF ⟨⟨rfl,congrArg _ ((a.uniq u rfl).1.1.symm),congrArg _ ((a.uniq u rfl).1.2.symm),congrArg _ ((a.uniq u rfl).2.1.symm),congrArg _ ((a.uniq u rfl).2.2.symm),trivial⟩,trivial⟩
 obtain⟨Q,k⟩:=xB (decide ((q.den:Int)=1));refine AB M (Mi f.den k) ?_;conv=>cbv
 cases Q <;> conv=>cbv
 ·obtain⟨G,J,h⟩:=BU (p.num*q.num);refine AB (r:= .agg [.bool G,.sl .u32 J]) M (Gx b.num f.num h (by have:=b.small m;have:=f.small ht;omega) (by have:=b.small m;have:=f.small ht;omega)) ?_;try conv=>cbv
  obtain⟨H,K,j⟩:=BU ((p.den:Int)*q.den);refine AB (r:= .agg [.bool H,.sl .u32 K]) M (Gx b.den f.den j (by have:=b.small m;have:=f.small ht;omega) (by have:=b.small m;have:=f.small ht;omega)) ?_;try conv=>cbv
  obtain⟨I,L,D,F,a⟩:=Ca (r);refine AB (r:= .agg [.bool I,.sl .u32 L,.bool D,.sl .u32 F]) M (Ms h j (Int.mul_ne_zero (Ik p) (Ik q)) (N.trans (RQ p q)) a (by have:=b.small m;have:=f.small ht;have:=b.num.E3 f.num h rfl;omega) (by have:=b.small m;have:=f.small ht;have:=b.den.E3 f.den j rfl;omega)) ?_;try conv=>cbv
  refine g2 rfl ?_;exact AF ⟨⟨rfl,congrArg _ ((a.uniq u rfl).1.1.symm),congrArg _ ((a.uniq u rfl).1.2.symm),congrArg _ ((a.uniq u rfl).2.1.symm),congrArg _ ((a.uniq u rfl).2.2.symm),trivial⟩,trivial⟩
 obtain⟨O,P,w⟩:=BU (p.num*q.num);refine AB (r:= .agg [.bool O,.sl .u32 P]) M (Gx b.num f.num w (by have:=b.small m;have:=f.small ht;omega) (by have:=b.small m;have:=f.small ht;omega)) ?_;try conv=>cbv
 obtain⟨S,U,z⟩:=BU (1);refine AB M (VK z) ?_;conv=>cbv
 exact AF ⟨⟨rfl,congrArg _ ((w.uniq u.num (by rw[N];exact (mul_ones (of_decide_eq_true v.symm) (of_decide_eq_true k.symm)).1.symm)).1.symm),congrArg _ ((w.uniq u.num (by rw[N];exact (mul_ones (of_decide_eq_true v.symm) (of_decide_eq_true k.symm)).1.symm)).2.symm),congrArg _ ((z.uniq u.den (by rw[N,(mul_ones (of_decide_eq_true v.symm) (of_decide_eq_true k.symm)).2];rfl)).1.symm),congrArg _ ((z.uniq u.den (by rw[N,(mul_ones (of_decide_eq_true v.symm) (of_decide_eq_true k.symm)).2];rfl)).2.symm),trivial⟩,trivial⟩
theorem gh {p q:Rat} (j:B6 p b1 l1 b2 l2) (b:B6 q c1 m1 c2 m2) (k:Cp p) (ht:Cp q) (u:q≠0) (M:r=p/q) (K:B6 r d1 k1 d2 k2):CF 294 [.agg (CX b1 l1 b2 l2),.agg (CX c1 m1 c2 m2)] (.AI [(true,(CX d1 k1 d2 k2)),(false,[.int .i64 0])]):=by
 refine Av Tryz.func294 fun E J=>?_
 conv=>cbv
 obtain⟨L,m⟩:=xB (decide (q.num=0));refine AB J (Zw b.num m) ?_;conv=>cbv
 cases L <;> conv=>cbv
 ·obtain⟨z,G,f⟩:=BU (p.num*q.den);refine AB (r:= .agg [.bool z,.sl .u32 G]) J (Gx j.num b.den f (by have:=j.small k;have:=b.small ht;omega) (by have:=j.small k;have:=b.small ht;omega)) ?_;try conv=>cbv
  obtain⟨D,H,h⟩:=BU ((p.den:Int)*q.num);refine AB (r:= .agg [.bool D,.sl .u32 H]) J (Gx j.den b.num h (by have:=j.small k;have:=b.small ht;omega) (by have:=j.small k;have:=b.small ht;omega)) ?_;try conv=>cbv
  obtain⟨F,I,v,w,a⟩:=Ca (r);refine AB (r:= .agg [.bool F,.sl .u32 I,.bool v,.sl .u32 w]) J (Ms f h (Int.mul_ne_zero (Ik p) (mt Rat.num_eq_zero.1 u)) (M.trans (lI p q)) a (by have:=j.small k;have:=b.small ht;have:=j.num.E3 b.den f rfl;omega) (by have:=j.small k;have:=b.small ht;have:=j.den.E3 b.num h rfl;omega)) ?_;try conv=>cbv
  refine g2 rfl ?_;exact AF ⟨⟨rfl,congrArg _ ((a.uniq K rfl).1.1.symm),congrArg _ ((a.uniq K rfl).1.2.symm),congrArg _ ((a.uniq K rfl).2.1.symm),congrArg _ ((a.uniq K rfl).2.2.symm),trivial⟩,t2,trivial⟩
 exact absurd (Rat.num_eq_zero.1 (of_decide_eq_true m.symm)) u
theorem V9 (q:Rat):(q.num<0/\GB q= -1)\/(q.num=0/\GB q=0)\/(0<q.num/\GB q=1):=HW q.num
theorem OE (q:Rat):0<(q.den:Int):=by have:=q.den_pos;omega
theorem di {p q:Rat} (h:GB p<GB q):p<q:=by
 rw[Rat.lt_iff];rcases V9 p with⟨a,e⟩ |⟨a,e⟩ |⟨a,e⟩ <;> rcases V9 q with⟨b,e'⟩ |⟨b,e'⟩ |⟨b,e'⟩ <;> rw[e,e'] at h <;> try omega
 ·rw[b,Int.zero_mul];exact Int.mul_neg_of_neg_of_pos a (OE q)
 ·exact Int.lt_trans (Int.mul_neg_of_neg_of_pos a (OE q)) (Int.mul_pos b (OE p))
 rw[a,Int.zero_mul];exact Int.mul_pos b (OE p)
theorem ke {p q:Rat} (h:p<q):ID p q= -1:=by unfold ID;rw[if_pos h]
theorem kZ {p q:Rat} (h:q<p):ID p q=1:=by
 unfold ID;rw[if_neg (fun h'=>Int.lt_asymm ((Rat.lt_iff _ _).1 h) ((Rat.lt_iff _ _).1 h')),if_pos h]
theorem Yn (p q:Rat):ID p q=CH (p.num*q.den) (q.num*p.den):=by
 unfold ID CH;simp only[Rat.lt_iff]
theorem gg {p q:Rat} {c:Int} (h:B6 p b1 l1 b2 l2) (j:B6 q c1 m1 c2 m2) (G:Cp p) (ht:Cp q) (hc:c=ID p q):CF 235 [.agg (CX b1 l1 b2 l2),.agg (CX c1 m1 c2 m2)] (.one (.int .i64 c)):=by
 refine Av Tryz.func235 fun E u=>?_
 conv=>cbv
 obtain⟨O,H⟩:=xI (GB p);refine AB u (Po h H) ?_;conv=>cbv
 obtain⟨M,v⟩:=xI (GB q);refine AB u (Po j v) ?_;conv=>cbv
 refine g2 rfl ?_;intro K k;conv=>cbv
 cases K <;> conv=>cbv
 ·have I:=Es k;obtain⟨w,D,b⟩:=BU (p.num*q.den);refine AB (r:= .agg [.bool w,.sl .u32 D]) u (Gx h.num j.den b (by have:=h.small G;have:=j.small ht;omega) (by have:=h.small G;have:=j.small ht;omega)) ?_;try conv=>cbv
  obtain⟨z,F,f⟩:=BU (q.num*p.den);refine AB (r:= .agg [.bool z,.sl .u32 F]) u (Gx j.num h.den f (by have:=h.small G;have:=j.small ht;omega) (by have:=h.small G;have:=j.small ht;omega)) ?_;try conv=>cbv
  obtain⟨N,a⟩:=xI (CH (p.num*q.den) (q.num*p.den));refine AB u (Wp b f a) ?_;conv=>cbv
  refine g2 rfl ?_;exact AF ⟨⟨rfl,congrArg _ (by rw[hc,a,Yn]),trivial⟩,trivial⟩
 have I:=Et k;intro L m;conv=>cbv
 cases L <;> conv=>cbv
 ·have J:=BX m;exact AF ⟨⟨rfl,congrArg _ (by rw[hc];exact kZ (di (by omega))),trivial⟩,trivial⟩
 have J:=BY m;exact AF ⟨⟨rfl,congrArg _ (by rw[hc];exact ke (di (by omega))),trivial⟩,trivial⟩
theorem Mj {b:Bool} (h:BZ x b l) (h':BZ ((B7 x.toNat:Nat):Int) b' l'):l'.length<=l.length:=by
 rw[h.B4,h'.B4,Int.natAbs_natCast];exact Fj (Nat.le_trans (Nat.le_trans (Nat.le_mul_self _) (OO x.toNat)) (by omega))
theorem qo {e:Int} (h:e=if x<0 then 7 else 0) (a:e≠0):decide (((B7 x.toNat:Nat):Int)*((B7 x.toNat:Nat):Int)=x)=false:=by
 have f:x<0:=by
  apply Classical.byContradiction;intro b;rw[if_neg b] at h;exact a h
 rw[show x.toNat=0 by omega];simp only[decide_eq_false_iff_not];intro h';rw[show B7 0=0 from rfl] at h';omega
theorem kj (a b:Int):decide (a=b)=(CH a b==0):=by
 unfold CH;rw[Bool.eq_iff_iff,decide_eq_true_eq,beq_iff_eq]
 split
 ·omega
 split <;> omega
theorem SB (u:BZ x b1 l1) (v:BZ ((B7 x.toNat:Nat):Int) b2 l2) (hc:c=decide (((B7 x.toNat:Nat):Int)*((B7 x.toNat:Nat):Int)=x)) (s1:l1.length<=4000000000000):CF 379 [.agg (B3 b1 l1)] (.AI [(true,(B3 b2 l2)),(false,[.bool c])]):=by
 refine Av Tryz.func379 fun E z=>?_
 conv=>cbv
 obtain⟨H,I,a⟩:=BU ((B7 x.toNat:Nat):Int);obtain⟨J,j⟩:=xI (if x<0 then 7 else 0);refine AB z (g8 u a j (by omega)) ?_;conv=>cbv
 intro D h;conv=>cbv
 cases D <;> conv=>cbv
 ·have k:=BR h;refine g2 rfl ?_;exact AF ⟨⟨rfl,congrArg _ ((a.uniq v rfl).1.symm),congrArg _ ((a.uniq v rfl).2.symm),trivial⟩,⟨rfl,congrArg _ (by rw[hc];exact qo j k),trivial⟩,trivial⟩
 have k:=BS h;obtain⟨m,q,f⟩:=BU (((B7 x.toNat:Nat):Int)*((B7 x.toNat:Nat):Int));refine AB (r:= .agg [.bool m,.sl .u32 q]) z (Gx a a f (by have:=Mj u a;omega) (by have:=Mj u a;omega)) ?_;try conv=>cbv
 obtain⟨G,b⟩:=xI (CH (((B7 x.toNat:Nat):Int)*((B7 x.toNat:Nat):Int)) x);refine AB z (Wp f u b) ?_;conv=>cbv
 intro F w;conv=>cbv
 refine g2 rfl ?_;exact AF ⟨⟨rfl,congrArg _ ((a.uniq v rfl).1.symm),congrArg _ ((a.uniq v rfl).2.symm),trivial⟩,⟨rfl,congrArg _ (by rw[hc,w,b];exact kj _ _),trivial⟩,trivial⟩
theorem gm {q:Rat} (z:B6 q b1 l1 b2 l2) (M:Cp q) (J:0<=r) (L:r*r=q) (D:B6 r c1 m1 c2 m2):CF 360 [.agg (CX b1 l1 b2 l2)] (.AI [(true,(CX c1 m1 c2 m2)),(false,[.bool true])]):=by
 refine Av Tryz.func360 fun E K=>?_
 conv=>cbv
 obtain⟨m,v,a⟩:=BU (r.num);have G:=eR J L;refine AB (r:= .AI [(true,[.bool m,.sl .u32 v]),(false,[.bool true])]) K (SB z.num (by rw[G.1];exact a) (by rw[G.1];exact (decide_eq_true G.2).symm) (by have:=z.small M;omega)) ?_;try conv=>cbv
 obtain⟨u,w,b⟩:=BU (r.den:Int);have F:=eQ J L;refine AB (r:= .AI [(true,[.bool u,.sl .u32 w]),(false,[.bool true])]) K (SB z.den (by rw[F.1];exact b) (by rw[F.1];exact (decide_eq_true F.2).symm) (by have:=z.small M;omega)) ?_;try conv=>cbv
 intro H f;conv=>cbv
 cases H <;> conv=>cbv
 ·have j:=Fo f;intro I h;conv=>cbv
  cases I <;> conv=>cbv
  ·have k:=Fo h;exact AF ⟨⟨rfl,congrArg _ ((a.uniq D.num rfl).1.symm),congrArg _ ((a.uniq D.num rfl).2.symm),congrArg _ ((b.uniq D.den rfl).1.symm),congrArg _ ((b.uniq D.den rfl).2.symm),trivial⟩,t2,trivial⟩
  have k:=Fp h;exact absurd k (by decide)
 have j:=Fp f;exact absurd j (by decide)
theorem gk {q:Rat} (F:B6 q b1 l1 b2 l2) (L:Cp q) (M:¬∃r:Rat,0<=r/\r*r=q):CF 360 [.agg (CX b1 l1 b2 l2)] (.AI [(true,[.bool false,.sl .u32 [],.bool false,.sl .u32 []]),(false,[.bool false])]):=by
 refine Av Tryz.func360 fun E K=>?_
 conv=>cbv
 obtain⟨v,z,j⟩:=BU (((B7 q.num.toNat:Nat):Int));obtain⟨G,a⟩:=xB (decide (((B7 q.num.toNat:Nat):Int)*((B7 q.num.toNat:Nat):Int)=q.num));refine AB (r:= .AI [(true,[.bool v,.sl .u32 z]),(false,[.bool G])]) K (SB F.num j a (by have:=F.small L;omega)) ?_;try conv=>cbv
 obtain⟨w,D,k⟩:=BU (((B7 (q.den:Int).toNat:Nat):Int));obtain⟨H,b⟩:=xB (decide (((B7 (q.den:Int).toNat:Nat):Int)*((B7 (q.den:Int).toNat:Nat):Int)=(q.den:Int)));refine AB (r:= .AI [(true,[.bool w,.sl .u32 D]),(false,[.bool H])]) K (SB F.den k b (by have:=F.small L;omega)) ?_;try conv=>cbv
 intro I f;conv=>cbv
 cases I <;> conv=>cbv
 ·have m:=Fo f;intro J h;conv=>cbv
  cases J <;> conv=>cbv
  ·have u:=Fo h;exact absurd (eP (of_decide_eq_true (a.symm.trans m)) (of_decide_eq_true (b.symm.trans u))) M
  have u:=Fp h;exact AF ⟨⟨rfl,rfl,AJ,rfl,AJ,trivial⟩,t2,trivial⟩
 have m:=Fp f;exact AF ⟨⟨rfl,rfl,AJ,rfl,AJ,trivial⟩,t2,trivial⟩
theorem gN {q:Rat} (z:BZ n b1 l1) (D:BZ d b2 l2) (w:d≠0) (F:q=Rat.divInt n d) (v:B6 q c1 m1 c2 m2) (s1:l1.length<=17592186042000) (s2:l2.length<=17592186042000):CF 391 [.agg (B3 b1 l1),.agg (B3 b2 l2)] (.AI [(true,(CX c1 m1 c2 m2)),(false,[.int .i64 0])]):=by
 refine Av Tryz.func391 fun E u=>?_
 conv=>cbv
 obtain⟨G,I,f⟩:=BU (n);refine AB u (W4 z (by omega) f) ?_;conv=>cbv
 obtain⟨H,J,b⟩:=BU (d);refine AB u (W4 D (by omega) b) ?_;conv=>cbv
 refine g2 rfl ?_;refine AB (r:= .one (.bool false)) u (Zw b (by simp[w])) ?_;conv=>cbv
 obtain⟨k,m,h,j,a⟩:=Ca (q);refine AB (r:= .agg [.bool k,.sl .u32 m,.bool h,.sl .u32 j]) u (Ms f b w F a (by rw[(f.uniq z rfl).2];exact s1) (by rw[(b.uniq D rfl).2];exact s2)) ?_;try conv=>cbv
 exact AF ⟨⟨rfl,congrArg _ ((a.uniq v rfl).1.1.symm),congrArg _ ((a.uniq v rfl).1.2.symm),congrArg _ ((a.uniq v rfl).2.1.symm),congrArg _ ((a.uniq v rfl).2.2.symm),trivial⟩,t2,trivial⟩
theorem SR {b:Bool} (a: -9223372036854775808<=x/\x<9223372036854775808) (h:BZ x b l):l.length<=2:=by
 rw[h.B4];exact Hy (by omega)
theorem fh {q:Rat} (H: -9223372036854775808<=n/\n<9223372036854775808) (G: -9223372036854775808<=d/\d<9223372036854775808) (O:d≠0) (P:q=Rat.divInt n d) (D:B6 q c1 m1 c2 m2):CF 381 [.one (.int .i64 n),.one (.int .i64 d)] (.agg (CX c1 m1 c2 m2)):=by
 refine Av Tryz.func381 fun E z=>?_
 conv=>cbv
 obtain⟨Q,S,f⟩:=BU (n);refine AB z (Pj H f) ?_;conv=>cbv
 obtain⟨K,M,b⟩:=BU (d);refine AB z (Pj G b) ?_;conv=>cbv
 obtain⟨v,w,m,u,a⟩:=Ca q;refine AB (r:= .AI [(true,[.bool v,.sl .u32 w,.bool m,.sl .u32 u]),(false,[.int .i64 0])]) z (gN f b O P a (by have:=SR H f;omega) (by have:=SR G b;omega)) ?_;try conv=>cbv
 intro F h;conv=>cbv
 cases F <;> conv=>cbv
 ·have k:=Es h;exact AF ⟨⟨rfl,congrArg _ ((a.uniq D rfl).1.1.symm),congrArg _ ((a.uniq D rfl).1.2.symm),congrArg _ ((a.uniq D rfl).2.1.symm),congrArg _ ((a.uniq D rfl).2.2.symm),trivial⟩,trivial⟩
 have k:=Et h;obtain⟨L,N,I,J,j⟩:=Ca (((0:Int):Rat));refine AB z (JH (by omega) rfl j) ?_;conv=>cbv
 exact absurd k (by decide)
theorem sq (f:BZ y b2 l2) (h:DB y<=0:=by omega):Jk b1 l1 b2 l2=false:=by
 apply Bool.eq_false_iff.2;intro h';obtain⟨q,b⟩:=Wc.1 h';have e:y=(q.den:Int):=by rw[f.HB,b.den.HB]
 have:=OE q;rcases HW y with⟨a,e'⟩ |⟨a,e'⟩ |⟨a,e'⟩ <;> omega
theorem so (f:true=JB b1 l1) (j:true=JB b2 l2) (m:BZ x b1 l1) (b:BZ y b2 l2) (h:0<DB y) (hc:c=decide (((Nat.gcd x.natAbs y.natAbs:Nat):Int)=1)):Jk b1 l1 b2 l2=c:=by
 have q:0<y:=by rcases HW y with⟨a,e'⟩ |⟨a,e'⟩ |⟨a,e'⟩ <;> omega
 have hb:b2=false:=by rw[b.neg];exact decide_eq_false (by omega)
 have k:l2≠[]:=fun e=>by have:=b.nil.1 e;omega
 unfold Jk;rw[<-f,<-j,hb,decide_eq_true k,hc,m.nat,b.nat];simp only[Bool.true_and,Bool.not_false];rw[Bool.eq_iff_iff,decide_eq_true_eq,decide_eq_true_eq];omega
theorem W6 (hc:c=Jk b1 l1 b2 l2) (s1:l1.length<=17592186042000) (s2:l2.length<=17592186042000):CF 324 [.agg (CX b1 l1 b2 l2)] (.one (.bool c)):=by
 refine Av Tryz.func324 fun E k=>?_
 conv=>cbv
 obtain⟨G,a⟩:=xB (JB b1 l1);refine AB k (XE a) ?_;conv=>cbv
 cases G <;> conv=>cbv
 ·exact AF ⟨⟨rfl,congrArg _ (by rw[hc];unfold Jk;rw[<-a];rfl),trivial⟩,trivial⟩
 obtain⟨H,b⟩:=xB (JB b2 l2);refine AB k (XE b) ?_;conv=>cbv
 cases H <;> conv=>cbv
 ·exact AF ⟨⟨rfl,congrArg _ (by rw[hc];unfold Jk;rw[<-b];exact Bool.and_false _),trivial⟩,trivial⟩
 obtain⟨x,w⟩:=Nc.1 a.symm;obtain⟨y,q⟩:=Nc.1 b.symm;obtain⟨I,m⟩:=xI (DB y);refine AB k (Nk q m) ?_;conv=>cbv
 intro v j;conv=>cbv
 cases v <;> conv=>cbv
 ·have u:=Ct j;exact AF ⟨⟨rfl,congrArg _ (by rw[hc];exact sq q),trivial⟩,trivial⟩
 have u:=Cu j;obtain⟨z,D,h⟩:=BU (((Nat.gcd x.natAbs y.natAbs:Nat):Int));refine AB k (Ws w q h (by omega) (by omega)) ?_;conv=>cbv
 obtain⟨F,f⟩:=xB (decide (((Nat.gcd x.natAbs y.natAbs:Nat):Int)=1));refine AB k (Mi h f) ?_;conv=>cbv
 exact AF ⟨⟨rfl,congrArg _ (by rw[hc];exact so a b w q (by omega) f),trivial⟩,trivial⟩
end Go.Abs
namespace Go.Abs
open Go.RowKit
variable {B X Z o:LR} {i n zn:Nat} {xs ys:List Rat}
theorem mL {A:LR} (w:A=X.take (X.length/2)) (z:B=X.drop (X.length/2)):CF 297 [.one (.sl AA X)] (.AI [(false,[.sl AA A]),(false,[.sl AA B])]):=by
 refine Av Tryz.func297 fun E M=>?_
 conv=>cbv
 rintro P ⟨K,f6⟩;conv=>cbv
 intro Q L;conv=>cbv
 refine g2 ⟨by omega,by omega,i64 (by omega)⟩ ?_;intro O F;conv=>cbv
 refine AY ?_;intro q D;conv=>cbv
 intro N j;conv=>cbv
 rintro I ⟨u,f11⟩;conv=>cbv
 intro J v;conv=>cbv
 refine g2 ⟨by omega,by omega,i64 (by omega)⟩ ?_;intro H f;conv=>cbv
 refine AY ?_;rintro h m ⟨k,a⟩;conv=>cbv
 intro G b;conv=>cbv
 refine g2 rfl ?_;exact AF ⟨⟨rfl,congrArg _ (by rw[w,j,List.drop_zero,show q=X.length/2 by omega]),trivial⟩,⟨rfl,congrArg _ (by rw[z,b,a,f,List.take_length,show h=X.length/2 by omega]),trivial⟩,trivial⟩
theorem rn {X A:List LR} (m:X≠[]) (u:A=X.take (X.length-1)) (v:X[X.length-1]? =some B):CF 295 [.one (.sl (.sl AA) X)] (.AI [(false,[.sl (.sl AA) A]),(false,[.sl AA B])]):=by
 refine Av Tryz.func295 fun E I=>?_
 conv=>cbv
 rintro L ⟨F,f6⟩;conv=>cbv
 have G:0<X.length:=List.length_pos_iff.2 m;intro M H;conv=>cbv
 refine Ah ?_;intro K z;conv=>cbv
 refine AY ?_;intro j w;conv=>cbv
 intro J f;conv=>cbv
 rintro D ⟨k,f11⟩;conv=>cbv
 intro b q;conv=>cbv
 refine Ah ?_;obtain⟨h,a⟩:=Ao (l:=X) (i:=(b).toNat) (by omega);refine⟨h,fun _=>⟨by omega,a⟩,?_⟩;try conv=>cbv
 refine g2 rfl ?_;exact AF ⟨⟨rfl,congrArg _ (by rw[u,f,List.drop_zero,show j=X.length-1 by omega]),trivial⟩,⟨rfl,congrArg _ (by rw[show b.toNat=X.length-1 by omega] at a;exact (Option.some.inj (v.symm.trans a))),trivial⟩,trivial⟩
theorem mN {Z:Nat->LR} (h:o.take i=Z i) (e:i=n):o.take n=Z n:=by rw[<-e];exact h
theorem SI {α:Type} {o:List α} {w:α} (h:i<o.length):(o.set i w).take (i+1)=o.take i++[w]:=by
 rw[List.take_succ_eq_append_getElem (by rw[List.length_set];exact h),List.take_set_of_le (Nat.le_refl _),List.getElem_set_self]
theorem tD {a:Int} (ha:BG a n) (hn:n<=1000000) (hX:X=Be (List.replicate n 0)) (I:zn=X.length):CF 318 [.one (.int .i64 a)] (.one (.own AA X zn)):=by
 have ea:=ha.eq;refine Av Tryz.func318 fun E hE=>?_
 conv=>cbv
 refine⟨fun _=>⟨by omega,by omega,by show _*64<=140737488355328;omega⟩,?_⟩;intro K (M:LR) G;have a7:=G.1;have H:M=List.replicate K (((false,[]),(false,[])):el AA):=G.2;have a1:M.length=K:=by rw[H,List.length_replicate]
 conv=>cbv
 intro n8 h8;have e8:=h8.eq;conv=>cbv
 refine .inr ?_;obtain⟨W,w⟩:=xJ fun vs P k=>∃(o:LR) (m i':Nat) (L i:Int),vs=[.one (.BI AA 6 0 0 m),.one (.int .i64 L),.one (.int .i64 i)]/\P=[.arr 0 AA o]/\(o.length=n/\m=n/\EY L n/\BG i i'/\i'<=n)/\o.take i'=Be (List.replicate i' 0)/\k=n-i'
 refine⟨[3,8,9],[6],W,⟨n-0,by rw[w];exact⟨M,K,0,n8,0,rfl,rfl,⟨by omega,by omega,⟨by omega,by omega⟩,Bv 0,by omega⟩,rfl,rfl⟩⟩,?_⟩;intro vs P a8 U;rw[w] at U;obtain⟨o,m,i',L,i,rfl,rfl,⟨ho,hm,S,hi,a5⟩,hinv,a6⟩:=U;conv=>cbv
 have eL:=S.eq;have ei:=hi.eq;intro N D;conv=>cbv
 cases N <;> conv=>cbv
 ·have J:=BX D;have b:o=X:=by rw[hX,<-mN (Z:=fun i=>Be (List.replicate i 0)) hinv (by omega),List.take_of_length_le (by omega)]
  exact AF ⟨⟨rfl,.inr (.inl ⟨_,_,by decide,rfl,rfl,by omega,rfl,E8 (b.symm) (by rw[I,<-b])⟩),trivial⟩,trivial⟩
 have J:=BY D;refine .inr ?_;obtain⟨u,v,j,q,h⟩:=Ca (((0:Int):Rat));refine AB hE (JH (by omega) rfl h) ?_;conv=>cbv
 refine AY ?_;intro F V;conv=>cbv
 refine⟨((u,v),(j,q)),fun _=>⟨by show _<List.length (α:=(el AA)) o;(first | omega | (simp;omega)),by first | exact t1 | exact t2 | exact t4 | simp[Bg,Bo,cells]⟩,?_⟩;intro (z:LR) (f:z=List.set (α:=(el AA)) o F (((u,v),(j,q))));have Q:z.length=o.length:=by rw[f,List.length_set]
 conv=>cbv
 intro O a2;conv=>cbv
 refine Ah ?_;refine⟨n-(i'+1),?_,?_⟩
 ·omega
 rw[w];refine⟨z,m,i'+1,L,O,rfl,rfl,⟨by omega,by omega,S,⟨by omega⟩,by omega⟩,?_,rfl⟩;rw[f,show F=i' by omega,SI (by omega),hinv,List.replicate_succ',Be,Be,List.map_append,<-h.rp];rfl
theorem Iq {x:el AA} (b:X=Be xs) (f:FX xs) (a:X[i]? =some x):∃q,B6 q x.1.1 x.1.2 x.2.1 x.2.2/\xs[i]? =some q/\Cp q:=by
 rw[b,Be,List.getElem?_map] at a;cases h:xs[i]? with
 | none=>rw[h] at a;simp at a
 | some q=>
  rw[h] at a;have e:x=rp q:=(Option.some.inj a).symm;exact⟨q,by rw[e];exact Hx q,rfl,f q (List.mem_of_getElem? h)⟩
theorem dN (h:o.take i=Be (ys.take i)) (b:i=n) (a:o.length=n) (f:ys.length=n):Be ys=o.take n:=by
 rw[b] at h;rw[h,<-f,List.take_length]
theorem dP {l:LR} {j:Nat} {q:Rat} {w:el AA} (h:o.take i=Be (ys.take i)) (b:i<o.length) (f:j=i) (k:l=o.set j w) (a:ys[i]? =some q) (hw:rp q=w):l.take (i+1)=Be (ys.take (i+1)):=by
 have m:i<ys.length:=Hv a;rw[k,f,SI b,h,List.take_succ,a,Be,Be,List.map_append,<-hw];rfl
theorem oz (hX:X=Be xs) (hs:FX xs) (hn:xs.length<=1000000) (hZ:Z=Be (xs.map (- ·))):CF 242 [.one (.sl AA X)] (.one (.sl AA Z)):=by
 refine Av Tryz.func242 fun E hE=>?_
 conv=>cbv
 have a7:X.length=xs.length:=by rw[hX,List.length_map]
 rintro n7 ⟨e7,f7⟩;conv=>cbv
 refine⟨fun _=>⟨by omega,by omega,by show _*64<=140737488355328;omega⟩,?_⟩;intro N (O:LR) G;have ab:=G.1;have H:O=List.replicate N (((false,[]),(false,[])):el AA):=G.2;have a5:O.length=N:=by rw[H,List.length_replicate]
 conv=>cbv
 intro P w;have a2:=w.eq;have f10:=w.le;conv=>cbv
 refine .inr ?_;obtain⟨J0,z⟩:=xJ fun vs V k=>∃(o:LR) (m i':Nat) (L i:Int),vs=[.one (.BI AA 8 0 0 m),.one (.sl AA X),.one (.int .i64 L),.one (.int .i64 i)]/\V=[.arr 0 AA o]/\(o.length=X.length/\m=X.length/\EY L X.length/\BG i i'/\i'<=X.length)/\o.take i'=Be ((xs.map (- ·)).take i')/\k=X.length-i'
 refine⟨[3,9,10,11],[8],J0,⟨X.length-0,by rw[z];exact⟨O,N,0,P,0,rfl,rfl,⟨by omega,by omega,w,Bv 0,by omega⟩,rfl,rfl⟩⟩,?_⟩;intro vs V ad hj;rw[z] at hj;obtain⟨o,m,i',L,i,rfl,rfl,⟨ho,hm,hL,hi,a8⟩,hinv,aa⟩:=hj;conv=>cbv
 have eL:=hL.eq;have ei:=hi.eq;intro Q F;conv=>cbv
 cases Q <;> conv=>cbv
 ·have M:=BX F;exact AF ⟨⟨rfl,.inl ⟨_,rfl,by omega,congrArg _ (by rw[hZ,hm,List.drop_zero];exact dN hinv (by omega) (by omega) (by rw[List.length_map];omega))⟩,trivial⟩,trivial⟩
 have M:=BY F;refine .inr ?_;obtain⟨U,b⟩:=Ao (l:=X) (i:=i') (by omega);refine⟨U,fun _=>⟨by omega,by rw[show (i).toNat=i' by omega];exact b⟩,?_⟩;try conv=>cbv
 obtain⟨q,hq,I,J⟩:=Iq hX hs b;obtain⟨u,v,h,j,f⟩:=Ca (-q);refine AB hE (gj hq J rfl f) ?_;conv=>cbv
 refine AY ?_;intro K a1;conv=>cbv
 refine⟨((u,v),(h,j)),fun _=>⟨by show _<List.length (α:=(el AA)) o;(first | omega | (simp;omega)),by first | exact t1 | exact t2 | exact t4 | simp[Bg,Bo,cells]⟩,?_⟩;intro (D:LR) (a:D=List.set (α:=(el AA)) o K (((u,v),(h,j))));have W:D.length=o.length:=by rw[a,List.length_set]
 conv=>cbv
 intro S a6;conv=>cbv
 refine Ah ?_;refine⟨X.length-(i'+1),?_,?_⟩
 ·omega
 rw[z];refine⟨D,m,i'+1,L,S,rfl,rfl,⟨by omega,by omega,hL,⟨by omega⟩,by omega⟩,?_,rfl⟩;exact dP hinv (by omega) (by omega) a (by rw[List.getElem?_map,I];rfl) f.rp
theorem jl {Y:LR} (hX:X=Be xs) (hY:Y=Be ys) (hs:FX xs) (ht:FX ys) (Q:ys.length=xs.length) (hn:xs.length<=1000000) (hZ:Z=Be (List.zipWith (· + ·) xs ys)) (S:zn=Z.length):CF 266 [.one (.sl AA X),.one (.sl AA Y)] (.one (.own AA Z zn)):=by
 refine Av Tryz.func266 fun E hE=>?_
 conv=>cbv
 have af:X.length=xs.length:=by rw[hX,List.length_map]
 have ag:Y.length=xs.length:=by rw[hY,List.length_map,Q]
 rintro n8 ⟨e8,f8⟩;conv=>cbv
 refine⟨fun _=>⟨by omega,by omega,by show _*64<=140737488355328;omega⟩,?_⟩;intro W (l9:LR) I;have aj:=I.1;have K:l9=List.replicate W (((false,[]),(false,[])):el AA):=I.2;have ad:l9.length=W:=by rw[K,List.length_replicate]
 conv=>cbv
 intro a1 J;have ab:=J.eq;conv=>cbv
 refine .inr ?_;obtain⟨J0,D⟩:=xJ fun vs bl k=>∃(o:LR) (m i':Nat) (L i:Int),vs=[.one (.sl AA X),.one (.sl AA Y),.one (.BI AA 9 0 0 m),.one (.int .i64 L),.one (.int .i64 i)]/\bl=[.arr 0 AA o]/\(o.length=X.length/\m=X.length/\BG L X.length/\BG i i'/\i'<=X.length)/\o.take i'=Be ((List.zipWith (· + ·) xs ys).take i')/\k=X.length-i'
 refine⟨[0,1,5,11,12],[9],J0,⟨X.length-0,by rw[D];exact⟨l9,W,0,a1,0,rfl,rfl,⟨by omega,by omega,⟨by omega⟩,Bv 0,by omega⟩,rfl,rfl⟩⟩,?_⟩;intro vs bl ak hj;rw[D] at hj;obtain⟨o,m,i',L,i,rfl,rfl,⟨ho,hm,hL,hi,ah⟩,hinv,ai⟩:=hj;conv=>cbv
 have eL:=hL.eq;have ei:=hi.eq;intro a2 G;conv=>cbv
 cases a2 <;> conv=>cbv
 ·have V:=BX G;have H:Be (List.zipWith (· + ·) xs ys)=o.take X.length:=dN hinv (by omega) (by omega) (by rw[List.length_zipWith];omega);have a:Z=o:=by rw[hZ,H,List.take_of_length_le (by omega)]
  exact AF ⟨⟨rfl,.inr (.inl ⟨_,_,by decide,rfl,rfl,by omega,rfl,E8 (a) (by rw[S,a])⟩),trivial⟩,trivial⟩
 have V:=BY G;refine .inr ?_;obtain⟨a6,f⟩:=Ao (l:=X) (i:=i') (by omega);refine⟨a6,fun _=>⟨by omega,by rw[show (i).toNat=i' by omega];exact f⟩,?_⟩;try conv=>cbv
 obtain⟨a7,h⟩:=Ao (l:=Y) (i:=i') (by omega);refine⟨a7,fun _=>⟨by omega,by rw[show (i).toNat=i' by omega];exact h⟩,?_⟩;try conv=>cbv
 obtain⟨p,hp,M,O⟩:=Iq hX hs f;obtain⟨q,hq,N,P⟩:=Iq hY ht h;obtain⟨w,z,u,v,j⟩:=Ca (p+q);refine AB hE (gd hp hq O P rfl j) ?_;conv=>cbv
 refine AY ?_;intro U aa;conv=>cbv
 refine⟨((w,z),(u,v)),fun _=>⟨by show _<List.length (α:=(el AA)) o;(first | omega | (simp;omega)),by first | exact t1 | exact t2 | exact t4 | simp[Bg,Bo,cells]⟩,?_⟩;intro (F:LR) (b:F=List.set (α:=(el AA)) o U (((w,z),(u,v))));have a8:F.length=o.length:=by rw[b,List.length_set]
 conv=>cbv
 refine g2 rfl ?_;intro a5 ae;conv=>cbv
 refine Ah ?_;refine⟨X.length-(i'+1),?_,?_⟩
 ·omega
 rw[D];refine⟨F,m,i'+1,L,a5,rfl,rfl,⟨by omega,by omega,hL,⟨by omega⟩,by omega⟩,?_,rfl⟩;exact dP hinv (by omega) (by omega) b (by rw[List.getElem?_zipWith,M,N]) j.rp
end Go.Abs
namespace Go.Abs
open Go.RowKit
def Ir (p:el AA->Bool):Nat->LR->Int
 | _,[]=> -1
 | i,x::l=>if p x=true then i else Ir p (i+1) l
variable {Y:LR} {b1 b2 c:Bool} {g:FuncId} {i:Nat} {l1 l2:List UInt32} {ys:List Rat}
theorem Zl {X:LR} {x:el AA} (h:X[i]? =some x):X.drop i=x::X.drop (i+1):=by
 have a:=Hv h;rw[List.drop_eq_getElem_cons a];rw[List.getElem?_eq_getElem a] at h;rw[Option.some.inj h]
theorem mR {X:LR} {p:el AA->Bool} {x:el AA} (h:X[i]? =some x) (a:p x=false):Ir p i (X.drop i)=Ir p (i+1) (X.drop (i+1)):=by
 rw[Zl h,Ir,a];rfl
theorem mQ {X:LR} {p:el AA->Bool} {x:el AA} (h:X[i]? =some x) (a:p x=true):Ir p i (X.drop i)=i:=by
 rw[Zl h,Ir,if_pos a]
theorem fm {X:LR} {p:el AA->Bool} {r:Int} (H:∀x∈X,CF g [.agg (cells AA x)] (.one (.bool (p x)))) (M:r=Ir p 0 X):CF 353 [.one (.sl AA X),.one (.fn g)] (.one (.int .i64 r)):=by
 refine Av Tryz.func353 fun E G=>?_
 conv=>cbv
 intro P m;have S:=m.eq;have f7:=m.le;conv=>cbv
 refine .inr ?_;obtain⟨z,h⟩:=xJ fun vs D k=>∃(i':Nat) (L i:Int),vs=[.one (.sl AA X),.one (.fn g),.one (.int .i64 L),.one (.int .i64 i)]/\(EY L X.length/\BG i i'/\i'<=X.length)/\r=Ir p i' (X.drop i')/\k=X.length-i'
 refine⟨[0,1,7,8],[],z,⟨X.length-0,by rw[h];exact⟨0,P,0,rfl,⟨m,Bv 0,by omega⟩,M,rfl⟩⟩,?_⟩;intro vs D O w;rw[h] at w;obtain⟨i',L,i,rfl,⟨v,I,J⟩,hinv,K⟩:=w;conv=>cbv
 have U:=v.eq;have V:=I.eq;intro Q u;conv=>cbv
 cases Q <;> conv=>cbv
 ·have N:=BX u;exact AF ⟨⟨rfl,congrArg _ (by rw[hinv,List.drop_eq_nil_of_le (by omega)];rfl),trivial⟩,trivial⟩
 have N:=BY u;refine .inr ?_;obtain⟨a,b⟩:=Ao (l:=X) (i:=i') (by omega);refine⟨a,fun _=>⟨by omega,by rw[show (i).toNat=i' by omega];exact b⟩,?_⟩;try conv=>cbv
 obtain⟨j,f⟩:=xB (p a);refine .inl ⟨[.agg [.bool a.1.1,.sl .u32 a.1.2,.bool a.2.1,.sl .u32 a.2.2]],.one (.bool j),fun _=>⟨t4,trivial⟩,fun _=>IN G ((by rw[f];exact H a (List.mem_of_getElem? b))),?_⟩;try conv=>cbv
 cases j <;> conv=>cbv
 ·intro q F;conv=>cbv
  refine Ah ?_;refine⟨X.length-(i'+1),?_,?_⟩
  ·omega
  rw[h];refine⟨i'+1,L,q,rfl,⟨v,⟨by omega⟩,by omega⟩,?_,rfl⟩;rw[hinv,mR b f.symm]
 exact AF ⟨⟨rfl,congrArg _ (by rw[hinv,mQ b f.symm];omega),trivial⟩,trivial⟩
theorem Zk (p:el AA->Bool):∀(X:LR) (i:Nat),decide (Ir p i X >= 0)=X.any p
 | [],i=>rfl
 | x::X,i=>by
  rw[Ir,List.any_cons]
  split
  ·rename_i h;rw[h,Bool.true_or];exact decide_eq_true (by omega)
  rename_i h;rw[Bool.eq_false_iff.2 h,Bool.false_or];exact Zk p X (i+1)
theorem Wr {X:LR} {p:el AA->Bool} (h:∀x∈X,CF g [.agg (cells AA x)] (.one (.bool (p x)))) (hc:c=X.any p):CF 325 [.one (.sl AA X),.one (.fn g)] (.one (.bool c)):=by
 refine Av Tryz.func325 fun E f=>?_
 conv=>cbv
 obtain⟨k,a⟩:=xI (Ir p 0 X);refine AB f (fm h a) ?_;conv=>cbv
 intro j b;conv=>cbv
 exact AF ⟨⟨rfl,congrArg _ (by rw[hc,b,a];exact (Zk p X 0).symm),trivial⟩,trivial⟩
theorem rG (q:Rat):decide (q≠0)=(GB q !=0):=by
 have h:= @Rat.num_eq_zero q;rw[Bool.eq_iff_iff,decide_eq_true_eq,bne_iff_ne];rcases V9 q with⟨a,e⟩ |⟨a,e⟩ |⟨a,e⟩ <;> rw[e]
 ·exact⟨fun _=>by decide,fun _ b=>by rw[h.2 b] at a;omega⟩
 ·exact⟨fun b=>absurd (h.1 a) b,fun b=>absurd rfl b⟩
 exact⟨fun _=>by decide,fun _ b=>by rw[h.2 b] at a;omega⟩
theorem o0 {q:Rat} (h:B6 q b1 l1 b2 l2) (hc:c=decide (q≠0)):CF 326 [.agg (CX b1 l1 b2 l2)] (.one (.bool c)):=by
 refine Av Tryz.func326 fun E f=>?_
 conv=>cbv
 obtain⟨k,a⟩:=xI (GB q);refine AB f (Po h a) ?_;conv=>cbv
 intro j b;conv=>cbv
 exact AF ⟨⟨rfl,congrArg _ (by rw[hc,b,a];exact rG q),trivial⟩,trivial⟩
theorem dM (q:Rat):decide (q≠0)= !(rp q).1.2.isEmpty:=by
 have h:(rp q).1.2=BH q.num.natAbs:=rfl;rw[h,Bool.eq_iff_iff,decide_eq_true_eq,Bool.not_eq_true',List.isEmpty_eq_false_iff,Ne,Ne,G3,<-Rat.num_eq_zero];omega
theorem qt (xs:List Rat):(Be xs).any (fun x=> !x.1.2.isEmpty)= !decide (∀q∈xs,q=0):=by
 induction xs with
 | nil=>rfl
 | cons q xs a=>
  rw[Be,List.map_cons,List.any_cons,<-dM,<-Be,a]
  by_cases h:q=0 <;> simp[h]
theorem sN {X:LR} {xs:List Rat} (b:X=Be xs):∀x∈X,CF 326 [.agg (cells AA x)] (.one (.bool (!x.1.2.isEmpty))):=by
 intro x a;rw[b] at a;obtain⟨q,_,rfl⟩:=List.mem_map.1 a;exact o0 (Hx q) (dM q).symm
theorem Xp {X:LR} {xs:List Rat} (b:X=Be xs) (hc:c=decide (∀q∈xs,q=0)):CF 280 [.one (.sl AA X)] (.one (.bool c)):=by
 refine Av Tryz.func280 fun E h=>?_
 conv=>cbv
 obtain⟨j,a⟩:=xB (X.any (fun x=> !x.1.2.isEmpty));refine AB h (Wr (sN b) a) ?_;conv=>cbv
 intro k f;conv=>cbv
 exact AF ⟨⟨rfl,congrArg _ (by rw[hc,f,a,b,qt,Bool.not_not]),trivial⟩,trivial⟩
theorem mu (hc:c= !Jk b1 l1 b2 l2) (s1:l1.length<=17592186042000) (s2:l2.length<=17592186042000):CF 327 [.agg (CX b1 l1 b2 l2)] (.one (.bool c)):=by
 refine Av Tryz.func327 fun E f=>?_
 conv=>cbv
 obtain⟨h,a⟩:=xB (Jk b1 l1 b2 l2);refine AB f (W6 a s1 s2) ?_;conv=>cbv
 intro j b;conv=>cbv
 exact AF ⟨⟨rfl,congrArg _ (by rw[hc,b,a]),trivial⟩,trivial⟩
theorem kB {X:LR} {xs:List Rat} (b:X=Be xs) (j:FX xs):∀x∈X,CF 327 [.agg (cells AA x)] (.one (.bool false)):=by
 intro x a;rw[b] at a;obtain⟨q,f,rfl⟩:=List.mem_map.1 a;have h:=(Hx q).small (j q f);exact mu (by rw[Wc.2 ⟨q,Hx q⟩];rfl) (by omega) (by omega)
theorem any_false (X:LR):false=X.any (fun _=>false):=by
 induction X with
 | nil=>rfl
 | cons x X a=>rw[List.any_cons,<-a];rfl
theorem VD {X:LR} {xs:List Rat} {k:Int} {n:Nat} (b:X=Be xs) (q:FX xs) (m:BG k n) (hc:c=decide (xs.length=n)):CF 282 [.one (.sl AA X),.one (.int .i64 k)] (.one (.bool c)):=by
 have D:=m.eq;refine Av Tryz.func282 fun E j=>?_
 conv=>cbv
 rintro F ⟨z,f6⟩;conv=>cbv
 intro w h;conv=>cbv
 cases w <;> conv=>cbv
 ·have u:=BR h;exact AF ⟨⟨rfl,congrArg _ (by have f:X.length=xs.length:=(by rw[b,List.length_map]);rw[hc];exact decide_eq_false (by omega)),trivial⟩,trivial⟩
 have u:=BS h;refine AB j (Wr (p:=fun _=>false) (kB b q) (any_false X)) ?_;conv=>cbv
 intro v a;conv=>cbv
 exact AF ⟨⟨rfl,congrArg _ (by have f:X.length=xs.length:=(by rw[b,List.length_map]);rw[hc,a];exact decide_eq_true (by omega)),trivial⟩,trivial⟩
theorem Ge {n i:Int} {k:Nat} (h:n=IntKind.i64.wrap (1*2^min i.toNat IntKind.i64.bits)) (e:i=k) (a:k<=20:=by omega):BG n (2^k):=by
 have b:=wrap_i64 h;have f:2^k<=2^20:=Nat.pow_le_pow_right (by decide) a
 have h3:((2:Int)^min i.toNat IntKind.i64.bits)=((2^k:Nat):Int):=by
  rw[e,Int.toNat_natCast,Nat.min_eq_left (Nat.le_trans a (by decide))];simp
 rw[h3,Int.one_mul] at b
 generalize 2^k=Q at*
 exact⟨by omega⟩
theorem Lq {X:List LR} {xs:List (List Rat)} {x:LR} (b:X=xs.map Be) (a:X[i]? =some x):∃y,x=Be y/\xs[i]? =some y:=by
 rw[b,List.getElem?_map] at a;cases h:xs[i]? with
 | none=>rw[h] at a;simp at a
 | some q=>rw[h] at a;exact⟨q,(Option.some.inj a).symm,rfl⟩
theorem Vc {X:List LR} {xs:List (List Rat)} (G:X=xs.map Be) (ht:Pu xs) (hc:c=true):CF 281 [.one (.sl (.sl AA) X)] (.one (.bool c)):=by
 refine Av Tryz.func281 fun E N=>?_
 conv=>cbv
 have O:X.length=xs.length:=by rw[G,List.length_map]
 have hl:=ht.UN;intro n6 q;have e6:=q.eq;have f6:=q.le;conv=>cbv
 refine .inr ?_;obtain⟨I,b⟩:=xJ fun vs J k=>∃(i':Nat) (L i:Int),vs=[.one (.sl (.sl AA) X),.one (.int .i64 L),.one (.int .i64 i)]/\(EY L X.length/\BG i i'/\i'<=X.length)/\k=X.length-i'
 refine⟨[5,6,7],[],I,⟨X.length-0,by rw[b];exact⟨0,n6,0,rfl,⟨q,Bv 0,by omega⟩,rfl⟩⟩,?_⟩;intro vs J V H;rw[b] at H;obtain⟨i',L,i,rfl,⟨F,P,Q⟩,S⟩:=H;conv=>cbv
 have eL:=F.eq;have K:=P.eq;intro n8 D;conv=>cbv
 cases n8 <;> conv=>cbv
 ·have U:=BX D;exact AF ⟨⟨rfl,congrArg _ (hc),trivial⟩,trivial⟩
 have U:=BY D;refine .inr ?_;obtain⟨z,a⟩:=Ao (l:=X) (i:=i') (by omega);refine⟨z,fun _=>⟨by omega,by rw[show (i).toNat=i' by omega];exact a⟩,?_⟩;try conv=>cbv
 intro W m;conv=>cbv
 refine AY ?_;obtain⟨x,u,h⟩:=Lq G a;refine AB (r:= .one (.bool true)) N (VD u (ht.small x (List.mem_of_getElem? h)) (Ge m K) (by rw[ht.form i' x h];exact (decide_eq_true rfl).symm)) ?_;try conv=>cbv
 intro v f;conv=>cbv
 cases v <;> conv=>cbv
 ·have j:=Fo f;intro w M;conv=>cbv
  refine Ah ?_;refine⟨X.length-(i'+1),?_,?_⟩
  ·omega
  rw[b];exact⟨i'+1,L,w,rfl,⟨F,⟨by omega⟩,by omega⟩,rfl⟩
 have j:=Fp f;exact absurd j (by decide)
theorem Jp {X:List LR} {xs:List (List Rat)} (k:X=xs.map Be) (ht:Pu xs) (q:Y=Be ys) (u:FX ys) (hc:c=decide (ys.length=2^xs.length)):CF 241 [.one (.sl (.sl AA) X),.one (.sl AA Y)] (.one (.bool c)):=by
 refine Av Tryz.func241 fun E j=>?_
 conv=>cbv
 have h:X.length=xs.length:=by rw[k,List.length_map]
 have z:=ht.UN;refine AB j (Vc k ht rfl) ?_;conv=>cbv
 rintro v ⟨b,f10⟩;conv=>cbv
 intro w f;conv=>cbv
 refine AY ?_;obtain⟨m,a⟩:=xB (decide (ys.length=2^xs.length));refine AB j (VD q u (Ge f (b.trans (congrArg _ h))) a) ?_;conv=>cbv
 exact AF ⟨⟨rfl,congrArg _ (hc.trans a.symm),trivial⟩,trivial⟩
theorem UG {X:List LR} {Z:LR} {xs:List (List Rat)} {m:List Rat} (u:X=xs.map Be) (ht:Pu xs) (v:Y=Be ys) (z:FX ys) (j:ys.length=2^xs.length) (w:Z=Be m) (h:FX m) (k:m.length=2^xs.length):CF 265 [.one (.sl (.sl AA) X),.one (.sl AA Y),.one (.sl AA Z)] (.one (.bool true)):=by
 refine Av Tryz.func265 fun E q=>?_
 conv=>cbv
 have f:X.length=xs.length:=by rw[u,List.length_map]
 have G:=ht.UN;refine AB q (Jp u ht v z (decide_eq_true j).symm) ?_;conv=>cbv
 rintro D ⟨a,f13⟩;conv=>cbv
 intro F b;conv=>cbv
 refine AY ?_;refine AB q (VD w h (Ge b (a.trans (congrArg _ f))) (decide_eq_true k).symm) ?_;conv=>cbv
 exact AF ⟨t2,trivial⟩
end Go.Abs
namespace Go.Abs
open Go.RowKit
variable {A B C X Y Z:LR} {R s t zn:Nat} {T:List LR} {p:Rat} {x y:Re}
theorem Le {u:List (List Rat)} (h:BF u) (f:In u x) (b:X=em u x) (a:x=0):CF 280 [.one (.sl AA X)] (.one (.bool true)):=
 Xp b (decide_eq_true ((OD h f).2 a)).symm
theorem Jz {u:List (List Rat)} (h:BF u) (f:In u x) (b:X=em u x) (a:x≠0):CF 280 [.one (.sl AA X)] (.one (.bool false)):=
 Xp b (decide_eq_false (fun k=>a ((OD h f).1 k))).symm
theorem Qv {u:List (List Rat)} {r:List Rat} {p q:Re} (h:BF (r::u)) (b:In u p) (f:In u q) (j:x=p+q*rt u r) (a:X=em (r::u) x) (k:A=em u p) (m:B=em u q):
  CF 297 [.one (.sl AA X)] (.AI [(false,[.sl AA A]),(false,[.sl AA B])]):=
 mL (by rw[a,k,Dk h b f j]) (by rw[a,m,Cz h b f j])
theorem NZ (r:List Rat) (u:List (List Rat)):tw (r::u)≠[]:=by rw[PS];simp
theorem WJ {X A:List LR} {u:List (List Rat)} {r:List Rat} (a:X=tw (r::u)) (b:A=tw u) (f:B=Be r):
  CF 295 [.one (.sl (.sl AA) X)] (.AI [(false,[.sl (.sl AA) A]),(false,[.sl AA B])]):=
 rn (by rw[a];exact NZ r u) (by rw[a,b,FF]) (by rw[a,f,HD])
theorem LD {n:Nat} (h:n<=16:=by omega):2^n<=1000000:=Nat.le_trans (Eo h) (by decide)
theorem Xu {u:List (List Rat)} (h:Bb R u) (j:X=em u x) (k:Y=em u y) (a:El u s x) (b:El u t y) (q:s<=60000000000000) (ht:t<=60000000000000) (m:Z=em u (x+y)) (f:zn=Z.length):
  CF 266 [.one (.sl AA X),.one (.sl AA Y)] (.one (.own AA Z zn)):=
 jl j k (a.Cg q) (b.Cg ht) (by rw[a.len,b.len]) (by rw[a.len];exact LD h.ht) (by rw[m,ZG h.red a.mem b.mem]) f
theorem QB {u:List (List Rat)} (h:Bb R u) (a:X=em u x) (b:Y=em u y) (k:El u s x) (m:El u t y) (j:s<=60000000000000) (ht:t<=60000000000000) (f:Z=em u (x+y)):
 CF 266 [.one (.sl AA X),.one (.sl AA Y)] (.one (.sl AA Z)):=Ek (Xu h a b k m j ht f rfl)
theorem RY {u:List (List Rat)} (h:Bb R u) (b:X=em u x) (a:El u s x) (j:s<=60000000000000) (f:Z=em u (-x)):
  CF 242 [.one (.sl AA X)] (.one (.sl AA Z)):=
 oz b (a.Cg j) (by rw[a.len];exact LD h.ht) (by rw[f,ZH h.red a.mem])
theorem SW {a:Int} {u:List (List Rat)} (h:Bb R u) (ha:BG a (2^u.length)) (f:Z=em u 0) (b:zn=Z.length):
  CF 318 [.one (.int .i64 a)] (.one (.own AA Z zn)):=
 tD ha (LD h.ht) (by rw[f,Tv h.red]) b
theorem Gb {x:el AA} (b:A=[rp p]) (a:A[0]? =some x):B6 p x.1.1 x.1.2 x.2.1 x.2.2:=by
 rw[b] at a;rw[<-Option.some.inj a];exact Hx p
theorem oc {q:Rat} (N:T=[]) (H:A=[rp p]) (I:B=[rp q]) (Q:Cp p) (ht:Cp q) (J:C=[rp (p*q)]) (z:zn=C.length):CF 274 [.one (.sl (.sl AA) T),.one (.sl AA A),.one (.sl AA B)] (.one (.own AA C zn)):=by
 refine Av Tryz.func274 fun E M=>?_
 conv=>cbv
 refine .inr ?_;rintro S ⟨w,f16⟩;conv=>cbv
 intro D h;conv=>cbv
 cases D <;> conv=>cbv
 ·have j:=BR h;exact absurd (by rw[w,N];rfl) j
 have j:=BS h;have K:A.length=1:=by rw[H];rfl
 have L:B.length=1:=by rw[I];rfl
 obtain⟨F,a⟩:=Ao (l:=A) (i:=0) (by omega);refine⟨F,fun _=>⟨by omega,a⟩,?_⟩;try conv=>cbv
 obtain⟨G,b⟩:=Ao (l:=B) (i:=0) (by omega);refine⟨G,fun _=>⟨by omega,b⟩,?_⟩;try conv=>cbv
 have O:=Gb H a;have P:=Gb I b;obtain⟨u,v,k,m,f⟩:=Ca (p*q);refine AB M (gi O P Q ht rfl f) ?_;conv=>cbv
 refine⟨[((u,v),(k,m))],fun _=>⟨rfl,by decide,rfl,⟨rfl,by first | exact t1 | exact t2 | exact t4 | simp[Bg,Bo,cells],trivial⟩⟩,.inl ?_⟩;try conv=>cbv
 refine g2 rfl ?_;exact AF ⟨⟨rfl,.inr (.inl ⟨_,_,by decide,rfl,rfl,rfl,rfl,E8 (by rw[J,f.rp]) (by rw[z,J];rfl)⟩),trivial⟩,trivial⟩
theorem oo {u:List (List Rat)} (h:Bb R u) (K:T≠[]) (D:A=em u x) (N:B=em u y) (H:In u x) (O:In u y) (J:x=0) (F:C=em u 0) (v:zn=C.length):CF 274 [.one (.sl (.sl AA) T),.one (.sl AA A),.one (.sl AA B)] (.one (.own AA C zn)):=by
 refine Av Tryz.func274 fun E G=>?_
 conv=>cbv
 refine .inr ?_;rintro L ⟨I,f16⟩;conv=>cbv
 intro z f;conv=>cbv
 cases z <;> conv=>cbv
 ·have w:=BR f;refine AB G (Le h.red H D J) ?_;conv=>cbv
  have q:A.length=2^u.length:=by rw[D,B5 H]
  rintro M ⟨m,f34⟩;conv=>cbv
  obtain⟨j,a⟩:=xR (em u (0));obtain⟨k,b⟩:=xN j.length;refine AB (r:= .one (.own AA j k)) G (SW h (BG.of (by rw[m,q])) a b) ?_;conv=>cbv
  exact AF ⟨⟨rfl,.inr (.inl ⟨_,_,by decide,rfl,rfl,b,rfl,E8 (by rw[F,a]) (by rw[v,F,<-a])⟩),trivial⟩,trivial⟩
 have w:=BS f;exact absurd (List.length_eq_zero_iff.1 (by omega)) K
theorem oq {u:List (List Rat)} (h:Bb R u) (M:T≠[]) (F:A=em u x) (L:B=em u y) (H:In u x) (N:In u y) (J:y=0) (K:x≠0) (G:C=em u 0) (w:zn=C.length):CF 274 [.one (.sl (.sl AA) T),.one (.sl AA A),.one (.sl AA B)] (.one (.own AA C zn)):=by
 refine Av Tryz.func274 fun E v=>?_
 conv=>cbv
 refine .inr ?_;rintro O ⟨I,f16⟩;conv=>cbv
 intro D f;conv=>cbv
 cases D <;> conv=>cbv
 ·have z:=BR f;refine AB v (Jz h.red H F K) ?_;conv=>cbv
  refine AB v (Le h.red N L J) ?_;conv=>cbv
  have q:A.length=2^u.length:=by rw[F,B5 H]
  rintro P ⟨m,f34⟩;conv=>cbv
  obtain⟨j,a⟩:=xR (em u (0));obtain⟨k,b⟩:=xN j.length;refine AB (r:= .one (.own AA j k)) v (SW h (BG.of (by rw[m,q])) a b) ?_;conv=>cbv
  exact AF ⟨⟨rfl,.inr (.inl ⟨_,_,by decide,rfl,rfl,b,rfl,E8 (by rw[G,a]) (by rw[w,G,<-a])⟩),trivial⟩,trivial⟩
 have z:=BS f;exact absurd (List.length_eq_zero_iff.1 (by omega)) M
def Wx (f:FuncId) (R:Nat) (u:List (List Rat)):Prop:=∀{T:List LR} {A B C:LR} {zn s t:Nat} {x y:Re},T=tw u->A=em u x->B=em u y->El u s x->El u t y->s+t+EE u.length R<=60000000000000->C=em u (x*y)->zn=C.length->
 CF f [.one (.sl (.sl AA) T),.one (.sl AA A),.one (.sl AA B)] (.one (.own AA C zn))
theorem om {u:List (List Rat)} {r:List Rat} (h:Bb R (r::u)) (W:Wx 274 R u) (hT:T=tw (r::u)) (hA:A=em (r::u) x) (hB:B=em (r::u) y) (hx:El (r::u) s x) (hy:El (r::u) t y) (al:s+t+EE (r::u).length R<=60000000000000) (h0:x≠0) (h1:y≠0) (hC:C=em (r::u) (x*y)) (a8:zn=C.length):CF 274 [.one (.sl (.sl AA) T),.one (.sl AA A),.one (.sl AA B)] (.one (.own AA C zn)):=by
 obtain⟨p,q,a6,H,G⟩:=El.parts h.red hx;obtain⟨a,b,a7,ha,hb⟩:=El.parts h.red hy;have aj:EE (r::u).length R=2*EE u.length R+R+2:=rfl;have I:=El.EX h;have hR:=h.hR;have ak:=DO h.red;refine Av Tryz.func274 fun E j=>?_
 conv=>cbv
 refine .inr ?_;rintro an ⟨ai,f16⟩;conv=>cbv
 intro ab a1;conv=>cbv
 cases ab <;> conv=>cbv
 ·have aa:=BR a1;refine AB j (Jz h.red hx.mem hA h0) ?_;conv=>cbv
  refine AB j (Jz h.red hy.mem hB h1) ?_;conv=>cbv
  obtain⟨ao,f⟩:=xV (tw u);obtain⟨aq,M⟩:=xR (Be r);refine AB j (WJ hT f M) ?_;conv=>cbv
  obtain⟨ar,k⟩:=xR (em u p);obtain⟨au,m⟩:=xR (em u q);refine AB j (Qv h.red H.mem G.mem a6 hA k m) ?_;conv=>cbv
  obtain⟨av,v⟩:=xR (em u a);obtain⟨aw,w⟩:=xR (em u b);refine AB j (Qv h.red ha.mem hb.mem a7 hB v w) ?_;conv=>cbv
  obtain⟨ax,N⟩:=xR (em u (p*a));refine AB j (Ek (W f k v H ha (by omega) N rfl)) ?_;conv=>cbv
  obtain⟨ay,O⟩:=xR (em u (q*b));refine AB j (Ek (W f m w G hb (by omega) O rfl)) ?_;conv=>cbv
  obtain⟨az,P⟩:=xR (em u (q*b*Al u r));refine AB j (Ek (W f O (M.trans (Ff h.red)) (G.mul h.tail hb) I (by omega) P rfl)) ?_;conv=>cbv
  obtain⟨J,z⟩:=xR (em u (p*a+q*b*Al u r));obtain⟨ah,D⟩:=xN J.length;refine AB j (Xu h.tail N P (H.mul h.tail ha) ((G.mul h.tail hb).mul h.tail I) (by omega) (by omega) z D) ?_;conv=>cbv
  obtain⟨aA,Q⟩:=xR (em u (p*b));refine AB j (Ek (W f k w H hb (by omega) Q rfl)) ?_;conv=>cbv
  obtain⟨aB,S⟩:=xR (em u (q*a));refine AB j (Ek (W f m v G ha (by omega) S rfl)) ?_;conv=>cbv
  obtain⟨K,F⟩:=xR (em u (p*b+q*a));refine AB j (QB h.tail Q S (H.mul h.tail hb) (G.mul h.tail ha) (by omega) (by omega) F) ?_;conv=>cbv
  have ae:J.length=2^u.length:=by rw[z,B5 (ES (H.mul h.tail ha).mem ((G.mul h.tail hb).mul h.tail I).mem)]
  have af:K.length=2^u.length:=by rw[F,B5 (ES (H.mul h.tail hb).mem (G.mul h.tail ha).mem)]
  have ag:=Eo h.tail.ht;refine .inl ⟨K,fun _=>⟨rfl,D,rfl,by show (J.length+K.length)*64<=140737488355328;(try simp only[List.length_take,List.length_drop]);omega⟩,?_⟩;intro (V:LR) ad U;have a2:V=(J:LR)++(K:LR):=U.1;have a5:ad=List.length (α:=(el AA)) V:=U.2;conv=>cbv
  have L:C=V:=by rw[hC,a2,z,F];exact Gk h.red (ES (H.mul h.tail ha).mem ((G.mul h.tail hb).mul h.tail I).mem) (ES (H.mul h.tail hb).mem (G.mul h.tail ha).mem) (by rw[a6,a7];clear W;grind)
  exact AF ⟨⟨rfl,.inr (.inl ⟨_,_,by decide,rfl,rfl,a5,rfl,E8 (L) (by rw[a8,L])⟩),trivial⟩,trivial⟩
 have aa:=BS a1;exact absurd (List.length_eq_zero_iff.1 (by omega)) (hT ▸ NZ r u)
theorem mulC {u:List (List Rat)} (h:Bb R u):Wx 274 R u:=by
 induction u with
 | nil=>
  intro T A B C zn s t x y v b f k m w j a;obtain⟨p,rfl⟩:=Dl.1 k.mem;obtain⟨q,rfl⟩:=Dl.1 m.mem;rw[Fc] at b f;rw[<-Re.ofRat_mul,Fc] at j;have F:=k.Cg (by omega);have G:=m.Cg (by omega);rw[Ew] at F G;exact oc v b f (F _ List.mem_cons_self) (G _ List.mem_cons_self) j a
 | cons r u H=>
  intro T A B C zn s t x y v b f k m w j a
  by_cases z:x=0
  ·refine oo h (v ▸ NZ r u) b f k.mem m.mem z ?_ a;rw[j,z];congr 1;grind
  by_cases D:y=0
  ·refine oq h (v ▸ NZ r u) b f k.mem m.mem D z ?_ a;rw[j,D];congr 1;grind
  exact om h (H h.tail) v b f k m w z D j a
theorem Oj {u:List (List Rat)} (h:Bb R u) (k:T=tw u) (b:A=em u x) (f:B=em u y) (m:El u s x) (q:El u t y) (a:s+t+EE u.length R<=60000000000000) (j:C=em u (x*y)):
 CF 274 [.one (.sl (.sl AA) T),.one (.sl AA A),.one (.sl AA B)] (.one (.sl AA C)):=Ek (mulC h k b f m q a j rfl)
end Go.Abs
