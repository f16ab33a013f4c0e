/- Part 16 of a proof. Conditions: each theorem's own. -/
import Derived.Test.YtmhbikooakmagaaGreatPk12
set_option linter.all false
set_option maxHeartbeats 8000000
set_option maxRecDepth 20000
open Go.Proofs
namespace Go.Abs
open Go.RowKit
variable {b' b1 b2 c c1 c2 d1 d2:Bool} {d n x y:Int} {k1 k2 l l' l1 l2 m1 m2:List UInt32} {r:Rat}
theorem XQ {b:Bool} (f:As x b l) (hc:c=decide (x=0)):CF 374 [.agg (Bg b l)] (.one (.bool c)):=by
 refine AJ Tryz.func374 fun E j=>?_
 conv=>cbv
 rintro k ⟨h,f5⟩;conv=>cbv
 intro m a;conv=>cbv
 exact AD ⟨⟨rfl,congrArg _ (by rw[hc,a,Bool.eq_iff_iff];simp only[decide_eq_true_eq,beq_iff_eq];rw[<-f.GR];omega),trivial⟩,trivial⟩
theorem Ky {b:Bool} (k:As x b l) (hc:c=decide (x=1)):CF 367 [.agg (Bg b l)] (.one (.bool c)):=by
 refine AJ Tryz.func367 fun E I=>?_
 conv=>cbv
 intro G w;conv=>cbv
 cases G <;> conv=>cbv
 ·have q:=DW w;exact AD ⟨⟨rfl,congrArg _ (by rw[hc];exact (SD k q).symm),trivial⟩,trivial⟩
 have q:=DX w;rintro J ⟨H,f9⟩;conv=>cbv
 intro u f;conv=>cbv
 cases u <;> conv=>cbv
 ·have m:=Ao f;exact AD ⟨⟨rfl,congrArg _ (by rw[hc];exact (YY k (by omega)).symm),trivial⟩,trivial⟩
 have m:=BA f;obtain⟨v,a⟩:=AP (l:=l) (i:=0) (by omega);refine⟨v,fun _=>⟨by omega,a⟩,?_⟩;try conv=>cbv
 intro D h;have z:=h.eq;have f16:=h.lt;conv=>cbv
 intro F j;conv=>cbv
 exact AD ⟨⟨rfl,congrArg _ (by rw[hc,j,<-SF k q (by omega) a,Bool.eq_iff_iff];simp only[decide_eq_true_eq,beq_iff_eq];omega),trivial⟩,trivial⟩
theorem SE {b:Bool} (f:As 1 b l):CF 303 [] (.agg (Bg b l)):=by
 refine AJ Tryz.func303 fun E h=>?_
 conv=>cbv
 obtain⟨j,k,a⟩:=Al (1);refine AB h (NY (by omega) a) ?_;conv=>cbv
 exact AD ⟨⟨rfl,congrArg _ ((a.uniq f rfl).1.symm),congrArg _ ((a.uniq f rfl).2.symm),trivial⟩,trivial⟩
theorem O9 {b3:Bool} {l3:List UInt32} (j:As x b1 l1) (q:As y b2 l2) (k:y≠0) (h:As (CY x y) b3 l3) (s1:l1.length<=17592186042000) (s2:l2.length<=17592186042000):CF 392 [.agg (Bg b1 l1),.agg (Bg b2 l2)] (.agg (Bg b3 l3)):=by
 refine AJ Tryz.func392 fun E m=>?_
 conv=>cbv
 obtain⟨D,b⟩:=xB (decide (y=1));refine AB m (Ky q b) ?_;conv=>cbv
 cases D <;> conv=>cbv
 ·obtain⟨w,z,a⟩:=Al (CY x y);obtain⟨u,v,f⟩:=Al (Hn x y);refine AB m (bR j q k a f (by omega) (by omega)) ?_;conv=>cbv
  exact AD ⟨⟨rfl,congrArg _ ((a.uniq h rfl).1.symm),congrArg _ ((a.uniq h rfl).2.symm),trivial⟩,trivial⟩
 exact AD ⟨⟨rfl,congrArg _ ((h.uniq j (by rw[of_decide_eq_true b.symm];exact WS x)).1),congrArg _ ((h.uniq j (by rw[of_decide_eq_true b.symm];exact WS x)).2),trivial⟩,trivial⟩
theorem MT {b:Bool} (a:d≠0) (h:As d b l) (h':As ((Nat.gcd n.natAbs d.natAbs:Nat):Int) b' l'):l'.length<=l.length:=by
 rw[h.Bh,h'.Bh,Int.natAbs_natCast];exact EM (Nat.le_of_dvd (by omega) (Nat.gcd_dvd_right _ _))
theorem OT {b:Bool} (a:d≠0) (h:As d b l) (h':As (-((Nat.gcd n.natAbs d.natAbs:Nat):Int)) b' l'):l'.length<=l.length:=by
 rw[h.Bh,h'.Bh,Int.natAbs_neg,Int.natAbs_natCast];exact EM (Nat.le_of_dvd (by omega) (Nat.gcd_dvd_right _ _))
theorem OU (a:d≠0):((Nat.gcd n.natAbs d.natAbs:Nat):Int)≠0:=by
 have:=Nat.gcd_pos_of_pos_right n.natAbs (n:=d.natAbs) (by omega);omega
theorem RE {b:Bool} (h:As d b l) (e:b=true):d<0:=by
 have:=h.neg;rw[e] at this;simpa using this.symm
theorem RD {b:Bool} (h:As d b l) (e:b=false):¬d<0:=by
 have:=h.neg;rw[e] at this;simpa using this.symm
theorem LA {q:Rat} (M:As n b1 l1) (j:As d b2 l2) (k:d≠0) (L:q=Rat.divInt n d) (D:Bn q c1 m1 c2 m2) (s1:l1.length<=17592186042000) (s2:l2.length<=17592186042000):CF 375 [.agg (Bg b1 l1),.agg (Bg b2 l2)] (.agg (B5 c1 m1 c2 m2)):=by
 refine AJ Tryz.func375 fun E H=>?_
 conv=>cbv
 obtain⟨N,O,h⟩:=Al (((Nat.gcd n.natAbs d.natAbs:Nat):Int));refine AB H (UG M j h (by omega) (by omega)) ?_;conv=>cbv
 refine .inr ?_;cases b2 <;> conv=>cbv
 ·obtain⟨u,w,a⟩:=Al (CY n (if d<0 then -((Nat.gcd n.natAbs d.natAbs:Nat):Int) else ((Nat.gcd n.natAbs d.natAbs:Nat):Int)));have K:As (if d<0 then -((Nat.gcd n.natAbs d.natAbs:Nat):Int) else ((Nat.gcd n.natAbs d.natAbs:Nat):Int)) N O:=by rw[if_neg (RD j rfl)];exact h
  have m:(if d<0 then -((Nat.gcd n.natAbs d.natAbs:Nat):Int) else ((Nat.gcd n.natAbs d.natAbs:Nat):Int))≠0:=by rw[if_neg (RD j rfl)];have:=OU (n:=n) k;omega
  have J:CY n (if d<0 then -((Nat.gcd n.natAbs d.natAbs:Nat):Int) else ((Nat.gcd n.natAbs d.natAbs:Nat):Int))=q.num:=by rw[L];exact (Oi k).symm
  have I:CY d (if d<0 then -((Nat.gcd n.natAbs d.natAbs:Nat):Int) else ((Nat.gcd n.natAbs d.natAbs:Nat):Int))=(q.den:Int):=by rw[L];exact (Oh k).symm
  refine AB (r:= .agg [.bool u,.sl .u32 w]) H (O9 M K m a (by omega) (by have:=MT k j h;omega)) ?_;try conv=>cbv
  obtain⟨v,z,b⟩:=Al (CY d (if d<0 then -((Nat.gcd n.natAbs d.natAbs:Nat):Int) else ((Nat.gcd n.natAbs d.natAbs:Nat):Int)));refine AB (r:= .agg [.bool v,.sl .u32 z]) H (O9 j K m b (by omega) (by have:=MT k j h;omega)) ?_;try conv=>cbv
  refine g2 rfl ?_;exact AD ⟨⟨rfl,congrArg _ ((a.uniq D.num J).1.symm),congrArg _ ((a.uniq D.num J).2.symm),congrArg _ ((b.uniq D.den I).1.symm),congrArg _ ((b.uniq D.den I).2.symm),trivial⟩,trivial⟩
 obtain⟨F,G,f⟩:=Al (-((Nat.gcd n.natAbs d.natAbs:Nat):Int));refine AB (r:= .agg [.bool F,.sl .u32 G]) H (UL h (by have:=MT k j h;omega) f) ?_;try conv=>cbv
 obtain⟨u,w,a⟩:=Al (CY n (if d<0 then -((Nat.gcd n.natAbs d.natAbs:Nat):Int) else ((Nat.gcd n.natAbs d.natAbs:Nat):Int)));have K:As (if d<0 then -((Nat.gcd n.natAbs d.natAbs:Nat):Int) else ((Nat.gcd n.natAbs d.natAbs:Nat):Int)) F G:=by rw[if_pos (RE j rfl)];exact f
 have m:(if d<0 then -((Nat.gcd n.natAbs d.natAbs:Nat):Int) else ((Nat.gcd n.natAbs d.natAbs:Nat):Int))≠0:=by rw[if_pos (RE j rfl)];have:=OU (n:=n) k;omega
 have J:CY n (if d<0 then -((Nat.gcd n.natAbs d.natAbs:Nat):Int) else ((Nat.gcd n.natAbs d.natAbs:Nat):Int))=q.num:=by rw[L];exact (Oi k).symm
 have I:CY d (if d<0 then -((Nat.gcd n.natAbs d.natAbs:Nat):Int) else ((Nat.gcd n.natAbs d.natAbs:Nat):Int))=(q.den:Int):=by rw[L];exact (Oh k).symm
 refine AB (r:= .agg [.bool u,.sl .u32 w]) H (O9 M K m a (by omega) (by have:=OT k j f;omega)) ?_;try conv=>cbv
 obtain⟨v,z,b⟩:=Al (CY d (if d<0 then -((Nat.gcd n.natAbs d.natAbs:Nat):Int) else ((Nat.gcd n.natAbs d.natAbs:Nat):Int)));refine AB (r:= .agg [.bool v,.sl .u32 z]) H (O9 j K m b (by omega) (by have:=OT k j f;omega)) ?_;try conv=>cbv
 refine g2 rfl ?_;exact AD ⟨⟨rfl,congrArg _ ((a.uniq D.num J).1.symm),congrArg _ ((a.uniq D.num J).2.symm),congrArg _ ((b.uniq D.den I).1.symm),congrArg _ ((b.uniq D.den I).2.symm),trivial⟩,trivial⟩
theorem H4 {q:Rat} (k: -9223372036854775808<=x/\x<9223372036854775808) (f:q=(x:Rat)) (h:Bn q c1 m1 c2 m2):CF 228 [.one (.int .i64 x)] (.agg (B5 c1 m1 c2 m2)):=by
 refine AJ Tryz.func228 fun E j=>?_
 conv=>cbv
 obtain⟨m,v,a⟩:=Al (x);refine AB j (NY k a) ?_;conv=>cbv
 obtain⟨u,w,b⟩:=Al (1);refine AB j (SE b) ?_;conv=>cbv
 exact AD ⟨⟨rfl,congrArg _ ((a.uniq h.num (by rw[f];rfl)).1.symm),congrArg _ ((a.uniq h.num (by rw[f];rfl)).2.symm),congrArg _ ((b.uniq h.den (by rw[f];rfl)).1.symm),congrArg _ ((b.uniq h.den (by rw[f];rfl)).2.symm),trivial⟩,trivial⟩
theorem Nc {q:Rat} {c:Int} (f:Bn q b1 l1 b2 l2) (hc:c=Ez q):CF 241 [.agg (B5 b1 l1 b2 l2)] (.one (.int .i64 c)):=by
 refine AJ Tryz.func241 fun E b=>?_
 conv=>cbv
 obtain⟨h,a⟩:=xI (CZ q.num);refine AB b (Ly f.num a) ?_;conv=>cbv
 exact AD ⟨⟨rfl,congrArg _ (by rw[hc,a];rfl),trivial⟩,trivial⟩
theorem cO {q p:Rat} (f:Bn q b1 l1 b2 l2) (u:CL q) (b:p= -q) (h:Bn p c1 m1 c2 m2):CF 371 [.agg (B5 b1 l1 b2 l2)] (.agg (B5 c1 m1 c2 m2)):=by
 refine AJ Tryz.func371 fun E m=>?_
 conv=>cbv
 obtain⟨j,k,a⟩:=Al (-q.num);refine AB (r:= .agg [.bool j,.sl .u32 k]) m (UL f.num (by have:=f.small u;omega) a) ?_;try conv=>cbv
 refine g2 rfl ?_;exact AD ⟨⟨rfl,congrArg _ ((a.uniq h.num (by rw[b];rfl)).1.symm),congrArg _ ((a.uniq h.num (by rw[b];rfl)).2.symm),congrArg _ ((f.den.uniq h.den (by rw[b];rfl)).1.symm),congrArg _ ((f.den.uniq h.den (by rw[b];rfl)).2.symm),trivial⟩,trivial⟩
theorem cI {p q:Rat} (a:Bn p b1 l1 b2 l2) (b:Bn q c1 m1 c2 m2) (v:CL p) (ht:CL q) (W:r=p+q) (D:Bn r d1 k1 d2 k2):CF 355 [.agg (B5 b1 l1 b2 l2),.agg (B5 c1 m1 c2 m2)] (.agg (B5 d1 k1 d2 k2)):=by
 refine AJ Tryz.func355 fun E z=>?_
 conv=>cbv
 obtain⟨b8,F⟩:=xB (decide ((p.den:Int)=1));refine AB z (Ky a.den F) ?_;conv=>cbv
 cases b8 <;> conv=>cbv
 ·obtain⟨K,P,f⟩:=Al (p.num*q.den);refine AB (r:= .agg [.bool K,.sl .u32 P]) z (Fy a.num b.den f (by have:=a.small v;have:=b.small ht;omega) (by have:=a.small v;have:=b.small ht;omega)) ?_;try conv=>cbv
  obtain⟨L,Q,h⟩:=Al (q.num*p.den);refine AB (r:= .agg [.bool L,.sl .u32 Q]) z (Fy b.num a.den h (by have:=a.small v;have:=b.small ht;omega) (by have:=a.small v;have:=b.small ht;omega)) ?_;try conv=>cbv
  obtain⟨M,S,m⟩:=Al (p.num*q.den+q.num*p.den);refine AB (r:= .agg [.bool M,.sl .u32 S]) z (Pg f h m (by have:=a.small v;have:=b.small ht;have:=a.num.Di b.den f rfl;omega) (by have:=a.small v;have:=b.small ht;have:=b.num.Di a.den h rfl;omega)) ?_;try conv=>cbv
  refine g2 rfl ?_;obtain⟨N,U,u⟩:=Al ((p.den:Int)*q.den);refine AB (r:= .agg [.bool N,.sl .u32 U]) z (Fy a.den b.den u (by have:=a.small v;have:=b.small ht;omega) (by have:=a.small v;have:=b.small ht;omega)) ?_;try conv=>cbv
  obtain⟨O,V,I,J,j⟩:=CH (r);refine AB (r:= .agg [.bool O,.sl .u32 V,.bool I,.sl .u32 J]) z (LA m u (Int.mul_ne_zero (Hf p) (Hf q)) (W.trans (QE p q)) j (by have:=a.small v;have:=b.small ht;have:=a.num.Di b.den f rfl;have:=b.num.Di a.den h rfl;have:=f.Nv h m rfl (k:=8000000000000) (by omega) (by omega);omega) (by have:=a.small v;have:=b.small ht;have:=a.den.Di b.den u rfl;omega)) ?_;try conv=>cbv
  refine g2 rfl ?_;exact AD ⟨⟨rfl,congrArg _ ((j.uniq D rfl).1.1.symm),congrArg _ ((j.uniq D rfl).1.2.symm),congrArg _ ((j.uniq D rfl).2.1.symm),congrArg _ ((j.uniq D rfl).2.2.symm),trivial⟩,trivial⟩
 obtain⟨a5,w⟩:=xB (decide ((q.den:Int)=1));refine AB z (Ky b.den w) ?_;conv=>cbv
 cases a5 <;> conv=>cbv
 ·obtain⟨K,P,f⟩:=Al (p.num*q.den);refine AB (r:= .agg [.bool K,.sl .u32 P]) z (Fy a.num b.den f (by have:=a.small v;have:=b.small ht;omega) (by have:=a.small v;have:=b.small ht;omega)) ?_;try conv=>cbv
  obtain⟨L,Q,h⟩:=Al (q.num*p.den);refine AB (r:= .agg [.bool L,.sl .u32 Q]) z (Fy b.num a.den h (by have:=a.small v;have:=b.small ht;omega) (by have:=a.small v;have:=b.small ht;omega)) ?_;try conv=>cbv
  obtain⟨M,S,m⟩:=Al (p.num*q.den+q.num*p.den);refine AB (r:= .agg [.bool M,.sl .u32 S]) z (Pg f h m (by have:=a.small v;have:=b.small ht;have:=a.num.Di b.den f rfl;omega) (by have:=a.small v;have:=b.small ht;have:=b.num.Di a.den h rfl;omega)) ?_;try conv=>cbv
  refine g2 rfl ?_;obtain⟨N,U,u⟩:=Al ((p.den:Int)*q.den);refine AB (r:= .agg [.bool N,.sl .u32 U]) z (Fy a.den b.den u (by have:=a.small v;have:=b.small ht;omega) (by have:=a.small v;have:=b.small ht;omega)) ?_;try conv=>cbv
  obtain⟨O,V,I,J,j⟩:=CH (r);refine AB (r:= .agg [.bool O,.sl .u32 V,.bool I,.sl .u32 J]) z (LA m u (Int.mul_ne_zero (Hf p) (Hf q)) (W.trans (QE p q)) j (by have:=a.small v;have:=b.small ht;have:=a.num.Di b.den f rfl;have:=b.num.Di a.den h rfl;have:=f.Nv h m rfl (k:=8000000000000) (by omega) (by omega);omega) (by have:=a.small v;have:=b.small ht;have:=a.den.Di b.den u rfl;omega)) ?_;try conv=>cbv
  refine g2 rfl ?_;exact AD ⟨⟨rfl,congrArg _ ((j.uniq D rfl).1.1.symm),congrArg _ ((j.uniq D rfl).1.2.symm),congrArg _ ((j.uniq D rfl).2.1.symm),congrArg _ ((j.uniq D rfl).2.2.symm),trivial⟩,trivial⟩
 obtain⟨a1,a2,G⟩:=Al (p.num+q.num);refine AB (r:= .agg [.bool a1,.sl .u32 a2]) z (Pg a.num b.num G (by have:=a.small v;have:=b.small ht;omega) (by have:=a.small v;have:=b.small ht;omega)) ?_;try conv=>cbv
 obtain⟨a6,a7,H⟩:=Al (1);refine AB z (SE H) ?_;conv=>cbv
 exact AD ⟨⟨rfl,congrArg _ ((G.uniq D.num (by rw[W];exact (JD (of_decide_eq_true F.symm) (of_decide_eq_true w.symm)).1.symm)).1.symm),congrArg _ ((G.uniq D.num (by rw[W];exact (JD (of_decide_eq_true F.symm) (of_decide_eq_true w.symm)).1.symm)).2.symm),congrArg _ ((H.uniq D.den (by rw[W,(JD (of_decide_eq_true F.symm) (of_decide_eq_true w.symm)).2];rfl)).1.symm),congrArg _ ((H.uniq D.den (by rw[W,(JD (of_decide_eq_true F.symm) (of_decide_eq_true w.symm)).2];rfl)).2.symm),trivial⟩,trivial⟩
theorem cN {p q:Rat} (b:Bn p b1 l1 b2 l2) (f:Bn q c1 m1 c2 m2) (m:CL p) (ht:CL q) (N:r=p*q) (u:Bn r d1 k1 d2 k2):CF 351 [.agg (B5 b1 l1 b2 l2),.agg (B5 c1 m1 c2 m2)] (.agg (B5 d1 k1 d2 k2)):=by
 refine AJ Tryz.func351 fun E M=>?_
 conv=>cbv
 obtain⟨V,v⟩:=xB (decide ((p.den:Int)=1));refine AB M (Ky b.den v) ?_;conv=>cbv
 cases V <;> conv=>cbv
 ·obtain⟨G,J,h⟩:=Al (p.num*q.num);refine AB (r:= .agg [.bool G,.sl .u32 J]) M (Fy b.num f.num h (by have:=b.small m;have:=f.small ht;omega) (by have:=b.small m;have:=f.small ht;omega)) ?_;try conv=>cbv
  obtain⟨H,K,j⟩:=Al ((p.den:Int)*q.den);refine AB (r:= .agg [.bool H,.sl .u32 K]) M (Fy b.den f.den j (by have:=b.small m;have:=f.small ht;omega) (by have:=b.small m;have:=f.small ht;omega)) ?_;try conv=>cbv
  obtain⟨I,L,D,F,a⟩:=CH (r);refine AB (r:= .agg [.bool I,.sl .u32 L,.bool D,.sl .u32 F]) M (LA h j (Int.mul_ne_zero (Hf p) (Hf q)) (N.trans (Ou p q)) a (by have:=b.small m;have:=f.small ht;have:=b.num.Di f.num h rfl;omega) (by have:=b.small m;have:=f.small ht;have:=b.den.Di f.den j rfl;omega)) ?_;try conv=>cbv
  refine g2 rfl ?_;exact AD ⟨⟨rfl,congrArg _ ((a.uniq u rfl).1.1.symm),congrArg _ ((a.uniq u rfl).1.2.symm),congrArg _ ((a.uniq u rfl).2.1.symm),congrArg _ ((a.uniq u rfl).2.2.symm),trivial⟩,trivial⟩
 obtain⟨Q,k⟩:=xB (decide ((q.den:Int)=1));refine AB M (Ky f.den k) ?_;conv=>cbv
 cases Q <;> conv=>cbv
 ·obtain⟨G,J,h⟩:=Al (p.num*q.num);refine AB (r:= .agg [.bool G,.sl .u32 J]) M (Fy b.num f.num h (by have:=b.small m;have:=f.small ht;omega) (by have:=b.small m;have:=f.small ht;omega)) ?_;try conv=>cbv
  obtain⟨H,K,j⟩:=Al ((p.den:Int)*q.den);refine AB (r:= .agg [.bool H,.sl .u32 K]) M (Fy b.den f.den j (by have:=b.small m;have:=f.small ht;omega) (by have:=b.small m;have:=f.small ht;omega)) ?_;try conv=>cbv
  obtain⟨I,L,D,F,a⟩:=CH (r);refine AB (r:= .agg [.bool I,.sl .u32 L,.bool D,.sl .u32 F]) M (LA h j (Int.mul_ne_zero (Hf p) (Hf q)) (N.trans (Ou p q)) a (by have:=b.small m;have:=f.small ht;have:=b.num.Di f.num h rfl;omega) (by have:=b.small m;have:=f.small ht;have:=b.den.Di f.den j rfl;omega)) ?_;try conv=>cbv
  refine g2 rfl ?_;exact AD ⟨⟨rfl,congrArg _ ((a.uniq u rfl).1.1.symm),congrArg _ ((a.uniq u rfl).1.2.symm),congrArg _ ((a.uniq u rfl).2.1.symm),congrArg _ ((a.uniq u rfl).2.2.symm),trivial⟩,trivial⟩
 obtain⟨O,P,w⟩:=Al (p.num*q.num);refine AB (r:= .agg [.bool O,.sl .u32 P]) M (Fy b.num f.num w (by have:=b.small m;have:=f.small ht;omega) (by have:=b.small m;have:=f.small ht;omega)) ?_;try conv=>cbv
 obtain⟨S,U,z⟩:=Al (1);refine AB M (SE z) ?_;conv=>cbv
 exact AD ⟨⟨rfl,congrArg _ ((w.uniq u.num (by rw[N];exact (mul_ones (of_decide_eq_true v.symm) (of_decide_eq_true k.symm)).1.symm)).1.symm),congrArg _ ((w.uniq u.num (by rw[N];exact (mul_ones (of_decide_eq_true v.symm) (of_decide_eq_true k.symm)).1.symm)).2.symm),congrArg _ ((z.uniq u.den (by rw[N,(mul_ones (of_decide_eq_true v.symm) (of_decide_eq_true k.symm)).2];rfl)).1.symm),congrArg _ ((z.uniq u.den (by rw[N,(mul_ones (of_decide_eq_true v.symm) (of_decide_eq_true k.symm)).2];rfl)).2.symm),trivial⟩,trivial⟩
theorem cK {p q:Rat} (j:Bn p b1 l1 b2 l2) (b:Bn q c1 m1 c2 m2) (k:CL p) (ht:CL q) (u:q≠0) (M:r=p/q) (K:Bn r d1 k1 d2 k2):CF 345 [.agg (B5 b1 l1 b2 l2),.agg (B5 c1 m1 c2 m2)] (.AF [(true,(B5 d1 k1 d2 k2)),(false,[.int .i64 0])]):=by
 refine AJ Tryz.func345 fun E J=>?_
 conv=>cbv
 obtain⟨L,m⟩:=xB (decide (q.num=0));refine AB J (XQ b.num m) ?_;conv=>cbv
 cases L <;> conv=>cbv
 ·obtain⟨z,G,f⟩:=Al (p.num*q.den);refine AB (r:= .agg [.bool z,.sl .u32 G]) J (Fy j.num b.den f (by have:=j.small k;have:=b.small ht;omega) (by have:=j.small k;have:=b.small ht;omega)) ?_;try conv=>cbv
  obtain⟨D,H,h⟩:=Al ((p.den:Int)*q.num);refine AB (r:= .agg [.bool D,.sl .u32 H]) J (Fy j.den b.num h (by have:=j.small k;have:=b.small ht;omega) (by have:=j.small k;have:=b.small ht;omega)) ?_;try conv=>cbv
  obtain⟨F,I,v,w,a⟩:=CH (r);refine AB (r:= .agg [.bool F,.sl .u32 I,.bool v,.sl .u32 w]) J (LA f h (Int.mul_ne_zero (Hf p) (mt Rat.num_eq_zero.1 u)) (M.trans (gP p q)) a (by have:=j.small k;have:=b.small ht;have:=j.num.Di b.den f rfl;omega) (by have:=j.small k;have:=b.small ht;have:=j.den.Di b.num h rfl;omega)) ?_;try conv=>cbv
  refine g2 rfl ?_;exact AD ⟨⟨rfl,congrArg _ ((a.uniq K rfl).1.1.symm),congrArg _ ((a.uniq K rfl).1.2.symm),congrArg _ ((a.uniq K rfl).2.1.symm),congrArg _ ((a.uniq K rfl).2.2.symm),trivial⟩,t2,trivial⟩
 exact absurd (Rat.num_eq_zero.1 (of_decide_eq_true m.symm)) u
theorem Sx (q:Rat):(q.num<0/\Ez q= -1)\/(q.num=0/\Ez q=0)\/(0<q.num/\Ez q=1):=GU q.num
theorem MN (q:Rat):0<(q.den:Int):=by have:=q.den_pos;omega
theorem Zt {p q:Rat} (h:Ez p<Ez q):p<q:=by
 rw[Rat.lt_iff];rcases Sx p with⟨a,e⟩ |⟨a,e⟩ |⟨a,e⟩ <;> rcases Sx q with⟨b,e'⟩ |⟨b,e'⟩ |⟨b,e'⟩ <;> rw[e,e'] at h <;> try omega
 ·rw[b,Int.zero_mul];exact Int.mul_neg_of_neg_of_pos a (MN q)
 ·exact Int.lt_trans (Int.mul_neg_of_neg_of_pos a (MN q)) (Int.mul_pos b (MN p))
 rw[a,Int.zero_mul];exact Int.mul_pos b (MN p)
theorem fz {p q:Rat} (h:p<q):HH p q= -1:=by unfold HH;rw[if_pos h]
theorem fy {p q:Rat} (h:q<p):HH p q=1:=by
 unfold HH;rw[if_neg (fun h'=>Int.lt_asymm ((Rat.lt_iff _ _).1 h) ((Rat.lt_iff _ _).1 h')),if_pos h]
theorem WE (p q:Rat):HH p q=Bw (p.num*q.den) (q.num*p.den):=by
 unfold HH Bw;simp only[Rat.lt_iff]
theorem cJ {p q:Rat} {c:Int} (h:Bn p b1 l1 b2 l2) (j:Bn q c1 m1 c2 m2) (G:CL p) (ht:CL q) (hc:c=HH p q):CF 312 [.agg (B5 b1 l1 b2 l2),.agg (B5 c1 m1 c2 m2)] (.one (.int .i64 c)):=by
 refine AJ Tryz.func312 fun E u=>?_
 conv=>cbv
 obtain⟨O,H⟩:=xI (Ez p);refine AB u (Nc h H) ?_;conv=>cbv
 obtain⟨M,v⟩:=xI (Ez q);refine AB u (Nc j v) ?_;conv=>cbv
 refine g2 rfl ?_;intro K k;conv=>cbv
 cases K <;> conv=>cbv
 ·have I:=C8 k;obtain⟨w,D,b⟩:=Al (p.num*q.den);refine AB (r:= .agg [.bool w,.sl .u32 D]) u (Fy h.num j.den b (by have:=h.small G;have:=j.small ht;omega) (by have:=h.small G;have:=j.small ht;omega)) ?_;try conv=>cbv
  obtain⟨z,F,f⟩:=Al (q.num*p.den);refine AB (r:= .agg [.bool z,.sl .u32 F]) u (Fy j.num h.den f (by have:=h.small G;have:=j.small ht;omega) (by have:=h.small G;have:=j.small ht;omega)) ?_;try conv=>cbv
  obtain⟨N,a⟩:=xI (Bw (p.num*q.den) (q.num*p.den));refine AB u (UD b f a) ?_;conv=>cbv
  refine g2 rfl ?_;exact AD ⟨⟨rfl,congrArg _ (by rw[hc,a,WE]),trivial⟩,trivial⟩
 have I:=DA k;intro L m;conv=>cbv
 cases L <;> conv=>cbv
 ·have J:=BB m;exact AD ⟨⟨rfl,congrArg _ (by rw[hc];exact fy (Zt (by omega))),trivial⟩,trivial⟩
 have J:=BC m;exact AD ⟨⟨rfl,congrArg _ (by rw[hc];exact fz (Zt (by omega))),trivial⟩,trivial⟩
theorem Kz {b:Bool} (h:As x b l) (h':As ((Bq x.toNat:Nat):Int) b' l'):l'.length<=l.length:=by
 rw[h.Bh,h'.Bh,Int.natAbs_natCast];exact EM (Nat.le_trans (Nat.le_trans (Nat.le_mul_self _) (MY x.toNat)) (by omega))
theorem ma {e:Int} (h:e=if x<0 then 7 else 0) (a:e≠0):decide (((Bq x.toNat:Nat):Int)*((Bq x.toNat:Nat):Int)=x)=false:=by
 have f:x<0:=by
  apply Classical.byContradiction;intro b;rw[if_neg b] at h;exact a h
 rw[show x.toNat=0 by omega];simp only[decide_eq_false_iff_not];intro h';rw[show Bq 0=0 from rfl] at h';omega
theorem gC (a b:Int):decide (a=b)=(Bw a b==0):=by
 unfold Bw;rw[Bool.eq_iff_iff,decide_eq_true_eq,beq_iff_eq]
 split
 ·omega
 split <;> omega
theorem PO (u:As x b1 l1) (v:As ((Bq x.toNat:Nat):Int) b2 l2) (hc:c=decide (((Bq x.toNat:Nat):Int)*((Bq x.toNat:Nat):Int)=x)) (s1:l1.length<=4000000000000):CF 369 [.agg (Bg b1 l1)] (.AF [(true,(Bg b2 l2)),(false,[.bool c])]):=by
 refine AJ Tryz.func369 fun E z=>?_
 conv=>cbv
 obtain⟨H,I,a⟩:=Al ((Bq x.toNat:Nat):Int);obtain⟨J,j⟩:=xI (if x<0 then 7 else 0);refine AB z (cj u a j (by omega)) ?_;conv=>cbv
 intro D h;conv=>cbv
 cases D <;> conv=>cbv
 ·have k:=Ao h;refine g2 rfl ?_;exact AD ⟨⟨rfl,congrArg _ ((a.uniq v rfl).1.symm),congrArg _ ((a.uniq v rfl).2.symm),trivial⟩,⟨rfl,congrArg _ (by rw[hc];exact ma j k),trivial⟩,trivial⟩
 have k:=BA h;obtain⟨m,q,f⟩:=Al (((Bq x.toNat:Nat):Int)*((Bq x.toNat:Nat):Int));refine AB (r:= .agg [.bool m,.sl .u32 q]) z (Fy a a f (by have:=Kz u a;omega) (by have:=Kz u a;omega)) ?_;try conv=>cbv
 obtain⟨G,b⟩:=xI (Bw (((Bq x.toNat:Nat):Int)*((Bq x.toNat:Nat):Int)) x);refine AB z (UD f u b) ?_;conv=>cbv
 intro F w;conv=>cbv
 refine g2 rfl ?_;exact AD ⟨⟨rfl,congrArg _ ((a.uniq v rfl).1.symm),congrArg _ ((a.uniq v rfl).2.symm),trivial⟩,⟨rfl,congrArg _ (by rw[hc,w,b];exact gC _ _),trivial⟩,trivial⟩
theorem cU {q:Rat} (z:Bn q b1 l1 b2 l2) (M:CL q) (J:0<=r) (L:r*r=q) (D:Bn r c1 m1 c2 m2):CF 328 [.agg (B5 b1 l1 b2 l2)] (.AF [(true,(B5 c1 m1 c2 m2)),(false,[.bool true])]):=by
 refine AJ Tryz.func328 fun E K=>?_
 conv=>cbv
 obtain⟨m,v,a⟩:=Al (r.num);have G:=aJ J L;refine AB (r:= .AF [(true,[.bool m,.sl .u32 v]),(false,[.bool true])]) K (PO z.num (by rw[G.1];exact a) (by rw[G.1];exact (decide_eq_true G.2).symm) (by have:=z.small M;omega)) ?_;try conv=>cbv
 obtain⟨u,w,b⟩:=Al (r.den:Int);have F:=aI J L;refine AB (r:= .AF [(true,[.bool u,.sl .u32 w]),(false,[.bool true])]) K (PO z.den (by rw[F.1];exact b) (by rw[F.1];exact (decide_eq_true F.2).symm) (by have:=z.small M;omega)) ?_;try conv=>cbv
 intro H f;conv=>cbv
 cases H <;> conv=>cbv
 ·have j:=DW f;intro I h;conv=>cbv
  cases I <;> conv=>cbv
  ·have k:=DW h;exact AD ⟨⟨rfl,congrArg _ ((a.uniq D.num rfl).1.symm),congrArg _ ((a.uniq D.num rfl).2.symm),congrArg _ ((b.uniq D.den rfl).1.symm),congrArg _ ((b.uniq D.den rfl).2.symm),trivial⟩,t2,trivial⟩
  have k:=DX h;exact absurd k (by decide)
 have j:=DX f;exact absurd j (by decide)
theorem cQ {q:Rat} (F:Bn q b1 l1 b2 l2) (L:CL q) (M:¬∃r:Rat,0<=r/\r*r=q):CF 328 [.agg (B5 b1 l1 b2 l2)] (.AF [(true,[.bool false,.sl .u32 [],.bool false,.sl .u32 []]),(false,[.bool false])]):=by
 refine AJ Tryz.func328 fun E K=>?_
 conv=>cbv
 obtain⟨v,z,j⟩:=Al (((Bq q.num.toNat:Nat):Int));obtain⟨G,a⟩:=xB (decide (((Bq q.num.toNat:Nat):Int)*((Bq q.num.toNat:Nat):Int)=q.num));refine AB (r:= .AF [(true,[.bool v,.sl .u32 z]),(false,[.bool G])]) K (PO F.num j a (by have:=F.small L;omega)) ?_;try conv=>cbv
 obtain⟨w,D,k⟩:=Al (((Bq (q.den:Int).toNat:Nat):Int));obtain⟨H,b⟩:=xB (decide (((Bq (q.den:Int).toNat:Nat):Int)*((Bq (q.den:Int).toNat:Nat):Int)=(q.den:Int)));refine AB (r:= .AF [(true,[.bool w,.sl .u32 D]),(false,[.bool H])]) K (PO F.den k b (by have:=F.small L;omega)) ?_;try conv=>cbv
 intro I f;conv=>cbv
 cases I <;> conv=>cbv
 ·have m:=DW f;intro J h;conv=>cbv
  cases J <;> conv=>cbv
  ·have u:=DW h;exact absurd (aH (of_decide_eq_true (a.symm.trans m)) (of_decide_eq_true (b.symm.trans u))) M
  have u:=DX h;exact AD ⟨⟨rfl,rfl,AU,rfl,AU,trivial⟩,t2,trivial⟩
 have m:=DX f;exact AD ⟨⟨rfl,rfl,AU,rfl,AU,trivial⟩,t2,trivial⟩
theorem bZ {q:Rat} (z:As n b1 l1) (D:As d b2 l2) (w:d≠0) (F:q=Rat.divInt n d) (v:Bn q c1 m1 c2 m2) (s1:l1.length<=17592186042000) (s2:l2.length<=17592186042000):CF 373 [.agg (Bg b1 l1),.agg (Bg b2 l2)] (.AF [(true,(B5 c1 m1 c2 m2)),(false,[.int .i64 0])]):=by
 refine AJ Tryz.func373 fun E u=>?_
 conv=>cbv
 obtain⟨G,I,f⟩:=Al (n);refine AB u (UN z (by omega) f) ?_;conv=>cbv
 obtain⟨H,J,b⟩:=Al (d);refine AB u (UN D (by omega) b) ?_;conv=>cbv
 refine g2 rfl ?_;refine AB (r:= .one (.bool false)) u (XQ b (by simp[w])) ?_;conv=>cbv
 obtain⟨k,m,h,j,a⟩:=CH (q);refine AB (r:= .agg [.bool k,.sl .u32 m,.bool h,.sl .u32 j]) u (LA f b w F a (by rw[(f.uniq z rfl).2];exact s1) (by rw[(b.uniq D rfl).2];exact s2)) ?_;try conv=>cbv
 exact AD ⟨⟨rfl,congrArg _ ((a.uniq v rfl).1.1.symm),congrArg _ ((a.uniq v rfl).1.2.symm),congrArg _ ((a.uniq v rfl).2.1.symm),congrArg _ ((a.uniq v rfl).2.2.symm),trivial⟩,t2,trivial⟩
theorem Pb {b:Bool} (a: -9223372036854775808<=x/\x<9223372036854775808) (h:As x b l):l.length<=2:=by
 rw[h.Bh];exact Gx (by omega)
theorem bV {q:Rat} (H: -9223372036854775808<=n/\n<9223372036854775808) (G: -9223372036854775808<=d/\d<9223372036854775808) (O:d≠0) (P:q=Rat.divInt n d) (D:Bn q c1 m1 c2 m2):CF 336 [.one (.int .i64 n),.one (.int .i64 d)] (.agg (B5 c1 m1 c2 m2)):=by
 refine AJ Tryz.func336 fun E z=>?_
 conv=>cbv
 obtain⟨Q,S,f⟩:=Al (n);refine AB z (NY H f) ?_;conv=>cbv
 obtain⟨K,M,b⟩:=Al (d);refine AB z (NY G b) ?_;conv=>cbv
 obtain⟨v,w,m,u,a⟩:=CH q;refine AB (r:= .AF [(true,[.bool v,.sl .u32 w,.bool m,.sl .u32 u]),(false,[.int .i64 0])]) z (bZ f b O P a (by have:=Pb H f;omega) (by have:=Pb G b;omega)) ?_;try conv=>cbv
 intro F h;conv=>cbv
 cases F <;> conv=>cbv
 ·have k:=C8 h;exact AD ⟨⟨rfl,congrArg _ ((a.uniq D rfl).1.1.symm),congrArg _ ((a.uniq D rfl).1.2.symm),congrArg _ ((a.uniq D rfl).2.1.symm),congrArg _ ((a.uniq D rfl).2.2.symm),trivial⟩,trivial⟩
 have k:=DA h;obtain⟨L,N,I,J,j⟩:=CH (((0:Int):Rat));refine AB z (H4 (by omega) rfl j) ?_;conv=>cbv
 exact absurd k (by decide)
theorem oX (f:As y b2 l2) (h:CZ y<=0:=by omega):IT b1 l1 b2 l2=false:=by
 apply Bool.eq_false_iff.2;intro h';obtain⟨q,b⟩:=TV.1 h';have e:y=(q.den:Int):=by rw[f.ET,b.den.ET]
 have:=MN q;rcases GU y with⟨a,e'⟩ |⟨a,e'⟩ |⟨a,e'⟩ <;> omega
theorem oW (f:true=Hx b1 l1) (j:true=Hx b2 l2) (m:As x b1 l1) (b:As y b2 l2) (h:0<CZ y) (hc:c=decide (((Nat.gcd x.natAbs y.natAbs:Nat):Int)=1)):IT b1 l1 b2 l2=c:=by
 have q:0<y:=by rcases GU y with⟨a,e'⟩ |⟨a,e'⟩ |⟨a,e'⟩ <;> omega
 have hb:b2=false:=by rw[b.neg];exact decide_eq_false (by omega)
 have k:l2≠[]:=fun e=>by have:=b.nil.1 e;omega
 unfold IT;rw[<-f,<-j,hb,decide_eq_true k,hc,m.nat,b.nat];simp only[Bool.true_and,Bool.not_false];rw[Bool.eq_iff_iff,decide_eq_true_eq,decide_eq_true_eq];omega
theorem UP (hc:c=IT b1 l1 b2 l2) (s1:l1.length<=17592186042000) (s2:l2.length<=17592186042000):CF 327 [.agg (B5 b1 l1 b2 l2)] (.one (.bool c)):=by
 refine AJ Tryz.func327 fun E k=>?_
 conv=>cbv
 obtain⟨G,a⟩:=xB (Hx b1 l1);refine AB k (UY a) ?_;conv=>cbv
 cases G <;> conv=>cbv
 ·exact AD ⟨⟨rfl,congrArg _ (by rw[hc];unfold IT;rw[<-a];rfl),trivial⟩,trivial⟩
 obtain⟨H,b⟩:=xB (Hx b2 l2);refine AB k (UY b) ?_;conv=>cbv
 cases H <;> conv=>cbv
 ·exact AD ⟨⟨rfl,congrArg _ (by rw[hc];unfold IT;rw[<-b];exact Bool.and_false _),trivial⟩,trivial⟩
 obtain⟨x,w⟩:=Lo.1 a.symm;obtain⟨y,q⟩:=Lo.1 b.symm;obtain⟨I,m⟩:=xI (CZ y);refine AB k (Ly q m) ?_;conv=>cbv
 intro v j;conv=>cbv
 cases v <;> conv=>cbv
 ·have u:=Cg j;exact AD ⟨⟨rfl,congrArg _ (by rw[hc];exact oX q),trivial⟩,trivial⟩
 have u:=Ch j;obtain⟨z,D,h⟩:=Al (((Nat.gcd x.natAbs y.natAbs:Nat):Int));refine AB k (UG w q h (by omega) (by omega)) ?_;conv=>cbv
 obtain⟨F,f⟩:=xB (decide (((Nat.gcd x.natAbs y.natAbs:Nat):Int)=1));refine AB k (Ky h f) ?_;conv=>cbv
 exact AD ⟨⟨rfl,congrArg _ (by rw[hc];exact oW a b w q (by omega) f),trivial⟩,trivial⟩
end Go.Abs
namespace Go.Abs
open Go.RowKit
variable {B X Z o:LR} {i n zn:Nat} {xs ys:List Rat}
theorem iF {A:LR} (w:A=X.take (X.length/2)) (z:B=X.drop (X.length/2)):CF 348 [.one (.sl AA X)] (.AF [(false,[.sl AA A]),(false,[.sl AA B])]):=by
 refine AJ Tryz.func348 fun E M=>?_
 conv=>cbv
 rintro P ⟨K,f6⟩;conv=>cbv
 intro Q L;conv=>cbv
 refine g2 ⟨by omega,by omega,i64 (by omega)⟩ ?_;intro O F;conv=>cbv
 refine AI ?_;intro q D;conv=>cbv
 intro N j;conv=>cbv
 rintro I ⟨u,f11⟩;conv=>cbv
 intro J v;conv=>cbv
 refine g2 ⟨by omega,by omega,i64 (by omega)⟩ ?_;intro H f;conv=>cbv
 refine AI ?_;rintro h m ⟨k,a⟩;conv=>cbv
 intro G b;conv=>cbv
 refine g2 rfl ?_;exact AD ⟨⟨rfl,congrArg _ (by rw[w,j,List.drop_zero,show q=X.length/2 by omega]),trivial⟩,⟨rfl,congrArg _ (by rw[z,b,a,f,List.take_length,show h=X.length/2 by omega]),trivial⟩,trivial⟩
theorem nZ {X A:List LR} (m:X≠[]) (u:A=X.take (X.length-1)) (v:X[X.length-1]? =some B):CF 346 [.one (.sl (.sl AA) X)] (.AF [(false,[.sl (.sl AA) A]),(false,[.sl AA B])]):=by
 refine AJ Tryz.func346 fun E I=>?_
 conv=>cbv
 rintro L ⟨F,f6⟩;conv=>cbv
 have G:0<X.length:=List.length_pos_iff.2 m;intro M H;conv=>cbv
 refine AN ?_;intro K z;conv=>cbv
 refine AI ?_;intro j w;conv=>cbv
 intro J f;conv=>cbv
 rintro D ⟨k,f11⟩;conv=>cbv
 intro b q;conv=>cbv
 refine AN ?_;obtain⟨h,a⟩:=AP (l:=X) (i:=(b).toNat) (by omega);refine⟨h,fun _=>⟨by omega,a⟩,?_⟩;try conv=>cbv
 refine g2 rfl ?_;exact AD ⟨⟨rfl,congrArg _ (by rw[u,f,List.drop_zero,show j=X.length-1 by omega]),trivial⟩,⟨rfl,congrArg _ (by rw[show b.toNat=X.length-1 by omega] at a;exact (Option.some.inj (v.symm.trans a))),trivial⟩,trivial⟩
theorem iH {Z:Nat->LR} (h:o.take i=Z i) (e:i=n):o.take n=Z n:=by rw[<-e];exact h
theorem PU {α:Type} {o:List α} {w:α} (h:i<o.length):(o.set i w).take (i+1)=o.take i++[w]:=by
 rw[List.take_succ_eq_append_getElem (by rw[List.length_set];exact h),List.take_set_of_le (Nat.le_refl _),List.getElem_set_self]
theorem o6 {a:Int} (ha:AW a n) (hn:n<=1000000) (hX:X=BD (List.replicate n 0)) (I:zn=X.length):CF 352 [.one (.int .i64 a)] (.one (.own AA X zn)):=by
 have ea:=ha.eq;refine AJ Tryz.func352 fun E hE=>?_
 conv=>cbv
 refine⟨fun _=>⟨by omega,by omega,by show _*64<=140737488355328;omega⟩,?_⟩;intro K (M:LR) G;have a7:=G.1;have H:M=List.replicate K (((false,[]),(false,[])):el AA):=G.2;have a1:M.length=K:=by rw[H,List.length_replicate]
 conv=>cbv
 intro n8 h8;have e8:=h8.eq;conv=>cbv
 refine .inr ?_;obtain⟨W,w⟩:=xJ fun vs P k=>∃(o:LR) (m i':Nat) (L i:Int),vs=[.one (.AS AA 6 0 0 m),.one (.int .i64 L),.one (.int .i64 i)]/\P=[.arr 0 AA o]/\(o.length=n/\m=n/\DM L n/\AW i i'/\i'<=n)/\o.take i'=BD (List.replicate i' 0)/\k=n-i'
 refine⟨[],[3,8,9],[6],W,⟨n-0,by rw[w];exact⟨M,K,0,n8,0,rfl,rfl,⟨by omega,by omega,⟨by omega,by omega⟩,Bb 0,by omega⟩,rfl,rfl⟩⟩,?_⟩;intro vs P a8 U;rw[w] at U;obtain⟨o,m,i',L,i,rfl,rfl,⟨ho,hm,S,hi,a5⟩,hinv,a6⟩:=U;conv=>cbv
 have eL:=S.eq;have ei:=hi.eq;intro N D;conv=>cbv
 cases N <;> conv=>cbv
 ·have J:=BB D;have b:o=X:=by rw[hX,<-iH (Z:=fun i=>BD (List.replicate i 0)) hinv (by omega),List.take_of_length_le (by omega)]
  exact AD ⟨⟨rfl,.inr (.inl ⟨_,_,by decide,rfl,rfl,by omega,rfl,Dn (b.symm) (by rw[I,<-b])⟩),trivial⟩,trivial⟩
 have J:=BC D;refine .inr ?_;obtain⟨u,v,j,q,h⟩:=CH (((0:Int):Rat));refine AB hE (H4 (by omega) rfl h) ?_;conv=>cbv
 refine AI ?_;intro F V;conv=>cbv
 refine⟨((u,v),(j,q)),fun _=>⟨by show _<List.length (α:=(el AA)) o;(first | omega | (simp;omega)),by first | exact t1 | exact t2 | exact t4 | simp[BV,Bm,cells]⟩,?_⟩;intro (z:LR) (f:z=List.set (α:=(el AA)) o F (((u,v),(j,q))));have Q:z.length=o.length:=by rw[f,List.length_set]
 conv=>cbv
 intro O a2;conv=>cbv
 refine AN ?_;refine⟨n-(i'+1),?_,?_⟩
 ·omega
 rw[w];refine⟨z,m,i'+1,L,O,rfl,rfl,⟨by omega,by omega,S,⟨by omega⟩,by omega⟩,?_,rfl⟩;rw[f,show F=i' by omega,PU (by omega),hinv,List.replicate_succ',BD,BD,List.map_append,<-h.rp];rfl
theorem Io {x:el AA} (b:X=BD xs) (f:D7 xs) (a:X[i]? =some x):∃q,Bn q x.1.1 x.1.2 x.2.1 x.2.2/\xs[i]? =some q/\CL q:=by
 rw[b,BD,List.getElem?_map] at a;cases h:xs[i]? with
 | none=>rw[h] at a;simp at a
 | some q=>
  rw[h] at a;have e:x=rp q:=(Option.some.inj a).symm;exact⟨q,by rw[e];exact HK q,rfl,f q (List.mem_of_getElem? h)⟩
theorem ZV (h:o.take i=BD (ys.take i)) (b:i=n) (a:o.length=n) (f:ys.length=n):BD ys=o.take n:=by
 rw[b] at h;rw[h,<-f,List.take_length]
theorem ZX {l:LR} {j:Nat} {q:Rat} {w:el AA} (h:o.take i=BD (ys.take i)) (b:i<o.length) (f:j=i) (k:l=o.set j w) (a:ys[i]? =some q) (hw:rp q=w):l.take (i+1)=BD (ys.take (i+1)):=by
 have m:i<ys.length:=Gv a;rw[k,f,PU b,h,List.take_succ,a,BD,BD,List.map_append,<-hw];rfl
theorem kM (hX:X=BD xs) (hs:D7 xs) (hn:xs.length<=1000000) (hZ:Z=BD (xs.map (- ·))):CF 333 [.one (.sl AA X)] (.one (.sl AA Z)):=by
 refine AJ Tryz.func333 fun E hE=>?_
 conv=>cbv
 have a7:X.length=xs.length:=by rw[hX,List.length_map]
 rintro n7 ⟨e7,f7⟩;conv=>cbv
 refine⟨fun _=>⟨by omega,by omega,by show _*64<=140737488355328;omega⟩,?_⟩;intro N (O:LR) G;have ab:=G.1;have H:O=List.replicate N (((false,[]),(false,[])):el AA):=G.2;have a5:O.length=N:=by rw[H,List.length_replicate]
 conv=>cbv
 intro P w;have a2:=w.eq;have f10:=w.le;conv=>cbv
 refine .inr ?_;obtain⟨J0,z⟩:=xJ fun vs V k=>∃(o:LR) (m i':Nat) (L i:Int),vs=[.one (.AS AA 8 0 0 m),.one (.sl AA X),.one (.int .i64 L),.one (.int .i64 i)]/\V=[.arr 0 AA o]/\(o.length=X.length/\m=X.length/\DM L X.length/\AW i i'/\i'<=X.length)/\o.take i'=BD ((xs.map (- ·)).take i')/\k=X.length-i'
 refine⟨[],[3,9,10,11],[8],J0,⟨X.length-0,by rw[z];exact⟨O,N,0,P,0,rfl,rfl,⟨by omega,by omega,w,Bb 0,by omega⟩,rfl,rfl⟩⟩,?_⟩;intro vs V ad hj;rw[z] at hj;obtain⟨o,m,i',L,i,rfl,rfl,⟨ho,hm,hL,hi,a8⟩,hinv,aa⟩:=hj;conv=>cbv
 have eL:=hL.eq;have ei:=hi.eq;intro Q F;conv=>cbv
 cases Q <;> conv=>cbv
 ·have M:=BB F;exact AD ⟨⟨rfl,.inl ⟨_,rfl,by omega,congrArg _ (by rw[hZ,hm,List.drop_zero];exact ZV hinv (by omega) (by omega) (by rw[List.length_map];omega))⟩,trivial⟩,trivial⟩
 have M:=BC F;refine .inr ?_;obtain⟨U,b⟩:=AP (l:=X) (i:=i') (by omega);refine⟨U,fun _=>⟨by omega,by rw[show (i).toNat=i' by omega];exact b⟩,?_⟩;try conv=>cbv
 obtain⟨q,hq,I,J⟩:=Io hX hs b;obtain⟨u,v,h,j,f⟩:=CH (-q);refine AB hE (cO hq J rfl f) ?_;conv=>cbv
 refine AI ?_;intro K a1;conv=>cbv
 refine⟨((u,v),(h,j)),fun _=>⟨by show _<List.length (α:=(el AA)) o;(first | omega | (simp;omega)),by first | exact t1 | exact t2 | exact t4 | simp[BV,Bm,cells]⟩,?_⟩;intro (D:LR) (a:D=List.set (α:=(el AA)) o K (((u,v),(h,j))));have W:D.length=o.length:=by rw[a,List.length_set]
 conv=>cbv
 intro S a6;conv=>cbv
 refine AN ?_;refine⟨X.length-(i'+1),?_,?_⟩
 ·omega
 rw[z];refine⟨D,m,i'+1,L,S,rfl,rfl,⟨by omega,by omega,hL,⟨by omega⟩,by omega⟩,?_,rfl⟩;exact ZX hinv (by omega) (by omega) a (by rw[List.getElem?_map,I];rfl) f.rp
theorem eo {Y:LR} (hX:X=BD xs) (hY:Y=BD ys) (hs:D7 xs) (ht:D7 ys) (Q:ys.length=xs.length) (hn:xs.length<=1000000) (hZ:Z=BD (List.zipWith (· + ·) xs ys)) (S:zn=Z.length):CF 304 [.one (.sl AA X),.one (.sl AA Y)] (.one (.own AA Z zn)):=by
 refine AJ Tryz.func304 fun E hE=>?_
 conv=>cbv
 have af:X.length=xs.length:=by rw[hX,List.length_map]
 have ag:Y.length=xs.length:=by rw[hY,List.length_map,Q]
 rintro n8 ⟨e8,f8⟩;conv=>cbv
 refine⟨fun _=>⟨by omega,by omega,by show _*64<=140737488355328;omega⟩,?_⟩;intro W (l9:LR) I;have aj:=I.1;have K:l9=List.replicate W (((false,[]),(false,[])):el AA):=I.2;have ad:l9.length=W:=by rw[K,List.length_replicate]
 conv=>cbv
 intro a1 J;have ab:=J.eq;conv=>cbv
 refine .inr ?_;obtain⟨J0,D⟩:=xJ fun vs bl k=>∃(o:LR) (m i':Nat) (L i:Int),vs=[.one (.sl AA X),.one (.sl AA Y),.one (.AS AA 9 0 0 m),.one (.int .i64 L),.one (.int .i64 i)]/\bl=[.arr 0 AA o]/\(o.length=X.length/\m=X.length/\AW L X.length/\AW i i'/\i'<=X.length)/\o.take i'=BD ((List.zipWith (· + ·) xs ys).take i')/\k=X.length-i'
 refine⟨[],[0,1,5,11,12],[9],J0,⟨X.length-0,by rw[D];exact⟨l9,W,0,a1,0,rfl,rfl,⟨by omega,by omega,⟨by omega⟩,Bb 0,by omega⟩,rfl,rfl⟩⟩,?_⟩;intro vs bl ak hj;rw[D] at hj;obtain⟨o,m,i',L,i,rfl,rfl,⟨ho,hm,hL,hi,ah⟩,hinv,ai⟩:=hj;conv=>cbv
 have eL:=hL.eq;have ei:=hi.eq;intro a2 G;conv=>cbv
 cases a2 <;> conv=>cbv
 ·have V:=BB G;have H:BD (List.zipWith (· + ·) xs ys)=o.take X.length:=ZV hinv (by omega) (by omega) (by rw[List.length_zipWith];omega);have a:Z=o:=by rw[hZ,H,List.take_of_length_le (by omega)]
  exact AD ⟨⟨rfl,.inr (.inl ⟨_,_,by decide,rfl,rfl,by omega,rfl,Dn (a) (by rw[S,a])⟩),trivial⟩,trivial⟩
 have V:=BC G;refine .inr ?_;obtain⟨a6,f⟩:=AP (l:=X) (i:=i') (by omega);refine⟨a6,fun _=>⟨by omega,by rw[show (i).toNat=i' by omega];exact f⟩,?_⟩;try conv=>cbv
 obtain⟨a7,h⟩:=AP (l:=Y) (i:=i') (by omega);refine⟨a7,fun _=>⟨by omega,by rw[show (i).toNat=i' by omega];exact h⟩,?_⟩;try conv=>cbv
 obtain⟨p,hp,M,O⟩:=Io hX hs f;obtain⟨q,hq,N,P⟩:=Io hY ht h;obtain⟨w,z,u,v,j⟩:=CH (p+q);refine AB hE (cI hp hq O P rfl j) ?_;conv=>cbv
 refine AI ?_;intro U aa;conv=>cbv
 refine⟨((w,z),(u,v)),fun _=>⟨by show _<List.length (α:=(el AA)) o;(first | omega | (simp;omega)),by first | exact t1 | exact t2 | exact t4 | simp[BV,Bm,cells]⟩,?_⟩;intro (F:LR) (b:F=List.set (α:=(el AA)) o U (((w,z),(u,v))));have a8:F.length=o.length:=by rw[b,List.length_set]
 conv=>cbv
 refine g2 rfl ?_;intro a5 ae;conv=>cbv
 refine AN ?_;refine⟨X.length-(i'+1),?_,?_⟩
 ·omega
 rw[D];refine⟨F,m,i'+1,L,a5,rfl,rfl,⟨by omega,by omega,hL,⟨by omega⟩,by omega⟩,?_,rfl⟩;exact ZX hinv (by omega) (by omega) b (by rw[List.getElem?_zipWith,M,N]) j.rp
end Go.Abs
namespace Go.Abs
open Go.RowKit
def Hi (p:el AA->Bool):Nat->LR->Int
 | _,[]=> -1
 | i,x::l=>if p x=true then i else Hi p (i+1) l
variable {Y:LR} {b1 b2 c:Bool} {g:FuncId} {i:Nat} {l1 l2:List UInt32} {ys:List Rat}
theorem XG {X:LR} {x:el AA} (h:X[i]? =some x):X.drop i=x::X.drop (i+1):=by
 have a:=Gv h;rw[List.drop_eq_getElem_cons a];rw[List.getElem?_eq_getElem a] at h;rw[Option.some.inj h]
theorem iJ {X:LR} {p:el AA->Bool} {x:el AA} (h:X[i]? =some x) (a:p x=false):Hi p i (X.drop i)=Hi p (i+1) (X.drop (i+1)):=by
 rw[XG h,Hi,a];rfl
theorem iI {X:LR} {p:el AA->Bool} {x:el AA} (h:X[i]? =some x) (a:p x=true):Hi p i (X.drop i)=i:=by
 rw[XG h,Hi,if_pos a]
theorem bX {X:LR} {p:el AA->Bool} {r:Int} (H:∀x∈X,CF g [.agg (cells AA x)] (.one (.bool (p x)))) (M:r=Hi p 0 X):CF 365 [.one (.sl AA X),.one (.fn g)] (.one (.int .i64 r)):=by
 refine AJ Tryz.func365 fun E G=>?_
 conv=>cbv
 intro P m;have S:=m.eq;have f7:=m.le;conv=>cbv
 refine .inr ?_;obtain⟨z,h⟩:=xJ fun vs D k=>∃(i':Nat) (L i:Int),vs=[.one (.sl AA X),.one (.fn g),.one (.int .i64 L),.one (.int .i64 i)]/\(DM L X.length/\AW i i'/\i'<=X.length)/\r=Hi p i' (X.drop i')/\k=X.length-i'
 refine⟨[],[0,1,7,8],[],z,⟨X.length-0,by rw[h];exact⟨0,P,0,rfl,⟨m,Bb 0,by omega⟩,M,rfl⟩⟩,?_⟩;intro vs D O w;rw[h] at w;obtain⟨i',L,i,rfl,⟨v,I,J⟩,hinv,K⟩:=w;conv=>cbv
 have U:=v.eq;have V:=I.eq;intro Q u;conv=>cbv
 cases Q <;> conv=>cbv
 ·have N:=BB u;exact AD ⟨⟨rfl,congrArg _ (by rw[hinv,List.drop_eq_nil_of_le (by omega)];rfl),trivial⟩,trivial⟩
 have N:=BC u;refine .inr ?_;obtain⟨a,b⟩:=AP (l:=X) (i:=i') (by omega);refine⟨a,fun _=>⟨by omega,by rw[show (i).toNat=i' by omega];exact b⟩,?_⟩;try conv=>cbv
 obtain⟨j,f⟩:=xB (p a);refine .inl ⟨[.agg [.bool a.1.1,.sl .u32 a.1.2,.bool a.2.1,.sl .u32 a.2.2]],.one (.bool j),fun _=>⟨t4,trivial⟩,fun _=>HT G ((by rw[f];exact H a (List.mem_of_getElem? b))),?_⟩;try conv=>cbv
 cases j <;> conv=>cbv
 ·intro q F;conv=>cbv
  refine AN ?_;refine⟨X.length-(i'+1),?_,?_⟩
  ·omega
  rw[h];refine⟨i'+1,L,q,rfl,⟨v,⟨by omega⟩,by omega⟩,?_,rfl⟩;rw[hinv,iJ b f.symm]
 exact AD ⟨⟨rfl,congrArg _ (by rw[hinv,iI b f.symm];omega),trivial⟩,trivial⟩
theorem XF (p:el AA->Bool):∀(X:LR) (i:Nat),decide (Hi p i X >= 0)=X.any p
 | [],i=>rfl
 | x::X,i=>by
  rw[Hi,List.any_cons]
  split
  ·rename_i h;rw[h,Bool.true_or];exact decide_eq_true (by omega)
  rename_i h;rw[Bool.eq_false_iff.2 h,Bool.false_or];exact XF p X (i+1)
theorem UF {X:LR} {p:el AA->Bool} (h:∀x∈X,CF g [.agg (cells AA x)] (.one (.bool (p x)))) (hc:c=X.any p):CF 324 [.one (.sl AA X),.one (.fn g)] (.one (.bool c)):=by
 refine AJ Tryz.func324 fun E f=>?_
 conv=>cbv
 obtain⟨k,a⟩:=xI (Hi p 0 X);refine AB f (bX h a) ?_;conv=>cbv
 intro j b;conv=>cbv
 exact AD ⟨⟨rfl,congrArg _ (by rw[hc,b,a];exact (XF p X 0).symm),trivial⟩,trivial⟩
theorem mw (q:Rat):decide (q≠0)=(Ez q !=0):=by
 have h:= @Rat.num_eq_zero q;rw[Bool.eq_iff_iff,decide_eq_true_eq,bne_iff_ne];rcases Sx q with⟨a,e⟩ |⟨a,e⟩ |⟨a,e⟩ <;> rw[e]
 ·exact⟨fun _=>by decide,fun _ b=>by rw[h.2 b] at a;omega⟩
 ·exact⟨fun b=>absurd (h.1 a) b,fun b=>absurd rfl b⟩
 exact⟨fun _=>by decide,fun _ b=>by rw[h.2 b] at a;omega⟩
theorem kQ {q:Rat} (h:Bn q b1 l1 b2 l2) (hc:c=decide (q≠0)):CF 325 [.agg (B5 b1 l1 b2 l2)] (.one (.bool c)):=by
 refine AJ Tryz.func325 fun E f=>?_
 conv=>cbv
 obtain⟨k,a⟩:=xI (Ez q);refine AB f (Nc h a) ?_;conv=>cbv
 intro j b;conv=>cbv
 exact AD ⟨⟨rfl,congrArg _ (by rw[hc,b,a];exact mw q),trivial⟩,trivial⟩
theorem ZU (q:Rat):decide (q≠0)= !(rp q).1.2.isEmpty:=by
 have h:(rp q).1.2=AQ q.num.natAbs:=rfl;rw[h,Bool.eq_iff_iff,decide_eq_true_eq,Bool.not_eq_true',List.isEmpty_eq_false_iff,Ne,Ne,F4,<-Rat.num_eq_zero];omega
theorem mb (xs:List Rat):(BD xs).any (fun x=> !x.1.2.isEmpty)= !decide (∀q∈xs,q=0):=by
 induction xs with
 | nil=>rfl
 | cons q xs a=>
  rw[BD,List.map_cons,List.any_cons,<-ZU,<-BD,a]
  by_cases h:q=0 <;> simp[h]
theorem oB {X:LR} {xs:List Rat} (b:X=BD xs):∀x∈X,CF 325 [.agg (cells AA x)] (.one (.bool (!x.1.2.isEmpty))):=by
 intro x a;rw[b] at a;obtain⟨q,_,rfl⟩:=List.mem_map.1 a;exact kQ (HK q) (ZU q).symm
theorem U9 {X:LR} {xs:List Rat} (b:X=BD xs) (hc:c=decide (∀q∈xs,q=0)):CF 253 [.one (.sl AA X)] (.one (.bool c)):=by
 refine AJ Tryz.func253 fun E h=>?_
 conv=>cbv
 obtain⟨j,a⟩:=xB (X.any (fun x=> !x.1.2.isEmpty));refine AB h (UF (oB b) a) ?_;conv=>cbv
 intro k f;conv=>cbv
 exact AD ⟨⟨rfl,congrArg _ (by rw[hc,f,a,b,mb,Bool.not_not]),trivial⟩,trivial⟩
theorem ir (hc:c= !IT b1 l1 b2 l2) (s1:l1.length<=17592186042000) (s2:l2.length<=17592186042000):CF 326 [.agg (B5 b1 l1 b2 l2)] (.one (.bool c)):=by
 refine AJ Tryz.func326 fun E f=>?_
 conv=>cbv
 obtain⟨h,a⟩:=xB (IT b1 l1 b2 l2);refine AB f (UP a s1 s2) ?_;conv=>cbv
 intro j b;conv=>cbv
 exact AD ⟨⟨rfl,congrArg _ (by rw[hc,b,a]),trivial⟩,trivial⟩
theorem fQ {X:LR} {xs:List Rat} (b:X=BD xs) (j:D7 xs):∀x∈X,CF 326 [.agg (cells AA x)] (.one (.bool false)):=by
 intro x a;rw[b] at a;obtain⟨q,f,rfl⟩:=List.mem_map.1 a;have h:=(HK q).small (j q f);exact ir (by rw[TV.2 ⟨q,HK q⟩];rfl) (by omega) (by omega)
theorem any_false (X:LR):false=X.any (fun _=>false):=by
 induction X with
 | nil=>rfl
 | cons x X a=>rw[List.any_cons,<-a];rfl
theorem Rz {X:LR} {xs:List Rat} {k:Int} {n:Nat} (b:X=BD xs) (q:D7 xs) (m:AW k n) (hc:c=decide (xs.length=n)):CF 257 [.one (.sl AA X),.one (.int .i64 k)] (.one (.bool c)):=by
 have D:=m.eq;refine AJ Tryz.func257 fun E j=>?_
 conv=>cbv
 rintro F ⟨z,f6⟩;conv=>cbv
 intro w h;conv=>cbv
 cases w <;> conv=>cbv
 ·have u:=Ao h;exact AD ⟨⟨rfl,congrArg _ (by have f:X.length=xs.length:=(by rw[b,List.length_map]);rw[hc];exact decide_eq_false (by omega)),trivial⟩,trivial⟩
 have u:=BA h;refine AB j (UF (p:=fun _=>false) (fQ b q) (any_false X)) ?_;conv=>cbv
 intro v a;conv=>cbv
 exact AD ⟨⟨rfl,congrArg _ (by have f:X.length=xs.length:=(by rw[b,List.length_map]);rw[hc,a];exact decide_eq_true (by omega)),trivial⟩,trivial⟩
theorem Fg {n i:Int} {k:Nat} (h:n=IntKind.i64.wrap (1*2^min i.toNat IntKind.i64.bits)) (e:i=k) (a:k<=20:=by omega):AW n (2^k):=by
 have b:=wrap_i64 h;have f:2^k<=2^20:=Nat.pow_le_pow_right (by decide) a
 have h3:((2:Int)^min i.toNat IntKind.i64.bits)=((2^k:Nat):Int):=by
  rw[e,Int.toNat_natCast,Nat.min_eq_left (Nat.le_trans a (by decide))];simp
 rw[h3,Int.one_mul] at b
 generalize 2^k=Q at*
 exact⟨by omega⟩
theorem J7 {X:List LR} {xs:List (List Rat)} {x:LR} (b:X=xs.map BD) (a:X[i]? =some x):∃y,x=BD y/\xs[i]? =some y:=by
 rw[b,List.getElem?_map] at a;cases h:xs[i]? with
 | none=>rw[h] at a;simp at a
 | some q=>rw[h] at a;exact⟨q,(Option.some.inj a).symm,rfl⟩
theorem SW {X:List LR} {xs:List (List Rat)} (G:X=xs.map BD) (ht:Nh xs) (hc:c=true):CF 256 [.one (.sl (.sl AA) X)] (.one (.bool c)):=by
 refine AJ Tryz.func256 fun E N=>?_
 conv=>cbv
 have O:X.length=xs.length:=by rw[G,List.length_map]
 have hl:=ht.Q9;intro n6 q;have e6:=q.eq;have f6:=q.le;conv=>cbv
 refine .inr ?_;obtain⟨I,b⟩:=xJ fun vs J k=>∃(i':Nat) (L i:Int),vs=[.one (.sl (.sl AA) X),.one (.int .i64 L),.one (.int .i64 i)]/\(DM L X.length/\AW i i'/\i'<=X.length)/\k=X.length-i'
 refine⟨[],[5,6,7],[],I,⟨X.length-0,by rw[b];exact⟨0,n6,0,rfl,⟨q,Bb 0,by omega⟩,rfl⟩⟩,?_⟩;intro vs J V H;rw[b] at H;obtain⟨i',L,i,rfl,⟨F,P,Q⟩,S⟩:=H;conv=>cbv
 have eL:=F.eq;have K:=P.eq;intro n8 D;conv=>cbv
 cases n8 <;> conv=>cbv
 ·have U:=BB D;exact AD ⟨⟨rfl,congrArg _ (hc),trivial⟩,trivial⟩
 have U:=BC D;refine .inr ?_;obtain⟨z,a⟩:=AP (l:=X) (i:=i') (by omega);refine⟨z,fun _=>⟨by omega,by rw[show (i).toNat=i' by omega];exact a⟩,?_⟩;try conv=>cbv
 intro W m;conv=>cbv
 refine AI ?_;obtain⟨x,u,h⟩:=J7 G a;refine AB (r:= .one (.bool true)) N (Rz u (ht.small x (List.mem_of_getElem? h)) (Fg m K) (by rw[ht.form i' x h];exact (decide_eq_true rfl).symm)) ?_;try conv=>cbv
 intro v f;conv=>cbv
 cases v <;> conv=>cbv
 ·have j:=DW f;intro w M;conv=>cbv
  refine AN ?_;refine⟨X.length-(i'+1),?_,?_⟩
  ·omega
  rw[b];exact⟨i'+1,L,w,rfl,⟨F,⟨by omega⟩,by omega⟩,rfl⟩
 have j:=DX f;exact absurd j (by decide)
theorem IW {X:List LR} {xs:List (List Rat)} (k:X=xs.map BD) (ht:Nh xs) (q:Y=BD ys) (u:D7 ys) (hc:c=decide (ys.length=2^xs.length)):CF 138 [.one (.sl (.sl AA) X),.one (.sl AA Y)] (.one (.bool c)):=by
 refine AJ Tryz.func138 fun E j=>?_
 conv=>cbv
 have h:X.length=xs.length:=by rw[k,List.length_map]
 have z:=ht.Q9;refine AB j (SW k ht rfl) ?_;conv=>cbv
 rintro v ⟨b,f10⟩;conv=>cbv
 intro w f;conv=>cbv
 refine AI ?_;obtain⟨m,a⟩:=xB (decide (ys.length=2^xs.length));refine AB j (Rz q u (Fg f (b.trans (congrArg _ h))) a) ?_;conv=>cbv
 exact AD ⟨⟨rfl,congrArg _ (hc.trans a.symm),trivial⟩,trivial⟩
theorem Q2 {X:List LR} {Z:LR} {xs:List (List Rat)} {m:List Rat} (u:X=xs.map BD) (ht:Nh xs) (v:Y=BD ys) (z:D7 ys) (j:ys.length=2^xs.length) (w:Z=BD m) (h:D7 m) (k:m.length=2^xs.length):CF 300 [.one (.sl (.sl AA) X),.one (.sl AA Y),.one (.sl AA Z)] (.one (.bool true)):=by
 refine AJ Tryz.func300 fun E q=>?_
 conv=>cbv
 have f:X.length=xs.length:=by rw[u,List.length_map]
 have G:=ht.Q9;refine AB q (IW u ht v z (decide_eq_true j).symm) ?_;conv=>cbv
 rintro D ⟨a,f13⟩;conv=>cbv
 intro F b;conv=>cbv
 refine AI ?_;refine AB q (Rz w h (Fg b (a.trans (congrArg _ f))) (decide_eq_true k).symm) ?_;conv=>cbv
 exact AD ⟨t2,trivial⟩
end Go.Abs
namespace Go.Abs
open Go.RowKit
variable {A B C X Y Z:LR} {R s t zn:Nat} {T:List LR} {p:Rat} {x y:Re}
theorem Jw {u:List (List Rat)} (h:AZ u) (f:In u x) (b:X=em u x) (a:x=0):CF 253 [.one (.sl AA X)] (.one (.bool true)):=
 U9 b (decide_eq_true ((MM h f).2 a)).symm
theorem Ih {u:List (List Rat)} (h:AZ u) (f:In u x) (b:X=em u x) (a:x≠0):CF 253 [.one (.sl AA X)] (.one (.bool false)):=
 U9 b (decide_eq_false (fun k=>a ((MM h f).1 k))).symm
theorem OZ {u:List (List Rat)} {r:List Rat} {p q:Re} (h:AZ (r::u)) (b:In u p) (f:In u q) (j:x=p+q*rt u r) (a:X=em (r::u) x) (k:A=em u p) (m:B=em u q):
  CF 348 [.one (.sl AA X)] (.AF [(false,[.sl AA A]),(false,[.sl AA B])]):=
 iF (by rw[a,k,Co h b f j]) (by rw[a,m,CP h b f j])
theorem Lm (r:List Rat) (u:List (List Rat)):tw (r::u)≠[]:=by rw[NU];simp
theorem TA {X A:List LR} {u:List (List Rat)} {r:List Rat} (a:X=tw (r::u)) (b:A=tw u) (f:B=BD r):
  CF 346 [.one (.sl (.sl AA) X)] (.AF [(false,[.sl (.sl AA) A]),(false,[.sl AA B])]):=
 nZ (by rw[a];exact Lm r u) (by rw[a,b,Dq]) (by rw[a,f,GA])
theorem Jc {n:Nat} (h:n<=16:=by omega):2^n<=1000000:=Nat.le_trans (DS h) (by decide)
theorem VE {u:List (List Rat)} (h:At R u) (j:X=em u x) (k:Y=em u y) (a:El u s x) (b:El u t y) (q:s<=60000000000000) (ht:t<=60000000000000) (m:Z=em u (x+y)) (f:zn=Z.length):
  CF 304 [.one (.sl AA X),.one (.sl AA Y)] (.one (.own AA Z zn)):=
 eo j k (a.CJ q) (b.CJ ht) (by rw[a.len,b.len]) (by rw[a.len];exact Jc h.ht) (by rw[m,Wd h.red a.mem b.mem]) f
theorem Nx {u:List (List Rat)} (h:At R u) (a:X=em u x) (b:Y=em u y) (k:El u s x) (m:El u t y) (j:s<=60000000000000) (ht:t<=60000000000000) (f:Z=em u (x+y)):
 CF 304 [.one (.sl AA X),.one (.sl AA Y)] (.one (.sl AA Z)):=DQ (VE h a b k m j ht f rfl)
theorem Oz {u:List (List Rat)} (h:At R u) (b:X=em u x) (a:El u s x) (j:s<=60000000000000) (f:Z=em u (-x)):
  CF 333 [.one (.sl AA X)] (.one (.sl AA Z)):=
 kM b (a.CJ j) (by rw[a.len];exact Jc h.ht) (by rw[f,We h.red a.mem])
theorem Pf {a:Int} {u:List (List Rat)} (h:At R u) (ha:AW a (2^u.length)) (f:Z=em u 0) (b:zn=Z.length):
  CF 352 [.one (.int .i64 a)] (.one (.own AA Z zn)):=
 o6 ha (Jc h.ht) (by rw[f,Qv h.red]) b
theorem Ff {x:el AA} (b:A=[rp p]) (a:A[0]? =some x):Bn p x.1.1 x.1.2 x.2.1 x.2.2:=by
 rw[b] at a;rw[<-Option.some.inj a];exact HK p
theorem j6 {q:Rat} (N:T=[]) (H:A=[rp p]) (I:B=[rp q]) (Q:CL p) (ht:CL q) (J:C=[rp (p*q)]) (z:zn=C.length):CF 301 [.one (.sl (.sl AA) T),.one (.sl AA A),.one (.sl AA B)] (.one (.own AA C zn)):=by
 refine AJ Tryz.func301 fun E M=>?_
 conv=>cbv
 refine .inr ?_;rintro S ⟨w,f16⟩;conv=>cbv
 intro D h;conv=>cbv
 cases D <;> conv=>cbv
 ·have j:=Ao h;exact absurd (by rw[w,N];rfl) j
 have j:=BA h;have K:A.length=1:=by rw[H];rfl
 have L:B.length=1:=by rw[I];rfl
 obtain⟨F,a⟩:=AP (l:=A) (i:=0) (by omega);refine⟨F,fun _=>⟨by omega,a⟩,?_⟩;try conv=>cbv
 obtain⟨G,b⟩:=AP (l:=B) (i:=0) (by omega);refine⟨G,fun _=>⟨by omega,b⟩,?_⟩;try conv=>cbv
 have O:=Ff H a;have P:=Ff I b;obtain⟨u,v,k,m,f⟩:=CH (p*q);refine AB M (cN O P Q ht rfl f) ?_;conv=>cbv
 refine⟨[((u,v),(k,m))],fun _=>⟨rfl,by decide,rfl,⟨rfl,by first | exact t1 | exact t2 | exact t4 | simp[BV,Bm,cells],trivial⟩⟩,.inl ?_⟩;try conv=>cbv
 refine g2 rfl ?_;exact AD ⟨⟨rfl,.inr (.inl ⟨_,_,by decide,rfl,rfl,rfl,rfl,Dn (by rw[J,f.rp]) (by rw[z,J];rfl)⟩),trivial⟩,trivial⟩
theorem kF {u:List (List Rat)} (h:At R u) (K:T≠[]) (D:A=em u x) (N:B=em u y) (H:In u x) (O:In u y) (J:x=0) (F:C=em u 0) (v:zn=C.length):CF 301 [.one (.sl (.sl AA) T),.one (.sl AA A),.one (.sl AA B)] (.one (.own AA C zn)):=by
 refine AJ Tryz.func301 fun E G=>?_
 conv=>cbv
 refine .inr ?_;rintro L ⟨I,f16⟩;conv=>cbv
 intro z f;conv=>cbv
 cases z <;> conv=>cbv
 ·have w:=Ao f;refine AB G (Jw h.red H D J) ?_;conv=>cbv
  have q:A.length=2^u.length:=by rw[D,Bl H]
  rintro M ⟨m,f34⟩;conv=>cbv
  obtain⟨j,a⟩:=xR (em u (0));obtain⟨k,b⟩:=xN j.length;refine AB (r:= .one (.own AA j k)) G (Pf h (AW.of (by rw[m,q])) a b) ?_;conv=>cbv
  exact AD ⟨⟨rfl,.inr (.inl ⟨_,_,by decide,rfl,rfl,b,rfl,Dn (by rw[F,a]) (by rw[v,F,<-a])⟩),trivial⟩,trivial⟩
 have w:=BA f;exact absurd (List.length_eq_zero_iff.1 (by omega)) K
theorem kG {u:List (List Rat)} (h:At R u) (M:T≠[]) (F:A=em u x) (L:B=em u y) (H:In u x) (N:In u y) (J:y=0) (K:x≠0) (G:C=em u 0) (w:zn=C.length):CF 301 [.one (.sl (.sl AA) T),.one (.sl AA A),.one (.sl AA B)] (.one (.own AA C zn)):=by
 refine AJ Tryz.func301 fun E v=>?_
 conv=>cbv
 refine .inr ?_;rintro O ⟨I,f16⟩;conv=>cbv
 intro D f;conv=>cbv
 cases D <;> conv=>cbv
 ·have z:=Ao f;refine AB v (Ih h.red H F K) ?_;conv=>cbv
  refine AB v (Jw h.red N L J) ?_;conv=>cbv
  have q:A.length=2^u.length:=by rw[F,Bl H]
  rintro P ⟨m,f34⟩;conv=>cbv
  obtain⟨j,a⟩:=xR (em u (0));obtain⟨k,b⟩:=xN j.length;refine AB (r:= .one (.own AA j k)) v (Pf h (AW.of (by rw[m,q])) a b) ?_;conv=>cbv
  exact AD ⟨⟨rfl,.inr (.inl ⟨_,_,by decide,rfl,rfl,b,rfl,Dn (by rw[G,a]) (by rw[w,G,<-a])⟩),trivial⟩,trivial⟩
 have z:=BA f;exact absurd (List.length_eq_zero_iff.1 (by omega)) M
def UJ (f:FuncId) (R:Nat) (u:List (List Rat)):Prop:=∀{T:List LR} {A B C:LR} {zn s t:Nat} {x y:Re},T=tw u->A=em u x->B=em u y->El u s x->El u t y->s+t+EE u.length R<=60000000000000->C=em u (x*y)->zn=C.length->
 CF f [.one (.sl (.sl AA) T),.one (.sl AA A),.one (.sl AA B)] (.one (.own AA C zn))
theorem kE {u:List (List Rat)} {r:List Rat} (h:At R (r::u)) (W:UJ 301 R u) (hT:T=tw (r::u)) (hA:A=em (r::u) x) (hB:B=em (r::u) y) (hx:El (r::u) s x) (hy:El (r::u) t y) (al:s+t+EE (r::u).length R<=60000000000000) (h0:x≠0) (h1:y≠0) (hC:C=em (r::u) (x*y)) (a8:zn=C.length):CF 301 [.one (.sl (.sl AA) T),.one (.sl AA A),.one (.sl AA B)] (.one (.own AA C zn)):=by
 obtain⟨p,q,a6,H,G⟩:=El.parts h.red hx;obtain⟨a,b,a7,ha,hb⟩:=El.parts h.red hy;have aj:EE (r::u).length R=2*EE u.length R+R+2:=rfl;have I:=El.DH h;have hR:=h.hR;have ak:=Cq h.red;refine AJ Tryz.func301 fun E j=>?_
 conv=>cbv
 refine .inr ?_;rintro an ⟨ai,f16⟩;conv=>cbv
 intro ab a1;conv=>cbv
 cases ab <;> conv=>cbv
 ·have aa:=Ao a1;refine AB j (Ih h.red hx.mem hA h0) ?_;conv=>cbv
  refine AB j (Ih h.red hy.mem hB h1) ?_;conv=>cbv
  obtain⟨ao,f⟩:=xV (tw u);obtain⟨aq,M⟩:=xR (BD r);refine AB j (TA hT f M) ?_;conv=>cbv
  obtain⟨ar,k⟩:=xR (em u p);obtain⟨au,m⟩:=xR (em u q);refine AB j (OZ h.red H.mem G.mem a6 hA k m) ?_;conv=>cbv
  obtain⟨av,v⟩:=xR (em u a);obtain⟨aw,w⟩:=xR (em u b);refine AB j (OZ h.red ha.mem hb.mem a7 hB v w) ?_;conv=>cbv
  obtain⟨ax,N⟩:=xR (em u (p*a));refine AB j (DQ (W f k v H ha (by omega) N rfl)) ?_;conv=>cbv
  obtain⟨ay,O⟩:=xR (em u (q*b));refine AB j (DQ (W f m w G hb (by omega) O rfl)) ?_;conv=>cbv
  obtain⟨az,P⟩:=xR (em u (q*b*AL u r));refine AB j (DQ (W f O (M.trans (Eu h.red)) (G.mul h.tail hb) I (by omega) P rfl)) ?_;conv=>cbv
  obtain⟨J,z⟩:=xR (em u (p*a+q*b*AL u r));obtain⟨ah,D⟩:=xN J.length;refine AB j (VE h.tail N P (H.mul h.tail ha) ((G.mul h.tail hb).mul h.tail I) (by omega) (by omega) z D) ?_;conv=>cbv
  obtain⟨aA,Q⟩:=xR (em u (p*b));refine AB j (DQ (W f k w H hb (by omega) Q rfl)) ?_;conv=>cbv
  obtain⟨aB,S⟩:=xR (em u (q*a));refine AB j (DQ (W f m v G ha (by omega) S rfl)) ?_;conv=>cbv
  obtain⟨K,F⟩:=xR (em u (p*b+q*a));refine AB j (Nx h.tail Q S (H.mul h.tail hb) (G.mul h.tail ha) (by omega) (by omega) F) ?_;conv=>cbv
  have ae:J.length=2^u.length:=by rw[z,Bl (DK (H.mul h.tail ha).mem ((G.mul h.tail hb).mul h.tail I).mem)]
  have af:K.length=2^u.length:=by rw[F,Bl (DK (H.mul h.tail hb).mem (G.mul h.tail ha).mem)]
  have ag:=DS h.tail.ht;refine .inl ⟨K,fun _=>⟨rfl,D,rfl,by show (J.length+K.length)*64<=140737488355328;(try simp only[List.length_take,List.length_drop]);omega⟩,?_⟩;intro (V:LR) ad U;have a2:V=(J:LR)++(K:LR):=U.1;have a5:ad=List.length (α:=(el AA)) V:=U.2;conv=>cbv
  have L:C=V:=by rw[hC,a2,z,F];exact Fp h.red (DK (H.mul h.tail ha).mem ((G.mul h.tail hb).mul h.tail I).mem) (DK (H.mul h.tail hb).mem (G.mul h.tail ha).mem) (by rw[a6,a7];clear W;grind)
  exact AD ⟨⟨rfl,.inr (.inl ⟨_,_,by decide,rfl,rfl,a5,rfl,Dn (L) (by rw[a8,L])⟩),trivial⟩,trivial⟩
 have aa:=BA a1;exact absurd (List.length_eq_zero_iff.1 (by omega)) (hT ▸ Lm r u)
theorem mulC {u:List (List Rat)} (h:At R u):UJ 301 R u:=by
 induction u with
 | nil=>
  intro T A B C zn s t x y v b f k m w j a;obtain⟨p,rfl⟩:=Cp.1 k.mem;obtain⟨q,rfl⟩:=Cp.1 m.mem;rw[EJ] at b f;rw[<-Re.ofRat_mul,EJ] at j;have F:=k.CJ (by omega);have G:=m.CJ (by omega);rw[De] at F G;exact j6 v b f (F _ List.mem_cons_self) (G _ List.mem_cons_self) j a
 | cons r u H=>
  intro T A B C zn s t x y v b f k m w j a
  by_cases z:x=0
  ·refine kF h (v ▸ Lm r u) b f k.mem m.mem z ?_ a;rw[j,z];congr 1;grind
  by_cases D:y=0
  ·refine kG h (v ▸ Lm r u) b f k.mem m.mem D z ?_ a;rw[j,D];congr 1;grind
  exact kE h (H h.tail) v b f k m w z D j a
theorem Mq {u:List (List Rat)} (h:At R u) (k:T=tw u) (b:A=em u x) (f:B=em u y) (m:El u s x) (q:El u t y) (a:s+t+EE u.length R<=60000000000000) (j:C=em u (x*y)):
 CF 301 [.one (.sl (.sl AA) T),.one (.sl AA A),.one (.sl AA B)] (.one (.sl AA C)):=DQ (mulC h k b f m q a j rfl)
end Go.Abs
