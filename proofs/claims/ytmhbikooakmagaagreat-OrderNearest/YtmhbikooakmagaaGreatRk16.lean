/- Part 17 of a proof. Conditions: each theorem's own. -/
import Derived.Test.YtmhbikooakmagaaGreatRk13
set_option linter.all false
set_option maxHeartbeats 8000000
set_option maxRecDepth 20000
open Go.Proofs
namespace Go.Abs
open Go.RowKit
variable {b' b1 b2 c c1 c2 d1 d2:Bool} {d n x y:Int} {k1 k2 l l' l1 l2 m1 m2:List UInt32} {r:Rat}
theorem Wz {b:Bool} (h:Ad x b l) (f:c=decide (x=0)):CF 374 [.agg (BD b l)] (.one (.bool c)):=by
 refine AJ Tryz.func374 fun E k=>?_
 conv=>cbv
 rintro m ⟨j,f5⟩;conv=>cbv
 intro q a;conv=>cbv
 exact AD ⟨⟨rfl,congrArg _ (by rw[f,a,Bool.eq_iff_iff];simp only[decide_eq_true_eq,beq_iff_eq];rw[<-h.FF];omega),trivial⟩,trivial⟩
theorem KN {b:Bool} (m:Ad x b l) (k:c=decide (x=1)):CF 367 [.agg (BD b l)] (.one (.bool c)):=by
 refine AJ Tryz.func367 fun E H=>?_
 conv=>cbv
 intro F z;conv=>cbv
 cases F <;> conv=>cbv
 ·have u:=C3 z;exact AD ⟨⟨rfl,congrArg _ (by rw[k];exact (Rp m u).symm),trivial⟩,trivial⟩
 have u:=C4 z;rintro I ⟨G,f9⟩;conv=>cbv
 intro v f;conv=>cbv
 cases v <;> conv=>cbv
 ·have q:=Ah f;exact AD ⟨⟨rfl,congrArg _ (by rw[k];exact (YK m (by omega)).symm),trivial⟩,trivial⟩
 have q:=Aj f;obtain⟨w,a⟩:=AK (l:=l) (i:=0) (by omega);refine⟨w,fun _=>⟨by omega,a⟩,?_⟩;try conv=>cbv
 intro n16 h;have D:=h.eq;have f16:=h.lt;conv=>cbv
 intro n17 j;conv=>cbv
 exact AD ⟨⟨rfl,congrArg _ (by rw[k,j,<-Rr m u (by omega) a,Bool.eq_iff_iff];simp only[decide_eq_true_eq,beq_iff_eq];omega),trivial⟩,trivial⟩
theorem Rq {b:Bool} (f:Ad 1 b l):CF 303 [] (.agg (BD b l)):=by
 refine AJ Tryz.func303 fun E h=>?_
 conv=>cbv
 obtain⟨j,k,a⟩:=Ac (1);refine AB h (Mu (by omega) a) ?_;conv=>cbv
 exact AD ⟨⟨rfl,congrArg _ ((a.uniq f rfl).1.symm),congrArg _ ((a.uniq f rfl).2.symm),trivial⟩,trivial⟩
theorem Oi {b3:Bool} {l3:List UInt32} (j:Ad x b1 l1) (q:Ad y b2 l2) (k:y≠0) (h:Ad (CI x y) b3 l3) (s1:l1.length<=17592186042000) (s2:l2.length<=17592186042000):CF 392 [.agg (BD b1 l1),.agg (BD b2 l2)] (.agg (BD b3 l3)):=by
 refine AJ Tryz.func392 fun E m=>?_
 conv=>cbv
 obtain⟨D,b⟩:=xB (decide (y=1));refine AB m (KN q b) ?_;conv=>cbv
 cases D <;> conv=>cbv
 ·obtain⟨w,z,a⟩:=Ac (CI x y);obtain⟨u,v,f⟩:=Ac (Gl x y);refine AB m (bH j q k a f (by omega) (by omega)) ?_;conv=>cbv
  exact AD ⟨⟨rfl,congrArg _ ((a.uniq h rfl).1.symm),congrArg _ ((a.uniq h rfl).2.symm),trivial⟩,trivial⟩
 exact AD ⟨⟨rfl,congrArg _ ((h.uniq j (by rw[of_decide_eq_true b.symm];exact Vj x)).1),congrArg _ ((h.uniq j (by rw[of_decide_eq_true b.symm];exact Vj x)).2),trivial⟩,trivial⟩
theorem Ll {b:Bool} (a:d≠0) (h:Ad d b l) (h':Ad ((Nat.gcd n.natAbs d.natAbs:Nat):Int) b' l'):l'.length<=l.length:=by
 rw[h.BC,h'.BC,Int.natAbs_natCast];exact D1 (Nat.le_of_dvd (by omega) (Nat.gcd_dvd_right _ _))
theorem N5 {b:Bool} (a:d≠0) (h:Ad d b l) (h':Ad (-((Nat.gcd n.natAbs d.natAbs:Nat):Int)) b' l'):l'.length<=l.length:=by
 rw[h.BC,h'.BC,Int.natAbs_neg,Int.natAbs_natCast];exact D1 (Nat.le_of_dvd (by omega) (Nat.gcd_dvd_right _ _))
theorem N6 (a:d≠0):((Nat.gcd n.natAbs d.natAbs:Nat):Int)≠0:=by
 have:=Nat.gcd_pos_of_pos_right n.natAbs (n:=d.natAbs) (by omega);omega
theorem Q4 {b:Bool} (h:Ad d b l) (e:b=true):d<0:=by
 have:=h.neg;rw[e] at this;simpa using this.symm
theorem Q3 {b:Bool} (h:Ad d b l) (e:b=false):¬d<0:=by
 have:=h.neg;rw[e] at this;simpa using this.symm
theorem KU {q:Rat} (M:Ad n b1 l1) (j:Ad d b2 l2) (k:d≠0) (L:q=Rat.divInt n d) (D:BH q c1 m1 c2 m2) (s1:l1.length<=17592186042000) (s2:l2.length<=17592186042000):CF 375 [.agg (BD b1 l1),.agg (BD b2 l2)] (.agg (BS c1 m1 c2 m2)):=by
 refine AJ Tryz.func375 fun E H=>?_
 conv=>cbv
 obtain⟨N,O,h⟩:=Ac (((Nat.gcd n.natAbs d.natAbs:Nat):Int));refine AB H (TD M j h (by omega) (by omega)) ?_;conv=>cbv
 refine .inr ?_;cases b2 <;> conv=>cbv
 ·obtain⟨u,w,a⟩:=Ac (CI n (if d<0 then -((Nat.gcd n.natAbs d.natAbs:Nat):Int) else ((Nat.gcd n.natAbs d.natAbs:Nat):Int)));have K:Ad (if d<0 then -((Nat.gcd n.natAbs d.natAbs:Nat):Int) else ((Nat.gcd n.natAbs d.natAbs:Nat):Int)) N O:=by rw[if_neg (Q3 j rfl)];exact h
  have m:(if d<0 then -((Nat.gcd n.natAbs d.natAbs:Nat):Int) else ((Nat.gcd n.natAbs d.natAbs:Nat):Int))≠0:=by rw[if_neg (Q3 j rfl)];have:=N6 (n:=n) k;omega
  have J:CI n (if d<0 then -((Nat.gcd n.natAbs d.natAbs:Nat):Int) else ((Nat.gcd n.natAbs d.natAbs:Nat):Int))=q.num:=by rw[L];exact (OO k).symm
  have I:CI d (if d<0 then -((Nat.gcd n.natAbs d.natAbs:Nat):Int) else ((Nat.gcd n.natAbs d.natAbs:Nat):Int))=(q.den:Int):=by rw[L];exact (ON k).symm
  refine AB (r:= .agg [.bool u,.sl .u32 w]) H (Oi M K m a (by omega) (by have:=Ll k j h;omega)) ?_;try conv=>cbv
  obtain⟨v,z,b⟩:=Ac (CI d (if d<0 then -((Nat.gcd n.natAbs d.natAbs:Nat):Int) else ((Nat.gcd n.natAbs d.natAbs:Nat):Int)));refine AB (r:= .agg [.bool v,.sl .u32 z]) H (Oi j K m b (by omega) (by have:=Ll k j h;omega)) ?_;try conv=>cbv
  refine g2 rfl ?_;exact AD ⟨⟨rfl,congrArg _ ((a.uniq D.num J).1.symm),congrArg _ ((a.uniq D.num J).2.symm),congrArg _ ((b.uniq D.den I).1.symm),congrArg _ ((b.uniq D.den I).2.symm),trivial⟩,trivial⟩
 obtain⟨F,G,f⟩:=Ac (-((Nat.gcd n.natAbs d.natAbs:Nat):Int));refine AB (r:= .agg [.bool F,.sl .u32 G]) H (TO h (by have:=Ll k j h;omega) f) ?_;try conv=>cbv
 obtain⟨u,w,a⟩:=Ac (CI n (if d<0 then -((Nat.gcd n.natAbs d.natAbs:Nat):Int) else ((Nat.gcd n.natAbs d.natAbs:Nat):Int)));have K:Ad (if d<0 then -((Nat.gcd n.natAbs d.natAbs:Nat):Int) else ((Nat.gcd n.natAbs d.natAbs:Nat):Int)) F G:=by rw[if_pos (Q4 j rfl)];exact f
 have m:(if d<0 then -((Nat.gcd n.natAbs d.natAbs:Nat):Int) else ((Nat.gcd n.natAbs d.natAbs:Nat):Int))≠0:=by rw[if_pos (Q4 j rfl)];have:=N6 (n:=n) k;omega
 have J:CI n (if d<0 then -((Nat.gcd n.natAbs d.natAbs:Nat):Int) else ((Nat.gcd n.natAbs d.natAbs:Nat):Int))=q.num:=by rw[L];exact (OO k).symm
 have I:CI d (if d<0 then -((Nat.gcd n.natAbs d.natAbs:Nat):Int) else ((Nat.gcd n.natAbs d.natAbs:Nat):Int))=(q.den:Int):=by rw[L];exact (ON k).symm
 refine AB (r:= .agg [.bool u,.sl .u32 w]) H (Oi M K m a (by omega) (by have:=N5 k j f;omega)) ?_;try conv=>cbv
 obtain⟨v,z,b⟩:=Ac (CI d (if d<0 then -((Nat.gcd n.natAbs d.natAbs:Nat):Int) else ((Nat.gcd n.natAbs d.natAbs:Nat):Int)));refine AB (r:= .agg [.bool v,.sl .u32 z]) H (Oi j K m b (by omega) (by have:=N5 k j f;omega)) ?_;try conv=>cbv
 refine g2 rfl ?_;exact AD ⟨⟨rfl,congrArg _ ((a.uniq D.num J).1.symm),congrArg _ ((a.uniq D.num J).2.symm),congrArg _ ((b.uniq D.den I).1.symm),congrArg _ ((b.uniq D.den I).2.symm),trivial⟩,trivial⟩
theorem G4 {q:Rat} (k: -9223372036854775808<=x/\x<9223372036854775808) (f:q=(x:Rat)) (h:BH q c1 m1 c2 m2):CF 228 [.one (.int .i64 x)] (.agg (BS c1 m1 c2 m2)):=by
 refine AJ Tryz.func228 fun E j=>?_
 conv=>cbv
 obtain⟨m,v,a⟩:=Ac (x);refine AB j (Mu k a) ?_;conv=>cbv
 obtain⟨u,w,b⟩:=Ac (1);refine AB j (Rq b) ?_;conv=>cbv
 exact AD ⟨⟨rfl,congrArg _ ((a.uniq h.num (by rw[f];rfl)).1.symm),congrArg _ ((a.uniq h.num (by rw[f];rfl)).2.symm),congrArg _ ((b.uniq h.den (by rw[f];rfl)).1.symm),congrArg _ ((b.uniq h.den (by rw[f];rfl)).2.symm),trivial⟩,trivial⟩
theorem LA {q:Rat} {c:Int} (h:BH q b1 l1 b2 l2) (f:c=DR q):CF 241 [.agg (BS b1 l1 b2 l2)] (.one (.int .i64 c)):=by
 refine AJ Tryz.func241 fun E b=>?_
 conv=>cbv
 obtain⟨j,a⟩:=xI (CE q.num);refine AB b (LB h.num a) ?_;conv=>cbv
 exact AD ⟨⟨rfl,congrArg _ (by rw[f,a];rfl),trivial⟩,trivial⟩
theorem bh {q p:Rat} (f:BH q b1 l1 b2 l2) (hs:Bu q) (b:p= -q) (h:BH p c1 m1 c2 m2):CF 371 [.agg (BS b1 l1 b2 l2)] (.agg (BS c1 m1 c2 m2)):=by
 refine AJ Tryz.func371 fun E m=>?_
 conv=>cbv
 obtain⟨j,k,a⟩:=Ac (-q.num);refine AB (r:= .agg [.bool j,.sl .u32 k]) m (TO f.num (by have:=f.small hs;omega) a) ?_;try conv=>cbv
 refine g2 rfl ?_;exact AD ⟨⟨rfl,congrArg _ ((a.uniq h.num (by rw[b];rfl)).1.symm),congrArg _ ((a.uniq h.num (by rw[b];rfl)).2.symm),congrArg _ ((f.den.uniq h.den (by rw[b];rfl)).1.symm),congrArg _ ((f.den.uniq h.den (by rw[b];rfl)).2.symm),trivial⟩,trivial⟩
theorem ba {p q:Rat} (a:BH p b1 l1 b2 l2) (b:BH q c1 m1 c2 m2) (hs:Bu p) (ht:Bu q) (V:r=p+q) (z:BH r d1 k1 d2 k2):CF 355 [.agg (BS b1 l1 b2 l2),.agg (BS c1 m1 c2 m2)] (.agg (BS d1 k1 d2 k2)):=by
 refine AJ Tryz.func355 fun E w=>?_
 conv=>cbv
 obtain⟨b8,D⟩:=xB (decide ((p.den:Int)=1));refine AB w (KN a.den D) ?_;conv=>cbv
 cases b8 <;> conv=>cbv
 ·obtain⟨J,O,f⟩:=Ac (p.num*q.den);refine AB (r:= .agg [.bool J,.sl .u32 O]) w (Ex a.num b.den f (by have:=a.small hs;have:=b.small ht;omega) (by have:=a.small hs;have:=b.small ht;omega)) ?_;try conv=>cbv
  obtain⟨K,P,h⟩:=Ac (q.num*p.den);refine AB (r:= .agg [.bool K,.sl .u32 P]) w (Ex b.num a.den h (by have:=a.small hs;have:=b.small ht;omega) (by have:=a.small hs;have:=b.small ht;omega)) ?_;try conv=>cbv
  obtain⟨L,Q,m⟩:=Ac (p.num*q.den+q.num*p.den);refine AB (r:= .agg [.bool L,.sl .u32 Q]) w (PM f h m (by have:=a.small hs;have:=b.small ht;have:=a.num.DJ b.den f rfl;omega) (by have:=a.small hs;have:=b.small ht;have:=b.num.DJ a.den h rfl;omega)) ?_;try conv=>cbv
  refine g2 rfl ?_;obtain⟨M,S,u⟩:=Ac ((p.den:Int)*q.den);refine AB (r:= .agg [.bool M,.sl .u32 S]) w (Ex a.den b.den u (by have:=a.small hs;have:=b.small ht;omega) (by have:=a.small hs;have:=b.small ht;omega)) ?_;try conv=>cbv
  obtain⟨N,U,H,I,j⟩:=Be (r);refine AB (r:= .agg [.bool N,.sl .u32 U,.bool H,.sl .u32 I]) w (KU m u (Int.mul_ne_zero (GX p) (GX q)) (V.trans (Px p q)) j (by have:=a.small hs;have:=b.small ht;have:=a.num.DJ b.den f rfl;have:=b.num.DJ a.den h rfl;have:=f.NM h m rfl (k:=8000000000000) (by omega) (by omega);omega) (by have:=a.small hs;have:=b.small ht;have:=a.den.DJ b.den u rfl;omega)) ?_;try conv=>cbv
  refine g2 rfl ?_;exact AD ⟨⟨rfl,congrArg _ ((j.uniq z rfl).1.1.symm),congrArg _ ((j.uniq z rfl).1.2.symm),congrArg _ ((j.uniq z rfl).2.1.symm),congrArg _ ((j.uniq z rfl).2.2.symm),trivial⟩,trivial⟩
 obtain⟨a2,v⟩:=xB (decide ((q.den:Int)=1));refine AB w (KN b.den v) ?_;conv=>cbv
 cases a2 <;> conv=>cbv
 ·obtain⟨J,O,f⟩:=Ac (p.num*q.den);refine AB (r:= .agg [.bool J,.sl .u32 O]) w (Ex a.num b.den f (by have:=a.small hs;have:=b.small ht;omega) (by have:=a.small hs;have:=b.small ht;omega)) ?_;try conv=>cbv
  obtain⟨K,P,h⟩:=Ac (q.num*p.den);refine AB (r:= .agg [.bool K,.sl .u32 P]) w (Ex b.num a.den h (by have:=a.small hs;have:=b.small ht;omega) (by have:=a.small hs;have:=b.small ht;omega)) ?_;try conv=>cbv
  obtain⟨L,Q,m⟩:=Ac (p.num*q.den+q.num*p.den);refine AB (r:= .agg [.bool L,.sl .u32 Q]) w (PM f h m (by have:=a.small hs;have:=b.small ht;have:=a.num.DJ b.den f rfl;omega) (by have:=a.small hs;have:=b.small ht;have:=b.num.DJ a.den h rfl;omega)) ?_;try conv=>cbv
  refine g2 rfl ?_;obtain⟨M,S,u⟩:=Ac ((p.den:Int)*q.den);refine AB (r:= .agg [.bool M,.sl .u32 S]) w (Ex a.den b.den u (by have:=a.small hs;have:=b.small ht;omega) (by have:=a.small hs;have:=b.small ht;omega)) ?_;try conv=>cbv
  obtain⟨N,U,H,I,j⟩:=Be (r);refine AB (r:= .agg [.bool N,.sl .u32 U,.bool H,.sl .u32 I]) w (KU m u (Int.mul_ne_zero (GX p) (GX q)) (V.trans (Px p q)) j (by have:=a.small hs;have:=b.small ht;have:=a.num.DJ b.den f rfl;have:=b.num.DJ a.den h rfl;have:=f.NM h m rfl (k:=8000000000000) (by omega) (by omega);omega) (by have:=a.small hs;have:=b.small ht;have:=a.den.DJ b.den u rfl;omega)) ?_;try conv=>cbv
  refine g2 rfl ?_;exact AD ⟨⟨rfl,congrArg _ ((j.uniq z rfl).1.1.symm),congrArg _ ((j.uniq z rfl).1.2.symm),congrArg _ ((j.uniq z rfl).2.1.symm),congrArg _ ((j.uniq z rfl).2.2.symm),trivial⟩,trivial⟩
 obtain⟨W,a1,F⟩:=Ac (p.num+q.num);refine AB (r:= .agg [.bool W,.sl .u32 a1]) w (PM a.num b.num F (by have:=a.small hs;have:=b.small ht;omega) (by have:=a.small hs;have:=b.small ht;omega)) ?_;try conv=>cbv
 obtain⟨a5,a6,G⟩:=Ac (1);refine AB w (Rq G) ?_;conv=>cbv
 exact AD ⟨⟨rfl,congrArg _ ((F.uniq z.num (by rw[V];exact (H9 (of_decide_eq_true D.symm) (of_decide_eq_true v.symm)).1.symm)).1.symm),congrArg _ ((F.uniq z.num (by rw[V];exact (H9 (of_decide_eq_true D.symm) (of_decide_eq_true v.symm)).1.symm)).2.symm),congrArg _ ((G.uniq z.den (by rw[V,(H9 (of_decide_eq_true D.symm) (of_decide_eq_true v.symm)).2];rfl)).1.symm),congrArg _ ((G.uniq z.den (by rw[V,(H9 (of_decide_eq_true D.symm) (of_decide_eq_true v.symm)).2];rfl)).2.symm),trivial⟩,trivial⟩
theorem bg {p q:Rat} (b:BH p b1 l1 b2 l2) (f:BH q c1 m1 c2 m2) (hs:Bu p) (ht:Bu q) (M:r=p*q) (m:BH r d1 k1 d2 k2):CF 351 [.agg (BS b1 l1 b2 l2),.agg (BS c1 m1 c2 m2)] (.agg (BS d1 k1 d2 k2)):=by
 refine AJ Tryz.func351 fun E L=>?_
 conv=>cbv
 obtain⟨U,u⟩:=xB (decide ((p.den:Int)=1));refine AB L (KN b.den u) ?_;conv=>cbv
 cases U <;> conv=>cbv
 ·obtain⟨F,I,h⟩:=Ac (p.num*q.num);refine AB (r:= .agg [.bool F,.sl .u32 I]) L (Ex b.num f.num h (by have:=b.small hs;have:=f.small ht;omega) (by have:=b.small hs;have:=f.small ht;omega)) ?_;try conv=>cbv
  obtain⟨G,J,j⟩:=Ac ((p.den:Int)*q.den);refine AB (r:= .agg [.bool G,.sl .u32 J]) L (Ex b.den f.den j (by have:=b.small hs;have:=f.small ht;omega) (by have:=b.small hs;have:=f.small ht;omega)) ?_;try conv=>cbv
  obtain⟨H,K,z,D,a⟩:=Be (r);refine AB (r:= .agg [.bool H,.sl .u32 K,.bool z,.sl .u32 D]) L (KU h j (Int.mul_ne_zero (GX p) (GX q)) (M.trans (OS p q)) a (by have:=b.small hs;have:=f.small ht;have:=b.num.DJ f.num h rfl;omega) (by have:=b.small hs;have:=f.small ht;have:=b.den.DJ f.den j rfl;omega)) ?_;try conv=>cbv
  refine g2 rfl ?_;exact AD ⟨⟨rfl,congrArg _ ((a.uniq m rfl).1.1.symm),congrArg _ ((a.uniq m rfl).1.2.symm),congrArg _ ((a.uniq m rfl).2.1.symm),congrArg _ ((a.uniq m rfl).2.2.symm),trivial⟩,trivial⟩
 obtain⟨P,k⟩:=xB (decide ((q.den:Int)=1));refine AB L (KN f.den k) ?_;conv=>cbv
 cases P <;> conv=>cbv
 ·obtain⟨F,I,h⟩:=Ac (p.num*q.num);refine AB (r:= .agg [.bool F,.sl .u32 I]) L (Ex b.num f.num h (by have:=b.small hs;have:=f.small ht;omega) (by have:=b.small hs;have:=f.small ht;omega)) ?_;try conv=>cbv
  obtain⟨G,J,j⟩:=Ac ((p.den:Int)*q.den);refine AB (r:= .agg [.bool G,.sl .u32 J]) L (Ex b.den f.den j (by have:=b.small hs;have:=f.small ht;omega) (by have:=b.small hs;have:=f.small ht;omega)) ?_;try conv=>cbv
  obtain⟨H,K,z,D,a⟩:=Be (r);refine AB (r:= .agg [.bool H,.sl .u32 K,.bool z,.sl .u32 D]) L (KU h j (Int.mul_ne_zero (GX p) (GX q)) (M.trans (OS p q)) a (by have:=b.small hs;have:=f.small ht;have:=b.num.DJ f.num h rfl;omega) (by have:=b.small hs;have:=f.small ht;have:=b.den.DJ f.den j rfl;omega)) ?_;try conv=>cbv
  refine g2 rfl ?_;exact AD ⟨⟨rfl,congrArg _ ((a.uniq m rfl).1.1.symm),congrArg _ ((a.uniq m rfl).1.2.symm),congrArg _ ((a.uniq m rfl).2.1.symm),congrArg _ ((a.uniq m rfl).2.2.symm),trivial⟩,trivial⟩
 obtain⟨N,O,v⟩:=Ac (p.num*q.num);refine AB (r:= .agg [.bool N,.sl .u32 O]) L (Ex b.num f.num v (by have:=b.small hs;have:=f.small ht;omega) (by have:=b.small hs;have:=f.small ht;omega)) ?_;try conv=>cbv
 obtain⟨Q,S,w⟩:=Ac (1);refine AB L (Rq w) ?_;conv=>cbv
 exact AD ⟨⟨rfl,congrArg _ ((v.uniq m.num (by rw[M];exact (mul_ones (of_decide_eq_true u.symm) (of_decide_eq_true k.symm)).1.symm)).1.symm),congrArg _ ((v.uniq m.num (by rw[M];exact (mul_ones (of_decide_eq_true u.symm) (of_decide_eq_true k.symm)).1.symm)).2.symm),congrArg _ ((w.uniq m.den (by rw[M,(mul_ones (of_decide_eq_true u.symm) (of_decide_eq_true k.symm)).2];rfl)).1.symm),congrArg _ ((w.uniq m.den (by rw[M,(mul_ones (of_decide_eq_true u.symm) (of_decide_eq_true k.symm)).2];rfl)).2.symm),trivial⟩,trivial⟩
theorem bf {p q:Rat} (j:BH p b1 l1 b2 l2) (b:BH q c1 m1 c2 m2) (hs:Bu p) (ht:Bu q) (m:q≠0) (L:r=p/q) (J:BH r d1 k1 d2 k2):CF 345 [.agg (BS b1 l1 b2 l2),.agg (BS c1 m1 c2 m2)] (.AG [(true,(BS d1 k1 d2 k2)),(false,[.int .i64 0])]):=by
 refine AJ Tryz.func345 fun E I=>?_
 conv=>cbv
 obtain⟨K,k⟩:=xB (decide (q.num=0));refine AB I (Wz b.num k) ?_;conv=>cbv
 cases K <;> conv=>cbv
 ·obtain⟨w,F,f⟩:=Ac (p.num*q.den);refine AB (r:= .agg [.bool w,.sl .u32 F]) I (Ex j.num b.den f (by have:=j.small hs;have:=b.small ht;omega) (by have:=j.small hs;have:=b.small ht;omega)) ?_;try conv=>cbv
  obtain⟨z,G,h⟩:=Ac ((p.den:Int)*q.num);refine AB (r:= .agg [.bool z,.sl .u32 G]) I (Ex j.den b.num h (by have:=j.small hs;have:=b.small ht;omega) (by have:=j.small hs;have:=b.small ht;omega)) ?_;try conv=>cbv
  obtain⟨D,H,u,v,a⟩:=Be (r);refine AB (r:= .agg [.bool D,.sl .u32 H,.bool u,.sl .u32 v]) I (KU f h (Int.mul_ne_zero (GX p) (mt Rat.num_eq_zero.1 m)) (L.trans (gJ p q)) a (by have:=j.small hs;have:=b.small ht;have:=j.num.DJ b.den f rfl;omega) (by have:=j.small hs;have:=b.small ht;have:=j.den.DJ b.num h rfl;omega)) ?_;try conv=>cbv
  refine g2 rfl ?_;exact AD ⟨⟨rfl,congrArg _ ((a.uniq J rfl).1.1.symm),congrArg _ ((a.uniq J rfl).1.2.symm),congrArg _ ((a.uniq J rfl).2.1.symm),congrArg _ ((a.uniq J rfl).2.2.symm),trivial⟩,t2,trivial⟩
 exact absurd (Rat.num_eq_zero.1 (of_decide_eq_true k.symm)) m
theorem SR (q:Rat):(q.num<0/\DR q= -1)\/(q.num=0/\DR q=0)\/(0<q.num/\DR q=1):=FM q.num
theorem Lh (q:Rat):0<(q.den:Int):=by have:=q.den_pos;omega
theorem Ze {p q:Rat} (h:DR p<DR q):p<q:=by
 rw[Rat.lt_iff];rcases SR p with⟨a,e⟩ |⟨a,e⟩ |⟨a,e⟩ <;> rcases SR q with⟨b,e'⟩ |⟨b,e'⟩ |⟨b,e'⟩ <;> rw[e,e'] at h <;> try omega
 ·rw[b,Int.zero_mul];exact Int.mul_neg_of_neg_of_pos a (Lh q)
 ·exact Int.lt_trans (Int.mul_neg_of_neg_of_pos a (Lh q)) (Int.mul_pos b (Lh p))
 rw[a,Int.zero_mul];exact Int.mul_pos b (Lh p)
theorem fm {p q:Rat} (h:p<q):Fq p q= -1:=by unfold Fq;rw[if_pos h]
theorem fk {p q:Rat} (h:q<p):Fq p q=1:=by
 unfold Fq;rw[if_neg (fun h'=>Int.lt_asymm ((Rat.lt_iff _ _).1 h) ((Rat.lt_iff _ _).1 h')),if_pos h]
theorem VR (p q:Rat):Fq p q=BV (p.num*q.den) (q.num*p.den):=by
 unfold Fq BV;simp only[Rat.lt_iff]
theorem bc {p q:Rat} {c:Int} (h:BH p b1 l1 b2 l2) (j:BH q c1 m1 c2 m2) (hs:Bu p) (ht:Bu q) (G:c=Fq p q):CF 312 [.agg (BS b1 l1 b2 l2),.agg (BS c1 m1 c2 m2)] (.one (.int .i64 c)):=by
 refine AJ Tryz.func312 fun E u=>?_
 conv=>cbv
 obtain⟨N,H⟩:=xI (DR p);refine AB u (LA h H) ?_;conv=>cbv
 obtain⟨L,v⟩:=xI (DR q);refine AB u (LA j v) ?_;conv=>cbv
 refine g2 rfl ?_;intro K k;conv=>cbv
 cases K <;> conv=>cbv
 ·have I:=Co k;obtain⟨w,D,b⟩:=Ac (p.num*q.den);refine AB (r:= .agg [.bool w,.sl .u32 D]) u (Ex h.num j.den b (by have:=h.small hs;have:=j.small ht;omega) (by have:=h.small hs;have:=j.small ht;omega)) ?_;try conv=>cbv
  obtain⟨z,F,f⟩:=Ac (q.num*p.den);refine AB (r:= .agg [.bool z,.sl .u32 F]) u (Ex j.num h.den f (by have:=h.small hs;have:=j.small ht;omega) (by have:=h.small hs;have:=j.small ht;omega)) ?_;try conv=>cbv
  obtain⟨M,a⟩:=xI (BV (p.num*q.den) (q.num*p.den));refine AB u (S9 b f a) ?_;conv=>cbv
  refine g2 rfl ?_;exact AD ⟨⟨rfl,congrArg _ (by rw[G,a,VR]),trivial⟩,trivial⟩
 have I:=Cp k;intro n16 m;conv=>cbv
 cases n16 <;> conv=>cbv
 ·have J:=AW m;exact AD ⟨⟨rfl,congrArg _ (by rw[G];exact fk (Ze (by omega))),trivial⟩,trivial⟩
 have J:=AY m;exact AD ⟨⟨rfl,congrArg _ (by rw[G];exact fm (Ze (by omega))),trivial⟩,trivial⟩
theorem KO {b:Bool} (h:Ad x b l) (h':Ad ((BM x.toNat:Nat):Int) b' l'):l'.length<=l.length:=by
 rw[h.BC,h'.BC,Int.natAbs_natCast];exact D1 (Nat.le_trans (Nat.le_trans (Nat.le_mul_self _) (Lq x.toNat)) (by omega))
theorem ll {e:Int} (h:e=if x<0 then 7 else 0) (a:e≠0):decide (((BM x.toNat:Nat):Int)*((BM x.toNat:Nat):Int)=x)=false:=by
 have f:x<0:=by
  apply Classical.byContradiction;intro b;rw[if_neg b] at h;exact a h
 rw[show x.toNat=0 by omega];simp only[decide_eq_false_iff_not];intro h';rw[show BM 0=0 from rfl] at h';omega
theorem ft (a b:Int):decide (a=b)=(BV a b==0):=by
 unfold BV;rw[Bool.eq_iff_iff,decide_eq_true_eq,beq_iff_eq]
 split
 ·omega
 split <;> omega
theorem Oq (u:Ad x b1 l1) (v:Ad ((BM x.toNat:Nat):Int) b2 l2) (F:c=decide (((BM x.toNat:Nat):Int)*((BM x.toNat:Nat):Int)=x)) (s1:l1.length<=4000000000000):CF 369 [.agg (BD b1 l1)] (.AG [(true,(BD b2 l2)),(false,[.bool c])]):=by
 refine AJ Tryz.func369 fun E z=>?_
 conv=>cbv
 obtain⟨H,I,a⟩:=Ac ((BM x.toNat:Nat):Int);obtain⟨J,j⟩:=xI (if x<0 then 7 else 0);refine AB z (cB u a j (by omega)) ?_;conv=>cbv
 intro D h;conv=>cbv
 cases D <;> conv=>cbv
 ·have k:=Ah h;refine g2 rfl ?_;exact AD ⟨⟨rfl,congrArg _ ((a.uniq v rfl).1.symm),congrArg _ ((a.uniq v rfl).2.symm),trivial⟩,⟨rfl,congrArg _ (by rw[F];exact ll j k),trivial⟩,trivial⟩
 have k:=Aj h;obtain⟨m,q,f⟩:=Ac (((BM x.toNat:Nat):Int)*((BM x.toNat:Nat):Int));refine AB (r:= .agg [.bool m,.sl .u32 q]) z (Ex a a f (by have:=KO u a;omega) (by have:=KO u a;omega)) ?_;try conv=>cbv
 obtain⟨G,b⟩:=xI (BV (((BM x.toNat:Nat):Int)*((BM x.toNat:Nat):Int)) x);refine AB z (S9 f u b) ?_;conv=>cbv
 intro n20 w;conv=>cbv
 refine g2 rfl ?_;exact AD ⟨⟨rfl,congrArg _ ((a.uniq v rfl).1.symm),congrArg _ ((a.uniq v rfl).2.symm),trivial⟩,⟨rfl,congrArg _ (by rw[F,w,b];exact ft _ _),trivial⟩,trivial⟩
theorem bm {q:Rat} (z:BH q b1 l1 b2 l2) (hs:Bu q) (H:0<=r) (J:r*r=q) (D:BH r c1 m1 c2 m2):CF 328 [.agg (BS b1 l1 b2 l2)] (.AG [(true,(BS c1 m1 c2 m2)),(false,[.bool true])]):=by
 refine AJ Tryz.func328 fun E I=>?_
 conv=>cbv
 obtain⟨m,v,a⟩:=Ac (r.num);have G:=Z7 H J;refine AB (r:= .AG [(true,[.bool m,.sl .u32 v]),(false,[.bool true])]) I (Oq z.num (by rw[G.1];exact a) (by rw[G.1];exact (decide_eq_true G.2).symm) (by have:=z.small hs;omega)) ?_;try conv=>cbv
 obtain⟨u,w,b⟩:=Ac (r.den:Int);have F:=Z6 H J;refine AB (r:= .AG [(true,[.bool u,.sl .u32 w]),(false,[.bool true])]) I (Oq z.den (by rw[F.1];exact b) (by rw[F.1];exact (decide_eq_true F.2).symm) (by have:=z.small hs;omega)) ?_;try conv=>cbv
 intro n21 f;conv=>cbv
 cases n21 <;> conv=>cbv
 ·have j:=C3 f;intro n24 h;conv=>cbv
  cases n24 <;> conv=>cbv
  ·have k:=C3 h;exact AD ⟨⟨rfl,congrArg _ ((a.uniq D.num rfl).1.symm),congrArg _ ((a.uniq D.num rfl).2.symm),congrArg _ ((b.uniq D.den rfl).1.symm),congrArg _ ((b.uniq D.den rfl).2.symm),trivial⟩,t2,trivial⟩
  have k:=C4 h;exact absurd k (by decide)
 have j:=C4 f;exact absurd j (by decide)
theorem bj {q:Rat} (F:BH q b1 l1 b2 l2) (hs:Bu q) (J:¬∃r:Rat,0<=r/\r*r=q):CF 328 [.agg (BS b1 l1 b2 l2)] (.AG [(true,[.bool false,.sl .u32 [],.bool false,.sl .u32 []]),(false,[.bool false])]):=by
 refine AJ Tryz.func328 fun E I=>?_
 conv=>cbv
 obtain⟨v,z,j⟩:=Ac (((BM q.num.toNat:Nat):Int));obtain⟨G,a⟩:=xB (decide (((BM q.num.toNat:Nat):Int)*((BM q.num.toNat:Nat):Int)=q.num));refine AB (r:= .AG [(true,[.bool v,.sl .u32 z]),(false,[.bool G])]) I (Oq F.num j a (by have:=F.small hs;omega)) ?_;try conv=>cbv
 obtain⟨w,D,k⟩:=Ac (((BM (q.den:Int).toNat:Nat):Int));obtain⟨H,b⟩:=xB (decide (((BM (q.den:Int).toNat:Nat):Int)*((BM (q.den:Int).toNat:Nat):Int)=(q.den:Int)));refine AB (r:= .AG [(true,[.bool w,.sl .u32 D]),(false,[.bool H])]) I (Oq F.den k b (by have:=F.small hs;omega)) ?_;try conv=>cbv
 intro n21 f;conv=>cbv
 cases n21 <;> conv=>cbv
 ·have m:=C3 f;intro n24 h;conv=>cbv
  cases n24 <;> conv=>cbv
  ·have u:=C3 h;exact absurd (Z5 (of_decide_eq_true (a.symm.trans m)) (of_decide_eq_true (b.symm.trans u))) J
  have u:=C4 h;exact AD ⟨⟨rfl,rfl,Bj,rfl,Bj,trivial⟩,t2,trivial⟩
 have m:=C4 f;exact AD ⟨⟨rfl,rfl,Bj,rfl,Bj,trivial⟩,t2,trivial⟩
theorem bT {q:Rat} (z:Ad n b1 l1) (D:Ad d b2 l2) (w:d≠0) (F:q=Rat.divInt n d) (v:BH q c1 m1 c2 m2) (s1:l1.length<=17592186042000) (s2:l2.length<=17592186042000):CF 373 [.agg (BD b1 l1),.agg (BD b2 l2)] (.AG [(true,(BS c1 m1 c2 m2)),(false,[.int .i64 0])]):=by
 refine AJ Tryz.func373 fun E u=>?_
 conv=>cbv
 obtain⟨G,I,f⟩:=Ac (n);refine AB u (TR z (by omega) f) ?_;conv=>cbv
 obtain⟨H,J,b⟩:=Ac (d);refine AB u (TR D (by omega) b) ?_;conv=>cbv
 refine g2 rfl ?_;refine AB (r:= .one (.bool false)) u (Wz b (by simp[w])) ?_;conv=>cbv
 obtain⟨k,m,h,j,a⟩:=Be (q);refine AB (r:= .agg [.bool k,.sl .u32 m,.bool h,.sl .u32 j]) u (KU f b w F a (by rw[(f.uniq z rfl).2];exact s1) (by rw[(b.uniq D rfl).2];exact s2)) ?_;try conv=>cbv
 exact AD ⟨⟨rfl,congrArg _ ((a.uniq v rfl).1.1.symm),congrArg _ ((a.uniq v rfl).1.2.symm),congrArg _ ((a.uniq v rfl).2.1.symm),congrArg _ ((a.uniq v rfl).2.2.symm),trivial⟩,t2,trivial⟩
theorem PI {b:Bool} (a: -9223372036854775808<=x/\x<9223372036854775808) (h:Ad x b l):l.length<=2:=by
 rw[h.BC];exact Fu (by omega)
theorem TC {q:Rat} (G: -9223372036854775808<=n/\n<9223372036854775808) (F: -9223372036854775808<=d/\d<9223372036854775808) (N:d≠0) (O:q=Rat.divInt n d) (D:BH q c1 m1 c2 m2):CF 336 [.one (.int .i64 n),.one (.int .i64 d)] (.agg (BS c1 m1 c2 m2)):=by
 refine AJ Tryz.func336 fun E z=>?_
 conv=>cbv
 obtain⟨P,Q,f⟩:=Ac (n);refine AB z (Mu G f) ?_;conv=>cbv
 obtain⟨J,L,b⟩:=Ac (d);refine AB z (Mu F b) ?_;conv=>cbv
 obtain⟨v,w,m,u,a⟩:=Be q;refine AB (r:= .AG [(true,[.bool v,.sl .u32 w,.bool m,.sl .u32 u]),(false,[.int .i64 0])]) z (bT f b N O a (by have:=PI G f;omega) (by have:=PI F b;omega)) ?_;try conv=>cbv
 intro n16 h;conv=>cbv
 cases n16 <;> conv=>cbv
 ·have k:=Co h;exact AD ⟨⟨rfl,congrArg _ ((a.uniq D rfl).1.1.symm),congrArg _ ((a.uniq D rfl).1.2.symm),congrArg _ ((a.uniq D rfl).2.1.symm),congrArg _ ((a.uniq D rfl).2.2.symm),trivial⟩,trivial⟩
 have k:=Cp h;obtain⟨K,M,H,I,j⟩:=Be (((0:Int):Rat));refine AB z (G4 (by omega) rfl j) ?_;conv=>cbv
 exact absurd k (by decide)
theorem aa (f:Ad y b2 l2) (h:CE y<=0:=by omega):Fk b1 l1 b2 l2=false:=by
 apply Bool.eq_false_iff.2;intro h';obtain⟨q,b⟩:=PE.1 h';have e:y=(q.den:Int):=by rw[f.E3,b.den.E3]
 have:=Lh q;rcases FM y with⟨a,e'⟩ |⟨a,e'⟩ |⟨a,e'⟩ <;> omega
theorem aZ (f:true=E7 b1 l1) (j:true=E7 b2 l2) (q:Ad x b1 l1) (b:Ad y b2 l2) (h:0<CE y) (k:c=decide (((Nat.gcd x.natAbs y.natAbs:Nat):Int)=1)):Fk b1 l1 b2 l2=c:=by
 have u:0<y:=by rcases FM y with⟨a,e'⟩ |⟨a,e'⟩ |⟨a,e'⟩ <;> omega
 have hb:b2=false:=by rw[b.neg];exact decide_eq_false (by omega)
 have m:l2≠[]:=fun e=>by have:=b.nil.1 e;omega
 unfold Fk;rw[<-f,<-j,hb,decide_eq_true m,k,q.nat,b.nat];simp only[Bool.true_and,Bool.not_false];rw[Bool.eq_iff_iff,decide_eq_true_eq,decide_eq_true_eq];omega
theorem TV (q:c=Fk b1 l1 b2 l2) (s1:l1.length<=17592186042000) (s2:l2.length<=17592186042000):CF 327 [.agg (BS b1 l1 b2 l2)] (.one (.bool c)):=by
 refine AJ Tryz.func327 fun E k=>?_
 conv=>cbv
 obtain⟨G,a⟩:=xB (E7 b1 l1);refine AB k (Te a) ?_;conv=>cbv
 cases G <;> conv=>cbv
 ·exact AD ⟨⟨rfl,congrArg _ (by rw[q];unfold Fk;rw[<-a];rfl),trivial⟩,trivial⟩
 obtain⟨H,b⟩:=xB (E7 b2 l2);refine AB k (Te b) ?_;conv=>cbv
 cases H <;> conv=>cbv
 ·exact AD ⟨⟨rfl,congrArg _ (by rw[q];unfold Fk;rw[<-b];exact Bool.and_false _),trivial⟩,trivial⟩
 obtain⟨x,w⟩:=It.1 a.symm;obtain⟨y,u⟩:=It.1 b.symm;obtain⟨I,m⟩:=xI (CE y);refine AB k (LB u m) ?_;conv=>cbv
 intro n15 j;conv=>cbv
 cases n15 <;> conv=>cbv
 ·have v:=Bq j;exact AD ⟨⟨rfl,congrArg _ (by rw[q];exact aa u),trivial⟩,trivial⟩
 have v:=Br j;obtain⟨z,D,h⟩:=Ac (((Nat.gcd x.natAbs y.natAbs:Nat):Int));refine AB k (TD w u h (by omega) (by omega)) ?_;conv=>cbv
 obtain⟨F,f⟩:=xB (decide (((Nat.gcd x.natAbs y.natAbs:Nat):Int)=1));refine AB k (KN h f) ?_;conv=>cbv
 exact AD ⟨⟨rfl,congrArg _ (by rw[q];exact aZ a b w u (by omega) f),trivial⟩,trivial⟩
end Go.Abs
namespace Go.Abs
open Go.RowKit
variable {B X Z o:LR} {i n zn:Nat} {xs ys:List Rat}
theorem iE {A:LR} (w:A=X.take (X.length/2)) (z:B=X.drop (X.length/2)):CF 348 [.one (.sl AA X)] (.AG [(false,[.sl AA A]),(false,[.sl AA B])]):=by
 refine AJ Tryz.func348 fun E M=>?_
 conv=>cbv
 rintro P ⟨K,f6⟩;conv=>cbv
 intro Q L;conv=>cbv
 refine g2 ⟨by omega,by omega,i64 (by omega)⟩ ?_;intro O F;conv=>cbv
 refine AH ?_;intro q D;conv=>cbv
 intro N j;conv=>cbv
 rintro I ⟨u,f11⟩;conv=>cbv
 intro J v;conv=>cbv
 refine g2 ⟨by omega,by omega,i64 (by omega)⟩ ?_;intro H f;conv=>cbv
 refine AH ?_;rintro h m ⟨k,a⟩;conv=>cbv
 intro G b;conv=>cbv
 refine g2 rfl ?_;exact AD ⟨⟨rfl,congrArg _ (by rw[w,j,List.drop_zero,show q=X.length/2 by omega]),trivial⟩,⟨rfl,congrArg _ (by rw[z,b,a,f,List.take_length,show h=X.length/2 by omega]),trivial⟩,trivial⟩
theorem nF {X A:List LR} (m:X≠[]) (u:A=X.take (X.length-1)) (v:X[X.length-1]? =some B):CF 346 [.one (.sl (.sl AA) X)] (.AG [(false,[.sl (.sl AA) A]),(false,[.sl AA B])]):=by
 refine AJ Tryz.func346 fun E I=>?_
 conv=>cbv
 rintro L ⟨F,f6⟩;conv=>cbv
 have G:0<X.length:=List.length_pos_iff.2 m;intro M H;conv=>cbv
 refine AI ?_;intro K z;conv=>cbv
 refine AH ?_;intro j w;conv=>cbv
 intro J f;conv=>cbv
 rintro D ⟨k,f11⟩;conv=>cbv
 intro b q;conv=>cbv
 refine AI ?_;obtain⟨h,a⟩:=AK (l:=X) (i:=(b).toNat) (by omega);refine⟨h,fun _=>⟨by omega,a⟩,?_⟩;try conv=>cbv
 refine g2 rfl ?_;exact AD ⟨⟨rfl,congrArg _ (by rw[u,f,List.drop_zero,show j=X.length-1 by omega]),trivial⟩,⟨rfl,congrArg _ (by rw[show b.toNat=X.length-1 by omega] at a;exact (Option.some.inj (v.symm.trans a))),trivial⟩,trivial⟩
theorem iG {Z:Nat->LR} (h:o.take i=Z i) (e:i=n):o.take n=Z n:=by rw[<-e];exact h
theorem O5 {α:Type} {o:List α} {w:α} (h:i<o.length):(o.set i w).take (i+1)=o.take i++[w]:=by
 rw[List.take_succ_eq_append_getElem (by rw[List.length_set];exact h),List.take_set_of_le (Nat.le_refl _),List.getElem_set_self]
theorem ox {a:Int} (ha:AO a n) (hn:n<=1000000) (hX:X=Aa (List.replicate n 0)) (I:zn=X.length):CF 352 [.one (.int .i64 a)] (.one (.own AA X zn)):=by
 have ea:=ha.eq;refine AJ Tryz.func352 fun E hE=>?_
 conv=>cbv
 refine⟨fun _=>⟨by omega,by omega,by show _*64<=140737488355328;omega⟩,?_⟩;intro K (M:LR) G;have a6:=G.1;have H:M=List.replicate K (((false,[]),(false,[])):el AA):=G.2;have W:M.length=K:=by rw[H,List.length_replicate]
 conv=>cbv
 intro n8 h8;have e8:=h8.eq;conv=>cbv
 refine .inr ?_;obtain⟨V,w⟩:=xJ fun vs O k=>∃(o:LR) (m i':Nat) (L i:Int),vs=[.one (.AN AA 6 0 0 m),.one (.int .i64 L),.one (.int .i64 i)]/\O=[.arr 0 AA o]/\(o.length=n/\m=n/\CT L n/\AO i i'/\i'<=n)/\o.take i'=Aa (List.replicate i' 0)/\k=n-i'
 refine⟨[],[3,8,9],[6],V,⟨n-0,by rw[w];exact⟨M,K,0,n8,0,rfl,rfl,⟨by omega,by omega,⟨by omega,by omega⟩,Al 0,by omega⟩,rfl,rfl⟩⟩,?_⟩;intro vs O a7 S;rw[w] at S;obtain⟨o,m,i',L,i,rfl,rfl,⟨ho,hm,Q,hi,a2⟩,hinv,a5⟩:=S;conv=>cbv
 have eL:=Q.eq;have ei:=hi.eq;intro N D;conv=>cbv
 cases N <;> conv=>cbv
 ·have J:=AW D;have b:o=X:=by rw[hX,<-iG (Z:=fun i=>Aa (List.replicate i 0)) hinv (by omega),List.take_of_length_le (by omega)]
  exact AD ⟨⟨rfl,.inr (.inl ⟨_,_,by decide,rfl,rfl,by omega,rfl,C5 (b.symm) (by rw[I,<-b])⟩),trivial⟩,trivial⟩
 have J:=AY D;refine .inr ?_;obtain⟨u,v,j,q,h⟩:=Be (((0:Int):Rat));refine AB hE (G4 (by omega) rfl h) ?_;conv=>cbv
 refine AH ?_;intro F U;conv=>cbv
 refine⟨((u,v),(j,q)),fun _=>⟨by show _<List.length (α:=(el AA)) o;(first | omega | (simp;omega)),by first | exact t1 | exact t2 | exact t4 | simp[Ao,BA,cells]⟩,?_⟩;intro (z:LR) (f:z=List.set (α:=(el AA)) o F (((u,v),(j,q))));have P:z.length=o.length:=by rw[f,List.length_set]
 conv=>cbv
 intro n16 a1;conv=>cbv
 refine AI ?_;refine⟨n-(i'+1),?_,?_⟩
 ·omega
 rw[w];refine⟨z,m,i'+1,L,n16,rfl,rfl,⟨by omega,by omega,Q,⟨by omega⟩,by omega⟩,?_,rfl⟩;rw[f,show F=i' by omega,O5 (by omega),hinv,List.replicate_succ',Aa,Aa,List.map_append,<-h.rp];rfl
theorem Gc {x:el AA} (b:X=Aa xs) (hs:Dn xs) (a:X[i]? =some x):∃q,BH q x.1.1 x.1.2 x.2.1 x.2.2/\xs[i]? =some q/\Bu q:=by
 rw[b,Aa,List.getElem?_map] at a;cases h:xs[i]? with
 | none=>rw[h] at a;simp at a
 | some q=>
  rw[h] at a;have e:x=rp q:=(Option.some.inj a).symm;exact⟨q,by rw[e];exact Ft q,rfl,hs q (List.mem_of_getElem? h)⟩
theorem ZG (h:o.take i=Aa (ys.take i)) (b:i=n) (a:o.length=n) (f:ys.length=n):Aa ys=o.take n:=by
 rw[b] at h;rw[h,<-f,List.take_length]
theorem ZH {l:LR} {j:Nat} {q:Rat} {w:el AA} (h:o.take i=Aa (ys.take i)) (hi:i<o.length) (b:j=i) (f:l=o.set j w) (a:ys[i]? =some q) (hw:rp q=w):l.take (i+1)=Aa (ys.take (i+1)):=by
 have k:i<ys.length:=FY a;rw[f,b,O5 hi,h,List.take_succ,a,Aa,Aa,List.map_append,<-hw];rfl
theorem jm (hX:X=Aa xs) (hs:Dn xs) (hn:xs.length<=1000000) (hZ:Z=Aa (xs.map (- ·))):CF 333 [.one (.sl AA X)] (.one (.sl AA Z)):=by
 refine AJ Tryz.func333 fun E hE=>?_
 conv=>cbv
 have a7:X.length=xs.length:=by rw[hX,List.length_map]
 rintro n7 ⟨e7,f7⟩;conv=>cbv
 refine⟨fun _=>⟨by omega,by omega,by show _*64<=140737488355328;omega⟩,?_⟩;intro N (O:LR) G;have ab:=G.1;have H:O=List.replicate N (((false,[]),(false,[])):el AA):=G.2;have a5:O.length=N:=by rw[H,List.length_replicate]
 conv=>cbv
 intro P w;have a2:=w.eq;have f10:=w.le;conv=>cbv
 refine .inr ?_;obtain⟨J0,z⟩:=xJ fun vs U k=>∃(o:LR) (m i':Nat) (L i:Int),vs=[.one (.AN AA 8 0 0 m),.one (.sl AA X),.one (.int .i64 L),.one (.int .i64 i)]/\U=[.arr 0 AA o]/\(o.length=X.length/\m=X.length/\CT L X.length/\AO i i'/\i'<=X.length)/\o.take i'=Aa ((xs.map (- ·)).take i')/\k=X.length-i'
 refine⟨[],[3,9,10,11],[8],J0,⟨X.length-0,by rw[z];exact⟨O,N,0,P,0,rfl,rfl,⟨by omega,by omega,w,Al 0,by omega⟩,rfl,rfl⟩⟩,?_⟩;intro vs U ad hj;rw[z] at hj;obtain⟨o,m,i',L,i,rfl,rfl,⟨ho,hm,W,hi,a8⟩,hinv,aa⟩:=hj;conv=>cbv
 have eL:=W.eq;have ei:=hi.eq;intro Q F;conv=>cbv
 cases Q <;> conv=>cbv
 ·have M:=AW F;exact AD ⟨⟨rfl,.inl ⟨_,rfl,by omega,congrArg _ (by rw[hZ,hm,List.drop_zero];exact ZG hinv (by omega) (by omega) (by rw[List.length_map];omega))⟩,trivial⟩,trivial⟩
 have M:=AY F;refine .inr ?_;obtain⟨S,b⟩:=AK (l:=X) (i:=i') (by omega);refine⟨S,fun _=>⟨by omega,by rw[show (i).toNat=i' by omega];exact b⟩,?_⟩;try conv=>cbv
 obtain⟨q,hq,I,J⟩:=Gc hX hs b;obtain⟨u,v,h,j,f⟩:=Be (-q);refine AB hE (bh hq J rfl f) ?_;conv=>cbv
 refine AH ?_;intro K a1;conv=>cbv
 refine⟨((u,v),(h,j)),fun _=>⟨by show _<List.length (α:=(el AA)) o;(first | omega | (simp;omega)),by first | exact t1 | exact t2 | exact t4 | simp[Ao,BA,cells]⟩,?_⟩;intro (D:LR) (a:D=List.set (α:=(el AA)) o K (((u,v),(h,j))));have V:D.length=o.length:=by rw[a,List.length_set]
 conv=>cbv
 intro n21 a6;conv=>cbv
 refine AI ?_;refine⟨X.length-(i'+1),?_,?_⟩
 ·omega
 rw[z];refine⟨D,m,i'+1,L,n21,rfl,rfl,⟨by omega,by omega,W,⟨by omega⟩,by omega⟩,?_,rfl⟩;exact ZH hinv (by omega) (by omega) a (by rw[List.getElem?_map,I];rfl) f.rp
theorem eE {Y:LR} (hX:X=Aa xs) (hY:Y=Aa ys) (hs:Dn xs) (ht:Dn ys) (Q:ys.length=xs.length) (hn:xs.length<=1000000) (hZ:Z=Aa (List.zipWith (· + ·) xs ys)) (S:zn=Z.length):CF 304 [.one (.sl AA X),.one (.sl AA Y)] (.one (.own AA Z zn)):=by
 refine AJ Tryz.func304 fun E hE=>?_
 conv=>cbv
 have ae:X.length=xs.length:=by rw[hX,List.length_map]
 have af:Y.length=xs.length:=by rw[hY,List.length_map,Q]
 rintro n8 ⟨e8,f8⟩;conv=>cbv
 refine⟨fun _=>⟨by omega,by omega,by show _*64<=140737488355328;omega⟩,?_⟩;intro W (l9:LR) I;have ai:=I.1;have K:l9=List.replicate W (((false,[]),(false,[])):el AA):=I.2;have ab:l9.length=W:=by rw[K,List.length_replicate]
 conv=>cbv
 intro a1 J;have aa:=J.eq;conv=>cbv
 refine .inr ?_;obtain⟨J0,D⟩:=xJ fun vs bl k=>∃(o:LR) (m i':Nat) (L i:Int),vs=[.one (.sl AA X),.one (.sl AA Y),.one (.AN AA 9 0 0 m),.one (.int .i64 L),.one (.int .i64 i)]/\bl=[.arr 0 AA o]/\(o.length=X.length/\m=X.length/\AO L X.length/\AO i i'/\i'<=X.length)/\o.take i'=Aa ((List.zipWith (· + ·) xs ys).take i')/\k=X.length-i'
 refine⟨[],[0,1,5,11,12],[9],J0,⟨X.length-0,by rw[D];exact⟨l9,W,0,a1,0,rfl,rfl,⟨by omega,by omega,⟨by omega⟩,Al 0,by omega⟩,rfl,rfl⟩⟩,?_⟩;intro vs bl aj hj;rw[D] at hj;obtain⟨o,m,i',L,i,rfl,rfl,⟨ho,hm,hL,hi,ag⟩,hinv,ah⟩:=hj;conv=>cbv
 have eL:=hL.eq;have ei:=hi.eq;intro a2 G;conv=>cbv
 cases a2 <;> conv=>cbv
 ·have V:=AW G;have H:Aa (List.zipWith (· + ·) xs ys)=o.take X.length:=ZG hinv (by omega) (by omega) (by rw[List.length_zipWith];omega);have a:Z=o:=by rw[hZ,H,List.take_of_length_le (by omega)]
  exact AD ⟨⟨rfl,.inr (.inl ⟨_,_,by decide,rfl,rfl,by omega,rfl,C5 (a) (by rw[S,a])⟩),trivial⟩,trivial⟩
 have V:=AY G;refine .inr ?_;obtain⟨a5,f⟩:=AK (l:=X) (i:=i') (by omega);refine⟨a5,fun _=>⟨by omega,by rw[show (i).toNat=i' by omega];exact f⟩,?_⟩;try conv=>cbv
 obtain⟨a6,h⟩:=AK (l:=Y) (i:=i') (by omega);refine⟨a6,fun _=>⟨by omega,by rw[show (i).toNat=i' by omega];exact h⟩,?_⟩;try conv=>cbv
 obtain⟨p,hp,M,O⟩:=Gc hX hs f;obtain⟨q,hq,N,P⟩:=Gc hY ht h;obtain⟨w,z,u,v,j⟩:=Be (p+q);refine AB hE (ba hp hq O P rfl j) ?_;conv=>cbv
 refine AH ?_;intro U a8;conv=>cbv
 refine⟨((w,z),(u,v)),fun _=>⟨by show _<List.length (α:=(el AA)) o;(first | omega | (simp;omega)),by first | exact t1 | exact t2 | exact t4 | simp[Ao,BA,cells]⟩,?_⟩;intro (F:LR) (b:F=List.set (α:=(el AA)) o U (((w,z),(u,v))));have a7:F.length=o.length:=by rw[b,List.length_set]
 conv=>cbv
 refine g2 rfl ?_;intro n27 ad;conv=>cbv
 refine AI ?_;refine⟨X.length-(i'+1),?_,?_⟩
 ·omega
 rw[D];refine⟨F,m,i'+1,L,n27,rfl,rfl,⟨by omega,by omega,hL,⟨by omega⟩,by omega⟩,?_,rfl⟩;exact ZH hinv (by omega) (by omega) b (by rw[List.getElem?_zipWith,M,N]) j.rp
end Go.Abs
namespace Go.Abs
open Go.RowKit
def Ge (p:el AA->Bool):Nat->LR->Int
 | _,[]=> -1
 | i,x::l=>if p x=true then i else Ge p (i+1) l
variable {Y:LR} {b1 b2 c:Bool} {g:FuncId} {i:Nat} {l1 l2:List UInt32} {ys:List Rat}
theorem Wf {X:LR} {x:el AA} (h:X[i]? =some x):X.drop i=x::X.drop (i+1):=by
 have hi:=FY h;rw[List.drop_eq_getElem_cons hi];rw[List.getElem?_eq_getElem hi] at h;rw[Option.some.inj h]
theorem iN {X:LR} {p:el AA->Bool} {x:el AA} (h:X[i]? =some x) (a:p x=false):Ge p i (X.drop i)=Ge p (i+1) (X.drop (i+1)):=by
 rw[Wf h,Ge,a];rfl
theorem iM {X:LR} {p:el AA->Bool} {x:el AA} (h:X[i]? =some x) (a:p x=true):Ge p i (X.drop i)=i:=by
 rw[Wf h,Ge,if_pos a]
theorem bO {X:LR} {p:el AA->Bool} {r:Int} (G:∀x∈X,CF g [.agg (cells AA x)] (.one (.bool (p x)))) (J:r=Ge p 0 X):CF 365 [.one (.sl AA X),.one (.fn g)] (.one (.int .i64 r)):=by
 refine AJ Tryz.func365 fun E F=>?_
 conv=>cbv
 intro N m;have P:=m.eq;have f7:=m.le;conv=>cbv
 refine .inr ?_;obtain⟨w,h⟩:=xJ fun vs z k=>∃(i':Nat) (L i:Int),vs=[.one (.sl AA X),.one (.fn g),.one (.int .i64 L),.one (.int .i64 i)]/\(CT L X.length/\AO i i'/\i'<=X.length)/\r=Ge p i' (X.drop i')/\k=X.length-i'
 refine⟨[],[0,1,7,8],[],w,⟨X.length-0,by rw[h];exact⟨0,N,0,rfl,⟨m,Al 0,by omega⟩,J,rfl⟩⟩,?_⟩;intro vs z M v;rw[h] at v;obtain⟨i',L,i,rfl,⟨u,hi,H⟩,hinv,I⟩:=v;conv=>cbv
 have Q:=u.eq;have S:=hi.eq;intro O q;conv=>cbv
 cases O <;> conv=>cbv
 ·have K:=AW q;exact AD ⟨⟨rfl,congrArg _ (by rw[hinv,List.drop_eq_nil_of_le (by omega)];rfl),trivial⟩,trivial⟩
 have K:=AY q;refine .inr ?_;obtain⟨a,b⟩:=AK (l:=X) (i:=i') (by omega);refine⟨a,fun _=>⟨by omega,by rw[show (i).toNat=i' by omega];exact b⟩,?_⟩;try conv=>cbv
 obtain⟨j,f⟩:=xB (p a);refine .inl ⟨[.agg [.bool a.1.1,.sl .u32 a.1.2,.bool a.2.1,.sl .u32 a.2.2]],.one (.bool j),fun _=>⟨t4,trivial⟩,fun _=>E6 F ((by rw[f];exact G a (List.mem_of_getElem? b))),?_⟩;try conv=>cbv
 cases j <;> conv=>cbv
 ·intro n18 D;conv=>cbv
  refine AI ?_;refine⟨X.length-(i'+1),?_,?_⟩
  ·omega
  rw[h];refine⟨i'+1,L,n18,rfl,⟨u,⟨by omega⟩,by omega⟩,?_,rfl⟩;rw[hinv,iN b f.symm]
 exact AD ⟨⟨rfl,congrArg _ (by rw[hinv,iM b f.symm];omega),trivial⟩,trivial⟩
theorem We (p:el AA->Bool):∀(X:LR) (i:Nat),decide (Ge p i X >= 0)=X.any p
 | [],i=>rfl
 | x::X,i=>by
  rw[Ge,List.any_cons]
  split
  ·rename_i h;rw[h,Bool.true_or];exact decide_eq_true (by omega)
  rename_i h;rw[Bool.eq_false_iff.2 h,Bool.false_or];exact We p X (i+1)
theorem PQ {X:LR} {p:el AA->Bool} (j:∀x∈X,CF g [.agg (cells AA x)] (.one (.bool (p x)))) (h:c=X.any p):CF 324 [.one (.sl AA X),.one (.fn g)] (.one (.bool c)):=by
 refine AJ Tryz.func324 fun E f=>?_
 conv=>cbv
 obtain⟨m,a⟩:=xI (Ge p 0 X);refine AB f (bO j a) ?_;conv=>cbv
 intro k b;conv=>cbv
 exact AD ⟨⟨rfl,congrArg _ (by rw[h,b,a];exact (We p X 0).symm),trivial⟩,trivial⟩
theorem mN (q:Rat):decide (q≠0)=(DR q !=0):=by
 have h:= @Rat.num_eq_zero q;rw[Bool.eq_iff_iff,decide_eq_true_eq,bne_iff_ne];rcases SR q with⟨a,e⟩ |⟨a,e⟩ |⟨a,e⟩ <;> rw[e]
 ·exact⟨fun _=>by decide,fun _ b=>by rw[h.2 b] at a;omega⟩
 ·exact⟨fun b=>absurd (h.1 a) b,fun b=>absurd rfl b⟩
 exact⟨fun _=>by decide,fun _ b=>by rw[h.2 b] at a;omega⟩
theorem jo {q:Rat} (j:BH q b1 l1 b2 l2) (h:c=decide (q≠0)):CF 325 [.agg (BS b1 l1 b2 l2)] (.one (.bool c)):=by
 refine AJ Tryz.func325 fun E f=>?_
 conv=>cbv
 obtain⟨m,a⟩:=xI (DR q);refine AB f (LA j a) ?_;conv=>cbv
 intro k b;conv=>cbv
 exact AD ⟨⟨rfl,congrArg _ (by rw[h,b,a];exact mN q),trivial⟩,trivial⟩
theorem ZF (q:Rat):decide (q≠0)= !(rp q).1.2.isEmpty:=by
 have h:(rp q).1.2=AP q.num.natAbs:=rfl;rw[h,Bool.eq_iff_iff,decide_eq_true_eq,Bool.not_eq_true',List.isEmpty_eq_false_iff,Ne,Ne,Er,<-Rat.num_eq_zero];omega
theorem ln (xs:List Rat):(Aa xs).any (fun x=> !x.1.2.isEmpty)= !decide (∀q∈xs,q=0):=by
 induction xs with
 | nil=>rfl
 | cons q xs a=>
  rw[Aa,List.map_cons,List.any_cons,<-ZF,<-Aa,a]
  by_cases h:q=0 <;> simp[h]
theorem np {X:LR} {xs:List Rat} (b:X=Aa xs):∀x∈X,CF 325 [.agg (cells AA x)] (.one (.bool (!x.1.2.isEmpty))):=by
 intro x a;rw[b] at a;obtain⟨q,_,rfl⟩:=List.mem_map.1 a;exact jo (Ft q) (ZF q).symm
theorem NK {X:LR} {xs:List Rat} (b:X=Aa xs) (j:c=decide (∀q∈xs,q=0)):CF 253 [.one (.sl AA X)] (.one (.bool c)):=by
 refine AJ Tryz.func253 fun E h=>?_
 conv=>cbv
 obtain⟨k,a⟩:=xB (X.any (fun x=> !x.1.2.isEmpty));refine AB h (PQ (np b) a) ?_;conv=>cbv
 intro m f;conv=>cbv
 exact AD ⟨⟨rfl,congrArg _ (by rw[j,f,a,b,ln,Bool.not_not]),trivial⟩,trivial⟩
theorem Ww (h:c= !Fk b1 l1 b2 l2) (s1:l1.length<=17592186042000) (s2:l2.length<=17592186042000):CF 326 [.agg (BS b1 l1 b2 l2)] (.one (.bool c)):=by
 refine AJ Tryz.func326 fun E f=>?_
 conv=>cbv
 obtain⟨j,a⟩:=xB (Fk b1 l1 b2 l2);refine AB f (TV a s1 s2) ?_;conv=>cbv
 intro k b;conv=>cbv
 exact AD ⟨⟨rfl,congrArg _ (by rw[h,b,a]),trivial⟩,trivial⟩
theorem eh {X:LR} {xs:List Rat} (b:X=Aa xs) (hs:Dn xs):∀x∈X,CF 326 [.agg (cells AA x)] (.one (.bool false)):=by
 intro x a;rw[b] at a;obtain⟨q,f,rfl⟩:=List.mem_map.1 a;have h:=(Ft q).small (hs q f);exact Ww (by rw[PE.2 ⟨q,Ft q⟩];rfl) (by omega) (by omega)
theorem any_false (X:LR):false=X.any (fun _=>false):=by
 induction X with
 | nil=>rfl
 | cons x X a=>rw[List.any_cons,<-a];rfl
theorem Rd {X:LR} {xs:List Rat} {k:Int} {n:Nat} (b:X=Aa xs) (hs:Dn xs) (q:AO k n) (j:c=decide (xs.length=n)):CF 257 [.one (.sl AA X),.one (.int .i64 k)] (.one (.bool c)):=by
 have D:=q.eq;refine AJ Tryz.func257 fun E m=>?_
 conv=>cbv
 rintro F ⟨z,f6⟩;conv=>cbv
 intro w h;conv=>cbv
 cases w <;> conv=>cbv
 ·have u:=Ah h;exact AD ⟨⟨rfl,congrArg _ (by have f:X.length=xs.length:=(by rw[b,List.length_map]);rw[j];exact decide_eq_false (by omega)),trivial⟩,trivial⟩
 have u:=Aj h;refine AB m (PQ (p:=fun _=>false) (eh b hs) (any_false X)) ?_;conv=>cbv
 intro v a;conv=>cbv
 exact AD ⟨⟨rfl,congrArg _ (by have f:X.length=xs.length:=(by rw[b,List.length_map]);rw[j,a];exact decide_eq_true (by omega)),trivial⟩,trivial⟩
theorem Dt {n i:Int} {k:Nat} (h:n=IntKind.i64.wrap (1*2^min i.toNat IntKind.i64.bits)) (e:i=k) (a:k<=20:=by omega):AO n (2^k):=by
 have b:=wrap_i64 h;have f:2^k<=2^20:=Nat.pow_le_pow_right (by decide) a
 have h3:((2:Int)^min i.toNat IntKind.i64.bits)=((2^k:Nat):Int):=by
  rw[e,Int.toNat_natCast,Nat.min_eq_left (Nat.le_trans a (by decide))];simp
 rw[h3,Int.one_mul] at b
 generalize 2^k=Q at*
 exact⟨by omega⟩
theorem Hk {X:List LR} {xs:List (List Rat)} {x:LR} (b:X=xs.map Aa) (a:X[i]? =some x):∃y,x=Aa y/\xs[i]? =some y:=by
 rw[b,List.getElem?_map] at a;cases h:xs[i]? with
 | none=>rw[h] at a;simp at a
 | some q=>rw[h] at a;exact⟨q,(Option.some.inj a).symm,rfl⟩
theorem R7 {X:List LR} {xs:List (List Rat)} (D:X=xs.map Aa) (ht:M6 xs) (N:c=true):CF 256 [.one (.sl (.sl AA) X)] (.one (.bool c)):=by
 refine AJ Tryz.func256 fun E K=>?_
 conv=>cbv
 have M:X.length=xs.length:=by rw[D,List.length_map]
 have hl:=ht.Qt;intro V q;have e6:=q.eq;have f6:=q.le;conv=>cbv
 refine .inr ?_;obtain⟨G,b⟩:=xJ fun vs H k=>∃(i':Nat) (L i:Int),vs=[.one (.sl (.sl AA) X),.one (.int .i64 L),.one (.int .i64 i)]/\(CT L X.length/\AO i i'/\i'<=X.length)/\k=X.length-i'
 refine⟨[],[5,6,7],[],G,⟨X.length-0,by rw[b];exact⟨0,V,0,rfl,⟨q,Al 0,by omega⟩,rfl⟩⟩,?_⟩;intro vs H S F;rw[b] at F;obtain⟨i',L,i,rfl,⟨z,hi,O⟩,P⟩:=F;conv=>cbv
 have eL:=z.eq;have I:=hi.eq;intro W w;conv=>cbv
 cases W <;> conv=>cbv
 ·have Q:=AW w;exact AD ⟨⟨rfl,congrArg _ (N),trivial⟩,trivial⟩
 have Q:=AY w;refine .inr ?_;obtain⟨v,a⟩:=AK (l:=X) (i:=i') (by omega);refine⟨v,fun _=>⟨by omega,by rw[show (i).toNat=i' by omega];exact a⟩,?_⟩;try conv=>cbv
 intro U m;conv=>cbv
 refine AH ?_;obtain⟨x,u,h⟩:=Hk D a;refine AB (r:= .one (.bool true)) K (Rd u (ht.small x (List.mem_of_getElem? h)) (Dt m I) (by rw[ht.form i' x h];exact (decide_eq_true rfl).symm)) ?_;try conv=>cbv
 intro n16 f;conv=>cbv
 cases n16 <;> conv=>cbv
 ·have j:=C3 f;intro n17 J;conv=>cbv
  refine AI ?_;refine⟨X.length-(i'+1),?_,?_⟩
  ·omega
  rw[b];exact⟨i'+1,L,n17,rfl,⟨z,⟨by omega⟩,by omega⟩,rfl⟩
 have j:=C4 f;exact absurd j (by decide)
theorem G0 {X:List LR} {xs:List (List Rat)} (k:X=xs.map Aa) (ht:M6 xs) (q:Y=Aa ys) (hs:Dn ys) (u:c=decide (ys.length=2^xs.length)):CF 138 [.one (.sl (.sl AA) X),.one (.sl AA Y)] (.one (.bool c)):=by
 refine AJ Tryz.func138 fun E j=>?_
 conv=>cbv
 have h:X.length=xs.length:=by rw[k,List.length_map]
 have z:=ht.Qt;refine AB j (R7 k ht rfl) ?_;conv=>cbv
 rintro v ⟨b,f10⟩;conv=>cbv
 intro w f;conv=>cbv
 refine AH ?_;obtain⟨m,a⟩:=xB (decide (ys.length=2^xs.length));refine AB j (Rd q hs (Dt f (b.trans (congrArg _ h))) a) ?_;conv=>cbv
 exact AD ⟨⟨rfl,congrArg _ (u.trans a.symm),trivial⟩,trivial⟩
theorem Qm {X:List LR} {Z:LR} {xs:List (List Rat)} {m:List Rat} (u:X=xs.map Aa) (ht:M6 xs) (v:Y=Aa ys) (hs:Dn ys) (j:ys.length=2^xs.length) (w:Z=Aa m) (h:Dn m) (k:m.length=2^xs.length):CF 300 [.one (.sl (.sl AA) X),.one (.sl AA Y),.one (.sl AA Z)] (.one (.bool true)):=by
 refine AJ Tryz.func300 fun E q=>?_
 conv=>cbv
 have f:X.length=xs.length:=by rw[u,List.length_map]
 have F:=ht.Qt;refine AB q (G0 u ht v hs (decide_eq_true j).symm) ?_;conv=>cbv
 rintro z ⟨a,f13⟩;conv=>cbv
 intro D b;conv=>cbv
 refine AH ?_;refine AB q (Rd w h (Dt b (a.trans (congrArg _ f))) (decide_eq_true k).symm) ?_;conv=>cbv
 exact AD ⟨t2,trivial⟩
end Go.Abs
namespace Go.Abs
open Go.RowKit
variable {A B C X Y Z:LR} {R s t zn:Nat} {T:List LR} {p:Rat} {x y:Re}
theorem I6 {u:List (List Rat)} (h:AT u) (f:In u x) (b:X=em u x) (a:x=0):CF 253 [.one (.sl AA X)] (.one (.bool true)):=
 NK b (decide_eq_true ((Lf h f).2 a)).symm
theorem Hd {u:List (List Rat)} (h:AT u) (f:In u x) (b:X=em u x) (a:x≠0):CF 253 [.one (.sl AA X)] (.one (.bool false)):=
 NK b (decide_eq_false (fun k=>a ((Lf h f).1 k))).symm
theorem OB {u:List (List Rat)} {r:List Rat} {p q:Re} (h:AT (r::u)) (b:In u p) (f:In u q) (j:x=p+q*rt u r) (a:X=em (r::u) x) (k:A=em u p) (m:B=em u q):
  CF 348 [.one (.sl AA X)] (.AG [(false,[.sl AA A]),(false,[.sl AA B])]):=
 iE (by rw[a,k,CM h b f j]) (by rw[a,m,CA h b f j])
theorem K4 (r:List Rat) (u:List (List Rat)):tw (r::u)≠[]:=by rw[Mn];simp
theorem Sc {X A:List LR} {u:List (List Rat)} {r:List Rat} (a:X=tw (r::u)) (b:A=tw u) (f:B=Aa r):
  CF 346 [.one (.sl (.sl AA) X)] (.AG [(false,[.sl (.sl AA) A]),(false,[.sl AA B])]):=
 nF (by rw[a];exact K4 r u) (by rw[a,b,DT]) (by rw[a,f,E5])
theorem Gp {n:Nat} (h:n<=16:=by omega):2^n<=1000000:=Nat.le_trans (DD h) (by decide)
theorem UO {u:List (List Rat)} (h:Ae R u) (j:X=em u x) (k:Y=em u y) (a:El u s x) (b:El u t y) (hs:s<=60000000000000) (ht:t<=60000000000000) (m:Z=em u (x+y)) (f:zn=Z.length):
  CF 304 [.one (.sl AA X),.one (.sl AA Y)] (.one (.own AA Z zn)):=
 eE j k (a.Bh hs) (b.Bh ht) (by rw[a.len,b.len]) (by rw[a.len];exact Gp h.ht) (by rw[m,Vy h.red a.mem b.mem]) f
theorem NO {u:List (List Rat)} (h:Ae R u) (a:X=em u x) (b:Y=em u y) (j:El u s x) (k:El u t y) (hs:s<=60000000000000) (ht:t<=60000000000000) (f:Z=em u (x+y)):
 CF 304 [.one (.sl AA X),.one (.sl AA Y)] (.one (.sl AA Z)):=C8 (UO h a b j k hs ht f rfl)
theorem OY {u:List (List Rat)} (h:Ae R u) (b:X=em u x) (a:El u s x) (hs:s<=60000000000000) (f:Z=em u (-x)):
  CF 333 [.one (.sl AA X)] (.one (.sl AA Z)):=
 jm b (a.Bh hs) (by rw[a.len];exact Gp h.ht) (by rw[f,Vz h.red a.mem])
theorem PL {a:Int} {u:List (List Rat)} (h:Ae R u) (ha:AO a (2^u.length)) (f:Z=em u 0) (b:zn=Z.length):
  CF 352 [.one (.int .i64 a)] (.one (.own AA Z zn)):=
 ox ha (Gp h.ht) (by rw[f,Qc h.red]) b
theorem Eh {x:el AA} (b:A=[rp p]) (a:A[0]? =some x):BH p x.1.1 x.1.2 x.2.1 x.2.2:=by
 rw[b] at a;rw[<-Option.some.inj a];exact Ft p
theorem jZ {q:Rat} (M:T=[]) (G:A=[rp p]) (H:B=[rp q]) (hs:Bu p) (ht:Bu q) (I:C=[rp (p*q)]) (z:zn=C.length):CF 301 [.one (.sl (.sl AA) T),.one (.sl AA A),.one (.sl AA B)] (.one (.own AA C zn)):=by
 refine AJ Tryz.func301 fun E L=>?_
 conv=>cbv
 refine .inr ?_;rintro n16 ⟨w,f16⟩;conv=>cbv
 intro n17 h;conv=>cbv
 cases n17 <;> conv=>cbv
 ·have j:=Ah h;exact absurd (by rw[w,M];rfl) j
 have j:=Aj h;have J:A.length=1:=by rw[G];rfl
 have K:B.length=1:=by rw[H];rfl
 obtain⟨D,a⟩:=AK (l:=A) (i:=0) (by omega);refine⟨D,fun _=>⟨by omega,a⟩,?_⟩;try conv=>cbv
 obtain⟨F,b⟩:=AK (l:=B) (i:=0) (by omega);refine⟨F,fun _=>⟨by omega,b⟩,?_⟩;try conv=>cbv
 have N:=Eh G a;have O:=Eh H b;obtain⟨u,v,k,m,f⟩:=Be (p*q);refine AB L (bg N O hs ht rfl f) ?_;conv=>cbv
 refine⟨[((u,v),(k,m))],fun _=>⟨rfl,by decide,rfl,⟨rfl,by first | exact t1 | exact t2 | exact t4 | simp[Ao,BA,cells],trivial⟩⟩,.inl ?_⟩;try conv=>cbv
 refine g2 rfl ?_;exact AD ⟨⟨rfl,.inr (.inl ⟨_,_,by decide,rfl,rfl,rfl,rfl,C5 (by rw[I,f.rp]) (by rw[z,I];rfl)⟩),trivial⟩,trivial⟩
theorem jd {u:List (List Rat)} (h:Ae R u) (J:T≠[]) (z:A=em u x) (K:B=em u y) (G:In u x) (L:In u y) (I:x=0) (D:C=em u 0) (v:zn=C.length):CF 301 [.one (.sl (.sl AA) T),.one (.sl AA A),.one (.sl AA B)] (.one (.own AA C zn)):=by
 refine AJ Tryz.func301 fun E F=>?_
 conv=>cbv
 refine .inr ?_;rintro n16 ⟨H,f16⟩;conv=>cbv
 intro n17 f;conv=>cbv
 cases n17 <;> conv=>cbv
 ·have w:=Ah f;refine AB F (I6 h.red G z I) ?_;conv=>cbv
  have q:A.length=2^u.length:=by rw[z,BJ G]
  rintro n34 ⟨m,f34⟩;conv=>cbv
  obtain⟨j,a⟩:=xR (em u (0));obtain⟨k,b⟩:=xN j.length;refine AB (r:= .one (.own AA j k)) F (PL h (AO.of (by rw[m,q])) a b) ?_;conv=>cbv
  exact AD ⟨⟨rfl,.inr (.inl ⟨_,_,by decide,rfl,rfl,b,rfl,C5 (by rw[D,a]) (by rw[v,D,<-a])⟩),trivial⟩,trivial⟩
 have w:=Aj f;exact absurd (List.length_eq_zero_iff.1 (by omega)) J
theorem je {u:List (List Rat)} (h:Ae R u) (L:T≠[]) (D:A=em u x) (K:B=em u y) (G:In u x) (M:In u y) (I:y=0) (J:x≠0) (F:C=em u 0) (w:zn=C.length):CF 301 [.one (.sl (.sl AA) T),.one (.sl AA A),.one (.sl AA B)] (.one (.own AA C zn)):=by
 refine AJ Tryz.func301 fun E v=>?_
 conv=>cbv
 refine .inr ?_;rintro n16 ⟨H,f16⟩;conv=>cbv
 intro n17 f;conv=>cbv
 cases n17 <;> conv=>cbv
 ·have z:=Ah f;refine AB v (Hd h.red G D J) ?_;conv=>cbv
  refine AB v (I6 h.red M K I) ?_;conv=>cbv
  have q:A.length=2^u.length:=by rw[D,BJ G]
  rintro n34 ⟨m,f34⟩;conv=>cbv
  obtain⟨j,a⟩:=xR (em u (0));obtain⟨k,b⟩:=xN j.length;refine AB (r:= .one (.own AA j k)) v (PL h (AO.of (by rw[m,q])) a b) ?_;conv=>cbv
  exact AD ⟨⟨rfl,.inr (.inl ⟨_,_,by decide,rfl,rfl,b,rfl,C5 (by rw[F,a]) (by rw[w,F,<-a])⟩),trivial⟩,trivial⟩
 have z:=Aj f;exact absurd (List.length_eq_zero_iff.1 (by omega)) L
def TG (f:FuncId) (R:Nat) (u:List (List Rat)):Prop:=∀{T:List LR} {A B C:LR} {zn s t:Nat} {x y:Re},T=tw u->A=em u x->B=em u y->El u s x->El u t y->s+t+EE u.length R<=60000000000000->C=em u (x*y)->zn=C.length->
 CF f [.one (.sl (.sl AA) T),.one (.sl AA A),.one (.sl AA B)] (.one (.own AA C zn))
theorem jc {u:List (List Rat)} {r:List Rat} (h:Ae R (r::u)) (W:TG 301 R u) (hT:T=tw (r::u)) (hA:A=em (r::u) x) (hB:B=em (r::u) y) (hx:El (r::u) s x) (hy:El (r::u) t y) (ak:s+t+EE (r::u).length R<=60000000000000) (h0:x≠0) (h1:y≠0) (hC:C=em (r::u) (x*y)) (a8:zn=C.length):CF 301 [.one (.sl (.sl AA) T),.one (.sl AA A),.one (.sl AA B)] (.one (.own AA C zn)):=by
 obtain⟨p,q,a6,H,G⟩:=El.parts h.red hx;obtain⟨a,b,a7,ha,hb⟩:=El.parts h.red hy;have ai:EE (r::u).length R=2*EE u.length R+R+2:=rfl;have I:=El.Cv h;have hR:=h.hR;have aj:=Cb h.red;refine AJ Tryz.func301 fun E j=>?_
 conv=>cbv
 refine .inr ?_;rintro n16 ⟨ah,f16⟩;conv=>cbv
 intro n17 a1;conv=>cbv
 cases n17 <;> conv=>cbv
 ·have aa:=Ah a1;refine AB j (Hd h.red hx.mem hA h0) ?_;conv=>cbv
  refine AB j (Hd h.red hy.mem hB h1) ?_;conv=>cbv
  obtain⟨al,f⟩:=xV (tw u);obtain⟨an,M⟩:=xR (Aa r);refine AB j (Sc hT f M) ?_;conv=>cbv
  obtain⟨ao,k⟩:=xR (em u p);obtain⟨aq,m⟩:=xR (em u q);refine AB j (OB h.red H.mem G.mem a6 hA k m) ?_;conv=>cbv
  obtain⟨ar,v⟩:=xR (em u a);obtain⟨au,w⟩:=xR (em u b);refine AB j (OB h.red ha.mem hb.mem a7 hB v w) ?_;conv=>cbv
  obtain⟨av,N⟩:=xR (em u (p*a));refine AB j (C8 (W f k v H ha (by omega) N rfl)) ?_;conv=>cbv
  obtain⟨aw,O⟩:=xR (em u (q*b));refine AB j (C8 (W f m w G hb (by omega) O rfl)) ?_;conv=>cbv
  obtain⟨ax,P⟩:=xR (em u (q*b*AM u r));refine AB j (C8 (W f O (M.trans (EG h.red)) (G.mul h.tail hb) I (by omega) P rfl)) ?_;conv=>cbv
  obtain⟨J,z⟩:=xR (em u (p*a+q*b*AM u r));obtain⟨ag,D⟩:=xN J.length;refine AB j (UO h.tail N P (H.mul h.tail ha) ((G.mul h.tail hb).mul h.tail I) (by omega) (by omega) z D) ?_;conv=>cbv
  obtain⟨ay,Q⟩:=xR (em u (p*b));refine AB j (C8 (W f k w H hb (by omega) Q rfl)) ?_;conv=>cbv
  obtain⟨az,S⟩:=xR (em u (q*a));refine AB j (C8 (W f m v G ha (by omega) S rfl)) ?_;conv=>cbv
  obtain⟨K,F⟩:=xR (em u (p*b+q*a));refine AB j (NO h.tail Q S (H.mul h.tail hb) (G.mul h.tail ha) (by omega) (by omega) F) ?_;conv=>cbv
  have ad:J.length=2^u.length:=by rw[z,BJ (C0 (H.mul h.tail ha).mem ((G.mul h.tail hb).mul h.tail I).mem)]
  have ae:K.length=2^u.length:=by rw[F,BJ (C0 (H.mul h.tail hb).mem (G.mul h.tail ha).mem)]
  have af:=DD h.tail.ht;refine .inl ⟨K,fun _=>⟨rfl,D,rfl,by show (J.length+K.length)*64<=140737488355328;(try simp only[List.length_take,List.length_drop]);omega⟩,?_⟩;intro (V:LR) ab U;have a2:V=(J:LR)++(K:LR):=U.1;have a5:ab=List.length (α:=(el AA)) V:=U.2;conv=>cbv
  have L:C=V:=by rw[hC,a2,z,F];exact En h.red (C0 (H.mul h.tail ha).mem ((G.mul h.tail hb).mul h.tail I).mem) (C0 (H.mul h.tail hb).mem (G.mul h.tail ha).mem) (by rw[a6,a7];clear W;grind)
  exact AD ⟨⟨rfl,.inr (.inl ⟨_,_,by decide,rfl,rfl,a5,rfl,C5 (L) (by rw[a8,L])⟩),trivial⟩,trivial⟩
 have aa:=Aj a1;exact absurd (List.length_eq_zero_iff.1 (by omega)) (hT ▸ K4 r u)
theorem mulC {u:List (List Rat)} (h:Ae R u):TG 301 R u:=by
 induction u with
 | nil=>
  intro T A B C zn s t x y v b f k m w j a;obtain⟨p,rfl⟩:=CN.1 k.mem;obtain⟨q,rfl⟩:=CN.1 m.mem;rw[Dx] at b f;rw[<-Re.ofRat_mul,Dx] at j;have F:=k.Bh (by omega);have G:=m.Bh (by omega);rw[CQ] at F G;exact jZ v b f (F _ List.mem_cons_self) (G _ List.mem_cons_self) j a
 | cons r u H=>
  intro T A B C zn s t x y v b f k m w j a
  by_cases z:x=0
  ·refine jd h (v ▸ K4 r u) b f k.mem m.mem z ?_ a;rw[j,z];congr 1;grind
  by_cases D:y=0
  ·refine je h (v ▸ K4 r u) b f k.mem m.mem D z ?_ a;rw[j,D];congr 1;grind
  exact jc h (H h.tail) v b f k m w z D j a
theorem L0 {u:List (List Rat)} (h:Ae R u) (k:T=tw u) (b:A=em u x) (f:B=em u y) (m:El u s x) (q:El u t y) (a:s+t+EE u.length R<=60000000000000) (j:C=em u (x*y)):
 CF 301 [.one (.sl (.sl AA) T),.one (.sl AA A),.one (.sl AA B)] (.one (.sl AA C)):=C8 (mulC h k b f m q a j rfl)
end Go.Abs
