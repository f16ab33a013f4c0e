/- Part 16 of a proof. Conditions: each theorem's own. -/
import Derived.Test.YtmaoeopjnhfplaaGreatQk12
set_option linter.all false
set_option maxHeartbeats 8000000
set_option maxRecDepth 20000
open Go.Proofs
namespace Go.Abs
open Go.RowKit
variable {b' b1 b2 c c1 c2 d1 d2:Bool} {d n x y:Int} {k1 k2 l l' l1 l2 m1 m2:List UInt32} {r:Rat}
theorem Xs {b:Bool} (f:BH x b l) (hc:c=decide (x=0)):CF 336 [.agg (Bi b l)] (.one (.bool c)):=by
 refine AO Tryz.func336 fun E j=>?_
 conv=>cbv
 rintro k ⟨h,f5⟩;conv=>cbv
 intro m a;conv=>cbv
 exact AF ⟨⟨rfl,congrArg _ (by rw[hc,a,Bool.eq_iff_iff];simp only[decide_eq_true_eq,beq_iff_eq];rw[<-f.GU];omega),trivial⟩,trivial⟩
theorem Ku {b:Bool} (k:BH x b l) (hc:c=decide (x=1)):CF 344 [.agg (Bi b l)] (.one (.bool c)):=by
 refine AO Tryz.func344 fun E I=>?_
 conv=>cbv
 intro G w;conv=>cbv
 cases G <;> conv=>cbv
 ·have q:=FX w;exact AF ⟨⟨rfl,congrArg _ (by rw[hc];exact (SO k q).symm),trivial⟩,trivial⟩
 have q:=FY w;rintro J ⟨H,f9⟩;conv=>cbv
 intro u f;conv=>cbv
 cases u <;> conv=>cbv
 ·have m:=BR f;exact AF ⟨⟨rfl,congrArg _ (by rw[hc];exact (Y0 k (by omega)).symm),trivial⟩,trivial⟩
 have m:=BS f;obtain⟨v,a⟩:=AS (l:=l) (i:=0) (by omega);refine⟨v,fun _=>⟨by omega,a⟩,?_⟩;try conv=>cbv
 intro D h;have z:=h.eq;have f16:=h.lt;conv=>cbv
 intro F j;conv=>cbv
 exact AF ⟨⟨rfl,congrArg _ (by rw[hc,j,<-SQ k q (by omega) a,Bool.eq_iff_iff];simp only[decide_eq_true_eq,beq_iff_eq];omega),trivial⟩,trivial⟩
theorem SP {b:Bool} (f:BH 1 b l):CF 251 [] (.agg (Bi b l)):=by
 refine AO Tryz.func251 fun E h=>?_
 conv=>cbv
 obtain⟨j,k,a⟩:=BE (1);refine AB h (NQ (by omega) a) ?_;conv=>cbv
 exact AF ⟨⟨rfl,congrArg _ ((a.uniq f rfl).1.symm),congrArg _ ((a.uniq f rfl).2.symm),trivial⟩,trivial⟩
theorem O1 {b3:Bool} {l3:List UInt32} (j:BH x b1 l1) (q:BH y b2 l2) (k:y≠0) (h:BH (Cb x y) b3 l3) (s1:l1.length<=17592186042000) (s2:l2.length<=17592186042000):CF 359 [.agg (Bi b1 l1),.agg (Bi b2 l2)] (.agg (Bi b3 l3)):=by
 refine AO Tryz.func359 fun E m=>?_
 conv=>cbv
 obtain⟨D,b⟩:=xB (decide (y=1));refine AB m (Ku q b) ?_;conv=>cbv
 cases D <;> conv=>cbv
 ·obtain⟨w,z,a⟩:=BE (Cb x y);obtain⟨u,v,f⟩:=BE (HW x y);refine AB m (bj j q k a f (by omega) (by omega)) ?_;conv=>cbv
  exact AF ⟨⟨rfl,congrArg _ ((a.uniq h rfl).1.symm),congrArg _ ((a.uniq h rfl).2.symm),trivial⟩,trivial⟩
 exact AF ⟨⟨rfl,congrArg _ ((h.uniq j (by rw[of_decide_eq_true b.symm];exact Ws x)).1),congrArg _ ((h.uniq j (by rw[of_decide_eq_true b.symm];exact Ws x)).2),trivial⟩,trivial⟩
theorem MR {b:Bool} (a:d≠0) (h:BH d b l) (h':BH ((Nat.gcd n.natAbs d.natAbs:Nat):Int) b' l'):l'.length<=l.length:=by
 rw[h.Bj,h'.Bj,Int.natAbs_natCast];exact FB (Nat.le_of_dvd (by omega) (Nat.gcd_dvd_right _ _))
theorem OM {b:Bool} (a:d≠0) (h:BH d b l) (h':BH (-((Nat.gcd n.natAbs d.natAbs:Nat):Int)) b' l'):l'.length<=l.length:=by
 rw[h.Bj,h'.Bj,Int.natAbs_neg,Int.natAbs_natCast];exact FB (Nat.le_of_dvd (by omega) (Nat.gcd_dvd_right _ _))
theorem ON (a:d≠0):((Nat.gcd n.natAbs d.natAbs:Nat):Int)≠0:=by
 have:=Nat.gcd_pos_of_pos_right n.natAbs (n:=d.natAbs) (by omega);omega
theorem RK {b:Bool} (h:BH d b l) (e:b=true):d<0:=by
 have:=h.neg;rw[e] at this;simpa using this.symm
theorem RJ {b:Bool} (h:BH d b l) (e:b=false):¬d<0:=by
 have:=h.neg;rw[e] at this;simpa using this.symm
theorem K6 {q:Rat} (M:BH n b1 l1) (j:BH d b2 l2) (k:d≠0) (L:q=Rat.divInt n d) (D:Bm q c1 m1 c2 m2) (s1:l1.length<=17592186042000) (s2:l2.length<=17592186042000):CF 337 [.agg (Bi b1 l1),.agg (Bi b2 l2)] (.agg (B5 c1 m1 c2 m2)):=by
 refine AO Tryz.func337 fun E H=>?_
 conv=>cbv
 obtain⟨N,O,h⟩:=BE (((Nat.gcd n.natAbs d.natAbs:Nat):Int));refine AB H (Ul M j h (by omega) (by omega)) ?_;conv=>cbv
 refine .inr ?_;cases b2 <;> conv=>cbv
 ·obtain⟨u,w,a⟩:=BE (Cb n (if d<0 then -((Nat.gcd n.natAbs d.natAbs:Nat):Int) else ((Nat.gcd n.natAbs d.natAbs:Nat):Int)));have K:BH (if d<0 then -((Nat.gcd n.natAbs d.natAbs:Nat):Int) else ((Nat.gcd n.natAbs d.natAbs:Nat):Int)) N O:=by rw[if_neg (RJ j rfl)];exact h
  have m:(if d<0 then -((Nat.gcd n.natAbs d.natAbs:Nat):Int) else ((Nat.gcd n.natAbs d.natAbs:Nat):Int))≠0:=by rw[if_neg (RJ j rfl)];have:=ON (n:=n) k;omega
  have J:Cb n (if d<0 then -((Nat.gcd n.natAbs d.natAbs:Nat):Int) else ((Nat.gcd n.natAbs d.natAbs:Nat):Int))=q.num:=by rw[L];exact (Oc k).symm
  have I:Cb d (if d<0 then -((Nat.gcd n.natAbs d.natAbs:Nat):Int) else ((Nat.gcd n.natAbs d.natAbs:Nat):Int))=(q.den:Int):=by rw[L];exact (Ob k).symm
  refine AB (r:= .agg [.bool u,.sl .u32 w]) H (O1 M K m a (by omega) (by have:=MR k j h;omega)) ?_;try conv=>cbv
  obtain⟨v,z,b⟩:=BE (Cb d (if d<0 then -((Nat.gcd n.natAbs d.natAbs:Nat):Int) else ((Nat.gcd n.natAbs d.natAbs:Nat):Int)));refine AB (r:= .agg [.bool v,.sl .u32 z]) H (O1 j K m b (by omega) (by have:=MR k j h;omega)) ?_;try conv=>cbv
  refine g2 rfl ?_;exact AF ⟨⟨rfl,congrArg _ ((a.uniq D.num J).1.symm),congrArg _ ((a.uniq D.num J).2.symm),congrArg _ ((b.uniq D.den I).1.symm),congrArg _ ((b.uniq D.den I).2.symm),trivial⟩,trivial⟩
 obtain⟨F,G,f⟩:=BE (-((Nat.gcd n.natAbs d.natAbs:Nat):Int));refine AB (r:= .agg [.bool F,.sl .u32 G]) H (Ur h (by have:=MR k j h;omega) f) ?_;try conv=>cbv
 obtain⟨u,w,a⟩:=BE (Cb n (if d<0 then -((Nat.gcd n.natAbs d.natAbs:Nat):Int) else ((Nat.gcd n.natAbs d.natAbs:Nat):Int)));have K:BH (if d<0 then -((Nat.gcd n.natAbs d.natAbs:Nat):Int) else ((Nat.gcd n.natAbs d.natAbs:Nat):Int)) F G:=by rw[if_pos (RK j rfl)];exact f
 have m:(if d<0 then -((Nat.gcd n.natAbs d.natAbs:Nat):Int) else ((Nat.gcd n.natAbs d.natAbs:Nat):Int))≠0:=by rw[if_pos (RK j rfl)];have:=ON (n:=n) k;omega
 have J:Cb n (if d<0 then -((Nat.gcd n.natAbs d.natAbs:Nat):Int) else ((Nat.gcd n.natAbs d.natAbs:Nat):Int))=q.num:=by rw[L];exact (Oc k).symm
 have I:Cb d (if d<0 then -((Nat.gcd n.natAbs d.natAbs:Nat):Int) else ((Nat.gcd n.natAbs d.natAbs:Nat):Int))=(q.den:Int):=by rw[L];exact (Ob k).symm
 refine AB (r:= .agg [.bool u,.sl .u32 w]) H (O1 M K m a (by omega) (by have:=OM k j f;omega)) ?_;try conv=>cbv
 obtain⟨v,z,b⟩:=BE (Cb d (if d<0 then -((Nat.gcd n.natAbs d.natAbs:Nat):Int) else ((Nat.gcd n.natAbs d.natAbs:Nat):Int)));refine AB (r:= .agg [.bool v,.sl .u32 z]) H (O1 j K m b (by omega) (by have:=OM k j f;omega)) ?_;try conv=>cbv
 refine g2 rfl ?_;exact AF ⟨⟨rfl,congrArg _ ((a.uniq D.num J).1.symm),congrArg _ ((a.uniq D.num J).2.symm),congrArg _ ((b.uniq D.den I).1.symm),congrArg _ ((b.uniq D.den I).2.symm),trivial⟩,trivial⟩
theorem Hn {q:Rat} (k: -9223372036854775808<=x/\x<9223372036854775808) (f:q=(x:Rat)) (h:Bm q c1 m1 c2 m2):CF 180 [.one (.int .i64 x)] (.agg (B5 c1 m1 c2 m2)):=by
 refine AO Tryz.func180 fun E j=>?_
 conv=>cbv
 obtain⟨m,v,a⟩:=BE (x);refine AB j (NQ k a) ?_;conv=>cbv
 obtain⟨u,w,b⟩:=BE (1);refine AB j (SP b) ?_;conv=>cbv
 exact AF ⟨⟨rfl,congrArg _ ((a.uniq h.num (by rw[f];rfl)).1.symm),congrArg _ ((a.uniq h.num (by rw[f];rfl)).2.symm),congrArg _ ((b.uniq h.den (by rw[f];rfl)).1.symm),congrArg _ ((b.uniq h.den (by rw[f];rfl)).2.symm),trivial⟩,trivial⟩
theorem NU {q:Rat} {c:Int} (f:Bm q b1 l1 b2 l2) (hc:c=FQ q):CF 276 [.agg (B5 b1 l1 b2 l2)] (.one (.int .i64 c)):=by
 refine AO Tryz.func276 fun E b=>?_
 conv=>cbv
 obtain⟨h,a⟩:=xI (Cg q.num);refine AB b (Ls f.num a) ?_;conv=>cbv
 exact AF ⟨⟨rfl,congrArg _ (by rw[hc,a];rfl),trivial⟩,trivial⟩
theorem cY {q p:Rat} (f:Bm q b1 l1 b2 l2) (u:CQ q) (b:p= -q) (h:Bm p c1 m1 c2 m2):CF 283 [.agg (B5 b1 l1 b2 l2)] (.agg (B5 c1 m1 c2 m2)):=by
 refine AO Tryz.func283 fun E m=>?_
 conv=>cbv
 obtain⟨j,k,a⟩:=BE (-q.num);refine AB (r:= .agg [.bool j,.sl .u32 k]) m (Ur f.num (by have:=f.small u;omega) a) ?_;try conv=>cbv
 refine g2 rfl ?_;exact AF ⟨⟨rfl,congrArg _ ((a.uniq h.num (by rw[b];rfl)).1.symm),congrArg _ ((a.uniq h.num (by rw[b];rfl)).2.symm),congrArg _ ((f.den.uniq h.den (by rw[b];rfl)).1.symm),congrArg _ ((f.den.uniq h.den (by rw[b];rfl)).2.symm),trivial⟩,trivial⟩
theorem cT {p q:Rat} (a:Bm p b1 l1 b2 l2) (b:Bm q c1 m1 c2 m2) (v:CQ p) (ht:CQ q) (W:r=p+q) (D:Bm r d1 k1 d2 k2):CF 310 [.agg (B5 b1 l1 b2 l2),.agg (B5 c1 m1 c2 m2)] (.agg (B5 d1 k1 d2 k2)):=by
 refine AO Tryz.func310 fun E z=>?_
 conv=>cbv
 obtain⟨b8,F⟩:=xB (decide ((p.den:Int)=1));refine AB z (Ku a.den F) ?_;conv=>cbv
 cases b8 <;> conv=>cbv
 ·obtain⟨K,P,f⟩:=BE (p.num*q.den);refine AB (r:= .agg [.bool K,.sl .u32 P]) z (F7 a.num b.den f (by have:=a.small v;have:=b.small ht;omega) (by have:=a.small v;have:=b.small ht;omega)) ?_;try conv=>cbv
  obtain⟨L,Q,h⟩:=BE (q.num*p.den);refine AB (r:= .agg [.bool L,.sl .u32 Q]) z (F7 b.num a.den h (by have:=a.small v;have:=b.small ht;omega) (by have:=a.small v;have:=b.small ht;omega)) ?_;try conv=>cbv
  obtain⟨M,S,m⟩:=BE (p.num*q.den+q.num*p.den);refine AB (r:= .agg [.bool M,.sl .u32 S]) z (Ph f h m (by have:=a.small v;have:=b.small ht;have:=a.num.Dp b.den f rfl;omega) (by have:=a.small v;have:=b.small ht;have:=b.num.Dp a.den h rfl;omega)) ?_;try conv=>cbv
  refine g2 rfl ?_;obtain⟨N,U,u⟩:=BE ((p.den:Int)*q.den);refine AB (r:= .agg [.bool N,.sl .u32 U]) z (F7 a.den b.den u (by have:=a.small v;have:=b.small ht;omega) (by have:=a.small v;have:=b.small ht;omega)) ?_;try conv=>cbv
  obtain⟨O,V,I,J,j⟩:=CI (r);refine AB (r:= .agg [.bool O,.sl .u32 V,.bool I,.sl .u32 J]) z (K6 m u (Int.mul_ne_zero (HP p) (HP q)) (W.trans (QE p q)) j (by have:=a.small v;have:=b.small ht;have:=a.num.Dp b.den f rfl;have:=b.num.Dp a.den h rfl;have:=f.Nl h m rfl (k:=8000000000000) (by omega) (by omega);omega) (by have:=a.small v;have:=b.small ht;have:=a.den.Dp b.den u rfl;omega)) ?_;try conv=>cbv
  refine g2 rfl ?_;exact AF ⟨⟨rfl,congrArg _ ((j.uniq D rfl).1.1.symm),congrArg _ ((j.uniq D rfl).1.2.symm),congrArg _ ((j.uniq D rfl).2.1.symm),congrArg _ ((j.uniq D rfl).2.2.symm),trivial⟩,trivial⟩
 obtain⟨a5,w⟩:=xB (decide ((q.den:Int)=1));refine AB z (Ku b.den w) ?_;conv=>cbv
 cases a5 <;> conv=>cbv
 ·obtain⟨K,P,f⟩:=BE (p.num*q.den);refine AB (r:= .agg [.bool K,.sl .u32 P]) z (F7 a.num b.den f (by have:=a.small v;have:=b.small ht;omega) (by have:=a.small v;have:=b.small ht;omega)) ?_;try conv=>cbv
  obtain⟨L,Q,h⟩:=BE (q.num*p.den);refine AB (r:= .agg [.bool L,.sl .u32 Q]) z (F7 b.num a.den h (by have:=a.small v;have:=b.small ht;omega) (by have:=a.small v;have:=b.small ht;omega)) ?_;try conv=>cbv
  obtain⟨M,S,m⟩:=BE (p.num*q.den+q.num*p.den);refine AB (r:= .agg [.bool M,.sl .u32 S]) z (Ph f h m (by have:=a.small v;have:=b.small ht;have:=a.num.Dp b.den f rfl;omega) (by have:=a.small v;have:=b.small ht;have:=b.num.Dp a.den h rfl;omega)) ?_;try conv=>cbv
  refine g2 rfl ?_;obtain⟨N,U,u⟩:=BE ((p.den:Int)*q.den);refine AB (r:= .agg [.bool N,.sl .u32 U]) z (F7 a.den b.den u (by have:=a.small v;have:=b.small ht;omega) (by have:=a.small v;have:=b.small ht;omega)) ?_;try conv=>cbv
  obtain⟨O,V,I,J,j⟩:=CI (r);refine AB (r:= .agg [.bool O,.sl .u32 V,.bool I,.sl .u32 J]) z (K6 m u (Int.mul_ne_zero (HP p) (HP q)) (W.trans (QE p q)) j (by have:=a.small v;have:=b.small ht;have:=a.num.Dp b.den f rfl;have:=b.num.Dp a.den h rfl;have:=f.Nl h m rfl (k:=8000000000000) (by omega) (by omega);omega) (by have:=a.small v;have:=b.small ht;have:=a.den.Dp b.den u rfl;omega)) ?_;try conv=>cbv
  refine g2 rfl ?_;exact AF ⟨⟨rfl,congrArg _ ((j.uniq D rfl).1.1.symm),congrArg _ ((j.uniq D rfl).1.2.symm),congrArg _ ((j.uniq D rfl).2.1.symm),congrArg _ ((j.uniq D rfl).2.2.symm),trivial⟩,trivial⟩
 obtain⟨a1,a2,G⟩:=BE (p.num+q.num);refine AB (r:= .agg [.bool a1,.sl .u32 a2]) z (Ph a.num b.num G (by have:=a.small v;have:=b.small ht;omega) (by have:=a.small v;have:=b.small ht;omega)) ?_;try conv=>cbv
 obtain⟨a6,a7,H⟩:=BE (1);refine AB z (SP H) ?_;conv=>cbv
 exact AF ⟨⟨rfl,congrArg _ ((G.uniq D.num (by rw[W];exact (I6 (of_decide_eq_true F.symm) (of_decide_eq_true w.symm)).1.symm)).1.symm),congrArg _ ((G.uniq D.num (by rw[W];exact (I6 (of_decide_eq_true F.symm) (of_decide_eq_true w.symm)).1.symm)).2.symm),congrArg _ ((H.uniq D.den (by rw[W,(I6 (of_decide_eq_true F.symm) (of_decide_eq_true w.symm)).2];rfl)).1.symm),congrArg _ ((H.uniq D.den (by rw[W,(I6 (of_decide_eq_true F.symm) (of_decide_eq_true w.symm)).2];rfl)).2.symm),trivial⟩,trivial⟩
theorem cW {p q:Rat} (b:Bm p b1 l1 b2 l2) (f:Bm q c1 m1 c2 m2) (m:CQ p) (ht:CQ q) (N:r=p*q) (u:Bm r d1 k1 d2 k2):CF 317 [.agg (B5 b1 l1 b2 l2),.agg (B5 c1 m1 c2 m2)] (.agg (B5 d1 k1 d2 k2)):=by
 refine AO Tryz.func317 fun E M=>?_
 conv=>cbv
 obtain⟨V,v⟩:=xB (decide ((p.den:Int)=1));refine AB M (Ku b.den v) ?_;conv=>cbv
 cases V <;> conv=>cbv
 ·obtain⟨G,J,h⟩:=BE (p.num*q.num);refine AB (r:= .agg [.bool G,.sl .u32 J]) M (F7 b.num f.num h (by have:=b.small m;have:=f.small ht;omega) (by have:=b.small m;have:=f.small ht;omega)) ?_;try conv=>cbv
  obtain⟨H,K,j⟩:=BE ((p.den:Int)*q.den);refine AB (r:= .agg [.bool H,.sl .u32 K]) M (F7 b.den f.den j (by have:=b.small m;have:=f.small ht;omega) (by have:=b.small m;have:=f.small ht;omega)) ?_;try conv=>cbv
  obtain⟨I,L,D,F,a⟩:=CI (r);refine AB (r:= .agg [.bool I,.sl .u32 L,.bool D,.sl .u32 F]) M (K6 h j (Int.mul_ne_zero (HP p) (HP q)) (N.trans (Ok p q)) a (by have:=b.small m;have:=f.small ht;have:=b.num.Dp f.num h rfl;omega) (by have:=b.small m;have:=f.small ht;have:=b.den.Dp f.den j rfl;omega)) ?_;try conv=>cbv
  refine g2 rfl ?_;exact AF ⟨⟨rfl,congrArg _ ((a.uniq u rfl).1.1.symm),congrArg _ ((a.uniq u rfl).1.2.symm),congrArg _ ((a.uniq u rfl).2.1.symm),congrArg _ ((a.uniq u rfl).2.2.symm),trivial⟩,trivial⟩
 obtain⟨Q,k⟩:=xB (decide ((q.den:Int)=1));refine AB M (Ku f.den k) ?_;conv=>cbv
 cases Q <;> conv=>cbv
 ·obtain⟨G,J,h⟩:=BE (p.num*q.num);refine AB (r:= .agg [.bool G,.sl .u32 J]) M (F7 b.num f.num h (by have:=b.small m;have:=f.small ht;omega) (by have:=b.small m;have:=f.small ht;omega)) ?_;try conv=>cbv
  obtain⟨H,K,j⟩:=BE ((p.den:Int)*q.den);refine AB (r:= .agg [.bool H,.sl .u32 K]) M (F7 b.den f.den j (by have:=b.small m;have:=f.small ht;omega) (by have:=b.small m;have:=f.small ht;omega)) ?_;try conv=>cbv
  obtain⟨I,L,D,F,a⟩:=CI (r);refine AB (r:= .agg [.bool I,.sl .u32 L,.bool D,.sl .u32 F]) M (K6 h j (Int.mul_ne_zero (HP p) (HP q)) (N.trans (Ok p q)) a (by have:=b.small m;have:=f.small ht;have:=b.num.Dp f.num h rfl;omega) (by have:=b.small m;have:=f.small ht;have:=b.den.Dp f.den j rfl;omega)) ?_;try conv=>cbv
  refine g2 rfl ?_;exact AF ⟨⟨rfl,congrArg _ ((a.uniq u rfl).1.1.symm),congrArg _ ((a.uniq u rfl).1.2.symm),congrArg _ ((a.uniq u rfl).2.1.symm),congrArg _ ((a.uniq u rfl).2.2.symm),trivial⟩,trivial⟩
 obtain⟨O,P,w⟩:=BE (p.num*q.num);refine AB (r:= .agg [.bool O,.sl .u32 P]) M (F7 b.num f.num w (by have:=b.small m;have:=f.small ht;omega) (by have:=b.small m;have:=f.small ht;omega)) ?_;try conv=>cbv
 obtain⟨S,U,z⟩:=BE (1);refine AB M (SP z) ?_;conv=>cbv
 exact AF ⟨⟨rfl,congrArg _ ((w.uniq u.num (by rw[N];exact (mul_ones (of_decide_eq_true v.symm) (of_decide_eq_true k.symm)).1.symm)).1.symm),congrArg _ ((w.uniq u.num (by rw[N];exact (mul_ones (of_decide_eq_true v.symm) (of_decide_eq_true k.symm)).1.symm)).2.symm),congrArg _ ((z.uniq u.den (by rw[N,(mul_ones (of_decide_eq_true v.symm) (of_decide_eq_true k.symm)).2];rfl)).1.symm),congrArg _ ((z.uniq u.den (by rw[N,(mul_ones (of_decide_eq_true v.symm) (of_decide_eq_true k.symm)).2];rfl)).2.symm),trivial⟩,trivial⟩
theorem cV {p q:Rat} (j:Bm p b1 l1 b2 l2) (b:Bm q c1 m1 c2 m2) (k:CQ p) (ht:CQ q) (u:q≠0) (M:r=p/q) (K:Bm r d1 k1 d2 k2):CF 294 [.agg (B5 b1 l1 b2 l2),.agg (B5 c1 m1 c2 m2)] (.AG [(true,(B5 d1 k1 d2 k2)),(false,[.int .i64 0])]):=by
 refine AO Tryz.func294 fun E J=>?_
 conv=>cbv
 obtain⟨L,m⟩:=xB (decide (q.num=0));refine AB J (Xs b.num m) ?_;conv=>cbv
 cases L <;> conv=>cbv
 ·obtain⟨z,G,f⟩:=BE (p.num*q.den);refine AB (r:= .agg [.bool z,.sl .u32 G]) J (F7 j.num b.den f (by have:=j.small k;have:=b.small ht;omega) (by have:=j.small k;have:=b.small ht;omega)) ?_;try conv=>cbv
  obtain⟨D,H,h⟩:=BE ((p.den:Int)*q.num);refine AB (r:= .agg [.bool D,.sl .u32 H]) J (F7 j.den b.num h (by have:=j.small k;have:=b.small ht;omega) (by have:=j.small k;have:=b.small ht;omega)) ?_;try conv=>cbv
  obtain⟨F,I,v,w,a⟩:=CI (r);refine AB (r:= .agg [.bool F,.sl .u32 I,.bool v,.sl .u32 w]) J (K6 f h (Int.mul_ne_zero (HP p) (mt Rat.num_eq_zero.1 u)) (M.trans (gW p q)) a (by have:=j.small k;have:=b.small ht;have:=j.num.Dp b.den f rfl;omega) (by have:=j.small k;have:=b.small ht;have:=j.den.Dp b.num h rfl;omega)) ?_;try conv=>cbv
  refine g2 rfl ?_;exact AF ⟨⟨rfl,congrArg _ ((a.uniq K rfl).1.1.symm),congrArg _ ((a.uniq K rfl).1.2.symm),congrArg _ ((a.uniq K rfl).2.1.symm),congrArg _ ((a.uniq K rfl).2.2.symm),trivial⟩,t2,trivial⟩
 exact absurd (Rat.num_eq_zero.1 (of_decide_eq_true m.symm)) u
theorem TU (q:Rat):(q.num<0/\FQ q= -1)\/(q.num=0/\FQ q=0)\/(0<q.num/\FQ q=1):=GY q.num
theorem ML (q:Rat):0<(q.den:Int):=by have:=q.den_pos;omega
theorem aC {p q:Rat} (h:FQ p<FQ q):p<q:=by
 rw[Rat.lt_iff];rcases TU p with⟨a,e⟩ |⟨a,e⟩ |⟨a,e⟩ <;> rcases TU q with⟨b,e'⟩ |⟨b,e'⟩ |⟨b,e'⟩ <;> rw[e,e'] at h <;> try omega
 ·rw[b,Int.zero_mul];exact Int.mul_neg_of_neg_of_pos a (ML q)
 ·exact Int.lt_trans (Int.mul_neg_of_neg_of_pos a (ML q)) (Int.mul_pos b (ML p))
 rw[a,Int.zero_mul];exact Int.mul_pos b (ML p)
theorem gH {p q:Rat} (h:p<q):HA p q= -1:=by unfold HA;rw[if_pos h]
theorem gG {p q:Rat} (h:q<p):HA p q=1:=by
 unfold HA;rw[if_neg (fun h'=>Int.lt_asymm ((Rat.lt_iff _ _).1 h) ((Rat.lt_iff _ _).1 h')),if_pos h]
theorem We (p q:Rat):HA p q=Bv (p.num*q.den) (q.num*p.den):=by
 unfold HA Bv;simp only[Rat.lt_iff]
theorem cU {p q:Rat} {c:Int} (h:Bm p b1 l1 b2 l2) (j:Bm q c1 m1 c2 m2) (G:CQ p) (ht:CQ q) (hc:c=HA p q):CF 235 [.agg (B5 b1 l1 b2 l2),.agg (B5 c1 m1 c2 m2)] (.one (.int .i64 c)):=by
 refine AO Tryz.func235 fun E u=>?_
 conv=>cbv
 obtain⟨O,H⟩:=xI (FQ p);refine AB u (NU h H) ?_;conv=>cbv
 obtain⟨M,v⟩:=xI (FQ q);refine AB u (NU j v) ?_;conv=>cbv
 refine g2 rfl ?_;intro K k;conv=>cbv
 cases K <;> conv=>cbv
 ·have I:=DQ k;obtain⟨w,D,b⟩:=BE (p.num*q.den);refine AB (r:= .agg [.bool w,.sl .u32 D]) u (F7 h.num j.den b (by have:=h.small G;have:=j.small ht;omega) (by have:=h.small G;have:=j.small ht;omega)) ?_;try conv=>cbv
  obtain⟨z,F,f⟩:=BE (q.num*p.den);refine AB (r:= .agg [.bool z,.sl .u32 F]) u (F7 j.num h.den f (by have:=h.small G;have:=j.small ht;omega) (by have:=h.small G;have:=j.small ht;omega)) ?_;try conv=>cbv
  obtain⟨N,a⟩:=xI (Bv (p.num*q.den) (q.num*p.den));refine AB u (Ui b f a) ?_;conv=>cbv
  refine g2 rfl ?_;exact AF ⟨⟨rfl,congrArg _ (by rw[hc,a,We]),trivial⟩,trivial⟩
 have I:=DR k;intro L m;conv=>cbv
 cases L <;> conv=>cbv
 ·have J:=BK m;exact AF ⟨⟨rfl,congrArg _ (by rw[hc];exact gG (aC (by omega))),trivial⟩,trivial⟩
 have J:=BL m;exact AF ⟨⟨rfl,congrArg _ (by rw[hc];exact gH (aC (by omega))),trivial⟩,trivial⟩
theorem Kv {b:Bool} (h:BH x b l) (h':BH ((Br x.toNat:Nat):Int) b' l'):l'.length<=l.length:=by
 rw[h.Bj,h'.Bj,Int.natAbs_natCast];exact FB (Nat.le_trans (Nat.le_trans (Nat.le_mul_self _) (MV x.toNat)) (by omega))
theorem lx {e:Int} (h:e=if x<0 then 7 else 0) (a:e≠0):decide (((Br x.toNat:Nat):Int)*((Br x.toNat:Nat):Int)=x)=false:=by
 have f:x<0:=by
  apply Classical.byContradiction;intro b;rw[if_neg b] at h;exact a h
 rw[show x.toNat=0 by omega];simp only[decide_eq_false_iff_not];intro h';rw[show Br 0=0 from rfl] at h';omega
theorem gK (a b:Int):decide (a=b)=(Bv a b==0):=by
 unfold Bv;rw[Bool.eq_iff_iff,decide_eq_true_eq,beq_iff_eq]
 split
 ·omega
 split <;> omega
theorem PG (u:BH x b1 l1) (v:BH ((Br x.toNat:Nat):Int) b2 l2) (hc:c=decide (((Br x.toNat:Nat):Int)*((Br x.toNat:Nat):Int)=x)) (s1:l1.length<=4000000000000):CF 379 [.agg (Bi b1 l1)] (.AG [(true,(Bi b2 l2)),(false,[.bool c])]):=by
 refine AO Tryz.func379 fun E z=>?_
 conv=>cbv
 obtain⟨H,I,a⟩:=BE ((Br x.toNat:Nat):Int);obtain⟨J,j⟩:=xI (if x<0 then 7 else 0);refine AB z (cu u a j (by omega)) ?_;conv=>cbv
 intro D h;conv=>cbv
 cases D <;> conv=>cbv
 ·have k:=BR h;refine g2 rfl ?_;exact AF ⟨⟨rfl,congrArg _ ((a.uniq v rfl).1.symm),congrArg _ ((a.uniq v rfl).2.symm),trivial⟩,⟨rfl,congrArg _ (by rw[hc];exact lx j k),trivial⟩,trivial⟩
 have k:=BS h;obtain⟨m,q,f⟩:=BE (((Br x.toNat:Nat):Int)*((Br x.toNat:Nat):Int));refine AB (r:= .agg [.bool m,.sl .u32 q]) z (F7 a a f (by have:=Kv u a;omega) (by have:=Kv u a;omega)) ?_;try conv=>cbv
 obtain⟨G,b⟩:=xI (Bv (((Br x.toNat:Nat):Int)*((Br x.toNat:Nat):Int)) x);refine AB z (Ui f u b) ?_;conv=>cbv
 intro F w;conv=>cbv
 refine g2 rfl ?_;exact AF ⟨⟨rfl,congrArg _ ((a.uniq v rfl).1.symm),congrArg _ ((a.uniq v rfl).2.symm),trivial⟩,⟨rfl,congrArg _ (by rw[hc,w,b];exact gK _ _),trivial⟩,trivial⟩
theorem cg {q:Rat} (z:Bm q b1 l1 b2 l2) (M:CQ q) (J:0<=r) (L:r*r=q) (D:Bm r c1 m1 c2 m2):CF 360 [.agg (B5 b1 l1 b2 l2)] (.AG [(true,(B5 c1 m1 c2 m2)),(false,[.bool true])]):=by
 refine AO Tryz.func360 fun E K=>?_
 conv=>cbv
 obtain⟨m,v,a⟩:=BE (r.num);have G:=ag J L;refine AB (r:= .AG [(true,[.bool m,.sl .u32 v]),(false,[.bool true])]) K (PG z.num (by rw[G.1];exact a) (by rw[G.1];exact (decide_eq_true G.2).symm) (by have:=z.small M;omega)) ?_;try conv=>cbv
 obtain⟨u,w,b⟩:=BE (r.den:Int);have F:=af J L;refine AB (r:= .AG [(true,[.bool u,.sl .u32 w]),(false,[.bool true])]) K (PG z.den (by rw[F.1];exact b) (by rw[F.1];exact (decide_eq_true F.2).symm) (by have:=z.small M;omega)) ?_;try conv=>cbv
 intro H f;conv=>cbv
 cases H <;> conv=>cbv
 ·have j:=FX f;intro I h;conv=>cbv
  cases I <;> conv=>cbv
  ·have k:=FX h;exact AF ⟨⟨rfl,congrArg _ ((a.uniq D.num rfl).1.symm),congrArg _ ((a.uniq D.num rfl).2.symm),congrArg _ ((b.uniq D.den rfl).1.symm),congrArg _ ((b.uniq D.den rfl).2.symm),trivial⟩,t2,trivial⟩
  have k:=FY h;exact absurd k (by decide)
 have j:=FY f;exact absurd j (by decide)
theorem cZ {q:Rat} (F:Bm q b1 l1 b2 l2) (L:CQ q) (M:¬∃r:Rat,0<=r/\r*r=q):CF 360 [.agg (B5 b1 l1 b2 l2)] (.AG [(true,[.bool false,.sl .u32 [],.bool false,.sl .u32 []]),(false,[.bool false])]):=by
 refine AO Tryz.func360 fun E K=>?_
 conv=>cbv
 obtain⟨v,z,j⟩:=BE (((Br q.num.toNat:Nat):Int));obtain⟨G,a⟩:=xB (decide (((Br q.num.toNat:Nat):Int)*((Br q.num.toNat:Nat):Int)=q.num));refine AB (r:= .AG [(true,[.bool v,.sl .u32 z]),(false,[.bool G])]) K (PG F.num j a (by have:=F.small L;omega)) ?_;try conv=>cbv
 obtain⟨w,D,k⟩:=BE (((Br (q.den:Int).toNat:Nat):Int));obtain⟨H,b⟩:=xB (decide (((Br (q.den:Int).toNat:Nat):Int)*((Br (q.den:Int).toNat:Nat):Int)=(q.den:Int)));refine AB (r:= .AG [(true,[.bool w,.sl .u32 D]),(false,[.bool H])]) K (PG F.den k b (by have:=F.small L;omega)) ?_;try conv=>cbv
 intro I f;conv=>cbv
 cases I <;> conv=>cbv
 ·have m:=FX f;intro J h;conv=>cbv
  cases J <;> conv=>cbv
  ·have u:=FX h;exact absurd (ae (of_decide_eq_true (a.symm.trans m)) (of_decide_eq_true (b.symm.trans u))) M
  have u:=FY h;exact AF ⟨⟨rfl,rfl,AJ,rfl,AJ,trivial⟩,t2,trivial⟩
 have m:=FY f;exact AF ⟨⟨rfl,rfl,AJ,rfl,AJ,trivial⟩,t2,trivial⟩
theorem cA {q:Rat} (z:BH n b1 l1) (D:BH d b2 l2) (w:d≠0) (F:q=Rat.divInt n d) (v:Bm q c1 m1 c2 m2) (s1:l1.length<=17592186042000) (s2:l2.length<=17592186042000):CF 391 [.agg (Bi b1 l1),.agg (Bi b2 l2)] (.AG [(true,(B5 c1 m1 c2 m2)),(false,[.int .i64 0])]):=by
 refine AO Tryz.func391 fun E u=>?_
 conv=>cbv
 obtain⟨G,I,f⟩:=BE (n);refine AB u (Ut z (by omega) f) ?_;conv=>cbv
 obtain⟨H,J,b⟩:=BE (d);refine AB u (Ut D (by omega) b) ?_;conv=>cbv
 refine g2 rfl ?_;refine AB (r:= .one (.bool false)) u (Xs b (by simp[w])) ?_;conv=>cbv
 obtain⟨k,m,h,j,a⟩:=CI (q);refine AB (r:= .agg [.bool k,.sl .u32 m,.bool h,.sl .u32 j]) u (K6 f b w F a (by rw[(f.uniq z rfl).2];exact s1) (by rw[(b.uniq D rfl).2];exact s2)) ?_;try conv=>cbv
 exact AF ⟨⟨rfl,congrArg _ ((a.uniq v rfl).1.1.symm),congrArg _ ((a.uniq v rfl).1.2.symm),congrArg _ ((a.uniq v rfl).2.1.symm),congrArg _ ((a.uniq v rfl).2.2.symm),trivial⟩,t2,trivial⟩
theorem PY {b:Bool} (a: -9223372036854775808<=x/\x<9223372036854775808) (h:BH x b l):l.length<=2:=by
 rw[h.Bj];exact Gw (by omega)
theorem bu {q:Rat} (H: -9223372036854775808<=n/\n<9223372036854775808) (G: -9223372036854775808<=d/\d<9223372036854775808) (O:d≠0) (P:q=Rat.divInt n d) (D:Bm q c1 m1 c2 m2):CF 381 [.one (.int .i64 n),.one (.int .i64 d)] (.agg (B5 c1 m1 c2 m2)):=by
 refine AO Tryz.func381 fun E z=>?_
 conv=>cbv
 obtain⟨Q,S,f⟩:=BE (n);refine AB z (NQ H f) ?_;conv=>cbv
 obtain⟨K,M,b⟩:=BE (d);refine AB z (NQ G b) ?_;conv=>cbv
 obtain⟨v,w,m,u,a⟩:=CI q;refine AB (r:= .AG [(true,[.bool v,.sl .u32 w,.bool m,.sl .u32 u]),(false,[.int .i64 0])]) z (cA f b O P a (by have:=PY H f;omega) (by have:=PY G b;omega)) ?_;try conv=>cbv
 intro F h;conv=>cbv
 cases F <;> conv=>cbv
 ·have k:=DQ h;exact AF ⟨⟨rfl,congrArg _ ((a.uniq D rfl).1.1.symm),congrArg _ ((a.uniq D rfl).1.2.symm),congrArg _ ((a.uniq D rfl).2.1.symm),congrArg _ ((a.uniq D rfl).2.2.symm),trivial⟩,trivial⟩
 have k:=DR h;obtain⟨L,N,I,J,j⟩:=CI (((0:Int):Rat));refine AB z (Hn (by omega) rfl j) ?_;conv=>cbv
 exact absurd k (by decide)
theorem nn (f:BH y b2 l2) (h:Cg y<=0:=by omega):IC b1 l1 b2 l2=false:=by
 apply Bool.eq_false_iff.2;intro h';obtain⟨q,b⟩:=UM.1 h';have e:y=(q.den:Int):=by rw[f.E5,b.den.E5]
 have:=ML q;rcases GY y with⟨a,e'⟩ |⟨a,e'⟩ |⟨a,e'⟩ <;> omega
theorem nk (f:true=Hh b1 l1) (j:true=Hh b2 l2) (m:BH x b1 l1) (b:BH y b2 l2) (h:0<Cg y) (hc:c=decide (((Nat.gcd x.natAbs y.natAbs:Nat):Int)=1)):IC b1 l1 b2 l2=c:=by
 have q:0<y:=by rcases GY y with⟨a,e'⟩ |⟨a,e'⟩ |⟨a,e'⟩ <;> omega
 have hb:b2=false:=by rw[b.neg];exact decide_eq_false (by omega)
 have k:l2≠[]:=fun e=>by have:=b.nil.1 e;omega
 unfold IC;rw[<-f,<-j,hb,decide_eq_true k,hc,m.nat,b.nat];simp only[Bool.true_and,Bool.not_false];rw[Bool.eq_iff_iff,decide_eq_true_eq,decide_eq_true_eq];omega
theorem Uv (hc:c=IC b1 l1 b2 l2) (s1:l1.length<=17592186042000) (s2:l2.length<=17592186042000):CF 324 [.agg (B5 b1 l1 b2 l2)] (.one (.bool c)):=by
 refine AO Tryz.func324 fun E k=>?_
 conv=>cbv
 obtain⟨G,a⟩:=xB (Hh b1 l1);refine AB k (U7 a) ?_;conv=>cbv
 cases G <;> conv=>cbv
 ·exact AF ⟨⟨rfl,congrArg _ (by rw[hc];unfold IC;rw[<-a];rfl),trivial⟩,trivial⟩
 obtain⟨H,b⟩:=xB (Hh b2 l2);refine AB k (U7 b) ?_;conv=>cbv
 cases H <;> conv=>cbv
 ·exact AF ⟨⟨rfl,congrArg _ (by rw[hc];unfold IC;rw[<-b];exact Bool.and_false _),trivial⟩,trivial⟩
 obtain⟨x,w⟩:=Lo.1 a.symm;obtain⟨y,q⟩:=Lo.1 b.symm;obtain⟨I,m⟩:=xI (Cg y);refine AB k (Ls q m) ?_;conv=>cbv
 intro v j;conv=>cbv
 cases v <;> conv=>cbv
 ·have u:=Cc j;exact AF ⟨⟨rfl,congrArg _ (by rw[hc];exact nn q),trivial⟩,trivial⟩
 have u:=Cd j;obtain⟨z,D,h⟩:=BE (((Nat.gcd x.natAbs y.natAbs:Nat):Int));refine AB k (Ul w q h (by omega) (by omega)) ?_;conv=>cbv
 obtain⟨F,f⟩:=xB (decide (((Nat.gcd x.natAbs y.natAbs:Nat):Int)=1));refine AB k (Ku h f) ?_;conv=>cbv
 exact AF ⟨⟨rfl,congrArg _ (by rw[hc];exact nk a b w q (by omega) f),trivial⟩,trivial⟩
end Go.Abs
namespace Go.Abs
open Go.RowKit
variable {B X Z o:LR} {i n zn:Nat} {xs ys:List Rat}
theorem iJ {A:LR} (w:A=X.take (X.length/2)) (z:B=X.drop (X.length/2)):CF 297 [.one (.sl AA X)] (.AG [(false,[.sl AA A]),(false,[.sl AA B])]):=by
 refine AO Tryz.func297 fun E M=>?_
 conv=>cbv
 rintro P ⟨K,f6⟩;conv=>cbv
 intro Q L;conv=>cbv
 refine g2 ⟨by omega,by omega,i64 (by omega)⟩ ?_;intro O F;conv=>cbv
 refine AM ?_;intro q D;conv=>cbv
 intro N j;conv=>cbv
 rintro I ⟨u,f11⟩;conv=>cbv
 intro J v;conv=>cbv
 refine g2 ⟨by omega,by omega,i64 (by omega)⟩ ?_;intro H f;conv=>cbv
 refine AM ?_;rintro h m ⟨k,a⟩;conv=>cbv
 intro G b;conv=>cbv
 refine g2 rfl ?_;exact AF ⟨⟨rfl,congrArg _ (by rw[w,j,List.drop_zero,show q=X.length/2 by omega]),trivial⟩,⟨rfl,congrArg _ (by rw[z,b,a,f,List.take_length,show h=X.length/2 by omega]),trivial⟩,trivial⟩
theorem mv {X A:List LR} (m:X≠[]) (u:A=X.take (X.length-1)) (v:X[X.length-1]? =some B):CF 295 [.one (.sl (.sl AA) X)] (.AG [(false,[.sl (.sl AA) A]),(false,[.sl AA B])]):=by
 refine AO Tryz.func295 fun E I=>?_
 conv=>cbv
 rintro L ⟨F,f6⟩;conv=>cbv
 have G:0<X.length:=List.length_pos_iff.2 m;intro M H;conv=>cbv
 refine AQ ?_;intro K z;conv=>cbv
 refine AM ?_;intro j w;conv=>cbv
 intro J f;conv=>cbv
 rintro D ⟨k,f11⟩;conv=>cbv
 intro b q;conv=>cbv
 refine AQ ?_;obtain⟨h,a⟩:=AS (l:=X) (i:=(b).toNat) (by omega);refine⟨h,fun _=>⟨by omega,a⟩,?_⟩;try conv=>cbv
 refine g2 rfl ?_;exact AF ⟨⟨rfl,congrArg _ (by rw[u,f,List.drop_zero,show j=X.length-1 by omega]),trivial⟩,⟨rfl,congrArg _ (by rw[show b.toNat=X.length-1 by omega] at a;exact (Option.some.inj (v.symm.trans a))),trivial⟩,trivial⟩
theorem iL {Z:Nat->LR} (h:o.take i=Z i) (e:i=n):o.take n=Z n:=by rw[<-e];exact h
theorem PO {α:Type} {o:List α} {w:α} (h:i<o.length):(o.set i w).take (i+1)=o.take i++[w]:=by
 rw[List.take_succ_eq_append_getElem (by rw[List.length_set];exact h),List.take_set_of_le (Nat.le_refl _),List.getElem_set_self]
theorem oF {a:Int} (ha:Ag a n) (hn:n<=1000000) (hX:X=BN (List.replicate n 0)) (I:zn=X.length):CF 318 [.one (.int .i64 a)] (.one (.own AA X zn)):=by
 have ea:=ha.eq;refine AO Tryz.func318 fun E hE=>?_
 conv=>cbv
 refine⟨fun _=>⟨by omega,by omega,by show _*64<=140737488355328;omega⟩,?_⟩;intro K (M:LR) G;have a7:=G.1;have H:M=List.replicate K (((false,[]),(false,[])):el AA):=G.2;have a1:M.length=K:=by rw[H,List.length_replicate]
 conv=>cbv
 intro n8 h8;have e8:=h8.eq;conv=>cbv
 refine .inr ?_;obtain⟨W,w⟩:=xJ fun vs P k=>∃(o:LR) (m i':Nat) (L i:Int),vs=[.one (.AZ AA 6 0 0 m),.one (.int .i64 L),.one (.int .i64 i)]/\P=[.arr 0 AA o]/\(o.length=n/\m=n/\DX L n/\Ag i i'/\i'<=n)/\o.take i'=BN (List.replicate i' 0)/\k=n-i'
 refine⟨[],[3,8,9],[6],W,⟨n-0,by rw[w];exact⟨M,K,0,n8,0,rfl,rfl,⟨by omega,by omega,⟨by omega,by omega⟩,Bf 0,by omega⟩,rfl,rfl⟩⟩,?_⟩;intro vs P a8 U;rw[w] at U;obtain⟨o,m,i',L,i,rfl,rfl,⟨ho,hm,S,hi,a5⟩,hinv,a6⟩:=U;conv=>cbv
 have eL:=S.eq;have ei:=hi.eq;intro N D;conv=>cbv
 cases N <;> conv=>cbv
 ·have J:=BK D;have b:o=X:=by rw[hX,<-iL (Z:=fun i=>BN (List.replicate i 0)) hinv (by omega),List.take_of_length_le (by omega)]
  exact AF ⟨⟨rfl,.inr (.inl ⟨_,_,by decide,rfl,rfl,by omega,rfl,EK (b.symm) (by rw[I,<-b])⟩),trivial⟩,trivial⟩
 have J:=BL D;refine .inr ?_;obtain⟨u,v,j,q,h⟩:=CI (((0:Int):Rat));refine AB hE (Hn (by omega) rfl h) ?_;conv=>cbv
 refine AM ?_;intro F V;conv=>cbv
 refine⟨((u,v),(j,q)),fun _=>⟨by show _<List.length (α:=(el AA)) o;(first | omega | (simp;omega)),by first | exact t1 | exact t2 | exact t4 | simp[BX,Bl,cells]⟩,?_⟩;intro (z:LR) (f:z=List.set (α:=(el AA)) o F (((u,v),(j,q))));have Q:z.length=o.length:=by rw[f,List.length_set]
 conv=>cbv
 intro O a2;conv=>cbv
 refine AQ ?_;refine⟨n-(i'+1),?_,?_⟩
 ·omega
 rw[w];refine⟨z,m,i'+1,L,O,rfl,rfl,⟨by omega,by omega,S,⟨by omega⟩,by omega⟩,?_,rfl⟩;rw[f,show F=i' by omega,PO (by omega),hinv,List.replicate_succ',BN,BN,List.map_append,<-h.rp];rfl
theorem IX {x:el AA} (b:X=BN xs) (f:Ex xs) (a:X[i]? =some x):∃q,Bm q x.1.1 x.1.2 x.2.1 x.2.2/\xs[i]? =some q/\CQ q:=by
 rw[b,BN,List.getElem?_map] at a;cases h:xs[i]? with
 | none=>rw[h] at a;simp at a
 | some q=>
  rw[h] at a;have e:x=rp q:=(Option.some.inj a).symm;exact⟨q,by rw[e];exact HC q,rfl,f q (List.mem_of_getElem? h)⟩
theorem Zq (h:o.take i=BN (ys.take i)) (b:i=n) (a:o.length=n) (f:ys.length=n):BN ys=o.take n:=by
 rw[b] at h;rw[h,<-f,List.take_length]
theorem Zs {l:LR} {j:Nat} {q:Rat} {w:el AA} (h:o.take i=BN (ys.take i)) (b:i<o.length) (f:j=i) (k:l=o.set j w) (a:ys[i]? =some q) (hw:rp q=w):l.take (i+1)=BN (ys.take (i+1)):=by
 have m:i<ys.length:=Gs a;rw[k,f,PO b,h,List.take_succ,a,BN,BN,List.map_append,<-hw];rfl
theorem kH (hX:X=BN xs) (hs:Ex xs) (hn:xs.length<=1000000) (hZ:Z=BN (xs.map (- ·))):CF 242 [.one (.sl AA X)] (.one (.sl AA Z)):=by
 refine AO Tryz.func242 fun E hE=>?_
 conv=>cbv
 have a7:X.length=xs.length:=by rw[hX,List.length_map]
 rintro n7 ⟨e7,f7⟩;conv=>cbv
 refine⟨fun _=>⟨by omega,by omega,by show _*64<=140737488355328;omega⟩,?_⟩;intro N (O:LR) G;have ab:=G.1;have H:O=List.replicate N (((false,[]),(false,[])):el AA):=G.2;have a5:O.length=N:=by rw[H,List.length_replicate]
 conv=>cbv
 intro P w;have a2:=w.eq;have f10:=w.le;conv=>cbv
 refine .inr ?_;obtain⟨J0,z⟩:=xJ fun vs V k=>∃(o:LR) (m i':Nat) (L i:Int),vs=[.one (.AZ AA 8 0 0 m),.one (.sl AA X),.one (.int .i64 L),.one (.int .i64 i)]/\V=[.arr 0 AA o]/\(o.length=X.length/\m=X.length/\DX L X.length/\Ag i i'/\i'<=X.length)/\o.take i'=BN ((xs.map (- ·)).take i')/\k=X.length-i'
 refine⟨[],[3,9,10,11],[8],J0,⟨X.length-0,by rw[z];exact⟨O,N,0,P,0,rfl,rfl,⟨by omega,by omega,w,Bf 0,by omega⟩,rfl,rfl⟩⟩,?_⟩;intro vs V ad hj;rw[z] at hj;obtain⟨o,m,i',L,i,rfl,rfl,⟨ho,hm,hL,hi,a8⟩,hinv,aa⟩:=hj;conv=>cbv
 have eL:=hL.eq;have ei:=hi.eq;intro Q F;conv=>cbv
 cases Q <;> conv=>cbv
 ·have M:=BK F;exact AF ⟨⟨rfl,.inl ⟨_,rfl,by omega,congrArg _ (by rw[hZ,hm,List.drop_zero];exact Zq hinv (by omega) (by omega) (by rw[List.length_map];omega))⟩,trivial⟩,trivial⟩
 have M:=BL F;refine .inr ?_;obtain⟨U,b⟩:=AS (l:=X) (i:=i') (by omega);refine⟨U,fun _=>⟨by omega,by rw[show (i).toNat=i' by omega];exact b⟩,?_⟩;try conv=>cbv
 obtain⟨q,hq,I,J⟩:=IX hX hs b;obtain⟨u,v,h,j,f⟩:=CI (-q);refine AB hE (cY hq J rfl f) ?_;conv=>cbv
 refine AM ?_;intro K a1;conv=>cbv
 refine⟨((u,v),(h,j)),fun _=>⟨by show _<List.length (α:=(el AA)) o;(first | omega | (simp;omega)),by first | exact t1 | exact t2 | exact t4 | simp[BX,Bl,cells]⟩,?_⟩;intro (D:LR) (a:D=List.set (α:=(el AA)) o K (((u,v),(h,j))));have W:D.length=o.length:=by rw[a,List.length_set]
 conv=>cbv
 intro S a6;conv=>cbv
 refine AQ ?_;refine⟨X.length-(i'+1),?_,?_⟩
 ·omega
 rw[z];refine⟨D,m,i'+1,L,S,rfl,rfl,⟨by omega,by omega,hL,⟨by omega⟩,by omega⟩,?_,rfl⟩;exact Zs hinv (by omega) (by omega) a (by rw[List.getElem?_map,I];rfl) f.rp
theorem fD {Y:LR} (hX:X=BN xs) (hY:Y=BN ys) (hs:Ex xs) (ht:Ex ys) (Q:ys.length=xs.length) (hn:xs.length<=1000000) (hZ:Z=BN (List.zipWith (· + ·) xs ys)) (S:zn=Z.length):CF 266 [.one (.sl AA X),.one (.sl AA Y)] (.one (.own AA Z zn)):=by
 refine AO Tryz.func266 fun E hE=>?_
 conv=>cbv
 have af:X.length=xs.length:=by rw[hX,List.length_map]
 have ag:Y.length=xs.length:=by rw[hY,List.length_map,Q]
 rintro n8 ⟨e8,f8⟩;conv=>cbv
 refine⟨fun _=>⟨by omega,by omega,by show _*64<=140737488355328;omega⟩,?_⟩;intro W (l9:LR) I;have aj:=I.1;have K:l9=List.replicate W (((false,[]),(false,[])):el AA):=I.2;have ad:l9.length=W:=by rw[K,List.length_replicate]
 conv=>cbv
 intro a1 J;have ab:=J.eq;conv=>cbv
 refine .inr ?_;obtain⟨J0,D⟩:=xJ fun vs bl k=>∃(o:LR) (m i':Nat) (L i:Int),vs=[.one (.sl AA X),.one (.sl AA Y),.one (.AZ AA 9 0 0 m),.one (.int .i64 L),.one (.int .i64 i)]/\bl=[.arr 0 AA o]/\(o.length=X.length/\m=X.length/\Ag L X.length/\Ag i i'/\i'<=X.length)/\o.take i'=BN ((List.zipWith (· + ·) xs ys).take i')/\k=X.length-i'
 refine⟨[],[0,1,5,11,12],[9],J0,⟨X.length-0,by rw[D];exact⟨l9,W,0,a1,0,rfl,rfl,⟨by omega,by omega,⟨by omega⟩,Bf 0,by omega⟩,rfl,rfl⟩⟩,?_⟩;intro vs bl ak hj;rw[D] at hj;obtain⟨o,m,i',L,i,rfl,rfl,⟨ho,hm,hL,hi,ah⟩,hinv,ai⟩:=hj;conv=>cbv
 have eL:=hL.eq;have ei:=hi.eq;intro a2 G;conv=>cbv
 cases a2 <;> conv=>cbv
 ·have V:=BK G;have H:BN (List.zipWith (· + ·) xs ys)=o.take X.length:=Zq hinv (by omega) (by omega) (by rw[List.length_zipWith];omega);have a:Z=o:=by rw[hZ,H,List.take_of_length_le (by omega)]
  exact AF ⟨⟨rfl,.inr (.inl ⟨_,_,by decide,rfl,rfl,by omega,rfl,EK (a) (by rw[S,a])⟩),trivial⟩,trivial⟩
 have V:=BL G;refine .inr ?_;obtain⟨a6,f⟩:=AS (l:=X) (i:=i') (by omega);refine⟨a6,fun _=>⟨by omega,by rw[show (i).toNat=i' by omega];exact f⟩,?_⟩;try conv=>cbv
 obtain⟨a7,h⟩:=AS (l:=Y) (i:=i') (by omega);refine⟨a7,fun _=>⟨by omega,by rw[show (i).toNat=i' by omega];exact h⟩,?_⟩;try conv=>cbv
 obtain⟨p,hp,M,O⟩:=IX hX hs f;obtain⟨q,hq,N,P⟩:=IX hY ht h;obtain⟨w,z,u,v,j⟩:=CI (p+q);refine AB hE (cT hp hq O P rfl j) ?_;conv=>cbv
 refine AM ?_;intro U aa;conv=>cbv
 refine⟨((w,z),(u,v)),fun _=>⟨by show _<List.length (α:=(el AA)) o;(first | omega | (simp;omega)),by first | exact t1 | exact t2 | exact t4 | simp[BX,Bl,cells]⟩,?_⟩;intro (F:LR) (b:F=List.set (α:=(el AA)) o U (((w,z),(u,v))));have a8:F.length=o.length:=by rw[b,List.length_set]
 conv=>cbv
 refine g2 rfl ?_;intro a5 ae;conv=>cbv
 refine AQ ?_;refine⟨X.length-(i'+1),?_,?_⟩
 ·omega
 rw[D];refine⟨F,m,i'+1,L,a5,rfl,rfl,⟨by omega,by omega,hL,⟨by omega⟩,by omega⟩,?_,rfl⟩;exact Zs hinv (by omega) (by omega) b (by rw[List.getElem?_zipWith,M,N]) j.rp
end Go.Abs
namespace Go.Abs
open Go.RowKit
def HR (p:el AA->Bool):Nat->LR->Int
 | _,[]=> -1
 | i,x::l=>if p x=true then i else HR p (i+1) l
variable {Y:LR} {b1 b2 c:Bool} {g:FuncId} {i:Nat} {l1 l2:List UInt32} {ys:List Rat}
theorem Xh {X:LR} {x:el AA} (h:X[i]? =some x):X.drop i=x::X.drop (i+1):=by
 have a:=Gs h;rw[List.drop_eq_getElem_cons a];rw[List.getElem?_eq_getElem a] at h;rw[Option.some.inj h]
theorem iN {X:LR} {p:el AA->Bool} {x:el AA} (h:X[i]? =some x) (a:p x=false):HR p i (X.drop i)=HR p (i+1) (X.drop (i+1)):=by
 rw[Xh h,HR,a];rfl
theorem iM {X:LR} {p:el AA->Bool} {x:el AA} (h:X[i]? =some x) (a:p x=true):HR p i (X.drop i)=i:=by
 rw[Xh h,HR,if_pos a]
theorem bx {X:LR} {p:el AA->Bool} {r:Int} (H:∀x∈X,CF g [.agg (cells AA x)] (.one (.bool (p x)))) (M:r=HR p 0 X):CF 353 [.one (.sl AA X),.one (.fn g)] (.one (.int .i64 r)):=by
 refine AO Tryz.func353 fun E G=>?_
 conv=>cbv
 intro P m;have S:=m.eq;have f7:=m.le;conv=>cbv
 refine .inr ?_;obtain⟨z,h⟩:=xJ fun vs D k=>∃(i':Nat) (L i:Int),vs=[.one (.sl AA X),.one (.fn g),.one (.int .i64 L),.one (.int .i64 i)]/\(DX L X.length/\Ag i i'/\i'<=X.length)/\r=HR p i' (X.drop i')/\k=X.length-i'
 refine⟨[],[0,1,7,8],[],z,⟨X.length-0,by rw[h];exact⟨0,P,0,rfl,⟨m,Bf 0,by omega⟩,M,rfl⟩⟩,?_⟩;intro vs D O w;rw[h] at w;obtain⟨i',L,i,rfl,⟨v,I,J⟩,hinv,K⟩:=w;conv=>cbv
 have U:=v.eq;have V:=I.eq;intro Q u;conv=>cbv
 cases Q <;> conv=>cbv
 ·have N:=BK u;exact AF ⟨⟨rfl,congrArg _ (by rw[hinv,List.drop_eq_nil_of_le (by omega)];rfl),trivial⟩,trivial⟩
 have N:=BL u;refine .inr ?_;obtain⟨a,b⟩:=AS (l:=X) (i:=i') (by omega);refine⟨a,fun _=>⟨by omega,by rw[show (i).toNat=i' by omega];exact b⟩,?_⟩;try conv=>cbv
 obtain⟨j,f⟩:=xB (p a);refine .inl ⟨[.agg [.bool a.1.1,.sl .u32 a.1.2,.bool a.2.1,.sl .u32 a.2.2]],.one (.bool j),fun _=>⟨t4,trivial⟩,fun _=>HG G ((by rw[f];exact H a (List.mem_of_getElem? b))),?_⟩;try conv=>cbv
 cases j <;> conv=>cbv
 ·intro q F;conv=>cbv
  refine AQ ?_;refine⟨X.length-(i'+1),?_,?_⟩
  ·omega
  rw[h];refine⟨i'+1,L,q,rfl,⟨v,⟨by omega⟩,by omega⟩,?_,rfl⟩;rw[hinv,iN b f.symm]
 exact AF ⟨⟨rfl,congrArg _ (by rw[hinv,iM b f.symm];omega),trivial⟩,trivial⟩
theorem Xg (p:el AA->Bool):∀(X:LR) (i:Nat),decide (HR p i X >= 0)=X.any p
 | [],i=>rfl
 | x::X,i=>by
  rw[HR,List.any_cons]
  split
  ·rename_i h;rw[h,Bool.true_or];exact decide_eq_true (by omega)
  rename_i h;rw[Bool.eq_false_iff.2 h,Bool.false_or];exact Xg p X (i+1)
theorem Uk {X:LR} {p:el AA->Bool} (h:∀x∈X,CF g [.agg (cells AA x)] (.one (.bool (p x)))) (hc:c=X.any p):CF 325 [.one (.sl AA X),.one (.fn g)] (.one (.bool c)):=by
 refine AO Tryz.func325 fun E f=>?_
 conv=>cbv
 obtain⟨k,a⟩:=xI (HR p 0 X);refine AB f (bx h a) ?_;conv=>cbv
 intro j b;conv=>cbv
 exact AF ⟨⟨rfl,congrArg _ (by rw[hc,b,a];exact (Xg p X 0).symm),trivial⟩,trivial⟩
theorem mL (q:Rat):decide (q≠0)=(FQ q !=0):=by
 have h:= @Rat.num_eq_zero q;rw[Bool.eq_iff_iff,decide_eq_true_eq,bne_iff_ne];rcases TU q with⟨a,e⟩ |⟨a,e⟩ |⟨a,e⟩ <;> rw[e]
 ·exact⟨fun _=>by decide,fun _ b=>by rw[h.2 b] at a;omega⟩
 ·exact⟨fun b=>absurd (h.1 a) b,fun b=>absurd rfl b⟩
 exact⟨fun _=>by decide,fun _ b=>by rw[h.2 b] at a;omega⟩
theorem kI {q:Rat} (h:Bm q b1 l1 b2 l2) (hc:c=decide (q≠0)):CF 326 [.agg (B5 b1 l1 b2 l2)] (.one (.bool c)):=by
 refine AO Tryz.func326 fun E f=>?_
 conv=>cbv
 obtain⟨k,a⟩:=xI (FQ q);refine AB f (NU h a) ?_;conv=>cbv
 intro j b;conv=>cbv
 exact AF ⟨⟨rfl,congrArg _ (by rw[hc,b,a];exact mL q),trivial⟩,trivial⟩
theorem Zp (q:Rat):decide (q≠0)= !(rp q).1.2.isEmpty:=by
 have h:(rp q).1.2=AW q.num.natAbs:=rfl;rw[h,Bool.eq_iff_iff,decide_eq_true_eq,Bool.not_eq_true',List.isEmpty_eq_false_iff,Ne,Ne,GB,<-Rat.num_eq_zero];omega
theorem ly (xs:List Rat):(BN xs).any (fun x=> !x.1.2.isEmpty)= !decide (∀q∈xs,q=0):=by
 induction xs with
 | nil=>rfl
 | cons q xs a=>
  rw[BN,List.map_cons,List.any_cons,<-Zp,<-BN,a]
  by_cases h:q=0 <;> simp[h]
theorem nQ {X:LR} {xs:List Rat} (b:X=BN xs):∀x∈X,CF 326 [.agg (cells AA x)] (.one (.bool (!x.1.2.isEmpty))):=by
 intro x a;rw[b] at a;obtain⟨q,_,rfl⟩:=List.mem_map.1 a;exact kI (HC q) (Zp q).symm
theorem Vb {X:LR} {xs:List Rat} (b:X=BN xs) (hc:c=decide (∀q∈xs,q=0)):CF 280 [.one (.sl AA X)] (.one (.bool c)):=by
 refine AO Tryz.func280 fun E h=>?_
 conv=>cbv
 obtain⟨j,a⟩:=xB (X.any (fun x=> !x.1.2.isEmpty));refine AB h (Uk (nQ b) a) ?_;conv=>cbv
 intro k f;conv=>cbv
 exact AF ⟨⟨rfl,congrArg _ (by rw[hc,f,a,b,ly,Bool.not_not]),trivial⟩,trivial⟩
theorem ix (hc:c= !IC b1 l1 b2 l2) (s1:l1.length<=17592186042000) (s2:l2.length<=17592186042000):CF 327 [.agg (B5 b1 l1 b2 l2)] (.one (.bool c)):=by
 refine AO Tryz.func327 fun E f=>?_
 conv=>cbv
 obtain⟨h,a⟩:=xB (IC b1 l1 b2 l2);refine AB f (Uv a s1 s2) ?_;conv=>cbv
 intro j b;conv=>cbv
 exact AF ⟨⟨rfl,congrArg _ (by rw[hc,b,a]),trivial⟩,trivial⟩
theorem fW {X:LR} {xs:List Rat} (b:X=BN xs) (j:Ex xs):∀x∈X,CF 327 [.agg (cells AA x)] (.one (.bool false)):=by
 intro x a;rw[b] at a;obtain⟨q,f,rfl⟩:=List.mem_map.1 a;have h:=(HC q).small (j q f);exact ix (by rw[UM.2 ⟨q,HC q⟩];rfl) (by omega) (by omega)
theorem any_false (X:LR):false=X.any (fun _=>false):=by
 induction X with
 | nil=>rfl
 | cons x X a=>rw[List.any_cons,<-a];rfl
theorem SH {X:LR} {xs:List Rat} {k:Int} {n:Nat} (b:X=BN xs) (q:Ex xs) (m:Ag k n) (hc:c=decide (xs.length=n)):CF 282 [.one (.sl AA X),.one (.int .i64 k)] (.one (.bool c)):=by
 have D:=m.eq;refine AO Tryz.func282 fun E j=>?_
 conv=>cbv
 rintro F ⟨z,f6⟩;conv=>cbv
 intro w h;conv=>cbv
 cases w <;> conv=>cbv
 ·have u:=BR h;exact AF ⟨⟨rfl,congrArg _ (by have f:X.length=xs.length:=(by rw[b,List.length_map]);rw[hc];exact decide_eq_false (by omega)),trivial⟩,trivial⟩
 have u:=BS h;refine AB j (Uk (p:=fun _=>false) (fW b q) (any_false X)) ?_;conv=>cbv
 intro v a;conv=>cbv
 exact AF ⟨⟨rfl,congrArg _ (by have f:X.length=xs.length:=(by rw[b,List.length_map]);rw[hc,a];exact decide_eq_true (by omega)),trivial⟩,trivial⟩
theorem Fs {n i:Int} {k:Nat} (h:n=IntKind.i64.wrap (1*2^min i.toNat IntKind.i64.bits)) (e:i=k) (a:k<=20:=by omega):Ag n (2^k):=by
 have b:=wrap_i64 h;have f:2^k<=2^20:=Nat.pow_le_pow_right (by decide) a
 have h3:((2:Int)^min i.toNat IntKind.i64.bits)=((2^k:Nat):Int):=by
  rw[e,Int.toNat_natCast,Nat.min_eq_left (Nat.le_trans a (by decide))];simp
 rw[h3,Int.one_mul] at b
 generalize 2^k=Q at*
 exact⟨by omega⟩
theorem Ju {X:List LR} {xs:List (List Rat)} {x:LR} (b:X=xs.map BN) (a:X[i]? =some x):∃y,x=BN y/\xs[i]? =some y:=by
 rw[b,List.getElem?_map] at a;cases h:xs[i]? with
 | none=>rw[h] at a;simp at a
 | some q=>rw[h] at a;exact⟨q,(Option.some.inj a).symm,rfl⟩
theorem Sx {X:List LR} {xs:List (List Rat)} (G:X=xs.map BN) (ht:NX xs) (hc:c=true):CF 281 [.one (.sl (.sl AA) X)] (.one (.bool c)):=by
 refine AO Tryz.func281 fun E N=>?_
 conv=>cbv
 have O:X.length=xs.length:=by rw[G,List.length_map]
 have hl:=ht.RD;intro n6 q;have e6:=q.eq;have f6:=q.le;conv=>cbv
 refine .inr ?_;obtain⟨I,b⟩:=xJ fun vs J k=>∃(i':Nat) (L i:Int),vs=[.one (.sl (.sl AA) X),.one (.int .i64 L),.one (.int .i64 i)]/\(DX L X.length/\Ag i i'/\i'<=X.length)/\k=X.length-i'
 refine⟨[],[5,6,7],[],I,⟨X.length-0,by rw[b];exact⟨0,n6,0,rfl,⟨q,Bf 0,by omega⟩,rfl⟩⟩,?_⟩;intro vs J V H;rw[b] at H;obtain⟨i',L,i,rfl,⟨F,P,Q⟩,S⟩:=H;conv=>cbv
 have eL:=F.eq;have K:=P.eq;intro n8 D;conv=>cbv
 cases n8 <;> conv=>cbv
 ·have U:=BK D;exact AF ⟨⟨rfl,congrArg _ (hc),trivial⟩,trivial⟩
 have U:=BL D;refine .inr ?_;obtain⟨z,a⟩:=AS (l:=X) (i:=i') (by omega);refine⟨z,fun _=>⟨by omega,by rw[show (i).toNat=i' by omega];exact a⟩,?_⟩;try conv=>cbv
 intro W m;conv=>cbv
 refine AM ?_;obtain⟨x,u,h⟩:=Ju G a;refine AB (r:= .one (.bool true)) N (SH u (ht.small x (List.mem_of_getElem? h)) (Fs m K) (by rw[ht.form i' x h];exact (decide_eq_true rfl).symm)) ?_;try conv=>cbv
 intro v f;conv=>cbv
 cases v <;> conv=>cbv
 ·have j:=FX f;intro w M;conv=>cbv
  refine AQ ?_;refine⟨X.length-(i'+1),?_,?_⟩
  ·omega
  rw[b];exact⟨i'+1,L,w,rfl,⟨F,⟨by omega⟩,by omega⟩,rfl⟩
 have j:=FY f;exact absurd j (by decide)
theorem IF {X:List LR} {xs:List (List Rat)} (k:X=xs.map BN) (ht:NX xs) (q:Y=BN ys) (u:Ex ys) (hc:c=decide (ys.length=2^xs.length)):CF 241 [.one (.sl (.sl AA) X),.one (.sl AA Y)] (.one (.bool c)):=by
 refine AO Tryz.func241 fun E j=>?_
 conv=>cbv
 have h:X.length=xs.length:=by rw[k,List.length_map]
 have z:=ht.RD;refine AB j (Sx k ht rfl) ?_;conv=>cbv
 rintro v ⟨b,f10⟩;conv=>cbv
 intro w f;conv=>cbv
 refine AM ?_;obtain⟨m,a⟩:=xB (decide (ys.length=2^xs.length));refine AB j (SH q u (Fs f (b.trans (congrArg _ h))) a) ?_;conv=>cbv
 exact AF ⟨⟨rfl,congrArg _ (hc.trans a.symm),trivial⟩,trivial⟩
theorem Q4 {X:List LR} {Z:LR} {xs:List (List Rat)} {m:List Rat} (u:X=xs.map BN) (ht:NX xs) (v:Y=BN ys) (z:Ex ys) (j:ys.length=2^xs.length) (w:Z=BN m) (h:Ex m) (k:m.length=2^xs.length):CF 265 [.one (.sl (.sl AA) X),.one (.sl AA Y),.one (.sl AA Z)] (.one (.bool true)):=by
 refine AO Tryz.func265 fun E q=>?_
 conv=>cbv
 have f:X.length=xs.length:=by rw[u,List.length_map]
 have G:=ht.RD;refine AB q (IF u ht v z (decide_eq_true j).symm) ?_;conv=>cbv
 rintro D ⟨a,f13⟩;conv=>cbv
 intro F b;conv=>cbv
 refine AM ?_;refine AB q (SH w h (Fs b (a.trans (congrArg _ f))) (decide_eq_true k).symm) ?_;conv=>cbv
 exact AF ⟨t2,trivial⟩
end Go.Abs
namespace Go.Abs
open Go.RowKit
variable {A B C X Y Z:LR} {R s t zn:Nat} {T:List LR} {p:Rat} {x y:Re}
theorem Jo {u:List (List Rat)} (h:Al u) (f:In u x) (b:X=em u x) (a:x=0):CF 280 [.one (.sl AA X)] (.one (.bool true)):=
 Vb b (decide_eq_true ((MK h f).2 a)).symm
theorem IQ {u:List (List Rat)} (h:Al u) (f:In u x) (b:X=em u x) (a:x≠0):CF 280 [.one (.sl AA X)] (.one (.bool false)):=
 Vb b (decide_eq_false (fun k=>a ((MK h f).1 k))).symm
theorem OS {u:List (List Rat)} {r:List Rat} {p q:Re} (h:Al (r::u)) (b:In u p) (f:In u q) (j:x=p+q*rt u r) (a:X=em (r::u) x) (k:A=em u p) (m:B=em u q):
  CF 297 [.one (.sl AA X)] (.AG [(false,[.sl AA A]),(false,[.sl AA B])]):=
 iJ (by rw[a,k,Cr h b f j]) (by rw[a,m,CV h b f j])
theorem Lm (r:List Rat) (u:List (List Rat)):tw (r::u)≠[]:=by rw[NM];simp
theorem Tl {X A:List LR} {u:List (List Rat)} {r:List Rat} (a:X=tw (r::u)) (b:A=tw u) (f:B=BN r):
  CF 295 [.one (.sl (.sl AA) X)] (.AG [(false,[.sl (.sl AA) A]),(false,[.sl AA B])]):=
 mv (by rw[a];exact Lm r u) (by rw[a,b,EM]) (by rw[a,f,GH])
theorem JX {n:Nat} (h:n<=16:=by omega):2^n<=1000000:=Nat.le_trans (De h) (by decide)
theorem Vi {u:List (List Rat)} (h:BJ R u) (j:X=em u x) (k:Y=em u y) (a:El u s x) (b:El u t y) (q:s<=60000000000000) (ht:t<=60000000000000) (m:Z=em u (x+y)) (f:zn=Z.length):
  CF 266 [.one (.sl AA X),.one (.sl AA Y)] (.one (.own AA Z zn)):=
 fD j k (a.CM q) (b.CM ht) (by rw[a.len,b.len]) (by rw[a.len];exact JX h.ht) (by rw[m,W4 h.red a.mem b.mem]) f
theorem No {u:List (List Rat)} (h:BJ R u) (a:X=em u x) (b:Y=em u y) (k:El u s x) (m:El u t y) (j:s<=60000000000000) (ht:t<=60000000000000) (f:Z=em u (x+y)):
 CF 266 [.one (.sl AA X),.one (.sl AA Y)] (.one (.sl AA Z)):=Dc (Vi h a b k m j ht f rfl)
theorem Oq {u:List (List Rat)} (h:BJ R u) (b:X=em u x) (a:El u s x) (j:s<=60000000000000) (f:Z=em u (-x)):
  CF 242 [.one (.sl AA X)] (.one (.sl AA Z)):=
 kH b (a.CM j) (by rw[a.len];exact JX h.ht) (by rw[f,W5 h.red a.mem])
theorem Pg {a:Int} {u:List (List Rat)} (h:BJ R u) (ha:Ag a (2^u.length)) (f:Z=em u 0) (b:zn=Z.length):
  CF 318 [.one (.int .i64 a)] (.one (.own AA Z zn)):=
 oF ha (JX h.ht) (by rw[f,Qw h.red]) b
theorem Fq {x:el AA} (b:A=[rp p]) (a:A[0]? =some x):Bm p x.1.1 x.1.2 x.2.1 x.2.2:=by
 rw[b] at a;rw[<-Option.some.inj a];exact HC p
theorem j5 {q:Rat} (N:T=[]) (H:A=[rp p]) (I:B=[rp q]) (Q:CQ p) (ht:CQ q) (J:C=[rp (p*q)]) (z:zn=C.length):CF 274 [.one (.sl (.sl AA) T),.one (.sl AA A),.one (.sl AA B)] (.one (.own AA C zn)):=by
 refine AO Tryz.func274 fun E M=>?_
 conv=>cbv
 refine .inr ?_;rintro S ⟨w,f16⟩;conv=>cbv
 intro D h;conv=>cbv
 cases D <;> conv=>cbv
 ·have j:=BR h;exact absurd (by rw[w,N];rfl) j
 have j:=BS h;have K:A.length=1:=by rw[H];rfl
 have L:B.length=1:=by rw[I];rfl
 obtain⟨F,a⟩:=AS (l:=A) (i:=0) (by omega);refine⟨F,fun _=>⟨by omega,a⟩,?_⟩;try conv=>cbv
 obtain⟨G,b⟩:=AS (l:=B) (i:=0) (by omega);refine⟨G,fun _=>⟨by omega,b⟩,?_⟩;try conv=>cbv
 have O:=Fq H a;have P:=Fq I b;obtain⟨u,v,k,m,f⟩:=CI (p*q);refine AB M (cW O P Q ht rfl f) ?_;conv=>cbv
 refine⟨[((u,v),(k,m))],fun _=>⟨rfl,by decide,rfl,⟨rfl,by first | exact t1 | exact t2 | exact t4 | simp[BX,Bl,cells],trivial⟩⟩,.inl ?_⟩;try conv=>cbv
 refine g2 rfl ?_;exact AF ⟨⟨rfl,.inr (.inl ⟨_,_,by decide,rfl,rfl,rfl,rfl,EK (by rw[J,f.rp]) (by rw[z,J];rfl)⟩),trivial⟩,trivial⟩
theorem kA {u:List (List Rat)} (h:BJ R u) (K:T≠[]) (D:A=em u x) (N:B=em u y) (H:In u x) (O:In u y) (J:x=0) (F:C=em u 0) (v:zn=C.length):CF 274 [.one (.sl (.sl AA) T),.one (.sl AA A),.one (.sl AA B)] (.one (.own AA C zn)):=by
 refine AO Tryz.func274 fun E G=>?_
 conv=>cbv
 refine .inr ?_;rintro L ⟨I,f16⟩;conv=>cbv
 intro z f;conv=>cbv
 cases z <;> conv=>cbv
 ·have w:=BR f;refine AB G (Jo h.red H D J) ?_;conv=>cbv
  have q:A.length=2^u.length:=by rw[D,Bk H]
  rintro M ⟨m,f34⟩;conv=>cbv
  obtain⟨j,a⟩:=xR (em u (0));obtain⟨k,b⟩:=xN j.length;refine AB (r:= .one (.own AA j k)) G (Pg h (Ag.of (by rw[m,q])) a b) ?_;conv=>cbv
  exact AF ⟨⟨rfl,.inr (.inl ⟨_,_,by decide,rfl,rfl,b,rfl,EK (by rw[F,a]) (by rw[v,F,<-a])⟩),trivial⟩,trivial⟩
 have w:=BS f;exact absurd (List.length_eq_zero_iff.1 (by omega)) K
theorem kB {u:List (List Rat)} (h:BJ R u) (M:T≠[]) (F:A=em u x) (L:B=em u y) (H:In u x) (N:In u y) (J:y=0) (K:x≠0) (G:C=em u 0) (w:zn=C.length):CF 274 [.one (.sl (.sl AA) T),.one (.sl AA A),.one (.sl AA B)] (.one (.own AA C zn)):=by
 refine AO Tryz.func274 fun E v=>?_
 conv=>cbv
 refine .inr ?_;rintro O ⟨I,f16⟩;conv=>cbv
 intro D f;conv=>cbv
 cases D <;> conv=>cbv
 ·have z:=BR f;refine AB v (IQ h.red H F K) ?_;conv=>cbv
  refine AB v (Jo h.red N L J) ?_;conv=>cbv
  have q:A.length=2^u.length:=by rw[F,Bk H]
  rintro P ⟨m,f34⟩;conv=>cbv
  obtain⟨j,a⟩:=xR (em u (0));obtain⟨k,b⟩:=xN j.length;refine AB (r:= .one (.own AA j k)) v (Pg h (Ag.of (by rw[m,q])) a b) ?_;conv=>cbv
  exact AF ⟨⟨rfl,.inr (.inl ⟨_,_,by decide,rfl,rfl,b,rfl,EK (by rw[G,a]) (by rw[w,G,<-a])⟩),trivial⟩,trivial⟩
 have z:=BS f;exact absurd (List.length_eq_zero_iff.1 (by omega)) M
def Uo (f:FuncId) (R:Nat) (u:List (List Rat)):Prop:=∀{T:List LR} {A B C:LR} {zn s t:Nat} {x y:Re},T=tw u->A=em u x->B=em u y->El u s x->El u t y->s+t+EE u.length R<=60000000000000->C=em u (x*y)->zn=C.length->
 CF f [.one (.sl (.sl AA) T),.one (.sl AA A),.one (.sl AA B)] (.one (.own AA C zn))
theorem j9 {u:List (List Rat)} {r:List Rat} (h:BJ R (r::u)) (W:Uo 274 R u) (hT:T=tw (r::u)) (hA:A=em (r::u) x) (hB:B=em (r::u) y) (hx:El (r::u) s x) (hy:El (r::u) t y) (al:s+t+EE (r::u).length R<=60000000000000) (h0:x≠0) (h1:y≠0) (hC:C=em (r::u) (x*y)) (a8:zn=C.length):CF 274 [.one (.sl (.sl AA) T),.one (.sl AA A),.one (.sl AA B)] (.one (.own AA C zn)):=by
 obtain⟨p,q,a6,H,G⟩:=El.parts h.red hx;obtain⟨a,b,a7,ha,hb⟩:=El.parts h.red hy;have aj:EE (r::u).length R=2*EE u.length R+R+2:=rfl;have I:=El.DK h;have hR:=h.hR;have ak:=Ct h.red;refine AO Tryz.func274 fun E j=>?_
 conv=>cbv
 refine .inr ?_;rintro an ⟨ai,f16⟩;conv=>cbv
 intro ab a1;conv=>cbv
 cases ab <;> conv=>cbv
 ·have aa:=BR a1;refine AB j (IQ h.red hx.mem hA h0) ?_;conv=>cbv
  refine AB j (IQ h.red hy.mem hB h1) ?_;conv=>cbv
  obtain⟨ao,f⟩:=xV (tw u);obtain⟨aq,M⟩:=xR (BN r);refine AB j (Tl hT f M) ?_;conv=>cbv
  obtain⟨ar,k⟩:=xR (em u p);obtain⟨au,m⟩:=xR (em u q);refine AB j (OS h.red H.mem G.mem a6 hA k m) ?_;conv=>cbv
  obtain⟨av,v⟩:=xR (em u a);obtain⟨aw,w⟩:=xR (em u b);refine AB j (OS h.red ha.mem hb.mem a7 hB v w) ?_;conv=>cbv
  obtain⟨ax,N⟩:=xR (em u (p*a));refine AB j (Dc (W f k v H ha (by omega) N rfl)) ?_;conv=>cbv
  obtain⟨ay,O⟩:=xR (em u (q*b));refine AB j (Dc (W f m w G hb (by omega) O rfl)) ?_;conv=>cbv
  obtain⟨az,P⟩:=xR (em u (q*b*AP u r));refine AB j (Dc (W f O (M.trans (FN h.red)) (G.mul h.tail hb) I (by omega) P rfl)) ?_;conv=>cbv
  obtain⟨J,z⟩:=xR (em u (p*a+q*b*AP u r));obtain⟨ah,D⟩:=xN J.length;refine AB j (Vi h.tail N P (H.mul h.tail ha) ((G.mul h.tail hb).mul h.tail I) (by omega) (by omega) z D) ?_;conv=>cbv
  obtain⟨aA,Q⟩:=xR (em u (p*b));refine AB j (Dc (W f k w H hb (by omega) Q rfl)) ?_;conv=>cbv
  obtain⟨aB,S⟩:=xR (em u (q*a));refine AB j (Dc (W f m v G ha (by omega) S rfl)) ?_;conv=>cbv
  obtain⟨K,F⟩:=xR (em u (p*b+q*a));refine AB j (No h.tail Q S (H.mul h.tail hb) (G.mul h.tail ha) (by omega) (by omega) F) ?_;conv=>cbv
  have ae:J.length=2^u.length:=by rw[z,Bk (DP (H.mul h.tail ha).mem ((G.mul h.tail hb).mul h.tail I).mem)]
  have af:K.length=2^u.length:=by rw[F,Bk (DP (H.mul h.tail hb).mem (G.mul h.tail ha).mem)]
  have ag:=De h.tail.ht;refine .inl ⟨K,fun _=>⟨rfl,D,rfl,by show (J.length+K.length)*64<=140737488355328;(try simp only[List.length_take,List.length_drop]);omega⟩,?_⟩;intro (V:LR) ad U;have a2:V=(J:LR)++(K:LR):=U.1;have a5:ad=List.length (α:=(el AA)) V:=U.2;conv=>cbv
  have L:C=V:=by rw[hC,a2,z,F];exact Fx h.red (DP (H.mul h.tail ha).mem ((G.mul h.tail hb).mul h.tail I).mem) (DP (H.mul h.tail hb).mem (G.mul h.tail ha).mem) (by rw[a6,a7];clear W;grind)
  exact AF ⟨⟨rfl,.inr (.inl ⟨_,_,by decide,rfl,rfl,a5,rfl,EK (L) (by rw[a8,L])⟩),trivial⟩,trivial⟩
 have aa:=BS a1;exact absurd (List.length_eq_zero_iff.1 (by omega)) (hT ▸ Lm r u)
theorem mulC {u:List (List Rat)} (h:BJ R u):Uo 274 R u:=by
 induction u with
 | nil=>
  intro T A B C zn s t x y v b f k m w j a;obtain⟨p,rfl⟩:=Cs.1 k.mem;obtain⟨q,rfl⟩:=Cs.1 m.mem;rw[E8] at b f;rw[<-Re.ofRat_mul,E8] at j;have F:=k.CM (by omega);have G:=m.CM (by omega);rw[Dl] at F G;exact j5 v b f (F _ List.mem_cons_self) (G _ List.mem_cons_self) j a
 | cons r u H=>
  intro T A B C zn s t x y v b f k m w j a
  by_cases z:x=0
  ·refine kA h (v ▸ Lm r u) b f k.mem m.mem z ?_ a;rw[j,z];congr 1;grind
  by_cases D:y=0
  ·refine kB h (v ▸ Lm r u) b f k.mem m.mem D z ?_ a;rw[j,D];congr 1;grind
  exact j9 h (H h.tail) v b f k m w z D j a
theorem Mm {u:List (List Rat)} (h:BJ R u) (k:T=tw u) (b:A=em u x) (f:B=em u y) (m:El u s x) (q:El u t y) (a:s+t+EE u.length R<=60000000000000) (j:C=em u (x*y)):
 CF 274 [.one (.sl (.sl AA) T),.one (.sl AA A),.one (.sl AA B)] (.one (.sl AA C)):=Dc (mulC h k b f m q a j rfl)
end Go.Abs
