/- Part 15 of a proof. Conditions: each theorem's own. -/
import Derived.Test.YtclgfoceefhnkaaGreatDoorLn11
set_option linter.all false
set_option maxHeartbeats 80000000
set_option maxRecDepth 20000
open Go.Proofs
namespace Go.Abs
section
open Go.RowKit
variable {b' b1 b2 c c1 c2 d1 d2:Bool} {d n x y:Int} {k1 k2 l l' l1 l2 m1 m2:List UInt32} {r:Rat}
theorem Xx {b:Bool} (h:BA x b l) (f:c=decide (x=0)):CF 350 [.agg (BX b l)] (.one (.bool c)):=by
 refine AG Tryz.func350 fun E k=>?_
 rintro m ⟨j,f5⟩ q a;exact AF (by rw[f,a,Bool.eq_iff_iff];simp only[decide_eq_true_eq,beq_iff_eq];rw[<-h.Fp];omega)
theorem LF {b:Bool} (k:BA x b l) (j:c=decide (x=1)):CF 383 [.agg (BX b l)] (.one (.bool c)):=by
 refine AG Tryz.func383 fun E G=>?_
 refine Np (fun q=>?_) fun q=>?_
 ·exact AF (by rw[j];exact (Sr k q).symm)
 intro H u;have F:=u.eq;have f9:=u.le;refine CH (fun m=>?_) fun m=>?_
 ·exact AF (by rw[j];exact (Y2 k (by omega)).symm)
 refine AW 0 fun D f=>?_
 refine AS ?_;intro w a z h;have v:=a.eq;have f16:=a.lt;exact AF (by rw[j,h,<-Su k q (by omega) f,Bool.eq_iff_iff];simp only[decide_eq_true_eq,beq_iff_eq];omega)
theorem Ss {b:Bool} (f:BA 1 b l):CF 305 [] (.agg (BX b l)):=by
 refine AG Tryz.func305 fun E h=>?_
 obtain⟨j,k,a⟩:=Ak (1);refine AB h (Ns (by omega) a) ?_;exact Di ((a.uniq f rfl).1.symm) ((a.uniq f rfl).2.symm)
theorem Pp {b3:Bool} {l3:List UInt32} (j:BA x b1 l1) (q:BA y b2 l2) (k:y≠0) (h:BA (Ch x y) b3 l3) (s1:l1.length<=17592186042000) (s2:l2.length<=17592186042000):CF 382 [.agg (BX b1 l1),.agg (BX b2 l2)] (.agg (BX b3 l3)):=by
 refine AG Tryz.func382 fun E m=>?_
 obtain⟨D,b⟩:=xB (decide (y=1));refine AB m (LF q b) ?_;cases D <;> conv=>cbv
 ·obtain⟨w,z,a⟩:=Ak (Ch x y);obtain⟨u,v,f⟩:=Ak (HP x y);refine AB m (dA j q k a f (by omega) (by omega)) ?_;exact Di ((a.uniq h rfl).1.symm) ((a.uniq h rfl).2.symm)
 exact Di ((h.uniq j (by rw[of_decide_eq_true b.symm];exact W4 x)).1) ((h.uniq j (by rw[of_decide_eq_true b.symm];exact W4 x)).2)
theorem Mq {b:Bool} (a:d≠0) (h:BA d b l) (h':BA ((Nat.gcd n.natAbs d.natAbs:Nat):Int) b' l'):l'.length<=l.length:=by
 rw[h.Bb,h'.Bb,Int.natAbs_natCast];exact EF (Nat.le_of_dvd (by omega) (Nat.gcd_dvd_right _ _))
theorem O0 {b:Bool} (a:d≠0) (h:BA d b l) (h':BA (-((Nat.gcd n.natAbs d.natAbs:Nat):Int)) b' l'):l'.length<=l.length:=by
 rw[h.Bb,h'.Bb,Int.natAbs_neg,Int.natAbs_natCast];exact EF (Nat.le_of_dvd (by omega) (Nat.gcd_dvd_right _ _))
theorem O1 (a:d≠0):((Nat.gcd n.natAbs d.natAbs:Nat):Int)≠0:=by
 have:=Nat.gcd_pos_of_pos_right n.natAbs (n:=d.natAbs) (by omega);omega
theorem SC {b:Bool} (h:BA d b l) (e:b=true):d<0:=by
 have:=h.neg;rw[e] at this;simpa using this.symm
theorem SB {b:Bool} (h:BA d b l) (e:b=false):¬d<0:=by
 have:=h.neg;rw[e] at this;simpa using this.symm
theorem LN {q:Rat} (M:BA n b1 l1) (j:BA d b2 l2) (k:d≠0) (L:q=Rat.divInt n d) (D:BY q c1 m1 c2 m2) (s1:l1.length<=17592186042000) (s2:l2.length<=17592186042000):CF 351 [.agg (BX b1 l1),.agg (BX b2 l2)] (.agg (Bw c1 m1 c2 m2)):=by
 refine AG Tryz.func351 fun E H=>?_
 obtain⟨N,O,h⟩:=Ak (((Nat.gcd n.natAbs d.natAbs:Nat):Int));refine AB H (Ug M j h (by omega) (by omega)) ?_;refine .inr ?_;cases b2 <;> conv=>cbv
 ·obtain⟨u,w,a⟩:=Ak (Ch n (if d<0 then -((Nat.gcd n.natAbs d.natAbs:Nat):Int) else ((Nat.gcd n.natAbs d.natAbs:Nat):Int)));have K:BA (if d<0 then -((Nat.gcd n.natAbs d.natAbs:Nat):Int) else ((Nat.gcd n.natAbs d.natAbs:Nat):Int)) N O:=by rw[if_neg (SB j rfl)];exact h
  have m:(if d<0 then -((Nat.gcd n.natAbs d.natAbs:Nat):Int) else ((Nat.gcd n.natAbs d.natAbs:Nat):Int))≠0:=by rw[if_neg (SB j rfl)];have:=O1 (n:=n) k;omega
  have J:Ch n (if d<0 then -((Nat.gcd n.natAbs d.natAbs:Nat):Int) else ((Nat.gcd n.natAbs d.natAbs:Nat):Int))=q.num:=by rw[L];exact (PO k).symm
  have I:Ch d (if d<0 then -((Nat.gcd n.natAbs d.natAbs:Nat):Int) else ((Nat.gcd n.natAbs d.natAbs:Nat):Int))=(q.den:Int):=by rw[L];exact (PM k).symm
  refine AB (r:= .agg [.bool u,.sl .u32 w]) H (Pp M K m a (by omega) (by have:=Mq k j h;omega)) ?_;obtain⟨v,z,b⟩:=Ak (Ch d (if d<0 then -((Nat.gcd n.natAbs d.natAbs:Nat):Int) else ((Nat.gcd n.natAbs d.natAbs:Nat):Int)));refine AB (r:= .agg [.bool v,.sl .u32 z]) H (Pp j K m b (by omega) (by have:=Mq k j h;omega)) ?_;exact AE ⟨⟨rfl,congrArg _ ((a.uniq D.num J).1.symm),congrArg _ ((a.uniq D.num J).2.symm),congrArg _ ((b.uniq D.den I).1.symm),congrArg _ ((b.uniq D.den I).2.symm),trivial⟩,trivial⟩
 obtain⟨F,G,f⟩:=Ak (-((Nat.gcd n.natAbs d.natAbs:Nat):Int));refine AB (r:= .agg [.bool F,.sl .u32 G]) H (Un h (by have:=Mq k j h;omega) f) ?_;obtain⟨u,w,a⟩:=Ak (Ch n (if d<0 then -((Nat.gcd n.natAbs d.natAbs:Nat):Int) else ((Nat.gcd n.natAbs d.natAbs:Nat):Int)));have K:BA (if d<0 then -((Nat.gcd n.natAbs d.natAbs:Nat):Int) else ((Nat.gcd n.natAbs d.natAbs:Nat):Int)) F G:=by rw[if_pos (SC j rfl)];exact f
 have m:(if d<0 then -((Nat.gcd n.natAbs d.natAbs:Nat):Int) else ((Nat.gcd n.natAbs d.natAbs:Nat):Int))≠0:=by rw[if_pos (SC j rfl)];have:=O1 (n:=n) k;omega
 have J:Ch n (if d<0 then -((Nat.gcd n.natAbs d.natAbs:Nat):Int) else ((Nat.gcd n.natAbs d.natAbs:Nat):Int))=q.num:=by rw[L];exact (PO k).symm
 have I:Ch d (if d<0 then -((Nat.gcd n.natAbs d.natAbs:Nat):Int) else ((Nat.gcd n.natAbs d.natAbs:Nat):Int))=(q.den:Int):=by rw[L];exact (PM k).symm
 refine AB (r:= .agg [.bool u,.sl .u32 w]) H (Pp M K m a (by omega) (by have:=O0 k j f;omega)) ?_;obtain⟨v,z,b⟩:=Ak (Ch d (if d<0 then -((Nat.gcd n.natAbs d.natAbs:Nat):Int) else ((Nat.gcd n.natAbs d.natAbs:Nat):Int)));refine AB (r:= .agg [.bool v,.sl .u32 z]) H (Pp j K m b (by omega) (by have:=O0 k j f;omega)) ?_;exact AE ⟨⟨rfl,congrArg _ ((a.uniq D.num J).1.symm),congrArg _ ((a.uniq D.num J).2.symm),congrArg _ ((b.uniq D.den I).1.symm),congrArg _ ((b.uniq D.den I).2.symm),trivial⟩,trivial⟩
theorem Hb {q:Rat} (k: -9223372036854775808<=x/\x<9223372036854775808) (f:q=(x:Rat)) (h:BY q c1 m1 c2 m2):CF 245 [.one (.int .i64 x)] (.agg (Bw c1 m1 c2 m2)):=by
 refine AG Tryz.func245 fun E j=>?_
 obtain⟨m,v,a⟩:=Ak (x);refine AB j (Ns k a) ?_;obtain⟨u,w,b⟩:=Ak (1);refine AB j (Ss b) ?_;exact AE ⟨⟨rfl,congrArg _ ((a.uniq h.num (by rw[f];rfl)).1.symm),congrArg _ ((a.uniq h.num (by rw[f];rfl)).2.symm),congrArg _ ((b.uniq h.den (by rw[f];rfl)).1.symm),congrArg _ ((b.uniq h.den (by rw[f];rfl)).2.symm),trivial⟩,trivial⟩
theorem Ny {q:Rat} {c:Int} (h:BY q b1 l1 b2 l2) (f:c=D1 q):CF 311 [.agg (Bw b1 l1 b2 l2)] (.one (.int .i64 c)):=by
 refine AG Tryz.func311 fun E b=>?_
 obtain⟨j,a⟩:=xI (Cg q.num);refine AB b (L7 h.num a) ?_;exact AF (by rw[f,a];rfl)
theorem da {q p:Rat} (f:BY q b1 l1 b2 l2) (u:CR q) (b:p= -q) (h:BY p c1 m1 c2 m2):CF 314 [.agg (Bw b1 l1 b2 l2)] (.agg (Bw c1 m1 c2 m2)):=by
 refine AG Tryz.func314 fun E m=>?_
 obtain⟨j,k,a⟩:=Ak (-q.num);refine AB (r:= .agg [.bool j,.sl .u32 k]) m (Un f.num (by have:=f.small u;omega) a) ?_;exact AE ⟨⟨rfl,congrArg _ ((a.uniq h.num (by rw[b];rfl)).1.symm),congrArg _ ((a.uniq h.num (by rw[b];rfl)).2.symm),congrArg _ ((f.den.uniq h.den (by rw[b];rfl)).1.symm),congrArg _ ((f.den.uniq h.den (by rw[b];rfl)).2.symm),trivial⟩,trivial⟩
theorem dW {p q:Rat} (a:BY p b1 l1 b2 l2) (b:BY q c1 m1 c2 m2) (v:CR p) (ht:CR q) (W:r=p+q) (D:BY r d1 k1 d2 k2):CF 354 [.agg (Bw b1 l1 b2 l2),.agg (Bw c1 m1 c2 m2)] (.agg (Bw d1 k1 d2 k2)):=by
 refine AG Tryz.func354 fun E z=>?_
 obtain⟨b8,F⟩:=xB (decide ((p.den:Int)=1));refine AB z (LF a.den F) ?_;cases b8 <;> conv=>cbv
 ·obtain⟨K,P,f⟩:=Ak (p.num*q.den);refine AB (r:= .agg [.bool K,.sl .u32 P]) z (FN a.num b.den f (by have:=a.small v;have:=b.small ht;omega) (by have:=a.small v;have:=b.small ht;omega)) ?_;obtain⟨L,Q,h⟩:=Ak (q.num*p.den);refine AB (r:= .agg [.bool L,.sl .u32 Q]) z (FN b.num a.den h (by have:=a.small v;have:=b.small ht;omega) (by have:=a.small v;have:=b.small ht;omega)) ?_;obtain⟨M,S,m⟩:=Ak (p.num*q.den+q.num*p.den);refine AB (r:= .agg [.bool M,.sl .u32 S]) z (QT f h m (by have:=a.small v;have:=b.small ht;have:=a.num.Dh b.den f rfl;omega) (by have:=a.small v;have:=b.small ht;have:=b.num.Dh a.den h rfl;omega)) ?_;obtain⟨N,U,u⟩:=Ak ((p.den:Int)*q.den);refine AB (r:= .agg [.bool N,.sl .u32 U]) z (FN a.den b.den u (by have:=a.small v;have:=b.small ht;omega) (by have:=a.small v;have:=b.small ht;omega)) ?_
  obtain⟨O,V,I,J,j⟩:=CA (r);refine AB (r:= .agg [.bool O,.sl .u32 V,.bool I,.sl .u32 J]) z (LN m u (Int.mul_ne_zero (HH p) (HH q)) (W.trans (Qu p q)) j (by have:=a.small v;have:=b.small ht;have:=a.num.Dh b.den f rfl;have:=b.num.Dh a.den h rfl;have:=f.OE h m rfl (k:=8000000000000) (by omega) (by omega);omega) (by have:=a.small v;have:=b.small ht;have:=a.den.Dh b.den u rfl;omega)) ?_;exact AE ⟨⟨rfl,congrArg _ ((j.uniq D rfl).1.1.symm),congrArg _ ((j.uniq D rfl).1.2.symm),congrArg _ ((j.uniq D rfl).2.1.symm),congrArg _ ((j.uniq D rfl).2.2.symm),trivial⟩,trivial⟩
 obtain⟨a5,w⟩:=xB (decide ((q.den:Int)=1));refine AB z (LF b.den w) ?_;cases a5 <;> conv=>cbv
 ·obtain⟨K,P,f⟩:=Ak (p.num*q.den);refine AB (r:= .agg [.bool K,.sl .u32 P]) z (FN a.num b.den f (by have:=a.small v;have:=b.small ht;omega) (by have:=a.small v;have:=b.small ht;omega)) ?_;obtain⟨L,Q,h⟩:=Ak (q.num*p.den);refine AB (r:= .agg [.bool L,.sl .u32 Q]) z (FN b.num a.den h (by have:=a.small v;have:=b.small ht;omega) (by have:=a.small v;have:=b.small ht;omega)) ?_;obtain⟨M,S,m⟩:=Ak (p.num*q.den+q.num*p.den);refine AB (r:= .agg [.bool M,.sl .u32 S]) z (QT f h m (by have:=a.small v;have:=b.small ht;have:=a.num.Dh b.den f rfl;omega) (by have:=a.small v;have:=b.small ht;have:=b.num.Dh a.den h rfl;omega)) ?_;obtain⟨N,U,u⟩:=Ak ((p.den:Int)*q.den);refine AB (r:= .agg [.bool N,.sl .u32 U]) z (FN a.den b.den u (by have:=a.small v;have:=b.small ht;omega) (by have:=a.small v;have:=b.small ht;omega)) ?_
  obtain⟨O,V,I,J,j⟩:=CA (r);refine AB (r:= .agg [.bool O,.sl .u32 V,.bool I,.sl .u32 J]) z (LN m u (Int.mul_ne_zero (HH p) (HH q)) (W.trans (Qu p q)) j (by have:=a.small v;have:=b.small ht;have:=a.num.Dh b.den f rfl;have:=b.num.Dh a.den h rfl;have:=f.OE h m rfl (k:=8000000000000) (by omega) (by omega);omega) (by have:=a.small v;have:=b.small ht;have:=a.den.Dh b.den u rfl;omega)) ?_;exact AE ⟨⟨rfl,congrArg _ ((j.uniq D rfl).1.1.symm),congrArg _ ((j.uniq D rfl).1.2.symm),congrArg _ ((j.uniq D rfl).2.1.symm),congrArg _ ((j.uniq D rfl).2.2.symm),trivial⟩,trivial⟩
 obtain⟨a1,a2,G⟩:=Ak (p.num+q.num);refine AB (r:= .agg [.bool a1,.sl .u32 a2]) z (QT a.num b.num G (by have:=a.small v;have:=b.small ht;omega) (by have:=a.small v;have:=b.small ht;omega)) ?_;obtain⟨a6,a7,H⟩:=Ak (1);refine AB z (Ss H) ?_;exact AE ⟨⟨rfl,congrArg _ ((G.uniq D.num (by rw[W];exact (Iz (of_decide_eq_true F.symm) (of_decide_eq_true w.symm)).1.symm)).1.symm),congrArg _ ((G.uniq D.num (by rw[W];exact (Iz (of_decide_eq_true F.symm) (of_decide_eq_true w.symm)).1.symm)).2.symm),congrArg _ ((H.uniq D.den (by rw[W,(Iz (of_decide_eq_true F.symm) (of_decide_eq_true w.symm)).2];rfl)).1.symm),congrArg _ ((H.uniq D.den (by rw[W,(Iz (of_decide_eq_true F.symm) (of_decide_eq_true w.symm)).2];rfl)).2.symm),trivial⟩,trivial⟩
theorem dZ {p q:Rat} (b:BY p b1 l1 b2 l2) (f:BY q c1 m1 c2 m2) (m:CR p) (ht:CR q) (N:r=p*q) (u:BY r d1 k1 d2 k2):CF 366 [.agg (Bw b1 l1 b2 l2),.agg (Bw c1 m1 c2 m2)] (.agg (Bw d1 k1 d2 k2)):=by
 refine AG Tryz.func366 fun E M=>?_
 obtain⟨V,v⟩:=xB (decide ((p.den:Int)=1));refine AB M (LF b.den v) ?_;cases V <;> conv=>cbv
 ·obtain⟨G,J,h⟩:=Ak (p.num*q.num);refine AB (r:= .agg [.bool G,.sl .u32 J]) M (FN b.num f.num h (by have:=b.small m;have:=f.small ht;omega) (by have:=b.small m;have:=f.small ht;omega)) ?_;obtain⟨H,K,j⟩:=Ak ((p.den:Int)*q.den);refine AB (r:= .agg [.bool H,.sl .u32 K]) M (FN b.den f.den j (by have:=b.small m;have:=f.small ht;omega) (by have:=b.small m;have:=f.small ht;omega)) ?_;obtain⟨I,L,D,F,a⟩:=CA (r);refine AB (r:= .agg [.bool I,.sl .u32 L,.bool D,.sl .u32 F]) M (LN h j (Int.mul_ne_zero (HH p) (HH q)) (N.trans (PW p q)) a (by have:=b.small m;have:=f.small ht;have:=b.num.Dh f.num h rfl;omega) (by have:=b.small m;have:=f.small ht;have:=b.den.Dh f.den j rfl;omega)) ?_;exact AE ⟨⟨rfl,congrArg _ ((a.uniq u rfl).1.1.symm),congrArg _ ((a.uniq u rfl).1.2.symm),congrArg _ ((a.uniq u rfl).2.1.symm),congrArg _ ((a.uniq u rfl).2.2.symm),trivial⟩,trivial⟩
 obtain⟨Q,k⟩:=xB (decide ((q.den:Int)=1));refine AB M (LF f.den k) ?_;cases Q <;> conv=>cbv
 ·obtain⟨G,J,h⟩:=Ak (p.num*q.num);refine AB (r:= .agg [.bool G,.sl .u32 J]) M (FN b.num f.num h (by have:=b.small m;have:=f.small ht;omega) (by have:=b.small m;have:=f.small ht;omega)) ?_;obtain⟨H,K,j⟩:=Ak ((p.den:Int)*q.den);refine AB (r:= .agg [.bool H,.sl .u32 K]) M (FN b.den f.den j (by have:=b.small m;have:=f.small ht;omega) (by have:=b.small m;have:=f.small ht;omega)) ?_;obtain⟨I,L,D,F,a⟩:=CA (r);refine AB (r:= .agg [.bool I,.sl .u32 L,.bool D,.sl .u32 F]) M (LN h j (Int.mul_ne_zero (HH p) (HH q)) (N.trans (PW p q)) a (by have:=b.small m;have:=f.small ht;have:=b.num.Dh f.num h rfl;omega) (by have:=b.small m;have:=f.small ht;have:=b.den.Dh f.den j rfl;omega)) ?_;exact AE ⟨⟨rfl,congrArg _ ((a.uniq u rfl).1.1.symm),congrArg _ ((a.uniq u rfl).1.2.symm),congrArg _ ((a.uniq u rfl).2.1.symm),congrArg _ ((a.uniq u rfl).2.2.symm),trivial⟩,trivial⟩
 obtain⟨O,P,w⟩:=Ak (p.num*q.num);refine AB (r:= .agg [.bool O,.sl .u32 P]) M (FN b.num f.num w (by have:=b.small m;have:=f.small ht;omega) (by have:=b.small m;have:=f.small ht;omega)) ?_;obtain⟨S,U,z⟩:=Ak (1);refine AB M (Ss z) ?_;exact AE ⟨⟨rfl,congrArg _ ((w.uniq u.num (by rw[N];exact (mul_ones (of_decide_eq_true v.symm) (of_decide_eq_true k.symm)).1.symm)).1.symm),congrArg _ ((w.uniq u.num (by rw[N];exact (mul_ones (of_decide_eq_true v.symm) (of_decide_eq_true k.symm)).1.symm)).2.symm),congrArg _ ((z.uniq u.den (by rw[N,(mul_ones (of_decide_eq_true v.symm) (of_decide_eq_true k.symm)).2];rfl)).1.symm),congrArg _ ((z.uniq u.den (by rw[N,(mul_ones (of_decide_eq_true v.symm) (of_decide_eq_true k.symm)).2];rfl)).2.symm),trivial⟩,trivial⟩
theorem dY {p q:Rat} (j:BY p b1 l1 b2 l2) (b:BY q c1 m1 c2 m2) (k:CR p) (ht:CR q) (u:q≠0) (M:r=p/q) (K:BY r d1 k1 d2 k2):CF 372 [.agg (Bw b1 l1 b2 l2),.agg (Bw c1 m1 c2 m2)] (.AI [(true,(Bw d1 k1 d2 k2)),(false,[.int .i64 0])]):=by
 refine AG Tryz.func372 fun E J=>?_
 obtain⟨L,m⟩:=xB (decide (q.num=0));refine AB J (Xx b.num m) ?_;cases L <;> conv=>cbv
 ·obtain⟨z,G,f⟩:=Ak (p.num*q.den);refine AB (r:= .agg [.bool z,.sl .u32 G]) J (FN j.num b.den f (by have:=j.small k;have:=b.small ht;omega) (by have:=j.small k;have:=b.small ht;omega)) ?_;obtain⟨D,H,h⟩:=Ak ((p.den:Int)*q.num);refine AB (r:= .agg [.bool D,.sl .u32 H]) J (FN j.den b.num h (by have:=j.small k;have:=b.small ht;omega) (by have:=j.small k;have:=b.small ht;omega)) ?_;obtain⟨F,I,v,w,a⟩:=CA (r);refine AB (r:= .agg [.bool F,.sl .u32 I,.bool v,.sl .u32 w]) J (LN f h (Int.mul_ne_zero (HH p) (mt Rat.num_eq_zero.1 u)) (M.trans (iw p q)) a (by have:=j.small k;have:=b.small ht;have:=j.num.Dh b.den f rfl;omega) (by have:=j.small k;have:=b.small ht;have:=j.den.Dh b.num h rfl;omega)) ?_;exact AE ⟨⟨rfl,congrArg _ ((a.uniq K rfl).1.1.symm),congrArg _ ((a.uniq K rfl).1.2.symm),congrArg _ ((a.uniq K rfl).2.1.symm),congrArg _ ((a.uniq K rfl).2.2.symm),trivial⟩,t2,trivial⟩
 exact absurd (Rat.num_eq_zero.1 (of_decide_eq_true m.symm)) u
theorem TU (q:Rat):(q.num<0/\D1 q= -1)\/(q.num=0/\D1 q=0)\/(0<q.num/\D1 q=1):=Fs q.num
theorem Me (q:Rat):0<(q.den:Int):=by have:=q.den_pos;omega
theorem aO {p q:Rat} (h:D1 p<D1 q):p<q:=by
 rw[Rat.lt_iff];rcases TU p with⟨a,e⟩ |⟨a,e⟩ |⟨a,e⟩ <;> rcases TU q with⟨b,f⟩ |⟨b,f⟩ |⟨b,f⟩ <;> rw[e,f] at h <;> try omega
 ·rw[b,Int.zero_mul];exact Int.mul_neg_of_neg_of_pos a (Me q)
 ·exact Int.lt_trans (Int.mul_neg_of_neg_of_pos a (Me q)) (Int.mul_pos b (Me p))
 rw[a,Int.zero_mul];exact Int.mul_pos b (Me p)
theorem iD {p q:Rat} (h:p<q):Gu p q= -1:=by unfold Gu;rw[if_pos h]
theorem iC {p q:Rat} (h:q<p):Gu p q=1:=by
 unfold Gu;rw[if_neg (fun h'=>Int.lt_asymm ((Rat.lt_iff _ _).1 h) ((Rat.lt_iff _ _).1 h')),if_pos h]
theorem Wk (p q:Rat):Gu p q=Bu (p.num*q.den) (q.num*p.den):=by
 unfold Gu Bu;simp only[Rat.lt_iff]
theorem dX {p q:Rat} {c:Int} (h:BY p b1 l1 b2 l2) (j:BY q c1 m1 c2 m2) (D:CR p) (ht:CR q) (F:c=Gu p q):CF 338 [.agg (Bw b1 l1 b2 l2),.agg (Bw c1 m1 c2 m2)] (.one (.int .i64 c)):=by
 refine AG Tryz.func338 fun E k=>?_
 obtain⟨L,G⟩:=xI (D1 p);refine AB k (Ny h G) ?_;obtain⟨J,m⟩:=xI (D1 q);refine AB k (Ny j m) ?_;refine Fa (fun H=>?_) fun H=>?_
 ·refine BW (fun I=>?_) fun I=>?_
  ·exact AF (by rw[F];exact iC (aO (by omega)))
  exact AF (by rw[F];exact iD (aO (by omega)))
 obtain⟨u,w,b⟩:=Ak (p.num*q.den);refine AB (r:= .agg [.bool u,.sl .u32 w]) k (FN h.num j.den b (by have:=h.small D;have:=j.small ht;omega) (by have:=h.small D;have:=j.small ht;omega)) ?_;obtain⟨v,z,f⟩:=Ak (q.num*p.den);refine AB (r:= .agg [.bool v,.sl .u32 z]) k (FN j.num h.den f (by have:=h.small D;have:=j.small ht;omega) (by have:=h.small D;have:=j.small ht;omega)) ?_;obtain⟨K,a⟩:=xI (Bu (p.num*q.den) (q.num*p.den));refine AB k (Ub b f a) ?_;exact AF (by rw[F,a,Wk])
theorem LG {b:Bool} (h:BA x b l) (h':BA ((Bt x.toNat:Nat):Int) b' l'):l'.length<=l.length:=by
 rw[h.Bb,h'.Bb,Int.natAbs_natCast];exact EF (Nat.le_trans (Nat.le_trans (Nat.le_mul_self _) (Mw x.toNat)) (by omega))
theorem nq {e:Int} (h:e=if x<0 then 7 else 0) (a:e≠0):decide (((Bt x.toNat:Nat):Int)*((Bt x.toNat:Nat):Int)=x)=false:=by
 have f:x<0:=by
  apply Classical.byContradiction;intro b;rw[if_neg b] at h;exact a h
 rw[show x.toNat=0 by omega];simp only[decide_eq_false_iff_not];intro h';rw[show Bt 0=0 from rfl] at h';omega
theorem iG (a b:Int):decide (a=b)=(Bu a b==0):=by
 unfold Bu;rw[Bool.eq_iff_iff,decide_eq_true_eq,beq_iff_eq]
 split
 ·omega
 split <;> omega
theorem Pt (q:BA x b1 l1) (u:BA ((Bt x.toNat:Nat):Int) b2 l2) (z:c=decide (((Bt x.toNat:Nat):Int)*((Bt x.toNat:Nat):Int)=x)) (s1:l1.length<=4000000000000):CF 394 [.agg (BX b1 l1)] (.AI [(true,(BX b2 l2)),(false,[.bool c])]):=by
 refine AG Tryz.func394 fun E w=>?_
 obtain⟨G,H,a⟩:=Ak ((Bt x.toNat:Nat):Int);obtain⟨I,h⟩:=xI (if x<0 then 7 else 0);refine AB w (du q a h (by omega)) ?_;refine CH (fun j=>?_) fun j=>?_
 ·exact AE ⟨⟨rfl,congrArg _ ((a.uniq u rfl).1.symm),congrArg _ ((a.uniq u rfl).2.symm),trivial⟩,⟨rfl,congrArg _ (by rw[z];exact nq h j),trivial⟩,trivial⟩
 obtain⟨k,m,f⟩:=Ak (((Bt x.toNat:Nat):Int)*((Bt x.toNat:Nat):Int));refine AB (r:= .agg [.bool k,.sl .u32 m]) w (FN a a f (by have:=LG q a;omega) (by have:=LG q a;omega)) ?_;obtain⟨F,b⟩:=xI (Bu (((Bt x.toNat:Nat):Int)*((Bt x.toNat:Nat):Int)) x);refine AB w (Ub f q b) ?_;intro D v;exact AE ⟨⟨rfl,congrArg _ ((a.uniq u rfl).1.symm),congrArg _ ((a.uniq u rfl).2.symm),trivial⟩,⟨rfl,congrArg _ (by rw[z,v,b];exact iG _ _),trivial⟩,trivial⟩
theorem dc {q:Rat} (v:BY q b1 l1 b2 l2) (I:CR q) (F:0<=r) (H:r*r=q) (w:BY r c1 m1 c2 m2):CF 374 [.agg (Bw b1 l1 b2 l2)] (.AI [(true,(Bw c1 m1 c2 m2)),(false,[.bool true])]):=by
 refine AG Tryz.func374 fun E G=>?_
 obtain⟨j,m,a⟩:=Ak (r.num);have D:=bC F H;refine AB (r:= .AI [(true,[.bool j,.sl .u32 m]),(false,[.bool true])]) G (Pt v.num (by rw[D.1];exact a) (by rw[D.1];exact (decide_eq_true D.2).symm) (by have:=v.small I;omega)) ?_;obtain⟨k,u,b⟩:=Ak (r.den:Int);have z:=bB F H;refine AB (r:= .AI [(true,[.bool k,.sl .u32 u]),(false,[.bool true])]) G (Pt v.den (by rw[z.1];exact b) (by rw[z.1];exact (decide_eq_true z.2).symm) (by have:=v.small I;omega)) ?_;refine Gm (fun f=>?_) fun f=>?_
 ·exact absurd f (by decide)
 refine Np (fun h=>?_) fun h=>?_
 ·exact AE ⟨⟨rfl,congrArg _ ((a.uniq w.num rfl).1.symm),congrArg _ ((a.uniq w.num rfl).2.symm),congrArg _ ((b.uniq w.den rfl).1.symm),congrArg _ ((b.uniq w.den rfl).2.symm),trivial⟩,t2,trivial⟩
 exact absurd h (by decide)
theorem db {q:Rat} (z:BY q b1 l1 b2 l2) (H:CR q) (I:¬∃r:Rat,0<=r/\r*r=q):CF 374 [.agg (Bw b1 l1 b2 l2)] (.AI [(true,[.bool false,.sl .u32 [],.bool false,.sl .u32 []]),(false,[.bool false])]):=by
 refine AG Tryz.func374 fun E G=>?_
 obtain⟨m,v,f⟩:=Ak (((Bt q.num.toNat:Nat):Int));obtain⟨D,a⟩:=xB (decide (((Bt q.num.toNat:Nat):Int)*((Bt q.num.toNat:Nat):Int)=q.num));refine AB (r:= .AI [(true,[.bool m,.sl .u32 v]),(false,[.bool D])]) G (Pt z.num f a (by have:=z.small H;omega)) ?_;obtain⟨u,w,h⟩:=Ak (((Bt (q.den:Int).toNat:Nat):Int));obtain⟨F,b⟩:=xB (decide (((Bt (q.den:Int).toNat:Nat):Int)*((Bt (q.den:Int).toNat:Nat):Int)=(q.den:Int)));refine AB (r:= .AI [(true,[.bool u,.sl .u32 w]),(false,[.bool F])]) G (Pt z.den h b (by have:=z.small H;omega)) ?_;refine Gm (fun j=>?_) fun j=>?_
 ·exact AE ⟨⟨rfl,rfl,AL,rfl,AL,trivial⟩,t2,trivial⟩
 refine Np (fun k=>?_) fun k=>?_
 ·exact absurd (bA (of_decide_eq_true (a.symm.trans j)) (of_decide_eq_true (b.symm.trans k))) I
 exact AE ⟨⟨rfl,rfl,AL,rfl,AL,trivial⟩,t2,trivial⟩
theorem dK {q:Rat} (z:BA n b1 l1) (D:BA d b2 l2) (w:d≠0) (F:q=Rat.divInt n d) (v:BY q c1 m1 c2 m2) (s1:l1.length<=17592186042000) (s2:l2.length<=17592186042000):CF 303 [.agg (BX b1 l1),.agg (BX b2 l2)] (.AI [(true,(Bw c1 m1 c2 m2)),(false,[.int .i64 0])]):=by
 refine AG Tryz.func303 fun E u=>?_
 obtain⟨G,I,f⟩:=Ak (n);refine AB u (Uq z (by omega) f) ?_;obtain⟨H,J,b⟩:=Ak (d);refine AB u (Uq D (by omega) b) ?_;refine AB (r:= .one (.bool false)) u (Xx b (by simp[w])) ?_;obtain⟨k,m,h,j,a⟩:=CA (q);refine AB (r:= .agg [.bool k,.sl .u32 m,.bool h,.sl .u32 j]) u (LN f b w F a (by rw[(f.uniq z rfl).2];exact s1) (by rw[(b.uniq D rfl).2];exact s2)) ?_;exact AE ⟨⟨rfl,congrArg _ ((a.uniq v rfl).1.1.symm),congrArg _ ((a.uniq v rfl).1.2.symm),congrArg _ ((a.uniq v rfl).2.1.symm),congrArg _ ((a.uniq v rfl).2.2.symm),trivial⟩,t2,trivial⟩
theorem QN {b:Bool} (a: -9223372036854775808<=x/\x<9223372036854775808) (h:BA x b l):l.length<=2:=by
 rw[h.Bb];exact Fq (by omega)
theorem dF {q:Rat} (F: -9223372036854775808<=n/\n<9223372036854775808) (D: -9223372036854775808<=d/\d<9223372036854775808) (M:d≠0) (N:q=Rat.divInt n d) (z:BY q c1 m1 c2 m2):CF 241 [.one (.int .i64 n),.one (.int .i64 d)] (.agg (Bw c1 m1 c2 m2)):=by
 refine AG Tryz.func241 fun E w=>?_
 obtain⟨O,P,f⟩:=Ak (n);refine AB w (Ns F f) ?_;obtain⟨I,K,b⟩:=Ak (d);refine AB w (Ns D b) ?_;obtain⟨u,v,k,m,a⟩:=CA q;refine AB (r:= .AI [(true,[.bool u,.sl .u32 v,.bool k,.sl .u32 m]),(false,[.int .i64 0])]) w (dK f b M N a (by have:=QN F f;omega) (by have:=QN D b;omega)) ?_;refine No (fun j=>?_) fun j=>?_
 ·exact AE ⟨⟨rfl,congrArg _ ((a.uniq z rfl).1.1.symm),congrArg _ ((a.uniq z rfl).1.2.symm),congrArg _ ((a.uniq z rfl).2.1.symm),congrArg _ ((a.uniq z rfl).2.2.symm),trivial⟩,trivial⟩
 obtain⟨J,L,G,H,h⟩:=CA (((0:Int):Rat));refine AB w (Hb (by omega) rfl h) ?_;exact absurd j (by decide)
theorem bh (j:BA y b2 l2) (h:Cg y<=0:=by omega):Ez b1 l1 b2 l2=false:=by
 apply Bool.eq_false_iff.2;intro h';obtain⟨q,f⟩:=Lv.1 h';have e:y=(q.den:Int):=by rw[j.Eg,f.den.Eg]
 have:=Me q;rcases Fs y with⟨a,b⟩ |⟨a,b⟩ |⟨a,b⟩ <;> omega
theorem bg (j:true=FZ b1 l1) (k:true=FZ b2 l2) (u:BA x b1 l1) (b:BA y b2 l2) (h:0<Cg y) (m:c=decide (((Nat.gcd x.natAbs y.natAbs:Nat):Int)=1)):Ez b1 l1 b2 l2=c:=by
 have v:0<y:=by rcases Fs y with⟨a,f⟩ |⟨a,f⟩ |⟨a,f⟩ <;> omega
 have hb:b2=false:=by rw[b.neg];exact decide_eq_false (by omega)
 have q:l2≠[]:=fun e=>by have:=b.nil.1 e;omega
 unfold Ez;rw[<-j,<-k,hb,decide_eq_true q,m,u.nat,b.nat];simp only[Bool.true_and,Bool.not_false];rw[Bool.eq_iff_iff,decide_eq_true_eq,decide_eq_true_eq];omega
theorem Ut (m:c=Ez b1 l1 b2 l2) (s1:l1.length<=17592186042000) (s2:l2.length<=17592186042000):CF 359 [.agg (Bw b1 l1 b2 l2)] (.one (.bool c)):=by
 refine AG Tryz.func359 fun E j=>?_
 obtain⟨F,a⟩:=xB (FZ b1 l1);refine AB j (U8 a) ?_;cases F <;> conv=>cbv
 ·exact AF (by rw[m];unfold Ez;rw[<-a];rfl)
 obtain⟨G,b⟩:=xB (FZ b2 l2);refine AB j (U8 b) ?_;cases G <;> conv=>cbv
 ·exact AF (by rw[m];unfold Ez;rw[<-b];exact Bool.and_false _)
 obtain⟨x,v⟩:=JY.1 a.symm;obtain⟨y,q⟩:=JY.1 b.symm;obtain⟨H,k⟩:=xI (Cg y);refine AB j (L7 q k) ?_;refine E0 (fun u=>?_) fun u=>?_
 ·exact AF (by rw[m];exact bh q)
 obtain⟨w,z,h⟩:=Ak (((Nat.gcd x.natAbs y.natAbs:Nat):Int));refine AB j (Ug v q h (by omega) (by omega)) ?_;obtain⟨D,f⟩:=xB (decide (((Nat.gcd x.natAbs y.natAbs:Nat):Int)=1));refine AB j (LF h f) ?_;exact AF (by rw[m];exact bg a b v q (by omega) f)
end
section
open Go.RowKit
variable {B X Z o:LR} {i n zn:Nat} {xs ys:List Rat}
theorem jv {A:LR} (w:A=X.take (X.length/2)) (z:B=X.drop (X.length/2)):CF 369 [.one (.sl AA X)] (.AI [(false,[.sl AA A]),(false,[.sl AA B])]):=by
 refine AG Tryz.func369 fun E M=>?_
 rintro P ⟨K,f6⟩ Q L O F q D N j I ⟨u,f11⟩ J v H f h m ⟨k,a⟩ G b;exact AE ⟨⟨rfl,congrArg _ (by rw[w,j,List.drop_zero,show q=X.length/2 by omega]),trivial⟩,⟨rfl,congrArg _ (by rw[z,b,a,f,List.take_length,show h=X.length/2 by omega]),trivial⟩,trivial⟩
theorem ov {X A:List LR} (k:X≠[]) (q:A=X.take (X.length-1)) (u:X[X.length-1]? =some B):CF 368 [.one (.sl (.sl AA) X)] (.AI [(false,[.sl (.sl AA) A]),(false,[.sl AA B])]):=by
 refine AG Tryz.func368 fun E I=>?_
 rintro L ⟨F,f6⟩;have G:0<X.length:=List.length_pos_iff.2 k;refine AK ?_;rintro M H K w h v J f z ⟨j,f11⟩ b m;refine AW ((b).toNat) fun D a=>?_
 try conv=>cbv
 refine g2 rfl ?_;exact AE ⟨⟨rfl,congrArg _ (by rw[q,f,List.drop_zero,show h=X.length-1 by omega]),trivial⟩,⟨rfl,congrArg _ (by rw[show b.toNat=X.length-1 by omega] at a;exact (Option.some.inj (u.symm.trans a))),trivial⟩,trivial⟩
theorem jx {Z:Nat->LR} (h:o.take i=Z i) (e:i=n):o.take n=Z n:=by rw[<-e];exact h
theorem P9 {α:Type} {o:List α} {w:α} (h:i<o.length):(o.set i w).take (i+1)=o.take i++[w]:=by
 rw[List.take_succ_eq_append_getElem (by rw[List.length_set];exact h),List.take_set_of_le (Nat.le_refl _),List.getElem_set_self]
theorem qe {a:Int} (ha:AO a n) (hn:n<=1000000) (hX:X=BI (List.replicate n 0)) (H:zn=X.length):CF 344 [.one (.int .i64 a)] (.one (.own AA X zn)):=by
 have ea:=ha.eq;refine AG Tryz.func344 fun E W=>?_
 refine⟨fun _=>⟨by omega,by omega,by show _*64<=140737488355328;omega⟩,?_⟩;intro J (K:LR) D;have a5:=D.1;have G:K=List.replicate J (((false,[]),(false,[])):el AA):=D.2;have S:K.length=J:=by rw[G,List.length_replicate]
 conv=>cbv
 intro n8 V;have e8:=V.eq;conv=>cbv
 refine BN [] [3,8,9] [6] (fun vs N k=>∃(o:LR) (m i':Nat) (L i:Int),vs=[.one (.AZ AA 6 0 0 m),.one (.int .i64 L),.one (.int .i64 i)]/\N=[.arr 0 AA o]/\(o.length=n/\m=n/\DP L n/\AO i i'/\i'<=n)/\o.take i'=BI (List.replicate i' 0)/\k=n-i') (n-0) ⟨K,J,0,n8,0,rfl,rfl,⟨by omega,by omega,⟨by omega,by omega⟩,BD 0,by omega⟩,rfl,rfl⟩ ?_;rintro J0 F vs N a6 ⟨o,m,i',L,i,rfl,rfl,⟨ho,hm,P,hi,a1⟩,hinv,a2⟩;conv=>cbv
 have eL:=P.eq;have ei:=hi.eq;refine BW (fun I=>?_) fun I=>?_
 ·have b:o=X:=by rw[hX,<-jx (Z:=fun i=>BI (List.replicate i 0)) hinv (by omega),List.take_of_length_le (by omega)]
  exact AE ⟨⟨rfl,.inr (.inl ⟨_,_,by decide,rfl,rfl,by omega,rfl,Dm (b.symm) (by rw[H,<-b])⟩),trivial⟩,trivial⟩
 refine .inr ?_;obtain⟨u,v,j,q,h⟩:=CA (((0:Int):Rat));refine AB W (Hb (by omega) rfl h) ?_;intro z Q;refine⟨((u,v),(j,q)),fun _=>⟨by show _<List.length (α:=(el AA)) o;(first | omega | (simp;omega)),by first | exact t1 | exact t2 | exact t4 | simp[BR,BV,cells]⟩,?_⟩;intro (w:LR) (f:w=List.set (α:=(el AA)) o z (((u,v),(j,q))));have O:w.length=o.length:=by rw[f,List.length_set]
 refine AK ?_;intro M U;refine⟨n-(i'+1),?_,?_⟩
 ·omega
 rw[F];refine⟨w,m,i'+1,L,M,rfl,rfl,⟨by omega,by omega,P,⟨by omega⟩,by omega⟩,?_,rfl⟩;rw[f,show z=i' by omega,P9 (by omega),hinv,List.replicate_succ',BI,BI,List.map_append,<-h.rp];rfl
theorem IS {x:el AA} (b:X=BI xs) (f:D8 xs) (a:X[i]? =some x):∃q,BY q x.1.1 x.1.2 x.2.1 x.2.2/\xs[i]? =some q/\CR q:=by
 rw[b,BI,List.getElem?_map] at a;cases h:xs[i]? with
 | none=>rw[h] at a;simp at a
 | some q=>
  rw[h] at a;have e:x=rp q:=(Option.some.inj a).symm;exact⟨q,by rw[e];exact Gx q,rfl,f q (List.mem_of_getElem? h)⟩
theorem Zt (h:o.take i=BI (ys.take i)) (b:i=n) (a:o.length=n) (f:ys.length=n):BI ys=o.take n:=by
 rw[b] at h;rw[h,<-f,List.take_length]
theorem Zv {l:LR} {j:Nat} {q:Rat} {w:el AA} (h:o.take i=BI (ys.take i)) (b:i<o.length) (f:j=i) (k:l=o.set j w) (a:ys[i]? =some q) (hw:rp q=w):l.take (i+1)=BI (ys.take (i+1)):=by
 have m:i<ys.length:=GW a;rw[k,f,P9 b,h,List.take_succ,a,BI,BI,List.map_append,<-hw];rfl
theorem lj (V:X=BI xs) (hs:D8 xs) (hn:xs.length<=1000000) (hZ:Z=BI (xs.map (- ·))):CF 258 [.one (.sl AA X)] (.one (.sl AA Z)):=by
 refine AG Tryz.func258 fun E hE=>?_
 have a6:X.length=xs.length:=by rw[V,List.length_map]
 rintro n7 ⟨e7,f7⟩;conv=>cbv
 refine⟨fun _=>⟨by omega,by omega,by show _*64<=140737488355328;omega⟩,?_⟩;intro M (N:LR) D;have aa:=D.1;have G:N=List.replicate M (((false,[]),(false,[])):el AA):=D.2;have a2:N.length=M:=by rw[G,List.length_replicate]
 refine AS ?_;intro O v;have a1:=v.eq;have f10:=v.le;refine BN [] [3,9,10,11] [8] (fun vs Q k=>∃(o:LR) (m i':Nat) (L i:Int),vs=[.one (.AZ AA 8 0 0 m),.one (.sl AA X),.one (.int .i64 L),.one (.int .i64 i)]/\Q=[.arr 0 AA o]/\(o.length=X.length/\m=X.length/\DP L X.length/\AO i i'/\i'<=X.length)/\o.take i'=BI ((xs.map (- ·)).take i')/\k=X.length-i') (X.length-0) ⟨N,M,0,O,0,rfl,rfl,⟨by omega,by omega,v,BD 0,by omega⟩,rfl,rfl⟩ ?_;rintro J0 F vs Q ab ⟨o,m,i',L,i,rfl,rfl,⟨ho,hm,U,hi,a7⟩,hinv,a8⟩;conv=>cbv
 have eL:=U.eq;have ei:=hi.eq;refine BW (fun K=>?_) fun K=>?_
 ·exact AE ⟨⟨rfl,.inl ⟨_,rfl,by omega,congrArg _ (by rw[hZ,hm,List.drop_zero];exact Zt hinv (by omega) (by omega) (by rw[List.length_map];omega))⟩,trivial⟩,trivial⟩
 refine .inr ?_;refine AW i' fun ad z=>?_
 try conv=>cbv
 obtain⟨q,hq,H,I⟩:=IS V hs z;obtain⟨j,u,f,h,b⟩:=CA (-q);refine AB hE (da hq I rfl b) ?_;intro J W;refine⟨((j,u),(f,h)),fun _=>⟨by show _<List.length (α:=(el AA)) o;(first | omega | (simp;omega)),by first | exact t1 | exact t2 | exact t4 | simp[BR,BV,cells]⟩,?_⟩;intro (w:LR) (a:w=List.set (α:=(el AA)) o J (((j,u),(f,h))));have S:w.length=o.length:=by rw[a,List.length_set]
 refine AK ?_;intro P a5;refine⟨X.length-(i'+1),?_,?_⟩
 ·omega
 rw[F];refine⟨w,m,i'+1,L,P,rfl,rfl,⟨by omega,by omega,U,⟨by omega⟩,by omega⟩,?_,rfl⟩;exact Zv hinv (by omega) (by omega) a (by rw[List.getElem?_map,H];rfl) b.rp
theorem gF {Y:LR} (hX:X=BI xs) (hY:Y=BI ys) (hs:D8 xs) (ht:D8 ys) (P:ys.length=xs.length) (hn:xs.length<=1000000) (hZ:Z=BI (List.zipWith (· + ·) xs ys)) (Q:zn=Z.length):CF 309 [.one (.sl AA X),.one (.sl AA Y)] (.one (.own AA Z zn)):=by
 refine AG Tryz.func309 fun E hE=>?_
 have ab:X.length=xs.length:=by rw[hX,List.length_map]
 have ad:Y.length=xs.length:=by rw[hY,List.length_map,P]
 rintro n8 ⟨e8,f8⟩;conv=>cbv
 refine⟨fun _=>⟨by omega,by omega,by show _*64<=140737488355328;omega⟩,?_⟩;intro V (W:LR) G;have ag:=G.1;have J:W=List.replicate V (((false,[]),(false,[])):el AA):=G.2;have a8:W.length=V:=by rw[J,List.length_replicate]
 conv=>cbv
 intro a1 H;have a7:=H.eq;conv=>cbv
 refine BN [] [0,1,5,11,12] [9] (fun vs bl k=>∃(o:LR) (m i':Nat) (L i:Int),vs=[.one (.sl AA X),.one (.sl AA Y),.one (.AZ AA 9 0 0 m),.one (.int .i64 L),.one (.int .i64 i)]/\bl=[.arr 0 AA o]/\(o.length=X.length/\m=X.length/\AO L X.length/\AO i i'/\i'<=X.length)/\o.take i'=BI ((List.zipWith (· + ·) xs ys).take i')/\k=X.length-i') (X.length-0) ⟨W,V,0,a1,0,rfl,rfl,⟨by omega,by omega,⟨by omega⟩,BD 0,by omega⟩,rfl,rfl⟩ ?_;rintro J0 I vs bl ah ⟨o,m,i',L,i,rfl,rfl,⟨ho,hm,hL,hi,ae⟩,hinv,af⟩;conv=>cbv
 have eL:=hL.eq;have ei:=hi.eq;refine BW (fun U=>?_) fun U=>?_
 ·have z:BI (List.zipWith (· + ·) xs ys)=o.take X.length:=Zt hinv (by omega) (by omega) (by rw[List.length_zipWith];omega);have a:Z=o:=by rw[hZ,z,List.take_of_length_le (by omega)]
  exact AE ⟨⟨rfl,.inr (.inl ⟨_,_,by decide,rfl,rfl,by omega,rfl,Dm (a) (by rw[Q,a])⟩),trivial⟩,trivial⟩
 refine .inr ?_;refine AW i' fun ai D=>?_
 try conv=>cbv
 refine AW i' fun aj F=>?_
 try conv=>cbv
 obtain⟨p,hp,K,N⟩:=IS hX hs D;obtain⟨q,hq,M,O⟩:=IS hY ht F;obtain⟨u,v,h,j,f⟩:=CA (p+q);refine AB hE (dW hp hq N O rfl f) ?_;intro S a6;refine⟨((u,v),(h,j)),fun _=>⟨by show _<List.length (α:=(el AA)) o;(first | omega | (simp;omega)),by first | exact t1 | exact t2 | exact t4 | simp[BR,BV,cells]⟩,?_⟩;intro (w:LR) (b:w=List.set (α:=(el AA)) o S (((u,v),(h,j))));have a5:w.length=o.length:=by rw[b,List.length_set]
 refine AK ?_;intro a2 aa;refine⟨X.length-(i'+1),?_,?_⟩
 ·omega
 rw[I];refine⟨w,m,i'+1,L,a2,rfl,rfl,⟨by omega,by omega,hL,⟨by omega⟩,by omega⟩,?_,rfl⟩;exact Zv hinv (by omega) (by omega) b (by rw[List.getElem?_zipWith,K,M]) f.rp
end
section
open Go.RowKit
def HK (p:el AA->Bool):Nat->LR->Int
 | _,[]=> -1
 | i,x::l=>if p x=true then i else HK p (i+1) l
variable {Y:LR} {b1 b2 c:Bool} {g:FuncId} {i:Nat} {l1 l2:List UInt32} {ys:List Rat}
theorem Xm {X:LR} {x:el AA} (h:X[i]? =some x):X.drop i=x::X.drop (i+1):=by
 have a:=GW h;rw[List.drop_eq_getElem_cons a];rw[List.getElem?_eq_getElem a] at h;rw[Option.some.inj h]
theorem jz {X:LR} {p:el AA->Bool} {x:el AA} (h:X[i]? =some x) (a:p x=false):HK p i (X.drop i)=HK p (i+1) (X.drop (i+1)):=by
 rw[Xm h,HK,a];rfl
theorem jy {X:LR} {p:el AA->Bool} {x:el AA} (h:X[i]? =some x) (a:p x=true):HK p i (X.drop i)=i:=by
 rw[Xm h,HK,if_pos a]
theorem dI {X:LR} {p:el AA->Bool} {r:Int} (D:∀x∈X,CF g [.agg (cells AA x)] (.one (.bool (p x)))) (I:r=HK p 0 X):CF 385 [.one (.sl AA X),.one (.fn g)] (.one (.int .i64 r)):=by
 refine AG Tryz.func385 fun E z=>?_
 intro M j;have O:=j.eq;have f7:=j.le;refine BN [] [0,1,7,8] [] (fun vs v k=>∃(i':Nat) (L i:Int),vs=[.one (.sl AA X),.one (.fn g),.one (.int .i64 L),.one (.int .i64 i)]/\(DP L X.length/\AO i i'/\i'<=X.length)/\r=HK p i' (X.drop i')/\k=X.length-i') (X.length-0) ⟨0,M,0,rfl,⟨j,BD 0,by omega⟩,I,rfl⟩ ?_;rintro N m vs v K ⟨i',L,i,rfl,⟨u,F,G⟩,hinv,H⟩;conv=>cbv
 have P:=u.eq;have Q:=F.eq;refine BW (fun J=>?_) fun J=>?_
 ·exact AF (by rw[hinv,List.drop_eq_nil_of_le (by omega)];rfl)
 refine .inr ?_;refine AW i' fun a f=>?_
 try conv=>cbv
 obtain⟨h,b⟩:=xB (p a);refine .inl ⟨[.agg [.bool a.1.1,.sl .u32 a.1.2,.bool a.2.1,.sl .u32 a.2.2]],.one (.bool h),fun _=>⟨t4,trivial⟩,fun _=>FG z ((by rw[b];exact D a (List.mem_of_getElem? f))),?_⟩;try conv=>cbv
 cases h <;> conv=>cbv
 ·refine AK ?_;intro q w;refine⟨X.length-(i'+1),?_,?_⟩
  ·omega
  rw[m];refine⟨i'+1,L,q,rfl,⟨u,⟨by omega⟩,by omega⟩,?_,rfl⟩;rw[hinv,jz f b.symm]
 exact AF (by rw[hinv,jy f b.symm];omega)
theorem Xl (p:el AA->Bool):∀(X:LR) (i:Nat),decide (HK p i X >= 0)=X.any p
 | [],i=>rfl
 | x::X,i=>by
  rw[HK,List.any_cons]
  split
  ·rename_i h;rw[h,Bool.true_or];exact decide_eq_true (by omega)
  rename_i h;rw[Bool.eq_false_iff.2 h,Bool.false_or];exact Xl p X (i+1)
theorem Ud {X:LR} {p:el AA->Bool} (j:∀x∈X,CF g [.agg (cells AA x)] (.one (.bool (p x)))) (h:c=X.any p):CF 357 [.one (.sl AA X),.one (.fn g)] (.one (.bool c)):=by
 refine AG Tryz.func357 fun E f=>?_
 obtain⟨m,a⟩:=xI (HK p 0 X);refine AB f (dI j a) ?_;intro k b;exact AF (by rw[h,b,a];exact (Xl p X 0).symm)
theorem oS (q:Rat):decide (q≠0)=(D1 q !=0):=by
 have h:= @Rat.num_eq_zero q;rw[Bool.eq_iff_iff,decide_eq_true_eq,bne_iff_ne];rcases TU q with⟨a,e⟩ |⟨a,e⟩ |⟨a,e⟩ <;> rw[e]
 ·exact⟨fun _=>by decide,fun _ b=>by rw[h.2 b] at a;omega⟩
 ·exact⟨fun b=>absurd (h.1 a) b,fun b=>absurd rfl b⟩
 exact⟨fun _=>by decide,fun _ b=>by rw[h.2 b] at a;omega⟩
theorem lu {q:Rat} (j:BY q b1 l1 b2 l2) (h:c=decide (q≠0)):CF 390 [.agg (Bw b1 l1 b2 l2)] (.one (.bool c)):=by
 refine AG Tryz.func390 fun E f=>?_
 obtain⟨m,a⟩:=xI (D1 q);refine AB f (Ny j a) ?_;intro k b;exact AF (by rw[h,b,a];exact oS q)
theorem Zs (q:Rat):decide (q≠0)= !(rp q).1.2.isEmpty:=by
 have h:(rp q).1.2=AP q.num.natAbs:=rfl;rw[h,Bool.eq_iff_iff,decide_eq_true_eq,Bool.not_eq_true',List.isEmpty_eq_false_iff,Ne,Ne,Ec,<-Rat.num_eq_zero];omega
theorem nu (xs:List Rat):(BI xs).any (fun x=> !x.1.2.isEmpty)= !decide (∀q∈xs,q=0):=by
 induction xs with
 | nil=>rfl
 | cons q xs a=>
  rw[BI,List.map_cons,List.any_cons,<-Zs,<-BI,a]
  by_cases h:q=0 <;> simp[h]
theorem pO {X:LR} {xs:List Rat} (b:X=BI xs):∀x∈X,CF 390 [.agg (cells AA x)] (.one (.bool (!x.1.2.isEmpty))):=by
 intro x a;rw[b] at a;obtain⟨q,_,rfl⟩:=List.mem_map.1 a;exact lu (Gx q) (Zs q).symm
theorem Vh {X:LR} {xs:List Rat} (b:X=BI xs) (j:c=decide (∀q∈xs,q=0)):CF 367 [.one (.sl AA X)] (.one (.bool c)):=by
 refine AG Tryz.func367 fun E h=>?_
 obtain⟨k,a⟩:=xB (X.any (fun x=> !x.1.2.isEmpty));refine AB h (Ud (pO b) a) ?_;intro m f;exact AF (by rw[j,f,a,b,nu,Bool.not_not])
theorem kR (h:c= !Ez b1 l1 b2 l2) (s1:l1.length<=17592186042000) (s2:l2.length<=17592186042000):CF 358 [.agg (Bw b1 l1 b2 l2)] (.one (.bool c)):=by
 refine AG Tryz.func358 fun E f=>?_
 obtain⟨j,a⟩:=xB (Ez b1 l1 b2 l2);refine AB f (Ut a s1 s2) ?_;intro k b;exact AF (by rw[h,b,a])
theorem gT {X:LR} {xs:List Rat} (b:X=BI xs) (j:D8 xs):∀x∈X,CF 358 [.agg (cells AA x)] (.one (.bool false)):=by
 intro x a;rw[b] at a;obtain⟨q,f,rfl⟩:=List.mem_map.1 a;have h:=(Gx q).small (j q f);exact kR (by rw[Lv.2 ⟨q,Gx q⟩];rfl) (by omega) (by omega)
theorem any_false (X:LR):false=X.any (fun _=>false):=by
 induction X with
 | nil=>rfl
 | cons x X a=>rw[List.any_cons,<-a];rfl
theorem Si {X:LR} {xs:List Rat} {k:Int} {n:Nat} (b:X=BI xs) (q:D8 xs) (m:AO k n) (h:c=decide (xs.length=n)):CF 313 [.one (.sl AA X),.one (.int .i64 k)] (.one (.bool c)):=by
 have z:=m.eq;refine AG Tryz.func313 fun E j=>?_
 rintro D ⟨w,f6⟩;refine CH (fun u=>?_) fun u=>?_
 ·exact AF (by have f:X.length=xs.length:=(by rw[b,List.length_map]);rw[h];exact decide_eq_false (by omega))
 refine AB j (Ud (p:=fun _=>false) (gT b q) (any_false X)) ?_;intro v a;exact AF (by have f:X.length=xs.length:=(by rw[b,List.length_map]);rw[h,a];exact decide_eq_true (by omega))
theorem FA {n i:Int} {k:Nat} (h:n=IntKind.i64.wrap (1*2^min i.toNat IntKind.i64.bits)) (e:i=k) (a:k<=20:=by omega):AO n (2^k):=by
 have b:=wrap_i64 h;have f:2^k<=2^20:=Nat.pow_le_pow_right (by decide) a
 have h3:((2:Int)^min i.toNat IntKind.i64.bits)=((2^k:Nat):Int):=by
  rw[e,Int.toNat_natCast,Nat.min_eq_left (Nat.le_trans a (by decide))];simp
 rw[h3,Int.one_mul] at b
 generalize 2^k=Q at*
 exact⟨by omega⟩
theorem Jv {X:List LR} {xs:List (List Rat)} {x:LR} (b:X=xs.map BI) (a:X[i]? =some x):∃y,x=BI y/\xs[i]? =some y:=by
 rw[b,List.getElem?_map] at a;cases h:xs[i]? with
 | none=>rw[h] at a;simp at a
 | some q=>rw[h] at a;exact⟨q,(Option.some.inj a).symm,rfl⟩
theorem S6 {X:List LR} {xs:List (List Rat)} (w:X=xs.map BI) (ht:N2 xs) (I:c=true):CF 312 [.one (.sl (.sl AA) X)] (.one (.bool c)):=by
 refine AG Tryz.func312 fun E G=>?_
 have H:X.length=xs.length:=by rw[w,List.length_map]
 have hl:=ht.Rz;intro Q j;have V:=j.eq;have f6:=j.le;conv=>cbv
 refine BN [] [5,6,7] [] (fun vs z k=>∃(i':Nat) (L i:Int),vs=[.one (.sl (.sl AA) X),.one (.int .i64 L),.one (.int .i64 i)]/\(DP L X.length/\AO i i'/\i'<=X.length)/\k=X.length-i') (X.length-0) ⟨0,Q,0,rfl,⟨j,BD 0,by omega⟩,rfl⟩ ?_;rintro U m vs z O ⟨i',L,i,rfl,⟨v,J,K⟩,M⟩;conv=>cbv
 have W:=v.eq;have D:=J.eq;refine BW (fun N=>?_) fun N=>?_
 ·exact AF (I)
 refine .inr ?_;refine AW i' fun S a=>?_
 refine AK ?_;intro P h;obtain⟨x,q,b⟩:=Jv w a;refine AB (r:= .one (.bool true)) G (Si q (ht.small x (List.mem_of_getElem? b)) (FA h D) (by rw[ht.form i' x b];exact (decide_eq_true rfl).symm)) ?_;refine Gm (fun f=>?_) fun f=>?_
 ·exact absurd f (by decide)
 intro u F;exact Ba m ⟨i'+1,L,u,rfl,⟨v,⟨by omega⟩,by omega⟩,rfl⟩
theorem H5 {X:List LR} {xs:List (List Rat)} (k:X=xs.map BI) (ht:N2 xs) (q:Y=BI ys) (v:D8 ys) (u:c=decide (ys.length=2^xs.length)):CF 257 [.one (.sl (.sl AA) X),.one (.sl AA Y)] (.one (.bool c)):=by
 refine AG Tryz.func257 fun E j=>?_
 have h:X.length=xs.length:=by rw[k,List.length_map]
 have D:=ht.Rz;refine AB j (S6 k ht rfl) ?_;rintro w ⟨b,f10⟩ z f;obtain⟨m,a⟩:=xB (decide (ys.length=2^xs.length));refine AB j (Si q v (FA f (b.trans (congrArg _ h))) a) ?_;exact AF (u.trans a.symm)
theorem Rs {X:List LR} {Z:LR} {xs:List (List Rat)} {m:List Rat} (u:X=xs.map BI) (ht:N2 xs) (v:Y=BI ys) (z:D8 ys) (j:ys.length=2^xs.length) (w:Z=BI m) (h:D8 m) (k:m.length=2^xs.length):CF 308 [.one (.sl (.sl AA) X),.one (.sl AA Y),.one (.sl AA Z)] (.one (.bool true)):=by
 refine AG Tryz.func308 fun E q=>?_
 have f:X.length=xs.length:=by rw[u,List.length_map]
 have G:=ht.Rz;refine AB q (H5 u ht v z (decide_eq_true j).symm) ?_;rintro D ⟨a,f13⟩ F b;refine AB q (Si w h (FA b (a.trans (congrArg _ f))) (decide_eq_true k).symm) ?_;exact AE ⟨t2,trivial⟩
end
section
open Go.RowKit
variable {A B C X Y Z:LR} {R s t zn:Nat} {T:List LR} {p:Rat} {x y:Re}
theorem Jk {u:List (List Rat)} (h:AU u) (f:In u x) (b:X=em u x) (a:x=0):CF 367 [.one (.sl AA X)] (.one (.bool true)):=
 Vh b (decide_eq_true ((MY h f).2 a)).symm
theorem IE {u:List (List Rat)} (h:AU u) (f:In u x) (b:X=em u x) (a:x≠0):CF 367 [.one (.sl AA X)] (.one (.bool false)):=
 Vh b (decide_eq_false (fun k=>a ((MY h f).1 k))).symm
theorem O7 {u:List (List Rat)} {r:List Rat} {p q:Re} (h:AU (r::u)) (b:In u p) (f:In u q) (j:x=p+q*rt u r) (a:X=em (r::u) x) (k:A=em u p) (m:B=em u q):
  CF 369 [.one (.sl AA X)] (.AI [(false,[.sl AA A]),(false,[.sl AA B])]):=
 jv (by rw[a,k,Cs h b f j]) (by rw[a,m,Ca h b f j])
theorem Lt (r:List Rat) (u:List (List Rat)):tw (r::u)≠[]:=by rw[Nc];simp
theorem Tk {X A:List LR} {u:List (List Rat)} {r:List Rat} (a:X=tw (r::u)) (b:A=tw u) (f:B=BI r):
  CF 368 [.one (.sl (.sl AA) X)] (.AI [(false,[.sl (.sl AA) A]),(false,[.sl AA B])]):=
 ov (by rw[a];exact Lt r u) (by rw[a,b,Dn]) (by rw[a,f,FW])
theorem JL {n:Nat} (h:n<=16:=by omega):2^n<=1000000:=Nat.le_trans (DX h) (by decide)
theorem Vl {u:List (List Rat)} (h:BF R u) (j:X=em u x) (k:Y=em u y) (a:El u s x) (b:El u t y) (q:s<=60000000000000) (ht:t<=60000000000000) (m:Z=em u (x+y)) (f:zn=Z.length):
  CF 309 [.one (.sl AA X),.one (.sl AA Y)] (.one (.own AA Z zn)):=
 gF j k (a.CT q) (b.CT ht) (by rw[a.len,b.len]) (by rw[a.len];exact JL h.ht) (by rw[m,XE h.red a.mem b.mem]) f
theorem OG {u:List (List Rat)} (h:BF R u) (a:X=em u x) (b:Y=em u y) (k:El u s x) (m:El u t y) (j:s<=60000000000000) (ht:t<=60000000000000) (f:Z=em u (x+y)):
 CF 309 [.one (.sl AA X),.one (.sl AA Y)] (.one (.sl AA Z)):=DV (Vl h a b k m j ht f rfl)
theorem Pb {u:List (List Rat)} (h:BF R u) (b:X=em u x) (a:El u s x) (j:s<=60000000000000) (f:Z=em u (-x)):
  CF 258 [.one (.sl AA X)] (.one (.sl AA Z)):=
 lj b (a.CT j) (by rw[a.len];exact JL h.ht) (by rw[f,XF h.red a.mem])
theorem QS {a:Int} {u:List (List Rat)} (h:BF R u) (ha:AO a (2^u.length)) (f:Z=em u 0) (b:zn=Z.length):
  CF 344 [.one (.int .i64 a)] (.one (.own AA Z zn)):=
 qe ha (JL h.ht) (by rw[f,Rd h.red]) b
theorem E7 {x:el AA} (b:A=[rp p]) (a:A[0]? =some x):BY p x.1.1 x.1.2 x.2.1 x.2.2:=by
 rw[b] at a;rw[<-Option.some.inj a];exact Gx p
theorem lP {q:Rat} (J:T=[]) (z:A=[rp p]) (D:B=[rp q]) (M:CR p) (ht:CR q) (F:C=[rp (p*q)]) (w:zn=C.length):CF 334 [.one (.sl (.sl AA) T),.one (.sl AA A),.one (.sl AA B)] (.one (.own AA C zn)):=by
 refine AG Tryz.func334 fun E I=>?_
 refine .inr ?_;rintro N ⟨v,f16⟩;conv=>cbv
 refine CH (fun h=>?_) fun h=>?_
 ·exact absurd (by rw[v,J];rfl) h
 have G:A.length=1:=by rw[z];rfl
 have H:B.length=1:=by rw[D];rfl
 refine AW 0 fun O b=>?_
 try conv=>cbv
 refine AW 0 fun P f=>?_
 try conv=>cbv
 have K:=E7 z b;have L:=E7 D f;obtain⟨m,u,j,k,a⟩:=CA (p*q);refine AB I (dZ K L M ht rfl a) ?_;refine⟨[((m,u),(j,k))],fun _=>⟨rfl,by decide,rfl,⟨rfl,by first | exact t1 | exact t2 | exact t4 | simp[BR,BV,cells],trivial⟩⟩,.inl ?_⟩;try conv=>cbv
 refine g2 rfl ?_;exact AE ⟨⟨rfl,.inr (.inl ⟨_,_,by decide,rfl,rfl,rfl,rfl,Dm (by rw[F,a.rp]) (by rw[w,F];rfl)⟩),trivial⟩,trivial⟩
theorem lW {u:List (List Rat)} (h:BF R u) (I:T≠[]) (w:A=em u x) (L:B=em u y) (F:In u x) (M:In u y) (H:x=0) (z:C=em u 0) (q:zn=C.length):CF 334 [.one (.sl (.sl AA) T),.one (.sl AA A),.one (.sl AA B)] (.one (.own AA C zn)):=by
 refine AG Tryz.func334 fun E D=>?_
 refine .inr ?_;rintro J ⟨G,f16⟩;conv=>cbv
 refine BO (fun v=>?_) fun v=>?_
 ·exact absurd (List.length_eq_zero_iff.1 (by omega)) I
 refine AB D (Jk h.red F w H) ?_;have m:A.length=2^u.length:=by rw[w,Bn F]
 rintro K ⟨k,f34⟩;conv=>cbv
 obtain⟨f,a⟩:=xR (em u (0));obtain⟨j,b⟩:=xN f.length;refine AB (r:= .one (.own AA f j)) D (QS h (AO.of (by rw[k,m])) a b) ?_;exact AE ⟨⟨rfl,.inr (.inl ⟨_,_,by decide,rfl,rfl,b,rfl,Dm (by rw[z,a]) (by rw[q,z,<-a])⟩),trivial⟩,trivial⟩
theorem lX {u:List (List Rat)} (h:BF R u) (K:T≠[]) (z:A=em u x) (J:B=em u y) (F:In u x) (L:In u y) (H:y=0) (I:x≠0) (D:C=em u 0) (v:zn=C.length):CF 334 [.one (.sl (.sl AA) T),.one (.sl AA A),.one (.sl AA B)] (.one (.own AA C zn)):=by
 refine AG Tryz.func334 fun E q=>?_
 refine .inr ?_;rintro M ⟨G,f16⟩;conv=>cbv
 refine BO (fun w=>?_) fun w=>?_
 ·exact absurd (List.length_eq_zero_iff.1 (by omega)) K
 refine AB q (IE h.red F z I) ?_;refine AB q (Jk h.red L J H) ?_;have m:A.length=2^u.length:=by rw[z,Bn F]
 rintro N ⟨k,f34⟩;conv=>cbv
 obtain⟨f,a⟩:=xR (em u (0));obtain⟨j,b⟩:=xN f.length;refine AB (r:= .one (.own AA f j)) q (QS h (AO.of (by rw[k,m])) a b) ?_;exact AE ⟨⟨rfl,.inr (.inl ⟨_,_,by decide,rfl,rfl,b,rfl,Dm (by rw[D,a]) (by rw[v,D,<-a])⟩),trivial⟩,trivial⟩
def Uk (f:FuncId) (R:Nat) (u:List (List Rat)):Prop:=∀{T:List LR} {A B C:LR} {zn s t:Nat} {x y:Re},T=tw u->A=em u x->B=em u y->El u s x->El u t y->s+t+EE u.length R<=60000000000000->C=em u (x*y)->zn=C.length->
 CF f [.one (.sl (.sl AA) T),.one (.sl AA A),.one (.sl AA B)] (.one (.own AA C zn))
theorem lV {u:List (List Rat)} {r:List Rat} (h:BF R (r::u)) (W:Uk 334 R u) (hT:T=tw (r::u)) (hA:A=em (r::u) x) (hB:B=em (r::u) y) (hx:El (r::u) s x) (hy:El (r::u) t y) (aj:s+t+EE (r::u).length R<=60000000000000) (h0:x≠0) (h1:y≠0) (hC:C=em (r::u) (x*y)) (a7:zn=C.length):CF 334 [.one (.sl (.sl AA) T),.one (.sl AA A),.one (.sl AA B)] (.one (.own AA C zn)):=by
 obtain⟨p,q,a5,H,G⟩:=El.parts h.red hx;obtain⟨a,b,a6,ha,hb⟩:=El.parts h.red hy;have ah:EE (r::u).length R=2*EE u.length R+R+2:=rfl;have I:=El.Cz h;have hR:=h.hR;have ai:=Cu h.red;refine AG Tryz.func334 fun E j=>?_
 refine .inr ?_;rintro ak ⟨ag,f16⟩;conv=>cbv
 refine BO (fun a8=>?_) fun a8=>?_
 ·exact absurd (List.length_eq_zero_iff.1 (by omega)) (hT ▸ Lt r u)
 refine AB j (IE h.red hx.mem hA h0) ?_;refine AB j (IE h.red hy.mem hB h1) ?_;obtain⟨al,f⟩:=xV (tw u);obtain⟨an,M⟩:=xR (BI r);refine AB j (Tk hT f M) ?_;obtain⟨ao,k⟩:=xR (em u p);obtain⟨aq,m⟩:=xR (em u q);refine AB j (O7 h.red H.mem G.mem a5 hA k m) ?_;obtain⟨ar,v⟩:=xR (em u a);obtain⟨au,w⟩:=xR (em u b);refine AB j (O7 h.red ha.mem hb.mem a6 hB v w) ?_;obtain⟨av,N⟩:=xR (em u (p*a));refine AB j (DV (W f k v H ha (by omega) N rfl)) ?_;obtain⟨aw,O⟩:=xR (em u (q*b));refine AB j (DV (W f m w G hb (by omega) O rfl)) ?_;obtain⟨ax,P⟩:=xR (em u (q*b*AM u r));refine AB j (DV (W f O (M.trans (Ea h.red)) (G.mul h.tail hb) I (by omega) P rfl)) ?_;obtain⟨J,z⟩:=xR (em u (p*a+q*b*AM u r));obtain⟨af,D⟩:=xN J.length;refine AB j (Vl h.tail N P (H.mul h.tail ha) ((G.mul h.tail hb).mul h.tail I) (by omega) (by omega) z D) ?_
 obtain⟨ay,Q⟩:=xR (em u (p*b));refine AB j (DV (W f k w H hb (by omega) Q rfl)) ?_;obtain⟨az,S⟩:=xR (em u (q*a));refine AB j (DV (W f m v G ha (by omega) S rfl)) ?_;obtain⟨K,F⟩:=xR (em u (p*b+q*a));refine AB j (OG h.tail Q S (H.mul h.tail hb) (G.mul h.tail ha) (by omega) (by omega) F) ?_;have ab:J.length=2^u.length:=by rw[z,Bn (DR (H.mul h.tail ha).mem ((G.mul h.tail hb).mul h.tail I).mem)]
 have ad:K.length=2^u.length:=by rw[F,Bn (DR (H.mul h.tail hb).mem (G.mul h.tail ha).mem)]
 have ae:=DX h.tail.ht;refine .inl ⟨K,fun _=>⟨rfl,D,rfl,by show (J.length+K.length)*64<=140737488355328;(try simp only[List.length_take,List.length_drop]);omega⟩,?_⟩;intro (V:LR) aa U;have a1:V=(J:LR)++(K:LR):=U.1;have a2:aa=List.length (α:=(el AA)) V:=U.2;conv=>cbv
 have L:C=V:=by rw[hC,a1,z,F];exact FC h.red (DR (H.mul h.tail ha).mem ((G.mul h.tail hb).mul h.tail I).mem) (DR (H.mul h.tail hb).mem (G.mul h.tail ha).mem) (by rw[a5,a6];clear W;grind)
 exact AE ⟨⟨rfl,.inr (.inl ⟨_,_,by decide,rfl,rfl,a2,rfl,Dm (L) (by rw[a7,L])⟩),trivial⟩,trivial⟩
theorem mulC {u:List (List Rat)} (h:BF R u):Uk 334 R u:=by
 induction u with
 | nil=>
  intro T A B C zn s t x y v b f k m w j a;obtain⟨p,rfl⟩:=Ct.1 k.mem;obtain⟨q,rfl⟩:=Ct.1 m.mem;rw[EB] at b f;rw[<-Re.ofRat_mul,EB] at j;have F:=k.CT (by omega);have G:=m.CT (by omega);rw[Dg] at F G;exact lP v b f (F _ List.mem_cons_self) (G _ List.mem_cons_self) j a
 | cons r u H=>
  intro T A B C zn s t x y v b f k m w j a
  by_cases z:x=0
  ·refine lW h (v ▸ Lt r u) b f k.mem m.mem z ?_ a;rw[j,z];congr 1;grind
  by_cases D:y=0
  ·refine lX h (v ▸ Lt r u) b f k.mem m.mem D z ?_ a;rw[j,D];congr 1;grind
  exact lV h (H h.tail) v b f k m w z D j a
theorem M8 {u:List (List Rat)} (h:BF R u) (k:T=tw u) (b:A=em u x) (f:B=em u y) (m:El u s x) (q:El u t y) (a:s+t+EE u.length R<=60000000000000) (j:C=em u (x*y)):
 CF 334 [.one (.sl (.sl AA) T),.one (.sl AA A),.one (.sl AA B)] (.one (.sl AA C)):=DV (mulC h k b f m q a j rfl)
end
end Go.Abs
