/- Part 25 of a proof. Conditions: each theorem's own. -/
import Derived.Test.YtjpiilcgomggaaaGreatPk20
set_option linter.all false
set_option maxHeartbeats 8000000
open Go.Proofs
namespace Go.Abs
open Go.RowKit
variable {b' b1 b2 c c1 c2 d1 d2:Bool} {d n x y:Int} {k1 k2 l l' l1 l2 m1 m2:List UInt32} {r:Rat}
theorem MV {b:Bool} (hx:AT x b l) (f:c=decide (x=0)):CF 209 [.agg [.bool b,.sl .u32 l]] (.one (.bool c)):=by
 refine AE Tryz.func209 (by kernel_rfl) rfl fun E h=>?_
 conv=>cbv
 rintro i ⟨g,f5⟩;conv=>cbv
 intro j a;conv=>cbv
 exact fA ⟨⟨rfl,congrArg _ (by rw[f,a,Bool.eq_iff_iff];simp only[decide_eq_true_eq,beq_iff_eq];rw[<-hx.Dh];omega),trivial⟩,trivial⟩ rfl (by simp)
theorem HW {b:Bool} (hx:AT x b l) (j:c=decide (x=1)):CF 235 [.agg [.bool b,.sl .u32 l]] (.one (.bool c)):=by
 refine AE Tryz.func235 (by kernel_rfl) rfl fun E z=>?_
 conv=>cbv
 intro v q;conv=>cbv
 cases v <;> conv=>cbv
 ·have m:=Co q;exact fA ⟨⟨rfl,congrArg _ (by rw[j];exact (Mz hx m).symm),trivial⟩,trivial⟩ rfl (by simp)
 have m:=Cp q;rintro A ⟨w,f9⟩;conv=>cbv
 intro o f;conv=>cbv
 cases o <;> conv=>cbv
 ·have k:=Ac f;exact fA ⟨⟨rfl,congrArg _ (by rw[j];exact (RZ hx (by omega)).symm),trivial⟩,trivial⟩ rfl (by simp)
 have k:=Ad f;obtain⟨p,a⟩:=AF (l:=l) (i:=0) (by omega);refine⟨p,fun _=>⟨by omega,a⟩,?_⟩;try conv=>cbv
 intro t g;have s:=g.eq;have f16:=g.lt;conv=>cbv
 intro u h;conv=>cbv
 exact fA ⟨⟨rfl,congrArg _ (by rw[j,h,<-M1 hx m (by omega) a,Bool.eq_iff_iff];simp only[decide_eq_true_eq,beq_iff_eq];omega),trivial⟩,trivial⟩ rfl (by simp)
theorem M0 {b:Bool} (f:AT 1 b l):CF 188 [] (.agg [.bool b,.sl .u32 l]):=by
 refine AE Tryz.func188 (by kernel_rfl) rfl fun E g=>?_
 conv=>cbv
 obtain⟨h,i,a⟩:=AP (1);refine cL g (JC (by omega) a) t1 ?_;try conv=>cbv
 exact fA ⟨⟨rfl,congrArg _ ((a.uniq f rfl).1.symm),congrArg _ ((a.uniq f rfl).2.symm),trivial⟩,trivial⟩ rfl (by simp)
theorem Ki {b3:Bool} {l3:List UInt32} (hx:AT x b1 l1) (j:AT y b2 l2) (h:y≠0) (g:AT (BN x y) b3 l3) (s1:l1.length<=17592186042000) (s2:l2.length<=17592186042000):CF 244 [.agg [.bool b1,.sl .u32 l1],.agg [.bool b2,.sl .u32 l2]] (.agg [.bool b3,.sl .u32 l3]):=by
 refine AE Tryz.func244 (by kernel_rfl) rfl fun E i=>?_
 conv=>cbv
 obtain⟨q,b⟩:=xB (decide (y=1));refine cL i (HW j b) ⟨t2,trivial⟩ ?_;try conv=>cbv
 cases q <;> conv=>cbv
 ·obtain⟨o,p,a⟩:=AP (BN x y);obtain⟨k,m,f⟩:=AP (Ep x y);refine cL i (Tj hx j h a f (by omega) (by omega)) ⟨t2,t2,trivial⟩ ?_;try conv=>cbv
  exact fA ⟨⟨rfl,congrArg _ ((a.uniq g rfl).1.symm),congrArg _ ((a.uniq g rfl).2.symm),trivial⟩,trivial⟩ rfl (by simp)
 exact fA ⟨⟨rfl,congrArg _ ((g.uniq hx (by rw[of_decide_eq_true b.symm];exact Pv x)).1),congrArg _ ((g.uniq hx (by rw[of_decide_eq_true b.symm];exact Pv x)).2),trivial⟩,trivial⟩ rfl (by simp)
theorem IX {b:Bool} (a:d≠0) (h:AT d b l) (h':AT ((Nat.gcd n.natAbs d.natAbs:Nat):Int) b' l'):l'.length<=l.length:=by
 rw[h.Am,h'.Am,Int.natAbs_natCast];exact Cl (Nat.le_of_dvd (by omega) (Nat.gcd_dvd_right _ _))
theorem J6 {b:Bool} (a:d≠0) (h:AT d b l) (h':AT (-((Nat.gcd n.natAbs d.natAbs:Nat):Int)) b' l'):l'.length<=l.length:=by
 rw[h.Am,h'.Am,Int.natAbs_neg,Int.natAbs_natCast];exact Cl (Nat.le_of_dvd (by omega) (Nat.gcd_dvd_right _ _))
theorem J7 (a:d≠0):((Nat.gcd n.natAbs d.natAbs:Nat):Int)≠0:=by
 have:=Nat.gcd_pos_of_pos_right n.natAbs (n:=d.natAbs) (by omega);omega
theorem MY {b:Bool} (h:AT d b l) (e:b=true):d<0:=by
 have:=h.neg;rw[e] at this;simpa using this.symm
theorem MW {b:Bool} (h:AT d b l) (e:b=false):¬d<0:=by
 have:=h.neg;rw[e] at this;simpa using this.symm
theorem Hf {q:Rat} (hx:AT n b1 l1) (h:AT d b2 l2) (i:d≠0) (B:q=Rat.divInt n d) (s:Aq q c1 m1 c2 m2) (s1:l1.length<=17592186042000) (s2:l2.length<=17592186042000):CF 210 [.agg [.bool b1,.sl .u32 l1],.agg [.bool b2,.sl .u32 l2]] (.agg [.bool c1,.sl .u32 m1,.bool c2,.sl .u32 m2]):=by
 refine AE Tryz.func210 (by kernel_rfl) rfl fun E v=>?_
 conv=>cbv
 obtain⟨C,D,g⟩:=AP (((Nat.gcd n.natAbs d.natAbs:Nat):Int));refine cL v (N0 hx h g (by omega) (by omega)) ⟨t2,t2,trivial⟩ ?_;try conv=>cbv
 refine .inr ?_;cases b2 <;> conv=>cbv
 ·obtain⟨k,o,a⟩:=AP (BN n (if d<0 then -((Nat.gcd n.natAbs d.natAbs:Nat):Int) else ((Nat.gcd n.natAbs d.natAbs:Nat):Int)));have A:AT (if d<0 then -((Nat.gcd n.natAbs d.natAbs:Nat):Int) else ((Nat.gcd n.natAbs d.natAbs:Nat):Int)) C D:=by rw[if_neg (MW h rfl)];exact g
  have j:(if d<0 then -((Nat.gcd n.natAbs d.natAbs:Nat):Int) else ((Nat.gcd n.natAbs d.natAbs:Nat):Int))≠0:=by rw[if_neg (MW h rfl)];have:=J7 (n:=n) i;omega
  have z:BN n (if d<0 then -((Nat.gcd n.natAbs d.natAbs:Nat):Int) else ((Nat.gcd n.natAbs d.natAbs:Nat):Int))=q.num:=by rw[B];exact (KN i).symm
  have w:BN d (if d<0 then -((Nat.gcd n.natAbs d.natAbs:Nat):Int) else ((Nat.gcd n.natAbs d.natAbs:Nat):Int))=(q.den:Int):=by rw[B];exact (KM i).symm
  refine cL (r:= .agg [.bool k,.sl .u32 o]) v (Ki hx A j a (by omega) (by have:=IX i h g;omega)) ⟨t2,t2,trivial⟩ ?_;try conv=>cbv
  obtain⟨m,p,b⟩:=AP (BN d (if d<0 then -((Nat.gcd n.natAbs d.natAbs:Nat):Int) else ((Nat.gcd n.natAbs d.natAbs:Nat):Int)));refine cL (r:= .agg [.bool m,.sl .u32 p]) v (Ki h A j b (by omega) (by have:=IX i h g;omega)) ⟨t2,t2,trivial⟩ ?_;try conv=>cbv
  refine g2 rfl ?_;exact fA ⟨⟨rfl,congrArg _ ((a.uniq s.num z).1.symm),congrArg _ ((a.uniq s.num z).2.symm),congrArg _ ((b.uniq s.den w).1.symm),congrArg _ ((b.uniq s.den w).2.symm),trivial⟩,trivial⟩ rfl (by simp)
 obtain⟨t,u,f⟩:=AP (-((Nat.gcd n.natAbs d.natAbs:Nat):Int));refine cL (r:= .agg [.bool t,.sl .u32 u]) v (N8 g (by have:=IX i h g;omega) f) ⟨t2,trivial⟩ ?_;try conv=>cbv
 obtain⟨k,o,a⟩:=AP (BN n (if d<0 then -((Nat.gcd n.natAbs d.natAbs:Nat):Int) else ((Nat.gcd n.natAbs d.natAbs:Nat):Int)));have A:AT (if d<0 then -((Nat.gcd n.natAbs d.natAbs:Nat):Int) else ((Nat.gcd n.natAbs d.natAbs:Nat):Int)) t u:=by rw[if_pos (MY h rfl)];exact f
 have j:(if d<0 then -((Nat.gcd n.natAbs d.natAbs:Nat):Int) else ((Nat.gcd n.natAbs d.natAbs:Nat):Int))≠0:=by rw[if_pos (MY h rfl)];have:=J7 (n:=n) i;omega
 have z:BN n (if d<0 then -((Nat.gcd n.natAbs d.natAbs:Nat):Int) else ((Nat.gcd n.natAbs d.natAbs:Nat):Int))=q.num:=by rw[B];exact (KN i).symm
 have w:BN d (if d<0 then -((Nat.gcd n.natAbs d.natAbs:Nat):Int) else ((Nat.gcd n.natAbs d.natAbs:Nat):Int))=(q.den:Int):=by rw[B];exact (KM i).symm
 refine cL (r:= .agg [.bool k,.sl .u32 o]) v (Ki hx A j a (by omega) (by have:=J6 i h f;omega)) ⟨t2,t2,trivial⟩ ?_;try conv=>cbv
 obtain⟨m,p,b⟩:=AP (BN d (if d<0 then -((Nat.gcd n.natAbs d.natAbs:Nat):Int) else ((Nat.gcd n.natAbs d.natAbs:Nat):Int)));refine cL (r:= .agg [.bool m,.sl .u32 p]) v (Ki h A j b (by omega) (by have:=J6 i h f;omega)) ⟨t2,t2,trivial⟩ ?_;try conv=>cbv
 refine g2 rfl ?_;exact fA ⟨⟨rfl,congrArg _ ((a.uniq s.num z).1.symm),congrArg _ ((a.uniq s.num z).2.symm),congrArg _ ((b.uniq s.den w).1.symm),congrArg _ ((b.uniq s.den w).2.symm),trivial⟩,trivial⟩ rfl (by simp)
theorem EZ {q:Rat} (hx: -9223372036854775808<=x/\x<9223372036854775808) (f:q=(x:Rat)) (g:Aq q c1 m1 c2 m2):CF 136 [.one (.int .i64 x)] (.agg [.bool c1,.sl .u32 m1,.bool c2,.sl .u32 m2]):=by
 refine AE Tryz.func136 (by kernel_rfl) rfl fun E h=>?_
 conv=>cbv
 obtain⟨i,k,a⟩:=AP (x);refine cL h (JC hx a) t1 ?_;try conv=>cbv
 obtain⟨j,m,b⟩:=AP (1);refine cL h (M0 b) trivial ?_;try conv=>cbv
 exact fA ⟨⟨rfl,congrArg _ ((a.uniq g.num (by rw[f];rfl)).1.symm),congrArg _ ((a.uniq g.num (by rw[f];rfl)).2.symm),congrArg _ ((b.uniq g.den (by rw[f];rfl)).1.symm),congrArg _ ((b.uniq g.den (by rw[f];rfl)).2.symm),trivial⟩,trivial⟩ rfl (by simp)
theorem JI {q:Rat} {c:Int} (hx:Aq q b1 l1 b2 l2) (f:c=C1 q):CF 175 [.agg [.bool b1,.sl .u32 l1,.bool b2,.sl .u32 l2]] (.one (.int .i64 c)):=by
 refine AE Tryz.func175 (by kernel_rfl) rfl fun E b=>?_
 conv=>cbv
 obtain⟨g,a⟩:=xI (BO q.num);refine cL b (H7 hx.num a) ⟨t2,trivial⟩ ?_;try conv=>cbv
 exact fA ⟨⟨rfl,congrArg _ (by rw[f,a];rfl),trivial⟩,trivial⟩ rfl (by simp)
theorem UD {q p:Rat} (hx:Aq q b1 l1 b2 l2) (j:BF q) (b:p= -q) (f:Aq p c1 m1 c2 m2):CF 245 [.agg [.bool b1,.sl .u32 l1,.bool b2,.sl .u32 l2]] (.agg [.bool c1,.sl .u32 m1,.bool c2,.sl .u32 m2]):=by
 refine AE Tryz.func245 (by kernel_rfl) rfl fun E i=>?_
 conv=>cbv
 obtain⟨g,h,a⟩:=AP (-q.num);refine cL (r:= .agg [.bool g,.sl .u32 h]) i (N8 hx.num (by have:=hx.small j;omega) a) ⟨t2,trivial⟩ ?_;try conv=>cbv
 refine g2 rfl ?_;exact fA ⟨⟨rfl,congrArg _ ((a.uniq f.num (by rw[b];rfl)).1.symm),congrArg _ ((a.uniq f.num (by rw[b];rfl)).2.symm),congrArg _ ((hx.den.uniq f.den (by rw[b];rfl)).1.symm),congrArg _ ((hx.den.uniq f.den (by rw[b];rfl)).2.symm),trivial⟩,trivial⟩ rfl (by simp)
theorem T6 {p q:Rat} (hx:Aq p b1 l1 b2 l2) (a:Aq q c1 m1 c2 m2) (j:BF p) (ht:BF q) (L:r=p+q) (s:Aq r d1 k1 d2 k2):CF 223 [.agg [.bool b1,.sl .u32 l1,.bool b2,.sl .u32 l2],.agg [.bool c1,.sl .u32 m1,.bool c2,.sl .u32 m2]] (.agg [.bool d1,.sl .u32 k1,.bool d2,.sl .u32 k2]):=by
 refine AE Tryz.func223 (by kernel_rfl) rfl fun E o=>?_
 conv=>cbv
 obtain⟨R,t⟩:=xB (decide ((p.den:Int)=1));refine cL o (HW hx.den t) ⟨t2,trivial⟩ ?_;try conv=>cbv
 cases R <;> conv=>cbv
 ·obtain⟨A,G,b⟩:=AP (p.num*q.den);refine cL (r:= .agg [.bool A,.sl .u32 G]) o (DP hx.num a.den b (by have:=hx.small j;have:=a.small ht;omega) (by have:=hx.small j;have:=a.small ht;omega)) ⟨t2,t2,trivial⟩ ?_;try conv=>cbv
  obtain⟨B,H,f⟩:=AP (q.num*p.den);refine cL (r:= .agg [.bool B,.sl .u32 H]) o (DP a.num hx.den f (by have:=hx.small j;have:=a.small ht;omega) (by have:=hx.small j;have:=a.small ht;omega)) ⟨t2,t2,trivial⟩ ?_;try conv=>cbv
  obtain⟨C,I,h⟩:=AP (p.num*q.den+q.num*p.den);refine cL (r:= .agg [.bool C,.sl .u32 I]) o (LK b f h (by have:=hx.small j;have:=a.small ht;have:=hx.num.CG a.den b rfl;omega) (by have:=hx.small j;have:=a.small ht;have:=a.num.CG hx.den f rfl;omega)) ⟨t2,t2,trivial⟩ ?_;try conv=>cbv
  refine g2 rfl ?_;obtain⟨D,J,i⟩:=AP ((p.den:Int)*q.den);refine cL (r:= .agg [.bool D,.sl .u32 J]) o (DP hx.den a.den i (by have:=hx.small j;have:=a.small ht;omega) (by have:=hx.small j;have:=a.small ht;omega)) ⟨t2,t2,trivial⟩ ?_;try conv=>cbv
  obtain⟨F,K,w,z,g⟩:=A9 (r);refine cL (r:= .agg [.bool F,.sl .u32 K,.bool w,.sl .u32 z]) o (Hf h i (Int.mul_ne_zero (Eg p) (Eg q)) (L.trans (Lj p q)) g (by have:=hx.small j;have:=a.small ht;have:=hx.num.CG a.den b rfl;have:=a.num.CG hx.den f rfl;have:=b.JV f h rfl (k:=8000000000000) (by omega) (by omega);omega) (by have:=hx.small j;have:=a.small ht;have:=hx.den.CG a.den i rfl;omega)) ⟨t2,t2,trivial⟩ ?_;try conv=>cbv
  refine g2 rfl ?_;exact fA ⟨⟨rfl,congrArg _ ((g.uniq s rfl).1.1.symm),congrArg _ ((g.uniq s rfl).1.2.symm),congrArg _ ((g.uniq s rfl).2.1.symm),congrArg _ ((g.uniq s rfl).2.2.symm),trivial⟩,trivial⟩ rfl (by simp)
 obtain⟨O,m⟩:=xB (decide ((q.den:Int)=1));refine cL o (HW a.den m) ⟨t2,trivial⟩ ?_;try conv=>cbv
 cases O <;> conv=>cbv
 ·obtain⟨A,G,b⟩:=AP (p.num*q.den);refine cL (r:= .agg [.bool A,.sl .u32 G]) o (DP hx.num a.den b (by have:=hx.small j;have:=a.small ht;omega) (by have:=hx.small j;have:=a.small ht;omega)) ⟨t2,t2,trivial⟩ ?_;try conv=>cbv
  obtain⟨B,H,f⟩:=AP (q.num*p.den);refine cL (r:= .agg [.bool B,.sl .u32 H]) o (DP a.num hx.den f (by have:=hx.small j;have:=a.small ht;omega) (by have:=hx.small j;have:=a.small ht;omega)) ⟨t2,t2,trivial⟩ ?_;try conv=>cbv
  obtain⟨C,I,h⟩:=AP (p.num*q.den+q.num*p.den);refine cL (r:= .agg [.bool C,.sl .u32 I]) o (LK b f h (by have:=hx.small j;have:=a.small ht;have:=hx.num.CG a.den b rfl;omega) (by have:=hx.small j;have:=a.small ht;have:=a.num.CG hx.den f rfl;omega)) ⟨t2,t2,trivial⟩ ?_;try conv=>cbv
  refine g2 rfl ?_;obtain⟨D,J,i⟩:=AP ((p.den:Int)*q.den);refine cL (r:= .agg [.bool D,.sl .u32 J]) o (DP hx.den a.den i (by have:=hx.small j;have:=a.small ht;omega) (by have:=hx.small j;have:=a.small ht;omega)) ⟨t2,t2,trivial⟩ ?_;try conv=>cbv
  obtain⟨F,K,w,z,g⟩:=A9 (r);refine cL (r:= .agg [.bool F,.sl .u32 K,.bool w,.sl .u32 z]) o (Hf h i (Int.mul_ne_zero (Eg p) (Eg q)) (L.trans (Lj p q)) g (by have:=hx.small j;have:=a.small ht;have:=hx.num.CG a.den b rfl;have:=a.num.CG hx.den f rfl;have:=b.JV f h rfl (k:=8000000000000) (by omega) (by omega);omega) (by have:=hx.small j;have:=a.small ht;have:=hx.den.CG a.den i rfl;omega)) ⟨t2,t2,trivial⟩ ?_;try conv=>cbv
  refine g2 rfl ?_;exact fA ⟨⟨rfl,congrArg _ ((g.uniq s rfl).1.1.symm),congrArg _ ((g.uniq s rfl).1.2.symm),congrArg _ ((g.uniq s rfl).2.1.symm),congrArg _ ((g.uniq s rfl).2.2.symm),trivial⟩,trivial⟩ rfl (by simp)
 obtain⟨M,N,u⟩:=AP (p.num+q.num);refine cL (r:= .agg [.bool M,.sl .u32 N]) o (LK hx.num a.num u (by have:=hx.small j;have:=a.small ht;omega) (by have:=hx.small j;have:=a.small ht;omega)) ⟨t2,t2,trivial⟩ ?_;try conv=>cbv
 obtain⟨P,Q,v⟩:=AP (1);refine cL o (M0 v) trivial ?_;try conv=>cbv
 exact fA ⟨⟨rfl,congrArg _ ((u.uniq s.num (by rw[L];exact (Fz (of_decide_eq_true t.symm) (of_decide_eq_true m.symm)).1.symm)).1.symm),congrArg _ ((u.uniq s.num (by rw[L];exact (Fz (of_decide_eq_true t.symm) (of_decide_eq_true m.symm)).1.symm)).2.symm),congrArg _ ((v.uniq s.den (by rw[L,(Fz (of_decide_eq_true t.symm) (of_decide_eq_true m.symm)).2];rfl)).1.symm),congrArg _ ((v.uniq s.den (by rw[L,(Fz (of_decide_eq_true t.symm) (of_decide_eq_true m.symm)).2];rfl)).2.symm),trivial⟩,trivial⟩ rfl (by simp)
theorem UC {p q:Rat} (hx:Aq p b1 l1 b2 l2) (b:Aq q c1 m1 c2 m2) (i:BF p) (ht:BF q) (D:r=p*q) (j:Aq r d1 k1 d2 k2):CF 222 [.agg [.bool b1,.sl .u32 l1,.bool b2,.sl .u32 l2],.agg [.bool c1,.sl .u32 m1,.bool c2,.sl .u32 m2]] (.agg [.bool d1,.sl .u32 k1,.bool d2,.sl .u32 k2]):=by
 refine AE Tryz.func222 (by kernel_rfl) rfl fun E C=>?_
 conv=>cbv
 obtain⟨K,k⟩:=xB (decide ((p.den:Int)=1));refine cL C (HW hx.den k) ⟨t2,trivial⟩ ?_;try conv=>cbv
 cases K <;> conv=>cbv
 ·obtain⟨u,z,f⟩:=AP (p.num*q.num);refine cL (r:= .agg [.bool u,.sl .u32 z]) C (DP hx.num b.num f (by have:=hx.small i;have:=b.small ht;omega) (by have:=hx.small i;have:=b.small ht;omega)) ⟨t2,t2,trivial⟩ ?_;try conv=>cbv
  obtain⟨v,A,g⟩:=AP ((p.den:Int)*q.den);refine cL (r:= .agg [.bool v,.sl .u32 A]) C (DP hx.den b.den g (by have:=hx.small i;have:=b.small ht;omega) (by have:=hx.small i;have:=b.small ht;omega)) ⟨t2,t2,trivial⟩ ?_;try conv=>cbv
  obtain⟨w,B,s,t,a⟩:=A9 (r);refine cL (r:= .agg [.bool w,.sl .u32 B,.bool s,.sl .u32 t]) C (Hf f g (Int.mul_ne_zero (Eg p) (Eg q)) (D.trans (KT p q)) a (by have:=hx.small i;have:=b.small ht;have:=hx.num.CG b.num f rfl;omega) (by have:=hx.small i;have:=b.small ht;have:=hx.den.CG b.den g rfl;omega)) ⟨t2,t2,trivial⟩ ?_;try conv=>cbv
  refine g2 rfl ?_;exact fA ⟨⟨rfl,congrArg _ ((a.uniq j rfl).1.1.symm),congrArg _ ((a.uniq j rfl).1.2.symm),congrArg _ ((a.uniq j rfl).2.1.symm),congrArg _ ((a.uniq j rfl).2.2.symm),trivial⟩,trivial⟩ rfl (by simp)
 obtain⟨H,h⟩:=xB (decide ((q.den:Int)=1));refine cL C (HW b.den h) ⟨t2,trivial⟩ ?_;try conv=>cbv
 cases H <;> conv=>cbv
 ·obtain⟨u,z,f⟩:=AP (p.num*q.num);refine cL (r:= .agg [.bool u,.sl .u32 z]) C (DP hx.num b.num f (by have:=hx.small i;have:=b.small ht;omega) (by have:=hx.small i;have:=b.small ht;omega)) ⟨t2,t2,trivial⟩ ?_;try conv=>cbv
  obtain⟨v,A,g⟩:=AP ((p.den:Int)*q.den);refine cL (r:= .agg [.bool v,.sl .u32 A]) C (DP hx.den b.den g (by have:=hx.small i;have:=b.small ht;omega) (by have:=hx.small i;have:=b.small ht;omega)) ⟨t2,t2,trivial⟩ ?_;try conv=>cbv
  obtain⟨w,B,s,t,a⟩:=A9 (r);refine cL (r:= .agg [.bool w,.sl .u32 B,.bool s,.sl .u32 t]) C (Hf f g (Int.mul_ne_zero (Eg p) (Eg q)) (D.trans (KT p q)) a (by have:=hx.small i;have:=b.small ht;have:=hx.num.CG b.num f rfl;omega) (by have:=hx.small i;have:=b.small ht;have:=hx.den.CG b.den g rfl;omega)) ⟨t2,t2,trivial⟩ ?_;try conv=>cbv
  refine g2 rfl ?_;exact fA ⟨⟨rfl,congrArg _ ((a.uniq j rfl).1.1.symm),congrArg _ ((a.uniq j rfl).1.2.symm),congrArg _ ((a.uniq j rfl).2.1.symm),congrArg _ ((a.uniq j rfl).2.2.symm),trivial⟩,trivial⟩ rfl (by simp)
 obtain⟨F,G,m⟩:=AP (p.num*q.num);refine cL (r:= .agg [.bool F,.sl .u32 G]) C (DP hx.num b.num m (by have:=hx.small i;have:=b.small ht;omega) (by have:=hx.small i;have:=b.small ht;omega)) ⟨t2,t2,trivial⟩ ?_;try conv=>cbv
 obtain⟨I,J,o⟩:=AP (1);refine cL C (M0 o) trivial ?_;try conv=>cbv
 exact fA ⟨⟨rfl,congrArg _ ((m.uniq j.num (by rw[D];exact (mul_ones (of_decide_eq_true k.symm) (of_decide_eq_true h.symm)).1.symm)).1.symm),congrArg _ ((m.uniq j.num (by rw[D];exact (mul_ones (of_decide_eq_true k.symm) (of_decide_eq_true h.symm)).1.symm)).2.symm),congrArg _ ((o.uniq j.den (by rw[D,(mul_ones (of_decide_eq_true k.symm) (of_decide_eq_true h.symm)).2];rfl)).1.symm),congrArg _ ((o.uniq j.den (by rw[D,(mul_ones (of_decide_eq_true k.symm) (of_decide_eq_true h.symm)).2];rfl)).2.symm),trivial⟩,trivial⟩ rfl (by simp)
theorem UA {p q:Rat} (hx:Aq p b1 l1 b2 l2) (b:Aq q c1 m1 c2 m2) (h:BF p) (ht:BF q) (j:q≠0) (C:r=p/q) (A:Aq r d1 k1 d2 k2):CF 217 [.agg [.bool b1,.sl .u32 l1,.bool b2,.sl .u32 l2],.agg [.bool c1,.sl .u32 m1,.bool c2,.sl .u32 m2]] (.AG [(true,[.bool d1,.sl .u32 k1,.bool d2,.sl .u32 k2]),(false,[.int .i64 0])]):=by
 refine AE Tryz.func217 (by kernel_rfl) rfl fun E z=>?_
 conv=>cbv
 obtain⟨B,i⟩:=xB (decide (q.num=0));refine cL z (MV b.num i) ⟨t2,trivial⟩ ?_;try conv=>cbv
 cases B <;> conv=>cbv
 ·obtain⟨o,u,f⟩:=AP (p.num*q.den);refine cL (r:= .agg [.bool o,.sl .u32 u]) z (DP hx.num b.den f (by have:=hx.small h;have:=b.small ht;omega) (by have:=hx.small h;have:=b.small ht;omega)) ⟨t2,t2,trivial⟩ ?_;try conv=>cbv
  obtain⟨s,v,g⟩:=AP ((p.den:Int)*q.num);refine cL (r:= .agg [.bool s,.sl .u32 v]) z (DP hx.den b.num g (by have:=hx.small h;have:=b.small ht;omega) (by have:=hx.small h;have:=b.small ht;omega)) ⟨t2,t2,trivial⟩ ?_;try conv=>cbv
  obtain⟨t,w,k,m,a⟩:=A9 (r);refine cL (r:= .agg [.bool t,.sl .u32 w,.bool k,.sl .u32 m]) z (Hf f g (Int.mul_ne_zero (Eg p) (mt Rat.num_eq_zero.1 j)) (C.trans (WV p q)) a (by have:=hx.small h;have:=b.small ht;have:=hx.num.CG b.den f rfl;omega) (by have:=hx.small h;have:=b.small ht;have:=hx.den.CG b.num g rfl;omega)) ⟨t2,t2,trivial⟩ ?_;try conv=>cbv
  refine g2 rfl ?_;exact fA ⟨⟨rfl,congrArg _ ((a.uniq A rfl).1.1.symm),congrArg _ ((a.uniq A rfl).1.2.symm),congrArg _ ((a.uniq A rfl).2.1.symm),congrArg _ ((a.uniq A rfl).2.2.symm),trivial⟩,t2,trivial⟩ rfl (by simp)
 exact absurd (Rat.num_eq_zero.1 (of_decide_eq_true i.symm)) j
theorem UB {p q:Rat} (hx:Aq p b1 l1 b2 l2) (f:Aq q c1 m1 c2 m2) (a:q=0):CF 217 [.agg [.bool b1,.sl .u32 l1,.bool b2,.sl .u32 l2],.agg [.bool c1,.sl .u32 m1,.bool c2,.sl .u32 m2]] (.AG [(true,[.bool false,.sl .u32 [],.bool false,.sl .u32 []]),(false,[.int .i64 6])]):=by
 refine AE Tryz.func217 (by kernel_rfl) rfl fun E b=>?_
 conv=>cbv
 refine cL (r:= .one (.bool true)) b (MV f.num (by rw[a];rfl)) ⟨t2,trivial⟩ ?_;try conv=>cbv
 exact fA ⟨⟨rfl,rfl,.inr (.inl ⟨_,congrArg _ (by simp_all)⟩),rfl,.inr (.inl ⟨_,congrArg _ (by simp_all)⟩),trivial⟩,t2,trivial⟩ rfl (by simp)
theorem NS (q:Rat):(q.num<0/\C1 q= -1)\/(q.num=0/\C1 q=0)\/(0<q.num/\C1 q=1):=Dj q.num
theorem IT (q:Rat):0<(q.den:Int):=by have:=q.den_pos;omega
theorem Sg {p q:Rat} (h:C1 p<C1 q):p<q:=by
 rw[Rat.lt_iff];rcases NS p with⟨a,e⟩ |⟨a,e⟩ |⟨a,e⟩ <;> rcases NS q with⟨b,e'⟩ |⟨b,e'⟩ |⟨b,e'⟩ <;> rw[e,e'] at h <;> try omega
 ·rw[b,Int.zero_mul];exact Int.mul_neg_of_neg_of_pos a (IT q)
 ·exact Int.lt_trans (Int.mul_neg_of_neg_of_pos a (IT q)) (Int.mul_pos b (IT p))
 rw[a,Int.zero_mul];exact Int.mul_pos b (IT p)
theorem WG {p q:Rat} (h:p<q):D5 p q= -1:=by unfold D5;rw[if_pos h]
theorem WE {p q:Rat} (h:q<p):D5 p q=1:=by
 unfold D5;rw[if_neg (fun h'=>Int.lt_asymm ((Rat.lt_iff _ _).1 h) ((Rat.lt_iff _ _).1 h')),if_pos h]
theorem Pg (p q:Rat):D5 p q=Ay (p.num*q.den) (q.num*p.den):=by
 unfold D5 Ay;simp only[Rat.lt_iff]
theorem T9 {p q:Rat} {c:Int} (hx:Aq p b1 l1 b2 l2) (g:Aq q c1 m1 c2 m2) (u:BF p) (ht:BF q) (v:c=D5 p q):CF 192 [.agg [.bool b1,.sl .u32 l1,.bool b2,.sl .u32 l2],.agg [.bool c1,.sl .u32 m1,.bool c2,.sl .u32 m2]] (.one (.int .i64 c)):=by
 refine AE Tryz.func192 (by kernel_rfl) rfl fun E j=>?_
 conv=>cbv
 obtain⟨G,w⟩:=xI (C1 p);refine cL j (JI hx w) ⟨t4,trivial⟩ ?_;try conv=>cbv
 obtain⟨D,k⟩:=xI (C1 q);refine cL j (JI g k) ⟨t4,trivial⟩ ?_;try conv=>cbv
 refine g2 rfl ?_;intro B h;conv=>cbv
 cases B <;> conv=>cbv
 ·have z:=DK h;obtain⟨m,s,b⟩:=AP (p.num*q.den);refine cL (r:= .agg [.bool m,.sl .u32 s]) j (DP hx.num g.den b (by have:=hx.small u;have:=g.small ht;omega) (by have:=hx.small u;have:=g.small ht;omega)) ⟨t2,t2,trivial⟩ ?_;try conv=>cbv
  obtain⟨o,t,f⟩:=AP (q.num*p.den);refine cL (r:= .agg [.bool o,.sl .u32 t]) j (DP g.num hx.den f (by have:=hx.small u;have:=g.small ht;omega) (by have:=hx.small u;have:=g.small ht;omega)) ⟨t2,t2,trivial⟩ ?_;try conv=>cbv
  obtain⟨F,a⟩:=xI (Ay (p.num*q.den) (q.num*p.den));refine cL j (Nx b f a) ⟨t2,t2,trivial⟩ ?_;try conv=>cbv
  refine g2 rfl ?_;exact fA ⟨⟨rfl,congrArg _ (by rw[v,a,Pg]),trivial⟩,trivial⟩ rfl (by simp)
 have z:=DL h;intro C i;conv=>cbv
 cases C <;> conv=>cbv
 ·have A:=AR i;exact fA ⟨⟨rfl,congrArg _ (by rw[v];exact WE (Sg (by omega))),trivial⟩,trivial⟩ rfl (by simp)
 have A:=AS i;exact fA ⟨⟨rfl,congrArg _ (by rw[v];exact WG (Sg (by omega))),trivial⟩,trivial⟩ rfl (by simp)
theorem HX {b:Bool} (h:AT x b l) (h':AT ((Ar x.toNat:Nat):Int) b' l'):l'.length<=l.length:=by
 rw[h.Am,h'.Am,Int.natAbs_natCast];exact Cl (Nat.le_trans (Nat.le_trans (Nat.le_mul_self _) (Ib x.toNat)) (by omega))
theorem Ym {e:Int} (h:e=if x<0 then 7 else 0) (a:e≠0):decide (((Ar x.toNat:Nat):Int)*((Ar x.toNat:Nat):Int)=x)=false:=by
 have hx:x<0:=by
  apply Classical.byContradiction;intro b;rw[if_neg b] at h;exact a h
 rw[show x.toNat=0 by omega];simp only[decide_eq_false_iff_not];intro h';rw[show Ar 0=0 from rfl] at h';omega
theorem WK (a b:Int):decide (a=b)=(Ay a b==0):=by
 unfold Ay;rw[Bool.eq_iff_iff,decide_eq_true_eq,beq_iff_eq]
 split
 ·omega
 split <;> omega
theorem Kr (hx:AT x b1 l1) (m:AT ((Ar x.toNat:Nat):Int) b2 l2) (s:c=decide (((Ar x.toNat:Nat):Int)*((Ar x.toNat:Nat):Int)=x)) (s1:l1.length<=4000000000000):CF 256 [.agg [.bool b1,.sl .u32 l1]] (.AG [(true,[.bool b2,.sl .u32 l2]),(false,[.bool c])]):=by
 refine AE Tryz.func256 (by kernel_rfl) rfl fun E p=>?_
 conv=>cbv
 obtain⟨v,w,a⟩:=AP ((Ar x.toNat:Nat):Int);obtain⟨z,h⟩:=xI (if x<0 then 7 else 0);refine cL p (UM hx a h (by omega)) ⟨t2,trivial⟩ ?_;try conv=>cbv
 intro q g;conv=>cbv
 cases q <;> conv=>cbv
 ·have i:=Ac g;refine g2 rfl ?_;exact fA ⟨⟨rfl,congrArg _ ((a.uniq m rfl).1.symm),congrArg _ ((a.uniq m rfl).2.symm),trivial⟩,⟨rfl,congrArg _ (by rw[s];exact Ym h i),trivial⟩,trivial⟩ rfl (by simp)
 have i:=Ad g;obtain⟨j,k,f⟩:=AP (((Ar x.toNat:Nat):Int)*((Ar x.toNat:Nat):Int));refine cL (r:= .agg [.bool j,.sl .u32 k]) p (DP a a f (by have:=HX hx a;omega) (by have:=HX hx a;omega)) ⟨t2,t2,trivial⟩ ?_;try conv=>cbv
 obtain⟨u,b⟩:=xI (Ay (((Ar x.toNat:Nat):Int)*((Ar x.toNat:Nat):Int)) x);refine cL p (Nx f hx b) ⟨t2,t2,trivial⟩ ?_;try conv=>cbv
 intro t o;conv=>cbv
 refine g2 rfl ?_;exact fA ⟨⟨rfl,congrArg _ ((a.uniq m rfl).1.symm),congrArg _ ((a.uniq m rfl).2.symm),trivial⟩,⟨rfl,congrArg _ (by rw[s,o,b];exact WK _ _),trivial⟩,trivial⟩ rfl (by simp)
theorem UF {q:Rat} (hx:Aq q b1 l1 b2 l2) (B:BF q) (w:0<=r) (A:r*r=q) (p:Aq r c1 m1 c2 m2):CF 228 [.agg [.bool b1,.sl .u32 l1,.bool b2,.sl .u32 l2]] (.AG [(true,[.bool c1,.sl .u32 m1,.bool c2,.sl .u32 m2]),(false,[.bool true])]):=by
 refine AE Tryz.func228 (by kernel_rfl) rfl fun E z=>?_
 conv=>cbv
 obtain⟨j,m,a⟩:=AP (r.num);have t:=S8 w A;refine cL (r:= .AG [(true,[.bool j,.sl .u32 m]),(false,[.bool true])]) z (Kr hx.num (by rw[t.1];exact a) (by rw[t.1];exact (decide_eq_true t.2).symm) (by have:=hx.small B;omega)) ⟨t2,trivial⟩ ?_;try conv=>cbv
 obtain⟨k,o,b⟩:=AP (r.den:Int);have s:=S7 w A;refine cL (r:= .AG [(true,[.bool k,.sl .u32 o]),(false,[.bool true])]) z (Kr hx.den (by rw[s.1];exact b) (by rw[s.1];exact (decide_eq_true s.2).symm) (by have:=hx.small B;omega)) ⟨t2,trivial⟩ ?_;try conv=>cbv
 intro u f;conv=>cbv
 cases u <;> conv=>cbv
 ·have h:=Co f;intro v g;conv=>cbv
  cases v <;> conv=>cbv
  ·have i:=Co g;exact fA ⟨⟨rfl,congrArg _ ((a.uniq p.num rfl).1.symm),congrArg _ ((a.uniq p.num rfl).2.symm),congrArg _ ((b.uniq p.den rfl).1.symm),congrArg _ ((b.uniq p.den rfl).2.symm),trivial⟩,t2,trivial⟩ rfl (by simp)
  have i:=Cp g;exact absurd i (by decide)
 have h:=Cp f;exact absurd h (by decide)
theorem UE {q:Rat} (hx:Aq q b1 l1 b2 l2) (A:BF q) (B:¬∃r:Rat,0<=r/\r*r=q):CF 228 [.agg [.bool b1,.sl .u32 l1,.bool b2,.sl .u32 l2]] (.AG [(true,[.bool false,.sl .u32 [],.bool false,.sl .u32 []]),(false,[.bool false])]):=by
 refine AE Tryz.func228 (by kernel_rfl) rfl fun E z=>?_
 conv=>cbv
 obtain⟨m,p,h⟩:=AP (((Ar q.num.toNat:Nat):Int));obtain⟨t,a⟩:=xB (decide (((Ar q.num.toNat:Nat):Int)*((Ar q.num.toNat:Nat):Int)=q.num));refine cL (r:= .AG [(true,[.bool m,.sl .u32 p]),(false,[.bool t])]) z (Kr hx.num h a (by have:=hx.small A;omega)) ⟨t2,trivial⟩ ?_;try conv=>cbv
 obtain⟨o,s,i⟩:=AP (((Ar (q.den:Int).toNat:Nat):Int));obtain⟨u,b⟩:=xB (decide (((Ar (q.den:Int).toNat:Nat):Int)*((Ar (q.den:Int).toNat:Nat):Int)=(q.den:Int)));refine cL (r:= .AG [(true,[.bool o,.sl .u32 s]),(false,[.bool u])]) z (Kr hx.den i b (by have:=hx.small A;omega)) ⟨t2,trivial⟩ ?_;try conv=>cbv
 intro v f;conv=>cbv
 cases v <;> conv=>cbv
 ·have j:=Co f;intro w g;conv=>cbv
  cases w <;> conv=>cbv
  ·have k:=Co g;exact absurd (S6 (of_decide_eq_true (a.symm.trans j)) (of_decide_eq_true (b.symm.trans k))) B
  have k:=Cp g;exact fA ⟨⟨rfl,rfl,.inr (.inl ⟨_,rfl⟩),rfl,.inr (.inl ⟨_,rfl⟩),trivial⟩,t2,trivial⟩ rfl (by simp)
 have j:=Cp f;exact fA ⟨⟨rfl,rfl,.inr (.inl ⟨_,rfl⟩),rfl,.inr (.inl ⟨_,rfl⟩),trivial⟩,t2,trivial⟩ rfl (by simp)
theorem Ts {q:Rat} (hx:AT n b1 l1) (p:AT d b2 l2) (o:d≠0) (s:q=Rat.divInt n d) (m:Aq q c1 m1 c2 m2) (s1:l1.length<=17592186042000) (s2:l2.length<=17592186042000):CF 167 [.agg [.bool b1,.sl .u32 l1],.agg [.bool b2,.sl .u32 l2]] (.AG [(true,[.bool c1,.sl .u32 m1,.bool c2,.sl .u32 m2]),(false,[.int .i64 0])]):=by
 refine AE Tryz.func167 (by kernel_rfl) rfl fun E k=>?_
 conv=>cbv
 obtain⟨t,v,f⟩:=AP (n);refine cL k (OA hx (by omega) f) ⟨t2,trivial⟩ ?_;try conv=>cbv
 obtain⟨u,w,b⟩:=AP (d);refine cL k (OA p (by omega) b) ⟨t2,trivial⟩ ?_;try conv=>cbv
 refine g2 rfl ?_;refine cL (r:= .one (.bool false)) k (MV b (by simp[o])) ⟨t2,trivial⟩ ?_;try conv=>cbv
 obtain⟨i,j,g,h,a⟩:=A9 (q);refine cL (r:= .agg [.bool i,.sl .u32 j,.bool g,.sl .u32 h]) k (Hf f b o s a (by rw[(f.uniq hx rfl).2];exact s1) (by rw[(b.uniq p rfl).2];exact s2)) ⟨t2,t2,trivial⟩ ?_;try conv=>cbv
 exact fA ⟨⟨rfl,congrArg _ ((a.uniq m rfl).1.1.symm),congrArg _ ((a.uniq m rfl).1.2.symm),congrArg _ ((a.uniq m rfl).2.1.symm),congrArg _ ((a.uniq m rfl).2.2.symm),trivial⟩,t2,trivial⟩ rfl (by simp)
theorem LG {b:Bool} (hx: -9223372036854775808<=x/\x<9223372036854775808) (h:AT x b l):l.length<=2:=by
 rw[h.Am];exact D9 (by omega)
theorem Tm {q:Rat} (v: -9223372036854775808<=n/\n<9223372036854775808) (u: -9223372036854775808<=d/\d<9223372036854775808) (F:d≠0) (G:q=Rat.divInt n d) (s:Aq q c1 m1 c2 m2):CF 108 [.one (.int .i64 n),.one (.int .i64 d)] (.agg [.bool c1,.sl .u32 m1,.bool c2,.sl .u32 m2]):=by
 refine AE Tryz.func108 (by kernel_rfl) rfl fun E p=>?_
 conv=>cbv
 obtain⟨H,I,f⟩:=AP (n);refine cL p (JC v f) t1 ?_;try conv=>cbv
 obtain⟨A,C,b⟩:=AP (d);refine cL p (JC u b) t1 ?_;try conv=>cbv
 obtain⟨m,o,j,k,a⟩:=A9 q;refine cL (r:= .AG [(true,[.bool m,.sl .u32 o,.bool j,.sl .u32 k]),(false,[.int .i64 0])]) p (Ts f b F G a (by have:=LG v f;omega) (by have:=LG u b;omega)) ⟨t2,t2,trivial⟩ ?_;try conv=>cbv
 intro t g;conv=>cbv
 cases t <;> conv=>cbv
 ·have i:=DK g;exact fA ⟨⟨rfl,congrArg _ ((a.uniq s rfl).1.1.symm),congrArg _ ((a.uniq s rfl).1.2.symm),congrArg _ ((a.uniq s rfl).2.1.symm),congrArg _ ((a.uniq s rfl).2.2.symm),trivial⟩,trivial⟩ rfl (by simp)
 have i:=DL g;obtain⟨B,D,w,z,h⟩:=A9 (((0:Int):Rat));refine cL p (EZ (by omega) rfl h) t1 ?_;try conv=>cbv
 exact absurd i (by decide)
theorem aB (f:AT y b2 l2) (h:BO y<=0):FM b1 l1 b2 l2=false:=by
 apply Bool.eq_false_iff.2;intro h';obtain⟨q,b⟩:=Nm.1 h';have e:y=(q.den:Int):=by rw[f.DW,b.den.DW]
 have:=IT q;rcases Dj y with⟨a,e'⟩ |⟨a,e'⟩ |⟨a,e'⟩ <;> omega
theorem aA (f:true=E2 b1 l1) (g:true=E2 b2 l2) (hx:AT x b1 l1) (b:AT y b2 l2) (h:0<BO y) (j:c=decide (((Nat.gcd x.natAbs y.natAbs:Nat):Int)=1)):FM b1 l1 b2 l2=c:=by
 have m:0<y:=by rcases Dj y with⟨a,e'⟩ |⟨a,e'⟩ |⟨a,e'⟩ <;> omega
 have i:b2=false:=by rw[b.neg];exact decide_eq_false (by omega)
 have k:l2≠[]:=fun e=>by have:=b.nil.1 e;omega
 unfold FM;rw[<-f,<-g,i,decide_eq_true k,j,hx.nat,b.nat];simp only[Bool.true_and,Bool.not_false];rw[Bool.eq_iff_iff,decide_eq_true_eq,decide_eq_true_eq];omega
theorem OC (k:c=FM b1 l1 b2 l2) (s1:l1.length<=17592186042000) (s2:l2.length<=17592186042000):CF 202 [.agg [.bool b1,.sl .u32 l1,.bool b2,.sl .u32 l2]] (.one (.bool c)):=by
 refine AE Tryz.func202 (by kernel_rfl) rfl fun E i=>?_
 conv=>cbv
 obtain⟨u,a⟩:=xB (E2 b1 l1);refine cL i (OJ a) ⟨t2,trivial⟩ ?_;try conv=>cbv
 cases u <;> conv=>cbv
 ·exact fA ⟨⟨rfl,congrArg _ (by rw[k];unfold FM;rw[<-a];rfl),trivial⟩,trivial⟩ rfl (by simp)
 obtain⟨v,b⟩:=xB (E2 b2 l2);refine cL i (OJ b) ⟨t2,trivial⟩ ?_;try conv=>cbv
 cases v <;> conv=>cbv
 ·exact fA ⟨⟨rfl,congrArg _ (by rw[k];unfold FM;rw[<-b];exact Bool.and_false _),trivial⟩,trivial⟩ rfl (by simp)
 obtain⟨x,hx⟩:=H3.1 a.symm;obtain⟨y,m⟩:=H3.1 b.symm;obtain⟨w,j⟩:=xI (BO y);refine cL i (H7 m j) ⟨t2,trivial⟩ ?_;try conv=>cbv
 intro p h;conv=>cbv
 cases p <;> conv=>cbv
 ·have o:=BZ h;exact fA ⟨⟨rfl,congrArg _ (by rw[k];exact aB m (by omega)),trivial⟩,trivial⟩ rfl (by simp)
 have o:=Ba h;obtain⟨q,s,g⟩:=AP (((Nat.gcd x.natAbs y.natAbs:Nat):Int));refine cL i (N0 hx m g (by omega) (by omega)) ⟨t2,t2,trivial⟩ ?_;try conv=>cbv
 obtain⟨t,f⟩:=xB (decide (((Nat.gcd x.natAbs y.natAbs:Nat):Int)=1));refine cL i (HW g f) ⟨t2,trivial⟩ ?_;try conv=>cbv
 exact fA ⟨⟨rfl,congrArg _ (by rw[k];exact aA a b hx m (by omega) f),trivial⟩,trivial⟩ rfl (by simp)
end Go.Abs
