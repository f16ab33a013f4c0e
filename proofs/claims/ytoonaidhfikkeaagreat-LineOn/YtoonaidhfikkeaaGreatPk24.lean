/- Part 25 of a proof. Conditions: each theorem's own. -/
import Derived.Test.YtoonaidhfikkeaaGreatPk20
set_option linter.all false
set_option maxHeartbeats 8000000
open Go.Proofs
namespace Go.Abs
open Go.RowKit
variable {b' b1 b2 c c1 c2 d1 d2:Bool} {d n x y:Int} {k1 k2 l l' l1 l2 m1 m2:List UInt32} {r:Rat}
theorem MZ {b:Bool} (g:AT x b l) (f:c=decide (x=0)):CF 230 [.agg [.bool b,.sl .u32 l]] (.one (.bool c)):=by
 refine AE Tryz.func230 (by kernel_rfl) rfl fun E i=>?_
 conv=>cbv
 rintro j ⟨h,f5⟩;conv=>cbv
 intro k a;conv=>cbv
 exact fA ⟨⟨rfl,congrArg _ (by rw[f,a,Bool.eq_iff_iff];simp only[decide_eq_true_eq,beq_iff_eq];rw[<-g.Dm];omega),trivial⟩,trivial⟩ rfl (by simp)
theorem HX {b:Bool} (k:AT x b l) (j:c=decide (x=1)):CF 275 [.agg [.bool b,.sl .u32 l]] (.one (.bool c)):=by
 refine AE Tryz.func275 (by kernel_rfl) rfl fun E A=>?_
 conv=>cbv
 intro w s;conv=>cbv
 cases w <;> conv=>cbv
 ·have o:=Cr s;exact fA ⟨⟨rfl,congrArg _ (by rw[j];exact (M4 k o).symm),trivial⟩,trivial⟩ rfl (by simp)
 have o:=Cs s;rintro B ⟨z,f9⟩;conv=>cbv
 intro p f;conv=>cbv
 cases p <;> conv=>cbv
 ·have m:=Ab f;exact fA ⟨⟨rfl,congrArg _ (by rw[j];exact (RZ k (by omega)).symm),trivial⟩,trivial⟩ rfl (by simp)
 have m:=Ad f;obtain⟨q,a⟩:=AG (l:=l) (i:=0) (by omega);refine⟨q,fun _=>⟨by omega,a⟩,?_⟩;try conv=>cbv
 intro u g;have t:=g.eq;have f16:=g.lt;conv=>cbv
 intro v h;conv=>cbv
 exact fA ⟨⟨rfl,congrArg _ (by rw[j,h,<-M6 k o (by omega) a,Bool.eq_iff_iff];simp only[decide_eq_true_eq,beq_iff_eq];omega),trivial⟩,trivial⟩ rfl (by simp)
theorem M5 {b:Bool} (f:AT 1 b l):CF 203 [] (.agg [.bool b,.sl .u32 l]):=by
 refine AE Tryz.func203 (by kernel_rfl) rfl fun E g=>?_
 conv=>cbv
 obtain⟨h,i,a⟩:=AP (1);refine cL g (JD (by omega) a) t1 ?_;try conv=>cbv
 exact fA ⟨⟨rfl,congrArg _ ((a.uniq f rfl).1.symm),congrArg _ ((a.uniq f rfl).2.symm),trivial⟩,trivial⟩ rfl (by simp)
theorem Kh {b3:Bool} {l3:List UInt32} (h:AT x b1 l1) (k:AT y b2 l2) (i:y≠0) (g:AT (BQ x y) b3 l3) (s1:l1.length<=17592186042000) (s2:l2.length<=17592186042000):CF 260 [.agg [.bool b1,.sl .u32 l1],.agg [.bool b2,.sl .u32 l2]] (.agg [.bool b3,.sl .u32 l3]):=by
 refine AE Tryz.func260 (by kernel_rfl) rfl fun E j=>?_
 conv=>cbv
 obtain⟨s,b⟩:=xB (decide (y=1));refine cL j (HX k b) ⟨t2,trivial⟩ ?_;try conv=>cbv
 cases s <;> conv=>cbv
 ·obtain⟨p,q,a⟩:=AP (BQ x y);obtain⟨m,o,f⟩:=AP (Er x y);refine cL j (Tp h k i a f (by omega) (by omega)) ⟨t2,t2,trivial⟩ ?_;try conv=>cbv
  exact fA ⟨⟨rfl,congrArg _ ((a.uniq g rfl).1.symm),congrArg _ ((a.uniq g rfl).2.symm),trivial⟩,trivial⟩ rfl (by simp)
 exact fA ⟨⟨rfl,congrArg _ ((g.uniq h (by rw[of_decide_eq_true b.symm];exact P4 x)).1),congrArg _ ((g.uniq h (by rw[of_decide_eq_true b.symm];exact P4 x)).2),trivial⟩,trivial⟩ rfl (by simp)
theorem Ia {b:Bool} (a:d≠0) (h:AT d b l) (h':AT ((Nat.gcd n.natAbs d.natAbs:Nat):Int) b' l'):l'.length<=l.length:=by
 rw[h.An,h'.An,Int.natAbs_natCast];exact Cp (Nat.le_of_dvd (by omega) (Nat.gcd_dvd_right _ _))
theorem J4 {b:Bool} (a:d≠0) (h:AT d b l) (h':AT (-((Nat.gcd n.natAbs d.natAbs:Nat):Int)) b' l'):l'.length<=l.length:=by
 rw[h.An,h'.An,Int.natAbs_neg,Int.natAbs_natCast];exact Cp (Nat.le_of_dvd (by omega) (Nat.gcd_dvd_right _ _))
theorem J5 (a:d≠0):((Nat.gcd n.natAbs d.natAbs:Nat):Int)≠0:=by
 have:=Nat.gcd_pos_of_pos_right n.natAbs (n:=d.natAbs) (by omega);omega
theorem Mb {b:Bool} (h:AT d b l) (e:b=true):d<0:=by
 have:=h.neg;rw[e] at this;simpa using this.symm
theorem Ma {b:Bool} (h:AT d b l) (e:b=false):¬d<0:=by
 have:=h.neg;rw[e] at this;simpa using this.symm
theorem Hf {q:Rat} (C:AT n b1 l1) (h:AT d b2 l2) (i:d≠0) (B:q=Rat.divInt n d) (s:Ap q c1 m1 c2 m2) (s1:l1.length<=17592186042000) (s2:l2.length<=17592186042000):CF 231 [.agg [.bool b1,.sl .u32 l1],.agg [.bool b2,.sl .u32 l2]] (.agg [.bool c1,.sl .u32 m1,.bool c2,.sl .u32 m2]):=by
 refine AE Tryz.func231 (by kernel_rfl) rfl fun E v=>?_
 conv=>cbv
 obtain⟨D,F,g⟩:=AP (((Nat.gcd n.natAbs d.natAbs:Nat):Int));refine cL v (N9 C h g (by omega) (by omega)) ⟨t2,t2,trivial⟩ ?_;try conv=>cbv
 refine .inr ?_;cases b2 <;> conv=>cbv
 ·obtain⟨k,o,a⟩:=AP (BQ n (if d<0 then -((Nat.gcd n.natAbs d.natAbs:Nat):Int) else ((Nat.gcd n.natAbs d.natAbs:Nat):Int)));have A:AT (if d<0 then -((Nat.gcd n.natAbs d.natAbs:Nat):Int) else ((Nat.gcd n.natAbs d.natAbs:Nat):Int)) D F:=by rw[if_neg (Ma h rfl)];exact g
  have j:(if d<0 then -((Nat.gcd n.natAbs d.natAbs:Nat):Int) else ((Nat.gcd n.natAbs d.natAbs:Nat):Int))≠0:=by rw[if_neg (Ma h rfl)];have:=J5 (n:=n) i;omega
  have z:BQ n (if d<0 then -((Nat.gcd n.natAbs d.natAbs:Nat):Int) else ((Nat.gcd n.natAbs d.natAbs:Nat):Int))=q.num:=by rw[B];exact (KK i).symm
  have w:BQ d (if d<0 then -((Nat.gcd n.natAbs d.natAbs:Nat):Int) else ((Nat.gcd n.natAbs d.natAbs:Nat):Int))=(q.den:Int):=by rw[B];exact (KJ i).symm
  refine cL (r:= .agg [.bool k,.sl .u32 o]) v (Kh C A j a (by omega) (by have:=Ia i h g;omega)) ⟨t2,t2,trivial⟩ ?_;try conv=>cbv
  obtain⟨m,p,b⟩:=AP (BQ d (if d<0 then -((Nat.gcd n.natAbs d.natAbs:Nat):Int) else ((Nat.gcd n.natAbs d.natAbs:Nat):Int)));refine cL (r:= .agg [.bool m,.sl .u32 p]) v (Kh h A j b (by omega) (by have:=Ia i h g;omega)) ⟨t2,t2,trivial⟩ ?_;try conv=>cbv
  refine g2 rfl ?_;exact fA ⟨⟨rfl,congrArg _ ((a.uniq s.num z).1.symm),congrArg _ ((a.uniq s.num z).2.symm),congrArg _ ((b.uniq s.den w).1.symm),congrArg _ ((b.uniq s.den w).2.symm),trivial⟩,trivial⟩ rfl (by simp)
 obtain⟨t,u,f⟩:=AP (-((Nat.gcd n.natAbs d.natAbs:Nat):Int));refine cL (r:= .agg [.bool t,.sl .u32 u]) v (OG g (by have:=Ia i h g;omega) f) ⟨t2,trivial⟩ ?_;try conv=>cbv
 obtain⟨k,o,a⟩:=AP (BQ n (if d<0 then -((Nat.gcd n.natAbs d.natAbs:Nat):Int) else ((Nat.gcd n.natAbs d.natAbs:Nat):Int)));have A:AT (if d<0 then -((Nat.gcd n.natAbs d.natAbs:Nat):Int) else ((Nat.gcd n.natAbs d.natAbs:Nat):Int)) t u:=by rw[if_pos (Mb h rfl)];exact f
 have j:(if d<0 then -((Nat.gcd n.natAbs d.natAbs:Nat):Int) else ((Nat.gcd n.natAbs d.natAbs:Nat):Int))≠0:=by rw[if_pos (Mb h rfl)];have:=J5 (n:=n) i;omega
 have z:BQ n (if d<0 then -((Nat.gcd n.natAbs d.natAbs:Nat):Int) else ((Nat.gcd n.natAbs d.natAbs:Nat):Int))=q.num:=by rw[B];exact (KK i).symm
 have w:BQ d (if d<0 then -((Nat.gcd n.natAbs d.natAbs:Nat):Int) else ((Nat.gcd n.natAbs d.natAbs:Nat):Int))=(q.den:Int):=by rw[B];exact (KJ i).symm
 refine cL (r:= .agg [.bool k,.sl .u32 o]) v (Kh C A j a (by omega) (by have:=J4 i h f;omega)) ⟨t2,t2,trivial⟩ ?_;try conv=>cbv
 obtain⟨m,p,b⟩:=AP (BQ d (if d<0 then -((Nat.gcd n.natAbs d.natAbs:Nat):Int) else ((Nat.gcd n.natAbs d.natAbs:Nat):Int)));refine cL (r:= .agg [.bool m,.sl .u32 p]) v (Kh h A j b (by omega) (by have:=J4 i h f;omega)) ⟨t2,t2,trivial⟩ ?_;try conv=>cbv
 refine g2 rfl ?_;exact fA ⟨⟨rfl,congrArg _ ((a.uniq s.num z).1.symm),congrArg _ ((a.uniq s.num z).2.symm),congrArg _ ((b.uniq s.den w).1.symm),congrArg _ ((b.uniq s.den w).2.symm),trivial⟩,trivial⟩ rfl (by simp)
theorem EZ {q:Rat} (i: -9223372036854775808<=x/\x<9223372036854775808) (f:q=(x:Rat)) (g:Ap q c1 m1 c2 m2):CF 156 [.one (.int .i64 x)] (.agg [.bool c1,.sl .u32 m1,.bool c2,.sl .u32 m2]):=by
 refine AE Tryz.func156 (by kernel_rfl) rfl fun E h=>?_
 conv=>cbv
 obtain⟨j,m,a⟩:=AP (x);refine cL h (JD i a) t1 ?_;try conv=>cbv
 obtain⟨k,o,b⟩:=AP (1);refine cL h (M5 b) trivial ?_;try conv=>cbv
 exact fA ⟨⟨rfl,congrArg _ ((a.uniq g.num (by rw[f];rfl)).1.symm),congrArg _ ((a.uniq g.num (by rw[f];rfl)).2.symm),congrArg _ ((b.uniq g.den (by rw[f];rfl)).1.symm),congrArg _ ((b.uniq g.den (by rw[f];rfl)).2.symm),trivial⟩,trivial⟩ rfl (by simp)
theorem JH {q:Rat} {c:Int} (g:Ap q b1 l1 b2 l2) (f:c=C0 q):CF 214 [.agg [.bool b1,.sl .u32 l1,.bool b2,.sl .u32 l2]] (.one (.int .i64 c)):=by
 refine AE Tryz.func214 (by kernel_rfl) rfl fun E b=>?_
 conv=>cbv
 obtain⟨h,a⟩:=xI (BR q.num);refine cL b (H6 g.num a) ⟨t2,trivial⟩ ?_;try conv=>cbv
 exact fA ⟨⟨rfl,congrArg _ (by rw[f,a];rfl),trivial⟩,trivial⟩ rfl (by simp)
theorem UN {q p:Rat} (f:Ap q b1 l1 b2 l2) (k:BK q) (b:p= -q) (g:Ap p c1 m1 c2 m2):CF 225 [.agg [.bool b1,.sl .u32 l1,.bool b2,.sl .u32 l2]] (.agg [.bool c1,.sl .u32 m1,.bool c2,.sl .u32 m2]):=by
 refine AE Tryz.func225 (by kernel_rfl) rfl fun E j=>?_
 conv=>cbv
 obtain⟨h,i,a⟩:=AP (-q.num);refine cL (r:= .agg [.bool h,.sl .u32 i]) j (OG f.num (by have:=f.small k;omega) a) ⟨t2,trivial⟩ ?_;try conv=>cbv
 refine g2 rfl ?_;exact fA ⟨⟨rfl,congrArg _ ((a.uniq g.num (by rw[b];rfl)).1.symm),congrArg _ ((a.uniq g.num (by rw[b];rfl)).2.symm),congrArg _ ((f.den.uniq g.den (by rw[b];rfl)).1.symm),congrArg _ ((f.den.uniq g.den (by rw[b];rfl)).2.symm),trivial⟩,trivial⟩ rfl (by simp)
theorem UI {p q:Rat} (a:Ap p b1 l1 b2 l2) (b:Ap q c1 m1 c2 m2) (m:BK p) (ht:BK q) (M:r=p+q) (t:Ap r d1 k1 d2 k2):CF 245 [.agg [.bool b1,.sl .u32 l1,.bool b2,.sl .u32 l2],.agg [.bool c1,.sl .u32 m1,.bool c2,.sl .u32 m2]] (.agg [.bool d1,.sl .u32 k1,.bool d2,.sl .u32 k2]):=by
 refine AE Tryz.func245 (by kernel_rfl) rfl fun E s=>?_
 conv=>cbv
 obtain⟨S,u⟩:=xB (decide ((p.den:Int)=1));refine cL s (HX a.den u) ⟨t2,trivial⟩ ?_;try conv=>cbv
 cases S <;> conv=>cbv
 ·obtain⟨B,H,f⟩:=AP (p.num*q.den);refine cL (r:= .agg [.bool B,.sl .u32 H]) s (DU a.num b.den f (by have:=a.small m;have:=b.small ht;omega) (by have:=a.small m;have:=b.small ht;omega)) ⟨t2,t2,trivial⟩ ?_;try conv=>cbv
  obtain⟨C,I,g⟩:=AP (q.num*p.den);refine cL (r:= .agg [.bool C,.sl .u32 I]) s (DU b.num a.den g (by have:=a.small m;have:=b.small ht;omega) (by have:=a.small m;have:=b.small ht;omega)) ⟨t2,t2,trivial⟩ ?_;try conv=>cbv
  obtain⟨D,J,i⟩:=AP (p.num*q.den+q.num*p.den);refine cL (r:= .agg [.bool D,.sl .u32 J]) s (LH f g i (by have:=a.small m;have:=b.small ht;have:=a.num.CK b.den f rfl;omega) (by have:=a.small m;have:=b.small ht;have:=b.num.CK a.den g rfl;omega)) ⟨t2,t2,trivial⟩ ?_;try conv=>cbv
  refine g2 rfl ?_;obtain⟨F,K,j⟩:=AP ((p.den:Int)*q.den);refine cL (r:= .agg [.bool F,.sl .u32 K]) s (DU a.den b.den j (by have:=a.small m;have:=b.small ht;omega) (by have:=a.small m;have:=b.small ht;omega)) ⟨t2,t2,trivial⟩ ?_;try conv=>cbv
  obtain⟨G,L,z,A,h⟩:=BD (r);refine cL (r:= .agg [.bool G,.sl .u32 L,.bool z,.sl .u32 A]) s (Hf i j (Int.mul_ne_zero (Ef p) (Ef q)) (M.trans (Ll p q)) h (by have:=a.small m;have:=b.small ht;have:=a.num.CK b.den f rfl;have:=b.num.CK a.den g rfl;have:=f.JU g i rfl (k:=8000000000000) (by omega) (by omega);omega) (by have:=a.small m;have:=b.small ht;have:=a.den.CK b.den j rfl;omega)) ⟨t2,t2,trivial⟩ ?_;try conv=>cbv
  refine g2 rfl ?_;exact fA ⟨⟨rfl,congrArg _ ((h.uniq t rfl).1.1.symm),congrArg _ ((h.uniq t rfl).1.2.symm),congrArg _ ((h.uniq t rfl).2.1.symm),congrArg _ ((h.uniq t rfl).2.2.symm),trivial⟩,trivial⟩ rfl (by simp)
 obtain⟨P,o⟩:=xB (decide ((q.den:Int)=1));refine cL s (HX b.den o) ⟨t2,trivial⟩ ?_;try conv=>cbv
 cases P <;> conv=>cbv
 ·obtain⟨B,H,f⟩:=AP (p.num*q.den);refine cL (r:= .agg [.bool B,.sl .u32 H]) s (DU a.num b.den f (by have:=a.small m;have:=b.small ht;omega) (by have:=a.small m;have:=b.small ht;omega)) ⟨t2,t2,trivial⟩ ?_;try conv=>cbv
  obtain⟨C,I,g⟩:=AP (q.num*p.den);refine cL (r:= .agg [.bool C,.sl .u32 I]) s (DU b.num a.den g (by have:=a.small m;have:=b.small ht;omega) (by have:=a.small m;have:=b.small ht;omega)) ⟨t2,t2,trivial⟩ ?_;try conv=>cbv
  obtain⟨D,J,i⟩:=AP (p.num*q.den+q.num*p.den);refine cL (r:= .agg [.bool D,.sl .u32 J]) s (LH f g i (by have:=a.small m;have:=b.small ht;have:=a.num.CK b.den f rfl;omega) (by have:=a.small m;have:=b.small ht;have:=b.num.CK a.den g rfl;omega)) ⟨t2,t2,trivial⟩ ?_;try conv=>cbv
  refine g2 rfl ?_;obtain⟨F,K,j⟩:=AP ((p.den:Int)*q.den);refine cL (r:= .agg [.bool F,.sl .u32 K]) s (DU a.den b.den j (by have:=a.small m;have:=b.small ht;omega) (by have:=a.small m;have:=b.small ht;omega)) ⟨t2,t2,trivial⟩ ?_;try conv=>cbv
  obtain⟨G,L,z,A,h⟩:=BD (r);refine cL (r:= .agg [.bool G,.sl .u32 L,.bool z,.sl .u32 A]) s (Hf i j (Int.mul_ne_zero (Ef p) (Ef q)) (M.trans (Ll p q)) h (by have:=a.small m;have:=b.small ht;have:=a.num.CK b.den f rfl;have:=b.num.CK a.den g rfl;have:=f.JU g i rfl (k:=8000000000000) (by omega) (by omega);omega) (by have:=a.small m;have:=b.small ht;have:=a.den.CK b.den j rfl;omega)) ⟨t2,t2,trivial⟩ ?_;try conv=>cbv
  refine g2 rfl ?_;exact fA ⟨⟨rfl,congrArg _ ((h.uniq t rfl).1.1.symm),congrArg _ ((h.uniq t rfl).1.2.symm),congrArg _ ((h.uniq t rfl).2.1.symm),congrArg _ ((h.uniq t rfl).2.2.symm),trivial⟩,trivial⟩ rfl (by simp)
 obtain⟨N,O,v⟩:=AP (p.num+q.num);refine cL (r:= .agg [.bool N,.sl .u32 O]) s (LH a.num b.num v (by have:=a.small m;have:=b.small ht;omega) (by have:=a.small m;have:=b.small ht;omega)) ⟨t2,t2,trivial⟩ ?_;try conv=>cbv
 obtain⟨Q,R,w⟩:=AP (1);refine cL s (M5 w) trivial ?_;try conv=>cbv
 exact fA ⟨⟨rfl,congrArg _ ((v.uniq t.num (by rw[M];exact (F4 (of_decide_eq_true u.symm) (of_decide_eq_true o.symm)).1.symm)).1.symm),congrArg _ ((v.uniq t.num (by rw[M];exact (F4 (of_decide_eq_true u.symm) (of_decide_eq_true o.symm)).1.symm)).2.symm),congrArg _ ((w.uniq t.den (by rw[M,(F4 (of_decide_eq_true u.symm) (of_decide_eq_true o.symm)).2];rfl)).1.symm),congrArg _ ((w.uniq t.den (by rw[M,(F4 (of_decide_eq_true u.symm) (of_decide_eq_true o.symm)).2];rfl)).2.symm),trivial⟩,trivial⟩ rfl (by simp)
theorem UM {p q:Rat} (b:Ap p b1 l1 b2 l2) (f:Ap q c1 m1 c2 m2) (j:BK p) (ht:BK q) (F:r=p*q) (k:Ap r d1 k1 d2 k2):CF 246 [.agg [.bool b1,.sl .u32 l1,.bool b2,.sl .u32 l2],.agg [.bool c1,.sl .u32 m1,.bool c2,.sl .u32 m2]] (.agg [.bool d1,.sl .u32 k1,.bool d2,.sl .u32 k2]):=by
 refine AE Tryz.func246 (by kernel_rfl) rfl fun E D=>?_
 conv=>cbv
 obtain⟨L,m⟩:=xB (decide ((p.den:Int)=1));refine cL D (HX b.den m) ⟨t2,trivial⟩ ?_;try conv=>cbv
 cases L <;> conv=>cbv
 ·obtain⟨v,A,g⟩:=AP (p.num*q.num);refine cL (r:= .agg [.bool v,.sl .u32 A]) D (DU b.num f.num g (by have:=b.small j;have:=f.small ht;omega) (by have:=b.small j;have:=f.small ht;omega)) ⟨t2,t2,trivial⟩ ?_;try conv=>cbv
  obtain⟨w,B,h⟩:=AP ((p.den:Int)*q.den);refine cL (r:= .agg [.bool w,.sl .u32 B]) D (DU b.den f.den h (by have:=b.small j;have:=f.small ht;omega) (by have:=b.small j;have:=f.small ht;omega)) ⟨t2,t2,trivial⟩ ?_;try conv=>cbv
  obtain⟨z,C,t,u,a⟩:=BD (r);refine cL (r:= .agg [.bool z,.sl .u32 C,.bool t,.sl .u32 u]) D (Hf g h (Int.mul_ne_zero (Ef p) (Ef q)) (F.trans (KQ p q)) a (by have:=b.small j;have:=f.small ht;have:=b.num.CK f.num g rfl;omega) (by have:=b.small j;have:=f.small ht;have:=b.den.CK f.den h rfl;omega)) ⟨t2,t2,trivial⟩ ?_;try conv=>cbv
  refine g2 rfl ?_;exact fA ⟨⟨rfl,congrArg _ ((a.uniq k rfl).1.1.symm),congrArg _ ((a.uniq k rfl).1.2.symm),congrArg _ ((a.uniq k rfl).2.1.symm),congrArg _ ((a.uniq k rfl).2.2.symm),trivial⟩,trivial⟩ rfl (by simp)
 obtain⟨I,i⟩:=xB (decide ((q.den:Int)=1));refine cL D (HX f.den i) ⟨t2,trivial⟩ ?_;try conv=>cbv
 cases I <;> conv=>cbv
 ·obtain⟨v,A,g⟩:=AP (p.num*q.num);refine cL (r:= .agg [.bool v,.sl .u32 A]) D (DU b.num f.num g (by have:=b.small j;have:=f.small ht;omega) (by have:=b.small j;have:=f.small ht;omega)) ⟨t2,t2,trivial⟩ ?_;try conv=>cbv
  obtain⟨w,B,h⟩:=AP ((p.den:Int)*q.den);refine cL (r:= .agg [.bool w,.sl .u32 B]) D (DU b.den f.den h (by have:=b.small j;have:=f.small ht;omega) (by have:=b.small j;have:=f.small ht;omega)) ⟨t2,t2,trivial⟩ ?_;try conv=>cbv
  obtain⟨z,C,t,u,a⟩:=BD (r);refine cL (r:= .agg [.bool z,.sl .u32 C,.bool t,.sl .u32 u]) D (Hf g h (Int.mul_ne_zero (Ef p) (Ef q)) (F.trans (KQ p q)) a (by have:=b.small j;have:=f.small ht;have:=b.num.CK f.num g rfl;omega) (by have:=b.small j;have:=f.small ht;have:=b.den.CK f.den h rfl;omega)) ⟨t2,t2,trivial⟩ ?_;try conv=>cbv
  refine g2 rfl ?_;exact fA ⟨⟨rfl,congrArg _ ((a.uniq k rfl).1.1.symm),congrArg _ ((a.uniq k rfl).1.2.symm),congrArg _ ((a.uniq k rfl).2.1.symm),congrArg _ ((a.uniq k rfl).2.2.symm),trivial⟩,trivial⟩ rfl (by simp)
 obtain⟨G,H,o⟩:=AP (p.num*q.num);refine cL (r:= .agg [.bool G,.sl .u32 H]) D (DU b.num f.num o (by have:=b.small j;have:=f.small ht;omega) (by have:=b.small j;have:=f.small ht;omega)) ⟨t2,t2,trivial⟩ ?_;try conv=>cbv
 obtain⟨J,K,s⟩:=AP (1);refine cL D (M5 s) trivial ?_;try conv=>cbv
 exact fA ⟨⟨rfl,congrArg _ ((o.uniq k.num (by rw[F];exact (mul_ones (of_decide_eq_true m.symm) (of_decide_eq_true i.symm)).1.symm)).1.symm),congrArg _ ((o.uniq k.num (by rw[F];exact (mul_ones (of_decide_eq_true m.symm) (of_decide_eq_true i.symm)).1.symm)).2.symm),congrArg _ ((s.uniq k.den (by rw[F,(mul_ones (of_decide_eq_true m.symm) (of_decide_eq_true i.symm)).2];rfl)).1.symm),congrArg _ ((s.uniq k.den (by rw[F,(mul_ones (of_decide_eq_true m.symm) (of_decide_eq_true i.symm)).2];rfl)).2.symm),trivial⟩,trivial⟩ rfl (by simp)
theorem UK {p q:Rat} (h:Ap p b1 l1 b2 l2) (b:Ap q c1 m1 c2 m2) (i:BK p) (ht:BK q) (k:q≠0) (D:r=p/q) (B:Ap r d1 k1 d2 k2):CF 217 [.agg [.bool b1,.sl .u32 l1,.bool b2,.sl .u32 l2],.agg [.bool c1,.sl .u32 m1,.bool c2,.sl .u32 m2]] (.AF [(true,[.bool d1,.sl .u32 k1,.bool d2,.sl .u32 k2]),(false,[.int .i64 0])]):=by
 refine AE Tryz.func217 (by kernel_rfl) rfl fun E A=>?_
 conv=>cbv
 obtain⟨C,j⟩:=xB (decide (q.num=0));refine cL A (MZ b.num j) ⟨t2,trivial⟩ ?_;try conv=>cbv
 cases C <;> conv=>cbv
 ·obtain⟨s,v,f⟩:=AP (p.num*q.den);refine cL (r:= .agg [.bool s,.sl .u32 v]) A (DU h.num b.den f (by have:=h.small i;have:=b.small ht;omega) (by have:=h.small i;have:=b.small ht;omega)) ⟨t2,t2,trivial⟩ ?_;try conv=>cbv
  obtain⟨t,w,g⟩:=AP ((p.den:Int)*q.num);refine cL (r:= .agg [.bool t,.sl .u32 w]) A (DU h.den b.num g (by have:=h.small i;have:=b.small ht;omega) (by have:=h.small i;have:=b.small ht;omega)) ⟨t2,t2,trivial⟩ ?_;try conv=>cbv
  obtain⟨u,z,m,o,a⟩:=BD (r);refine cL (r:= .agg [.bool u,.sl .u32 z,.bool m,.sl .u32 o]) A (Hf f g (Int.mul_ne_zero (Ef p) (mt Rat.num_eq_zero.1 k)) (D.trans (Wd p q)) a (by have:=h.small i;have:=b.small ht;have:=h.num.CK b.den f rfl;omega) (by have:=h.small i;have:=b.small ht;have:=h.den.CK b.num g rfl;omega)) ⟨t2,t2,trivial⟩ ?_;try conv=>cbv
  refine g2 rfl ?_;exact fA ⟨⟨rfl,congrArg _ ((a.uniq B rfl).1.1.symm),congrArg _ ((a.uniq B rfl).1.2.symm),congrArg _ ((a.uniq B rfl).2.1.symm),congrArg _ ((a.uniq B rfl).2.2.symm),trivial⟩,t2,trivial⟩ rfl (by simp)
 exact absurd (Rat.num_eq_zero.1 (of_decide_eq_true j.symm)) k
theorem UL {p q:Rat} (g:Ap p b1 l1 b2 l2) (f:Ap q c1 m1 c2 m2) (a:q=0):CF 217 [.agg [.bool b1,.sl .u32 l1,.bool b2,.sl .u32 l2],.agg [.bool c1,.sl .u32 m1,.bool c2,.sl .u32 m2]] (.AF [(true,[.bool false,.sl .u32 [],.bool false,.sl .u32 []]),(false,[.int .i64 6])]):=by
 refine AE Tryz.func217 (by kernel_rfl) rfl fun E b=>?_
 conv=>cbv
 refine cL (r:= .one (.bool true)) b (MZ f.num (by rw[a];rfl)) ⟨t2,trivial⟩ ?_;try conv=>cbv
 exact fA ⟨⟨rfl,rfl,.inr (.inl ⟨_,congrArg _ (by simp_all)⟩),rfl,.inr (.inl ⟨_,congrArg _ (by simp_all)⟩),trivial⟩,t2,trivial⟩ rfl (by simp)
theorem NW (q:Rat):(q.num<0/\C0 q= -1)\/(q.num=0/\C0 q=0)\/(0<q.num/\C0 q=1):=Dq q.num
theorem IU (q:Rat):0<(q.den:Int):=by have:=q.den_pos;omega
theorem Si {p q:Rat} (h:C0 p<C0 q):p<q:=by
 rw[Rat.lt_iff];rcases NW p with⟨a,e⟩ |⟨a,e⟩ |⟨a,e⟩ <;> rcases NW q with⟨b,e'⟩ |⟨b,e'⟩ |⟨b,e'⟩ <;> rw[e,e'] at h <;> try omega
 ·rw[b,Int.zero_mul];exact Int.mul_neg_of_neg_of_pos a (IU q)
 ·exact Int.lt_trans (Int.mul_neg_of_neg_of_pos a (IU q)) (Int.mul_pos b (IU p))
 rw[a,Int.zero_mul];exact Int.mul_pos b (IU p)
theorem WO {p q:Rat} (h:p<q):EO p q= -1:=by unfold EO;rw[if_pos h]
theorem WN {p q:Rat} (h:q<p):EO p q=1:=by
 unfold EO;rw[if_neg (fun h'=>Int.lt_asymm ((Rat.lt_iff _ _).1 h) ((Rat.lt_iff _ _).1 h')),if_pos h]
theorem Pq (p q:Rat):EO p q=Ax (p.num*q.den) (q.num*p.den):=by
 unfold EO Ax;simp only[Rat.lt_iff]
theorem UJ {p q:Rat} {c:Int} (g:Ap p b1 l1 b2 l2) (h:Ap q c1 m1 c2 m2) (v:BK p) (ht:BK q) (w:c=EO p q):CF 198 [.agg [.bool b1,.sl .u32 l1,.bool b2,.sl .u32 l2],.agg [.bool c1,.sl .u32 m1,.bool c2,.sl .u32 m2]] (.one (.int .i64 c)):=by
 refine AE Tryz.func198 (by kernel_rfl) rfl fun E k=>?_
 conv=>cbv
 obtain⟨H,z⟩:=xI (C0 p);refine cL k (JH g z) ⟨t4,trivial⟩ ?_;try conv=>cbv
 obtain⟨F,m⟩:=xI (C0 q);refine cL k (JH h m) ⟨t4,trivial⟩ ?_;try conv=>cbv
 refine g2 rfl ?_;intro C i;conv=>cbv
 cases C <;> conv=>cbv
 ·have A:=DR i;obtain⟨o,t,b⟩:=AP (p.num*q.den);refine cL (r:= .agg [.bool o,.sl .u32 t]) k (DU g.num h.den b (by have:=g.small v;have:=h.small ht;omega) (by have:=g.small v;have:=h.small ht;omega)) ⟨t2,t2,trivial⟩ ?_;try conv=>cbv
  obtain⟨s,u,f⟩:=AP (q.num*p.den);refine cL (r:= .agg [.bool s,.sl .u32 u]) k (DU h.num g.den f (by have:=g.small v;have:=h.small ht;omega) (by have:=g.small v;have:=h.small ht;omega)) ⟨t2,t2,trivial⟩ ?_;try conv=>cbv
  obtain⟨G,a⟩:=xI (Ax (p.num*q.den) (q.num*p.den));refine cL k (N5 b f a) ⟨t2,t2,trivial⟩ ?_;try conv=>cbv
  refine g2 rfl ?_;exact fA ⟨⟨rfl,congrArg _ (by rw[w,a,Pq]),trivial⟩,trivial⟩ rfl (by simp)
 have A:=DS i;intro D j;conv=>cbv
 cases D <;> conv=>cbv
 ·have B:=AR j;exact fA ⟨⟨rfl,congrArg _ (by rw[w];exact WN (Si (by omega))),trivial⟩,trivial⟩ rfl (by simp)
 have B:=AS j;exact fA ⟨⟨rfl,congrArg _ (by rw[w];exact WO (Si (by omega))),trivial⟩,trivial⟩ rfl (by simp)
theorem HY {b:Bool} (h:AT x b l) (h':AT ((Ar x.toNat:Nat):Int) b' l'):l'.length<=l.length:=by
 rw[h.An,h'.An,Int.natAbs_natCast];exact Cp (Nat.le_trans (Nat.le_trans (Nat.le_mul_self _) (Ie x.toNat)) (by omega))
theorem Yt {e:Int} (h:e=if x<0 then 7 else 0) (a:e≠0):decide (((Ar x.toNat:Nat):Int)*((Ar x.toNat:Nat):Int)=x)=false:=by
 have f:x<0:=by
  apply Classical.byContradiction;intro b;rw[if_neg b] at h;exact a h
 rw[show x.toNat=0 by omega];simp only[decide_eq_false_iff_not];intro h';rw[show Ar 0=0 from rfl] at h';omega
theorem WS (a b:Int):decide (a=b)=(Ax a b==0):=by
 unfold Ax;rw[Bool.eq_iff_iff,decide_eq_true_eq,beq_iff_eq]
 split
 ·omega
 split <;> omega
theorem Kq (m:AT x b1 l1) (o:AT ((Ar x.toNat:Nat):Int) b2 l2) (t:c=decide (((Ar x.toNat:Nat):Int)*((Ar x.toNat:Nat):Int)=x)) (s1:l1.length<=4000000000000):CF 291 [.agg [.bool b1,.sl .u32 l1]] (.AF [(true,[.bool b2,.sl .u32 l2]),(false,[.bool c])]):=by
 refine AE Tryz.func291 (by kernel_rfl) rfl fun E q=>?_
 conv=>cbv
 obtain⟨w,z,a⟩:=AP ((Ar x.toNat:Nat):Int);obtain⟨A,h⟩:=xI (if x<0 then 7 else 0);refine cL q (UX m a h (by omega)) ⟨t2,trivial⟩ ?_;try conv=>cbv
 intro s g;conv=>cbv
 cases s <;> conv=>cbv
 ·have i:=Ab g;refine g2 rfl ?_;exact fA ⟨⟨rfl,congrArg _ ((a.uniq o rfl).1.symm),congrArg _ ((a.uniq o rfl).2.symm),trivial⟩,⟨rfl,congrArg _ (by rw[t];exact Yt h i),trivial⟩,trivial⟩ rfl (by simp)
 have i:=Ad g;obtain⟨j,k,f⟩:=AP (((Ar x.toNat:Nat):Int)*((Ar x.toNat:Nat):Int));refine cL (r:= .agg [.bool j,.sl .u32 k]) q (DU a a f (by have:=HY m a;omega) (by have:=HY m a;omega)) ⟨t2,t2,trivial⟩ ?_;try conv=>cbv
 obtain⟨v,b⟩:=xI (Ax (((Ar x.toNat:Nat):Int)*((Ar x.toNat:Nat):Int)) x);refine cL q (N5 f m b) ⟨t2,t2,trivial⟩ ?_;try conv=>cbv
 intro u p;conv=>cbv
 refine g2 rfl ?_;exact fA ⟨⟨rfl,congrArg _ ((a.uniq o rfl).1.symm),congrArg _ ((a.uniq o rfl).2.symm),trivial⟩,⟨rfl,congrArg _ (by rw[t,p,b];exact WS _ _),trivial⟩,trivial⟩ rfl (by simp)
theorem UP {q:Rat} (p:Ap q b1 l1 b2 l2) (C:BK q) (z:0<=r) (B:r*r=q) (s:Ap r c1 m1 c2 m2):CF 279 [.agg [.bool b1,.sl .u32 l1,.bool b2,.sl .u32 l2]] (.AF [(true,[.bool c1,.sl .u32 m1,.bool c2,.sl .u32 m2]),(false,[.bool true])]):=by
 refine AE Tryz.func279 (by kernel_rfl) rfl fun E A=>?_
 conv=>cbv
 obtain⟨j,m,a⟩:=AP (r.num);have u:=TA z B;refine cL (r:= .AF [(true,[.bool j,.sl .u32 m]),(false,[.bool true])]) A (Kq p.num (by rw[u.1];exact a) (by rw[u.1];exact (decide_eq_true u.2).symm) (by have:=p.small C;omega)) ⟨t2,trivial⟩ ?_;try conv=>cbv
 obtain⟨k,o,b⟩:=AP (r.den:Int);have t:=S9 z B;refine cL (r:= .AF [(true,[.bool k,.sl .u32 o]),(false,[.bool true])]) A (Kq p.den (by rw[t.1];exact b) (by rw[t.1];exact (decide_eq_true t.2).symm) (by have:=p.small C;omega)) ⟨t2,trivial⟩ ?_;try conv=>cbv
 intro v f;conv=>cbv
 cases v <;> conv=>cbv
 ·have h:=Cr f;intro w g;conv=>cbv
  cases w <;> conv=>cbv
  ·have i:=Cr g;exact fA ⟨⟨rfl,congrArg _ ((a.uniq s.num rfl).1.symm),congrArg _ ((a.uniq s.num rfl).2.symm),congrArg _ ((b.uniq s.den rfl).1.symm),congrArg _ ((b.uniq s.den rfl).2.symm),trivial⟩,t2,trivial⟩ rfl (by simp)
  have i:=Cs g;exact absurd i (by decide)
 have h:=Cs f;exact absurd h (by decide)
theorem UO {q:Rat} (t:Ap q b1 l1 b2 l2) (B:BK q) (C:¬∃r:Rat,0<=r/\r*r=q):CF 279 [.agg [.bool b1,.sl .u32 l1,.bool b2,.sl .u32 l2]] (.AF [(true,[.bool false,.sl .u32 [],.bool false,.sl .u32 []]),(false,[.bool false])]):=by
 refine AE Tryz.func279 (by kernel_rfl) rfl fun E A=>?_
 conv=>cbv
 obtain⟨m,p,h⟩:=AP (((Ar q.num.toNat:Nat):Int));obtain⟨u,a⟩:=xB (decide (((Ar q.num.toNat:Nat):Int)*((Ar q.num.toNat:Nat):Int)=q.num));refine cL (r:= .AF [(true,[.bool m,.sl .u32 p]),(false,[.bool u])]) A (Kq t.num h a (by have:=t.small B;omega)) ⟨t2,trivial⟩ ?_;try conv=>cbv
 obtain⟨o,s,i⟩:=AP (((Ar (q.den:Int).toNat:Nat):Int));obtain⟨v,b⟩:=xB (decide (((Ar (q.den:Int).toNat:Nat):Int)*((Ar (q.den:Int).toNat:Nat):Int)=(q.den:Int)));refine cL (r:= .AF [(true,[.bool o,.sl .u32 s]),(false,[.bool v])]) A (Kq t.den i b (by have:=t.small B;omega)) ⟨t2,trivial⟩ ?_;try conv=>cbv
 intro w f;conv=>cbv
 cases w <;> conv=>cbv
 ·have j:=Cr f;intro z g;conv=>cbv
  cases z <;> conv=>cbv
  ·have k:=Cr g;exact absurd (S8 (of_decide_eq_true (a.symm.trans j)) (of_decide_eq_true (b.symm.trans k))) C
  have k:=Cs g;exact fA ⟨⟨rfl,rfl,.inr (.inl ⟨_,rfl⟩),rfl,.inr (.inl ⟨_,rfl⟩),trivial⟩,t2,trivial⟩ rfl (by simp)
 have j:=Cs f;exact fA ⟨⟨rfl,rfl,.inr (.inl ⟨_,rfl⟩),rfl,.inr (.inl ⟨_,rfl⟩),trivial⟩,t2,trivial⟩ rfl (by simp)
theorem Tx {q:Rat} (p:AT n b1 l1) (s:AT d b2 l2) (o:d≠0) (t:q=Rat.divInt n d) (m:Ap q c1 m1 c2 m2) (s1:l1.length<=17592186042000) (s2:l2.length<=17592186042000):CF 181 [.agg [.bool b1,.sl .u32 l1],.agg [.bool b2,.sl .u32 l2]] (.AF [(true,[.bool c1,.sl .u32 m1,.bool c2,.sl .u32 m2]),(false,[.int .i64 0])]):=by
 refine AE Tryz.func181 (by kernel_rfl) rfl fun E k=>?_
 conv=>cbv
 obtain⟨u,w,f⟩:=AP (n);refine cL k (OI p (by omega) f) ⟨t2,trivial⟩ ?_;try conv=>cbv
 obtain⟨v,z,b⟩:=AP (d);refine cL k (OI s (by omega) b) ⟨t2,trivial⟩ ?_;try conv=>cbv
 refine g2 rfl ?_;refine cL (r:= .one (.bool false)) k (MZ b (by simp[o])) ⟨t2,trivial⟩ ?_;try conv=>cbv
 obtain⟨i,j,g,h,a⟩:=BD (q);refine cL (r:= .agg [.bool i,.sl .u32 j,.bool g,.sl .u32 h]) k (Hf f b o t a (by rw[(f.uniq p rfl).2];exact s1) (by rw[(b.uniq s rfl).2];exact s2)) ⟨t2,t2,trivial⟩ ?_;try conv=>cbv
 exact fA ⟨⟨rfl,congrArg _ ((a.uniq m rfl).1.1.symm),congrArg _ ((a.uniq m rfl).1.2.symm),congrArg _ ((a.uniq m rfl).2.1.symm),congrArg _ ((a.uniq m rfl).2.2.symm),trivial⟩,t2,trivial⟩ rfl (by simp)
theorem LC {b:Bool} (a: -9223372036854775808<=x/\x<9223372036854775808) (h:AT x b l):l.length<=2:=by
 rw[h.An];exact EC (by omega)
theorem N8 {q:Rat} (v: -9223372036854775808<=n/\n<9223372036854775808) (u: -9223372036854775808<=d/\d<9223372036854775808) (F:d≠0) (G:q=Rat.divInt n d) (s:Ap q c1 m1 c2 m2):CF 138 [.one (.int .i64 n),.one (.int .i64 d)] (.agg [.bool c1,.sl .u32 m1,.bool c2,.sl .u32 m2]):=by
 refine AE Tryz.func138 (by kernel_rfl) rfl fun E p=>?_
 conv=>cbv
 obtain⟨H,I,f⟩:=AP (n);refine cL p (JD v f) t1 ?_;try conv=>cbv
 obtain⟨A,C,b⟩:=AP (d);refine cL p (JD u b) t1 ?_;try conv=>cbv
 obtain⟨m,o,j,k,a⟩:=BD q;refine cL (r:= .AF [(true,[.bool m,.sl .u32 o,.bool j,.sl .u32 k]),(false,[.int .i64 0])]) p (Tx f b F G a (by have:=LC v f;omega) (by have:=LC u b;omega)) ⟨t2,t2,trivial⟩ ?_;try conv=>cbv
 intro t g;conv=>cbv
 cases t <;> conv=>cbv
 ·have i:=DR g;exact fA ⟨⟨rfl,congrArg _ ((a.uniq s rfl).1.1.symm),congrArg _ ((a.uniq s rfl).1.2.symm),congrArg _ ((a.uniq s rfl).2.1.symm),congrArg _ ((a.uniq s rfl).2.2.symm),trivial⟩,trivial⟩ rfl (by simp)
 have i:=DS g;obtain⟨B,D,w,z,h⟩:=BD (((0:Int):Rat));refine cL p (EZ (by omega) rfl h) t1 ?_;try conv=>cbv
 exact absurd i (by decide)
theorem aJ (f:AT y b2 l2) (h:BR y<=0):FT b1 l1 b2 l2=false:=by
 apply Bool.eq_false_iff.2;intro h';obtain⟨q,b⟩:=Nt.1 h';have e:y=(q.den:Int):=by rw[f.DZ,b.den.DZ]
 have:=IU q;rcases Dq y with⟨a,e'⟩ |⟨a,e'⟩ |⟨a,e'⟩ <;> omega
theorem aI (f:true=E6 b1 l1) (g:true=E6 b2 l2) (k:AT x b1 l1) (b:AT y b2 l2) (h:0<BR y) (i:c=decide (((Nat.gcd x.natAbs y.natAbs:Nat):Int)=1)):FT b1 l1 b2 l2=c:=by
 have m:0<y:=by rcases Dq y with⟨a,e'⟩ |⟨a,e'⟩ |⟨a,e'⟩ <;> omega
 have hb:b2=false:=by rw[b.neg];exact decide_eq_false (by omega)
 have j:l2≠[]:=fun e=>by have:=b.nil.1 e;omega
 unfold FT;rw[<-f,<-g,hb,decide_eq_true j,i,k.nat,b.nat];simp only[Bool.true_and,Bool.not_false];rw[Bool.eq_iff_iff,decide_eq_true_eq,decide_eq_true_eq];omega
theorem OK (k:c=FT b1 l1 b2 l2) (s1:l1.length<=17592186042000) (s2:l2.length<=17592186042000):CF 253 [.agg [.bool b1,.sl .u32 l1,.bool b2,.sl .u32 l2]] (.one (.bool c)):=by
 refine AE Tryz.func253 (by kernel_rfl) rfl fun E i=>?_
 conv=>cbv
 obtain⟨v,a⟩:=xB (E6 b1 l1);refine cL i (OR a) ⟨t2,trivial⟩ ?_;try conv=>cbv
 cases v <;> conv=>cbv
 ·exact fA ⟨⟨rfl,congrArg _ (by rw[k];unfold FT;rw[<-a];rfl),trivial⟩,trivial⟩ rfl (by simp)
 obtain⟨w,b⟩:=xB (E6 b2 l2);refine cL i (OR b) ⟨t2,trivial⟩ ?_;try conv=>cbv
 cases w <;> conv=>cbv
 ·exact fA ⟨⟨rfl,congrArg _ (by rw[k];unfold FT;rw[<-b];exact Bool.and_false _),trivial⟩,trivial⟩ rfl (by simp)
 obtain⟨x,q⟩:=H2.1 a.symm;obtain⟨y,m⟩:=H2.1 b.symm;obtain⟨z,j⟩:=xI (BR y);refine cL i (H6 m j) ⟨t2,trivial⟩ ?_;try conv=>cbv
 intro p h;conv=>cbv
 cases p <;> conv=>cbv
 ·have o:=Bc h;exact fA ⟨⟨rfl,congrArg _ (by rw[k];exact aJ m (by omega)),trivial⟩,trivial⟩ rfl (by simp)
 have o:=Be h;obtain⟨s,t,g⟩:=AP (((Nat.gcd x.natAbs y.natAbs:Nat):Int));refine cL i (N9 q m g (by omega) (by omega)) ⟨t2,t2,trivial⟩ ?_;try conv=>cbv
 obtain⟨u,f⟩:=xB (decide (((Nat.gcd x.natAbs y.natAbs:Nat):Int)=1));refine cL i (HX g f) ⟨t2,trivial⟩ ?_;try conv=>cbv
 exact fA ⟨⟨rfl,congrArg _ (by rw[k];exact aI a b q m (by omega) f),trivial⟩,trivial⟩ rfl (by simp)
end Go.Abs
