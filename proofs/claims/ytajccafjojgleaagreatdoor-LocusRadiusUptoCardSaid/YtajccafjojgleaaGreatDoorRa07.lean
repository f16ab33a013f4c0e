/- Part 8 of a proof. Conditions: each theorem's own. -/
import Derived.Test.YtajccafjojgleaaGreatDoorRa06
set_option linter.all false
set_option maxHeartbeats 80000000
set_option maxRecDepth 20000
open Go.Proofs
namespace Go.Abs
open Go.RowKit
section
variable {b' b1 b2 c c1 c2 d1 d2:Bool} {d n x y:Int} {k1 k2 l l' l1 l2 m1 m2:List UInt32} {r:Rat}
theorem ZR {b:Bool} (j:BB x b l) (h:c=decide (x=0)):CF 269 [.agg (BZ b l)] (.one (.bool c)):=by
 refine AM Tryz.func269 fun E m=>?_
 rintro v ⟨k,f5⟩ w f;exact AL (by rw[h,f,Bool.eq_iff_iff];simp only[decide_eq_true_eq,beq_iff_eq];rw[<-j.F1];omega)
theorem Lv {b:Bool} (m:BB x b l) (k:c=decide (x=1)):CF 286 [.agg (BZ b l)] (.one (.bool c)):=by
 refine AM Tryz.func286 fun E J=>?_
 refine RP (fun w=>?_) fun w=>?_
 ·exact AL (by rw[k];exact (UX m w).symm)
 intro K z;have I:=z.eq;have f9:=z.le;refine CN (fun v=>?_) fun v=>?_
 ·exact AL (by rw[k];exact (aX m AA).symm)
 refine Ae 0 fun H h=>?_
 refine AW ?_;intro F f G j;have D:=f.eq;have f16:=f.lt;exact AL (by rw[k,j,<-UZ m w AA h,Bool.eq_iff_iff];simp only[decide_eq_true_eq,beq_iff_eq];omega)
theorem UY {b:Bool} (h:BB 1 b l):CF 186 [] (.agg (BZ b l)):=by
 refine AM Tryz.func186 fun E j=>?_
 obtain⟨k,m,f⟩:=Av (1);refine AB j (OY AA f) ?_;exact Dk ((f.uniq h rfl).1.symm) ((f.uniq h rfl).2.symm)
theorem Qp {b3:Bool} {l3:List UInt32} (m:BB x b1 l1) (z:BB y b2 l2) (v:y≠0) (k:BB (Cp x y) b3 l3) (s1:l1.length<=17592186042000) (s2:l2.length<=17592186042000):CF 301 [.agg (BZ b1 l1),.agg (BZ b2 l2)] (.agg (BZ b3 l3)):=by
 refine AM Tryz.func301 fun E w=>?_
 obtain⟨I,h⟩:=xB (decide (y=1));refine AB w (Lv z h) ?_;cases I <;> conv=>cbv
 ·obtain⟨G,H,f⟩:=Av (Cp x y);obtain⟨D,F,j⟩:=Av (Hj x y);refine AB w (ff m z v f j AA AA) ?_;exact Dk ((f.uniq k rfl).1.symm) ((f.uniq k rfl).2.symm)
 exact Dk ((k.uniq m (by rw[of_decide_eq_true h.symm];exact YN x)).1) ((k.uniq m (by rw[of_decide_eq_true h.symm];exact YN x)).2)
theorem Ng {b:Bool} (f:d≠0) (h:BB d b l) (h':BB ((Nat.gcd n.natAbs d.natAbs:Nat):Int) b' l'):l'.length<=l.length:=by
 rw[h.Bb,h'.Bb,Int.natAbs_natCast];exact EV (Nat.le_of_dvd AA (Nat.gcd_dvd_right _ _))
theorem Ps {b:Bool} (f:d≠0) (h:BB d b l) (h':BB (-((Nat.gcd n.natAbs d.natAbs:Nat):Int)) b' l'):l'.length<=l.length:=by
 rw[h.Bb,h'.Bb,Int.natAbs_neg,Int.natAbs_natCast];exact EV (Nat.le_of_dvd AA (Nat.gcd_dvd_right _ _))
theorem Pt (f:d≠0):((Nat.gcd n.natAbs d.natAbs:Nat):Int)≠0:=by
 have:=Nat.gcd_pos_of_pos_right n.natAbs (n:=d.natAbs) AA;omega
theorem TU {b:Bool} (h:BB d b l) (e:b=true):d<0:=by
 have:=h.neg;rw[e] at this;simpa using this.symm
theorem TS {b:Bool} (h:BB d b l) (e:b=false):¬d<0:=by
 have:=h.neg;rw[e] at this;simpa using this.symm
theorem L4 {q:Rat} (P:BB n b1 l1) (m:BB d b2 l2) (v:d≠0) (O:q=Rat.divInt n d) (H:BV q c1 m1 c2 m2) (s1:l1.length<=17592186042000) (s2:l2.length<=17592186042000):CF 270 [.agg (BZ b1 l1),.agg (BZ b2 l2)] (.agg (Br c1 m1 c2 m2)):=by
 refine AM Tryz.func270 fun E K=>?_
 obtain⟨Q,S,k⟩:=Av (((Nat.gcd n.natAbs d.natAbs:Nat):Int));refine AB K (V5 P m k AA AA) ?_;refine .inr ?_;cases b2 <;> conv=>cbv
 ·obtain⟨z,F,f⟩:=Av (Cp n (if d<0 then -((Nat.gcd n.natAbs d.natAbs:Nat):Int) else ((Nat.gcd n.natAbs d.natAbs:Nat):Int)));have N:BB (if d<0 then -((Nat.gcd n.natAbs d.natAbs:Nat):Int) else ((Nat.gcd n.natAbs d.natAbs:Nat):Int)) Q S:=by rw[if_neg (TS m rfl)];exact k
  have w:(if d<0 then -((Nat.gcd n.natAbs d.natAbs:Nat):Int) else ((Nat.gcd n.natAbs d.natAbs:Nat):Int))≠0:=by rw[if_neg (TS m rfl)];have:=Pt (n:=n) v;omega
  have M:Cp n (if d<0 then -((Nat.gcd n.natAbs d.natAbs:Nat):Int) else ((Nat.gcd n.natAbs d.natAbs:Nat):Int))=q.num:=by rw[O];exact (QH v).symm
  have L:Cp d (if d<0 then -((Nat.gcd n.natAbs d.natAbs:Nat):Int) else ((Nat.gcd n.natAbs d.natAbs:Nat):Int))=(q.den:Int):=by rw[O];exact (QG v).symm
  refine AB (r:= .agg [.bool z,.sl .u32 F]) K (Qp P N w f AA (by have:=Ng v m k;omega)) ?_;obtain⟨D,G,h⟩:=Av (Cp d (if d<0 then -((Nat.gcd n.natAbs d.natAbs:Nat):Int) else ((Nat.gcd n.natAbs d.natAbs:Nat):Int)));refine AB (r:= .agg [.bool D,.sl .u32 G]) K (Qp m N w h AA (by have:=Ng v m k;omega)) ?_;exact AN ⟨⟨rfl,congrArg _ ((f.uniq H.num M).1.symm),congrArg _ ((f.uniq H.num M).2.symm),congrArg _ ((h.uniq H.den L).1.symm),congrArg _ ((h.uniq H.den L).2.symm),trivial⟩,trivial⟩
 obtain⟨I,J,j⟩:=Av (-((Nat.gcd n.natAbs d.natAbs:Nat):Int));refine AB (r:= .agg [.bool I,.sl .u32 J]) K (WC k (by have:=Ng v m k;omega) j) ?_;obtain⟨z,F,f⟩:=Av (Cp n (if d<0 then -((Nat.gcd n.natAbs d.natAbs:Nat):Int) else ((Nat.gcd n.natAbs d.natAbs:Nat):Int)));have N:BB (if d<0 then -((Nat.gcd n.natAbs d.natAbs:Nat):Int) else ((Nat.gcd n.natAbs d.natAbs:Nat):Int)) I J:=by rw[if_pos (TU m rfl)];exact j
 have w:(if d<0 then -((Nat.gcd n.natAbs d.natAbs:Nat):Int) else ((Nat.gcd n.natAbs d.natAbs:Nat):Int))≠0:=by rw[if_pos (TU m rfl)];have:=Pt (n:=n) v;omega
 have M:Cp n (if d<0 then -((Nat.gcd n.natAbs d.natAbs:Nat):Int) else ((Nat.gcd n.natAbs d.natAbs:Nat):Int))=q.num:=by rw[O];exact (QH v).symm
 have L:Cp d (if d<0 then -((Nat.gcd n.natAbs d.natAbs:Nat):Int) else ((Nat.gcd n.natAbs d.natAbs:Nat):Int))=(q.den:Int):=by rw[O];exact (QG v).symm
 refine AB (r:= .agg [.bool z,.sl .u32 F]) K (Qp P N w f AA (by have:=Ps v m j;omega)) ?_;obtain⟨D,G,h⟩:=Av (Cp d (if d<0 then -((Nat.gcd n.natAbs d.natAbs:Nat):Int) else ((Nat.gcd n.natAbs d.natAbs:Nat):Int)));refine AB (r:= .agg [.bool D,.sl .u32 G]) K (Qp m N w h AA (by have:=Ps v m j;omega)) ?_;exact AN ⟨⟨rfl,congrArg _ ((f.uniq H.num M).1.symm),congrArg _ ((f.uniq H.num M).2.symm),congrArg _ ((h.uniq H.den L).1.symm),congrArg _ ((h.uniq H.den L).2.symm),trivial⟩,trivial⟩
theorem Hw {q:Rat} (v: -9223372036854775808<=x/\x<9223372036854775808) (j:q=(x:Rat)) (k:BV q c1 m1 c2 m2):CF 131 [AH x] (.agg (Br c1 m1 c2 m2)):=by
 refine AM Tryz.func131 fun E m=>?_
 obtain⟨w,D,f⟩:=Av (x);refine AB m (OY v f) ?_;obtain⟨z,F,h⟩:=Av (1);refine AB m (UY h) ?_;exact AN ⟨⟨rfl,congrArg _ ((f.uniq k.num (by rw[j];rfl)).1.symm),congrArg _ ((f.uniq k.num (by rw[j];rfl)).2.symm),congrArg _ ((h.uniq k.den (by rw[j];rfl)).1.symm),congrArg _ ((h.uniq k.den (by rw[j];rfl)).2.symm),trivial⟩,trivial⟩
theorem Od {q:Rat} {c:Int} (k:BV q b1 l1 b2 l2) (j:c=Dm q):CF 191 [.agg (Br b1 l1 b2 l2)] (AH c):=by
 refine AM Tryz.func191 fun E h=>?_
 obtain⟨m,f⟩:=xI (Cd q.num);refine AB h (Mx k.num f) ?_;exact AL (by rw[j,f];rfl)
theorem gI {q p:Rat} (j:BV q b1 l1 b2 l2) (z:B8 q) (h:p= -q) (k:BV p c1 m1 c2 m2):CF 195 [.agg (Br b1 l1 b2 l2)] (.agg (Br c1 m1 c2 m2)):=by
 refine AM Tryz.func195 fun E w=>?_
 obtain⟨m,v,f⟩:=Av (-q.num);refine AB (r:= .agg [.bool m,.sl .u32 v]) w (WC j.num (by have:=j.small z;omega) f) ?_;exact AN ⟨⟨rfl,congrArg _ ((f.uniq k.num (by rw[h];rfl)).1.symm),congrArg _ ((f.uniq k.num (by rw[h];rfl)).2.symm),congrArg _ ((j.den.uniq k.den (by rw[h];rfl)).1.symm),congrArg _ ((j.den.uniq k.den (by rw[h];rfl)).2.symm),trivial⟩,trivial⟩
theorem gE {p q:Rat} (f:BV p b1 l1 b2 l2) (h:BV q c1 m1 c2 m2) (D:B8 p) (ht:B8 q) (hr:r=p+q) (H:BV r d1 k1 d2 k2):CF 250 [.agg (Br b1 l1 b2 l2),.agg (Br c1 m1 c2 m2)] (.agg (Br d1 k1 d2 k2)):=by
 refine AM Tryz.func250 fun E G=>?_
 obtain⟨b8,I⟩:=xB (decide ((p.den:Int)=1));refine AB G (Lv f.den I) ?_;cases b8 <;> conv=>cbv
 ·obtain⟨N,U,j⟩:=Av (p.num*q.den);refine AB (r:= .agg [.bool N,.sl .u32 U]) G (Fu f.num h.den j (by have:=f.small D;have:=h.small ht;omega) (by have:=f.small D;have:=h.small ht;omega)) ?_;obtain⟨O,V,m⟩:=Av (q.num*p.den);refine AB (r:= .agg [.bool O,.sl .u32 V]) G (Fu h.num f.den m (by have:=f.small D;have:=h.small ht;omega) (by have:=f.small D;have:=h.small ht;omega)) ?_;obtain⟨P,W,w⟩:=Av (p.num*q.den+q.num*p.den);refine AB (r:= .agg [.bool P,.sl .u32 W]) G (RX j m w (by have:=f.small D;have:=h.small ht;have:=f.num.Dq h.den j rfl;omega) (by have:=f.small D;have:=h.small ht;have:=h.num.Dq f.den m rfl;omega)) ?_;obtain⟨Q,a1,z⟩:=Av ((p.den:Int)*q.den);refine AB (r:= .agg [.bool Q,.sl .u32 a1]) G (Fu f.den h.den z (by have:=f.small D;have:=h.small ht;omega) (by have:=f.small D;have:=h.small ht;omega)) ?_
  obtain⟨S,a2,L,M,v⟩:=By (r);refine AB (r:= .agg [.bool S,.sl .u32 a2,.bool L,.sl .u32 M]) G (L4 w z (Int.mul_ne_zero (Hf p) (Hf q)) (hr.trans (R7 p q)) v (by have:=f.small D;have:=h.small ht;have:=f.num.Dq h.den j rfl;have:=h.num.Dq f.den m rfl;have:=j.Oy m w rfl (k:=8000000000000) AA AA;omega) (by have:=f.small D;have:=h.small ht;have:=f.den.Dq h.den z rfl;omega)) ?_;exact AN ⟨⟨rfl,congrArg _ ((v.uniq H rfl).1.1.symm),congrArg _ ((v.uniq H rfl).1.2.symm),congrArg _ ((v.uniq H rfl).2.1.symm),congrArg _ ((v.uniq H rfl).2.2.symm),trivial⟩,trivial⟩
 obtain⟨a7,F⟩:=xB (decide ((q.den:Int)=1));refine AB G (Lv h.den F) ?_;cases a7 <;> conv=>cbv
 ·obtain⟨N,U,j⟩:=Av (p.num*q.den);refine AB (r:= .agg [.bool N,.sl .u32 U]) G (Fu f.num h.den j (by have:=f.small D;have:=h.small ht;omega) (by have:=f.small D;have:=h.small ht;omega)) ?_;obtain⟨O,V,m⟩:=Av (q.num*p.den);refine AB (r:= .agg [.bool O,.sl .u32 V]) G (Fu h.num f.den m (by have:=f.small D;have:=h.small ht;omega) (by have:=f.small D;have:=h.small ht;omega)) ?_;obtain⟨P,W,w⟩:=Av (p.num*q.den+q.num*p.den);refine AB (r:= .agg [.bool P,.sl .u32 W]) G (RX j m w (by have:=f.small D;have:=h.small ht;have:=f.num.Dq h.den j rfl;omega) (by have:=f.small D;have:=h.small ht;have:=h.num.Dq f.den m rfl;omega)) ?_;obtain⟨Q,a1,z⟩:=Av ((p.den:Int)*q.den);refine AB (r:= .agg [.bool Q,.sl .u32 a1]) G (Fu f.den h.den z (by have:=f.small D;have:=h.small ht;omega) (by have:=f.small D;have:=h.small ht;omega)) ?_
  obtain⟨S,a2,L,M,v⟩:=By (r);refine AB (r:= .agg [.bool S,.sl .u32 a2,.bool L,.sl .u32 M]) G (L4 w z (Int.mul_ne_zero (Hf p) (Hf q)) (hr.trans (R7 p q)) v (by have:=f.small D;have:=h.small ht;have:=f.num.Dq h.den j rfl;have:=h.num.Dq f.den m rfl;have:=j.Oy m w rfl (k:=8000000000000) AA AA;omega) (by have:=f.small D;have:=h.small ht;have:=f.den.Dq h.den z rfl;omega)) ?_;exact AN ⟨⟨rfl,congrArg _ ((v.uniq H rfl).1.1.symm),congrArg _ ((v.uniq H rfl).1.2.symm),congrArg _ ((v.uniq H rfl).2.1.symm),congrArg _ ((v.uniq H rfl).2.2.symm),trivial⟩,trivial⟩
 obtain⟨a5,a6,J⟩:=Av (p.num+q.num);refine AB (r:= .agg [.bool a5,.sl .u32 a6]) G (RX f.num h.num J (by have:=f.small D;have:=h.small ht;omega) (by have:=f.small D;have:=h.small ht;omega)) ?_;obtain⟨a8,aa,K⟩:=Av (1);refine AB G (UY K) ?_;exact AN ⟨⟨rfl,congrArg _ ((J.uniq H.num (by rw[hr];exact (JL (of_decide_eq_true I.symm) (of_decide_eq_true F.symm)).1.symm)).1.symm),congrArg _ ((J.uniq H.num (by rw[hr];exact (JL (of_decide_eq_true I.symm) (of_decide_eq_true F.symm)).1.symm)).2.symm),congrArg _ ((K.uniq H.den (by rw[hr,(JL (of_decide_eq_true I.symm) (of_decide_eq_true F.symm)).2];rfl)).1.symm),congrArg _ ((K.uniq H.den (by rw[hr,(JL (of_decide_eq_true I.symm) (of_decide_eq_true F.symm)).2];rfl)).2.symm),trivial⟩,trivial⟩
theorem gH {p q:Rat} (h:BV p b1 l1 b2 l2) (j:BV q c1 m1 c2 m2) (w:B8 p) (ht:B8 q) (Q:r=p*q) (z:BV r d1 k1 d2 k2):CF 289 [.agg (Br b1 l1 b2 l2),.agg (Br c1 m1 c2 m2)] (.agg (Br d1 k1 d2 k2)):=by
 refine AM Tryz.func289 fun E P=>?_
 obtain⟨b7,D⟩:=xB (decide ((p.den:Int)=1));refine AB P (Lv h.den D) ?_;cases b7 <;> conv=>cbv
 ·obtain⟨J,M,k⟩:=Av (p.num*q.num);refine AB (r:= .agg [.bool J,.sl .u32 M]) P (Fu h.num j.num k (by have:=h.small w;have:=j.small ht;omega) (by have:=h.small w;have:=j.small ht;omega)) ?_;obtain⟨K,N,m⟩:=Av ((p.den:Int)*q.den);refine AB (r:= .agg [.bool K,.sl .u32 N]) P (Fu h.den j.den m (by have:=h.small w;have:=j.small ht;omega) (by have:=h.small w;have:=j.small ht;omega)) ?_;obtain⟨L,O,H,I,f⟩:=By (r);refine AB (r:= .agg [.bool L,.sl .u32 O,.bool H,.sl .u32 I]) P (L4 k m (Int.mul_ne_zero (Hf p) (Hf q)) (Q.trans (QO p q)) f (by have:=h.small w;have:=j.small ht;have:=h.num.Dq j.num k rfl;omega) (by have:=h.small w;have:=j.small ht;have:=h.den.Dq j.den m rfl;omega)) ?_;exact AN ⟨⟨rfl,congrArg _ ((f.uniq z rfl).1.1.symm),congrArg _ ((f.uniq z rfl).1.2.symm),congrArg _ ((f.uniq z rfl).2.1.symm),congrArg _ ((f.uniq z rfl).2.2.symm),trivial⟩,trivial⟩
 obtain⟨V,v⟩:=xB (decide ((q.den:Int)=1));refine AB P (Lv j.den v) ?_;cases V <;> conv=>cbv
 ·obtain⟨J,M,k⟩:=Av (p.num*q.num);refine AB (r:= .agg [.bool J,.sl .u32 M]) P (Fu h.num j.num k (by have:=h.small w;have:=j.small ht;omega) (by have:=h.small w;have:=j.small ht;omega)) ?_;obtain⟨K,N,m⟩:=Av ((p.den:Int)*q.den);refine AB (r:= .agg [.bool K,.sl .u32 N]) P (Fu h.den j.den m (by have:=h.small w;have:=j.small ht;omega) (by have:=h.small w;have:=j.small ht;omega)) ?_;obtain⟨L,O,H,I,f⟩:=By (r);refine AB (r:= .agg [.bool L,.sl .u32 O,.bool H,.sl .u32 I]) P (L4 k m (Int.mul_ne_zero (Hf p) (Hf q)) (Q.trans (QO p q)) f (by have:=h.small w;have:=j.small ht;have:=h.num.Dq j.num k rfl;omega) (by have:=h.small w;have:=j.small ht;have:=h.den.Dq j.den m rfl;omega)) ?_;exact AN ⟨⟨rfl,congrArg _ ((f.uniq z rfl).1.1.symm),congrArg _ ((f.uniq z rfl).1.2.symm),congrArg _ ((f.uniq z rfl).2.1.symm),congrArg _ ((f.uniq z rfl).2.2.symm),trivial⟩,trivial⟩
 obtain⟨S,U,F⟩:=Av (p.num*q.num);refine AB (r:= .agg [.bool S,.sl .u32 U]) P (Fu h.num j.num F (by have:=h.small w;have:=j.small ht;omega) (by have:=h.small w;have:=j.small ht;omega)) ?_;obtain⟨W,a1,G⟩:=Av (1);refine AB P (UY G) ?_;exact AN ⟨⟨rfl,congrArg _ ((F.uniq z.num (by rw[Q];exact (mul_ones (of_decide_eq_true D.symm) (of_decide_eq_true v.symm)).1.symm)).1.symm),congrArg _ ((F.uniq z.num (by rw[Q];exact (mul_ones (of_decide_eq_true D.symm) (of_decide_eq_true v.symm)).1.symm)).2.symm),congrArg _ ((G.uniq z.den (by rw[Q,(mul_ones (of_decide_eq_true D.symm) (of_decide_eq_true v.symm)).2];rfl)).1.symm),congrArg _ ((G.uniq z.den (by rw[Q,(mul_ones (of_decide_eq_true D.symm) (of_decide_eq_true v.symm)).2];rfl)).2.symm),trivial⟩,trivial⟩
theorem gG {p q:Rat} (m:BV p b1 l1 b2 l2) (h:BV q c1 m1 c2 m2) (v:B8 p) (ht:B8 q) (z:q≠0) (P:r=p/q) (N:BV r d1 k1 d2 k2):CF 308 [.agg (Br b1 l1 b2 l2),.agg (Br c1 m1 c2 m2)] (BY (Br d1 k1 d2 k2) 0):=by
 refine AM Tryz.func308 fun E M=>?_
 obtain⟨O,w⟩:=xB (decide (q.num=0));refine AB M (ZR h.num w) ?_;cases O <;> conv=>cbv
 ·obtain⟨G,J,j⟩:=Av (p.num*q.den);refine AB (r:= .agg [.bool G,.sl .u32 J]) M (Fu m.num h.den j (by have:=m.small v;have:=h.small ht;omega) (by have:=m.small v;have:=h.small ht;omega)) ?_;obtain⟨H,K,k⟩:=Av ((p.den:Int)*q.num);refine AB (r:= .agg [.bool H,.sl .u32 K]) M (Fu m.den h.num k (by have:=m.small v;have:=h.small ht;omega) (by have:=m.small v;have:=h.small ht;omega)) ?_;obtain⟨I,L,D,F,f⟩:=By (r);refine AB (r:= .agg [.bool I,.sl .u32 L,.bool D,.sl .u32 F]) M (L4 j k (Int.mul_ne_zero (Hf p) (mt Rat.num_eq_zero.1 z)) (P.trans (ki p q)) f (by have:=m.small v;have:=h.small ht;have:=m.num.Dq h.den j rfl;omega) (by have:=m.small v;have:=h.small ht;have:=m.den.Dq h.num k rfl;omega)) ?_;exact AN ⟨⟨rfl,congrArg _ ((f.uniq N rfl).1.1.symm),congrArg _ ((f.uniq N rfl).1.2.symm),congrArg _ ((f.uniq N rfl).2.1.symm),congrArg _ ((f.uniq N rfl).2.2.symm),trivial⟩,t2,trivial⟩
 exact absurd (Rat.num_eq_zero.1 (of_decide_eq_true w.symm)) z
theorem VA (q:Rat):(q.num<0/\Dm q= -1)\/(q.num=0/\Dm q=0)\/(0<q.num/\Dm q=1):=GL q.num
theorem NU (q:Rat):0<(q.den:Int):=by have:=q.den_pos;omega
theorem dJ {p q:Rat} (h:Dm p<Dm q):p<q:=by
 rw[Rat.lt_iff];rcases VA p with⟨a,e⟩ |⟨a,e⟩ |⟨a,e⟩ <;> rcases VA q with⟨f,j⟩ |⟨f,j⟩ |⟨f,j⟩ <;> rw[e,j] at h <;> try omega
 ·rw[f,Int.zero_mul];exact Int.mul_neg_of_neg_of_pos a (NU q)
 ·exact Int.lt_trans (Int.mul_neg_of_neg_of_pos a (NU q)) (Int.mul_pos f (NU p))
 rw[a,Int.zero_mul];exact Int.mul_pos f (NU p)
theorem j6 {p q:Rat} (h:p<q):HC p q= -1:=by unfold HC;rw[if_pos h]
theorem j5 {p q:Rat} (h:q<p):HC p q=1:=by
 unfold HC;rw[if_neg (fun h'=>Int.lt_asymm ((Rat.lt_iff _ _).1 h) ((Rat.lt_iff _ _).1 h')),if_pos h]
theorem X4 (p q:Rat):HC p q=Bp (p.num*q.den) (q.num*p.den):=by
 unfold HC Bp;simp only[Rat.lt_iff]
theorem gF {p q:Rat} {c:Int} (k:BV p b1 l1 b2 l2) (m:BV q c1 m1 c2 m2) (H:B8 p) (ht:B8 q) (I:c=HC p q):CF 283 [.agg (Br b1 l1 b2 l2),.agg (Br c1 m1 c2 m2)] (AH c):=by
 refine AM Tryz.func283 fun E v=>?_
 obtain⟨O,J⟩:=xI (Dm p);refine AB v (Od k J) ?_;obtain⟨M,w⟩:=xI (Dm q);refine AB v (Od m w) ?_;refine Gn (fun K=>?_) fun K=>?_
 ·refine BQ (fun L=>?_) fun L=>?_
  ·exact AL (by rw[I];exact j5 (dJ AA))
  exact AL (by rw[I];exact j6 (dJ AA))
 obtain⟨z,F,h⟩:=Av (p.num*q.den);refine AB (r:= .agg [.bool z,.sl .u32 F]) v (Fu k.num m.den h (by have:=k.small H;have:=m.small ht;omega) (by have:=k.small H;have:=m.small ht;omega)) ?_;obtain⟨D,G,j⟩:=Av (q.num*p.den);refine AB (r:= .agg [.bool D,.sl .u32 G]) v (Fu m.num k.den j (by have:=k.small H;have:=m.small ht;omega) (by have:=k.small H;have:=m.small ht;omega)) ?_;obtain⟨N,f⟩:=xI (Bp (p.num*q.den) (q.num*p.den));refine AB v (Vw h j f) ?_;exact AL (by rw[I,f,X4])
theorem Lw {b:Bool} (h:BB x b l) (h':BB ((Bk x.toNat:Nat):Int) b' l'):l'.length<=l.length:=by
 rw[h.Bb,h'.Bb,Int.natAbs_natCast];exact EV (Nat.le_trans (Nat.le_trans (Nat.le_mul_self _) (Nj x.toNat)) AA)
theorem pf {e:Int} (h:e=if x<0 then 7 else 0) (f:e≠0):decide (((Bk x.toNat:Nat):Int)*((Bk x.toNat:Nat):Int)=x)=false:=by
 have k:x<0:=by
  apply Classical.byContradiction;intro j;rw[if_neg j] at h;exact f h
 rw[(AA:x.toNat=0)];simp only[decide_eq_false_iff_not];intro h';rw[show Bk 0=0 from rfl] at h';omega
theorem j9 (a b:Int):decide (a=b)=(Bp a b==0):=by
 unfold Bp;rw[Bool.eq_iff_iff,decide_eq_true_eq,beq_iff_eq]
 split
 ·omega
 split <;> omega
theorem Qs (z:BB x b1 l1) (D:BB ((Bk x.toNat:Nat):Int) b2 l2) (H:c=decide (((Bk x.toNat:Nat):Int)*((Bk x.toNat:Nat):Int)=x)) (s1:l1.length<=4000000000000):CF 303 [.agg (BZ b1 l1)] (.Aj [(true,(BZ b2 l2)),(false,[.bool c])]):=by
 refine AM Tryz.func303 fun E G=>?_
 obtain⟨K,L,f⟩:=Av ((Bk x.toNat:Nat):Int);obtain⟨M,k⟩:=xI (if x<0 then 7 else 0);refine AB G (gS z f k AA) ?_;refine CN (fun m=>?_) fun m=>?_
 ·exact AN ⟨⟨rfl,congrArg _ ((f.uniq D rfl).1.symm),congrArg _ ((f.uniq D rfl).2.symm),trivial⟩,⟨rfl,congrArg _ (by rw[H];exact pf k m),trivial⟩,trivial⟩
 obtain⟨v,w,j⟩:=Av (((Bk x.toNat:Nat):Int)*((Bk x.toNat:Nat):Int));refine AB (r:= .agg [.bool v,.sl .u32 w]) G (Fu f f j (by have:=Lw z f;omega) (by have:=Lw z f;omega)) ?_;obtain⟨J,h⟩:=xI (Bp (((Bk x.toNat:Nat):Int)*((Bk x.toNat:Nat):Int)) x);refine AB G (Vw j z h) ?_;intro I F;exact AN ⟨⟨rfl,congrArg _ ((f.uniq D rfl).1.symm),congrArg _ ((f.uniq D rfl).2.symm),trivial⟩,⟨rfl,congrArg _ (by rw[H,F,h];exact j9 _ _),trivial⟩,trivial⟩
theorem gK {q:Rat} (D:BV q b1 l1 b2 l2) (L:B8 q) (I:0<=r) (K:r*r=q) (F:BV r c1 m1 c2 m2):CF 275 [.agg (Br b1 l1 b2 l2)] (.Aj [(true,(Br c1 m1 c2 m2)),(false,[.bool true])]):=by
 refine AM Tryz.func275 fun E J=>?_
 obtain⟨m,w,f⟩:=Av (r.num);have H:=dw I K;refine AB (r:= .Aj [(true,[.bool m,.sl .u32 w]),(false,[.bool true])]) J (Qs D.num (by rw[H.1];exact f) (by rw[H.1];exact (decide_eq_true H.2).symm) (by have:=D.small L;omega)) ?_;obtain⟨v,z,h⟩:=Av (r.den:Int);have G:=dv I K;refine AB (r:= .Aj [(true,[.bool v,.sl .u32 z]),(false,[.bool true])]) J (Qs D.den (by rw[G.1];exact h) (by rw[G.1];exact (decide_eq_true G.2).symm) (by have:=D.small L;omega)) ?_;refine G5 (fun j=>?_) fun j=>?_
 ·exact absurd j AE
 refine RP (fun k=>?_) fun k=>?_
 ·exact AN ⟨⟨rfl,congrArg _ ((f.uniq F.num rfl).1.symm),congrArg _ ((f.uniq F.num rfl).2.symm),congrArg _ ((h.uniq F.den rfl).1.symm),congrArg _ ((h.uniq F.den rfl).2.symm),trivial⟩,t2,trivial⟩
 exact absurd k AE
theorem gJ {q:Rat} (G:BV q b1 l1 b2 l2) (K:B8 q) (L:¬∃r:Rat,0<=r/\r*r=q):CF 275 [.agg (Br b1 l1 b2 l2)] (.Aj [(true,[.bool false,.sl .u32 [],.bool false,.sl .u32 []]),(false,[.bool false])]):=by
 refine AM Tryz.func275 fun E J=>?_
 obtain⟨w,D,j⟩:=Av (((Bk q.num.toNat:Nat):Int));obtain⟨H,f⟩:=xB (decide (((Bk q.num.toNat:Nat):Int)*((Bk q.num.toNat:Nat):Int)=q.num));refine AB (r:= .Aj [(true,[.bool w,.sl .u32 D]),(false,[.bool H])]) J (Qs G.num j f (by have:=G.small K;omega)) ?_;obtain⟨z,F,k⟩:=Av (((Bk (q.den:Int).toNat:Nat):Int));obtain⟨I,h⟩:=xB (decide (((Bk (q.den:Int).toNat:Nat):Int)*((Bk (q.den:Int).toNat:Nat):Int)=(q.den:Int)));refine AB (r:= .Aj [(true,[.bool z,.sl .u32 F]),(false,[.bool I])]) J (Qs G.den k h (by have:=G.small K;omega)) ?_;refine G5 (fun m=>?_) fun m=>?_
 ·exact AN Ao
 refine RP (fun v=>?_) fun v=>?_
 ·exact absurd (du (of_decide_eq_true (f.symm.trans m)) (of_decide_eq_true (h.symm.trans v))) L
 exact AN Ao
theorem fu {q:Rat} (G:BB n b1 l1) (H:BB d b2 l2) (F:d≠0) (I:q=Rat.divInt n d) (D:BV q c1 m1 c2 m2) (s1:l1.length<=17592186042000) (s2:l2.length<=17592186042000):CF 224 [.agg (BZ b1 l1),.agg (BZ b2 l2)] (BY (Br c1 m1 c2 m2) 0):=by
 refine AM Tryz.func224 fun E z=>?_
 obtain⟨J,L,j⟩:=Av (n);refine AB z (WE G AA j) ?_;obtain⟨K,M,h⟩:=Av (d);refine AB z (WE H AA h) ?_;refine AB (r:= .one (.bool false)) z (ZR h (by simp[F])) ?_;obtain⟨v,w,k,m,f⟩:=By (q);refine AB (r:= .agg [.bool v,.sl .u32 w,.bool k,.sl .u32 m]) z (L4 j h F I f (by rw[(j.uniq G rfl).2];exact s1) (by rw[(h.uniq H rfl).2];exact s2)) ?_;exact AN ⟨⟨rfl,congrArg _ ((f.uniq D rfl).1.1.symm),congrArg _ ((f.uniq D rfl).1.2.symm),congrArg _ ((f.uniq D rfl).2.1.symm),congrArg _ ((f.uniq D rfl).2.2.symm),trivial⟩,t2,trivial⟩
theorem RO {b:Bool} (f: -9223372036854775808<=x/\x<9223372036854775808) (h:BB x b l):l.length<=2:=by
 rw[h.Bb];exact GF AA
theorem fk {q:Rat} (I: -9223372036854775808<=n/\n<9223372036854775808) (H: -9223372036854775808<=d/\d<9223372036854775808) (P:d≠0) (Q:q=Rat.divInt n d) (G:BV q c1 m1 c2 m2):CF 167 [AH n,AH d] (.agg (Br c1 m1 c2 m2)):=by
 refine AM Tryz.func167 fun E F=>?_
 obtain⟨S,U,j⟩:=Av (n);refine AB F (OY I j) ?_;obtain⟨L,N,h⟩:=Av (d);refine AB F (OY H h) ?_;obtain⟨z,D,v,w,f⟩:=By q;refine AB (r:= .Aj [(true,[.bool z,.sl .u32 D,.bool v,.sl .u32 w]),(false,[.int .i64 0])]) F (fu j h P Q f (by have:=RO I j;omega) (by have:=RO H h;omega)) ?_;refine OT (fun m=>?_) fun m=>?_
 ·exact AN ⟨⟨rfl,congrArg _ ((f.uniq G rfl).1.1.symm),congrArg _ ((f.uniq G rfl).1.2.symm),congrArg _ ((f.uniq G rfl).2.1.symm),congrArg _ ((f.uniq G rfl).2.2.symm),trivial⟩,trivial⟩
 obtain⟨M,O,J,K,k⟩:=By (((0:Int):Rat));refine AB F (Hw AA rfl k) ?_;exact absurd m AE
theorem eY (k:BB y b2 l2) (h:Cd y<=0:=by omega):FN b1 l1 b2 l2=false:=by
 apply Bool.eq_false_iff.2;intro h';obtain⟨q,j⟩:=Mh.1 h';have e:y=(q.den:Int):=by rw[k.Ep,j.den.Ep]
 have:=NU q;rcases GL y with⟨a,f⟩ |⟨a,f⟩ |⟨a,f⟩ <;> omega
theorem eX (k:true=F7 b1 l1) (m:true=F7 b2 l2) (z:BB x b1 l1) (f:BB y b2 l2) (h:0<Cd y) (v:c=decide (((Nat.gcd x.natAbs y.natAbs:Nat):Int)=1)):FN b1 l1 b2 l2=c:=by
 have D:0<y:=by rcases GL y with⟨a,j⟩ |⟨a,j⟩ |⟨a,j⟩ <;> omega
 have hb:b2=false:=by rw[f.neg];exact decide_eq_false AA
 have w:l2≠[]:=fun e=>by have:=f.nil.1 e;omega
 unfold FN;rw[<-k,<-m,hb,decide_eq_true w,v,z.nat,f.nat];simp only[Bool.true_and,Bool.not_false];rw[Bool.eq_iff_iff,decide_eq_true_eq,decide_eq_true_eq];omega
theorem WI (w:c=FN b1 l1 b2 l2) (s1:l1.length<=17592186042000) (s2:l2.length<=17592186042000):CF 256 [.agg (Br b1 l1 b2 l2)] (.one (.bool c)):=by
 refine AM Tryz.func256 fun E m=>?_
 obtain⟨J,f⟩:=xB (F7 b1 l1);refine AB m (WT f) ?_;cases J <;> conv=>cbv
 ·exact AL (by rw[w];unfold FN;rw[<-f];rfl)
 obtain⟨K,h⟩:=xB (F7 b2 l2);refine AB m (WT h) ?_;cases K <;> conv=>cbv
 ·exact AL (by rw[w];unfold FN;rw[<-h];exact Bool.and_false _)
 obtain⟨x,F⟩:=J9.1 f.symm;obtain⟨y,z⟩:=J9.1 h.symm;obtain⟨L,v⟩:=xI (Cd y);refine AB m (Mx z v) ?_;refine FC (fun D=>?_) fun D=>?_
 ·exact AL (by rw[w];exact eY z)
 obtain⟨G,H,k⟩:=Av (((Nat.gcd x.natAbs y.natAbs:Nat):Int));refine AB m (V5 F z k AA AA) ?_;obtain⟨I,j⟩:=xB (decide (((Nat.gcd x.natAbs y.natAbs:Nat):Int)=1));refine AB m (Lv k j) ?_;exact AL (by rw[w];exact eX f h F z AA j)
end
section
variable {B X Z o:LR} {i n zn:Nat} {xs ys:List Rat}
theorem mA {A:LR} (G:A=X.take (X.length/2)) (H:B=X.drop (X.length/2)):CF 291 [AO X] (.Aj [(false,[Au A]),(false,[Au B])]):=by
 refine AM Tryz.func291 fun E Q=>?_
 rintro V ⟨O,f6⟩ W P U J z I S m M ⟨D,f11⟩ N F L j k w ⟨v,f⟩ K h;exact AN ⟨⟨rfl,congrArg _ (by rw[G,m,List.drop_zero,(AA:z=X.length/2)]),trivial⟩,⟨rfl,congrArg _ (by rw[H,h,f,j,List.take_length,(AA:k=X.length/2)]),trivial⟩,trivial⟩
theorem qz {X A:List LR} (v:X≠[]) (z:A=X.take (X.length-1)) (D:X[X.length-1]? =some B):CF 290 [Ah X] (.Aj [(false,[BP A]),(false,[Au B])]):=by
 refine AM Tryz.func290 fun E M=>?_
 rintro P ⟨J,f6⟩;have K:0<X.length:=List.length_pos_iff.2 v;refine AK ?_;rintro Q L O G k F N j H ⟨m,f11⟩ h w;refine Ae ((h).toNat) fun I f=>?_
 try conv=>cbv
 refine g2 rfl ?_;exact AN ⟨⟨rfl,congrArg _ (by rw[z,j,List.drop_zero,(AA:k=X.length-1)]),trivial⟩,⟨rfl,congrArg _ (by rw[(AA:h.toNat=X.length-1)] at f;exact (Option.some.inj (D.symm.trans f))),trivial⟩,trivial⟩
theorem mC {Z:Nat->LR} (h:o.take i=Z i) (e:i=n):o.take n=Z n:=by rw[<-e];exact h
theorem RA {α:Type} {o:List α} {w:α} (h:i<o.length):(o.set i w).take (i+1)=o.take i++[w]:=by
 rw[List.take_succ_eq_append_getElem (by rw[List.length_set];exact h),List.take_set_of_le (Nat.le_refl _),List.getElem_set_self]
theorem s6 {a:Int} (ha:AR a n) (hn:n<=1000000) (hX:X=BF (List.replicate n 0)) (K:zn=X.length):CF 236 [AH a] (.one (.own AG X zn)):=by
 have ea:=ha.eq;refine AM Tryz.func236 fun E hE=>?_
 refine⟨fun _=>⟨AA,AA,by show _*64<=140737488355328;omega⟩,?_⟩;intro N (O:LR) H;have a6:=H.1;have J:O=List.replicate N (((false,[]),(false,[])):el AG):=H.2;have W:O.length=N:=by rw[J,List.length_replicate]
 conv=>cbv
 intro n8 h8;have e8:=h8.eq;conv=>cbv
 refine BI [] [3,8,9] [6] (fun vs Q k=>∃(o:LR) (m i':Nat) (L i:Int),vs=[.one (.AU AG 6 0 0 m),AH L,AH i]/\Q=[.arr 0 AG o]/\(o.length=n/\m=n/\DX L n/\AR i i'/\i'<=n)/\o.take i'=BF (List.replicate i' 0)/\k=n-i') (n-0) ⟨O,N,0,n8,0,rfl,rfl,⟨AA,AA,⟨AA,AA⟩,BD 0,AA⟩,rfl,rfl⟩ ?_;rintro J0 I vs Q a7 ⟨o,m,i',L,i,rfl,rfl,⟨ho,hm,U,hi,a2⟩,hinv,a5⟩;conv=>cbv
 have eL:=U.eq;have ei:=hi.eq;refine BQ (fun M=>?_) fun M=>?_
 ·have f:o=X:=by rw[hX,<-mC (Z:=fun i=>BF (List.replicate i 0)) hinv AA,List.take_of_length_le AA]
  exact AN ⟨⟨rfl,.inr (.inl ⟨_,_,AE,rfl,rfl,AA,rfl,C3 (f.symm) (by rw[K,<-f])⟩),trivial⟩,trivial⟩
 refine .inr ?_;obtain⟨z,D,v,w,j⟩:=By (((0:Int):Rat));refine AB hE (Hw AA rfl j) ?_;intro G V;refine⟨((z,D),(v,w)),fun _=>⟨by show _<List.length (α:=(el AG)) o;(first | omega | (simp;omega)),C5⟩,?_⟩;intro (F:LR) (h:F=List.set (α:=(el AG)) o G (((z,D),(v,w))));have S:F.length=o.length:=by rw[h,List.length_set]
 refine AK ?_;intro P a1;refine⟨n-(i'+1),?_,?_⟩
 ·omega
 rw[I];refine⟨F,m,i'+1,L,P,rfl,rfl,⟨AA,AA,U,⟨AA⟩,AA⟩,?_,rfl⟩;rw[h,(AA:G=i'),RA AA,hinv,List.replicate_succ',BF,BF,List.map_append,<-j.rp];rfl
theorem Iq {x:el AG} (j:X=BF xs) (k:EP xs) (f:X[i]? =some x):∃q,BV q x.1.1 x.1.2 x.2.1 x.2.2/\xs[i]? =some q/\B8 q:=by
 rw[j,BF,List.getElem?_map] at f;cases h:xs[i]? with
 | none=>rw[h] at f;simp at f
 | some q=>
  rw[h] at f;have e:x=rp q:=(Option.some.inj f).symm;exact⟨q,by rw[e];exact FL q,rfl,k q (List.mem_of_getElem? h)⟩
theorem cA (h:o.take i=BF (ys.take i)) (j:i=n) (f:o.length=n) (k:ys.length=n):BF ys=o.take n:=by
 rw[j] at h;rw[h,<-k,List.take_length]
theorem cD {l:LR} {j:Nat} {q:Rat} {w:el AG} (h:o.take i=BF (ys.take i)) (k:i<o.length) (m:j=i) (v:l=o.set j w) (f:ys[i]? =some q) (hw:rp q=w):l.take (i+1)=BF (ys.take (i+1)):=by
 have z:i<ys.length:=Gs f;rw[v,m,RA k,h,List.take_succ,f,BF,BF,List.map_append,<-hw];rfl
theorem oG (hX:X=BF xs) (hs:EP xs) (hn:xs.length<=1000000) (hZ:Z=BF (xs.map (- ·))):CF 140 [AO X] (AO Z):=by
 refine AM Tryz.func140 fun E hE=>?_
 have a7:X.length=xs.length:=by rw[hX,List.length_map]
 rintro n7 ⟨e7,f7⟩;conv=>cbv
 refine⟨fun _=>⟨AA,AA,by show _*64<=140737488355328;omega⟩,?_⟩;intro P (Q:LR) H;have ab:=H.1;have J:Q=List.replicate P (((false,[]),(false,[])):el AG):=H.2;have a5:Q.length=P:=by rw[J,List.length_replicate]
 refine AW ?_;intro S D;have a2:=D.eq;have f10:=D.le;refine BI [] [3,9,10,11] [8] (fun vs V k=>∃(o:LR) (m i':Nat) (L i:Int),vs=[.one (.AU AG 8 0 0 m),AO X,AH L,AH i]/\V=[.arr 0 AG o]/\(o.length=X.length/\m=X.length/\DX L X.length/\AR i i'/\i'<=X.length)/\o.take i'=BF ((xs.map (- ·)).take i')/\k=X.length-i') (X.length-0) ⟨Q,P,0,S,0,rfl,rfl,⟨AA,AA,D,BD 0,AA⟩,rfl,rfl⟩ ?_;rintro J0 I vs V ad ⟨o,m,i',L,i,rfl,rfl,⟨ho,hm,hL,hi,a8⟩,hinv,aa⟩;conv=>cbv
 have eL:=hL.eq;have ei:=hi.eq;refine BQ (fun O=>?_) fun O=>?_
 ·exact AN ⟨⟨rfl,.inl ⟨_,rfl,AA,congrArg _ (by rw[hZ,hm,List.drop_zero];exact cA hinv AA AA (by rw[List.length_map];omega))⟩,trivial⟩,trivial⟩
 refine .inr ?_;refine Ae i' fun ae G=>?_
 try conv=>cbv
 obtain⟨q,hq,K,M⟩:=Iq hX hs G;obtain⟨w,z,j,v,h⟩:=By (-q);refine AB hE (gI hq M rfl h) ?_;intro N a1;refine⟨((w,z),(j,v)),fun _=>⟨by show _<List.length (α:=(el AG)) o;(first | omega | (simp;omega)),C5⟩,?_⟩;intro (F:LR) (f:F=List.set (α:=(el AG)) o N (((w,z),(j,v))));have W:F.length=o.length:=by rw[f,List.length_set]
 refine AK ?_;intro U a6;refine⟨X.length-(i'+1),?_,?_⟩
 ·omega
 rw[I];refine⟨F,m,i'+1,L,U,rfl,rfl,⟨AA,AA,hL,⟨AA⟩,AA⟩,?_,rfl⟩;exact cD hinv AA AA f (by rw[List.getElem?_map,K];rfl) h.rp
theorem jS {Y:LR} (hX:X=BF xs) (hY:Y=BF ys) (hs:EP xs) (ht:EP ys) (U:ys.length=xs.length) (hn:xs.length<=1000000) (hZ:Z=BF (List.zipWith (· + ·) xs ys)) (V:zn=Z.length):CF 189 [AO X,AO Y] (.one (.own AG Z zn)):=by
 refine AM Tryz.func189 fun E hE=>?_
 have ad:X.length=xs.length:=by rw[hX,List.length_map]
 have ae:Y.length=xs.length:=by rw[hY,List.length_map,U]
 rintro n8 ⟨e8,f8⟩;conv=>cbv
 refine⟨fun _=>⟨AA,AA,by show _*64<=140737488355328;omega⟩,?_⟩;intro k9 (l9:LR) J;have ah:=J.1;have N:l9=List.replicate k9 (((false,[]),(false,[])):el AG):=J.2;have aa:l9.length=k9:=by rw[N,List.length_replicate]
 conv=>cbv
 intro a2 K;have a8:=K.eq;conv=>cbv
 refine BI [] [0,1,5,11,12] [9] (fun vs bl k=>∃(o:LR) (m i':Nat) (L i:Int),vs=[AO X,AO Y,.one (.AU AG 9 0 0 m),AH L,AH i]/\bl=[.arr 0 AG o]/\(o.length=X.length/\m=X.length/\AR L X.length/\AR i i'/\i'<=X.length)/\o.take i'=BF ((List.zipWith (· + ·) xs ys).take i')/\k=X.length-i') (X.length-0) ⟨l9,k9,0,a2,0,rfl,rfl,⟨AA,AA,⟨AA⟩,BD 0,AA⟩,rfl,rfl⟩ ?_;rintro J0 M vs bl ai ⟨o,m,i',L,i,rfl,rfl,⟨ho,hm,hL,hi,af⟩,hinv,ag⟩;conv=>cbv
 have eL:=hL.eq;have ei:=hi.eq;refine BQ (fun a1=>?_) fun a1=>?_
 ·have G:BF (List.zipWith (· + ·) xs ys)=o.take X.length:=cA hinv AA AA (by rw[List.length_zipWith];omega);have f:Z=o:=by rw[hZ,G,List.take_of_length_le AA]
  exact AN ⟨⟨rfl,.inr (.inl ⟨_,_,AE,rfl,rfl,AA,rfl,C3 (f) (by rw[V,f])⟩),trivial⟩,trivial⟩
 refine .inr ?_;refine Ae i' fun aj H=>?_
 try conv=>cbv
 refine Ae i' fun ak I=>?_
 try conv=>cbv
 obtain⟨p,hp,O,Q⟩:=Iq hX hs H;obtain⟨q,hq,P,S⟩:=Iq hY ht I;obtain⟨z,D,v,w,j⟩:=By (p+q);refine AB hE (gE hp hq Q S rfl j) ?_;intro W a7;refine⟨((z,D),(v,w)),fun _=>⟨by show _<List.length (α:=(el AG)) o;(first | omega | (simp;omega)),C5⟩,?_⟩;intro (F:LR) (h:F=List.set (α:=(el AG)) o W (((z,D),(v,w))));have a6:F.length=o.length:=by rw[h,List.length_set]
 refine AK ?_;intro a5 ab;refine⟨X.length-(i'+1),?_,?_⟩
 ·omega
 rw[M];refine⟨F,m,i'+1,L,a5,rfl,rfl,⟨AA,AA,hL,⟨AA⟩,AA⟩,?_,rfl⟩;exact cD hinv AA AA h (by rw[List.getElem?_zipWith,O,P]) j.rp
end
section
def Hh (p:el AG->Bool):Nat->LR->Int
 | _,[]=> -1
 | i,x::l=>if p x=true then i else Hh p (i+1) l
variable {Y:LR} {b1 b2 c:Bool} {g:FuncId} {i:Nat} {l1 l2:List UInt32} {x:el AG} {ys:List Rat}
theorem ZG {X:LR} (h:X[i]? =some x):X.drop i=x::X.drop (i+1):=by
 have f:=Gs h;rw[List.drop_eq_getElem_cons f];rw[List.getElem?_eq_getElem f] at h;rw[Option.some.inj h]
theorem mE {X:LR} {p:el AG->Bool} (h:X[i]? =some x) (f:p x=false):Hh p i (X.drop i)=Hh p (i+1) (X.drop (i+1)):=by
 rw[ZG h,Hh,f];rfl
theorem mD {X:LR} {p:el AG->Bool} (h:X[i]? =some x) (f:p x=true):Hh p i (X.drop i)=i:=by
 rw[ZG h,Hh,if_pos f]
theorem fq {X:LR} {p:el AG->Bool} {r:Int} (I:∀x∈X,CF g [.agg (cells AG x)] (.one (.bool (p x)))) (N:r=Hh p 0 X):CF 292 [AO X,.one (.fn g)] (AH r):=by
 refine AM Tryz.func292 fun E H=>?_
 intro Q v;have U:=v.eq;have f7:=v.le;refine BI [] [0,1,7,8] [] (fun vs F k=>∃(i':Nat) (L i:Int),vs=[AO X,.one (.fn g),AH L,AH i]/\(DX L X.length/\AR i i'/\i'<=X.length)/\r=Hh p i' (X.drop i')/\k=X.length-i') (X.length-0) ⟨0,Q,0,rfl,⟨v,BD 0,AA⟩,N,rfl⟩ ?_;rintro S w vs F P ⟨i',L,i,rfl,⟨D,J,K⟩,hinv,M⟩;conv=>cbv
 have V:=D.eq;have W:=J.eq;refine BQ (fun O=>?_) fun O=>?_
 ·exact AL (by rw[hinv,List.drop_eq_nil_of_le AA];rfl)
 refine .inr ?_;refine Ae i' fun m h=>?_
 try conv=>cbv
 obtain⟨j,f⟩:=xB (p m);refine AB (r:= .one (.bool j)) H ((by rw[f];exact I m (List.mem_of_getElem? h))) ?_;cases j <;> conv=>cbv
 ·refine AK ?_;intro z G;refine⟨X.length-(i'+1),?_,?_⟩
  ·omega
  rw[w];refine⟨i'+1,L,z,rfl,⟨D,⟨AA⟩,AA⟩,?_,rfl⟩;rw[hinv,mE h f.symm]
 exact AL (by rw[hinv,mD h f.symm];omega)
theorem ZF (p:el AG->Bool):∀(X:LR) (i:Nat),decide (Hh p i X >= 0)=X.any p
 | [],i=>rfl
 | x::X,i=>by
  rw[Hh,List.any_cons]
  split
  ·rename_i h;rw[h,Bool.true_or];exact decide_eq_true AA
  rename_i h;rw[Bool.eq_false_iff.2 h,Bool.false_or];exact ZF p X (i+1)
theorem Vz {X:LR} {p:el AG->Bool} (m:∀x∈X,CF g [.agg (cells AG x)] (.one (.bool (p x)))) (k:c=X.any p):CF 254 [AO X,.one (.fn g)] (.one (.bool c)):=by
 refine AM Tryz.func254 fun E j=>?_
 obtain⟨w,f⟩:=xI (Hh p 0 X);refine AB j (fq m f) ?_;intro v h;exact AL (by rw[k,h,f];exact (ZF p X 0).symm)
theorem qV (q:Rat):decide (q≠0)=(Dm q !=0):=by
 have h:= @Rat.num_eq_zero q;rw[Bool.eq_iff_iff,decide_eq_true_eq,bne_iff_ne];rcases VA q with⟨a,e⟩ |⟨a,e⟩ |⟨a,e⟩ <;> rw[e]
 ·exact⟨fun _=>AE,fun _ f=>by rw[h.2 f] at a;omega⟩
 ·exact⟨fun f=>absurd (h.1 a) f,fun f=>absurd rfl f⟩
 exact⟨fun _=>AE,fun _ f=>by rw[h.2 f] at a;omega⟩
theorem oJ {q:Rat} (m:BV q b1 l1 b2 l2) (k:c=decide (q≠0)):CF 304 [.agg (Br b1 l1 b2 l2)] (.one (.bool c)):=by
 refine AM Tryz.func304 fun E j=>?_
 obtain⟨w,f⟩:=xI (Dm q);refine AB j (Od m f) ?_;intro v h;exact AL (by rw[k,h,f];exact qV q)
theorem bz (q:Rat):decide (q≠0)= !(rp q).1.2.isEmpty:=by
 have h:(rp q).1.2=AT q.num.natAbs:=rfl;rw[h,Bool.eq_iff_iff,decide_eq_true_eq,Bool.not_eq_true',List.isEmpty_eq_false_iff,Ne,Ne,E3,<-Rat.num_eq_zero];omega
theorem ph (xs:List Rat):(BF xs).any (fun x=> !x.1.2.isEmpty)= !decide (∀q∈xs,q=0):=by
 induction xs with
 | nil=>rfl
 | cons q xs f=>
  rw[BF,List.map_cons,List.any_cons,<-bz,<-BF,f]
  by_cases h:q=0 <;> simp[h]
theorem rS {X:LR} {xs:List Rat} (h:X=BF xs):∀x∈X,CF 304 [.agg (cells AG x)] (.one (.bool (!x.1.2.isEmpty))):=by
 intro x f;rw[h] at f;obtain⟨q,_,rfl⟩:=List.mem_map.1 f;exact oJ (FL q) (bz q).symm
theorem W7 {X:LR} {xs:List Rat} (h:X=BF xs) (m:c=decide (∀q∈xs,q=0)):CF 276 [AO X] (.one (.bool c)):=by
 refine AM Tryz.func276 fun E k=>?_
 obtain⟨v,f⟩:=xB (X.any (fun x=> !x.1.2.isEmpty));refine AB k (Vz (rS h) f) ?_;intro w j;exact AL (by rw[m,j,f,h,ph,Bool.not_not])
theorem mf (k:c= !FN b1 l1 b2 l2) (s1:l1.length<=17592186042000) (s2:l2.length<=17592186042000):CF 255 [.agg (Br b1 l1 b2 l2)] (.one (.bool c)):=by
 refine AM Tryz.func255 fun E j=>?_
 obtain⟨m,f⟩:=xB (FN b1 l1 b2 l2);refine AB j (WI f s1 s2) ?_;intro v h;exact AL (by rw[k,h,f])
theorem jg {X:LR} {xs:List Rat} (j:X=BF xs) (m:EP xs):∀x∈X,CF 255 [.agg (cells AG x)] (.one (.bool false)):=by
 intro x f;rw[j] at f;obtain⟨q,k,rfl⟩:=List.mem_map.1 f;have h:=(FL q).small (m q k);exact mf (by rw[Mh.2 ⟨q,FL q⟩];rfl) AA AA
theorem any_false (X:LR):false=X.any (fun _=>false):=by
 induction X with
 | nil=>rfl
 | cons x X f=>rw[List.any_cons,<-f];rfl
theorem UP {X:LR} {xs:List Rat} {k:Int} {n:Nat} (h:X=BF xs) (z:EP xs) (w:AR k n) (m:c=decide (xs.length=n)):CF 194 [AO X,AH k] (.one (.bool c)):=by
 have H:=w.eq;refine AM Tryz.func194 fun E v=>?_
 rintro I ⟨G,f6⟩;refine CN (fun D=>?_) fun D=>?_
 ·exact AL (by have j:X.length=xs.length:=(by rw[h,List.length_map]);rw[m];exact decide_eq_false AA)
 refine AB v (Vz (p:=fun _=>false) (jg h z) (any_false X)) ?_;intro F f;exact AL (by have j:X.length=xs.length:=(by rw[h,List.length_map]);rw[m,f];exact decide_eq_true AA)
theorem FY {n i:Int} {k:Nat} (h:n=IntKind.i64.wrap (1*2^min i.toNat IntKind.i64.bits)) (e:i=k) (f:k<=20:=by omega):AR n (2^k):=by
 have j:=wrap_i64 h;have m:2^k<=2^20:=Nat.pow_le_pow_right AE f
 have h3:((2:Int)^min i.toNat IntKind.i64.bits)=((2^k:Nat):Int):=by
  rw[e,Int.toNat_natCast,Nat.min_eq_left (Nat.le_trans f AE)];simp
 rw[h3,Int.one_mul] at j
 generalize 2^k=Q at*
 exact⟨AA⟩
theorem Ka {X:List LR} {xs:AD} {x:LR} (j:X=xs.map BF) (f:X[i]? =some x):∃y,x=BF y/\xs[i]? =some y:=by
 rw[j,List.getElem?_map] at f;cases h:xs[i]? with
 | none=>rw[h] at f;simp at f
 | some q=>rw[h] at f;exact⟨q,(Option.some.inj f).symm,rfl⟩
theorem Un {X:List LR} {xs:AD} (G:X=xs.map BF) (ht:Og xs) (N:c=true):CF 193 [Ah X] (.one (.bool c)):=by
 refine AM Tryz.func193 fun E K=>?_
 have M:X.length=xs.length:=by rw[G,List.length_map]
 have hl:=ht.TK;intro W v;have e6:=v.eq;have f6:=v.le;conv=>cbv
 refine BI [] [5,6,7] [] (fun vs H k=>∃(i':Nat) (L i:Int),vs=[Ah X,AH L,AH i]/\(DX L X.length/\AR i i'/\i'<=X.length)/\k=X.length-i') (X.length-0) ⟨0,W,0,rfl,⟨v,BD 0,AA⟩,rfl⟩ ?_;rintro J0 w vs H U ⟨i',L,i,rfl,⟨F,O,P⟩,Q⟩;conv=>cbv
 have eL:=F.eq;have I:=O.eq;refine BQ (fun S=>?_) fun S=>?_
 ·exact AL (N)
 refine .inr ?_;refine Ae i' fun a1 f=>?_
 refine AK ?_;intro V m;obtain⟨x,z,h⟩:=Ka G f;refine AB (r:= .one (.bool true)) K (UP z (ht.small x (List.mem_of_getElem? h)) (FY m I) (by rw[ht.form i' x h];exact (decide_eq_true rfl).symm)) ?_;refine G5 (fun j=>?_) fun j=>?_
 ·exact absurd j AE
 intro D J;exact BT w ⟨i'+1,L,D,rfl,⟨F,⟨AA⟩,AA⟩,rfl⟩
theorem IU {X:List LR} {xs:AD} (v:X=xs.map BF) (ht:Og xs) (z:Y=BF ys) (F:EP ys) (D:c=decide (ys.length=2^xs.length)):CF 139 [Ah X,AO Y] (.one (.bool c)):=by
 refine AM Tryz.func139 fun E m=>?_
 have k:X.length=xs.length:=by rw[v,List.length_map]
 have I:=ht.TK;refine AB m (Un v ht rfl) ?_;rintro G ⟨h,f10⟩ H j;obtain⟨w,f⟩:=xB (decide (ys.length=2^xs.length));refine AB m (UP z F (FY j (h.trans (congrArg _ k))) f) ?_;exact AL (D.trans f.symm)
theorem TA {X:List LR} {Z:LR} {xs:AD} {w:List Rat} (D:X=xs.map BF) (ht:Og xs) (F:Y=BF ys) (H:EP ys) (m:ys.length=2^xs.length) (G:Z=BF w) (k:EP w) (v:w.length=2^xs.length):CF 188 [Ah X,AO Y,AO Z] (.one (.bool true)):=by
 refine AM Tryz.func188 fun E z=>?_
 have j:X.length=xs.length:=by rw[D,List.length_map]
 have K:=ht.TK;refine AB z (IU D ht F H (decide_eq_true m).symm) ?_;rintro I ⟨f,f13⟩ J h;refine AB z (UP G k (FY h (f.trans (congrArg _ j))) (decide_eq_true v).symm) ?_;exact AN ⟨t2,trivial⟩
end
section
variable {A B C X Y Z:LR} {R s t zn:Nat} {T:List LR} {p:Rat} {x y:Re}
theorem KO {u:AD} (h:Ag u) (k:In u x) (j:X=em u x) (f:x=0):CF 276 [AO X] (.one (.bool true)):=
 W7 j (decide_eq_true ((NP h k).2 f)).symm
theorem Ig {u:AD} (h:Ag u) (m:In u x) (j:X=em u x) (f:x≠0):CF 276 [AO X] (.one (.bool false)):=
 W7 j (decide_eq_false (fun k=>f ((NP h m).1 k))).symm
theorem Py {u:AD} {r:List Rat} {p q:Re} (h:Ag (r::u)) (j:In u p) (k:In u q) (m:x=p+q*rt u r) (f:X=em (r::u) x) (v:A=em u p) (w:B=em u q):
  CF 291 [AO X] (.Aj [(false,[Au A]),(false,[Au B])]):=
 mA (by rw[f,v,Cv h j k m]) (by rw[f,w,CZ h j k m])
theorem Md (r:List Rat) (u:AD):tw (r::u)≠[]:=by rw[OP];simp
theorem VL {X A:List LR} {u:AD} {r:List Rat} (f:X=tw (r::u)) (h:A=tw u) (j:B=BF r):
  CF 290 [Ah X] (.Aj [(false,[BP A]),(false,[Au B])]):=
 qz (by rw[f];exact Md r u) (by rw[f,h,Dx]) (by rw[f,j,F6])
theorem Js {n:Nat} (h:n<=16:=by omega):2^n<=1000000:=Nat.le_trans (Dh h) AE
theorem XD {u:AD} (h:BC R u) (m:X=em u x) (v:Y=em u y) (f:El u s x) (j:El u t y) (z:s<=60000000000000) (ht:t<=60000000000000) (w:Z=em u (x+y)) (k:zn=Z.length):
  CF 189 [AO X,AO Y] (.one (.own AG Z zn)):=
 jS m v (f.CM z) (j.CM ht) (by rw[f.len,j.len]) (by rw[f.len];exact Js h.ht) (by rw[w,YW h.red f.mem j.mem]) k
theorem O0 {u:AD} (h:BC R u) (f:X=em u x) (j:Y=em u y) (v:El u s x) (w:El u t y) (m:s<=60000000000000) (ht:t<=60000000000000) (k:Z=em u (x+y)):
 CF 189 [AO X,AO Y] (AO Z):=Df (XD h f j v w m ht k rfl)
theorem QW {u:AD} (h:BC R u) (j:X=em u x) (f:El u s x) (m:s<=60000000000000) (k:Z=em u (-x)):
  CF 140 [AO X] (AO Z):=
 oG j (f.CM m) (by rw[f.len];exact Js h.ht) (by rw[k,YX h.red f.mem])
theorem RW {a:Int} {u:AD} (h:BC R u) (ha:AR a (2^u.length)) (j:Z=em u 0) (f:zn=Z.length):
  CF 236 [AH a] (.one (.own AG Z zn)):=
 s6 ha (Js h.ht) (by rw[j,Sl h.red]) f
theorem FW {x:el AG} (h:A=[rp p]) (f:A[0]? =some x):BV p x.1.1 x.1.2 x.2.1 x.2.2:=by
 rw[h] at f;rw[<-Option.some.inj f];exact FL p
theorem nk {q:Rat} (M:T=[]) (G:A=[rp p]) (H:B=[rp q]) (P:B8 p) (ht:B8 q) (I:C=[rp (p*q)]) (F:zn=C.length):CF 253 [Ah T,AO A,AO B] (.one (.own AG C zn)):=by
 refine AM Tryz.func253 fun E L=>?_
 refine .inr ?_;rintro Q ⟨D,f16⟩;conv=>cbv
 refine CN (fun k=>?_) fun k=>?_
 ·exact absurd (by rw[D,M];rfl) k
 have J:A.length=1:=by rw[G];rfl
 have K:B.length=1:=by rw[H];rfl
 refine Ae 0 fun S h=>?_
 try conv=>cbv
 refine Ae 0 fun U j=>?_
 try conv=>cbv
 have N:=FW G h;have O:=FW H j;obtain⟨w,z,m,v,f⟩:=By (p*q);refine AB L (gH N O P ht rfl f) ?_;refine⟨[((w,z),(m,v))],Ca,.inl ?_⟩;try conv=>cbv
 refine g2 rfl ?_;exact AN ⟨⟨rfl,.inr (.inl ⟨_,_,AE,rfl,rfl,rfl,rfl,C3 (by rw[I,f.rp]) (by rw[F,I];rfl)⟩),trivial⟩,trivial⟩
theorem nz {u:AD} (h:BC R u) (L:T≠[]) (F:A=em u x) (O:B=em u y) (I:In u x) (P:In u y) (K:x=0) (G:C=em u 0) (z:zn=C.length):CF 253 [Ah T,AO A,AO B] (.one (.own AG C zn)):=by
 refine AM Tryz.func253 fun E H=>?_
 refine .inr ?_;rintro M ⟨J,f16⟩;conv=>cbv
 refine BS (fun D=>?_) fun D=>?_
 ·exact absurd (List.length_eq_zero_iff.1 AA) L
 refine AB H (KO h.red I F K) ?_;have w:A.length=2^u.length:=by rw[F,Bh I]
 rintro N ⟨v,f34⟩;conv=>cbv
 obtain⟨k,f⟩:=xR (em u (0));obtain⟨m,j⟩:=xN k.length;refine AB (r:= .one (.own AG k m)) H (RW h (AR.of (by rw[v,w])) f j) ?_;exact AN ⟨⟨rfl,.inr (.inl ⟨_,_,AE,rfl,rfl,j,rfl,C3 (by rw[G,f]) (by rw[z,G,<-f])⟩),trivial⟩,trivial⟩
theorem n3 {u:AD} (h:BC R u) (N:T≠[]) (G:A=em u x) (M:B=em u y) (I:In u x) (O:In u y) (K:y=0) (L:x≠0) (H:C=em u 0) (D:zn=C.length):CF 253 [Ah T,AO A,AO B] (.one (.own AG C zn)):=by
 refine AM Tryz.func253 fun E z=>?_
 refine .inr ?_;rintro P ⟨J,f16⟩;conv=>cbv
 refine BS (fun F=>?_) fun F=>?_
 ·exact absurd (List.length_eq_zero_iff.1 AA) N
 refine AB z (Ig h.red I G L) ?_;refine AB z (KO h.red O M K) ?_;have w:A.length=2^u.length:=by rw[G,Bh I]
 rintro Q ⟨v,f34⟩;conv=>cbv
 obtain⟨k,f⟩:=xR (em u (0));obtain⟨m,j⟩:=xN k.length;refine AB (r:= .one (.own AG k m)) z (RW h (AR.of (by rw[v,w])) f j) ?_;exact AN ⟨⟨rfl,.inr (.inl ⟨_,_,AE,rfl,rfl,j,rfl,C3 (by rw[H,f]) (by rw[D,H,<-f])⟩),trivial⟩,trivial⟩
def V8 (f:FuncId) (R:Nat) (u:AD):Prop:=∀{T:List LR} {A B C:LR} {zn s t:Nat} {x y:Re},T=tw u->A=em u x->B=em u y->El u s x->El u t y->s+t+EE u.length R<=60000000000000->C=em u (x*y)->zn=C.length->
 CF f [Ah T,AO A,AO B] (.one (.own AG C zn))
theorem nx {u:AD} {r:List Rat} (h:BC R (r::u)) (W:V8 253 R u) (hT:T=tw (r::u)) (hA:A=em (r::u) x) (hB:B=em (r::u) y) (hx:El (r::u) s x) (hy:El (r::u) t y) (aj:s+t+EE (r::u).length R<=60000000000000) (h0:x≠0) (h1:y≠0) (hC:C=em (r::u) (x*y)) (a7:zn=C.length):CF 253 [Ah T,AO A,AO B] (.one (.own AG C zn)):=by
 obtain⟨p,q,a5,H,G⟩:=El.parts h.red hx;obtain⟨a,b,a6,ha,hb⟩:=El.parts h.red hy;have ah:EE (r::u).length R=2*EE u.length R+R+2:=rfl;have I:=El.DL h;have hR:=h.hR;have ai:=Cz h.red;refine AM Tryz.func253 fun E j=>?_
 refine .inr ?_;rintro ak ⟨ag,f16⟩;conv=>cbv
 refine BS (fun a8=>?_) fun a8=>?_
 ·exact absurd (List.length_eq_zero_iff.1 AA) (hT ▸ Md r u)
 refine AB j (Ig h.red hx.mem hA h0) ?_;refine AB j (Ig h.red hy.mem hB h1) ?_;obtain⟨al,f⟩:=xV (tw u);obtain⟨an,M⟩:=xR (BF r);refine AB j (VL hT f M) ?_;obtain⟨ao,k⟩:=xR (em u p);obtain⟨aq,m⟩:=xR (em u q);refine AB j (Py h.red H.mem G.mem a5 hA k m) ?_;obtain⟨ar,v⟩:=xR (em u a);obtain⟨au,w⟩:=xR (em u b);refine AB j (Py h.red ha.mem hb.mem a6 hB v w) ?_;obtain⟨av,N⟩:=xR (em u (p*a));refine AB j (Df (W f k v H ha AA N rfl)) ?_;obtain⟨aw,O⟩:=xR (em u (q*b));refine AB j (Df (W f m w G hb AA O rfl)) ?_;obtain⟨ax,P⟩:=xR (em u (q*b*AQ u r));refine AB j (Df (W f O (M.trans (E1 h.red)) (G.mul h.tail hb) I AA P rfl)) ?_;obtain⟨J,z⟩:=xR (em u (p*a+q*b*AQ u r));obtain⟨af,D⟩:=xN J.length;refine AB j (XD h.tail N P (H.mul h.tail ha) ((G.mul h.tail hb).mul h.tail I) AA AA z D) ?_
 obtain⟨ay,Q⟩:=xR (em u (p*b));refine AB j (Df (W f k w H hb AA Q rfl)) ?_;obtain⟨az,S⟩:=xR (em u (q*a));refine AB j (Df (W f m v G ha AA S rfl)) ?_;obtain⟨K,F⟩:=xR (em u (p*b+q*a));refine AB j (O0 h.tail Q S (H.mul h.tail hb) (G.mul h.tail ha) AA AA F) ?_;have ab:J.length=2^u.length:=by rw[z,Bh (DZ (H.mul h.tail ha).mem ((G.mul h.tail hb).mul h.tail I).mem)]
 have ad:K.length=2^u.length:=by rw[F,Bh (DZ (H.mul h.tail hb).mem (G.mul h.tail ha).mem)]
 have ae:=Dh h.tail.ht;refine .inl ⟨K,fun _=>⟨rfl,D,rfl,B5 (J.length+K.length) 64⟩,?_⟩;intro (V:LR) aa U;have a1:V=(J:LR)++(K:LR):=U.1;have a2:aa=List.length (α:=(el AG)) V:=U.2;conv=>cbv
 have L:C=V:=by rw[hC,a1,z,F];exact Ff h.red (DZ (H.mul h.tail ha).mem ((G.mul h.tail hb).mul h.tail I).mem) (DZ (H.mul h.tail hb).mem (G.mul h.tail ha).mem) (by rw[a5,a6];clear W;grind)
 exact AN ⟨⟨rfl,.inr (.inl ⟨_,_,AE,rfl,rfl,a2,rfl,C3 (L) (by rw[a7,L])⟩),trivial⟩,trivial⟩
theorem mulC {u:AD} (h:BC R u):V8 253 R u:=by
 induction u with
 | nil=>
  intro T A B C zn s t x y z j k v w D m f;obtain⟨p,rfl⟩:=Cy.1 v.mem;obtain⟨q,rfl⟩:=Cy.1 w.mem;rw[Ds] at j k;rw[<-Re.ofRat_mul,Ds] at m;have H:=v.CM AA;have I:=w.CM AA;rw[DH] at H I;exact nk z j k (H _ List.mem_cons_self) (I _ List.mem_cons_self) m f
 | cons r u J=>
  intro T A B C zn s t x y z j k v w D m f
  by_cases F:x=0
  ·refine nz h (z ▸ Md r u) j k v.mem w.mem F ?_ f;rw[m,F];congr 1;grind
  by_cases G:y=0
  ·refine n3 h (z ▸ Md r u) j k v.mem w.mem G F ?_ f;rw[m,G];congr 1;grind
  exact nx h (J h.tail) z j k v w D F G m f
theorem Nx {u:AD} (h:BC R u) (v:T=tw u) (j:A=em u x) (k:B=em u y) (w:El u s x) (z:El u t y) (f:s+t+EE u.length R<=60000000000000) (m:C=em u (x*y)):
 CF 253 [Ah T,AO A,AO B] (AO C):=Df (mulC h v j k w z f m rfl)
end
section
variable {A B C:LR} {R s t:Nat} {T:List LR} {p x y:Re} {q:Rat} {r:List Rat} {u:AD}
theorem aG {q:Re} (h:BC R (r::u)) (Q:T=tw (r::u)) (O:A=em (r::u) x) (S:El (r::u) s x) (N:x=p+q*rt u r) (K:In u p) (M:In u q) (hs:2*s+2*EE u.length R+R+1<=60000000000000) (P:C=em u (p*p-q*q*AQ u r)):CF 306 [Ah T,AO A] (AO C):=by
 have L:=Xc h.red K M (N ▸ S.bd);have J:El u s p:=⟨K,L.1⟩;have m:El u s q:=⟨M,L.2⟩;have I:=El.DL h;have hR:=h.hR;refine AM Tryz.func306 fun E H=>?_
 obtain⟨U,f⟩:=xV (tw u);obtain⟨V,v⟩:=xR (BF r);refine AB H (VL Q f v) ?_;obtain⟨W,j⟩:=xR (em u p);obtain⟨a1,k⟩:=xR (em u q);refine AB H (Py h.red J.mem m.mem N O j k) ?_;obtain⟨a2,w⟩:=xR (em u (p*p));refine AB H (Nx h.tail f j j J J AA w) ?_;obtain⟨a5,z⟩:=xR (em u (q*q));refine AB H (Nx h.tail f k k m m AA z) ?_;obtain⟨a6,D⟩:=xR (em u (q*q*AQ u r));refine AB H (Nx h.tail f z (v.trans (E1 h.red)) (m.mul h.tail m) I AA D) ?_;obtain⟨a7,F⟩:=xR (em u (-(q*q*AQ u r)));refine AB H (QW h.tail D ((m.mul h.tail m).mul h.tail I) AA F) ?_;obtain⟨a8,G⟩:=xR (em u (p*p+ -(q*q*AQ u r)));refine AB H (O0 h.tail w F (J.mul h.tail J) (((m.mul h.tail m).mul h.tail I).neg h.red.1) AA AA G) ?_;exact AL (by rw[P,G];congr 1)
theorem mW {p:Rat} (P:T=[]) (H:A=[rp p]) (O:B=[rp q]) (S:B8 p) (F:p≠0) (G:q=1/p):CF 284 [Ah T,AO A] (.Aj [(false,[Au B]),(false,[.bool true])]):=by
 refine AM Tryz.func284 fun E I=>?_
 rintro U ⟨D,f15⟩;refine CN (fun k=>?_) fun k=>?_
 ·exact absurd (by rw[D,P];rfl) k
 obtain⟨L,M,J,K,f⟩:=By (((1:Int):Rat));refine AB I (Hw AA rfl f) ?_;have N:A.length=1:=by rw[H];rfl
 refine Ae 0 fun V j=>?_
 try conv=>cbv
 have Q:=FW H j;obtain⟨w,z,m,v,h⟩:=By q;refine AB I (gG f Q ⟨by decide +kernel,by decide +kernel⟩ S F G h) ?_;refine⟨[((w,z),(m,v))],Ca,.inl ?_⟩;try conv=>cbv
 refine DJ ?_;exact AN ⟨⟨rfl,.inl ⟨_,rfl,Ai,congrArg _ (by rw[O,h.rp];rfl)⟩,trivial⟩,t2,trivial⟩
def V6 (f:FuncId) (R:Nat) (u:AD):Prop:=∀{T:List LR} {A B:LR} {s:Nat} {x y:Re},T=tw u->A=em u x->El u s x->In u y->x*y=1->II u.length R s<=60000000000000->B=em u y->
 CF f [Ah T,AO A] (.Aj [(false,[Au B]),(false,[.bool true])])
def s8 (f:FuncId) (u:AD):Prop:=∀{T:List LR} {A:LR},T=tw u->A=em u 0->
 ∃l,CF f [Ah T,AO A] (.Aj [(false,[Au l]),(false,[.bool false])])
theorem mc {q i:Re} (h:BC R (r::u)) (ih:V6 284 R u) (W:T=tw (r::u)) (hA:A=em (r::u) x) (hx:El (r::u) s x) (M:x=p+q*rt u r) (O:El u s p) (L:El u s q) (hi:In u i) (P:(p*p-q*q*AQ u r)*i=1) (hy:y=p*i+ -(q*i)*rt u r) (hs:II (r::u).length R s<=60000000000000) (hB:B=em (r::u) y):CF 284 [Ah T,AO A] (.Aj [(false,[Au B]),(false,[.bool true])]):=by
 have ad:II (r::u).length R s=s+EE u.length R+II u.length R (2*s+2*EE u.length R+R+1):=rfl;have hN:=El.norm h O.mem L.mem (M ▸ hx);have f:=hN.inv h.tail hi P;have a7:=FE u.length R (2*s+2*EE u.length R+R+1);refine AM Tryz.func284 fun E K=>?_
 rintro ae ⟨ab,f15⟩;refine BS (fun a1=>?_) fun a1=>?_
 ·exact absurd (List.length_eq_zero_iff.1 AA) (W ▸ Md r u)
 obtain⟨af,j⟩:=xV (tw u);obtain⟨ag,V⟩:=xR (BF r);refine AB K (VL W j V) ?_;obtain⟨ah,F⟩:=xR (em u (p*p-q*q*AQ u r));refine AB K (aG h W hA hx M O.mem L.mem AA F) ?_;obtain⟨ai,k⟩:=xR (em u i);refine AB K (ih j F hN hi P AA k) ?_;refine BM ?_;obtain⟨aj,G⟩:=xR (em u p);obtain⟨ak,H⟩:=xR (em u q);refine AB K (Py h.red O.mem L.mem M hA G H) ?_;obtain⟨z,m⟩:=xR (em u (p*i));obtain⟨aa,v⟩:=xN z.length;refine AB K (mulC h.tail j G k O f AA m v) ?_;obtain⟨al,I⟩:=xR (em u (q*i));refine AB K (Nx h.tail j H k L f AA I) ?_;obtain⟨D,w⟩:=xR (em u (-(q*i)));refine AB K (QW h.tail I (L.mul h.tail f) AA w) ?_;have a5:z.length=2^u.length:=by rw[m,Bh (O.mul h.tail f).mem]
 have a6:D.length=2^u.length:=by rw[w,Bh ((L.mul h.tail f).neg h.red.1).mem]
 have a8:=Dh h.tail.ht;refine .inl ⟨D,fun _=>⟨rfl,v,rfl,B5 (z.length+D.length) 64⟩,?_⟩;intro (N:LR) a2 J;have S:N=(z:LR)++(D:LR):=J.1;have U:a2=List.length (α:=(el AG)) N:=J.2;conv=>cbv
 have Q:B=N:=by rw[hB,S,m,w];exact Ff h.red (O.mul h.tail f).mem ((L.mul h.tail f).neg h.red.1).mem hy
 exact AN ⟨⟨rfl,.inl ⟨_,rfl,AA,congrArg _ (by rw[Q,U,List.drop_zero,List.take_length])⟩,trivial⟩,t2,trivial⟩
theorem mV (h:BC R u):V6 284 R u:=by
 induction u with
 | nil=>
  intro T A B s x y G w m J f I z;obtain⟨p,rfl⟩:=Cy.1 m.mem;obtain⟨q,rfl⟩:=Cy.1 J;rw[Ds] at w z;rw[<-Re.ofRat_mul] at f;have e:=Re.Kk.1 f;have k:=m.CM (by have:=FE 0 R s;have:II ([]:AD).length R s=II 0 R s:=rfl;omega);rw[DH] at k;exact mW G w z (k _ List.mem_cons_self) (by intro K;subst K;grind) (by grind)
 | cons r u D=>
  intro T A B s x y G w m J f I z;obtain⟨p,q,j,k,H⟩:=El.parts h.red m;have O:=Cz h.red;have L:=El.norm h k.mem H.mem (j ▸ m);have F:p*p-q*q*AQ u r≠0:=aF h.red k.mem H.mem (by intro e;rw[<-j] at e;rw[e] at f;have N:(0:Re)<1:=Re.IJ.2 (AE:(0:Rat)<1);grind);obtain⟨i,M,v⟩:=EU h.red.1 L.mem F;refine mc h (D h.tail) G w m j k H M v ?_ I z
  have:y=x*y*((p-q*rt u r)*i):=by
   have:x*y*((p-q*rt u r)*i)=y*((p*p-q*q*AQ u r)*i):=by rw[j];clear D;grind
   rw[this,v];clear D;grind
  rw[f] at this
  clear D;grind
theorem LD (h:BC R u) (z:T=tw u) (k:A=em u x) (m:B=em u y) (f:El u s x) (j:El u t y) (D:s<=60000000000000) (ht:t<=60000000000000) (w:C=em u (x+y)):CF 222 [Ah T,AO A,AO B] (AO C):=by
 refine AM Tryz.func222 fun E v=>?_
 refine AB (r:= .one (.bool true)) v (TA z h.G4 k (f.CM AA) (by rw[f.len,List.length_reverse]) m (j.CM AA) (by rw[j.len,List.length_reverse])) ?_;refine BM ?_;refine AB v (O0 h k m f j D ht w) ?_;exact AN ⟨t2,trivial⟩
theorem Of (h:BC R u) (D:T=tw u) (v:A=em u x) (w:B=em u y) (m:El u s x) (j:El u t y) (F:s<=60000000000000) (ht:t<=60000000000000) (z:C=em u (x-y)):CF 135 [Ah T,AO A,AO B] (AO C):=by
 refine AM Tryz.func135 fun E k=>?_
 refine AB (r:= .one (.bool true)) k (TA D h.G4 v (m.CM AA) (by rw[m.len,List.length_reverse]) w (j.CM AA) (by rw[j.len,List.length_reverse])) ?_;refine BM ?_;obtain⟨G,f⟩:=xR (em u (-y));refine AB k (QW h w j ht f) ?_;refine AB (r:= .one (Au C)) k (O0 h v f m (j.neg h.red) F ht (by rw[z];congr 1)) ?_;exact AN ⟨t2,trivial⟩
theorem Hu (h:BC R u) (z:T=tw u) (m:A=em u x) (v:B=em u y) (j:El u s x) (k:El u t y) (f:s+t+EE u.length R<=60000000000000) (D:C=em u (x*y)):CF 192 [Ah T,AO A,AO B] (AO C):=by
 refine AM Tryz.func192 fun E w=>?_
 refine AB (r:= .one (.bool true)) w (TA z h.G4 m (j.CM AA) (by rw[j.len,List.length_reverse]) v (k.CM AA) (by rw[k.len,List.length_reverse])) ?_;refine BM ?_;refine AB w (Nx h z m v j k f D) ?_;exact AN ⟨t2,trivial⟩
theorem WD (h:BC R u) (v:T=tw u) (j:A=em u x) (f:El u s x) (w:s<=60000000000000) (m:C=em u (-x)):CF 74 [Ah T,AO A] (AO C):=by
 refine AM Tryz.func74 fun E k=>?_
 refine AB (r:= .one (.bool true)) k (IU v h.G4 j (f.CM AA) (by rw[f.len,List.length_reverse];exact (decide_eq_true rfl).symm)) ?_;refine BM ?_;refine AB k (QW h j f w m) ?_;exact AN ⟨t2,trivial⟩
theorem Oa (h:BC R u) (v:T=tw u) (k:A=em u x) (f:El u s x) (F:In u y) (j:x*y=1) (D:II u.length R s<=60000000000000) (w:C=em u y):CF 244 [Ah T,AO A] (.Aj [(false,[Au C]),(false,[.int .i64 0])]):=by
 have z:=FE u.length R s;refine AM Tryz.func244 fun E m=>?_
 refine AB (r:= .one (.bool true)) m (IU v h.G4 k (f.CM AA) (by rw[f.len,List.length_reverse];exact (decide_eq_true rfl).symm)) ?_;refine BM ?_;refine AB m (mV h v k f F j D w) ?_;refine BM ?_;exact AN ⟨t2,t2,trivial⟩
theorem Rk {q:Re} (h:BC R (r::u)) (f:T=tw (r::u)) (z:A=em (r::u) x) (m:El (r::u) s x) (v:x=p+q*rt u r) (j:In u p) (k:In u q) (H:2*s+2*EE u.length R+R+1<=60000000000000) (G:C=em u (p*p-q*q*AQ u r)):CF 278 [Ah T,AO A] (AO C):=by
 refine AM Tryz.func278 fun E D=>?_
 refine AB (r:= .one (.bool true)) D (IU f h.G4 z (m.CM AA) (by rw[m.len,List.length_reverse];exact (decide_eq_true rfl).symm)) ?_;refine BM ?_;rintro I ⟨F,f11⟩;refine BS (fun w=>?_) fun w=>?_
 ·exact absurd (List.length_eq_zero_iff.1 AA) (f ▸ Md r u)
 refine AB D (aG h f z m v j k H G) ?_;exact AN ⟨t2,trivial⟩
theorem qU {n:Nat} (h:0<n):(List.replicate n (rp 0)).set 0 (rp q)=rp q::List.replicate (n-1) (rp 0):=by
 cases n with
 | zero=>omega
 | succ n=>rfl
theorem YZ (h:Ag u):em u (Re.ofRat q)=(em u 0).set 0 (rp q):=by
 rw[em,H4 q h,Sl h,BF,BF,List.map_cons,List.map_replicate,List.map_replicate,qU (DK _)]
theorem Ya (h:Ag (r::u)):em (r::u) (rt u r)=(em (r::u) 0).set (2^u.length) (rp 1):=by
 have e:rt u r=0+1*rt u r:=by grind
 rw[Ff h (CO u) (Kd u) e,Ff (x:=0) h (CO u) (CO u) (by grind),List.set_append_right _ _ (by rw[Bh (CO u)];omega),Bh (CO u),Nat.sub_self]
 congr 1
 exact YZ (q:=1) h.1
theorem KF {b1 b2:Bool} {l1 l2:List UInt32} (h:BC R u) (K:T=tw u) (H:BV q b1 l1 b2 l2) (S:B8 q) (O:C=em u (Re.ofRat q)):CF 251 [Ah T,.agg (Br b1 l1 b2 l2)] (AO C):=by
 refine AM Tryz.func251 fun E F=>?_
 refine AB F (Un K h.G4 rfl) ?_;refine BM ?_;have Q:=H.small S;refine AB F (WI (Mh.2 ⟨q,H⟩).symm AA AA) ?_;refine BM ?_;have G:T.length=u.length:=by rw[K,CA]
 have w:=h.ht;refine AK ?_;rintro U ⟨D,f15⟩ V w;obtain⟨j,f⟩:=xR (em u (0));obtain⟨N,m⟩:=xN j.length;refine AB F (RW h (FY w (D.trans (congrArg _ G))) f m) ?_;have M:j.length=2^u.length:=by rw[f,Bh (CO u)]
 have P:=DK u.length;refine AK ?_;intro I L;refine⟨((b1,l1),(b2,l2)),fun _=>⟨by show _<List.length (α:=(el AG)) j;(first | omega | (simp;omega)),C5⟩,?_⟩;intro (v:LR) (k:v=List.set (α:=(el AG)) j I (((b1,l1),(b2,l2))));have J:v.length=j.length:=by rw[k,List.length_set]
 conv=>cbv
 have z:C=v:=by rw[O,YZ h.red,k,f,H.rp];congr 1;omega
 exact AN ⟨⟨rfl,.inl ⟨_,rfl,AA,congrArg _ (by rw[z,List.drop_zero,List.take_of_length_le AA])⟩,trivial⟩,trivial⟩
theorem gO {k:Int} (h:BC R (r::u)) (V:T=tw (r::u)) (hk:AR k u.length) (hC:C=em (r::u) (rt u r)):CF 179 [Ah T,AH k] (AO C):=by
 have ek:=hk.eq;have Q:T.length=u.length+1:=by rw[V,CA];rfl
 have a8:=h.ht;have W:(r::u).length=u.length+1:=rfl;refine AM Tryz.func179 fun E P=>?_
 refine AB P (Un V h.G4 rfl) ?_;refine BM ?_;refine DF (fun K=>?_) fun K=>?_
 ·exact absurd K AA
 intro ad I;have a7:=I.eq;have f16:=I.le;refine Mk (fun L=>?_) fun L=>?_
 ·exact absurd L AA
 rintro ae ⟨M,f20⟩ af N;obtain⟨j,f⟩:=xR (em (r::u) (0));obtain⟨a6,G⟩:=xN j.length;refine AB P (RW h (FY N (M.trans (congrArg _ Q))) f G) ?_;intro ag O;obtain⟨D,F,w,z,v⟩:=By (((1:Int):Rat));refine AB P (Hw AA rfl v) ?_;have a2:j.length=2^(r::u).length:=by rw[f,Bh (CO _)]
 have ab:=DK u.length;have aa:=Bz r u;have a5:=(FY O ek).eq;refine AK ?_;intro S a1;refine⟨((D,F),(w,z)),fun _=>⟨by show _<List.length (α:=(el AG)) j;(first | omega | (simp;omega)),C5⟩,?_⟩;intro (H:LR) (m:H=List.set (α:=(el AG)) j S (((D,F),(w,z))));have U:H.length=j.length:=by rw[m,List.length_set]
 conv=>cbv
 refine g2 rfl ?_;have J:C=H:=by rw[hC,Ya h.red,m,f];congr 1 <;> first | omega | exact v.rp
 exact AN ⟨⟨rfl,.inl ⟨_,rfl,AA,congrArg _ (by rw[J,List.drop_zero,List.take_of_length_le AA])⟩,trivial⟩,trivial⟩
end
section
variable {a b:Nat} {b1 b2 c c1 c2 d1 d2:Bool} {k1 k2 l l' l1 l2 m1 m2:List UInt32} {r:Rat} {x y:Int}
theorem QR (p q:Rat):(p*q).num=(p.num/((Nat.gcd p.num.natAbs q.den:Nat):Int))*(q.num/((Nat.gcd q.num.natAbs p.den:Nat):Int)):=by
 show (Rat.mul p q).num=_
 unfold Rat.mul
 dsimp only
 rw[Int.divExact_eq_ediv,Int.divExact_eq_ediv]
theorem QP (p q:Rat):((p*q).den:Int)=((p.den:Int)/((Nat.gcd q.num.natAbs p.den:Nat):Int))*((q.den:Int)/((Nat.gcd p.num.natAbs q.den:Nat):Int)):=by
 have:(p*q).den=(p.den/Nat.gcd q.num.natAbs p.den)*(q.den/Nat.gcd p.num.natAbs q.den):=by
  show (Rat.mul p q).den=_
  unfold Rat.mul
  dsimp only
  rw[Nat.divExact_eq_div,Nat.divExact_eq_div]
 rw[this,Int.natCast_mul,Int.natCast_ediv,Int.natCast_ediv]
theorem XA (p q:Rat) (h:Nat.gcd p.den q.den=1):(p+q).num=p.num*q.den+q.num*p.den/\((p+q).den:Int)=(p.den:Int)*q.den:=by
 have:(p+q)=Rat.add p q:=rfl;rw[this];unfold Rat.add
 dsimp only
 rw[dif_pos h];exact⟨rfl,by rw[Int.natCast_mul]⟩
theorem XB (p q:Rat) {g h:Nat} {N:Int} (k:g=Nat.gcd p.den q.den) (w:g≠1) (F:x=(p.den:Int)/g) (G:y=(q.den:Int)/g) (z:N=p.num*y+q.num*x) (v:h=Nat.gcd N.natAbs g):
  (p+q).num=N/h/\((p+q).den:Int)=x*((q.den:Int)/h):=by
 have e:(p+q)=Rat.add p q:=rfl;have f:x=((p.den/g:Nat):Int):=by rw[F,Int.natCast_ediv]
 have m:y=((q.den/g:Nat):Int):=by rw[G,Int.natCast_ediv]
 have j:p.num*((q.den/Nat.gcd p.den q.den:Nat):Int)+q.num*((p.den/Nat.gcd p.den q.den:Nat):Int)=N:=by rw[z,f,m,k]
 have D:h∣q.den:=by rw[v];exact Nat.dvd_trans (Nat.gcd_dvd_right _ _) (by rw[k];exact Nat.gcd_dvd_right _ _)
 subst k;rw[e];unfold Rat.add
 dsimp only
 rw[dif_neg w,Rat.maybeNormalize_eq]
 dsimp only
 rw[Int.divExact_eq_ediv,j,<-v];refine⟨rfl,?_⟩;rw[f,Nat.mul_div_assoc _ D,Int.natCast_mul,Int.natCast_ediv (q.den)]
theorem FR {a:Int} (hb:b≠0):a=a/((Nat.gcd a.natAbs b:Nat):Int)*((Nat.gcd a.natAbs b:Nat):Int)/\(b:Int)=(b:Int)/((Nat.gcd a.natAbs b:Nat):Int)*((Nat.gcd a.natAbs b:Nat):Int):=by
 exact⟨(Int.ediv_mul_cancel (Int.ofNat_dvd_left.2 (Nat.gcd_dvd_left _ _))).symm,(Int.ediv_mul_cancel (Int.natCast_dvd_natCast.2 (Nat.gcd_dvd_right _ _))).symm⟩
theorem FJ (hb:b≠0):((Nat.gcd a b:Nat):Int)≠0:=by
 have:=Nat.gcd_pos_of_pos_right a (n:=b) AA;omega
theorem Gj {q:Int} {b b':Bool} (j:BB x b l) (f:BB q b' l') (k:y≠0) (h:x=q*y):l'.length<=l.length:=by
 rw[j.Bb,f.Bb];exact EV (by rw[h,Int.natAbs_mul];exact Nat.le_mul_of_pos_right _ AA)
theorem HF {x:Int} {f:Bool} (hb:b≠0) (h:BB (b:Int) c l) (h':BB ((Nat.gcd a b:Nat):Int) f l'):l'.length<=l.length:=by
 rw[h.Bb,h'.Bb,Int.natAbs_natCast,Int.natAbs_natCast];exact EV (Nat.le_of_dvd AA (Nat.gcd_dvd_right _ _))
theorem JK {b:Bool} (j:BB x b l) (m:c=decide (x=1)):CF 101 [.agg (BZ b l)] (.one (.bool c)):=by
 refine AM Tryz.func101 fun E I=>?_
 rintro J ⟨H,f5⟩;refine CN (fun z=>?_) fun z=>?_
 ·exact AL (by rw[m];exact (aX j AA).symm)
 refine Ae 0 fun G f=>?_
 refine AW ?_;intro D h;have w:=h.eq;have f11:=h.lt;refine CN (fun v=>?_) fun v=>?_
 ·exact AL (by rw[m];cases b with | true=>exact (UX j rfl).symm | false=>rw[<-UZ j rfl AA f];simp only[decide_eq_false_iff_not];omega)
 intro F k;exact AL (by rw[m,k];cases b with | true=>exact (UX j rfl).symm | false=>rw[<-UZ j rfl AA f];simp;omega)
theorem Ew {q:Int} {b3:Bool} {l3:List UInt32} (m:BB x b1 l1) (v:BB y b2 l2) (h:y≠0) (f:x=q*y) (k:BB q b3 l3) (s1:l1.length<=17592186043000) (s2:l2.length<=17592186043000):CF 200 [.agg (BZ b1 l1),.agg (BZ b2 l2)] (.agg (BZ b3 l3)):=by
 refine AM Tryz.func200 fun E j=>?_
 refine AB j (gg m v h f k s1 s2) ?_;exact AN ⟨t3,trivial⟩
theorem Ec {q:Rat} (v: -9223372036854775808<=x/\x<9223372036854775808) (j:q=(x:Rat)) (k:BV q c1 m1 c2 m2):CF 16 [AH x] (.agg (Br c1 m1 c2 m2)):=by
 refine AM Tryz.func16 fun E m=>?_
 obtain⟨w,D,f⟩:=Av (x);refine AB m (M1 v f) ?_;obtain⟨z,F,h⟩:=Av (1);refine AB m (M1 AA h) ?_;exact AN ⟨⟨rfl,congrArg _ ((f.uniq k.num (by rw[j];rfl)).1.symm),congrArg _ ((f.uniq k.num (by rw[j];rfl)).2.symm),congrArg _ ((h.uniq k.den (by rw[j];rfl)).1.symm),congrArg _ ((h.uniq k.den (by rw[j];rfl)).2.symm),trivial⟩,trivial⟩
theorem On {q:Rat} {c:Int} (k:BV q b1 l1 b2 l2) (j:c=Dm q):CF 141 [.agg (Br b1 l1 b2 l2)] (AH c):=by
 refine AM Tryz.func141 fun E h=>?_
 obtain⟨m,f⟩:=xI (Cd q.num);refine AB h (KL k.num f) ?_;exact AL (by rw[j,f];rfl)
theorem g8 {q p:Rat} (k:BV q b1 l1 b2 l2) (h:p= -q) (j:BV p c1 m1 c2 m2):CF 103 [.agg (Br b1 l1 b2 l2)] (.agg (Br c1 m1 c2 m2)):=by
 refine AM Tryz.func103 fun E m=>?_
 obtain⟨v,w,f⟩:=Av (-q.num);refine AB m (M4 k.num f) ?_;exact AN ⟨⟨rfl,congrArg _ ((f.uniq j.num (by rw[h];rfl)).1.symm),congrArg _ ((f.uniq j.num (by rw[h];rfl)).2.symm),congrArg _ ((k.den.uniq j.den (by rw[h];rfl)).1.symm),congrArg _ ((k.den.uniq j.den (by rw[h];rfl)).2.symm),trivial⟩,trivial⟩
theorem gy {p q:Rat} {c:Int} (h:BV p b1 l1 b2 l2) (j:BV q c1 m1 c2 m2) (v:B8 p) (ht:B8 q) (I:c=HC p q):CF 296 [.agg (Br b1 l1 b2 l2),.agg (Br c1 m1 c2 m2)] (AH c):=by
 refine AM Tryz.func296 fun E D=>?_
 obtain⟨G,H,m⟩:=Av (p.num*q.den);refine AB (r:= .agg [.bool G,.sl .u32 H]) D (EA h.num j.den m (by have:=h.small v;have:=j.small ht;omega) (by have:=h.small v;have:=j.small ht;omega)) ?_;obtain⟨w,z,f⟩:=Av (q.num*p.den);refine AB (r:= .agg [.bool w,.sl .u32 z]) D (EA j.num h.den f (by have:=h.small v;have:=j.small ht;omega) (by have:=h.small v;have:=j.small ht;omega)) ?_;obtain⟨F,k⟩:=xI (Bp (p.num*q.den) (q.num*p.den));refine AB (r:= .one (.int .i64 F)) D (gb m f k (by have:=h.small v;have:=j.small ht;have:=h.num.Dq j.den m rfl;omega) (by have:=h.small v;have:=j.small ht;have:=j.num.Dq h.den f rfl;omega)) ?_;exact AL (by rw[I,k,X4])
theorem Om {p q:Rat} (w:BV p b1 l1 b2 l2) (K:BV q c1 m1 c2 m2) (hs:B8 p) (ht:B8 q) (N:r=p*q) (L:BV r d1 k1 d2 k2):CF 145 [.agg (Br b1 l1 b2 l2),.agg (Br c1 m1 c2 m2)] (.agg (Br d1 k1 d2 k2)):=by
 have aw:=w.small hs;have ax:=K.small ht;have f:=p.den_nz;have h:=q.den_nz;refine AM Tryz.func145 fun E J=>?_
 rintro ay ⟨au,f10⟩;refine BS (fun an=>?_) fun an=>?_
 ·obtain⟨S,a6,P,Q,j⟩:=By (r);refine AB (r:= .agg [.bool S,.sl .u32 a6,.bool P,.sl .u32 Q]) J (Ec (x:=0) AA (by rw[N];first | (rw[Rat.num_eq_zero.1 (w.num.F1.1 AA),Rat.zero_mul];rfl) | (rw[Rat.num_eq_zero.1 (K.num.F1.1 AA),Rat.mul_zero];rfl)) j) ?_;exact AN ⟨⟨rfl,congrArg _ ((j.uniq L rfl).1.1.symm),congrArg _ ((j.uniq L rfl).1.2.symm),congrArg _ ((j.uniq L rfl).2.1.symm),congrArg _ ((j.uniq L rfl).2.2.symm),trivial⟩,trivial⟩
 intro az af;have av:=af.eq;have f16:=af.le;refine BS (fun ao=>?_) fun ao=>?_
 ·obtain⟨S,a6,P,Q,j⟩:=By (r);refine AB (r:= .agg [.bool S,.sl .u32 a6,.bool P,.sl .u32 Q]) J (Ec (x:=0) AA (by rw[N];first | (rw[Rat.num_eq_zero.1 (w.num.F1.1 AA),Rat.zero_mul];rfl) | (rw[Rat.num_eq_zero.1 (K.num.F1.1 AA),Rat.mul_zero];rfl)) j) ?_;exact AN ⟨⟨rfl,congrArg _ ((j.uniq L rfl).1.1.symm),congrArg _ ((j.uniq L rfl).1.2.symm),congrArg _ ((j.uniq L rfl).2.1.symm),congrArg _ ((j.uniq L rfl).2.2.symm),trivial⟩,trivial⟩
 obtain⟨ak,v⟩:=xB (decide ((p.den:Int)=1));refine AB J (JK w.den v) ?_;cases ak <;> conv=>cbv
 ·obtain⟨ag,ai,k⟩:=Av (((Nat.gcd p.num.natAbs q.den:Nat):Int));refine AB J (HW w.num K.den k AA AA) ?_;obtain⟨ah,aj,m⟩:=Av (((Nat.gcd q.num.natAbs p.den:Nat):Int));refine AB J (HW K.num w.den m AA AA) ?_;obtain⟨U,a7,z⟩:=Av (p.num/((Nat.gcd p.num.natAbs q.den:Nat):Int));refine AB (r:= .agg [.bool U,.sl .u32 a7]) J (Ew w.num k (FJ h) (FR h).1 z AA (by have:=HF (x:=0) h K.den k;omega)) ?_;obtain⟨V,a8,D⟩:=Av (q.num/((Nat.gcd q.num.natAbs p.den:Nat):Int));refine AB (r:= .agg [.bool V,.sl .u32 a8]) J (Ew K.num m (FJ f) (FR f).1 D AA (by have:=HF (x:=0) f w.den m;omega)) ?_;obtain⟨W,aa,F⟩:=Av ((p.num/((Nat.gcd p.num.natAbs q.den:Nat):Int))*(q.num/((Nat.gcd q.num.natAbs p.den:Nat):Int)))
  refine AB (r:= .agg [.bool W,.sl .u32 aa]) J (EA z D F (by have:=Gj w.num z (FJ h) (FR h).1;omega) (by have:=Gj K.num D (FJ f) (FR f).1;omega)) ?_;obtain⟨a1,ab,G⟩:=Av ((p.den:Int)/((Nat.gcd q.num.natAbs p.den:Nat):Int));refine AB (r:= .agg [.bool a1,.sl .u32 ab]) J (Ew w.den m (FJ f) (FR f).2 G AA (by have:=HF (x:=0) f w.den m;omega)) ?_;obtain⟨a2,ad,H⟩:=Av ((q.den:Int)/((Nat.gcd p.num.natAbs q.den:Nat):Int));refine AB (r:= .agg [.bool a2,.sl .u32 ad]) J (Ew K.den k (FJ h) (FR h).2 H AA (by have:=HF (x:=0) h K.den k;omega)) ?_;obtain⟨a5,ae,I⟩:=Av (((p.den:Int)/((Nat.gcd q.num.natAbs p.den:Nat):Int))*((q.den:Int)/((Nat.gcd p.num.natAbs q.den:Nat):Int)));refine AB (r:= .agg [.bool a5,.sl .u32 ae]) J (EA G H I (by have:=Gj w.den G (FJ f) (FR f).2;omega) (by have:=Gj K.den H (FJ h) (FR h).2;omega)) ?_
  exact AN ⟨⟨rfl,congrArg _ ((F.uniq L.num (by rw[N,QR])).1.symm),congrArg _ ((F.uniq L.num (by rw[N,QR])).2.symm),congrArg _ ((I.uniq L.den (by rw[N,QP])).1.symm),congrArg _ ((I.uniq L.den (by rw[N,QP])).2.symm),trivial⟩,trivial⟩
 obtain⟨al,M⟩:=xB (decide ((q.den:Int)=1));refine AB J (JK K.den M) ?_;cases al <;> conv=>cbv
 ·obtain⟨ag,ai,k⟩:=Av (((Nat.gcd p.num.natAbs q.den:Nat):Int));refine AB J (HW w.num K.den k AA AA) ?_;obtain⟨ah,aj,m⟩:=Av (((Nat.gcd q.num.natAbs p.den:Nat):Int));refine AB J (HW K.num w.den m AA AA) ?_;obtain⟨U,a7,z⟩:=Av (p.num/((Nat.gcd p.num.natAbs q.den:Nat):Int));refine AB (r:= .agg [.bool U,.sl .u32 a7]) J (Ew w.num k (FJ h) (FR h).1 z AA (by have:=HF (x:=0) h K.den k;omega)) ?_;obtain⟨V,a8,D⟩:=Av (q.num/((Nat.gcd q.num.natAbs p.den:Nat):Int));refine AB (r:= .agg [.bool V,.sl .u32 a8]) J (Ew K.num m (FJ f) (FR f).1 D AA (by have:=HF (x:=0) f w.den m;omega)) ?_;obtain⟨W,aa,F⟩:=Av ((p.num/((Nat.gcd p.num.natAbs q.den:Nat):Int))*(q.num/((Nat.gcd q.num.natAbs p.den:Nat):Int)))
  refine AB (r:= .agg [.bool W,.sl .u32 aa]) J (EA z D F (by have:=Gj w.num z (FJ h) (FR h).1;omega) (by have:=Gj K.num D (FJ f) (FR f).1;omega)) ?_;obtain⟨a1,ab,G⟩:=Av ((p.den:Int)/((Nat.gcd q.num.natAbs p.den:Nat):Int));refine AB (r:= .agg [.bool a1,.sl .u32 ab]) J (Ew w.den m (FJ f) (FR f).2 G AA (by have:=HF (x:=0) f w.den m;omega)) ?_;obtain⟨a2,ad,H⟩:=Av ((q.den:Int)/((Nat.gcd p.num.natAbs q.den:Nat):Int));refine AB (r:= .agg [.bool a2,.sl .u32 ad]) J (Ew K.den k (FJ h) (FR h).2 H AA (by have:=HF (x:=0) h K.den k;omega)) ?_;obtain⟨a5,ae,I⟩:=Av (((p.den:Int)/((Nat.gcd q.num.natAbs p.den:Nat):Int))*((q.den:Int)/((Nat.gcd p.num.natAbs q.den:Nat):Int)));refine AB (r:= .agg [.bool a5,.sl .u32 ae]) J (EA G H I (by have:=Gj w.den G (FJ f) (FR f).2;omega) (by have:=Gj K.den H (FJ h) (FR h).2;omega)) ?_
  exact AN ⟨⟨rfl,congrArg _ ((F.uniq L.num (by rw[N,QR])).1.symm),congrArg _ ((F.uniq L.num (by rw[N,QR])).2.symm),congrArg _ ((I.uniq L.den (by rw[N,QP])).1.symm),congrArg _ ((I.uniq L.den (by rw[N,QP])).2.symm),trivial⟩,trivial⟩
 obtain⟨aq,ar,O⟩:=Av (p.num*q.num);refine AB J (EA w.num K.num O AA AA) ?_;exact AN ⟨⟨rfl,congrArg _ ((O.uniq L.num (by rw[N];exact (mul_ones (of_decide_eq_true v.symm) (of_decide_eq_true M.symm)).1.symm)).1.symm),congrArg _ ((O.uniq L.num (by rw[N];exact (mul_ones (of_decide_eq_true v.symm) (of_decide_eq_true M.symm)).1.symm)).2.symm),congrArg _ ((w.den.uniq L.den (by rw[N,(mul_ones (of_decide_eq_true v.symm) (of_decide_eq_true M.symm)).2];exact of_decide_eq_true v.symm)).1.symm),congrArg _ ((w.den.uniq L.den (by rw[N,(mul_ones (of_decide_eq_true v.symm) (of_decide_eq_true M.symm)).2];exact of_decide_eq_true v.symm)).2.symm),trivial⟩,trivial⟩
theorem Wc {p q:Rat} (v:BV p b1 l1 b2 l2) (j:BV q c1 m1 c2 m2) (hs:B8 p) (ht:B8 q) (S:r=p+q) (H:BV r d1 k1 d2 k2):CF 148 [.agg (Br b1 l1 b2 l2),.agg (Br c1 m1 c2 m2)] (.agg (Br d1 k1 d2 k2)):=by
 have b3:=v.small hs;have b4:=j.small ht;have b0:=p.den_nz;have ah:=q.den_nz;have W:((Nat.gcd p.den q.den:Nat):Int)≠0:=FJ ah;obtain⟨x,ai⟩:=xI ((p.den:Int)/((Nat.gcd p.den q.den:Nat):Int));obtain⟨y,aj⟩:=xI ((q.den:Int)/((Nat.gcd p.den q.den:Nat):Int));have ad:(p.den:Int)=x*((Nat.gcd p.den q.den:Nat):Int):=by rw[ai];exact (Int.ediv_mul_cancel (Int.natCast_dvd_natCast.2 (Nat.gcd_dvd_left _ _))).symm
 have ae:(q.den:Int)=y*((Nat.gcd p.den q.den:Nat):Int):=by rw[aj];exact (Int.ediv_mul_cancel (Int.natCast_dvd_natCast.2 (Nat.gcd_dvd_right _ _))).symm
 refine H0 Tryz.func148 fun E m=>?_
 refine AW ?_;rintro b7 ⟨aY,f14⟩;refine Lb ?_ ?_ <;> intro b5 <;> conv=>cbv
 ·have e0:p=0:=Rat.num_eq_zero.1 (v.num.F1.1 AA);have e1:r=q:=by rw[S,e0,Rat.zero_add]
  exact AN ⟨⟨rfl,congrArg _ ((j.num.uniq H.num (by rw[e1])).1.symm),congrArg _ ((j.num.uniq H.num (by rw[e1])).2.symm),congrArg _ ((j.den.uniq H.den (by rw[e1])).1.symm),congrArg _ ((j.den.uniq H.den (by rw[e1])).2.symm),trivial⟩,trivial⟩
 rintro b8 ⟨aZ,f20⟩;conv=>cbv
 refine Lb ?_ ?_ <;> intro b6 <;> conv=>cbv
 ·have e0:q=0:=Rat.num_eq_zero.1 (j.num.F1.1 AA);have e1:r=p:=by rw[S,e0,Rat.add_zero]
  exact AN ⟨⟨rfl,congrArg _ ((v.num.uniq H.num (by rw[e1])).1.symm),congrArg _ ((v.num.uniq H.num (by rw[e1])).2.symm),congrArg _ ((v.den.uniq H.den (by rw[e1])).1.symm),congrArg _ ((v.den.uniq H.den (by rw[e1])).2.symm),trivial⟩,trivial⟩
 obtain⟨aU,I⟩:=xB (decide ((p.den:Int)=1));refine BO m (JK v.den I) ?_;conv=>cbv
 cases aU <;> conv=>cbv
 ·obtain⟨aw,aI,f⟩:=Av (((Nat.gcd p.den q.den:Nat):Int));refine BO m (HW v.den j.den f AA AA) ?_;conv=>cbv
  have ak:=HF (x:=0) ah j.den f;obtain⟨af,J⟩:=xB (decide (((Nat.gcd p.den q.den:Nat):Int)=1));refine BO m (JK f J) ?_;conv=>cbv
  cases af <;> conv=>cbv
  ·obtain⟨aA,aM,h⟩:=Av (x);refine BO m (Ew v.den f W ad h AA AA) ?_;conv=>cbv
   have al:=Gj v.den h W ad;obtain⟨aB,aN,w⟩:=Av (y);refine BO m (Ew j.den f W ae w AA AA) ?_;conv=>cbv
   have an:=Gj j.den w W ae;refine g2 rfl ?_;obtain⟨aC,aO,z⟩:=Av (p.num*y);refine BO m (EA v.num w z AA AA) ?_;conv=>cbv
   have ao:=v.num.Dq w z rfl;obtain⟨aD,aP,D⟩:=Av (q.num*x);refine BO m (EA j.num h D AA AA) ?_;conv=>cbv
   have aq:=j.num.Dq h D rfl;obtain⟨aE,aQ,F⟩:=Av ((p.num*y+q.num*x));refine BO m (LI z D F AA AA) ?_;conv=>cbv
   have ar:=z.Oy D F rfl (k:=8000000000000) AA AA;refine g2 rfl ?_;obtain⟨a8,ab,G⟩:=Av (((Nat.gcd (p.num*y+q.num*x).natAbs (Nat.gcd p.den q.den):Nat):Int));refine BO (r:= .agg [.bool a8,.sl .u32 ab]) m (HW F f (by rw[Int.natAbs_natCast];exact G) AA AA) ?_;try conv=>cbv
   have a1:Nat.gcd p.den q.den≠0:=AA
   have au:=HF (x:=0) a1 f G;have ag:(p.num*y+q.num*x)=(p.num*y+q.num*x)/((Nat.gcd (p.num*y+q.num*x).natAbs (Nat.gcd p.den q.den):Nat):Int)*((Nat.gcd (p.num*y+q.num*x).natAbs (Nat.gcd p.den q.den):Nat):Int):=(FR a1).1;have a2:=FJ (a:=(p.num*y+q.num*x).natAbs) a1;have a5:(q.den:Int)=(q.den:Int)/((Nat.gcd (p.num*y+q.num*x).natAbs (Nat.gcd p.den q.den):Nat):Int)*((Nat.gcd (p.num*y+q.num*x).natAbs (Nat.gcd p.den q.den):Nat):Int):=(Int.ediv_mul_cancel (Int.natCast_dvd_natCast.2 (Nat.dvd_trans (Nat.gcd_dvd_right _ _) (Nat.gcd_dvd_right _ _)))).symm;obtain⟨aF,aR,O⟩:=Av ((p.num*y+q.num*x)/((Nat.gcd (p.num*y+q.num*x).natAbs (Nat.gcd p.den q.den):Nat):Int));refine BO m (Ew F G a2 ag O AA AA) ?_;conv=>cbv
   obtain⟨aG,aS,P⟩:=Av ((q.den:Int)/((Nat.gcd (p.num*y+q.num*x).natAbs (Nat.gcd p.den q.den):Nat):Int));refine BO m (Ew j.den G a2 a5 P AA AA) ?_;conv=>cbv
   have av:=Gj j.den P a2 a5;obtain⟨aH,aT,Q⟩:=Av (x*((q.den:Int)/((Nat.gcd (p.num*y+q.num*x).natAbs (Nat.gcd p.den q.den):Nat):Int)));refine BO m (EA h P Q AA AA) ?_;conv=>cbv
   refine g2 rfl ?_;have U:=XB p q rfl (fun e=>by have:=of_decide_eq_false J.symm;omega) ai aj rfl rfl;exact AN ⟨⟨rfl,congrArg _ ((O.uniq H.num (by rw[S];exact U.1.symm)).1.symm),congrArg _ ((O.uniq H.num (by rw[S];exact U.1.symm)).2.symm),congrArg _ ((Q.uniq H.den (by rw[S];exact U.2.symm)).1.symm),congrArg _ ((Q.uniq H.den (by rw[S];exact U.2.symm)).2.symm),trivial⟩,trivial⟩
  obtain⟨ax,aJ,K⟩:=Av (p.num*q.den);refine BO m (EA v.num j.den K AA AA) ?_;conv=>cbv
  obtain⟨ay,aK,L⟩:=Av (q.num*p.den);refine BO m (EA j.num v.den L AA AA) ?_;conv=>cbv
  obtain⟨a7,aa,M⟩:=Av (p.num*q.den+q.num*p.den);refine BO (r:= .agg [.bool a7,.sl .u32 aa]) m (LI K L M (by have:=v.num.Dq j.den K rfl;omega) (by have:=j.num.Dq v.den L rfl;omega)) ?_;try conv=>cbv
  refine g2 rfl ?_;obtain⟨az,aL,N⟩:=Av ((p.den:Int)*q.den);refine BO m (EA v.den j.den N AA AA) ?_;conv=>cbv
  refine g2 rfl ?_;have U:=XA p q (by have:=of_decide_eq_true J.symm;omega);exact AN ⟨⟨rfl,congrArg _ ((M.uniq H.num (by rw[S];exact U.1.symm)).1.symm),congrArg _ ((M.uniq H.num (by rw[S];exact U.1.symm)).2.symm),congrArg _ ((N.uniq H.den (by rw[S];exact U.2.symm)).1.symm),congrArg _ ((N.uniq H.den (by rw[S];exact U.2.symm)).2.symm),trivial⟩,trivial⟩
 obtain⟨aV,V⟩:=xB (decide ((q.den:Int)=1));refine BO m (JK j.den V) ?_;conv=>cbv
 cases aV <;> conv=>cbv
 ·obtain⟨aw,aI,f⟩:=Av (((Nat.gcd p.den q.den:Nat):Int));refine BO m (HW v.den j.den f AA AA) ?_;conv=>cbv
  have ak:=HF (x:=0) ah j.den f;obtain⟨af,J⟩:=xB (decide (((Nat.gcd p.den q.den:Nat):Int)=1));refine BO m (JK f J) ?_;conv=>cbv
  cases af <;> conv=>cbv
  ·obtain⟨aA,aM,h⟩:=Av (x);refine BO m (Ew v.den f W ad h AA AA) ?_;conv=>cbv
   have al:=Gj v.den h W ad;obtain⟨aB,aN,w⟩:=Av (y);refine BO m (Ew j.den f W ae w AA AA) ?_;conv=>cbv
   have an:=Gj j.den w W ae;refine g2 rfl ?_;obtain⟨aC,aO,z⟩:=Av (p.num*y);refine BO m (EA v.num w z AA AA) ?_;conv=>cbv
   have ao:=v.num.Dq w z rfl;obtain⟨aD,aP,D⟩:=Av (q.num*x);refine BO m (EA j.num h D AA AA) ?_;conv=>cbv
   have aq:=j.num.Dq h D rfl;obtain⟨aE,aQ,F⟩:=Av ((p.num*y+q.num*x));refine BO m (LI z D F AA AA) ?_;conv=>cbv
   have ar:=z.Oy D F rfl (k:=8000000000000) AA AA;refine g2 rfl ?_;obtain⟨a8,ab,G⟩:=Av (((Nat.gcd (p.num*y+q.num*x).natAbs (Nat.gcd p.den q.den):Nat):Int));refine BO (r:= .agg [.bool a8,.sl .u32 ab]) m (HW F f (by rw[Int.natAbs_natCast];exact G) AA AA) ?_;try conv=>cbv
   have a1:Nat.gcd p.den q.den≠0:=AA
   have au:=HF (x:=0) a1 f G;have ag:(p.num*y+q.num*x)=(p.num*y+q.num*x)/((Nat.gcd (p.num*y+q.num*x).natAbs (Nat.gcd p.den q.den):Nat):Int)*((Nat.gcd (p.num*y+q.num*x).natAbs (Nat.gcd p.den q.den):Nat):Int):=(FR a1).1;have a2:=FJ (a:=(p.num*y+q.num*x).natAbs) a1;have a5:(q.den:Int)=(q.den:Int)/((Nat.gcd (p.num*y+q.num*x).natAbs (Nat.gcd p.den q.den):Nat):Int)*((Nat.gcd (p.num*y+q.num*x).natAbs (Nat.gcd p.den q.den):Nat):Int):=(Int.ediv_mul_cancel (Int.natCast_dvd_natCast.2 (Nat.dvd_trans (Nat.gcd_dvd_right _ _) (Nat.gcd_dvd_right _ _)))).symm;obtain⟨aF,aR,O⟩:=Av ((p.num*y+q.num*x)/((Nat.gcd (p.num*y+q.num*x).natAbs (Nat.gcd p.den q.den):Nat):Int));refine BO m (Ew F G a2 ag O AA AA) ?_;conv=>cbv
   obtain⟨aG,aS,P⟩:=Av ((q.den:Int)/((Nat.gcd (p.num*y+q.num*x).natAbs (Nat.gcd p.den q.den):Nat):Int));refine BO m (Ew j.den G a2 a5 P AA AA) ?_;conv=>cbv
   have av:=Gj j.den P a2 a5;obtain⟨aH,aT,Q⟩:=Av (x*((q.den:Int)/((Nat.gcd (p.num*y+q.num*x).natAbs (Nat.gcd p.den q.den):Nat):Int)));refine BO m (EA h P Q AA AA) ?_;conv=>cbv
   refine g2 rfl ?_;have U:=XB p q rfl (fun e=>by have:=of_decide_eq_false J.symm;omega) ai aj rfl rfl;exact AN ⟨⟨rfl,congrArg _ ((O.uniq H.num (by rw[S];exact U.1.symm)).1.symm),congrArg _ ((O.uniq H.num (by rw[S];exact U.1.symm)).2.symm),congrArg _ ((Q.uniq H.den (by rw[S];exact U.2.symm)).1.symm),congrArg _ ((Q.uniq H.den (by rw[S];exact U.2.symm)).2.symm),trivial⟩,trivial⟩
  obtain⟨ax,aJ,K⟩:=Av (p.num*q.den);refine BO m (EA v.num j.den K AA AA) ?_;conv=>cbv
  obtain⟨ay,aK,L⟩:=Av (q.num*p.den);refine BO m (EA j.num v.den L AA AA) ?_;conv=>cbv
  obtain⟨a7,aa,M⟩:=Av (p.num*q.den+q.num*p.den);refine BO (r:= .agg [.bool a7,.sl .u32 aa]) m (LI K L M (by have:=v.num.Dq j.den K rfl;omega) (by have:=j.num.Dq v.den L rfl;omega)) ?_;try conv=>cbv
  refine g2 rfl ?_;obtain⟨az,aL,N⟩:=Av ((p.den:Int)*q.den);refine BO m (EA v.den j.den N AA AA) ?_;conv=>cbv
  refine g2 rfl ?_;have U:=XA p q (by have:=of_decide_eq_true J.symm;omega);exact AN ⟨⟨rfl,congrArg _ ((M.uniq H.num (by rw[S];exact U.1.symm)).1.symm),congrArg _ ((M.uniq H.num (by rw[S];exact U.1.symm)).2.symm),congrArg _ ((N.uniq H.den (by rw[S];exact U.2.symm)).1.symm),congrArg _ ((N.uniq H.den (by rw[S];exact U.2.symm)).2.symm),trivial⟩,trivial⟩
 obtain⟨aW,aX,a6⟩:=Av (p.num+q.num);refine BO m (LI v.num j.num a6 AA AA) ?_;conv=>cbv
 refine g2 rfl ?_;exact AN ⟨⟨rfl,congrArg _ ((a6.uniq H.num (by rw[S];exact (JL (of_decide_eq_true I.symm) (of_decide_eq_true V.symm)).1.symm)).1.symm),congrArg _ ((a6.uniq H.num (by rw[S];exact (JL (of_decide_eq_true I.symm) (of_decide_eq_true V.symm)).1.symm)).2.symm),congrArg _ ((v.den.uniq H.den (by rw[S,(JL (of_decide_eq_true I.symm) (of_decide_eq_true V.symm)).2];exact of_decide_eq_true I.symm)).1.symm),congrArg _ ((v.den.uniq H.den (by rw[S,(JL (of_decide_eq_true I.symm) (of_decide_eq_true V.symm)).2];exact of_decide_eq_true I.symm)).2.symm),trivial⟩,trivial⟩
theorem mb {p:Rat} (h:p≠0):(1/p).num=(if p.num<0 then -(p.den:Int) else p.den)/\((1/p).den:Int)=if p.num<0 then -p.num else p.num:=by
 have j:p.num≠0:=mt Rat.num_eq_zero.1 h;have e:1/p=Rat.inv p:=by rw[Rat.div_def,Rat.one_mul];rfl
 rw[e];unfold Rat.inv
 split
 ·rename_i f;exact⟨rfl,by show ((p.num.natAbs:Nat):Int)=_;omega⟩
 rename_i f
 rw[dif_pos AA];exact⟨rfl,by show ((p.num.natAbs:Nat):Int)=_;omega⟩
theorem gz {p:Rat} (m:BV p b1 l1 b2 l2) (G:p≠0) (H:r=1/p) (v:BV r d1 k1 d2 k2):CF 151 [.agg (Br b1 l1 b2 l2)] (.agg (Br d1 k1 d2 k2)):=by
 obtain⟨h,f⟩:=mb G;rw[<-H] at h f;refine AM Tryz.func151 fun E z=>?_
 cases b1 <;> conv=>cbv
 ·have k:=TS m.num rfl;exact AN ⟨⟨rfl,congrArg _ ((m.den.uniq v.num (by rw[h,if_neg k])).1.symm),congrArg _ ((m.den.uniq v.num (by rw[h,if_neg k])).2.symm),congrArg _ ((m.num.uniq v.den (by rw[f,if_neg k])).1.symm),congrArg _ ((m.num.uniq v.den (by rw[f,if_neg k])).2.symm),trivial⟩,trivial⟩
 obtain⟨I,J,w⟩:=Av (-(p.den:Int));refine AB z (M4 m.den w) ?_;obtain⟨D,F,j⟩:=Av (-p.num);refine AB z (M4 m.num j) ?_;have k:=TU m.num rfl;exact AN ⟨⟨rfl,congrArg _ ((w.uniq v.num (by rw[h,if_pos k])).1.symm),congrArg _ ((w.uniq v.num (by rw[h,if_pos k])).2.symm),congrArg _ ((j.uniq v.den (by rw[f,if_pos k])).1.symm),congrArg _ ((j.uniq v.den (by rw[f,if_pos k])).2.symm),trivial⟩,trivial⟩
theorem iA {p:Rat} (h:BV p b1 l1 b2 l2) (F:B8 p):CF 44 [.agg (Br b1 l1 b2 l2)] (.one (.bool true)):=by
 have G:=h.small F;have D:=p.den_pos;refine AM Tryz.func44 fun E j=>?_
 refine AB j (Wo h.num) ?_;refine AB j (Wo h.den) ?_;obtain⟨z,k⟩:=xI ((1:Int));refine AB (r:= .one (.int .i64 z)) j (KL h.den (k.trans (by unfold Cd;rw[if_neg AA,if_neg AA]))) ?_;refine FC (fun m=>?_) fun m=>?_
 ·exact absurd m AA
 obtain⟨v,w,f⟩:=Av ((1:Int));refine AB (r:= .agg [.bool v,.sl .u32 w]) j (HW h.num h.den (by rw[Int.natAbs_natCast,show Nat.gcd p.num.natAbs p.den=1 from p.reduced];exact f) AA AA) ?_;refine AB j (JK f rfl) ?_;exact AN ⟨t2,trivial⟩
theorem Z9 {d r:Int} (f:r=Cd d) (h:r<0):d<0:=by rcases GL d with⟨a,e⟩ |⟨a,e⟩ |⟨a,e⟩ <;> omega
theorem aB {d r:Int} (f:r=Cd d) (h:0<=r):¬d<0:=by rcases GL d with⟨a,e⟩ |⟨a,e⟩ |⟨a,e⟩ <;> omega
theorem Pb {g:Int} (f:g≠0) (h:g∣x):x=Cp x g*g:=by
 unfold Cp
 split
 ·exact (Int.ediv_mul_cancel h).symm
 have:=Int.ediv_mul_cancel (a:= -x) (b:= -g) (Int.neg_dvd.2 (Int.dvd_neg.2 h));rw[Int.mul_neg] at this
 generalize -x/ -g*g=Q at*
 omega
theorem Pu (n d:Int):(if d<0 then -((Nat.gcd n.natAbs d.natAbs:Nat):Int) else ((Nat.gcd n.natAbs d.natAbs:Nat):Int))∣n/\(if d<0 then -((Nat.gcd n.natAbs d.natAbs:Nat):Int) else ((Nat.gcd n.natAbs d.natAbs:Nat):Int))∣d:=by
 have f:((Nat.gcd n.natAbs d.natAbs:Nat):Int)∣n:=Int.ofNat_dvd_left.2 (Nat.gcd_dvd_left _ _);have h:((Nat.gcd n.natAbs d.natAbs:Nat):Int)∣d:=Int.ofNat_dvd_left.2 (Nat.gcd_dvd_right _ _)
 split
 ·exact⟨Int.neg_dvd.2 f,Int.neg_dvd.2 h⟩
 exact⟨f,h⟩
theorem gn {n d:Int} {q:Rat} (W:BB n b1 l1) (I:BB d b2 l2) (H:d≠0) (V:q=Rat.divInt n d) (J:BV q c1 m1 c2 m2) (s1:l1.length<=17592186042000) (s2:l2.length<=17592186042000):CF 146 [.agg (BZ b1 l1),.agg (BZ b2 l2)] (.agg (Br c1 m1 c2 m2)):=by
 refine AM Tryz.func146 fun E K=>?_
 obtain⟨a2,a5,v⟩:=Av (((Nat.gcd n.natAbs d.natAbs:Nat):Int));refine AB K (HW W I v AA AA) ?_;obtain⟨a6,k⟩:=xI (Cd d);refine AB K (KL I k) ?_;intro a1 N;refine .inr ?_;cases a1 <;> conv=>cbv
 ·have w:=EG N;obtain⟨z,F,f⟩:=Av (Cp n (if d<0 then -((Nat.gcd n.natAbs d.natAbs:Nat):Int) else ((Nat.gcd n.natAbs d.natAbs:Nat):Int)));have Q:BB (if d<0 then -((Nat.gcd n.natAbs d.natAbs:Nat):Int) else ((Nat.gcd n.natAbs d.natAbs:Nat):Int)) a2 a5:=by rw[if_neg (aB k w)];exact v
  have j:(if d<0 then -((Nat.gcd n.natAbs d.natAbs:Nat):Int) else ((Nat.gcd n.natAbs d.natAbs:Nat):Int))≠0:=by rw[if_neg (aB k w)];have:=Pt (n:=n) H;omega
  have P:Cp n (if d<0 then -((Nat.gcd n.natAbs d.natAbs:Nat):Int) else ((Nat.gcd n.natAbs d.natAbs:Nat):Int))=q.num:=by rw[V];exact (QH H).symm
  have O:Cp d (if d<0 then -((Nat.gcd n.natAbs d.natAbs:Nat):Int) else ((Nat.gcd n.natAbs d.natAbs:Nat):Int))=(q.den:Int):=by rw[V];exact (QG H).symm
  have M:n=Cp n (if d<0 then -((Nat.gcd n.natAbs d.natAbs:Nat):Int) else ((Nat.gcd n.natAbs d.natAbs:Nat):Int))*(if d<0 then -((Nat.gcd n.natAbs d.natAbs:Nat):Int) else ((Nat.gcd n.natAbs d.natAbs:Nat):Int)):=Pb j (Pu n d).1;have L:d=Cp d (if d<0 then -((Nat.gcd n.natAbs d.natAbs:Nat):Int) else ((Nat.gcd n.natAbs d.natAbs:Nat):Int))*(if d<0 then -((Nat.gcd n.natAbs d.natAbs:Nat):Int) else ((Nat.gcd n.natAbs d.natAbs:Nat):Int)):=Pb j (Pu n d).2;refine AB (r:= .agg [.bool z,.sl .u32 F]) K (Ew W Q j (M) f AA (by have:=Ng H I v;omega)) ?_;obtain⟨D,G,h⟩:=Av (Cp d (if d<0 then -((Nat.gcd n.natAbs d.natAbs:Nat):Int) else ((Nat.gcd n.natAbs d.natAbs:Nat):Int)));refine AB (r:= .agg [.bool D,.sl .u32 G]) K (Ew I Q j (L) h AA (by have:=Ng H I v;omega)) ?_;exact AN ⟨⟨rfl,congrArg _ ((f.uniq J.num P).1.symm),congrArg _ ((f.uniq J.num P).2.symm),congrArg _ ((h.uniq J.den O).1.symm),congrArg _ ((h.uniq J.den O).2.symm),trivial⟩,trivial⟩
 have w:=EH N;obtain⟨S,U,m⟩:=Av (-((Nat.gcd n.natAbs d.natAbs:Nat):Int));refine AB K (M4 v m) ?_;obtain⟨z,F,f⟩:=Av (Cp n (if d<0 then -((Nat.gcd n.natAbs d.natAbs:Nat):Int) else ((Nat.gcd n.natAbs d.natAbs:Nat):Int)));have Q:BB (if d<0 then -((Nat.gcd n.natAbs d.natAbs:Nat):Int) else ((Nat.gcd n.natAbs d.natAbs:Nat):Int)) S U:=by rw[if_pos (Z9 k w)];exact m
 have j:(if d<0 then -((Nat.gcd n.natAbs d.natAbs:Nat):Int) else ((Nat.gcd n.natAbs d.natAbs:Nat):Int))≠0:=by rw[if_pos (Z9 k w)];have:=Pt (n:=n) H;omega
 have P:Cp n (if d<0 then -((Nat.gcd n.natAbs d.natAbs:Nat):Int) else ((Nat.gcd n.natAbs d.natAbs:Nat):Int))=q.num:=by rw[V];exact (QH H).symm
 have O:Cp d (if d<0 then -((Nat.gcd n.natAbs d.natAbs:Nat):Int) else ((Nat.gcd n.natAbs d.natAbs:Nat):Int))=(q.den:Int):=by rw[V];exact (QG H).symm
 have M:n=Cp n (if d<0 then -((Nat.gcd n.natAbs d.natAbs:Nat):Int) else ((Nat.gcd n.natAbs d.natAbs:Nat):Int))*(if d<0 then -((Nat.gcd n.natAbs d.natAbs:Nat):Int) else ((Nat.gcd n.natAbs d.natAbs:Nat):Int)):=Pb j (Pu n d).1;have L:d=Cp d (if d<0 then -((Nat.gcd n.natAbs d.natAbs:Nat):Int) else ((Nat.gcd n.natAbs d.natAbs:Nat):Int))*(if d<0 then -((Nat.gcd n.natAbs d.natAbs:Nat):Int) else ((Nat.gcd n.natAbs d.natAbs:Nat):Int)):=Pb j (Pu n d).2;refine AB (r:= .agg [.bool z,.sl .u32 F]) K (Ew W Q j (M) f AA (by have:=Ps H I m;omega)) ?_;obtain⟨D,G,h⟩:=Av (Cp d (if d<0 then -((Nat.gcd n.natAbs d.natAbs:Nat):Int) else ((Nat.gcd n.natAbs d.natAbs:Nat):Int)));refine AB (r:= .agg [.bool D,.sl .u32 G]) K (Ew I Q j (L) h AA (by have:=Ps H I m;omega)) ?_;exact AN ⟨⟨rfl,congrArg _ ((f.uniq J.num P).1.symm),congrArg _ ((f.uniq J.num P).2.symm),congrArg _ ((h.uniq J.den O).1.symm),congrArg _ ((h.uniq J.den O).2.symm),trivial⟩,trivial⟩
theorem Rq {n d:Int} {q:Rat} (v: -9223372036854775808<=n/\n<9223372036854775808) (m: -9223372036854775808<=d/\d<9223372036854775808) (k:d≠0) (F:q=Rat.divInt n d) (G:BV q c1 m1 c2 m2):CF 88 [AH n,AH d] (.agg (Br c1 m1 c2 m2)):=by
 refine AM Tryz.func88 fun E j=>?_
 refine BS (fun w=>?_) fun w=>?_
 ·exact absurd w k
 obtain⟨H,I,h⟩:=Av (n);refine AB j (M1 v h) ?_;obtain⟨z,D,f⟩:=Av (d);refine AB j (M1 m f) ?_;refine AB (r:= .agg [.bool c1,.sl .u32 m1,.bool c2,.sl .u32 m2]) j (gn h f k F G (by have:=RO v h;omega) (by have:=RO m f;omega)) ?_;exact AN Ao
end
section
variable {C X Z:LR} {R i zn:Nat} {T:List LR} {b1 b2:Bool} {l1 l2:List UInt32} {q:Rat} {u:AD} {xs:List Rat}
theorem Kb {x:el AG} (j:X=BF xs) (f:X[i]? =some x):∃q,BV q x.1.1 x.1.2 x.2.1 x.2.2/\xs[i]? =some q/\x=rp q:=by
 rw[j,BF,List.getElem?_map] at f;cases h:xs[i]? with
 | none=>rw[h] at f;simp at f
 | some q=>
  rw[h] at f;have e:x=rp q:=(Option.some.inj f).symm;exact⟨q,by rw[e];exact FL q,rfl,e⟩
theorem cF (h:xs[i]? =some q):BF (xs.take (i+1))=BF (xs.take i)++[rp q]:=by
 rw[DU h,BF,BF,List.map_append];rfl
theorem Wp {c:Bool} (J:X=BF xs) (K:c=decide (∀q∈xs,q=0)):CF 149 [AO X] (.one (.bool c)):=by
 have N:X.length=xs.length:=by rw[J,List.length_map]
 refine AM Tryz.func149 fun E hE=>?_
 refine BI [] [0,3] [] (fun vs M k=>∃(i':Nat) (i:Int),vs=[AO X,AH i]/\(AR i i'/\i'<=X.length)/\(∀q∈xs.take i',q=0)/\k=X.length-i') (X.length-0) ⟨0,0,rfl,⟨BD 0,AA⟩,Ai,rfl⟩ ?_;rintro J0 w vs M V ⟨i',i,rfl,⟨O,P⟩,hinv,Q⟩;have ei:=O.eq;refine AW ?_;rintro n6 ⟨e6,f6⟩;refine BQ (fun U=>?_) fun U=>?_
 ·exact AL (by rw[K,decide_eq_true];intro z f;rw[<-List.take_of_length_le (AA:xs.length<=i')] at f;exact hinv z f)
 refine .inr ?_;refine Ae i' fun H m=>?_
 try conv=>cbv
 obtain⟨q,L,j,S⟩:=Kb J m;rintro G ⟨v,f16⟩;conv=>cbv
 have I:G=((List.length (α:=UInt32) H.1.2:Nat):Int):=v;refine Ft (fun F=>?_) fun F=>?_
 ·have D:q≠0:=fun e=>by have:=L.num.F1.2 (Rat.num_eq_zero.2 e);omega
  exact AL (by rw[K,decide_eq_false];exact fun h=>D (h q (List.mem_of_getElem? j)))
 intro W h9;refine⟨X.length-(i'+1),?_,?_⟩
 ·omega
 rw[w];refine⟨i'+1,W,rfl,⟨⟨AA⟩,AA⟩,?_,rfl⟩;intro z f;rw[DU j] at f;rcases List.mem_append.1 f with f | f
 ·exact hinv z f
 rw[List.mem_singleton.1 f];exact Rat.num_eq_zero.1 (L.num.F1.1 AA)
theorem Wz {n:Int} (w:X=BF xs) (N:EP xs) (hn:n=(xs.length:Int)):CF 209 [AO X,AH n] (.one (.bool true)):=by
 have H:X.length=xs.length:=by rw[w,List.length_map]
 refine AM Tryz.func209 fun E G=>?_
 refine BI [] [0,1,5] [] (fun vs z k=>∃(i':Nat) (i:Int),vs=[AO X,AH n,AH i]/\(AR i i'/\i'<=X.length)/\k=X.length-i') (X.length-0) ⟨0,0,rfl,⟨BD 0,AA⟩,rfl⟩ ?_;rintro V j vs z P ⟨i',i,rfl,⟨I,J⟩,K⟩;have ei:=I.eq;refine AW ?_;rintro n8 ⟨W,f8⟩;refine BQ (fun O=>?_) fun O=>?_
 ·rintro Q ⟨D,f19⟩ S h;exact AL (by rw[h];simp;omega)
 refine .inr ?_;refine Ae i' fun U f=>?_
 try conv=>cbv
 obtain⟨q,L,M,m⟩:=Iq w N f;refine AB G (iA L m) ?_;refine BM ?_;intro v F;exact BT j ⟨i'+1,v,rfl,⟨⟨AA⟩,AA⟩,rfl⟩
theorem Wh (h:BC R u) (F:T=tw u):CF 208 [Ah T] (.one (.bool true)):=by
 have I:T.length=u.length:=by rw[F,CA]
 have J:=h.ht;refine AM Tryz.func208 fun E H=>?_
 refine BI [] [0,3] [] (fun vs G k=>∃(i':Nat) (i:Int),vs=[Ah T,AH i]/\(AR i i'/\i'<=T.length)/\k=T.length-i') (T.length-0) ⟨0,0,rfl,⟨BD 0,AA⟩,rfl⟩ ?_;rintro U w vs G O ⟨i',i,rfl,⟨K,L⟩,M⟩;have W:=K.eq;refine AW ?_;rintro n6 ⟨V,f6⟩;refine BQ (fun N=>?_) fun N=>?_
 ·exact AN ⟨t2,trivial⟩
 refine .inr ?_;refine Ae i' fun S j=>?_
 try conv=>cbv
 obtain⟨y,z,m⟩:=Ka F j;have D:=MN h.red _ y m;refine AK ?_;intro P v;have f:=(FY (k:=i') v AA).eq;refine AB (r:= .one (.bool true)) H (Wz z ((h.tb y (List.mem_reverse.1 (List.mem_of_getElem? m))).CM h.hR) (by rw[D];exact f)) ?_;refine BM ?_;intro Q h9;exact BT w ⟨i'+1,Q,rfl,⟨⟨AA⟩,AA⟩,rfl⟩
theorem Oi {A:LR} {s:Nat} {x:Re} (h:BC R u) (z:T=tw u) (F:A=em u x) (D:El u s x) (H:s<=60000000000000:=by omega):CF 153 [Ah T,AO A] (.one (.bool true)):=by
 have v:T.length=u.length:=by rw[z,CA]
 have G:=h.ht;refine AM Tryz.func153 fun E w=>?_
 refine AB w (Wh h z) ?_;rintro I ⟨j,f10⟩ J m;have f:=(FY (k:=u.length) m (j.trans (congrArg _ v))).eq;refine AB (r:= .one (.bool true)) w (Wz F (D.CM H) (by rw[D.len];exact f)) ?_;exact AN ⟨t2,trivial⟩
theorem WV (h:BC R u) (hT:T=tw u) (hq:BV q b1 l1 b2 l2) (hC:C=em u (Re.ofRat q)) (Q:zn=C.length):CF 150 [Ah T,.agg (Br b1 l1 b2 l2)] (.one (.own AG C zn)):=by
 have O:T.length=u.length:=by rw[hT,CA]
 have a1:=h.ht;have W:=Dh h.ht;have a7:=DK u.length;refine AM Tryz.func150 fun E hE=>?_
 refine⟨[((b1,l1),(b2,l2))],Ca,.inl ?_⟩;try conv=>cbv
 refine BI [] [0,5] [7] (fun vs U k=>∃(o:LR) (mm j:Nat),vs=[Ah T,.one (.AU AG 7 0 0 mm)]/\U=[.arr 0 AG o]/\(mm=o.length/\o.length=j+1/\o.length<=2^u.length)/\o=rp q::List.replicate j (rp 0)/\k=2^u.length-o.length) (2^u.length-[rp q].length) ⟨[rp q],1,0,rfl,by rw[hq.rp];rfl,⟨rfl,rfl,by show 1<=_;omega⟩,rfl,rfl⟩ ?_;rintro J0 N vs U a8 ⟨o,mm,j,rfl,rfl,⟨I,a5,a6⟩,hinv,a2⟩;conv=>cbv
 intro n9 h9;have e9:=h9.eq;refine AK ?_;rintro aa ⟨L,f11⟩ ab M;have V:=(FY (k:=u.length) M (L.trans (congrArg _ O))).eq;refine BQ (fun S=>?_) fun S=>?_
 ·have D:C=o:=by rw[hC,em,H4 q h.red,hinv,(AA:j=2^u.length-1),BF,List.map_cons,List.map_replicate]
  exact AN ⟨⟨rfl,.inr (.inl ⟨_,_,AE,rfl,rfl,I,rfl,C3 (D) (by rw[Q,D])⟩),trivial⟩,trivial⟩
 refine .inr ?_;obtain⟨v,w,f,m,G⟩:=By (((0:Int):Rat));refine AB hE (Ec AA rfl G) ?_;refine⟨[((v,w),(f,m))],Ca,.inr ?_⟩;try conv=>cbv
 refine .inl ⟨[((v,w),(f,m))],fun _=>⟨rfl,I,rfl,B5 (o.length+1) 64⟩,?_⟩;intro (z:LR) K H;have F:z=(o:LR)++([((v,w),(f,m))]:LR):=H.1;have J:K=List.length (α:=(el AG)) z:=H.2;conv=>cbv
 have P:z.length=o.length+1:=by rw[F];simp
 exact BT N ⟨z,K,j+1,rfl,rfl,⟨J,AA,AA⟩,by rw[F,hinv,List.replicate_succ',List.cons_append,<-G.rp];rfl,rfl⟩
theorem G7 (h:BC R u) (j:T=tw u) (k:BV q b1 l1 b2 l2) (f:C=em u (Re.ofRat q)):CF 150 [Ah T,.agg (Br b1 l1 b2 l2)] (AO C):=Df (WV h j k f rfl)
theorem gu (P:X=BF xs) (hl:xs.length<=1000000) (V:Z=BF (xs.map (- ·))):CF 46 [Ah T,AO X] (AO Z):=by
 have U:X.length=xs.length:=by rw[P,List.length_map]
 refine AM Tryz.func46 fun E S=>?_
 refine BI [(5,AG,true)] [1,5,6] [5] (fun vs O k=>∃(o:LR) (mm i':Nat) (i:Int),vs=[AO X,.one (.AU AG 5 0 0 mm),AH i]/\O=[.arr 0 AG o]/\(AR i i'/\i'<=X.length/\mm=o.length)/\o=BF ((xs.map (- ·)).take i')/\k=X.length-i') X.length ⟨[],0,0,0,rfl,rfl,⟨BD 0,Nat.zero_le _,rfl⟩,rfl,rfl⟩ ?_;rintro J0 J vs O a7 ⟨o,mm,i',i,rfl,rfl,⟨W,a1,F⟩,hinv,a2⟩;conv=>cbv
 have ei:=W.eq;have a5:o.length<=X.length:=by rw[hinv,BF,List.length_map,List.length_take,List.length_map];omega
 rintro n9 ⟨e9,f9⟩;conv=>cbv
 refine BQ (fun M=>?_) fun M=>?_
 ·exact AN ⟨⟨rfl,.inl ⟨_,rfl,AA,congrArg _ (by rw[V,F,hinv,List.drop_zero,List.take_length,List.take_of_length_le (by rw[List.length_map];omega)])⟩,trivial⟩,trivial⟩
 refine .inr ?_;refine Ae i' fun a8 H=>?_
 try conv=>cbv
 obtain⟨q,hq,K,a6⟩:=Kb P H;have L:(xs.map (- ·))[i']? =some (-q):=by rw[List.getElem?_map,K];rfl
 obtain⟨j,m,f,h,v⟩:=By (-q);refine AB S (g8 hq rfl v) ?_;refine⟨[((j,m),(f,h))],Ca,.inr ?_⟩;try conv=>cbv
 refine .inl ⟨[((j,m),(f,h))],fun _=>⟨rfl,F,rfl,B5 (o.length+1) 64⟩,?_⟩;intro (z:LR) I w;have D:z=(o:LR)++([((j,m),(f,h))]:LR):=w.1;have G:I=List.length (α:=(el AG)) z:=w.2;refine AK ?_;intro N Q;exact BT J ⟨z,I,i'+1,N,rfl,rfl,⟨⟨AA⟩,AA,G⟩,by rw[D,hinv,cF L,<-v.rp],rfl⟩
theorem gW {Y:LR} {ys:List Rat} (hX:X=BF xs) (hY:Y=BF ys) (hs:EP xs) (ht:EP ys) (ab:ys.length=xs.length) (hl:xs.length<=1000000) (hZ:Z=BF (List.zipWith (· + ·) xs ys)) (S:zn=Z.length):CF 90 [Ah T,AO X,AO Y] (.one (.own AG Z zn)):=by
 have a5:X.length=xs.length:=by rw[hX,List.length_map]
 have a6:Y.length=ys.length:=by rw[hY,List.length_map]
 refine AM Tryz.func90 fun E hE=>?_
 refine BI [(7,AG,true)] [1,2,7,8] [7] (fun vs W k=>∃(o:LR) (mm i':Nat) (i:Int),vs=[AO X,AO Y,.one (.AU AG 7 0 0 mm),AH i]/\W=[.arr 0 AG o]/\(AR i i'/\i'<=X.length/\mm=o.length)/\o=BF ((List.zipWith (· + ·) xs ys).take i')/\k=X.length-i') X.length ⟨[],0,0,0,rfl,rfl,⟨BD 0,Nat.zero_le _,rfl⟩,rfl,rfl⟩ ?_;rintro J0 L vs W ad ⟨o,mm,i',i,rfl,rfl,⟨hi,a7,G⟩,hinv,a8⟩;conv=>cbv
 have ei:=hi.eq;have aa:o.length<=X.length:=by rw[hinv,BF,List.length_map,List.length_take,List.length_zipWith];omega
 rintro ae ⟨a1,f11⟩;conv=>cbv
 refine BQ (fun U=>?_) fun U=>?_
 ·have v:Z=o:=by rw[hZ,hinv,List.take_of_length_le (by rw[List.length_zipWith];omega)]
  exact AN ⟨⟨rfl,.inr (.inl ⟨_,_,AE,rfl,rfl,G,rfl,C3 (v) (by rw[S,v])⟩),trivial⟩,trivial⟩
 refine .inr ?_;refine Ae i' fun af I=>?_
 try conv=>cbv
 refine Ae i' fun ag J=>?_
 try conv=>cbv
 obtain⟨p,hp,M,P⟩:=Iq hX hs I;obtain⟨q,hq,N,Q⟩:=Iq hY ht J;have O:(List.zipWith (· + ·) xs ys)[i']? =some (p+q):=by rw[List.getElem?_zipWith,M,N]
 obtain⟨j,m,f,h,w⟩:=By (p+q);refine AB hE (Wc hp hq P Q rfl w) ?_;refine⟨[((j,m),(f,h))],Ca,.inr ?_⟩;try conv=>cbv
 refine .inl ⟨[((j,m),(f,h))],fun _=>⟨rfl,G,rfl,B5 (o.length+1) 64⟩,?_⟩;intro (D:LR) K z;have F:D=(o:LR)++([((j,m),(f,h))]:LR):=z.1;have H:K=List.length (α:=(el AG)) D:=z.2;refine AK ?_;intro V a2;exact BT L ⟨D,K,i'+1,V,rfl,rfl,⟨⟨AA⟩,AA,H⟩,by rw[F,hinv,cF O,<-w.rp],rfl⟩
end
end Go.Abs
