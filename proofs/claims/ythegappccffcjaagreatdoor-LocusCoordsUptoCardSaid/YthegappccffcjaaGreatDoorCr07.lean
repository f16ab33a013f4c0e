/- Part 8 of a proof. Conditions: each theorem's own. -/
import Derived.Test.YthegappccffcjaaGreatDoorCr06
set_option linter.all false
set_option maxHeartbeats 80000000
set_option maxRecDepth 20000
open Go.Proofs
namespace Go.Abs
open Go.RowKit
section
variable {b' b1 b2 c c1 c2 d1 d2:Bool} {d n x y:Int} {k1 k2 l l' l1 l2 m1 m2:List UInt32} {r:Rat}
theorem Zo {b:Bool} (j:BR x b l) (h:c=decide (x=0)):CF 287 [.agg (B8 b l)] (.one (.bool c)):=by
 refine AN Tryz.func287 fun E m=>?_
 rintro v ⟨k,f5⟩ w f;exact AO (by rw[h,f,Bool.eq_iff_iff];simp only[decide_eq_true_eq,beq_iff_eq];rw[<-j.Gf];omega)
theorem MZ {b:Bool} (m:BR x b l) (k:c=decide (x=1)):CF 337 [.agg (B8 b l)] (.one (.bool c)):=by
 refine AN Tryz.func337 fun E J=>?_
 refine O5 (fun w=>?_) fun w=>?_
 ·exact AO (by rw[k];exact (VH m w).symm)
 intro K z;have I:=z.eq;have f9:=z.le;refine CU (fun v=>?_) fun v=>?_
 ·exact AO (by rw[k];exact (bB m AA).symm)
 refine BH 0 fun H h=>?_
 refine Ak ?_;intro F f G j;have D:=f.eq;have f16:=f.lt;exact AO (by rw[k,j,<-VJ m w AA h,Bool.eq_iff_iff];simp only[decide_eq_true_eq,beq_iff_eq];omega)
theorem VI {b:Bool} (h:BR 1 b l):CF 229 [] (.agg (B8 b l)):=by
 refine AN Tryz.func229 fun E j=>?_
 obtain⟨k,m,f⟩:=BQ (1);refine AB j (PB AA f) ?_;exact Eg ((f.uniq h rfl).1.symm) ((f.uniq h rfl).2.symm)
theorem RP {b3:Bool} {l3:List UInt32} (m:BR x b1 l1) (z:BR y b2 l2) (v:y≠0) (k:BR (DO x y) b3 l3) (s1:l1.length<=17592186042000) (s2:l2.length<=17592186042000):CF 329 [.agg (B8 b1 l1),.agg (B8 b2 l2)] (.agg (B8 b3 l3)):=by
 refine AN Tryz.func329 fun E w=>?_
 obtain⟨I,h⟩:=xB (decide (y=1));refine AB w (MZ z h) ?_;cases I <;> conv=>cbv
 ·obtain⟨G,H,f⟩:=BQ (DO x y);obtain⟨D,F,j⟩:=BQ (IX x y);refine AB w (gM m z v f j AA AA) ?_;exact Eg ((f.uniq k rfl).1.symm) ((f.uniq k rfl).2.symm)
 exact Eg ((k.uniq m (by rw[of_decide_eq_true h.symm];exact Yt x)).1) ((k.uniq m (by rw[of_decide_eq_true h.symm];exact Yt x)).2)
theorem OB {b:Bool} (f:d≠0) (h:BR d b l) (h':BR ((Nat.gcd n.natAbs d.natAbs:Nat):Int) b' l'):l'.length<=l.length:=by
 rw[h.B9,h'.B9,Int.natAbs_natCast];exact FG (Nat.le_of_dvd AA (Nat.gcd_dvd_right _ _))
theorem QV {b:Bool} (f:d≠0) (h:BR d b l) (h':BR (-((Nat.gcd n.natAbs d.natAbs:Nat):Int)) b' l'):l'.length<=l.length:=by
 rw[h.B9,h'.B9,Int.natAbs_neg,Int.natAbs_natCast];exact FG (Nat.le_of_dvd AA (Nat.gcd_dvd_right _ _))
theorem QW (f:d≠0):((Nat.gcd n.natAbs d.natAbs:Nat):Int)≠0:=by
 have:=Nat.gcd_pos_of_pos_right n.natAbs (n:=d.natAbs) AA;omega
theorem UY {b:Bool} (h:BR d b l) (e:b=true):d<0:=by
 have:=h.neg;rw[e] at this;simpa using this.symm
theorem UX {b:Bool} (h:BR d b l) (e:b=false):¬d<0:=by
 have:=h.neg;rw[e] at this;simpa using this.symm
theorem Me {q:Rat} (P:BR n b1 l1) (m:BR d b2 l2) (v:d≠0) (O:q=Rat.divInt n d) (H:Bw q c1 m1 c2 m2) (s1:l1.length<=17592186042000) (s2:l2.length<=17592186042000):CF 288 [.agg (B8 b1 l1),.agg (B8 b2 l2)] (.agg (CT c1 m1 c2 m2)):=by
 refine AN Tryz.func288 fun E K=>?_
 obtain⟨Q,S,k⟩:=BQ (((Nat.gcd n.natAbs d.natAbs:Nat):Int));refine AB K (Wl P m k AA AA) ?_;refine .inr ?_;cases b2 <;> conv=>cbv
 ·obtain⟨z,F,f⟩:=BQ (DO n (if d<0 then -((Nat.gcd n.natAbs d.natAbs:Nat):Int) else ((Nat.gcd n.natAbs d.natAbs:Nat):Int)));have N:BR (if d<0 then -((Nat.gcd n.natAbs d.natAbs:Nat):Int) else ((Nat.gcd n.natAbs d.natAbs:Nat):Int)) Q S:=by rw[if_neg (UX m rfl)];exact k
  have w:(if d<0 then -((Nat.gcd n.natAbs d.natAbs:Nat):Int) else ((Nat.gcd n.natAbs d.natAbs:Nat):Int))≠0:=by rw[if_neg (UX m rfl)];have:=QW (n:=n) v;omega
  have M:DO n (if d<0 then -((Nat.gcd n.natAbs d.natAbs:Nat):Int) else ((Nat.gcd n.natAbs d.natAbs:Nat):Int))=q.num:=by rw[O];exact (Qt v).symm
  have L:DO d (if d<0 then -((Nat.gcd n.natAbs d.natAbs:Nat):Int) else ((Nat.gcd n.natAbs d.natAbs:Nat):Int))=(q.den:Int):=by rw[O];exact (Qs v).symm
  refine AB (r:= .agg [.bool z,.sl .u32 F]) K (RP P N w f AA (by have:=OB v m k;omega)) ?_;obtain⟨D,G,h⟩:=BQ (DO d (if d<0 then -((Nat.gcd n.natAbs d.natAbs:Nat):Int) else ((Nat.gcd n.natAbs d.natAbs:Nat):Int)));refine AB (r:= .agg [.bool D,.sl .u32 G]) K (RP m N w h AA (by have:=OB v m k;omega)) ?_;exact AM ⟨⟨rfl,congrArg _ ((f.uniq H.num M).1.symm),congrArg _ ((f.uniq H.num M).2.symm),congrArg _ ((h.uniq H.den L).1.symm),congrArg _ ((h.uniq H.den L).2.symm),trivial⟩,trivial⟩
 obtain⟨I,J,j⟩:=BQ (-((Nat.gcd n.natAbs d.natAbs:Nat):Int));refine AB (r:= .agg [.bool I,.sl .u32 J]) K (Ws k (by have:=OB v m k;omega) j) ?_;obtain⟨z,F,f⟩:=BQ (DO n (if d<0 then -((Nat.gcd n.natAbs d.natAbs:Nat):Int) else ((Nat.gcd n.natAbs d.natAbs:Nat):Int)));have N:BR (if d<0 then -((Nat.gcd n.natAbs d.natAbs:Nat):Int) else ((Nat.gcd n.natAbs d.natAbs:Nat):Int)) I J:=by rw[if_pos (UY m rfl)];exact j
 have w:(if d<0 then -((Nat.gcd n.natAbs d.natAbs:Nat):Int) else ((Nat.gcd n.natAbs d.natAbs:Nat):Int))≠0:=by rw[if_pos (UY m rfl)];have:=QW (n:=n) v;omega
 have M:DO n (if d<0 then -((Nat.gcd n.natAbs d.natAbs:Nat):Int) else ((Nat.gcd n.natAbs d.natAbs:Nat):Int))=q.num:=by rw[O];exact (Qt v).symm
 have L:DO d (if d<0 then -((Nat.gcd n.natAbs d.natAbs:Nat):Int) else ((Nat.gcd n.natAbs d.natAbs:Nat):Int))=(q.den:Int):=by rw[O];exact (Qs v).symm
 refine AB (r:= .agg [.bool z,.sl .u32 F]) K (RP P N w f AA (by have:=QV v m j;omega)) ?_;obtain⟨D,G,h⟩:=BQ (DO d (if d<0 then -((Nat.gcd n.natAbs d.natAbs:Nat):Int) else ((Nat.gcd n.natAbs d.natAbs:Nat):Int)));refine AB (r:= .agg [.bool D,.sl .u32 G]) K (RP m N w h AA (by have:=QV v m j;omega)) ?_;exact AM ⟨⟨rfl,congrArg _ ((f.uniq H.num M).1.symm),congrArg _ ((f.uniq H.num M).2.symm),congrArg _ ((h.uniq H.den L).1.symm),congrArg _ ((h.uniq H.den L).2.symm),trivial⟩,trivial⟩
theorem Il {q:Rat} (v: -9223372036854775808<=x/\x<9223372036854775808) (j:q=(x:Rat)) (k:Bw q c1 m1 c2 m2):CF 169 [AD x] (.agg (CT c1 m1 c2 m2)):=by
 refine AN Tryz.func169 fun E m=>?_
 obtain⟨w,D,f⟩:=BQ (x);refine AB m (PB v f) ?_;obtain⟨z,F,h⟩:=BQ (1);refine AB m (VI h) ?_;exact AM ⟨⟨rfl,congrArg _ ((f.uniq k.num (by rw[j];rfl)).1.symm),congrArg _ ((f.uniq k.num (by rw[j];rfl)).2.symm),congrArg _ ((h.uniq k.den (by rw[j];rfl)).1.symm),congrArg _ ((h.uniq k.den (by rw[j];rfl)).2.symm),trivial⟩,trivial⟩
theorem PH {q:Rat} {c:Int} (k:Bw q b1 l1 b2 l2) (j:c=E1 q):CF 256 [.agg (CT b1 l1 b2 l2)] (AD c):=by
 refine AN Tryz.func256 fun E h=>?_
 obtain⟨m,f⟩:=xI (DM q.num);refine AB h (NT k.num f) ?_;exact AO (by rw[j,f];rfl)
theorem gn {q p:Rat} (j:Bw q b1 l1 b2 l2) (z:Cw q) (h:p= -q) (k:Bw p c1 m1 c2 m2):CF 259 [.agg (CT b1 l1 b2 l2)] (.agg (CT c1 m1 c2 m2)):=by
 refine AN Tryz.func259 fun E w=>?_
 obtain⟨m,v,f⟩:=BQ (-q.num);refine AB (r:= .agg [.bool m,.sl .u32 v]) w (Ws j.num (by have:=j.small z;omega) f) ?_;exact AM ⟨⟨rfl,congrArg _ ((f.uniq k.num (by rw[h];rfl)).1.symm),congrArg _ ((f.uniq k.num (by rw[h];rfl)).2.symm),congrArg _ ((j.den.uniq k.den (by rw[h];rfl)).1.symm),congrArg _ ((j.den.uniq k.den (by rw[h];rfl)).2.symm),trivial⟩,trivial⟩
theorem gj {p q:Rat} (f:Bw p b1 l1 b2 l2) (h:Bw q c1 m1 c2 m2) (D:Cw p) (ht:Cw q) (hr:r=p+q) (H:Bw r d1 k1 d2 k2):CF 305 [.agg (CT b1 l1 b2 l2),.agg (CT c1 m1 c2 m2)] (.agg (CT d1 k1 d2 k2)):=by
 refine AN Tryz.func305 fun E G=>?_
 obtain⟨b8,I⟩:=xB (decide ((p.den:Int)=1));refine AB G (MZ f.den I) ?_;cases b8 <;> conv=>cbv
 ·obtain⟨N,U,j⟩:=BQ (p.num*q.den);refine AB (r:= .agg [.bool N,.sl .u32 U]) G (Ga f.num h.den j (by have:=f.small D;have:=h.small ht;omega) (by have:=f.small D;have:=h.small ht;omega)) ?_;obtain⟨O,V,m⟩:=BQ (q.num*p.den);refine AB (r:= .agg [.bool O,.sl .u32 V]) G (Ga h.num f.den m (by have:=f.small D;have:=h.small ht;omega) (by have:=f.small D;have:=h.small ht;omega)) ?_;obtain⟨P,W,w⟩:=BQ (p.num*q.den+q.num*p.den);refine AB (r:= .agg [.bool P,.sl .u32 W]) G (SE j m w (by have:=f.small D;have:=h.small ht;have:=f.num.Ee h.den j rfl;omega) (by have:=f.small D;have:=h.small ht;have:=h.num.Ee f.den m rfl;omega)) ?_;obtain⟨Q,a1,z⟩:=BQ ((p.den:Int)*q.den);refine AB (r:= .agg [.bool Q,.sl .u32 a1]) G (Ga f.den h.den z (by have:=f.small D;have:=h.small ht;omega) (by have:=f.small D;have:=h.small ht;omega)) ?_
  obtain⟨S,a2,L,M,v⟩:=CZ (r);refine AB (r:= .agg [.bool S,.sl .u32 a2,.bool L,.sl .u32 M]) G (Me w z (Int.mul_ne_zero (IP p) (IP q)) (hr.trans (Sg p q)) v (by have:=f.small D;have:=h.small ht;have:=f.num.Ee h.den j rfl;have:=h.num.Ee f.den m rfl;have:=j.Pa m w rfl (k:=8000000000000) AA AA;omega) (by have:=f.small D;have:=h.small ht;have:=f.den.Ee h.den z rfl;omega)) ?_;exact AM ⟨⟨rfl,congrArg _ ((v.uniq H rfl).1.1.symm),congrArg _ ((v.uniq H rfl).1.2.symm),congrArg _ ((v.uniq H rfl).2.1.symm),congrArg _ ((v.uniq H rfl).2.2.symm),trivial⟩,trivial⟩
 obtain⟨a7,F⟩:=xB (decide ((q.den:Int)=1));refine AB G (MZ h.den F) ?_;cases a7 <;> conv=>cbv
 ·obtain⟨N,U,j⟩:=BQ (p.num*q.den);refine AB (r:= .agg [.bool N,.sl .u32 U]) G (Ga f.num h.den j (by have:=f.small D;have:=h.small ht;omega) (by have:=f.small D;have:=h.small ht;omega)) ?_;obtain⟨O,V,m⟩:=BQ (q.num*p.den);refine AB (r:= .agg [.bool O,.sl .u32 V]) G (Ga h.num f.den m (by have:=f.small D;have:=h.small ht;omega) (by have:=f.small D;have:=h.small ht;omega)) ?_;obtain⟨P,W,w⟩:=BQ (p.num*q.den+q.num*p.den);refine AB (r:= .agg [.bool P,.sl .u32 W]) G (SE j m w (by have:=f.small D;have:=h.small ht;have:=f.num.Ee h.den j rfl;omega) (by have:=f.small D;have:=h.small ht;have:=h.num.Ee f.den m rfl;omega)) ?_;obtain⟨Q,a1,z⟩:=BQ ((p.den:Int)*q.den);refine AB (r:= .agg [.bool Q,.sl .u32 a1]) G (Ga f.den h.den z (by have:=f.small D;have:=h.small ht;omega) (by have:=f.small D;have:=h.small ht;omega)) ?_
  obtain⟨S,a2,L,M,v⟩:=CZ (r);refine AB (r:= .agg [.bool S,.sl .u32 a2,.bool L,.sl .u32 M]) G (Me w z (Int.mul_ne_zero (IP p) (IP q)) (hr.trans (Sg p q)) v (by have:=f.small D;have:=h.small ht;have:=f.num.Ee h.den j rfl;have:=h.num.Ee f.den m rfl;have:=j.Pa m w rfl (k:=8000000000000) AA AA;omega) (by have:=f.small D;have:=h.small ht;have:=f.den.Ee h.den z rfl;omega)) ?_;exact AM ⟨⟨rfl,congrArg _ ((v.uniq H rfl).1.1.symm),congrArg _ ((v.uniq H rfl).1.2.symm),congrArg _ ((v.uniq H rfl).2.1.symm),congrArg _ ((v.uniq H rfl).2.2.symm),trivial⟩,trivial⟩
 obtain⟨a5,a6,J⟩:=BQ (p.num+q.num);refine AB (r:= .agg [.bool a5,.sl .u32 a6]) G (SE f.num h.num J (by have:=f.small D;have:=h.small ht;omega) (by have:=f.small D;have:=h.small ht;omega)) ?_;obtain⟨a8,aa,K⟩:=BQ (1);refine AB G (VI K) ?_;exact AM ⟨⟨rfl,congrArg _ ((J.uniq H.num (by rw[hr];exact (KB (of_decide_eq_true I.symm) (of_decide_eq_true F.symm)).1.symm)).1.symm),congrArg _ ((J.uniq H.num (by rw[hr];exact (KB (of_decide_eq_true I.symm) (of_decide_eq_true F.symm)).1.symm)).2.symm),congrArg _ ((K.uniq H.den (by rw[hr,(KB (of_decide_eq_true I.symm) (of_decide_eq_true F.symm)).2];rfl)).1.symm),congrArg _ ((K.uniq H.den (by rw[hr,(KB (of_decide_eq_true I.symm) (of_decide_eq_true F.symm)).2];rfl)).2.symm),trivial⟩,trivial⟩
theorem gm {p q:Rat} (h:Bw p b1 l1 b2 l2) (j:Bw q c1 m1 c2 m2) (w:Cw p) (ht:Cw q) (Q:r=p*q) (z:Bw r d1 k1 d2 k2):CF 318 [.agg (CT b1 l1 b2 l2),.agg (CT c1 m1 c2 m2)] (.agg (CT d1 k1 d2 k2)):=by
 refine AN Tryz.func318 fun E P=>?_
 obtain⟨b7,D⟩:=xB (decide ((p.den:Int)=1));refine AB P (MZ h.den D) ?_;cases b7 <;> conv=>cbv
 ·obtain⟨J,M,k⟩:=BQ (p.num*q.num);refine AB (r:= .agg [.bool J,.sl .u32 M]) P (Ga h.num j.num k (by have:=h.small w;have:=j.small ht;omega) (by have:=h.small w;have:=j.small ht;omega)) ?_;obtain⟨K,N,m⟩:=BQ ((p.den:Int)*q.den);refine AB (r:= .agg [.bool K,.sl .u32 N]) P (Ga h.den j.den m (by have:=h.small w;have:=j.small ht;omega) (by have:=h.small w;have:=j.small ht;omega)) ?_;obtain⟨L,O,H,I,f⟩:=CZ (r);refine AB (r:= .agg [.bool L,.sl .u32 O,.bool H,.sl .u32 I]) P (Me k m (Int.mul_ne_zero (IP p) (IP q)) (Q.trans (Qz p q)) f (by have:=h.small w;have:=j.small ht;have:=h.num.Ee j.num k rfl;omega) (by have:=h.small w;have:=j.small ht;have:=h.den.Ee j.den m rfl;omega)) ?_;exact AM ⟨⟨rfl,congrArg _ ((f.uniq z rfl).1.1.symm),congrArg _ ((f.uniq z rfl).1.2.symm),congrArg _ ((f.uniq z rfl).2.1.symm),congrArg _ ((f.uniq z rfl).2.2.symm),trivial⟩,trivial⟩
 obtain⟨V,v⟩:=xB (decide ((q.den:Int)=1));refine AB P (MZ j.den v) ?_;cases V <;> conv=>cbv
 ·obtain⟨J,M,k⟩:=BQ (p.num*q.num);refine AB (r:= .agg [.bool J,.sl .u32 M]) P (Ga h.num j.num k (by have:=h.small w;have:=j.small ht;omega) (by have:=h.small w;have:=j.small ht;omega)) ?_;obtain⟨K,N,m⟩:=BQ ((p.den:Int)*q.den);refine AB (r:= .agg [.bool K,.sl .u32 N]) P (Ga h.den j.den m (by have:=h.small w;have:=j.small ht;omega) (by have:=h.small w;have:=j.small ht;omega)) ?_;obtain⟨L,O,H,I,f⟩:=CZ (r);refine AB (r:= .agg [.bool L,.sl .u32 O,.bool H,.sl .u32 I]) P (Me k m (Int.mul_ne_zero (IP p) (IP q)) (Q.trans (Qz p q)) f (by have:=h.small w;have:=j.small ht;have:=h.num.Ee j.num k rfl;omega) (by have:=h.small w;have:=j.small ht;have:=h.den.Ee j.den m rfl;omega)) ?_;exact AM ⟨⟨rfl,congrArg _ ((f.uniq z rfl).1.1.symm),congrArg _ ((f.uniq z rfl).1.2.symm),congrArg _ ((f.uniq z rfl).2.1.symm),congrArg _ ((f.uniq z rfl).2.2.symm),trivial⟩,trivial⟩
 obtain⟨S,U,F⟩:=BQ (p.num*q.num);refine AB (r:= .agg [.bool S,.sl .u32 U]) P (Ga h.num j.num F (by have:=h.small w;have:=j.small ht;omega) (by have:=h.small w;have:=j.small ht;omega)) ?_;obtain⟨W,a1,G⟩:=BQ (1);refine AB P (VI G) ?_;exact AM ⟨⟨rfl,congrArg _ ((F.uniq z.num (by rw[Q];exact (mul_ones (of_decide_eq_true D.symm) (of_decide_eq_true v.symm)).1.symm)).1.symm),congrArg _ ((F.uniq z.num (by rw[Q];exact (mul_ones (of_decide_eq_true D.symm) (of_decide_eq_true v.symm)).1.symm)).2.symm),congrArg _ ((G.uniq z.den (by rw[Q,(mul_ones (of_decide_eq_true D.symm) (of_decide_eq_true v.symm)).2];rfl)).1.symm),congrArg _ ((G.uniq z.den (by rw[Q,(mul_ones (of_decide_eq_true D.symm) (of_decide_eq_true v.symm)).2];rfl)).2.symm),trivial⟩,trivial⟩
theorem gl {p q:Rat} (m:Bw p b1 l1 b2 l2) (h:Bw q c1 m1 c2 m2) (v:Cw p) (ht:Cw q) (z:q≠0) (P:r=p/q) (N:Bw r d1 k1 d2 k2):CF 348 [.agg (CT b1 l1 b2 l2),.agg (CT c1 m1 c2 m2)] (AS (CT d1 k1 d2 k2) 0):=by
 refine AN Tryz.func348 fun E M=>?_
 obtain⟨O,w⟩:=xB (decide (q.num=0));refine AB M (Zo h.num w) ?_;cases O <;> conv=>cbv
 ·obtain⟨G,J,j⟩:=BQ (p.num*q.den);refine AB (r:= .agg [.bool G,.sl .u32 J]) M (Ga m.num h.den j (by have:=m.small v;have:=h.small ht;omega) (by have:=m.small v;have:=h.small ht;omega)) ?_;obtain⟨H,K,k⟩:=BQ ((p.den:Int)*q.num);refine AB (r:= .agg [.bool H,.sl .u32 K]) M (Ga m.den h.num k (by have:=m.small v;have:=h.small ht;omega) (by have:=m.small v;have:=h.small ht;omega)) ?_;obtain⟨I,L,D,F,f⟩:=CZ (r);refine AB (r:= .agg [.bool I,.sl .u32 L,.bool D,.sl .u32 F]) M (Me j k (Int.mul_ne_zero (IP p) (mt Rat.num_eq_zero.1 z)) (P.trans (lu p q)) f (by have:=m.small v;have:=h.small ht;have:=m.num.Ee h.den j rfl;omega) (by have:=m.small v;have:=h.small ht;have:=m.den.Ee h.num k rfl;omega)) ?_;exact AM ⟨⟨rfl,congrArg _ ((f.uniq N rfl).1.1.symm),congrArg _ ((f.uniq N rfl).1.2.symm),congrArg _ ((f.uniq N rfl).2.1.symm),congrArg _ ((f.uniq N rfl).2.2.symm),trivial⟩,t2,trivial⟩
 exact absurd (Rat.num_eq_zero.1 (of_decide_eq_true w.symm)) z
theorem Vw (q:Rat):(q.num<0/\E1 q= -1)\/(q.num=0/\E1 q=0)\/(0<q.num/\E1 q=1):=G3 q.num
theorem N2 (q:Rat):0<(q.den:Int):=by have:=q.den_pos;omega
theorem dh {p q:Rat} (h:E1 p<E1 q):p<q:=by
 rw[Rat.lt_iff];rcases Vw p with⟨a,e⟩ |⟨a,e⟩ |⟨a,e⟩ <;> rcases Vw q with⟨f,j⟩ |⟨f,j⟩ |⟨f,j⟩ <;> rw[e,j] at h <;> try omega
 ·rw[f,Int.zero_mul];exact Int.mul_neg_of_neg_of_pos a (N2 q)
 ·exact Int.lt_trans (Int.mul_neg_of_neg_of_pos a (N2 q)) (Int.mul_pos f (N2 p))
 rw[a,Int.zero_mul];exact Int.mul_pos f (N2 p)
theorem lC {p q:Rat} (h:p<q):Hy p q= -1:=by unfold Hy;rw[if_pos h]
theorem lB {p q:Rat} (h:q<p):Hy p q=1:=by
 unfold Hy;rw[if_neg (fun h'=>Int.lt_asymm ((Rat.lt_iff _ _).1 h) ((Rat.lt_iff _ _).1 h')),if_pos h]
theorem Yc (p q:Rat):Hy p q=CR (p.num*q.den) (q.num*p.den):=by
 unfold Hy CR;simp only[Rat.lt_iff]
theorem gk {p q:Rat} {c:Int} (k:Bw p b1 l1 b2 l2) (m:Bw q c1 m1 c2 m2) (H:Cw p) (ht:Cw q) (I:c=Hy p q):CF 325 [.agg (CT b1 l1 b2 l2),.agg (CT c1 m1 c2 m2)] (AD c):=by
 refine AN Tryz.func325 fun E v=>?_
 obtain⟨O,J⟩:=xI (E1 p);refine AB v (PH k J) ?_;obtain⟨M,w⟩:=xI (E1 q);refine AB v (PH m w) ?_;refine E2 (fun K=>?_) fun K=>?_
 ·refine Bt (fun L=>?_) fun L=>?_
  ·exact AO (by rw[I];exact lB (dh AA))
  exact AO (by rw[I];exact lC (dh AA))
 obtain⟨z,F,h⟩:=BQ (p.num*q.den);refine AB (r:= .agg [.bool z,.sl .u32 F]) v (Ga k.num m.den h (by have:=k.small H;have:=m.small ht;omega) (by have:=k.small H;have:=m.small ht;omega)) ?_;obtain⟨D,G,j⟩:=BQ (q.num*p.den);refine AB (r:= .agg [.bool D,.sl .u32 G]) v (Ga m.num k.den j (by have:=k.small H;have:=m.small ht;omega) (by have:=k.small H;have:=m.small ht;omega)) ?_;obtain⟨N,f⟩:=xI (CR (p.num*q.den) (q.num*p.den));refine AB v (Wf h j f) ?_;exact AO (by rw[I,f,Yc])
theorem Ma {b:Bool} (h:BR x b l) (h':BR ((CO x.toNat:Nat):Int) b' l'):l'.length<=l.length:=by
 rw[h.B9,h'.B9,Int.natAbs_natCast];exact FG (Nat.le_trans (Nat.le_trans (Nat.le_mul_self _) (OH x.toNat)) AA)
theorem q8 {e:Int} (h:e=if x<0 then 7 else 0) (f:e≠0):decide (((CO x.toNat:Nat):Int)*((CO x.toNat:Nat):Int)=x)=false:=by
 have k:x<0:=by
  apply Classical.byContradiction;intro j;rw[if_neg j] at h;exact f h
 rw[(AA:x.toNat=0)];simp only[decide_eq_false_iff_not];intro h';rw[show CO 0=0 from rfl] at h';omega
theorem lF (a b:Int):decide (a=b)=(CR a b==0):=by
 unfold CR;rw[Bool.eq_iff_iff,decide_eq_true_eq,beq_iff_eq]
 split
 ·omega
 split <;> omega
theorem RX (z:BR x b1 l1) (D:BR ((CO x.toNat:Nat):Int) b2 l2) (H:c=decide (((CO x.toNat:Nat):Int)*((CO x.toNat:Nat):Int)=x)) (s1:l1.length<=4000000000000):CF 354 [.agg (B8 b1 l1)] (.BN [(true,(B8 b2 l2)),(false,[.bool c])]):=by
 refine AN Tryz.func354 fun E G=>?_
 obtain⟨K,L,f⟩:=BQ ((CO x.toNat:Nat):Int);obtain⟨M,k⟩:=xI (if x<0 then 7 else 0);refine AB G (iE z f k AA) ?_;refine CU (fun m=>?_) fun m=>?_
 ·exact AM ⟨⟨rfl,congrArg _ ((f.uniq D rfl).1.symm),congrArg _ ((f.uniq D rfl).2.symm),trivial⟩,⟨rfl,congrArg _ (by rw[H];exact q8 k m),trivial⟩,trivial⟩
 obtain⟨v,w,j⟩:=BQ (((CO x.toNat:Nat):Int)*((CO x.toNat:Nat):Int));refine AB (r:= .agg [.bool v,.sl .u32 w]) G (Ga f f j (by have:=Ma z f;omega) (by have:=Ma z f;omega)) ?_;obtain⟨J,h⟩:=xI (CR (((CO x.toNat:Nat):Int)*((CO x.toNat:Nat):Int)) x);refine AB G (Wf j z h) ?_;intro I F;exact AM ⟨⟨rfl,congrArg _ ((f.uniq D rfl).1.symm),congrArg _ ((f.uniq D rfl).2.symm),trivial⟩,⟨rfl,congrArg _ (by rw[H,F,h];exact lF _ _),trivial⟩,trivial⟩
theorem gq {q:Rat} (D:Bw q b1 l1 b2 l2) (L:Cw q) (I:0<=r) (K:r*r=q) (F:Bw r c1 m1 c2 m2):CF 333 [.agg (CT b1 l1 b2 l2)] (.BN [(true,(CT c1 m1 c2 m2)),(false,[.bool true])]):=by
 refine AN Tryz.func333 fun E J=>?_
 obtain⟨m,w,f⟩:=BQ (r.num);have H:=eY I K;refine AB (r:= .BN [(true,[.bool m,.sl .u32 w]),(false,[.bool true])]) J (RX D.num (by rw[H.1];exact f) (by rw[H.1];exact (decide_eq_true H.2).symm) (by have:=D.small L;omega)) ?_;obtain⟨v,z,h⟩:=BQ (r.den:Int);have G:=eX I K;refine AB (r:= .BN [(true,[.bool v,.sl .u32 z]),(false,[.bool true])]) J (RX D.den (by rw[G.1];exact h) (by rw[G.1];exact (decide_eq_true G.2).symm) (by have:=D.small L;omega)) ?_;refine HT (fun j=>?_) fun j=>?_
 ·exact absurd j AF
 refine O5 (fun k=>?_) fun k=>?_
 ·exact AM ⟨⟨rfl,congrArg _ ((f.uniq F.num rfl).1.symm),congrArg _ ((f.uniq F.num rfl).2.symm),congrArg _ ((h.uniq F.den rfl).1.symm),congrArg _ ((h.uniq F.den rfl).2.symm),trivial⟩,t2,trivial⟩
 exact absurd k AF
theorem gp {q:Rat} (G:Bw q b1 l1 b2 l2) (K:Cw q) (L:¬∃r:Rat,0<=r/\r*r=q):CF 333 [.agg (CT b1 l1 b2 l2)] (.BN [(true,[.bool false,.sl .u32 [],.bool false,.sl .u32 []]),(false,[.bool false])]):=by
 refine AN Tryz.func333 fun E J=>?_
 obtain⟨w,D,j⟩:=BQ (((CO q.num.toNat:Nat):Int));obtain⟨H,f⟩:=xB (decide (((CO q.num.toNat:Nat):Int)*((CO q.num.toNat:Nat):Int)=q.num));refine AB (r:= .BN [(true,[.bool w,.sl .u32 D]),(false,[.bool H])]) J (RX G.num j f (by have:=G.small K;omega)) ?_;obtain⟨z,F,k⟩:=BQ (((CO (q.den:Int).toNat:Nat):Int));obtain⟨I,h⟩:=xB (decide (((CO (q.den:Int).toNat:Nat):Int)*((CO (q.den:Int).toNat:Nat):Int)=(q.den:Int)));refine AB (r:= .BN [(true,[.bool z,.sl .u32 F]),(false,[.bool I])]) J (RX G.den k h (by have:=G.small K;omega)) ?_;refine HT (fun m=>?_) fun m=>?_
 ·exact AM AQ
 refine O5 (fun v=>?_) fun v=>?_
 ·exact absurd (eW (of_decide_eq_true (f.symm.trans m)) (of_decide_eq_true (h.symm.trans v))) L
 exact AM AQ
theorem gV {q:Rat} (G:BR n b1 l1) (H:BR d b2 l2) (F:d≠0) (I:q=Rat.divInt n d) (D:Bw q c1 m1 c2 m2) (s1:l1.length<=17592186042000) (s2:l2.length<=17592186042000):CF 223 [.agg (B8 b1 l1),.agg (B8 b2 l2)] (AS (CT c1 m1 c2 m2) 0):=by
 refine AN Tryz.func223 fun E z=>?_
 obtain⟨J,L,j⟩:=BQ (n);refine AB z (Wu G AA j) ?_;obtain⟨K,M,h⟩:=BQ (d);refine AB z (Wu H AA h) ?_;refine AB (r:= .one (.bool false)) z (Zo h (by simp[F])) ?_;obtain⟨v,w,k,m,f⟩:=CZ (q);refine AB (r:= .agg [.bool v,.sl .u32 w,.bool k,.sl .u32 m]) z (Me j h F I f (by rw[(j.uniq G rfl).2];exact s1) (by rw[(h.uniq H rfl).2];exact s2)) ?_;exact AM ⟨⟨rfl,congrArg _ ((f.uniq D rfl).1.1.symm),congrArg _ ((f.uniq D rfl).1.2.symm),congrArg _ ((f.uniq D rfl).2.1.symm),congrArg _ ((f.uniq D rfl).2.2.symm),trivial⟩,t2,trivial⟩
theorem R8 {b:Bool} (f: -9223372036854775808<=x/\x<9223372036854775808) (h:BR x b l):l.length<=2:=by
 rw[h.B9];exact Gz AA
theorem SG {q:Rat} (I: -9223372036854775808<=n/\n<9223372036854775808) (H: -9223372036854775808<=d/\d<9223372036854775808) (P:d≠0) (Q:q=Rat.divInt n d) (G:Bw q c1 m1 c2 m2):CF 162 [AD n,AD d] (.agg (CT c1 m1 c2 m2)):=by
 refine AN Tryz.func162 fun E F=>?_
 obtain⟨S,U,j⟩:=BQ (n);refine AB F (PB I j) ?_;obtain⟨L,N,h⟩:=BQ (d);refine AB F (PB H h) ?_;obtain⟨z,D,v,w,f⟩:=CZ q;refine AB (r:= .BN [(true,[.bool z,.sl .u32 D,.bool v,.sl .u32 w]),(false,[.int .i64 0])]) F (gV j h P Q f (by have:=R8 I j;omega) (by have:=R8 H h;omega)) ?_;refine Ht (fun m=>?_) fun m=>?_
 ·exact AM ⟨⟨rfl,congrArg _ ((f.uniq G rfl).1.1.symm),congrArg _ ((f.uniq G rfl).1.2.symm),congrArg _ ((f.uniq G rfl).2.1.symm),congrArg _ ((f.uniq G rfl).2.2.symm),trivial⟩,trivial⟩
 obtain⟨M,O,J,K,k⟩:=CZ (((0:Int):Rat));refine AB F (Il AA rfl k) ?_;exact absurd m AF
theorem fS (k:BR y b2 l2) (h:DM y<=0:=by omega):GF b1 l1 b2 l2=false:=by
 apply Bool.eq_false_iff.2;intro h';obtain⟨q,j⟩:=NH.1 h';have e:y=(q.den:Int):=by rw[k.Fa,j.den.Fa]
 have:=N2 q;rcases G3 y with⟨a,f⟩ |⟨a,f⟩ |⟨a,f⟩ <;> omega
theorem fR (k:true=Gp b1 l1) (m:true=Gp b2 l2) (z:BR x b1 l1) (f:BR y b2 l2) (h:0<DM y) (v:c=decide (((Nat.gcd x.natAbs y.natAbs:Nat):Int)=1)):GF b1 l1 b2 l2=c:=by
 have D:0<y:=by rcases G3 y with⟨a,j⟩ |⟨a,j⟩ |⟨a,j⟩ <;> omega
 have hb:b2=false:=by rw[f.neg];exact decide_eq_false AA
 have w:l2≠[]:=fun e=>by have:=f.nil.1 e;omega
 unfold GF;rw[<-k,<-m,hb,decide_eq_true w,v,z.nat,f.nat];simp only[Bool.true_and,Bool.not_false];rw[Bool.eq_iff_iff,decide_eq_true_eq,decide_eq_true_eq];omega
theorem Wy (w:c=GF b1 l1 b2 l2) (s1:l1.length<=17592186042000) (s2:l2.length<=17592186042000):CF 310 [.agg (CT b1 l1 b2 l2)] (.one (.bool c)):=by
 refine AN Tryz.func310 fun E m=>?_
 obtain⟨J,f⟩:=xB (Gp b1 l1);refine AB m (XB f) ?_;cases J <;> conv=>cbv
 ·exact AO (by rw[w];unfold GF;rw[<-f];rfl)
 obtain⟨K,h⟩:=xB (Gp b2 l2);refine AB m (XB h) ?_;cases K <;> conv=>cbv
 ·exact AO (by rw[w];unfold GF;rw[<-h];exact Bool.and_false _)
 obtain⟨x,F⟩:=Kp.1 f.symm;obtain⟨y,z⟩:=Kp.1 h.symm;obtain⟨L,v⟩:=xI (DM y);refine AB m (NT z v) ?_;refine Fw (fun D=>?_) fun D=>?_
 ·exact AO (by rw[w];exact fS z)
 obtain⟨G,H,k⟩:=BQ (((Nat.gcd x.natAbs y.natAbs:Nat):Int));refine AB m (Wl F z k AA AA) ?_;obtain⟨I,j⟩:=xB (decide (((Nat.gcd x.natAbs y.natAbs:Nat):Int)=1));refine AB m (MZ k j) ?_;exact AO (by rw[w];exact fR f h F z AA j)
end
section
variable {B X Z o:LR} {i n zn:Nat} {xs ys:List Rat}
theorem nJ {A:LR} (G:A=X.take (X.length/2)) (H:B=X.drop (X.length/2)):CF 321 [AT X] (.BN [(false,[AU A]),(false,[AU B])]):=by
 refine AN Tryz.func321 fun E Q=>?_
 rintro V ⟨O,f6⟩ W P U J z I S m M ⟨D,f11⟩ N F L j k w ⟨v,f⟩ K h;exact AM ⟨⟨rfl,congrArg _ (by rw[G,m,List.drop_zero,(AA:z=X.length/2)]),trivial⟩,⟨rfl,congrArg _ (by rw[H,h,f,j,List.take_length,(AA:k=X.length/2)]),trivial⟩,trivial⟩
theorem tH {X A:List LR} (v:X≠[]) (z:A=X.take (X.length-1)) (D:X[X.length-1]? =some B):CF 320 [BL X] (.BN [(false,[BA A]),(false,[AU B])]):=by
 refine AN Tryz.func320 fun E M=>?_
 rintro P ⟨J,f6⟩;have K:0<X.length:=List.length_pos_iff.2 v;refine AP ?_;rintro Q L O G k F N j H ⟨m,f11⟩ h w;refine BH ((h).toNat) fun I f=>?_
 try conv=>cbv
 refine g2 rfl ?_;exact AM ⟨⟨rfl,congrArg _ (by rw[z,j,List.drop_zero,(AA:k=X.length-1)]),trivial⟩,⟨rfl,congrArg _ (by rw[(AA:h.toNat=X.length-1)] at f;exact (Option.some.inj (D.symm.trans f))),trivial⟩,trivial⟩
theorem nL {Z:Nat->LR} (h:o.take i=Z i) (e:i=n):o.take n=Z n:=by rw[<-e];exact h
theorem Rp {α:Type} {o:List α} {w:α} (h:i<o.length):(o.set i w).take (i+1)=o.take i++[w]:=by
 rw[List.take_succ_eq_append_getElem (by rw[List.length_set];exact h),List.take_set_of_le (Nat.le_refl _),List.getElem_set_self]
theorem vN {a:Int} (ha:Ah a n) (hn:n<=1000000) (hX:X=Ba (List.replicate n 0)) (K:zn=X.length):CF 301 [AD a] (.one (.own AL X zn)):=by
 have ea:=ha.eq;refine AN Tryz.func301 fun E hE=>?_
 refine⟨fun _=>⟨AA,AA,by show _*64<=140737488355328;omega⟩,?_⟩;intro N (O:LR) H;have a6:=H.1;have J:O=List.replicate N (((false,[]),(false,[])):el AL):=H.2;have W:O.length=N:=by rw[J,List.length_replicate]
 conv=>cbv
 intro n8 h8;have e8:=h8.eq;conv=>cbv
 refine Bc [] [3,8,9] [6] (fun vs Q k=>∃(o:LR) (m i':Nat) (L i:Int),vs=[.one (.BK AL 6 0 0 m),AD L,AD i]/\Q=[.arr 0 AL o]/\(o.length=n/\m=n/\EJ L n/\Ah i i'/\i'<=n)/\o.take i'=Ba (List.replicate i' 0)/\k=n-i') (n-0) ⟨O,N,0,n8,0,rfl,rfl,⟨AA,AA,⟨AA,AA⟩,BJ 0,AA⟩,rfl,rfl⟩ ?_;rintro J0 I vs Q a7 ⟨o,m,i',L,i,rfl,rfl,⟨ho,hm,U,hi,a2⟩,hinv,a5⟩;conv=>cbv
 have eL:=U.eq;have ei:=hi.eq;refine Bt (fun M=>?_) fun M=>?_
 ·have f:o=X:=by rw[hX,<-nL (Z:=fun i=>Ba (List.replicate i 0)) hinv AA,List.take_of_length_le AA]
  exact AM ⟨⟨rfl,.inr (.inl ⟨_,_,AF,rfl,rfl,AA,rfl,De (f.symm) (by rw[K,<-f])⟩),trivial⟩,trivial⟩
 refine .inr ?_;obtain⟨z,D,v,w,j⟩:=CZ (((0:Int):Rat));refine AB hE (Il AA rfl j) ?_;intro G V;refine⟨((z,D),(v,w)),fun _=>⟨by show _<List.length (α:=(el AL)) o;(first | omega | (simp;omega)),Ds⟩,?_⟩;intro (F:LR) (h:F=List.set (α:=(el AL)) o G (((z,D),(v,w))));have S:F.length=o.length:=by rw[h,List.length_set]
 refine AP ?_;intro P a1;refine⟨n-(i'+1),?_,?_⟩
 ·omega
 rw[I];refine⟨F,m,i'+1,L,P,rfl,rfl,⟨AA,AA,U,⟨AA⟩,AA⟩,?_,rfl⟩;rw[h,(AA:G=i'),Rp AA,hinv,List.replicate_succ',Ba,Ba,List.map_append,<-j.rp];rfl
theorem Jc {x:el AL} (j:X=Ba xs) (k:FA xs) (f:X[i]? =some x):∃q,Bw q x.1.1 x.1.2 x.2.1 x.2.2/\xs[i]? =some q/\Cw q:=by
 rw[j,Ba,List.getElem?_map] at f;cases h:xs[i]? with
 | none=>rw[h] at f;simp at f
 | some q=>
  rw[h] at f;have e:x=rp q:=(Option.some.inj f).symm;exact⟨q,by rw[e];exact H2 q,rfl,k q (List.mem_of_getElem? h)⟩
theorem cR (h:o.take i=Ba (ys.take i)) (j:i=n) (f:o.length=n) (k:ys.length=n):Ba ys=o.take n:=by
 rw[j] at h;rw[h,<-k,List.take_length]
theorem cT {l:LR} {j:Nat} {q:Rat} {w:el AL} (h:o.take i=Ba (ys.take i)) (k:i<o.length) (m:j=i) (v:l=o.set j w) (f:ys[i]? =some q) (hw:rp q=w):l.take (i+1)=Ba (ys.take (i+1)):=by
 have z:i<ys.length:=Hd f;rw[v,m,Rp k,h,List.take_succ,f,Ba,Ba,List.map_append,<-hw];rfl
theorem pI (hX:X=Ba xs) (hs:FA xs) (hn:xs.length<=1000000) (hZ:Z=Ba (xs.map (- ·))):CF 203 [AT X] (AT Z):=by
 refine AN Tryz.func203 fun E hE=>?_
 have a7:X.length=xs.length:=by rw[hX,List.length_map]
 rintro n7 ⟨e7,f7⟩;conv=>cbv
 refine⟨fun _=>⟨AA,AA,by show _*64<=140737488355328;omega⟩,?_⟩;intro P (Q:LR) H;have ab:=H.1;have J:Q=List.replicate P (((false,[]),(false,[])):el AL):=H.2;have a5:Q.length=P:=by rw[J,List.length_replicate]
 refine Ak ?_;intro S D;have a2:=D.eq;have f10:=D.le;refine Bc [] [3,9,10,11] [8] (fun vs V k=>∃(o:LR) (m i':Nat) (L i:Int),vs=[.one (.BK AL 8 0 0 m),AT X,AD L,AD i]/\V=[.arr 0 AL o]/\(o.length=X.length/\m=X.length/\EJ L X.length/\Ah i i'/\i'<=X.length)/\o.take i'=Ba ((xs.map (- ·)).take i')/\k=X.length-i') (X.length-0) ⟨Q,P,0,S,0,rfl,rfl,⟨AA,AA,D,BJ 0,AA⟩,rfl,rfl⟩ ?_;rintro J0 I vs V ad ⟨o,m,i',L,i,rfl,rfl,⟨ho,hm,hL,hi,a8⟩,hinv,aa⟩;conv=>cbv
 have eL:=hL.eq;have ei:=hi.eq;refine Bt (fun O=>?_) fun O=>?_
 ·exact AM ⟨⟨rfl,.inl ⟨_,rfl,AA,congrArg _ (by rw[hZ,hm,List.drop_zero];exact cR hinv AA AA (by rw[List.length_map];omega))⟩,trivial⟩,trivial⟩
 refine .inr ?_;refine BH i' fun ae G=>?_
 try conv=>cbv
 obtain⟨q,hq,K,M⟩:=Jc hX hs G;obtain⟨w,z,j,v,h⟩:=CZ (-q);refine AB hE (gn hq M rfl h) ?_;intro N a1;refine⟨((w,z),(j,v)),fun _=>⟨by show _<List.length (α:=(el AL)) o;(first | omega | (simp;omega)),Ds⟩,?_⟩;intro (F:LR) (f:F=List.set (α:=(el AL)) o N (((w,z),(j,v))));have W:F.length=o.length:=by rw[f,List.length_set]
 refine AP ?_;intro U a6;refine⟨X.length-(i'+1),?_,?_⟩
 ·omega
 rw[I];refine⟨F,m,i'+1,L,U,rfl,rfl,⟨AA,AA,hL,⟨AA⟩,AA⟩,?_,rfl⟩;exact cT hinv AA AA f (by rw[List.getElem?_map,K];rfl) h.rp
theorem j6 {Y:LR} (hX:X=Ba xs) (hY:Y=Ba ys) (hs:FA xs) (ht:FA ys) (U:ys.length=xs.length) (hn:xs.length<=1000000) (hZ:Z=Ba (List.zipWith (· + ·) xs ys)) (V:zn=Z.length):CF 254 [AT X,AT Y] (.one (.own AL Z zn)):=by
 refine AN Tryz.func254 fun E hE=>?_
 have ad:X.length=xs.length:=by rw[hX,List.length_map]
 have ae:Y.length=xs.length:=by rw[hY,List.length_map,U]
 rintro n8 ⟨e8,f8⟩;conv=>cbv
 refine⟨fun _=>⟨AA,AA,by show _*64<=140737488355328;omega⟩,?_⟩;intro k9 (l9:LR) J;have ah:=J.1;have N:l9=List.replicate k9 (((false,[]),(false,[])):el AL):=J.2;have aa:l9.length=k9:=by rw[N,List.length_replicate]
 conv=>cbv
 intro a2 K;have a8:=K.eq;conv=>cbv
 refine Bc [] [0,1,5,11,12] [9] (fun vs bl k=>∃(o:LR) (m i':Nat) (L i:Int),vs=[AT X,AT Y,.one (.BK AL 9 0 0 m),AD L,AD i]/\bl=[.arr 0 AL o]/\(o.length=X.length/\m=X.length/\Ah L X.length/\Ah i i'/\i'<=X.length)/\o.take i'=Ba ((List.zipWith (· + ·) xs ys).take i')/\k=X.length-i') (X.length-0) ⟨l9,k9,0,a2,0,rfl,rfl,⟨AA,AA,⟨AA⟩,BJ 0,AA⟩,rfl,rfl⟩ ?_;rintro J0 M vs bl ai ⟨o,m,i',L,i,rfl,rfl,⟨ho,hm,hL,hi,af⟩,hinv,ag⟩;conv=>cbv
 have eL:=hL.eq;have ei:=hi.eq;refine Bt (fun a1=>?_) fun a1=>?_
 ·have G:Ba (List.zipWith (· + ·) xs ys)=o.take X.length:=cR hinv AA AA (by rw[List.length_zipWith];omega);have f:Z=o:=by rw[hZ,G,List.take_of_length_le AA]
  exact AM ⟨⟨rfl,.inr (.inl ⟨_,_,AF,rfl,rfl,AA,rfl,De (f) (by rw[V,f])⟩),trivial⟩,trivial⟩
 refine .inr ?_;refine BH i' fun aj H=>?_
 try conv=>cbv
 refine BH i' fun ak I=>?_
 try conv=>cbv
 obtain⟨p,hp,O,Q⟩:=Jc hX hs H;obtain⟨q,hq,P,S⟩:=Jc hY ht I;obtain⟨z,D,v,w,j⟩:=CZ (p+q);refine AB hE (gj hp hq Q S rfl j) ?_;intro W a7;refine⟨((z,D),(v,w)),fun _=>⟨by show _<List.length (α:=(el AL)) o;(first | omega | (simp;omega)),Ds⟩,?_⟩;intro (F:LR) (h:F=List.set (α:=(el AL)) o W (((z,D),(v,w))));have a6:F.length=o.length:=by rw[h,List.length_set]
 refine AP ?_;intro a5 ab;refine⟨X.length-(i'+1),?_,?_⟩
 ·omega
 rw[M];refine⟨F,m,i'+1,L,a5,rfl,rfl,⟨AA,AA,hL,⟨AA⟩,AA⟩,?_,rfl⟩;exact cT hinv AA AA h (by rw[List.getElem?_zipWith,O,P]) j.rp
end
section
def IU (p:el AL->Bool):Nat->LR->Int
 | _,[]=> -1
 | i,x::l=>if p x=true then i else IU p (i+1) l
variable {Y:LR} {b1 b2 c:Bool} {g:FuncId} {i:Nat} {l1 l2:List UInt32} {x:el AL} {ys:List Rat}
theorem Zd {X:LR} (h:X[i]? =some x):X.drop i=x::X.drop (i+1):=by
 have f:=Hd h;rw[List.drop_eq_getElem_cons f];rw[List.getElem?_eq_getElem f] at h;rw[Option.some.inj h]
theorem nN {X:LR} {p:el AL->Bool} (h:X[i]? =some x) (f:p x=false):IU p i (X.drop i)=IU p (i+1) (X.drop (i+1)):=by
 rw[Zd h,IU,f];rfl
theorem nM {X:LR} {p:el AL->Bool} (h:X[i]? =some x) (f:p x=true):IU p i (X.drop i)=i:=by
 rw[Zd h,IU,if_pos f]
theorem gT {X:LR} {p:el AL->Bool} {r:Int} (I:∀x∈X,CF g [.agg (cells AL x)] (.one (.bool (p x)))) (N:r=IU p 0 X):CF 340 [AT X,.one (.fn g)] (AD r):=by
 refine AN Tryz.func340 fun E H=>?_
 intro Q v;have U:=v.eq;have f7:=v.le;refine Bc [] [0,1,7,8] [] (fun vs F k=>∃(i':Nat) (L i:Int),vs=[AT X,.one (.fn g),AD L,AD i]/\(EJ L X.length/\Ah i i'/\i'<=X.length)/\r=IU p i' (X.drop i')/\k=X.length-i') (X.length-0) ⟨0,Q,0,rfl,⟨v,BJ 0,AA⟩,N,rfl⟩ ?_;rintro S w vs F P ⟨i',L,i,rfl,⟨D,J,K⟩,hinv,M⟩;conv=>cbv
 have V:=D.eq;have W:=J.eq;refine Bt (fun O=>?_) fun O=>?_
 ·exact AO (by rw[hinv,List.drop_eq_nil_of_le AA];rfl)
 refine .inr ?_;refine BH i' fun f j=>?_
 try conv=>cbv
 obtain⟨m,h⟩:=xB (p f);refine .inl ⟨[.agg [.bool f.1.1,.sl .u32 f.1.2,.bool f.2.1,.sl .u32 f.2.2]],.one (.bool m),fun _=>⟨t4,trivial⟩,fun _=>GX H ((by rw[h];exact I f (List.mem_of_getElem? j))),?_⟩;try conv=>cbv
 cases m <;> conv=>cbv
 ·refine AP ?_;intro z G;refine⟨X.length-(i'+1),?_,?_⟩
  ·omega
  rw[w];refine⟨i'+1,L,z,rfl,⟨D,⟨AA⟩,AA⟩,?_,rfl⟩;rw[hinv,nN j h.symm]
 exact AO (by rw[hinv,nM j h.symm];omega)
theorem Zc (p:el AL->Bool):∀(X:LR) (i:Nat),decide (IU p i X >= 0)=X.any p
 | [],i=>rfl
 | x::X,i=>by
  rw[IU,List.any_cons]
  split
  ·rename_i h;rw[h,Bool.true_or];exact decide_eq_true AA
  rename_i h;rw[Bool.eq_false_iff.2 h,Bool.false_or];exact Zc p X (i+1)
theorem Wi {X:LR} {p:el AL->Bool} (m:∀x∈X,CF g [.agg (cells AL x)] (.one (.bool (p x)))) (k:c=X.any p):CF 308 [AT X,.one (.fn g)] (.one (.bool c)):=by
 refine AN Tryz.func308 fun E j=>?_
 obtain⟨w,f⟩:=xI (IU p 0 X);refine AB j (gT m f) ?_;intro v h;exact AO (by rw[k,h,f];exact (Zc p X 0).symm)
theorem sf (q:Rat):decide (q≠0)=(E1 q !=0):=by
 have h:= @Rat.num_eq_zero q;rw[Bool.eq_iff_iff,decide_eq_true_eq,bne_iff_ne];rcases Vw q with⟨a,e⟩ |⟨a,e⟩ |⟨a,e⟩ <;> rw[e]
 ·exact⟨fun _=>AF,fun _ f=>by rw[h.2 f] at a;omega⟩
 ·exact⟨fun f=>absurd (h.1 a) f,fun f=>absurd rfl f⟩
 exact⟨fun _=>AF,fun _ f=>by rw[h.2 f] at a;omega⟩
theorem pN {q:Rat} (m:Bw q b1 l1 b2 l2) (k:c=decide (q≠0)):CF 346 [.agg (CT b1 l1 b2 l2)] (.one (.bool c)):=by
 refine AN Tryz.func346 fun E j=>?_
 obtain⟨w,f⟩:=xI (E1 q);refine AB j (PH m f) ?_;intro v h;exact AO (by rw[k,h,f];exact sf q)
theorem cQ (q:Rat):decide (q≠0)= !(rp q).1.2.isEmpty:=by
 have h:(rp q).1.2=BB q.num.natAbs:=rfl;rw[h,Bool.eq_iff_iff,decide_eq_true_eq,Bool.not_eq_true',List.isEmpty_eq_false_iff,Ne,Ne,Fo,<-Rat.num_eq_zero];omega
theorem rA (xs:List Rat):(Ba xs).any (fun x=> !x.1.2.isEmpty)= !decide (∀q∈xs,q=0):=by
 induction xs with
 | nil=>rfl
 | cons q xs f=>
  rw[Ba,List.map_cons,List.any_cons,<-cQ,<-Ba,f]
  by_cases h:q=0 <;> simp[h]
theorem tf {X:LR} {xs:List Rat} (h:X=Ba xs):∀x∈X,CF 346 [.agg (cells AL x)] (.one (.bool (!x.1.2.isEmpty))):=by
 intro x f;rw[h] at f;obtain⟨q,_,rfl⟩:=List.mem_map.1 f;exact pN (H2 q) (cQ q).symm
theorem Xh {X:LR} {xs:List Rat} (h:X=Ba xs) (m:c=decide (∀q∈xs,q=0)):CF 319 [AT X] (.one (.bool c)):=by
 refine AN Tryz.func319 fun E k=>?_
 obtain⟨v,f⟩:=xB (X.any (fun x=> !x.1.2.isEmpty));refine AB k (Wi (tf h) f) ?_;intro w j;exact AO (by rw[m,j,f,h,rA,Bool.not_not])
theorem nu (k:c= !GF b1 l1 b2 l2) (s1:l1.length<=17592186042000) (s2:l2.length<=17592186042000):CF 309 [.agg (CT b1 l1 b2 l2)] (.one (.bool c)):=by
 refine AN Tryz.func309 fun E j=>?_
 obtain⟨m,f⟩:=xB (GF b1 l1 b2 l2);refine AB j (Wy f s1 s2) ?_;intro v h;exact AO (by rw[k,h,f])
theorem kN {X:LR} {xs:List Rat} (j:X=Ba xs) (m:FA xs):∀x∈X,CF 309 [.agg (cells AL x)] (.one (.bool false)):=by
 intro x f;rw[j] at f;obtain⟨q,k,rfl⟩:=List.mem_map.1 f;have h:=(H2 q).small (m q k);exact nu (by rw[NH.2 ⟨q,H2 q⟩];rfl) AA AA
theorem any_false (X:LR):false=X.any (fun _=>false):=by
 induction X with
 | nil=>rfl
 | cons x X f=>rw[List.any_cons,<-f];rfl
theorem U9 {X:LR} {xs:List Rat} {k:Int} {n:Nat} (h:X=Ba xs) (z:FA xs) (w:Ah k n) (m:c=decide (xs.length=n)):CF 258 [AT X,AD k] (.one (.bool c)):=by
 have H:=w.eq;refine AN Tryz.func258 fun E v=>?_
 rintro I ⟨G,f6⟩;refine CU (fun D=>?_) fun D=>?_
 ·exact AO (by have j:X.length=xs.length:=(by rw[h,List.length_map]);rw[m];exact decide_eq_false AA)
 refine AB v (Wi (p:=fun _=>false) (kN h z) (any_false X)) ?_;intro F f;exact AO (by have j:X.length=xs.length:=(by rw[h,List.length_map]);rw[m,f];exact decide_eq_true AA)
theorem GP {n i:Int} {k:Nat} (h:n=IntKind.i64.wrap (1*2^min i.toNat IntKind.i64.bits)) (e:i=k) (f:k<=20:=by omega):Ah n (2^k):=by
 have j:=wrap_i64 h;have m:2^k<=2^20:=Nat.pow_le_pow_right AF f
 have h3:((2:Int)^min i.toNat IntKind.i64.bits)=((2^k:Nat):Int):=by
  rw[e,Int.toNat_natCast,Nat.min_eq_left (Nat.le_trans f AF)];simp
 rw[h3,Int.one_mul] at j
 generalize 2^k=Q at*
 exact⟨AA⟩
theorem LJ {X:List LR} {xs:AH} {x:LR} (j:X=xs.map Ba) (f:X[i]? =some x):∃y,x=Ba y/\xs[i]? =some y:=by
 rw[j,List.getElem?_map] at f;cases h:xs[i]? with
 | none=>rw[h] at f;simp at f
 | some q=>rw[h] at f;exact⟨q,(Option.some.inj f).symm,rfl⟩
theorem VW {X:List LR} {xs:AH} (G:X=xs.map Ba) (ht:PL xs) (N:c=true):CF 257 [BL X] (.one (.bool c)):=by
 refine AN Tryz.func257 fun E K=>?_
 have M:X.length=xs.length:=by rw[G,List.length_map]
 have hl:=ht.UP;intro W v;have e6:=v.eq;have f6:=v.le;conv=>cbv
 refine Bc [] [5,6,7] [] (fun vs H k=>∃(i':Nat) (L i:Int),vs=[BL X,AD L,AD i]/\(EJ L X.length/\Ah i i'/\i'<=X.length)/\k=X.length-i') (X.length-0) ⟨0,W,0,rfl,⟨v,BJ 0,AA⟩,rfl⟩ ?_;rintro J0 w vs H U ⟨i',L,i,rfl,⟨F,O,P⟩,Q⟩;conv=>cbv
 have eL:=F.eq;have I:=O.eq;refine Bt (fun S=>?_) fun S=>?_
 ·exact AO (N)
 refine .inr ?_;refine BH i' fun a1 f=>?_
 refine AP ?_;intro V m;obtain⟨x,z,h⟩:=LJ G f;refine AB (r:= .one (.bool true)) K (U9 z (ht.small x (List.mem_of_getElem? h)) (GP m I) (by rw[ht.form i' x h];exact (decide_eq_true rfl).symm)) ?_;refine HT (fun j=>?_) fun j=>?_
 ·exact absurd j AF
 intro D J;exact Bz w ⟨i'+1,L,D,rfl,⟨F,⟨AA⟩,AA⟩,rfl⟩
theorem JG {X:List LR} {xs:AH} (v:X=xs.map Ba) (ht:PL xs) (z:Y=Ba ys) (F:FA ys) (D:c=decide (ys.length=2^xs.length)):CF 202 [BL X,AT Y] (.one (.bool c)):=by
 refine AN Tryz.func202 fun E m=>?_
 have k:X.length=xs.length:=by rw[v,List.length_map]
 have I:=ht.UP;refine AB m (VW v ht rfl) ?_;rintro G ⟨h,f10⟩ H j;obtain⟨w,f⟩:=xB (decide (ys.length=2^xs.length));refine AB m (U9 z F (GP j (h.trans (congrArg _ k))) f) ?_;exact AO (D.trans f.symm)
theorem UI {X:List LR} {Z:LR} {xs:AH} {w:List Rat} (D:X=xs.map Ba) (ht:PL xs) (F:Y=Ba ys) (H:FA ys) (m:ys.length=2^xs.length) (G:Z=Ba w) (k:FA w) (v:w.length=2^xs.length):CF 253 [BL X,AT Y,AT Z] (.one (.bool true)):=by
 refine AN Tryz.func253 fun E z=>?_
 have j:X.length=xs.length:=by rw[D,List.length_map]
 have K:=ht.UP;refine AB z (JG D ht F H (decide_eq_true m).symm) ?_;rintro I ⟨f,f13⟩ J h;refine AB z (U9 G k (GP h (f.trans (congrArg _ j))) (decide_eq_true v).symm) ?_;exact AM ⟨t2,trivial⟩
end
section
variable {A B C X Y Z:LR} {R s t zn:Nat} {T:List LR} {p:Rat} {x y:Re}
theorem K6 {u:AH} (h:BG u) (k:In u x) (j:X=em u x) (f:x=0):CF 319 [AT X] (.one (.bool true)):=
 Xh j (decide_eq_true ((Nv h k).2 f)).symm
theorem JP {u:AH} (h:BG u) (m:In u x) (j:X=em u x) (f:x≠0):CF 319 [AT X] (.one (.bool false)):=
 Xh j (decide_eq_false (fun k=>f ((Nv h m).1 k))).symm
theorem Qb {u:AH} {r:List Rat} {p q:Re} (h:BG (r::u)) (j:In u p) (k:In u q) (m:x=p+q*rt u r) (f:X=em (r::u) x) (v:A=em u p) (w:B=em u q):
  CF 321 [AT X] (.BN [(false,[AU A]),(false,[AU B])]):=
 nJ (by rw[f,v,DU h j k m]) (by rw[f,w,DH h j k m])
theorem NB (r:List Rat) (u:AH):tw (r::u)≠[]:=by rw[Ow];simp
theorem V8 {X A:List LR} {u:AH} {r:List Rat} (f:X=tw (r::u)) (h:A=tw u) (j:B=Ba r):
  CF 320 [BL X] (.BN [(false,[BA A]),(false,[AU B])]):=
 tH (by rw[f];exact NB r u) (by rw[f,h,Ek]) (by rw[f,j,Gl])
theorem KX {n:Nat} (h:n<=16:=by omega):2^n<=1000000:=Nat.le_trans (EV h) AF
theorem Xl {u:AH} (h:BZ R u) (m:X=em u x) (v:Y=em u y) (f:El u s x) (j:El u t y) (z:s<=60000000000000) (ht:t<=60000000000000) (w:Z=em u (x+y)) (k:zn=Z.length):
  CF 254 [AT X,AT Y] (.one (.own AL Z zn)):=
 j6 m v (f.C4 z) (j.C4 ht) (by rw[f.len,j.len]) (by rw[f.len];exact KX h.ht) (by rw[w,Y3 h.red f.mem j.mem]) k
theorem Pc {u:AH} (h:BZ R u) (f:X=em u x) (j:Y=em u y) (v:El u s x) (w:El u t y) (m:s<=60000000000000) (ht:t<=60000000000000) (k:Z=em u (x+y)):
 CF 254 [AT X,AT Y] (AT Z):=ER (Xl h f j v w m ht k rfl)
theorem Q9 {u:AH} (h:BZ R u) (j:X=em u x) (f:El u s x) (m:s<=60000000000000) (k:Z=em u (-x)):
  CF 203 [AT X] (AT Z):=
 pI j (f.C4 m) (by rw[f.len];exact KX h.ht) (by rw[k,Y4 h.red f.mem])
theorem SD {a:Int} {u:AH} (h:BZ R u) (ha:Ah a (2^u.length)) (j:Z=em u 0) (f:zn=Z.length):
  CF 301 [AD a] (.one (.own AL Z zn)):=
 vN ha (KX h.ht) (by rw[j,TZ h.red]) f
theorem GO {x:el AL} (h:A=[rp p]) (f:A[0]? =some x):Bw p x.1.1 x.1.2 x.2.1 x.2.2:=by
 rw[h] at f;rw[<-Option.some.inj f];exact H2 p
theorem oy {q:Rat} (M:T=[]) (G:A=[rp p]) (H:B=[rp q]) (P:Cw p) (ht:Cw q) (I:C=[rp (p*q)]) (F:zn=C.length):CF 278 [BL T,AT A,AT B] (.one (.own AL C zn)):=by
 refine AN Tryz.func278 fun E L=>?_
 refine .inr ?_;rintro Q ⟨D,f16⟩;conv=>cbv
 refine CU (fun k=>?_) fun k=>?_
 ·exact absurd (by rw[D,M];rfl) k
 have J:A.length=1:=by rw[G];rfl
 have K:B.length=1:=by rw[H];rfl
 refine BH 0 fun S h=>?_
 try conv=>cbv
 refine BH 0 fun U j=>?_
 try conv=>cbv
 have N:=GO G h;have O:=GO H j;obtain⟨w,z,m,v,f⟩:=CZ (p*q);refine AB L (gm N O P ht rfl f) ?_;refine⟨[((w,z),(m,v))],DK,.inl ?_⟩;try conv=>cbv
 refine g2 rfl ?_;exact AM ⟨⟨rfl,.inr (.inl ⟨_,_,AF,rfl,rfl,rfl,rfl,De (by rw[I,f.rp]) (by rw[F,I];rfl)⟩),trivial⟩,trivial⟩
theorem o9 {u:AH} (h:BZ R u) (L:T≠[]) (F:A=em u x) (O:B=em u y) (I:In u x) (P:In u y) (K:x=0) (G:C=em u 0) (z:zn=C.length):CF 278 [BL T,AT A,AT B] (.one (.own AL C zn)):=by
 refine AN Tryz.func278 fun E H=>?_
 refine .inr ?_;rintro M ⟨J,f16⟩;conv=>cbv
 refine BV (fun D=>?_) fun D=>?_
 ·exact absurd (List.length_eq_zero_iff.1 AA) L
 refine AB H (K6 h.red I F K) ?_;have w:A.length=2^u.length:=by rw[F,CH I]
 rintro N ⟨v,f34⟩;conv=>cbv
 obtain⟨k,f⟩:=xR (em u (0));obtain⟨m,j⟩:=xN k.length;refine AB (r:= .one (.own AL k m)) H (SD h (Ah.of (by rw[v,w])) f j) ?_;exact AM ⟨⟨rfl,.inr (.inl ⟨_,_,AF,rfl,rfl,j,rfl,De (by rw[G,f]) (by rw[z,G,<-f])⟩),trivial⟩,trivial⟩
theorem pC {u:AH} (h:BZ R u) (N:T≠[]) (G:A=em u x) (M:B=em u y) (I:In u x) (O:In u y) (K:y=0) (L:x≠0) (H:C=em u 0) (D:zn=C.length):CF 278 [BL T,AT A,AT B] (.one (.own AL C zn)):=by
 refine AN Tryz.func278 fun E z=>?_
 refine .inr ?_;rintro P ⟨J,f16⟩;conv=>cbv
 refine BV (fun F=>?_) fun F=>?_
 ·exact absurd (List.length_eq_zero_iff.1 AA) N
 refine AB z (JP h.red I G L) ?_;refine AB z (K6 h.red O M K) ?_;have w:A.length=2^u.length:=by rw[G,CH I]
 rintro Q ⟨v,f34⟩;conv=>cbv
 obtain⟨k,f⟩:=xR (em u (0));obtain⟨m,j⟩:=xN k.length;refine AB (r:= .one (.own AL k m)) z (SD h (Ah.of (by rw[v,w])) f j) ?_;exact AM ⟨⟨rfl,.inr (.inl ⟨_,_,AF,rfl,rfl,j,rfl,De (by rw[H,f]) (by rw[D,H,<-f])⟩),trivial⟩,trivial⟩
def Wp (f:FuncId) (R:Nat) (u:AH):Prop:=∀{T:List LR} {A B C:LR} {zn s t:Nat} {x y:Re},T=tw u->A=em u x->B=em u y->El u s x->El u t y->s+t+EE u.length R<=60000000000000->C=em u (x*y)->zn=C.length->
 CF f [BL T,AT A,AT B] (.one (.own AL C zn))
theorem o8 {u:AH} {r:List Rat} (h:BZ R (r::u)) (W:Wp 278 R u) (hT:T=tw (r::u)) (hA:A=em (r::u) x) (hB:B=em (r::u) y) (hx:El (r::u) s x) (hy:El (r::u) t y) (aj:s+t+EE (r::u).length R<=60000000000000) (h0:x≠0) (h1:y≠0) (hC:C=em (r::u) (x*y)) (a7:zn=C.length):CF 278 [BL T,AT A,AT B] (.one (.own AL C zn)):=by
 obtain⟨p,q,a5,H,G⟩:=El.parts h.red hx;obtain⟨a,b,a6,ha,hb⟩:=El.parts h.red hy;have ah:EE (r::u).length R=2*EE u.length R+R+2:=rfl;have I:=El.Da h;have hR:=h.hR;have ai:=DW h.red;refine AN Tryz.func278 fun E j=>?_
 refine .inr ?_;rintro ak ⟨ag,f16⟩;conv=>cbv
 refine BV (fun a8=>?_) fun a8=>?_
 ·exact absurd (List.length_eq_zero_iff.1 AA) (hT ▸ NB r u)
 refine AB j (JP h.red hx.mem hA h0) ?_;refine AB j (JP h.red hy.mem hB h1) ?_;obtain⟨al,f⟩:=xV (tw u);obtain⟨an,M⟩:=xR (Ba r);refine AB j (V8 hT f M) ?_;obtain⟨ao,k⟩:=xR (em u p);obtain⟨aq,m⟩:=xR (em u q);refine AB j (Qb h.red H.mem G.mem a5 hA k m) ?_;obtain⟨ar,v⟩:=xR (em u a);obtain⟨au,w⟩:=xR (em u b);refine AB j (Qb h.red ha.mem hb.mem a6 hB v w) ?_;obtain⟨av,N⟩:=xR (em u (p*a));refine AB j (ER (W f k v H ha AA N rfl)) ?_;obtain⟨aw,O⟩:=xR (em u (q*b));refine AB j (ER (W f m w G hb AA O rfl)) ?_;obtain⟨ax,P⟩:=xR (em u (q*b*AW u r));refine AB j (ER (W f O (M.trans (Fh h.red)) (G.mul h.tail hb) I AA P rfl)) ?_;obtain⟨J,z⟩:=xR (em u (p*a+q*b*AW u r));obtain⟨af,D⟩:=xN J.length;refine AB j (Xl h.tail N P (H.mul h.tail ha) ((G.mul h.tail hb).mul h.tail I) AA AA z D) ?_
 obtain⟨ay,Q⟩:=xR (em u (p*b));refine AB j (ER (W f k w H hb AA Q rfl)) ?_;obtain⟨az,S⟩:=xR (em u (q*a));refine AB j (ER (W f m v G ha AA S rfl)) ?_;obtain⟨K,F⟩:=xR (em u (p*b+q*a));refine AB j (Pc h.tail Q S (H.mul h.tail hb) (G.mul h.tail ha) AA AA F) ?_;have ab:J.length=2^u.length:=by rw[z,CH (EM (H.mul h.tail ha).mem ((G.mul h.tail hb).mul h.tail I).mem)]
 have ad:K.length=2^u.length:=by rw[F,CH (EM (H.mul h.tail hb).mem (G.mul h.tail ha).mem)]
 have ae:=EV h.tail.ht;refine .inl ⟨K,fun _=>⟨rfl,D,rfl,C2 (J.length+K.length) 64⟩,?_⟩;intro (V:LR) aa U;have a1:V=(J:LR)++(K:LR):=U.1;have a2:aa=List.length (α:=(el AL)) V:=U.2;conv=>cbv
 have L:C=V:=by rw[hC,a1,z,F];exact GR h.red (EM (H.mul h.tail ha).mem ((G.mul h.tail hb).mul h.tail I).mem) (EM (H.mul h.tail hb).mem (G.mul h.tail ha).mem) (by rw[a5,a6];clear W;grind)
 exact AM ⟨⟨rfl,.inr (.inl ⟨_,_,AF,rfl,rfl,a2,rfl,De (L) (by rw[a7,L])⟩),trivial⟩,trivial⟩
theorem mulC {u:AH} (h:BZ R u):Wp 278 R u:=by
 induction u with
 | nil=>
  intro T A B C zn s t x y z j k v w D m f;obtain⟨p,rfl⟩:=DV.1 v.mem;obtain⟨q,rfl⟩:=DV.1 w.mem;rw[FD] at j k;rw[<-Re.ofRat_mul,FD] at m;have H:=v.C4 AA;have I:=w.C4 AA;rw[Ed] at H I;exact oy z j k (H _ List.mem_cons_self) (I _ List.mem_cons_self) m f
 | cons r u J=>
  intro T A B C zn s t x y z j k v w D m f
  by_cases F:x=0
  ·refine o9 h (z ▸ NB r u) j k v.mem w.mem F ?_ f;rw[m,F];congr 1;grind
  by_cases G:y=0
  ·refine pC h (z ▸ NB r u) j k v.mem w.mem G F ?_ f;rw[m,G];congr 1;grind
  exact o8 h (J h.tail) z j k v w D F G m f
theorem OT {u:AH} (h:BZ R u) (v:T=tw u) (j:A=em u x) (k:B=em u y) (w:El u s x) (z:El u t y) (f:s+t+EE u.length R<=60000000000000) (m:C=em u (x*y)):
 CF 278 [BL T,AT A,AT B] (AT C):=ER (mulC h v j k w z f m rfl)
end
section
variable {A B C:LR} {R s t:Nat} {T:List LR} {p x y:Re} {q:Rat} {r:List Rat} {u:AH}
theorem aj {q:Re} (h:BZ R (r::u)) (Q:T=tw (r::u)) (O:A=em (r::u) x) (S:El (r::u) s x) (N:x=p+q*rt u r) (K:In u p) (M:In u q) (hs:2*s+2*EE u.length R+R+1<=60000000000000) (P:C=em u (p*p-q*q*AW u r)):CF 349 [BL T,AT A] (AT C):=by
 have L:=X7 h.red K M (N ▸ S.bd);have J:El u s p:=⟨K,L.1⟩;have m:El u s q:=⟨M,L.2⟩;have I:=El.Da h;have hR:=h.hR;refine AN Tryz.func349 fun E H=>?_
 obtain⟨U,f⟩:=xV (tw u);obtain⟨V,v⟩:=xR (Ba r);refine AB H (V8 Q f v) ?_;obtain⟨W,j⟩:=xR (em u p);obtain⟨a1,k⟩:=xR (em u q);refine AB H (Qb h.red J.mem m.mem N O j k) ?_;obtain⟨a2,w⟩:=xR (em u (p*p));refine AB H (OT h.tail f j j J J AA w) ?_;obtain⟨a5,z⟩:=xR (em u (q*q));refine AB H (OT h.tail f k k m m AA z) ?_;obtain⟨a6,D⟩:=xR (em u (q*q*AW u r));refine AB H (OT h.tail f z (v.trans (Fh h.red)) (m.mul h.tail m) I AA D) ?_;obtain⟨a7,F⟩:=xR (em u (-(q*q*AW u r)));refine AB H (Q9 h.tail D ((m.mul h.tail m).mul h.tail I) AA F) ?_;obtain⟨a8,G⟩:=xR (em u (p*p+ -(q*q*AW u r)));refine AB H (Pc h.tail w F (J.mul h.tail J) (((m.mul h.tail m).mul h.tail I).neg h.red.1) AA AA G) ?_;exact AO (by rw[P,G];congr 1)
theorem ng {p:Rat} (P:T=[]) (H:A=[rp p]) (O:B=[rp q]) (S:Cw p) (F:p≠0) (G:q=1/p):CF 326 [BL T,AT A] (.BN [(false,[AU B]),(false,[.bool true])]):=by
 refine AN Tryz.func326 fun E I=>?_
 rintro U ⟨D,f15⟩;refine CU (fun k=>?_) fun k=>?_
 ·exact absurd (by rw[D,P];rfl) k
 obtain⟨L,M,J,K,f⟩:=CZ (((1:Int):Rat));refine AB I (Il AA rfl f) ?_;have N:A.length=1:=by rw[H];rfl
 refine BH 0 fun V j=>?_
 try conv=>cbv
 have Q:=GO H j;obtain⟨w,z,m,v,h⟩:=CZ q;refine AB I (gl f Q ⟨by decide +kernel,by decide +kernel⟩ S F G h) ?_;refine⟨[((w,z),(m,v))],DK,.inl ?_⟩;try conv=>cbv
 refine Bx ?_;exact AM ⟨⟨rfl,.inl ⟨_,rfl,AZ,congrArg _ (by rw[O,h.rp];rfl)⟩,trivial⟩,t2,trivial⟩
def Wn (f:FuncId) (R:Nat) (u:AH):Prop:=∀{T:List LR} {A B:LR} {s:Nat} {x y:Re},T=tw u->A=em u x->El u s x->In u y->x*y=1->II u.length R s<=60000000000000->B=em u y->
 CF f [BL T,AT A] (.BN [(false,[AU B]),(false,[.bool true])])
def vO (f:FuncId) (u:AH):Prop:=∀{T:List LR} {A:LR},T=tw u->A=em u 0->
 ∃l,CF f [BL T,AT A] (.BN [(false,[AU l]),(false,[.bool false])])
theorem nr {q i:Re} (h:BZ R (r::u)) (ih:Wn 326 R u) (W:T=tw (r::u)) (hA:A=em (r::u) x) (hx:El (r::u) s x) (M:x=p+q*rt u r) (O:El u s p) (L:El u s q) (hi:In u i) (P:(p*p-q*q*AW u r)*i=1) (hy:y=p*i+ -(q*i)*rt u r) (hs:II (r::u).length R s<=60000000000000) (hB:B=em (r::u) y):CF 326 [BL T,AT A] (.BN [(false,[AU B]),(false,[.bool true])]):=by
 have ad:II (r::u).length R s=s+EE u.length R+II u.length R (2*s+2*EE u.length R+R+1):=rfl;have hN:=El.norm h O.mem L.mem (M ▸ hx);have f:=hN.inv h.tail hi P;have a7:=Fy u.length R (2*s+2*EE u.length R+R+1);refine AN Tryz.func326 fun E K=>?_
 rintro ae ⟨ab,f15⟩;refine BV (fun a1=>?_) fun a1=>?_
 ·exact absurd (List.length_eq_zero_iff.1 AA) (W ▸ NB r u)
 obtain⟨af,j⟩:=xV (tw u);obtain⟨ag,V⟩:=xR (Ba r);refine AB K (V8 W j V) ?_;obtain⟨ah,F⟩:=xR (em u (p*p-q*q*AW u r));refine AB K (aj h W hA hx M O.mem L.mem AA F) ?_;obtain⟨ai,k⟩:=xR (em u i);refine AB K (ih j F hN hi P AA k) ?_;refine AY ?_;obtain⟨ak,G⟩:=xR (em u p);obtain⟨al,H⟩:=xR (em u q);refine AB K (Qb h.red O.mem L.mem M hA G H) ?_;obtain⟨z,m⟩:=xR (em u (p*i));obtain⟨aa,v⟩:=xN z.length;refine AB K (mulC h.tail j G k O f AA m v) ?_;obtain⟨an,I⟩:=xR (em u (q*i));refine AB K (OT h.tail j H k L f AA I) ?_;obtain⟨D,w⟩:=xR (em u (-(q*i)));refine AB K (Q9 h.tail I (L.mul h.tail f) AA w) ?_;have a5:z.length=2^u.length:=by rw[m,CH (O.mul h.tail f).mem]
 have a6:D.length=2^u.length:=by rw[w,CH ((L.mul h.tail f).neg h.red.1).mem]
 have a8:=EV h.tail.ht;refine .inl ⟨D,fun _=>⟨rfl,v,rfl,C2 (z.length+D.length) 64⟩,?_⟩;intro (N:LR) a2 J;have S:N=(z:LR)++(D:LR):=J.1;have U:a2=List.length (α:=(el AL)) N:=J.2;conv=>cbv
 have Q:B=N:=by rw[hB,S,m,w];exact GR h.red (O.mul h.tail f).mem ((L.mul h.tail f).neg h.red.1).mem hy
 exact AM ⟨⟨rfl,.inl ⟨_,rfl,AA,congrArg _ (by rw[Q,U,List.drop_zero,List.take_length])⟩,trivial⟩,t2,trivial⟩
theorem nf (h:BZ R u):Wn 326 R u:=by
 induction u with
 | nil=>
  intro T A B s x y G w m J f I z;obtain⟨p,rfl⟩:=DV.1 m.mem;obtain⟨q,rfl⟩:=DV.1 J;rw[FD] at w z;rw[<-Re.ofRat_mul] at f;have e:=Re.Jm.1 f;have k:=m.C4 (by have:=Fy 0 R s;have:II ([]:AH).length R s=II 0 R s:=rfl;omega);rw[Ed] at k;exact ng G w z (k _ List.mem_cons_self) (by intro K;subst K;grind) (by grind)
 | cons r u D=>
  intro T A B s x y G w m J f I z;obtain⟨p,q,j,k,H⟩:=El.parts h.red m;have O:=DW h.red;have L:=El.norm h k.mem H.mem (j ▸ m);have F:p*p-q*q*AW u r≠0:=ah h.red k.mem H.mem (by intro e;rw[<-j] at e;rw[e] at f;have N:(0:Re)<1:=Re.Ia.2 (AF:(0:Rat)<1);grind);obtain⟨i,M,v⟩:=Ey h.red.1 L.mem F;refine nr h (D h.tail) G w m j k H M v ?_ I z
  have:y=x*y*((p-q*rt u r)*i):=by
   have:x*y*((p-q*rt u r)*i)=y*((p*p-q*q*AW u r)*i):=by rw[j];clear D;grind
   rw[this,v];clear D;grind
  rw[f] at this
  clear D;grind
theorem Lt (h:BZ R u) (z:T=tw u) (k:A=em u x) (m:B=em u y) (f:El u s x) (j:El u t y) (D:s<=60000000000000) (ht:t<=60000000000000) (w:C=em u (x+y)):CF 216 [BL T,AT A,AT B] (AT C):=by
 refine AN Tryz.func216 fun E v=>?_
 refine AB (r:= .one (.bool true)) v (UI z h.Hp k (f.C4 AA) (by rw[f.len,List.length_reverse]) m (j.C4 AA) (by rw[j.len,List.length_reverse])) ?_;refine AY ?_;refine AB v (Pc h k m f j D ht w) ?_;exact AM ⟨t2,trivial⟩
theorem PK (h:BZ R u) (D:T=tw u) (v:A=em u x) (w:B=em u y) (m:El u s x) (j:El u t y) (F:s<=60000000000000) (ht:t<=60000000000000) (z:C=em u (x-y)):CF 198 [BL T,AT A,AT B] (AT C):=by
 refine AN Tryz.func198 fun E k=>?_
 refine AB (r:= .one (.bool true)) k (UI D h.Hp v (m.C4 AA) (by rw[m.len,List.length_reverse]) w (j.C4 AA) (by rw[j.len,List.length_reverse])) ?_;refine AY ?_;obtain⟨G,f⟩:=xR (em u (-y));refine AB k (Q9 h w j ht f) ?_;refine AB (r:= .one (AU C)) k (Pc h v f m (j.neg h.red) F ht (by rw[z];congr 1)) ?_;exact AM ⟨t2,trivial⟩
theorem Ij (h:BZ R u) (z:T=tw u) (m:A=em u x) (v:B=em u y) (j:El u s x) (k:El u t y) (f:s+t+EE u.length R<=60000000000000) (D:C=em u (x*y)):CF 218 [BL T,AT A,AT B] (AT C):=by
 refine AN Tryz.func218 fun E w=>?_
 refine AB (r:= .one (.bool true)) w (UI z h.Hp m (j.C4 AA) (by rw[j.len,List.length_reverse]) v (k.C4 AA) (by rw[k.len,List.length_reverse])) ?_;refine AY ?_;refine AB w (OT h z m v j k f D) ?_;exact AM ⟨t2,trivial⟩
theorem Wt (h:BZ R u) (v:T=tw u) (j:A=em u x) (f:El u s x) (w:s<=60000000000000) (m:C=em u (-x)):CF 131 [BL T,AT A] (AT C):=by
 refine AN Tryz.func131 fun E k=>?_
 refine AB (r:= .one (.bool true)) k (JG v h.Hp j (f.C4 AA) (by rw[f.len,List.length_reverse];exact (decide_eq_true rfl).symm)) ?_;refine AY ?_;refine AB k (Q9 h j f w m) ?_;exact AM ⟨t2,trivial⟩
theorem PE (h:BZ R u) (v:T=tw u) (k:A=em u x) (f:El u s x) (F:In u y) (j:x*y=1) (D:II u.length R s<=60000000000000) (w:C=em u y):CF 285 [BL T,AT A] (.BN [(false,[AU C]),(false,[.int .i64 0])]):=by
 have z:=Fy u.length R s;refine AN Tryz.func285 fun E m=>?_
 refine AB (r:= .one (.bool true)) m (JG v h.Hp k (f.C4 AA) (by rw[f.len,List.length_reverse];exact (decide_eq_true rfl).symm)) ?_;refine AY ?_;refine AB m (nf h v k f F j D w) ?_;refine AY ?_;exact AM ⟨t2,t2,trivial⟩
theorem SM {q:Re} (h:BZ R (r::u)) (f:T=tw (r::u)) (z:A=em (r::u) x) (m:El (r::u) s x) (v:x=p+q*rt u r) (j:In u p) (k:In u q) (H:2*s+2*EE u.length R+R+1<=60000000000000) (G:C=em u (p*p-q*q*AW u r)):CF 335 [BL T,AT A] (AT C):=by
 refine AN Tryz.func335 fun E D=>?_
 refine AB (r:= .one (.bool true)) D (JG f h.Hp z (m.C4 AA) (by rw[m.len,List.length_reverse];exact (decide_eq_true rfl).symm)) ?_;refine AY ?_;rintro I ⟨F,f11⟩;refine BV (fun w=>?_) fun w=>?_
 ·exact absurd (List.length_eq_zero_iff.1 AA) (f ▸ NB r u)
 refine AB D (aj h f z m v j k H G) ?_;exact AM ⟨t2,trivial⟩
theorem se {n:Nat} (h:0<n):(List.replicate n (rp 0)).set 0 (rp q)=rp q::List.replicate (n-1) (rp 0):=by
 cases n with
 | zero=>omega
 | succ n=>rfl
theorem Y6 (h:BG u):em u (Re.ofRat q)=(em u 0).set 0 (rp q):=by
 rw[em,It q h,TZ h,Ba,Ba,List.map_cons,List.map_replicate,List.map_replicate,se (Dz _)]
theorem Y7 (h:BG (r::u)):em (r::u) (rt u r)=(em (r::u) 0).set (2^u.length) (rp 1):=by
 have e:rt u r=0+1*rt u r:=by grind
 rw[GR h (Cs u) (LN u) e,GR (x:=0) h (Cs u) (Cs u) (by grind),List.set_append_right _ _ (by rw[CH (Cs u)];omega),CH (Cs u),Nat.sub_self]
 congr 1
 exact Y6 (q:=1) h.1
theorem Ks {b1 b2:Bool} {l1 l2:List UInt32} (h:BZ R u) (K:T=tw u) (H:Bw q b1 l1 b2 l2) (S:Cw q) (O:C=em u (Re.ofRat q)):CF 306 [BL T,.agg (CT b1 l1 b2 l2)] (AT C):=by
 refine AN Tryz.func306 fun E F=>?_
 refine AB F (VW K h.Hp rfl) ?_;refine AY ?_;have Q:=H.small S;refine AB F (Wy (NH.2 ⟨q,H⟩).symm AA AA) ?_;refine AY ?_;have G:T.length=u.length:=by rw[K,Cr]
 have w:=h.ht;refine AP ?_;rintro U ⟨D,f15⟩ V w;obtain⟨j,f⟩:=xR (em u (0));obtain⟨N,m⟩:=xN j.length;refine AB F (SD h (GP w (D.trans (congrArg _ G))) f m) ?_;have M:j.length=2^u.length:=by rw[f,CH (Cs u)]
 have P:=Dz u.length;refine AP ?_;intro I L;refine⟨((b1,l1),(b2,l2)),fun _=>⟨by show _<List.length (α:=(el AL)) j;(first | omega | (simp;omega)),Ds⟩,?_⟩;intro (v:LR) (k:v=List.set (α:=(el AL)) j I (((b1,l1),(b2,l2))));have J:v.length=j.length:=by rw[k,List.length_set]
 conv=>cbv
 have z:C=v:=by rw[O,Y6 h.red,k,f,H.rp];congr 1;omega
 exact AM ⟨⟨rfl,.inl ⟨_,rfl,AA,congrArg _ (by rw[z,List.drop_zero,List.take_of_length_le AA])⟩,trivial⟩,trivial⟩
theorem gz {k:Int} (h:BZ R (r::u)) (V:T=tw (r::u)) (hk:Ah k u.length) (hC:C=em (r::u) (rt u r)):CF 251 [BL T,AD k] (AT C):=by
 have ek:=hk.eq;have Q:T.length=u.length+1:=by rw[V,Cr];rfl
 have a8:=h.ht;have W:(r::u).length=u.length+1:=rfl;refine AN Tryz.func251 fun E P=>?_
 refine AB P (VW V h.Hp rfl) ?_;refine AY ?_;refine C6 (fun K=>?_) fun K=>?_
 ·exact absurd K AA
 intro ad I;have a7:=I.eq;have f16:=I.le;refine SA (fun L=>?_) fun L=>?_
 ·exact absurd L AA
 rintro ae ⟨M,f20⟩ af N;obtain⟨j,f⟩:=xR (em (r::u) (0));obtain⟨a6,G⟩:=xN j.length;refine AB P (SD h (GP N (M.trans (congrArg _ Q))) f G) ?_;intro ag O;obtain⟨D,F,w,z,v⟩:=CZ (((1:Int):Rat));refine AB P (Il AA rfl v) ?_;have a2:j.length=2^(r::u).length:=by rw[f,CH (Cs _)]
 have ab:=Dz u.length;have aa:=Cg r u;have a5:=(GP O ek).eq;refine AP ?_;intro S a1;refine⟨((D,F),(w,z)),fun _=>⟨by show _<List.length (α:=(el AL)) j;(first | omega | (simp;omega)),Ds⟩,?_⟩;intro (H:LR) (m:H=List.set (α:=(el AL)) j S (((D,F),(w,z))));have U:H.length=j.length:=by rw[m,List.length_set]
 conv=>cbv
 refine g2 rfl ?_;have J:C=H:=by rw[hC,Y7 h.red,m,f];congr 1 <;> first | omega | exact v.rp
 exact AM ⟨⟨rfl,.inl ⟨_,rfl,AA,congrArg _ (by rw[J,List.drop_zero,List.take_of_length_le AA])⟩,trivial⟩,trivial⟩
end
section
variable {a b:Nat} {b1 b2 c c1 c2 d1 d2:Bool} {k1 k2 l l' l1 l2 m1 m2:List UInt32} {r:Rat} {x y:Int}
theorem Q5 (p q:Rat):(p*q).num=(p.num/((Nat.gcd p.num.natAbs q.den:Nat):Int))*(q.num/((Nat.gcd q.num.natAbs p.den:Nat):Int)):=by
 show (Rat.mul p q).num=_
 unfold Rat.mul
 dsimp only
 rw[Int.divExact_eq_ediv,Int.divExact_eq_ediv]
theorem Q0 (p q:Rat):((p*q).den:Int)=((p.den:Int)/((Nat.gcd q.num.natAbs p.den:Nat):Int))*((q.den:Int)/((Nat.gcd p.num.natAbs q.den:Nat):Int)):=by
 have:(p*q).den=(p.den/Nat.gcd q.num.natAbs p.den)*(q.den/Nat.gcd p.num.natAbs q.den):=by
  show (Rat.mul p q).den=_
  unfold Rat.mul
  dsimp only
  rw[Nat.divExact_eq_div,Nat.divExact_eq_div]
 rw[this,Int.natCast_mul,Int.natCast_ediv,Int.natCast_ediv]
theorem Xj (p q:Rat) (h:Nat.gcd p.den q.den=1):(p+q).num=p.num*q.den+q.num*p.den/\((p+q).den:Int)=(p.den:Int)*q.den:=by
 have:(p+q)=Rat.add p q:=rfl;rw[this];unfold Rat.add
 dsimp only
 rw[dif_pos h];exact⟨rfl,by rw[Int.natCast_mul]⟩
theorem Xk (p q:Rat) {g h:Nat} {N:Int} (k:g=Nat.gcd p.den q.den) (w:g≠1) (F:x=(p.den:Int)/g) (G:y=(q.den:Int)/g) (z:N=p.num*y+q.num*x) (v:h=Nat.gcd N.natAbs g):
  (p+q).num=N/h/\((p+q).den:Int)=x*((q.den:Int)/h):=by
 have e:(p+q)=Rat.add p q:=rfl;have f:x=((p.den/g:Nat):Int):=by rw[F,Int.natCast_ediv]
 have m:y=((q.den/g:Nat):Int):=by rw[G,Int.natCast_ediv]
 have j:p.num*((q.den/Nat.gcd p.den q.den:Nat):Int)+q.num*((p.den/Nat.gcd p.den q.den:Nat):Int)=N:=by rw[z,f,m,k]
 have D:h∣q.den:=by rw[v];exact Nat.dvd_trans (Nat.gcd_dvd_right _ _) (by rw[k];exact Nat.gcd_dvd_right _ _)
 subst k;rw[e];unfold Rat.add
 dsimp only
 rw[dif_neg w,Rat.maybeNormalize_eq]
 dsimp only
 rw[Int.divExact_eq_ediv,j,<-v];refine⟨rfl,?_⟩;rw[f,Nat.mul_div_assoc _ D,Int.natCast_mul,Int.natCast_ediv (q.den)]
theorem GL {a:Int} (hb:b≠0):a=a/((Nat.gcd a.natAbs b:Nat):Int)*((Nat.gcd a.natAbs b:Nat):Int)/\(b:Int)=(b:Int)/((Nat.gcd a.natAbs b:Nat):Int)*((Nat.gcd a.natAbs b:Nat):Int):=by
 exact⟨(Int.ediv_mul_cancel (Int.ofNat_dvd_left.2 (Nat.gcd_dvd_left _ _))).symm,(Int.ediv_mul_cancel (Int.natCast_dvd_natCast.2 (Nat.gcd_dvd_right _ _))).symm⟩
theorem F8 (hb:b≠0):((Nat.gcd a b:Nat):Int)≠0:=by
 have:=Nat.gcd_pos_of_pos_right a (n:=b) AA;omega
theorem HP {q:Int} {b b':Bool} (j:BR x b l) (f:BR q b' l') (k:y≠0) (h:x=q*y):l'.length<=l.length:=by
 rw[j.B9,f.B9];exact FG (by rw[h,Int.natAbs_mul];exact Nat.le_mul_of_pos_right _ AA)
theorem H0 {x:Int} {f:Bool} (hb:b≠0) (h:BR (b:Int) c l) (h':BR ((Nat.gcd a b:Nat):Int) f l'):l'.length<=l.length:=by
 rw[h.B9,h'.B9,Int.natAbs_natCast,Int.natAbs_natCast];exact FG (Nat.le_of_dvd AA (Nat.gcd_dvd_right _ _))
theorem KA {b:Bool} (j:BR x b l) (m:c=decide (x=1)):CF 144 [.agg (B8 b l)] (.one (.bool c)):=by
 refine AN Tryz.func144 fun E I=>?_
 rintro J ⟨H,f5⟩;refine CU (fun z=>?_) fun z=>?_
 ·exact AO (by rw[m];exact (bB j AA).symm)
 refine BH 0 fun G f=>?_
 refine Ak ?_;intro D h;have w:=h.eq;have f11:=h.lt;refine CU (fun v=>?_) fun v=>?_
 ·exact AO (by rw[m];cases b with | true=>exact (VH j rfl).symm | false=>rw[<-VJ j rfl AA f];simp only[decide_eq_false_iff_not];omega)
 intro F k;exact AO (by rw[m,k];cases b with | true=>exact (VH j rfl).symm | false=>rw[<-VJ j rfl AA f];simp;omega)
theorem Ff {q:Int} {b3:Bool} {l3:List UInt32} (m:BR x b1 l1) (v:BR y b2 l2) (h:y≠0) (f:x=q*y) (k:BR q b3 l3) (s1:l1.length<=17592186043000) (s2:l2.length<=17592186043000):CF 242 [.agg (B8 b1 l1),.agg (B8 b2 l2)] (.agg (B8 b3 l3)):=by
 refine AN Tryz.func242 fun E j=>?_
 refine AB j (iO m v h f k s1 s2) ?_;exact AM ⟨t3,trivial⟩
theorem FT {q:Rat} (v: -9223372036854775808<=x/\x<9223372036854775808) (j:q=(x:Rat)) (k:Bw q c1 m1 c2 m2):CF 18 [AD x] (.agg (CT c1 m1 c2 m2)):=by
 refine AN Tryz.func18 fun E m=>?_
 obtain⟨w,D,f⟩:=BQ (x);refine AB m (NX v f) ?_;obtain⟨z,F,h⟩:=BQ (1);refine AB m (NX AA h) ?_;exact AM ⟨⟨rfl,congrArg _ ((f.uniq k.num (by rw[j];rfl)).1.symm),congrArg _ ((f.uniq k.num (by rw[j];rfl)).2.symm),congrArg _ ((h.uniq k.den (by rw[j];rfl)).1.symm),congrArg _ ((h.uniq k.den (by rw[j];rfl)).2.symm),trivial⟩,trivial⟩
theorem SX {q:Rat} {c:Int} (k:Bw q b1 l1 b2 l2) (j:c=E1 q):CF 210 [.agg (CT b1 l1 b2 l2)] (AD c):=by
 refine AN Tryz.func210 fun E h=>?_
 obtain⟨m,f⟩:=xI (DM q.num);refine AB h (Kz k.num f) ?_;exact AO (by rw[j,f];rfl)
theorem il {q p:Rat} (k:Bw q b1 l1 b2 l2) (h:p= -q) (j:Bw p c1 m1 c2 m2):CF 147 [.agg (CT b1 l1 b2 l2)] (.agg (CT c1 m1 c2 m2)):=by
 refine AN Tryz.func147 fun E m=>?_
 obtain⟨v,w,f⟩:=BQ (-q.num);refine AB m (NZ k.num f) ?_;exact AM ⟨⟨rfl,congrArg _ ((f.uniq j.num (by rw[h];rfl)).1.symm),congrArg _ ((f.uniq j.num (by rw[h];rfl)).2.symm),congrArg _ ((k.den.uniq j.den (by rw[h];rfl)).1.symm),congrArg _ ((k.den.uniq j.den (by rw[h];rfl)).2.symm),trivial⟩,trivial⟩
theorem ij {p q:Rat} {c:Int} (h:Bw p b1 l1 b2 l2) (j:Bw q c1 m1 c2 m2) (v:Cw p) (ht:Cw q) (I:c=Hy p q):CF 331 [.agg (CT b1 l1 b2 l2),.agg (CT c1 m1 c2 m2)] (AD c):=by
 refine AN Tryz.func331 fun E D=>?_
 obtain⟨G,H,m⟩:=BQ (p.num*q.den);refine AB (r:= .agg [.bool G,.sl .u32 H]) D (Es h.num j.den m (by have:=h.small v;have:=j.small ht;omega) (by have:=h.small v;have:=j.small ht;omega)) ?_;obtain⟨w,z,f⟩:=BQ (q.num*p.den);refine AB (r:= .agg [.bool w,.sl .u32 z]) D (Es j.num h.den f (by have:=h.small v;have:=j.small ht;omega) (by have:=h.small v;have:=j.small ht;omega)) ?_;obtain⟨F,k⟩:=xI (CR (p.num*q.den) (q.num*p.den));refine AB (r:= .one (.int .i64 F)) D (iN m f k (by have:=h.small v;have:=j.small ht;have:=h.num.Ee j.den m rfl;omega) (by have:=h.small v;have:=j.small ht;have:=j.num.Ee h.den f rfl;omega)) ?_;exact AO (by rw[I,k,Yc])
theorem XI {p q:Rat} (w:Bw p b1 l1 b2 l2) (K:Bw q c1 m1 c2 m2) (hs:Cw p) (ht:Cw q) (N:r=p*q) (L:Bw r d1 k1 d2 k2):CF 176 [.agg (CT b1 l1 b2 l2),.agg (CT c1 m1 c2 m2)] (.agg (CT d1 k1 d2 k2)):=by
 have aw:=w.small hs;have ax:=K.small ht;have f:=p.den_nz;have h:=q.den_nz;refine AN Tryz.func176 fun E J=>?_
 rintro ay ⟨au,f10⟩;refine BV (fun an=>?_) fun an=>?_
 ·obtain⟨S,a6,P,Q,j⟩:=CZ (r);refine AB (r:= .agg [.bool S,.sl .u32 a6,.bool P,.sl .u32 Q]) J (FT (x:=0) AA (by rw[N];first | (rw[Rat.num_eq_zero.1 (w.num.Gf.1 AA),Rat.zero_mul];rfl) | (rw[Rat.num_eq_zero.1 (K.num.Gf.1 AA),Rat.mul_zero];rfl)) j) ?_;exact AM ⟨⟨rfl,congrArg _ ((j.uniq L rfl).1.1.symm),congrArg _ ((j.uniq L rfl).1.2.symm),congrArg _ ((j.uniq L rfl).2.1.symm),congrArg _ ((j.uniq L rfl).2.2.symm),trivial⟩,trivial⟩
 intro az af;have av:=af.eq;have f16:=af.le;refine BV (fun ao=>?_) fun ao=>?_
 ·obtain⟨S,a6,P,Q,j⟩:=CZ (r);refine AB (r:= .agg [.bool S,.sl .u32 a6,.bool P,.sl .u32 Q]) J (FT (x:=0) AA (by rw[N];first | (rw[Rat.num_eq_zero.1 (w.num.Gf.1 AA),Rat.zero_mul];rfl) | (rw[Rat.num_eq_zero.1 (K.num.Gf.1 AA),Rat.mul_zero];rfl)) j) ?_;exact AM ⟨⟨rfl,congrArg _ ((j.uniq L rfl).1.1.symm),congrArg _ ((j.uniq L rfl).1.2.symm),congrArg _ ((j.uniq L rfl).2.1.symm),congrArg _ ((j.uniq L rfl).2.2.symm),trivial⟩,trivial⟩
 obtain⟨ak,v⟩:=xB (decide ((p.den:Int)=1));refine AB J (KA w.den v) ?_;cases ak <;> conv=>cbv
 ·obtain⟨ag,ai,k⟩:=BQ (((Nat.gcd p.num.natAbs q.den:Nat):Int));refine AB J (IF w.num K.den k AA AA) ?_;obtain⟨ah,aj,m⟩:=BQ (((Nat.gcd q.num.natAbs p.den:Nat):Int));refine AB J (IF K.num w.den m AA AA) ?_;obtain⟨U,a7,z⟩:=BQ (p.num/((Nat.gcd p.num.natAbs q.den:Nat):Int));refine AB (r:= .agg [.bool U,.sl .u32 a7]) J (Ff w.num k (F8 h) (GL h).1 z AA (by have:=H0 (x:=0) h K.den k;omega)) ?_;obtain⟨V,a8,D⟩:=BQ (q.num/((Nat.gcd q.num.natAbs p.den:Nat):Int));refine AB (r:= .agg [.bool V,.sl .u32 a8]) J (Ff K.num m (F8 f) (GL f).1 D AA (by have:=H0 (x:=0) f w.den m;omega)) ?_;obtain⟨W,aa,F⟩:=BQ ((p.num/((Nat.gcd p.num.natAbs q.den:Nat):Int))*(q.num/((Nat.gcd q.num.natAbs p.den:Nat):Int)))
  refine AB (r:= .agg [.bool W,.sl .u32 aa]) J (Es z D F (by have:=HP w.num z (F8 h) (GL h).1;omega) (by have:=HP K.num D (F8 f) (GL f).1;omega)) ?_;obtain⟨a1,ab,G⟩:=BQ ((p.den:Int)/((Nat.gcd q.num.natAbs p.den:Nat):Int));refine AB (r:= .agg [.bool a1,.sl .u32 ab]) J (Ff w.den m (F8 f) (GL f).2 G AA (by have:=H0 (x:=0) f w.den m;omega)) ?_;obtain⟨a2,ad,H⟩:=BQ ((q.den:Int)/((Nat.gcd p.num.natAbs q.den:Nat):Int));refine AB (r:= .agg [.bool a2,.sl .u32 ad]) J (Ff K.den k (F8 h) (GL h).2 H AA (by have:=H0 (x:=0) h K.den k;omega)) ?_;obtain⟨a5,ae,I⟩:=BQ (((p.den:Int)/((Nat.gcd q.num.natAbs p.den:Nat):Int))*((q.den:Int)/((Nat.gcd p.num.natAbs q.den:Nat):Int)));refine AB (r:= .agg [.bool a5,.sl .u32 ae]) J (Es G H I (by have:=HP w.den G (F8 f) (GL f).2;omega) (by have:=HP K.den H (F8 h) (GL h).2;omega)) ?_
  exact AM ⟨⟨rfl,congrArg _ ((F.uniq L.num (by rw[N,Q5])).1.symm),congrArg _ ((F.uniq L.num (by rw[N,Q5])).2.symm),congrArg _ ((I.uniq L.den (by rw[N,Q0])).1.symm),congrArg _ ((I.uniq L.den (by rw[N,Q0])).2.symm),trivial⟩,trivial⟩
 obtain⟨al,M⟩:=xB (decide ((q.den:Int)=1));refine AB J (KA K.den M) ?_;cases al <;> conv=>cbv
 ·obtain⟨ag,ai,k⟩:=BQ (((Nat.gcd p.num.natAbs q.den:Nat):Int));refine AB J (IF w.num K.den k AA AA) ?_;obtain⟨ah,aj,m⟩:=BQ (((Nat.gcd q.num.natAbs p.den:Nat):Int));refine AB J (IF K.num w.den m AA AA) ?_;obtain⟨U,a7,z⟩:=BQ (p.num/((Nat.gcd p.num.natAbs q.den:Nat):Int));refine AB (r:= .agg [.bool U,.sl .u32 a7]) J (Ff w.num k (F8 h) (GL h).1 z AA (by have:=H0 (x:=0) h K.den k;omega)) ?_;obtain⟨V,a8,D⟩:=BQ (q.num/((Nat.gcd q.num.natAbs p.den:Nat):Int));refine AB (r:= .agg [.bool V,.sl .u32 a8]) J (Ff K.num m (F8 f) (GL f).1 D AA (by have:=H0 (x:=0) f w.den m;omega)) ?_;obtain⟨W,aa,F⟩:=BQ ((p.num/((Nat.gcd p.num.natAbs q.den:Nat):Int))*(q.num/((Nat.gcd q.num.natAbs p.den:Nat):Int)))
  refine AB (r:= .agg [.bool W,.sl .u32 aa]) J (Es z D F (by have:=HP w.num z (F8 h) (GL h).1;omega) (by have:=HP K.num D (F8 f) (GL f).1;omega)) ?_;obtain⟨a1,ab,G⟩:=BQ ((p.den:Int)/((Nat.gcd q.num.natAbs p.den:Nat):Int));refine AB (r:= .agg [.bool a1,.sl .u32 ab]) J (Ff w.den m (F8 f) (GL f).2 G AA (by have:=H0 (x:=0) f w.den m;omega)) ?_;obtain⟨a2,ad,H⟩:=BQ ((q.den:Int)/((Nat.gcd p.num.natAbs q.den:Nat):Int));refine AB (r:= .agg [.bool a2,.sl .u32 ad]) J (Ff K.den k (F8 h) (GL h).2 H AA (by have:=H0 (x:=0) h K.den k;omega)) ?_;obtain⟨a5,ae,I⟩:=BQ (((p.den:Int)/((Nat.gcd q.num.natAbs p.den:Nat):Int))*((q.den:Int)/((Nat.gcd p.num.natAbs q.den:Nat):Int)));refine AB (r:= .agg [.bool a5,.sl .u32 ae]) J (Es G H I (by have:=HP w.den G (F8 f) (GL f).2;omega) (by have:=HP K.den H (F8 h) (GL h).2;omega)) ?_
  exact AM ⟨⟨rfl,congrArg _ ((F.uniq L.num (by rw[N,Q5])).1.symm),congrArg _ ((F.uniq L.num (by rw[N,Q5])).2.symm),congrArg _ ((I.uniq L.den (by rw[N,Q0])).1.symm),congrArg _ ((I.uniq L.den (by rw[N,Q0])).2.symm),trivial⟩,trivial⟩
 obtain⟨aq,ar,O⟩:=BQ (p.num*q.num);refine AB J (Es w.num K.num O AA AA) ?_;exact AM ⟨⟨rfl,congrArg _ ((O.uniq L.num (by rw[N];exact (mul_ones (of_decide_eq_true v.symm) (of_decide_eq_true M.symm)).1.symm)).1.symm),congrArg _ ((O.uniq L.num (by rw[N];exact (mul_ones (of_decide_eq_true v.symm) (of_decide_eq_true M.symm)).1.symm)).2.symm),congrArg _ ((w.den.uniq L.den (by rw[N,(mul_ones (of_decide_eq_true v.symm) (of_decide_eq_true M.symm)).2];exact of_decide_eq_true v.symm)).1.symm),congrArg _ ((w.den.uniq L.den (by rw[N,(mul_ones (of_decide_eq_true v.symm) (of_decide_eq_true M.symm)).2];exact of_decide_eq_true v.symm)).2.symm),trivial⟩,trivial⟩
theorem ig {p q:Rat} (v:Bw p b1 l1 b2 l2) (j:Bw q c1 m1 c2 m2) (hs:Cw p) (ht:Cw q) (S:r=p+q) (H:Bw r d1 k1 d2 k2):CF 184 [.agg (CT b1 l1 b2 l2),.agg (CT c1 m1 c2 m2)] (.agg (CT d1 k1 d2 k2)):=by
 have b3:=v.small hs;have b4:=j.small ht;have b0:=p.den_nz;have ah:=q.den_nz;have W:((Nat.gcd p.den q.den:Nat):Int)≠0:=F8 ah;obtain⟨x,ai⟩:=xI ((p.den:Int)/((Nat.gcd p.den q.den:Nat):Int));obtain⟨y,aj⟩:=xI ((q.den:Int)/((Nat.gcd p.den q.den:Nat):Int));have ad:(p.den:Int)=x*((Nat.gcd p.den q.den:Nat):Int):=by rw[ai];exact (Int.ediv_mul_cancel (Int.natCast_dvd_natCast.2 (Nat.gcd_dvd_left _ _))).symm
 have ae:(q.den:Int)=y*((Nat.gcd p.den q.den:Nat):Int):=by rw[aj];exact (Int.ediv_mul_cancel (Int.natCast_dvd_natCast.2 (Nat.gcd_dvd_right _ _))).symm
 refine Gc Tryz.func184 fun E m=>?_
 refine Ak ?_;rintro b7 ⟨aY,f14⟩;refine ML ?_ ?_ <;> intro b5 <;> conv=>cbv
 ·have e0:p=0:=Rat.num_eq_zero.1 (v.num.Gf.1 AA);have e1:r=q:=by rw[S,e0,Rat.zero_add]
  exact AM ⟨⟨rfl,congrArg _ ((j.num.uniq H.num (by rw[e1])).1.symm),congrArg _ ((j.num.uniq H.num (by rw[e1])).2.symm),congrArg _ ((j.den.uniq H.den (by rw[e1])).1.symm),congrArg _ ((j.den.uniq H.den (by rw[e1])).2.symm),trivial⟩,trivial⟩
 rintro b8 ⟨aZ,f20⟩;conv=>cbv
 refine ML ?_ ?_ <;> intro b6 <;> conv=>cbv
 ·have e0:q=0:=Rat.num_eq_zero.1 (j.num.Gf.1 AA);have e1:r=p:=by rw[S,e0,Rat.add_zero]
  exact AM ⟨⟨rfl,congrArg _ ((v.num.uniq H.num (by rw[e1])).1.symm),congrArg _ ((v.num.uniq H.num (by rw[e1])).2.symm),congrArg _ ((v.den.uniq H.den (by rw[e1])).1.symm),congrArg _ ((v.den.uniq H.den (by rw[e1])).2.symm),trivial⟩,trivial⟩
 obtain⟨aU,I⟩:=xB (decide ((p.den:Int)=1));refine Be m (KA v.den I) ?_;conv=>cbv
 cases aU <;> conv=>cbv
 ·obtain⟨aw,aI,f⟩:=BQ (((Nat.gcd p.den q.den:Nat):Int));refine Be m (IF v.den j.den f AA AA) ?_;conv=>cbv
  have ak:=H0 (x:=0) ah j.den f;obtain⟨af,J⟩:=xB (decide (((Nat.gcd p.den q.den:Nat):Int)=1));refine Be m (KA f J) ?_;conv=>cbv
  cases af <;> conv=>cbv
  ·obtain⟨aA,aM,h⟩:=BQ (x);refine Be m (Ff v.den f W ad h AA AA) ?_;conv=>cbv
   have al:=HP v.den h W ad;obtain⟨aB,aN,w⟩:=BQ (y);refine Be m (Ff j.den f W ae w AA AA) ?_;conv=>cbv
   have an:=HP j.den w W ae;refine g2 rfl ?_;obtain⟨aC,aO,z⟩:=BQ (p.num*y);refine Be m (Es v.num w z AA AA) ?_;conv=>cbv
   have ao:=v.num.Ee w z rfl;obtain⟨aD,aP,D⟩:=BQ (q.num*x);refine Be m (Es j.num h D AA AA) ?_;conv=>cbv
   have aq:=j.num.Ee h D rfl;obtain⟨aE,aQ,F⟩:=BQ ((p.num*y+q.num*x));refine Be m (Lx z D F AA AA) ?_;conv=>cbv
   have ar:=z.Pa D F rfl (k:=8000000000000) AA AA;refine g2 rfl ?_;obtain⟨a8,ab,G⟩:=BQ (((Nat.gcd (p.num*y+q.num*x).natAbs (Nat.gcd p.den q.den):Nat):Int));refine Be (r:= .agg [.bool a8,.sl .u32 ab]) m (IF F f (by rw[Int.natAbs_natCast];exact G) AA AA) ?_;try conv=>cbv
   have a1:Nat.gcd p.den q.den≠0:=AA
   have au:=H0 (x:=0) a1 f G;have ag:(p.num*y+q.num*x)=(p.num*y+q.num*x)/((Nat.gcd (p.num*y+q.num*x).natAbs (Nat.gcd p.den q.den):Nat):Int)*((Nat.gcd (p.num*y+q.num*x).natAbs (Nat.gcd p.den q.den):Nat):Int):=(GL a1).1;have a2:=F8 (a:=(p.num*y+q.num*x).natAbs) a1;have a5:(q.den:Int)=(q.den:Int)/((Nat.gcd (p.num*y+q.num*x).natAbs (Nat.gcd p.den q.den):Nat):Int)*((Nat.gcd (p.num*y+q.num*x).natAbs (Nat.gcd p.den q.den):Nat):Int):=(Int.ediv_mul_cancel (Int.natCast_dvd_natCast.2 (Nat.dvd_trans (Nat.gcd_dvd_right _ _) (Nat.gcd_dvd_right _ _)))).symm;obtain⟨aF,aR,O⟩:=BQ ((p.num*y+q.num*x)/((Nat.gcd (p.num*y+q.num*x).natAbs (Nat.gcd p.den q.den):Nat):Int));refine Be m (Ff F G a2 ag O AA AA) ?_;conv=>cbv
   obtain⟨aG,aS,P⟩:=BQ ((q.den:Int)/((Nat.gcd (p.num*y+q.num*x).natAbs (Nat.gcd p.den q.den):Nat):Int));refine Be m (Ff j.den G a2 a5 P AA AA) ?_;conv=>cbv
   have av:=HP j.den P a2 a5;obtain⟨aH,aT,Q⟩:=BQ (x*((q.den:Int)/((Nat.gcd (p.num*y+q.num*x).natAbs (Nat.gcd p.den q.den):Nat):Int)));refine Be m (Es h P Q AA AA) ?_;conv=>cbv
   refine g2 rfl ?_;have U:=Xk p q rfl (fun e=>by have:=of_decide_eq_false J.symm;omega) ai aj rfl rfl;exact AM ⟨⟨rfl,congrArg _ ((O.uniq H.num (by rw[S];exact U.1.symm)).1.symm),congrArg _ ((O.uniq H.num (by rw[S];exact U.1.symm)).2.symm),congrArg _ ((Q.uniq H.den (by rw[S];exact U.2.symm)).1.symm),congrArg _ ((Q.uniq H.den (by rw[S];exact U.2.symm)).2.symm),trivial⟩,trivial⟩
  obtain⟨ax,aJ,K⟩:=BQ (p.num*q.den);refine Be m (Es v.num j.den K AA AA) ?_;conv=>cbv
  obtain⟨ay,aK,L⟩:=BQ (q.num*p.den);refine Be m (Es j.num v.den L AA AA) ?_;conv=>cbv
  obtain⟨a7,aa,M⟩:=BQ (p.num*q.den+q.num*p.den);refine Be (r:= .agg [.bool a7,.sl .u32 aa]) m (Lx K L M (by have:=v.num.Ee j.den K rfl;omega) (by have:=j.num.Ee v.den L rfl;omega)) ?_;try conv=>cbv
  refine g2 rfl ?_;obtain⟨az,aL,N⟩:=BQ ((p.den:Int)*q.den);refine Be m (Es v.den j.den N AA AA) ?_;conv=>cbv
  refine g2 rfl ?_;have U:=Xj p q (by have:=of_decide_eq_true J.symm;omega);exact AM ⟨⟨rfl,congrArg _ ((M.uniq H.num (by rw[S];exact U.1.symm)).1.symm),congrArg _ ((M.uniq H.num (by rw[S];exact U.1.symm)).2.symm),congrArg _ ((N.uniq H.den (by rw[S];exact U.2.symm)).1.symm),congrArg _ ((N.uniq H.den (by rw[S];exact U.2.symm)).2.symm),trivial⟩,trivial⟩
 obtain⟨aV,V⟩:=xB (decide ((q.den:Int)=1));refine Be m (KA j.den V) ?_;conv=>cbv
 cases aV <;> conv=>cbv
 ·obtain⟨aw,aI,f⟩:=BQ (((Nat.gcd p.den q.den:Nat):Int));refine Be m (IF v.den j.den f AA AA) ?_;conv=>cbv
  have ak:=H0 (x:=0) ah j.den f;obtain⟨af,J⟩:=xB (decide (((Nat.gcd p.den q.den:Nat):Int)=1));refine Be m (KA f J) ?_;conv=>cbv
  cases af <;> conv=>cbv
  ·obtain⟨aA,aM,h⟩:=BQ (x);refine Be m (Ff v.den f W ad h AA AA) ?_;conv=>cbv
   have al:=HP v.den h W ad;obtain⟨aB,aN,w⟩:=BQ (y);refine Be m (Ff j.den f W ae w AA AA) ?_;conv=>cbv
   have an:=HP j.den w W ae;refine g2 rfl ?_;obtain⟨aC,aO,z⟩:=BQ (p.num*y);refine Be m (Es v.num w z AA AA) ?_;conv=>cbv
   have ao:=v.num.Ee w z rfl;obtain⟨aD,aP,D⟩:=BQ (q.num*x);refine Be m (Es j.num h D AA AA) ?_;conv=>cbv
   have aq:=j.num.Ee h D rfl;obtain⟨aE,aQ,F⟩:=BQ ((p.num*y+q.num*x));refine Be m (Lx z D F AA AA) ?_;conv=>cbv
   have ar:=z.Pa D F rfl (k:=8000000000000) AA AA;refine g2 rfl ?_;obtain⟨a8,ab,G⟩:=BQ (((Nat.gcd (p.num*y+q.num*x).natAbs (Nat.gcd p.den q.den):Nat):Int));refine Be (r:= .agg [.bool a8,.sl .u32 ab]) m (IF F f (by rw[Int.natAbs_natCast];exact G) AA AA) ?_;try conv=>cbv
   have a1:Nat.gcd p.den q.den≠0:=AA
   have au:=H0 (x:=0) a1 f G;have ag:(p.num*y+q.num*x)=(p.num*y+q.num*x)/((Nat.gcd (p.num*y+q.num*x).natAbs (Nat.gcd p.den q.den):Nat):Int)*((Nat.gcd (p.num*y+q.num*x).natAbs (Nat.gcd p.den q.den):Nat):Int):=(GL a1).1;have a2:=F8 (a:=(p.num*y+q.num*x).natAbs) a1;have a5:(q.den:Int)=(q.den:Int)/((Nat.gcd (p.num*y+q.num*x).natAbs (Nat.gcd p.den q.den):Nat):Int)*((Nat.gcd (p.num*y+q.num*x).natAbs (Nat.gcd p.den q.den):Nat):Int):=(Int.ediv_mul_cancel (Int.natCast_dvd_natCast.2 (Nat.dvd_trans (Nat.gcd_dvd_right _ _) (Nat.gcd_dvd_right _ _)))).symm;obtain⟨aF,aR,O⟩:=BQ ((p.num*y+q.num*x)/((Nat.gcd (p.num*y+q.num*x).natAbs (Nat.gcd p.den q.den):Nat):Int));refine Be m (Ff F G a2 ag O AA AA) ?_;conv=>cbv
   obtain⟨aG,aS,P⟩:=BQ ((q.den:Int)/((Nat.gcd (p.num*y+q.num*x).natAbs (Nat.gcd p.den q.den):Nat):Int));refine Be m (Ff j.den G a2 a5 P AA AA) ?_;conv=>cbv
   have av:=HP j.den P a2 a5;obtain⟨aH,aT,Q⟩:=BQ (x*((q.den:Int)/((Nat.gcd (p.num*y+q.num*x).natAbs (Nat.gcd p.den q.den):Nat):Int)));refine Be m (Es h P Q AA AA) ?_;conv=>cbv
   refine g2 rfl ?_;have U:=Xk p q rfl (fun e=>by have:=of_decide_eq_false J.symm;omega) ai aj rfl rfl;exact AM ⟨⟨rfl,congrArg _ ((O.uniq H.num (by rw[S];exact U.1.symm)).1.symm),congrArg _ ((O.uniq H.num (by rw[S];exact U.1.symm)).2.symm),congrArg _ ((Q.uniq H.den (by rw[S];exact U.2.symm)).1.symm),congrArg _ ((Q.uniq H.den (by rw[S];exact U.2.symm)).2.symm),trivial⟩,trivial⟩
  obtain⟨ax,aJ,K⟩:=BQ (p.num*q.den);refine Be m (Es v.num j.den K AA AA) ?_;conv=>cbv
  obtain⟨ay,aK,L⟩:=BQ (q.num*p.den);refine Be m (Es j.num v.den L AA AA) ?_;conv=>cbv
  obtain⟨a7,aa,M⟩:=BQ (p.num*q.den+q.num*p.den);refine Be (r:= .agg [.bool a7,.sl .u32 aa]) m (Lx K L M (by have:=v.num.Ee j.den K rfl;omega) (by have:=j.num.Ee v.den L rfl;omega)) ?_;try conv=>cbv
  refine g2 rfl ?_;obtain⟨az,aL,N⟩:=BQ ((p.den:Int)*q.den);refine Be m (Es v.den j.den N AA AA) ?_;conv=>cbv
  refine g2 rfl ?_;have U:=Xj p q (by have:=of_decide_eq_true J.symm;omega);exact AM ⟨⟨rfl,congrArg _ ((M.uniq H.num (by rw[S];exact U.1.symm)).1.symm),congrArg _ ((M.uniq H.num (by rw[S];exact U.1.symm)).2.symm),congrArg _ ((N.uniq H.den (by rw[S];exact U.2.symm)).1.symm),congrArg _ ((N.uniq H.den (by rw[S];exact U.2.symm)).2.symm),trivial⟩,trivial⟩
 obtain⟨aW,aX,a6⟩:=BQ (p.num+q.num);refine Be m (Lx v.num j.num a6 AA AA) ?_;conv=>cbv
 refine g2 rfl ?_;exact AM ⟨⟨rfl,congrArg _ ((a6.uniq H.num (by rw[S];exact (KB (of_decide_eq_true I.symm) (of_decide_eq_true V.symm)).1.symm)).1.symm),congrArg _ ((a6.uniq H.num (by rw[S];exact (KB (of_decide_eq_true I.symm) (of_decide_eq_true V.symm)).1.symm)).2.symm),congrArg _ ((v.den.uniq H.den (by rw[S,(KB (of_decide_eq_true I.symm) (of_decide_eq_true V.symm)).2];exact of_decide_eq_true I.symm)).1.symm),congrArg _ ((v.den.uniq H.den (by rw[S,(KB (of_decide_eq_true I.symm) (of_decide_eq_true V.symm)).2];exact of_decide_eq_true I.symm)).2.symm),trivial⟩,trivial⟩
theorem nq {p:Rat} (h:p≠0):(1/p).num=(if p.num<0 then -(p.den:Int) else p.den)/\((1/p).den:Int)=if p.num<0 then -p.num else p.num:=by
 have j:p.num≠0:=mt Rat.num_eq_zero.1 h;have e:1/p=Rat.inv p:=by rw[Rat.div_def,Rat.one_mul];rfl
 rw[e];unfold Rat.inv
 split
 ·rename_i f;exact⟨rfl,by show ((p.num.natAbs:Nat):Int)=_;omega⟩
 rename_i f
 rw[dif_pos AA];exact⟨rfl,by show ((p.num.natAbs:Nat):Int)=_;omega⟩
theorem ik {p:Rat} (m:Bw p b1 l1 b2 l2) (G:p≠0) (H:r=1/p) (v:Bw r d1 k1 d2 k2):CF 205 [.agg (CT b1 l1 b2 l2)] (.agg (CT d1 k1 d2 k2)):=by
 obtain⟨h,f⟩:=nq G;rw[<-H] at h f;refine AN Tryz.func205 fun E z=>?_
 cases b1 <;> conv=>cbv
 ·have k:=UX m.num rfl;exact AM ⟨⟨rfl,congrArg _ ((m.den.uniq v.num (by rw[h,if_neg k])).1.symm),congrArg _ ((m.den.uniq v.num (by rw[h,if_neg k])).2.symm),congrArg _ ((m.num.uniq v.den (by rw[f,if_neg k])).1.symm),congrArg _ ((m.num.uniq v.den (by rw[f,if_neg k])).2.symm),trivial⟩,trivial⟩
 obtain⟨I,J,w⟩:=BQ (-(p.den:Int));refine AB z (NZ m.den w) ?_;obtain⟨D,F,j⟩:=BQ (-p.num);refine AB z (NZ m.num j) ?_;have k:=UY m.num rfl;exact AM ⟨⟨rfl,congrArg _ ((w.uniq v.num (by rw[h,if_pos k])).1.symm),congrArg _ ((w.uniq v.num (by rw[h,if_pos k])).2.symm),congrArg _ ((j.uniq v.den (by rw[f,if_pos k])).1.symm),congrArg _ ((j.uniq v.den (by rw[f,if_pos k])).2.symm),trivial⟩,trivial⟩
theorem iv {p:Rat} (h:Bw p b1 l1 b2 l2) (F:Cw p):CF 66 [.agg (CT b1 l1 b2 l2)] (.one (.bool true)):=by
 have G:=h.small F;have D:=p.den_pos;refine AN Tryz.func66 fun E j=>?_
 refine AB j (XR h.num) ?_;refine AB j (XR h.den) ?_;obtain⟨z,k⟩:=xI ((1:Int));refine AB (r:= .one (.int .i64 z)) j (Kz h.den (k.trans (by unfold DM;rw[if_neg AA,if_neg AA]))) ?_;refine Fw (fun m=>?_) fun m=>?_
 ·exact absurd m AA
 obtain⟨v,w,f⟩:=BQ ((1:Int));refine AB (r:= .agg [.bool v,.sl .u32 w]) j (IF h.num h.den (by rw[Int.natAbs_natCast,show Nat.gcd p.num.natAbs p.den=1 from p.reduced];exact f) AA AA) ?_;refine AB j (KA f rfl) ?_;exact AM ⟨t2,trivial⟩
theorem aY {d r:Int} (f:r=DM d) (h:r<0):d<0:=by rcases G3 d with⟨a,e⟩ |⟨a,e⟩ |⟨a,e⟩ <;> omega
theorem aZ {d r:Int} (f:r=DM d) (h:0<=r):¬d<0:=by rcases G3 d with⟨a,e⟩ |⟨a,e⟩ |⟨a,e⟩ <;> omega
theorem QE {g:Int} (f:g≠0) (h:g∣x):x=DO x g*g:=by
 unfold DO
 split
 ·exact (Int.ediv_mul_cancel h).symm
 have:=Int.ediv_mul_cancel (a:= -x) (b:= -g) (Int.neg_dvd.2 (Int.dvd_neg.2 h));rw[Int.mul_neg] at this
 generalize -x/ -g*g=Q at*
 omega
theorem QX (n d:Int):(if d<0 then -((Nat.gcd n.natAbs d.natAbs:Nat):Int) else ((Nat.gcd n.natAbs d.natAbs:Nat):Int))∣n/\(if d<0 then -((Nat.gcd n.natAbs d.natAbs:Nat):Int) else ((Nat.gcd n.natAbs d.natAbs:Nat):Int))∣d:=by
 have f:((Nat.gcd n.natAbs d.natAbs:Nat):Int)∣n:=Int.ofNat_dvd_left.2 (Nat.gcd_dvd_left _ _);have h:((Nat.gcd n.natAbs d.natAbs:Nat):Int)∣d:=Int.ofNat_dvd_left.2 (Nat.gcd_dvd_right _ _)
 split
 ·exact⟨Int.neg_dvd.2 f,Int.neg_dvd.2 h⟩
 exact⟨f,h⟩
theorem iV {n d:Int} {q:Rat} (W:BR n b1 l1) (I:BR d b2 l2) (H:d≠0) (V:q=Rat.divInt n d) (J:Bw q c1 m1 c2 m2) (s1:l1.length<=17592186042000) (s2:l2.length<=17592186042000):CF 204 [.agg (B8 b1 l1),.agg (B8 b2 l2)] (.agg (CT c1 m1 c2 m2)):=by
 refine AN Tryz.func204 fun E K=>?_
 obtain⟨a2,a5,v⟩:=BQ (((Nat.gcd n.natAbs d.natAbs:Nat):Int));refine AB K (IF W I v AA AA) ?_;obtain⟨a6,k⟩:=xI (DM d);refine AB K (Kz I k) ?_;intro a1 N;refine .inr ?_;cases a1 <;> conv=>cbv
 ·have w:=ES N;obtain⟨z,F,f⟩:=BQ (DO n (if d<0 then -((Nat.gcd n.natAbs d.natAbs:Nat):Int) else ((Nat.gcd n.natAbs d.natAbs:Nat):Int)));have Q:BR (if d<0 then -((Nat.gcd n.natAbs d.natAbs:Nat):Int) else ((Nat.gcd n.natAbs d.natAbs:Nat):Int)) a2 a5:=by rw[if_neg (aZ k w)];exact v
  have j:(if d<0 then -((Nat.gcd n.natAbs d.natAbs:Nat):Int) else ((Nat.gcd n.natAbs d.natAbs:Nat):Int))≠0:=by rw[if_neg (aZ k w)];have:=QW (n:=n) H;omega
  have P:DO n (if d<0 then -((Nat.gcd n.natAbs d.natAbs:Nat):Int) else ((Nat.gcd n.natAbs d.natAbs:Nat):Int))=q.num:=by rw[V];exact (Qt H).symm
  have O:DO d (if d<0 then -((Nat.gcd n.natAbs d.natAbs:Nat):Int) else ((Nat.gcd n.natAbs d.natAbs:Nat):Int))=(q.den:Int):=by rw[V];exact (Qs H).symm
  have M:n=DO n (if d<0 then -((Nat.gcd n.natAbs d.natAbs:Nat):Int) else ((Nat.gcd n.natAbs d.natAbs:Nat):Int))*(if d<0 then -((Nat.gcd n.natAbs d.natAbs:Nat):Int) else ((Nat.gcd n.natAbs d.natAbs:Nat):Int)):=QE j (QX n d).1;have L:d=DO d (if d<0 then -((Nat.gcd n.natAbs d.natAbs:Nat):Int) else ((Nat.gcd n.natAbs d.natAbs:Nat):Int))*(if d<0 then -((Nat.gcd n.natAbs d.natAbs:Nat):Int) else ((Nat.gcd n.natAbs d.natAbs:Nat):Int)):=QE j (QX n d).2;refine AB (r:= .agg [.bool z,.sl .u32 F]) K (Ff W Q j (M) f AA (by have:=OB H I v;omega)) ?_;obtain⟨D,G,h⟩:=BQ (DO d (if d<0 then -((Nat.gcd n.natAbs d.natAbs:Nat):Int) else ((Nat.gcd n.natAbs d.natAbs:Nat):Int)));refine AB (r:= .agg [.bool D,.sl .u32 G]) K (Ff I Q j (L) h AA (by have:=OB H I v;omega)) ?_;exact AM ⟨⟨rfl,congrArg _ ((f.uniq J.num P).1.symm),congrArg _ ((f.uniq J.num P).2.symm),congrArg _ ((h.uniq J.den O).1.symm),congrArg _ ((h.uniq J.den O).2.symm),trivial⟩,trivial⟩
 have w:=ET N;obtain⟨S,U,m⟩:=BQ (-((Nat.gcd n.natAbs d.natAbs:Nat):Int));refine AB K (NZ v m) ?_;obtain⟨z,F,f⟩:=BQ (DO n (if d<0 then -((Nat.gcd n.natAbs d.natAbs:Nat):Int) else ((Nat.gcd n.natAbs d.natAbs:Nat):Int)));have Q:BR (if d<0 then -((Nat.gcd n.natAbs d.natAbs:Nat):Int) else ((Nat.gcd n.natAbs d.natAbs:Nat):Int)) S U:=by rw[if_pos (aY k w)];exact m
 have j:(if d<0 then -((Nat.gcd n.natAbs d.natAbs:Nat):Int) else ((Nat.gcd n.natAbs d.natAbs:Nat):Int))≠0:=by rw[if_pos (aY k w)];have:=QW (n:=n) H;omega
 have P:DO n (if d<0 then -((Nat.gcd n.natAbs d.natAbs:Nat):Int) else ((Nat.gcd n.natAbs d.natAbs:Nat):Int))=q.num:=by rw[V];exact (Qt H).symm
 have O:DO d (if d<0 then -((Nat.gcd n.natAbs d.natAbs:Nat):Int) else ((Nat.gcd n.natAbs d.natAbs:Nat):Int))=(q.den:Int):=by rw[V];exact (Qs H).symm
 have M:n=DO n (if d<0 then -((Nat.gcd n.natAbs d.natAbs:Nat):Int) else ((Nat.gcd n.natAbs d.natAbs:Nat):Int))*(if d<0 then -((Nat.gcd n.natAbs d.natAbs:Nat):Int) else ((Nat.gcd n.natAbs d.natAbs:Nat):Int)):=QE j (QX n d).1;have L:d=DO d (if d<0 then -((Nat.gcd n.natAbs d.natAbs:Nat):Int) else ((Nat.gcd n.natAbs d.natAbs:Nat):Int))*(if d<0 then -((Nat.gcd n.natAbs d.natAbs:Nat):Int) else ((Nat.gcd n.natAbs d.natAbs:Nat):Int)):=QE j (QX n d).2;refine AB (r:= .agg [.bool z,.sl .u32 F]) K (Ff W Q j (M) f AA (by have:=QV H I m;omega)) ?_;obtain⟨D,G,h⟩:=BQ (DO d (if d<0 then -((Nat.gcd n.natAbs d.natAbs:Nat):Int) else ((Nat.gcd n.natAbs d.natAbs:Nat):Int)));refine AB (r:= .agg [.bool D,.sl .u32 G]) K (Ff I Q j (L) h AA (by have:=QV H I m;omega)) ?_;exact AM ⟨⟨rfl,congrArg _ ((f.uniq J.num P).1.symm),congrArg _ ((f.uniq J.num P).2.symm),congrArg _ ((h.uniq J.den O).1.symm),congrArg _ ((h.uniq J.den O).2.symm),trivial⟩,trivial⟩
theorem SP {n d:Int} {q:Rat} (v: -9223372036854775808<=n/\n<9223372036854775808) (m: -9223372036854775808<=d/\d<9223372036854775808) (k:d≠0) (F:q=Rat.divInt n d) (G:Bw q c1 m1 c2 m2):CF 134 [AD n,AD d] (.agg (CT c1 m1 c2 m2)):=by
 refine AN Tryz.func134 fun E j=>?_
 refine BV (fun w=>?_) fun w=>?_
 ·exact absurd w k
 obtain⟨H,I,h⟩:=BQ (n);refine AB j (NX v h) ?_;obtain⟨z,D,f⟩:=BQ (d);refine AB j (NX m f) ?_;refine AB (r:= .agg [.bool c1,.sl .u32 m1,.bool c2,.sl .u32 m2]) j (iV h f k F G (by have:=R8 v h;omega) (by have:=R8 m f;omega)) ?_;exact AM AQ
end
section
variable {C X Z:LR} {R i zn:Nat} {T:List LR} {b1 b2:Bool} {l1 l2:List UInt32} {q:Rat} {u:AH} {xs:List Rat}
theorem LK {x:el AL} (j:X=Ba xs) (f:X[i]? =some x):∃q,Bw q x.1.1 x.1.2 x.2.1 x.2.2/\xs[i]? =some q/\x=rp q:=by
 rw[j,Ba,List.getElem?_map] at f;cases h:xs[i]? with
 | none=>rw[h] at f;simp at f
 | some q=>
  rw[h] at f;have e:x=rp q:=(Option.some.inj f).symm;exact⟨q,by rw[e];exact H2 q,rfl,e⟩
theorem cU (h:xs[i]? =some q):Ba (xs.take (i+1))=Ba (xs.take i)++[rp q]:=by
 rw[EI h,Ba,Ba,List.map_append];rfl
theorem XS {c:Bool} (J:X=Ba xs) (K:c=decide (∀q∈xs,q=0)):CF 177 [AT X] (.one (.bool c)):=by
 have N:X.length=xs.length:=by rw[J,List.length_map]
 refine AN Tryz.func177 fun E hE=>?_
 refine Bc [] [0,3] [] (fun vs M k=>∃(i':Nat) (i:Int),vs=[AT X,AD i]/\(Ah i i'/\i'<=X.length)/\(∀q∈xs.take i',q=0)/\k=X.length-i') (X.length-0) ⟨0,0,rfl,⟨BJ 0,AA⟩,AZ,rfl⟩ ?_;rintro J0 w vs M V ⟨i',i,rfl,⟨O,P⟩,hinv,Q⟩;have ei:=O.eq;refine Ak ?_;rintro n6 ⟨e6,f6⟩;refine Bt (fun U=>?_) fun U=>?_
 ·exact AO (by rw[K,decide_eq_true];intro z f;rw[<-List.take_of_length_le (AA:xs.length<=i')] at f;exact hinv z f)
 refine .inr ?_;refine BH i' fun H m=>?_
 try conv=>cbv
 obtain⟨q,L,j,S⟩:=LK J m;rintro G ⟨v,f16⟩;conv=>cbv
 have I:G=((List.length (α:=UInt32) H.1.2:Nat):Int):=v;refine EX (fun F=>?_) fun F=>?_
 ·have D:q≠0:=fun e=>by have:=L.num.Gf.2 (Rat.num_eq_zero.2 e);omega
  exact AO (by rw[K,decide_eq_false];exact fun h=>D (h q (List.mem_of_getElem? j)))
 intro W h9;refine⟨X.length-(i'+1),?_,?_⟩
 ·omega
 rw[w];refine⟨i'+1,W,rfl,⟨⟨AA⟩,AA⟩,?_,rfl⟩;intro z f;rw[EI j] at f;rcases List.mem_append.1 f with f | f
 ·exact hinv z f
 rw[List.mem_singleton.1 f];exact Rat.num_eq_zero.1 (L.num.Gf.1 AA)
theorem Xa {n:Int} (w:X=Ba xs) (N:FA xs) (hn:n=(xs.length:Int)):CF 264 [AT X,AD n] (.one (.bool true)):=by
 have H:X.length=xs.length:=by rw[w,List.length_map]
 refine AN Tryz.func264 fun E G=>?_
 refine Bc [] [0,1,5] [] (fun vs z k=>∃(i':Nat) (i:Int),vs=[AT X,AD n,AD i]/\(Ah i i'/\i'<=X.length)/\k=X.length-i') (X.length-0) ⟨0,0,rfl,⟨BJ 0,AA⟩,rfl⟩ ?_;rintro V j vs z P ⟨i',i,rfl,⟨I,J⟩,K⟩;have ei:=I.eq;refine Ak ?_;rintro n8 ⟨W,f8⟩;refine Bt (fun O=>?_) fun O=>?_
 ·rintro Q ⟨D,f19⟩ S h;exact AO (by rw[h];simp;omega)
 refine .inr ?_;refine BH i' fun U f=>?_
 try conv=>cbv
 obtain⟨q,L,M,m⟩:=Jc w N f;refine AB G (iv L m) ?_;refine AY ?_;intro v F;exact Bz j ⟨i'+1,v,rfl,⟨⟨AA⟩,AA⟩,rfl⟩
theorem XN (h:BZ R u) (F:T=tw u):CF 263 [BL T] (.one (.bool true)):=by
 have I:T.length=u.length:=by rw[F,Cr]
 have J:=h.ht;refine AN Tryz.func263 fun E H=>?_
 refine Bc [] [0,3] [] (fun vs G k=>∃(i':Nat) (i:Int),vs=[BL T,AD i]/\(Ah i i'/\i'<=T.length)/\k=T.length-i') (T.length-0) ⟨0,0,rfl,⟨BJ 0,AA⟩,rfl⟩ ?_;rintro U w vs G O ⟨i',i,rfl,⟨K,L⟩,M⟩;have W:=K.eq;refine Ak ?_;rintro n6 ⟨V,f6⟩;refine Bt (fun N=>?_) fun N=>?_
 ·exact AM ⟨t2,trivial⟩
 refine .inr ?_;refine BH i' fun S j=>?_
 try conv=>cbv
 obtain⟨y,z,m⟩:=LJ F j;have D:=Mv h.red _ y m;refine AP ?_;intro P v;have f:=(GP (k:=i') v AA).eq;refine AB (r:= .one (.bool true)) H (Xa z ((h.tb y (List.mem_reverse.1 (List.mem_of_getElem? m))).C4 h.hR) (by rw[D];exact f)) ?_;refine AY ?_;intro Q h9;exact Bz w ⟨i'+1,Q,rfl,⟨⟨AA⟩,AA⟩,rfl⟩
theorem PO {A:LR} {s:Nat} {x:Re} (h:BZ R u) (z:T=tw u) (F:A=em u x) (D:El u s x) (H:s<=60000000000000:=by omega):CF 208 [BL T,AT A] (.one (.bool true)):=by
 have v:T.length=u.length:=by rw[z,Cr]
 have G:=h.ht;refine AN Tryz.func208 fun E w=>?_
 refine AB w (XN h z) ?_;rintro I ⟨j,f10⟩ J m;have f:=(GP (k:=u.length) m (j.trans (congrArg _ v))).eq;refine AB (r:= .one (.bool true)) w (Xa F (D.C4 H) (by rw[D.len];exact f)) ?_;exact AM ⟨t2,trivial⟩
theorem XD (h:BZ R u) (hT:T=tw u) (hq:Bw q b1 l1 b2 l2) (hC:C=em u (Re.ofRat q)) (Q:zn=C.length):CF 178 [BL T,.agg (CT b1 l1 b2 l2)] (.one (.own AL C zn)):=by
 have O:T.length=u.length:=by rw[hT,Cr]
 have a1:=h.ht;have W:=EV h.ht;have a7:=Dz u.length;refine AN Tryz.func178 fun E hE=>?_
 refine⟨[((b1,l1),(b2,l2))],DK,.inl ?_⟩;try conv=>cbv
 refine Bc [] [0,5] [7] (fun vs U k=>∃(o:LR) (mm j:Nat),vs=[BL T,.one (.BK AL 7 0 0 mm)]/\U=[.arr 0 AL o]/\(mm=o.length/\o.length=j+1/\o.length<=2^u.length)/\o=rp q::List.replicate j (rp 0)/\k=2^u.length-o.length) (2^u.length-[rp q].length) ⟨[rp q],1,0,rfl,by rw[hq.rp];rfl,⟨rfl,rfl,by show 1<=_;omega⟩,rfl,rfl⟩ ?_;rintro J0 N vs U a8 ⟨o,mm,j,rfl,rfl,⟨I,a5,a6⟩,hinv,a2⟩;conv=>cbv
 intro n9 h9;have e9:=h9.eq;refine AP ?_;rintro aa ⟨L,f11⟩ ab M;have V:=(GP (k:=u.length) M (L.trans (congrArg _ O))).eq;refine Bt (fun S=>?_) fun S=>?_
 ·have D:C=o:=by rw[hC,em,It q h.red,hinv,(AA:j=2^u.length-1),Ba,List.map_cons,List.map_replicate]
  exact AM ⟨⟨rfl,.inr (.inl ⟨_,_,AF,rfl,rfl,I,rfl,De (D) (by rw[Q,D])⟩),trivial⟩,trivial⟩
 refine .inr ?_;obtain⟨v,w,f,m,G⟩:=CZ (((0:Int):Rat));refine AB hE (FT AA rfl G) ?_;refine⟨[((v,w),(f,m))],DK,.inr ?_⟩;try conv=>cbv
 refine .inl ⟨[((v,w),(f,m))],fun _=>⟨rfl,I,rfl,C2 (o.length+1) 64⟩,?_⟩;intro (z:LR) K H;have F:z=(o:LR)++([((v,w),(f,m))]:LR):=H.1;have J:K=List.length (α:=(el AL)) z:=H.2;conv=>cbv
 have P:z.length=o.length+1:=by rw[F];simp
 exact Bz N ⟨z,K,j+1,rfl,rfl,⟨J,AA,AA⟩,by rw[F,hinv,List.replicate_succ',List.cons_append,<-G.rp];rfl,rfl⟩
theorem Hv (h:BZ R u) (j:T=tw u) (k:Bw q b1 l1 b2 l2) (f:C=em u (Re.ofRat q)):CF 178 [BL T,.agg (CT b1 l1 b2 l2)] (AT C):=ER (XD h j k f rfl)
theorem ic (P:X=Ba xs) (hl:xs.length<=1000000) (V:Z=Ba (xs.map (- ·))):CF 69 [BL T,AT X] (AT Z):=by
 have U:X.length=xs.length:=by rw[P,List.length_map]
 refine AN Tryz.func69 fun E S=>?_
 refine Bc [(5,AL,true)] [1,5,6] [5] (fun vs O k=>∃(o:LR) (mm i':Nat) (i:Int),vs=[AT X,.one (.BK AL 5 0 0 mm),AD i]/\O=[.arr 0 AL o]/\(Ah i i'/\i'<=X.length/\mm=o.length)/\o=Ba ((xs.map (- ·)).take i')/\k=X.length-i') X.length ⟨[],0,0,0,rfl,rfl,⟨BJ 0,Nat.zero_le _,rfl⟩,rfl,rfl⟩ ?_;rintro J0 J vs O a7 ⟨o,mm,i',i,rfl,rfl,⟨W,a1,F⟩,hinv,a2⟩;conv=>cbv
 have ei:=W.eq;have a5:o.length<=X.length:=by rw[hinv,Ba,List.length_map,List.length_take,List.length_map];omega
 rintro n9 ⟨e9,f9⟩;conv=>cbv
 refine Bt (fun M=>?_) fun M=>?_
 ·exact AM ⟨⟨rfl,.inl ⟨_,rfl,AA,congrArg _ (by rw[V,F,hinv,List.drop_zero,List.take_length,List.take_of_length_le (by rw[List.length_map];omega)])⟩,trivial⟩,trivial⟩
 refine .inr ?_;refine BH i' fun a8 H=>?_
 try conv=>cbv
 obtain⟨q,hq,K,a6⟩:=LK P H;have L:(xs.map (- ·))[i']? =some (-q):=by rw[List.getElem?_map,K];rfl
 obtain⟨j,m,f,h,v⟩:=CZ (-q);refine AB S (il hq rfl v) ?_;refine⟨[((j,m),(f,h))],DK,.inr ?_⟩;try conv=>cbv
 refine .inl ⟨[((j,m),(f,h))],fun _=>⟨rfl,F,rfl,C2 (o.length+1) 64⟩,?_⟩;intro (z:LR) I w;have D:z=(o:LR)++([((j,m),(f,h))]:LR):=w.1;have G:I=List.length (α:=(el AL)) z:=w.2;refine AP ?_;intro N Q;exact Bz J ⟨z,I,i'+1,N,rfl,rfl,⟨⟨AA⟩,AA,G⟩,by rw[D,hinv,cU L,<-v.rp],rfl⟩
theorem iI {Y:LR} {ys:List Rat} (hX:X=Ba xs) (hY:Y=Ba ys) (hs:FA xs) (ht:FA ys) (ab:ys.length=xs.length) (hl:xs.length<=1000000) (hZ:Z=Ba (List.zipWith (· + ·) xs ys)) (S:zn=Z.length):CF 114 [BL T,AT X,AT Y] (.one (.own AL Z zn)):=by
 have a5:X.length=xs.length:=by rw[hX,List.length_map]
 have a6:Y.length=ys.length:=by rw[hY,List.length_map]
 refine AN Tryz.func114 fun E hE=>?_
 refine Bc [(7,AL,true)] [1,2,7,8] [7] (fun vs W k=>∃(o:LR) (mm i':Nat) (i:Int),vs=[AT X,AT Y,.one (.BK AL 7 0 0 mm),AD i]/\W=[.arr 0 AL o]/\(Ah i i'/\i'<=X.length/\mm=o.length)/\o=Ba ((List.zipWith (· + ·) xs ys).take i')/\k=X.length-i') X.length ⟨[],0,0,0,rfl,rfl,⟨BJ 0,Nat.zero_le _,rfl⟩,rfl,rfl⟩ ?_;rintro J0 L vs W ad ⟨o,mm,i',i,rfl,rfl,⟨hi,a7,G⟩,hinv,a8⟩;conv=>cbv
 have ei:=hi.eq;have aa:o.length<=X.length:=by rw[hinv,Ba,List.length_map,List.length_take,List.length_zipWith];omega
 rintro ae ⟨a1,f11⟩;conv=>cbv
 refine Bt (fun U=>?_) fun U=>?_
 ·have v:Z=o:=by rw[hZ,hinv,List.take_of_length_le (by rw[List.length_zipWith];omega)]
  exact AM ⟨⟨rfl,.inr (.inl ⟨_,_,AF,rfl,rfl,G,rfl,De (v) (by rw[S,v])⟩),trivial⟩,trivial⟩
 refine .inr ?_;refine BH i' fun af I=>?_
 try conv=>cbv
 refine BH i' fun ag J=>?_
 try conv=>cbv
 obtain⟨p,hp,M,P⟩:=Jc hX hs I;obtain⟨q,hq,N,Q⟩:=Jc hY ht J;have O:(List.zipWith (· + ·) xs ys)[i']? =some (p+q):=by rw[List.getElem?_zipWith,M,N]
 obtain⟨j,m,f,h,w⟩:=CZ (p+q);refine AB hE (ig hp hq P Q rfl w) ?_;refine⟨[((j,m),(f,h))],DK,.inr ?_⟩;try conv=>cbv
 refine .inl ⟨[((j,m),(f,h))],fun _=>⟨rfl,G,rfl,C2 (o.length+1) 64⟩,?_⟩;intro (D:LR) K z;have F:D=(o:LR)++([((j,m),(f,h))]:LR):=z.1;have H:K=List.length (α:=(el AL)) D:=z.2;refine AP ?_;intro V a2;exact Bz L ⟨D,K,i'+1,V,rfl,rfl,⟨⟨AA⟩,AA,H⟩,by rw[F,hinv,cU O,<-w.rp],rfl⟩
end
end Go.Abs
