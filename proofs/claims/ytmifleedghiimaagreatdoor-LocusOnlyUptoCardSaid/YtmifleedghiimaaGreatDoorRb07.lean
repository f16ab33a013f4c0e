/- Part 8 of a proof. Conditions: each theorem's own. -/
import Derived.Test.YtmifleedghiimaaGreatDoorRb06
set_option linter.all false
set_option maxHeartbeats 80000000
set_option maxRecDepth 20000
open Go.Proofs
namespace Go.Abs
open Go.RowKit
section
variable {b' b1 b2 c c1 c2 d1 d2:Bool} {d n x y:Int} {k1 k2 l l' l1 l2 m1 m2:List UInt32} {r:Rat}
def dD {b:Bool} (j:BQ x b l) (h:c=decide (x=0)):CF 255 [.agg (Bu b l)] (.one (.bool c)):=by
 refine AL Tryz.func255 fun E m=>?_
 rintro v ⟨k,f5⟩ w f;exact AO (by rw[h,f,Bool.eq_iff_iff];simp only[decide_eq_true_eq,beq_iff_eq];rw[<-j.G9];omega)
def NX {b:Bool} (m:BQ x b l) (k:c=decide (x=1)):CF 310 [.agg (Bu b l)] (.one (.bool c)):=by
 refine AL Tryz.func310 fun E J=>?_
 refine Tj (fun w=>?_) fun w=>?_
 ·exact AO (by rw[k];exact (W9 m w).symm)
 intro K z;have I:=z.eq;have f9:=z.le;refine Cw (fun v=>?_) fun v=>?_
 ·exact AO (by rw[k];exact (fD m AA).symm)
 refine BA 0 fun H h=>?_
 refine Af ?_;intro F f G j;have D:=f.eq;have f16:=f.lt;exact AO (by rw[k,j,<-XB m w AA h,Bool.eq_iff_iff];simp only[decide_eq_true_eq,beq_iff_eq];omega)
def XA {b:Bool} (f:BQ 1 b l):CF 197 [] (.agg (Bu b l)):=by
 refine AL Tryz.func197 fun E h=>?_
 obtain⟨j,k,Et⟩:=BO (1);refine AB h (QG AA Et) ?_;exact Ed ((Et.uniq f rfl).1.symm) ((Et.uniq f rfl).2.symm)
def Sv {b3:Bool} {l3:List UInt32} (m:BQ x b1 l1) (z:BQ y b2 l2) (v:y≠0) (k:BQ (DQ x y) b3 l3) (s1:l1.length<=17592186042000) (s2:l2.length<=17592186042000):CF 299 [.agg (Bu b1 l1),.agg (Bu b2 l2)] (.agg (Bu b3 l3)):=by
 refine AL Tryz.func299 fun E w=>?_
 obtain⟨I,h⟩:=xB (decide (y=1));refine AB w (NX z h) ?_;cases I <;> conv=>cbv
 ·obtain⟨G,H,f⟩:=BO (DQ x y);obtain⟨D,F,j⟩:=BO (I9 x y);refine AB w (kj m z v f j AA AA) ?_;exact Ed ((f.uniq k rfl).1.symm) ((f.uniq k rfl).2.symm)
 exact Ed ((k.uniq m (by rw[of_decide_eq_true h.symm];exact al x)).1) ((k.uniq m (by rw[of_decide_eq_true h.symm];exact al x)).2)
def PH {b:Bool} (f:d≠0) (h:BQ d b l) (h':BQ ((Nat.gcd n.natAbs d.natAbs:Nat):Int) b' l'):l'.length<=l.length:=by
 rw[h.Bx,h'.Bx,Int.natAbs_natCast];exact FW (Nat.le_of_dvd AA (Nat.gcd_dvd_right _ _))
def Ru {b:Bool} (f:d≠0) (h:BQ d b l) (h':BQ (-((Nat.gcd n.natAbs d.natAbs:Nat):Int)) b' l'):l'.length<=l.length:=by
 rw[h.Bx,h'.Bx,Int.natAbs_neg,Int.natAbs_natCast];exact FW (Nat.le_of_dvd AA (Nat.gcd_dvd_right _ _))
def Rv (f:d≠0):((Nat.gcd n.natAbs d.natAbs:Nat):Int)≠0:=by
 have:=Nat.gcd_pos_of_pos_right n.natAbs (n:=d.natAbs) AA;omega
def V5 {b:Bool} (h:BQ d b l) (e:b=true):d<0:=by
 have:=h.neg;rw[e] at this;simpa using this.symm
def V4 {b:Bool} (h:BQ d b l) (e:b=false):¬d<0:=by
 have:=h.neg;rw[e] at this;simpa using this.symm
def Nf {q:Rat} (M:BQ n b1 l1) (h:BQ d b2 l2) (j:d≠0) (L:q=Rat.divInt n d) (D:Bn q c1 m1 c2 m2) (s1:l1.length<=17592186042000) (s2:l2.length<=17592186042000):CF 256 [.agg (Bu b1 l1),.agg (Bu b2 l2)] (.agg (CP c1 m1 c2 m2)):=by
 refine AL Tryz.func256 fun E H=>?_
 obtain⟨N,O,DR⟩:=BO (((Nat.gcd n.natAbs d.natAbs:Nat):Int));refine AB H (YP M h DR AA AA) ?_;refine .inr ?_;cases b2 <;> conv=>cbv
 ·obtain⟨m,w,f⟩:=BO (DQ n (if d<0 then -((Nat.gcd n.natAbs d.natAbs:Nat):Int) else ((Nat.gcd n.natAbs d.natAbs:Nat):Int)));have K:BQ (if d<0 then -((Nat.gcd n.natAbs d.natAbs:Nat):Int) else ((Nat.gcd n.natAbs d.natAbs:Nat):Int)) N O:=by rw[if_neg (V4 h rfl)];exact DR
  have k:(if d<0 then -((Nat.gcd n.natAbs d.natAbs:Nat):Int) else ((Nat.gcd n.natAbs d.natAbs:Nat):Int))≠0:=by rw[if_neg (V4 h rfl)];have:=Rv (n:=n) j;omega
  have J:DQ n (if d<0 then -((Nat.gcd n.natAbs d.natAbs:Nat):Int) else ((Nat.gcd n.natAbs d.natAbs:Nat):Int))=q.num:=by rw[L];exact (SM j).symm
  have I:DQ d (if d<0 then -((Nat.gcd n.natAbs d.natAbs:Nat):Int) else ((Nat.gcd n.natAbs d.natAbs:Nat):Int))=(q.den:Int):=by rw[L];exact (SL j).symm
  refine AB (r:= .agg [.bool m,.sl .u32 w]) H (Sv M K k f AA (by have:=PH j h DR;omega)) ?_;obtain⟨v,z,FH⟩:=BO (DQ d (if d<0 then -((Nat.gcd n.natAbs d.natAbs:Nat):Int) else ((Nat.gcd n.natAbs d.natAbs:Nat):Int)));refine AB (r:= .agg [.bool v,.sl .u32 z]) H (Sv h K k FH AA (by have:=PH j h DR;omega)) ?_;exact AN ⟨⟨rfl,congrArg _ ((f.uniq D.num J).1.symm),congrArg _ ((f.uniq D.num J).2.symm),congrArg _ ((FH.uniq D.den I).1.symm),congrArg _ ((FH.uniq D.den I).2.symm),trivial⟩,trivial⟩
 obtain⟨F,G,HP⟩:=BO (-((Nat.gcd n.natAbs d.natAbs:Nat):Int));refine AB (r:= .agg [.bool F,.sl .u32 G]) H (YV DR (by have:=PH j h DR;omega) HP) ?_;obtain⟨m,w,f⟩:=BO (DQ n (if d<0 then -((Nat.gcd n.natAbs d.natAbs:Nat):Int) else ((Nat.gcd n.natAbs d.natAbs:Nat):Int)));have K:BQ (if d<0 then -((Nat.gcd n.natAbs d.natAbs:Nat):Int) else ((Nat.gcd n.natAbs d.natAbs:Nat):Int)) F G:=by rw[if_pos (V5 h rfl)];exact HP
 have k:(if d<0 then -((Nat.gcd n.natAbs d.natAbs:Nat):Int) else ((Nat.gcd n.natAbs d.natAbs:Nat):Int))≠0:=by rw[if_pos (V5 h rfl)];have:=Rv (n:=n) j;omega
 have J:DQ n (if d<0 then -((Nat.gcd n.natAbs d.natAbs:Nat):Int) else ((Nat.gcd n.natAbs d.natAbs:Nat):Int))=q.num:=by rw[L];exact (SM j).symm
 have I:DQ d (if d<0 then -((Nat.gcd n.natAbs d.natAbs:Nat):Int) else ((Nat.gcd n.natAbs d.natAbs:Nat):Int))=(q.den:Int):=by rw[L];exact (SL j).symm
 refine AB (r:= .agg [.bool m,.sl .u32 w]) H (Sv M K k f AA (by have:=Ru j h HP;omega)) ?_;obtain⟨v,z,FH⟩:=BO (DQ d (if d<0 then -((Nat.gcd n.natAbs d.natAbs:Nat):Int) else ((Nat.gcd n.natAbs d.natAbs:Nat):Int)));refine AB (r:= .agg [.bool v,.sl .u32 z]) H (Sv h K k FH AA (by have:=Ru j h HP;omega)) ?_;exact AN ⟨⟨rfl,congrArg _ ((f.uniq D.num J).1.symm),congrArg _ ((f.uniq D.num J).2.symm),congrArg _ ((FH.uniq D.den I).1.symm),congrArg _ ((FH.uniq D.den I).2.symm),trivial⟩,trivial⟩
def JR {q:Rat} (k: -9223372036854775808<=x/\x<9223372036854775808) (f:q=(x:Rat)) (h:Bn q c1 m1 c2 m2):CF 145 [AH x] (.agg (CP c1 m1 c2 m2)):=by
 refine AL Tryz.func145 fun E j=>?_
 obtain⟨m,w,FU⟩:=BO (x);refine AB j (QG k FU) ?_;obtain⟨v,z,GQ⟩:=BO (1);refine AB j (XA GQ) ?_;exact AN ⟨⟨rfl,congrArg _ ((FU.uniq h.num (by rw[f];rfl)).1.symm),congrArg _ ((FU.uniq h.num (by rw[f];rfl)).2.symm),congrArg _ ((GQ.uniq h.den (by rw[f];rfl)).1.symm),congrArg _ ((GQ.uniq h.den (by rw[f];rfl)).2.symm),trivial⟩,trivial⟩
def QL {q:Rat} {c:Int} (k:Bn q b1 l1 b2 l2) (j:c=Ef q):CF 240 [.agg (CP b1 l1 b2 l2)] (AH c):=by
 refine AL Tryz.func240 fun E h=>?_
 obtain⟨m,f⟩:=xI (DI q.num);refine AB h (OT k.num f) ?_;exact AO (by rw[j,f];rfl)
def lQ {q p:Rat} (h:Bn q b1 l1 b2 l2) (w:Ch q) (f:p= -q) (j:Bn p c1 m1 c2 m2):CF 265 [.agg (CP b1 l1 b2 l2)] (.agg (CP c1 m1 c2 m2)):=by
 refine AL Tryz.func265 fun E v=>?_
 obtain⟨k,m,GQ⟩:=BO (-q.num);refine AB (r:= .agg [.bool k,.sl .u32 m]) v (YV h.num (by have:=h.small w;omega) GQ) ?_;exact AN ⟨⟨rfl,congrArg _ ((GQ.uniq j.num (by rw[f];rfl)).1.symm),congrArg _ ((GQ.uniq j.num (by rw[f];rfl)).2.symm),congrArg _ ((h.den.uniq j.den (by rw[f];rfl)).1.symm),congrArg _ ((h.den.uniq j.den (by rw[f];rfl)).2.symm),trivial⟩,trivial⟩
def lM {p q:Rat} (f:Bn p b1 l1 b2 l2) (h:Bn q c1 m1 c2 m2) (D:Ch p) (ht:Ch q) (hr:r=p+q) (H:Bn r d1 k1 d2 k2):CF 283 [.agg (CP b1 l1 b2 l2),.agg (CP c1 m1 c2 m2)] (.agg (CP d1 k1 d2 k2)):=by
 refine AL Tryz.func283 fun E G=>?_
 obtain⟨b8,I⟩:=xB (decide ((p.den:Int)=1));refine AB G (NX f.den I) ?_;cases b8 <;> conv=>cbv
 ·obtain⟨M,S,j⟩:=BO (p.num*q.den);refine AB (r:= .agg [.bool M,.sl .u32 S]) G (G5 f.num h.den j (by have:=f.small D;have:=h.small ht;omega) (by have:=f.small D;have:=h.small ht;omega)) ?_;obtain⟨N,U,m⟩:=BO (q.num*p.den);refine AB (r:= .agg [.bool N,.sl .u32 U]) G (G5 h.num f.den m (by have:=f.small D;have:=h.small ht;omega) (by have:=f.small D;have:=h.small ht;omega)) ?_;obtain⟨O,V,w⟩:=BO (p.num*q.den+q.num*p.den);refine AB (r:= .agg [.bool O,.sl .u32 V]) G (UD j m w (by have:=f.small D;have:=h.small ht;have:=f.num.Ek h.den j rfl;omega) (by have:=f.small D;have:=h.small ht;have:=h.num.Ek f.den m rfl;omega)) ?_;obtain⟨P,W,z⟩:=BO ((p.den:Int)*q.den);refine AB (r:= .agg [.bool P,.sl .u32 W]) G (G5 f.den h.den z (by have:=f.small D;have:=h.small ht;omega) (by have:=f.small D;have:=h.small ht;omega)) ?_
  obtain⟨Q,a1,K,L,v⟩:=Ca (r);refine AB (r:= .agg [.bool Q,.sl .u32 a1,.bool K,.sl .u32 L]) G (Nf w z (Int.mul_ne_zero (I2 p) (I2 q)) (hr.trans (Ue p q)) v (by have:=f.small D;have:=h.small ht;have:=f.num.Ek h.den j rfl;have:=h.num.Ek f.den m rfl;have:=j.Qf m w rfl (k:=8000000000000) AA AA;omega) (by have:=f.small D;have:=h.small ht;have:=f.den.Ek h.den z rfl;omega)) ?_;exact AN ⟨⟨rfl,congrArg _ ((v.uniq H rfl).1.1.symm),congrArg _ ((v.uniq H rfl).1.2.symm),congrArg _ ((v.uniq H rfl).2.1.symm),congrArg _ ((v.uniq H rfl).2.2.symm),trivial⟩,trivial⟩
 obtain⟨a6,F⟩:=xB (decide ((q.den:Int)=1));refine AB G (NX h.den F) ?_;cases a6 <;> conv=>cbv
 ·obtain⟨M,S,j⟩:=BO (p.num*q.den);refine AB (r:= .agg [.bool M,.sl .u32 S]) G (G5 f.num h.den j (by have:=f.small D;have:=h.small ht;omega) (by have:=f.small D;have:=h.small ht;omega)) ?_;obtain⟨N,U,m⟩:=BO (q.num*p.den);refine AB (r:= .agg [.bool N,.sl .u32 U]) G (G5 h.num f.den m (by have:=f.small D;have:=h.small ht;omega) (by have:=f.small D;have:=h.small ht;omega)) ?_;obtain⟨O,V,w⟩:=BO (p.num*q.den+q.num*p.den);refine AB (r:= .agg [.bool O,.sl .u32 V]) G (UD j m w (by have:=f.small D;have:=h.small ht;have:=f.num.Ek h.den j rfl;omega) (by have:=f.small D;have:=h.small ht;have:=h.num.Ek f.den m rfl;omega)) ?_;obtain⟨P,W,z⟩:=BO ((p.den:Int)*q.den);refine AB (r:= .agg [.bool P,.sl .u32 W]) G (G5 f.den h.den z (by have:=f.small D;have:=h.small ht;omega) (by have:=f.small D;have:=h.small ht;omega)) ?_
  obtain⟨Q,a1,K,L,v⟩:=Ca (r);refine AB (r:= .agg [.bool Q,.sl .u32 a1,.bool K,.sl .u32 L]) G (Nf w z (Int.mul_ne_zero (I2 p) (I2 q)) (hr.trans (Ue p q)) v (by have:=f.small D;have:=h.small ht;have:=f.num.Ek h.den j rfl;have:=h.num.Ek f.den m rfl;have:=j.Qf m w rfl (k:=8000000000000) AA AA;omega) (by have:=f.small D;have:=h.small ht;have:=f.den.Ek h.den z rfl;omega)) ?_;exact AN ⟨⟨rfl,congrArg _ ((v.uniq H rfl).1.1.symm),congrArg _ ((v.uniq H rfl).1.2.symm),congrArg _ ((v.uniq H rfl).2.1.symm),congrArg _ ((v.uniq H rfl).2.2.symm),trivial⟩,trivial⟩
 obtain⟨a2,a5,FH⟩:=BO (p.num+q.num);refine AB (r:= .agg [.bool a2,.sl .u32 a5]) G (UD f.num h.num FH (by have:=f.small D;have:=h.small ht;omega) (by have:=f.small D;have:=h.small ht;omega)) ?_;obtain⟨a7,a8,J⟩:=BO (1);refine AB G (XA J) ?_;exact AN ⟨⟨rfl,congrArg _ ((FH.uniq H.num (by rw[hr];exact (Kr (of_decide_eq_true I.symm) (of_decide_eq_true F.symm)).1.symm)).1.symm),congrArg _ ((FH.uniq H.num (by rw[hr];exact (Kr (of_decide_eq_true I.symm) (of_decide_eq_true F.symm)).1.symm)).2.symm),congrArg _ ((J.uniq H.den (by rw[hr,(Kr (of_decide_eq_true I.symm) (of_decide_eq_true F.symm)).2];rfl)).1.symm),congrArg _ ((J.uniq H.den (by rw[hr,(Kr (of_decide_eq_true I.symm) (of_decide_eq_true F.symm)).2];rfl)).2.symm),trivial⟩,trivial⟩
def lP {p q:Rat} (h:Bn p b1 l1 b2 l2) (j:Bn q c1 m1 c2 m2) (w:Ch p) (ht:Ch q) (O:r=p*q) (z:Bn r d1 k1 d2 k2):CF 284 [.agg (CP b1 l1 b2 l2),.agg (CP c1 m1 c2 m2)] (.agg (CP d1 k1 d2 k2)):=by
 refine AL Tryz.func284 fun E N=>?_
 obtain⟨W,D⟩:=xB (decide ((p.den:Int)=1));refine AB N (NX h.den D) ?_;cases W <;> conv=>cbv
 ·obtain⟨H,K,k⟩:=BO (p.num*q.num);refine AB (r:= .agg [.bool H,.sl .u32 K]) N (G5 h.num j.num k (by have:=h.small w;have:=j.small ht;omega) (by have:=h.small w;have:=j.small ht;omega)) ?_;obtain⟨I,L,m⟩:=BO ((p.den:Int)*q.den);refine AB (r:= .agg [.bool I,.sl .u32 L]) N (G5 h.den j.den m (by have:=h.small w;have:=j.small ht;omega) (by have:=h.small w;have:=j.small ht;omega)) ?_;obtain⟨J,M,F,G,f⟩:=Ca (r);refine AB (r:= .agg [.bool J,.sl .u32 M,.bool F,.sl .u32 G]) N (Nf k m (Int.mul_ne_zero (I2 p) (I2 q)) (O.trans (SU p q)) f (by have:=h.small w;have:=j.small ht;have:=h.num.Ek j.num k rfl;omega) (by have:=h.small w;have:=j.small ht;have:=h.den.Ek j.den m rfl;omega)) ?_;exact AN ⟨⟨rfl,congrArg _ ((f.uniq z rfl).1.1.symm),congrArg _ ((f.uniq z rfl).1.2.symm),congrArg _ ((f.uniq z rfl).2.1.symm),congrArg _ ((f.uniq z rfl).2.2.symm),trivial⟩,trivial⟩
 obtain⟨S,v⟩:=xB (decide ((q.den:Int)=1));refine AB N (NX j.den v) ?_;cases S <;> conv=>cbv
 ·obtain⟨H,K,k⟩:=BO (p.num*q.num);refine AB (r:= .agg [.bool H,.sl .u32 K]) N (G5 h.num j.num k (by have:=h.small w;have:=j.small ht;omega) (by have:=h.small w;have:=j.small ht;omega)) ?_;obtain⟨I,L,m⟩:=BO ((p.den:Int)*q.den);refine AB (r:= .agg [.bool I,.sl .u32 L]) N (G5 h.den j.den m (by have:=h.small w;have:=j.small ht;omega) (by have:=h.small w;have:=j.small ht;omega)) ?_;obtain⟨J,M,F,G,f⟩:=Ca (r);refine AB (r:= .agg [.bool J,.sl .u32 M,.bool F,.sl .u32 G]) N (Nf k m (Int.mul_ne_zero (I2 p) (I2 q)) (O.trans (SU p q)) f (by have:=h.small w;have:=j.small ht;have:=h.num.Ek j.num k rfl;omega) (by have:=h.small w;have:=j.small ht;have:=h.den.Ek j.den m rfl;omega)) ?_;exact AN ⟨⟨rfl,congrArg _ ((f.uniq z rfl).1.1.symm),congrArg _ ((f.uniq z rfl).1.2.symm),congrArg _ ((f.uniq z rfl).2.1.symm),congrArg _ ((f.uniq z rfl).2.2.symm),trivial⟩,trivial⟩
 obtain⟨P,Q,F5⟩:=BO (p.num*q.num);refine AB (r:= .agg [.bool P,.sl .u32 Q]) N (G5 h.num j.num F5 (by have:=h.small w;have:=j.small ht;omega) (by have:=h.small w;have:=j.small ht;omega)) ?_;obtain⟨U,V,FH⟩:=BO (1);refine AB N (XA FH) ?_;exact AN ⟨⟨rfl,congrArg _ ((F5.uniq z.num (by rw[O];exact (mul_ones (of_decide_eq_true D.symm) (of_decide_eq_true v.symm)).1.symm)).1.symm),congrArg _ ((F5.uniq z.num (by rw[O];exact (mul_ones (of_decide_eq_true D.symm) (of_decide_eq_true v.symm)).1.symm)).2.symm),congrArg _ ((FH.uniq z.den (by rw[O,(mul_ones (of_decide_eq_true D.symm) (of_decide_eq_true v.symm)).2];rfl)).1.symm),congrArg _ ((FH.uniq z.den (by rw[O,(mul_ones (of_decide_eq_true D.symm) (of_decide_eq_true v.symm)).2];rfl)).2.symm),trivial⟩,trivial⟩
def lO {p q:Rat} (m:Bn p b1 l1 b2 l2) (h:Bn q c1 m1 c2 m2) (v:Ch p) (ht:Ch q) (z:q≠0) (P:r=p/q) (N:Bn r d1 k1 d2 k2):CF 315 [.agg (CP b1 l1 b2 l2),.agg (CP c1 m1 c2 m2)] (BK (CP d1 k1 d2 k2) 0):=by
 refine AL Tryz.func315 fun E M=>?_
 obtain⟨O,w⟩:=xB (decide (q.num=0));refine AB M (dD h.num w) ?_;cases O <;> conv=>cbv
 ·obtain⟨G,J,j⟩:=BO (p.num*q.den);refine AB (r:= .agg [.bool G,.sl .u32 J]) M (G5 m.num h.den j (by have:=m.small v;have:=h.small ht;omega) (by have:=m.small v;have:=h.small ht;omega)) ?_;obtain⟨H,K,k⟩:=BO ((p.den:Int)*q.num);refine AB (r:= .agg [.bool H,.sl .u32 K]) M (G5 m.den h.num k (by have:=m.small v;have:=h.small ht;omega) (by have:=m.small v;have:=h.small ht;omega)) ?_;obtain⟨I,L,D,F,f⟩:=Ca (r);refine AB (r:= .agg [.bool I,.sl .u32 L,.bool D,.sl .u32 F]) M (Nf j k (Int.mul_ne_zero (I2 p) (mt Rat.num_eq_zero.1 z)) (P.trans (pS p q)) f (by have:=m.small v;have:=h.small ht;have:=m.num.Ek h.den j rfl;omega) (by have:=m.small v;have:=h.small ht;have:=m.den.Ek h.num k rfl;omega)) ?_;exact AN ⟨⟨rfl,congrArg _ ((f.uniq N rfl).1.1.symm),congrArg _ ((f.uniq N rfl).1.2.symm),congrArg _ ((f.uniq N rfl).2.1.symm),congrArg _ ((f.uniq N rfl).2.2.symm),trivial⟩,t2,trivial⟩
 exact absurd (Rat.num_eq_zero.1 (of_decide_eq_true w.symm)) z
def Xh (q:Rat):(q.num<0/\Ef q= -1)\/(q.num=0/\Ef q=0)\/(0<q.num/\Ef q=1):=HW q.num
def Oz (q:Rat):0<(q.den:Int):=by have:=q.den_pos;omega
def iS {p q:Rat} (h:Ef p<Ef q):p<q:=by
 rw[Rat.lt_iff];rcases Xh p with⟨a,e⟩ |⟨a,e⟩ |⟨a,e⟩ <;> rcases Xh q with⟨f,j⟩ |⟨f,j⟩ |⟨f,j⟩ <;> rw[e,j] at h <;> try omega
 ·rw[f,Int.zero_mul];exact Int.mul_neg_of_neg_of_pos a (Oz q)
 ·exact Int.lt_trans (Int.mul_neg_of_neg_of_pos a (Oz q)) (Int.mul_pos f (Oz p))
 rw[a,Int.zero_mul];exact Int.mul_pos f (Oz p)
def oo {p q:Rat} (h:p<q):IT p q= -1:=by unfold IT;rw[if_pos h]
def om {p q:Rat} (h:q<p):IT p q=1:=by
 unfold IT;rw[if_neg (fun h'=>Int.lt_asymm ((Rat.lt_iff _ _).1 h) ((Rat.lt_iff _ _).1 h')),if_pos h]
def aM (p q:Rat):IT p q=CO (p.num*q.den) (q.num*p.den):=by
 unfold IT CO;simp only[Rat.lt_iff]
def lN {p q:Rat} {c:Int} (k:Bn p b1 l1 b2 l2) (m:Bn q c1 m1 c2 m2) (H:Ch p) (ht:Ch q) (I:c=IT p q):CF 292 [.agg (CP b1 l1 b2 l2),.agg (CP c1 m1 c2 m2)] (AH c):=by
 refine AL Tryz.func292 fun E v=>?_
 obtain⟨O,J⟩:=xI (Ef p);refine AB v (QL k J) ?_;obtain⟨M,w⟩:=xI (Ef q);refine AB v (QL m w) ?_;refine HY (fun K=>?_) fun K=>?_
 ·refine Bi (fun L=>?_) fun L=>?_
  ·exact AO (by rw[I];exact om (iS AA))
  exact AO (by rw[I];exact oo (iS AA))
 obtain⟨z,F,h⟩:=BO (p.num*q.den);refine AB (r:= .agg [.bool z,.sl .u32 F]) v (G5 k.num m.den h (by have:=k.small H;have:=m.small ht;omega) (by have:=k.small H;have:=m.small ht;omega)) ?_;obtain⟨D,G,j⟩:=BO (q.num*p.den);refine AB (r:= .agg [.bool D,.sl .u32 G]) v (G5 m.num k.den j (by have:=k.small H;have:=m.small ht;omega) (by have:=k.small H;have:=m.small ht;omega)) ?_;obtain⟨N,f⟩:=xI (CO (p.num*q.den) (q.num*p.den));refine AB v (YJ h j f) ?_;exact AO (by rw[I,f,aM])
def NY {b:Bool} (h:BQ x b l) (h':BQ ((CH x.toNat:Nat):Int) b' l'):l'.length<=l.length:=by
 rw[h.Bx,h'.Bx,Int.natAbs_natCast];exact FW (Nat.le_trans (Nat.le_trans (Nat.le_mul_self _) (PM x.toNat)) AA)
def vJ {e:Int} (h:e=if x<0 then 7 else 0) (f:e≠0):decide (((CH x.toNat:Nat):Int)*((CH x.toNat:Nat):Int)=x)=false:=by
 have k:x<0:=by
  apply Classical.byContradiction;intro j;rw[if_neg j] at h;exact f h
 rw[(AA:x.toNat=0)];simp only[decide_eq_false_iff_not];intro h';rw[show CH 0=0 from rfl] at h';omega
def ou (a b:Int):decide (a=b)=(CO a b==0):=by
 unfold CO;rw[Bool.eq_iff_iff,decide_eq_true_eq,beq_iff_eq]
 split
 ·omega
 split <;> omega
def Sz (v:BQ x b1 l1) (w:BQ ((CH x.toNat:Nat):Int) b2 l2) (F:c=decide (((CH x.toNat:Nat):Int)*((CH x.toNat:Nat):Int)=x)) (s1:l1.length<=4000000000000):CF 350 [.agg (Bu b1 l1)] (.BI [(true,(Bu b2 l2)),(false,[.bool c])]):=by
 refine AL Tryz.func350 fun E D=>?_
 obtain⟨I,J,DR⟩:=BO ((CH x.toNat:Nat):Int);obtain⟨K,h⟩:=xI (if x<0 then 7 else 0);refine AB D (la v DR h AA) ?_;refine Cw (fun j=>?_) fun j=>?_
 ·exact AN ⟨⟨rfl,congrArg _ ((DR.uniq w rfl).1.symm),congrArg _ ((DR.uniq w rfl).2.symm),trivial⟩,⟨rfl,congrArg _ (by rw[F];exact vJ h j),trivial⟩,trivial⟩
 obtain⟨k,m,F5⟩:=BO (((CH x.toNat:Nat):Int)*((CH x.toNat:Nat):Int));refine AB (r:= .agg [.bool k,.sl .u32 m]) D (G5 DR DR F5 (by have:=NY v DR;omega) (by have:=NY v DR;omega)) ?_;obtain⟨H,f⟩:=xI (CO (((CH x.toNat:Nat):Int)*((CH x.toNat:Nat):Int)) x);refine AB D (YJ F5 v f) ?_;intro G z;exact AN ⟨⟨rfl,congrArg _ ((DR.uniq w rfl).1.symm),congrArg _ ((DR.uniq w rfl).2.symm),trivial⟩,⟨rfl,congrArg _ (by rw[F,z,f];exact ou _ _),trivial⟩,trivial⟩
def lS {q:Rat} (w:Bn q b1 l1 b2 l2) (J:Ch q) (G:0<=r) (I:r*r=q) (z:Bn r c1 m1 c2 m2):CF 343 [.agg (CP b1 l1 b2 l2)] (.BI [(true,(CP c1 m1 c2 m2)),(false,[.bool true])]):=by
 refine AL Tryz.func343 fun E H=>?_
 obtain⟨j,m,GP⟩:=BO (r.num);have F:=jQ G I;refine AB (r:= .BI [(true,[.bool j,.sl .u32 m]),(false,[.bool true])]) H (Sz w.num (by rw[F.1];exact GP) (by rw[F.1];exact (decide_eq_true F.2).symm) (by have:=w.small J;omega)) ?_;obtain⟨k,v,F5⟩:=BO (r.den:Int);have D:=jP G I;refine AB (r:= .BI [(true,[.bool k,.sl .u32 v]),(false,[.bool true])]) H (Sz w.den (by rw[D.1];exact F5) (by rw[D.1];exact (decide_eq_true D.2).symm) (by have:=w.small J;omega)) ?_;refine IH (fun f=>?_) fun f=>?_
 ·exact absurd f AD
 refine Tj (fun h=>?_) fun h=>?_
 ·exact AN ⟨⟨rfl,congrArg _ ((GP.uniq z.num rfl).1.symm),congrArg _ ((GP.uniq z.num rfl).2.symm),congrArg _ ((F5.uniq z.den rfl).1.symm),congrArg _ ((F5.uniq z.den rfl).2.symm),trivial⟩,t2,trivial⟩
 exact absurd h AD
def lR {q:Rat} (D:Bn q b1 l1 b2 l2) (I:Ch q) (J:¬∃r:Rat,0<=r/\r*r=q):CF 343 [.agg (CP b1 l1 b2 l2)] (.BI [(true,[.bool false,.sl .u32 [],.bool false,.sl .u32 []]),(false,[.bool false])]):=by
 refine AL Tryz.func343 fun E H=>?_
 obtain⟨m,w,GP⟩:=BO (((CH q.num.toNat:Nat):Int));obtain⟨F,f⟩:=xB (decide (((CH q.num.toNat:Nat):Int)*((CH q.num.toNat:Nat):Int)=q.num));refine AB (r:= .BI [(true,[.bool m,.sl .u32 w]),(false,[.bool F])]) H (Sz D.num GP f (by have:=D.small I;omega)) ?_;obtain⟨v,z,F5⟩:=BO (((CH (q.den:Int).toNat:Nat):Int));obtain⟨G,h⟩:=xB (decide (((CH (q.den:Int).toNat:Nat):Int)*((CH (q.den:Int).toNat:Nat):Int)=(q.den:Int)));refine AB (r:= .BI [(true,[.bool v,.sl .u32 z]),(false,[.bool G])]) H (Sz D.den F5 h (by have:=D.small I;omega)) ?_;refine IH (fun j=>?_) fun j=>?_
 ·exact AN AK
 refine Tj (fun k=>?_) fun k=>?_
 ·exact absurd (jO (of_decide_eq_true (f.symm.trans j)) (of_decide_eq_true (h.symm.trans k))) J
 exact AN AK
def lC {q:Rat} (D:BQ n b1 l1) (F:BQ d b2 l2) (z:d≠0) (G:q=Rat.divInt n d) (w:Bn q c1 m1 c2 m2) (s1:l1.length<=17592186042000) (s2:l2.length<=17592186042000):CF 191 [.agg (Bu b1 l1),.agg (Bu b2 l2)] (BK (CP c1 m1 c2 m2) 0):=by
 refine AL Tryz.func191 fun E v=>?_
 obtain⟨H,J,EH⟩:=BO (n);refine AB v (YX D AA EH) ?_;obtain⟨I,K,EI⟩:=BO (d);refine AB v (YX F AA EI) ?_;refine AB (r:= .one (.bool false)) v (dD EI (by simp[z])) ?_;obtain⟨k,m,h,j,f⟩:=Ca (q);refine AB (r:= .agg [.bool k,.sl .u32 m,.bool h,.sl .u32 j]) v (Nf EH EI z G f (by rw[(EH.uniq D rfl).2];exact s1) (by rw[(EI.uniq F rfl).2];exact s2)) ?_;exact AN ⟨⟨rfl,congrArg _ ((f.uniq w rfl).1.1.symm),congrArg _ ((f.uniq w rfl).1.2.symm),congrArg _ ((f.uniq w rfl).2.1.symm),congrArg _ ((f.uniq w rfl).2.2.symm),trivial⟩,t2,trivial⟩
def Th {b:Bool} (f: -9223372036854775808<=x/\x<9223372036854775808) (h:BQ x b l):l.length<=2:=by
 rw[h.Bx];exact HS AA
def UG {q:Rat} (D: -9223372036854775808<=n/\n<9223372036854775808) (z: -9223372036854775808<=d/\d<9223372036854775808) (L:d≠0) (M:q=Rat.divInt n d) (w:Bn q c1 m1 c2 m2):CF 138 [AH n,AH d] (.agg (CP c1 m1 c2 m2)):=by
 refine AL Tryz.func138 fun E v=>?_
 obtain⟨N,O,EI⟩:=BO (n);refine AB v (QG D EI) ?_;obtain⟨H,J,GP⟩:=BO (d);refine AB v (QG z GP) ?_;obtain⟨k,m,h,j,HP⟩:=Ca q;refine AB (r:= .BI [(true,[.bool k,.sl .u32 m,.bool h,.sl .u32 j]),(false,[.int .i64 0])]) v (lC EI GP L M HP (by have:=Th D EI;omega) (by have:=Th z GP;omega)) ?_;refine OK (fun f=>?_) fun f=>?_
 ·exact AN ⟨⟨rfl,congrArg _ ((HP.uniq w rfl).1.1.symm),congrArg _ ((HP.uniq w rfl).1.2.symm),congrArg _ ((HP.uniq w rfl).2.1.symm),congrArg _ ((HP.uniq w rfl).2.2.symm),trivial⟩,trivial⟩
 obtain⟨I,K,F,G,F5⟩:=Ca (((0:Int):Rat));refine AB v (JR AA rfl F5) ?_;exact absurd f AD
def ju (k:BQ y b2 l2) (h:DI y<=0:=by omega):GV b1 l1 b2 l2=false:=by
 apply Bool.eq_false_iff.2;intro h';obtain⟨q,j⟩:=OE.1 h';have e:y=(q.den:Int):=by rw[k.Fq,j.den.Fq]
 have:=Oz q;rcases HW y with⟨a,f⟩ |⟨a,f⟩ |⟨a,f⟩ <;> omega
def jt (k:true=HH b1 l1) (m:true=HH b2 l2) (z:BQ x b1 l1) (f:BQ y b2 l2) (h:0<DI y) (v:c=decide (((Nat.gcd x.natAbs y.natAbs:Nat):Int)=1)):GV b1 l1 b2 l2=c:=by
 have D:0<y:=by rcases HW y with⟨a,j⟩ |⟨a,j⟩ |⟨a,j⟩ <;> omega
 have hb:b2=false:=by rw[f.neg];exact decide_eq_false AA
 have w:l2≠[]:=fun e=>by have:=f.nil.1 e;omega
 unfold GV;rw[<-k,<-m,hb,decide_eq_true w,v,z.nat,f.nat];simp only[Bool.true_and,Bool.not_false];rw[Bool.eq_iff_iff,decide_eq_true_eq,decide_eq_true_eq];omega
def Ya (w:c=GV b1 l1 b2 l2) (s1:l1.length<=17592186042000) (s2:l2.length<=17592186042000):CF 303 [.agg (CP b1 l1 b2 l2)] (.one (.bool c)):=by
 refine AL Tryz.func303 fun E m=>?_
 obtain⟨J,f⟩:=xB (HH b1 l1);refine AB m (Yk f) ?_;cases J <;> conv=>cbv
 ·exact AO (by rw[w];unfold GV;rw[<-f];rfl)
 obtain⟨K,h⟩:=xB (HH b2 l2);refine AB m (Yk h) ?_;cases K <;> conv=>cbv
 ·exact AO (by rw[w];unfold GV;rw[<-h];exact Bool.and_false _)
 obtain⟨x,F⟩:=Lk.1 f.symm;obtain⟨y,z⟩:=Lk.1 h.symm;obtain⟨L,v⟩:=xI (DI y);refine AB m (OT z v) ?_;refine Fu (fun D=>?_) fun D=>?_
 ·exact AO (by rw[w];exact ju z)
 obtain⟨G,H,k⟩:=BO (((Nat.gcd x.natAbs y.natAbs:Nat):Int));refine AB m (YP F z k AA AA) ?_;obtain⟨I,j⟩:=xB (decide (((Nat.gcd x.natAbs y.natAbs:Nat):Int)=1));refine AB m (NX k j) ?_;exact AO (by rw[w];exact jt f h F z AA j)
end
section
variable {B X Z o:LR} {i n zn:Nat} {xs ys:List Rat}
def qt {A:LR} (G:A=X.take (X.length/2)) (H:B=X.drop (X.length/2)):CF 288 [AQ X] (.BI [(false,[AT A]),(false,[AT B])]):=by
 refine AL Tryz.func288 fun E Q=>?_
 rintro V ⟨O,f6⟩ W P U J z I S m M ⟨D,f11⟩ N F L j k w ⟨v,f⟩ K h;exact AN ⟨⟨rfl,congrArg _ (by rw[G,m,List.drop_zero,(AA:z=X.length/2)]),trivial⟩,⟨rfl,congrArg _ (by rw[H,h,f,j,List.take_length,(AA:k=X.length/2)]),trivial⟩,trivial⟩
def xS {X A:List LR} (v:X≠[]) (z:A=X.take (X.length-1)) (D:X[X.length-1]? =some B):CF 287 [BF X] (.BI [(false,[Ao A]),(false,[AT B])]):=by
 refine AL Tryz.func287 fun E M=>?_
 rintro P ⟨J,f6⟩;have K:0<X.length:=List.length_pos_iff.2 v;refine AM ?_;rintro Q L O G k F N j H ⟨m,f11⟩ h w;refine BA ((h).toNat) fun I f=>?_
 try conv=>cbv
 refine g2 rfl ?_;exact AN ⟨⟨rfl,congrArg _ (by rw[z,j,List.drop_zero,(AA:k=X.length-1)]),trivial⟩,⟨rfl,congrArg _ (by rw[(AA:h.toNat=X.length-1)] at f;exact (Option.some.inj (D.symm.trans f))),trivial⟩,trivial⟩
def qw {Z:Nat->LR} (h:o.take i=Z i) (e:i=n):o.take n=Z n:=by rw[<-e];exact h
def TL {α:Type} {o:List α} {w:α} (h:i<o.length):(o.set i w).take (i+1)=o.take i++[w]:=by
 rw[List.take_succ_eq_append_getElem (by rw[List.length_set];exact h),List.take_set_of_le (Nat.le_refl _),List.getElem_set_self]
def zh {a:Int} (ha:AZ a n) (hn:n<=1000000) (hX:X=BV (List.replicate n 0)) (K:zn=X.length):CF 286 [AH a] (.one (.own AJ X zn)):=by
 have ea:=ha.eq;refine AL Tryz.func286 fun E hE=>?_
 refine⟨fun _=>⟨AA,AA,by show _*64<=140737488355328;omega⟩,?_⟩;intro N (O:LR) H;have a6:=H.1;have J:O=List.replicate N (((false,[]),(false,[])):el AJ):=H.2;have W:O.length=N:=by rw[J,List.length_replicate]
 conv=>cbv
 intro n8 h8;have e8:=h8.eq;conv=>cbv
 refine BX [] [3,8,9] [6] (fun vs Q k=>∃(o:LR) (m i':Nat) (L i:Int),vs=[.one (.Aj AJ 6 0 0 m),AH L,AH i]/\Q=[.arr 0 AJ o]/\(o.length=n/\m=n/\EN L n/\AZ i i'/\i'<=n)/\o.take i'=BV (List.replicate i' 0)/\k=n-i') (n-0) ⟨O,N,0,n8,0,rfl,rfl,⟨AA,AA,⟨AA,AA⟩,BM 0,AA⟩,rfl,rfl⟩ ?_;rintro J0 I vs Q a7 ⟨o,m,i',L,i,rfl,rfl,⟨ho,hm,U,hi,a2⟩,hinv,a5⟩;conv=>cbv
 have eL:=U.eq;have ei:=hi.eq;refine Bi (fun M=>?_) fun M=>?_
 ·have f:o=X:=by rw[hX,<-qw (Z:=fun i=>BV (List.replicate i 0)) hinv AA,List.take_of_length_le AA]
  exact AN ⟨⟨rfl,.inr (.inl ⟨_,_,AD,rfl,rfl,AA,rfl,Dm (f.symm) (by rw[K,<-f])⟩),trivial⟩,trivial⟩
 refine .inr ?_;obtain⟨z,D,v,w,j⟩:=Ca (((0:Int):Rat));refine AB hE (JR AA rfl j) ?_;intro G V;refine⟨((z,D),(v,w)),fun _=>⟨by show _<List.length (α:=(el AJ)) o;(first | omega | (simp;omega)),DB⟩,?_⟩;intro (F:LR) (h:F=List.set (α:=(el AJ)) o G (((z,D),(v,w))));have S:F.length=o.length:=by rw[h,List.length_set]
 refine AM ?_;intro P a1;refine⟨n-(i'+1),?_,?_⟩
 ·omega
 rw[I];refine⟨F,m,i'+1,L,P,rfl,rfl,⟨AA,AA,U,⟨AA⟩,AA⟩,?_,rfl⟩;rw[h,(AA:G=i'),TL AA,hinv,List.replicate_succ',BV,BV,List.map_append,<-j.rp];rfl
def KK {x:el AJ} (j:X=BV xs) (k:FO xs) (f:X[i]? =some x):∃q,Bn q x.1.1 x.1.2 x.2.1 x.2.2/\xs[i]? =some q/\Ch q:=by
 rw[j,BV,List.getElem?_map] at f;cases h:xs[i]? with
 | none=>rw[h] at f;simp at f
 | some q=>
  rw[h] at f;have e:x=rp q:=(Option.some.inj f).symm;exact⟨q,by rw[e];exact F6 q,rfl,k q (List.mem_of_getElem? h)⟩
def gP (h:o.take i=BV (ys.take i)) (j:i=n) (f:o.length=n) (k:ys.length=n):BV ys=o.take n:=by
 rw[j] at h;rw[h,<-k,List.take_length]
def gR {l:LR} {j:Nat} {q:Rat} {w:el AJ} (h:o.take i=BV (ys.take i)) (k:i<o.length) (m:j=i) (v:l=o.set j w) (f:ys[i]? =some q) (hw:rp q=w):l.take (i+1)=BV (ys.take (i+1)):=by
 have z:i<ys.length:=H6 f;rw[v,m,TL k,h,List.take_succ,f,BV,BV,List.map_append,<-hw];rfl
def tK (hX:X=BV xs) (hs:FO xs) (hn:xs.length<=1000000) (hZ:Z=BV (xs.map (- ·))):CF 208 [AQ X] (AQ Z):=by
 refine AL Tryz.func208 fun E hE=>?_
 have a7:X.length=xs.length:=by rw[hX,List.length_map]
 rintro n7 ⟨e7,f7⟩;conv=>cbv
 refine⟨fun _=>⟨AA,AA,by show _*64<=140737488355328;omega⟩,?_⟩;intro P (Q:LR) H;have ab:=H.1;have J:Q=List.replicate P (((false,[]),(false,[])):el AJ):=H.2;have a5:Q.length=P:=by rw[J,List.length_replicate]
 refine Af ?_;intro S D;have a2:=D.eq;have f10:=D.le;refine BX [] [3,9,10,11] [8] (fun vs V k=>∃(o:LR) (m i':Nat) (L i:Int),vs=[.one (.Aj AJ 8 0 0 m),AQ X,AH L,AH i]/\V=[.arr 0 AJ o]/\(o.length=X.length/\m=X.length/\EN L X.length/\AZ i i'/\i'<=X.length)/\o.take i'=BV ((xs.map (- ·)).take i')/\k=X.length-i') (X.length-0) ⟨Q,P,0,S,0,rfl,rfl,⟨AA,AA,D,BM 0,AA⟩,rfl,rfl⟩ ?_;rintro J0 I vs V ad ⟨o,m,i',L,i,rfl,rfl,⟨ho,hm,hL,hi,a8⟩,hinv,aa⟩;conv=>cbv
 have eL:=hL.eq;have ei:=hi.eq;refine Bi (fun O=>?_) fun O=>?_
 ·exact AN ⟨⟨rfl,.inl ⟨_,rfl,AA,congrArg _ (by rw[hZ,hm,List.drop_zero];exact gP hinv AA AA (by rw[List.length_map];omega))⟩,trivial⟩,trivial⟩
 refine .inr ?_;refine BA i' fun ae G=>?_
 try conv=>cbv
 obtain⟨q,hq,K,M⟩:=KK hX hs G;obtain⟨w,z,j,v,h⟩:=Ca (-q);refine AB hE (lQ hq M rfl h) ?_;intro N a1;refine⟨((w,z),(j,v)),fun _=>⟨by show _<List.length (α:=(el AJ)) o;(first | omega | (simp;omega)),DB⟩,?_⟩;intro (F:LR) (f:F=List.set (α:=(el AJ)) o N (((w,z),(j,v))));have W:F.length=o.length:=by rw[f,List.length_set]
 refine AM ?_;intro U a6;refine⟨X.length-(i'+1),?_,?_⟩
 ·omega
 rw[I];refine⟨F,m,i'+1,L,U,rfl,rfl,⟨AA,AA,hL,⟨AA⟩,AA⟩,?_,rfl⟩;exact gR hinv AA AA f (by rw[List.getElem?_map,K];rfl) h.rp
def nj {Y:LR} (hX:X=BV xs) (hY:Y=BV ys) (hs:FO xs) (ht:FO ys) (U:ys.length=xs.length) (hn:xs.length<=1000000) (hZ:Z=BV (List.zipWith (· + ·) xs ys)) (V:zn=Z.length):CF 243 [AQ X,AQ Y] (.one (.own AJ Z zn)):=by
 refine AL Tryz.func243 fun E hE=>?_
 have ad:X.length=xs.length:=by rw[hX,List.length_map]
 have ae:Y.length=xs.length:=by rw[hY,List.length_map,U]
 rintro n8 ⟨e8,f8⟩;conv=>cbv
 refine⟨fun _=>⟨AA,AA,by show _*64<=140737488355328;omega⟩,?_⟩;intro k9 (l9:LR) J;have ah:=J.1;have N:l9=List.replicate k9 (((false,[]),(false,[])):el AJ):=J.2;have aa:l9.length=k9:=by rw[N,List.length_replicate]
 conv=>cbv
 intro a2 K;have a8:=K.eq;conv=>cbv
 refine BX [] [0,1,5,11,12] [9] (fun vs bl k=>∃(o:LR) (m i':Nat) (L i:Int),vs=[AQ X,AQ Y,.one (.Aj AJ 9 0 0 m),AH L,AH i]/\bl=[.arr 0 AJ o]/\(o.length=X.length/\m=X.length/\AZ L X.length/\AZ i i'/\i'<=X.length)/\o.take i'=BV ((List.zipWith (· + ·) xs ys).take i')/\k=X.length-i') (X.length-0) ⟨l9,k9,0,a2,0,rfl,rfl,⟨AA,AA,⟨AA⟩,BM 0,AA⟩,rfl,rfl⟩ ?_;rintro J0 M vs bl ai ⟨o,m,i',L,i,rfl,rfl,⟨ho,hm,hL,hi,af⟩,hinv,ag⟩;conv=>cbv
 have eL:=hL.eq;have ei:=hi.eq;refine Bi (fun a1=>?_) fun a1=>?_
 ·have G:BV (List.zipWith (· + ·) xs ys)=o.take X.length:=gP hinv AA AA (by rw[List.length_zipWith];omega);have f:Z=o:=by rw[hZ,G,List.take_of_length_le AA]
  exact AN ⟨⟨rfl,.inr (.inl ⟨_,_,AD,rfl,rfl,AA,rfl,Dm (f) (by rw[V,f])⟩),trivial⟩,trivial⟩
 refine .inr ?_;refine BA i' fun aj H=>?_
 try conv=>cbv
 refine BA i' fun ak I=>?_
 try conv=>cbv
 obtain⟨p,hp,O,Q⟩:=KK hX hs H;obtain⟨q,hq,P,S⟩:=KK hY ht I;obtain⟨z,D,v,w,j⟩:=Ca (p+q);refine AB hE (lM hp hq Q S rfl j) ?_;intro W a7;refine⟨((z,D),(v,w)),fun _=>⟨by show _<List.length (α:=(el AJ)) o;(first | omega | (simp;omega)),DB⟩,?_⟩;intro (F:LR) (h:F=List.set (α:=(el AJ)) o W (((z,D),(v,w))));have a6:F.length=o.length:=by rw[h,List.length_set]
 refine AM ?_;intro a5 ab;refine⟨X.length-(i'+1),?_,?_⟩
 ·omega
 rw[M];refine⟨F,m,i'+1,L,a5,rfl,rfl,⟨AA,AA,hL,⟨AA⟩,AA⟩,?_,rfl⟩;exact gR hinv AA AA h (by rw[List.getElem?_zipWith,O,P]) j.rp
end
section
def I7 (p:el AJ->Bool):Nat->LR->Int
 | _,[]=> -1
 | i,x::l=>if p x=true then i else I7 p (i+1) l
variable {Y:LR} {b1 b2 c:Bool} {g:FuncId} {i:Nat} {l1 l2:List UInt32} {x:el AJ} {ys:List Rat}
def cY {X:LR} (h:X[i]? =some x):X.drop i=x::X.drop (i+1):=by
 have f:=H6 h;rw[List.drop_eq_getElem_cons f];rw[List.getElem?_eq_getElem f] at h;rw[Option.some.inj h]
def qz {X:LR} {p:el AJ->Bool} (h:X[i]? =some x) (f:p x=false):I7 p i (X.drop i)=I7 p (i+1) (X.drop (i+1)):=by
 rw[cY h,I7,f];rfl
def qy {X:LR} {p:el AJ->Bool} (h:X[i]? =some x) (f:p x=true):I7 p i (X.drop i)=i:=by
 rw[cY h,I7,if_pos f]
def lA {X:LR} {p:el AJ->Bool} {r:Int} (I:∀x∈X,CF g [.agg (cells AJ x)] (.one (.bool (p x)))) (N:r=I7 p 0 X):CF 324 [AQ X,.one (.fn g)] (AH r):=by
 refine AL Tryz.func324 fun E H=>?_
 intro Q v;have U:=v.eq;have f7:=v.le;refine BX [] [0,1,7,8] [] (fun vs F k=>∃(i':Nat) (L i:Int),vs=[AQ X,.one (.fn g),AH L,AH i]/\(EN L X.length/\AZ i i'/\i'<=X.length)/\r=I7 p i' (X.drop i')/\k=X.length-i') (X.length-0) ⟨0,Q,0,rfl,⟨v,BM 0,AA⟩,N,rfl⟩ ?_;rintro S w vs F P ⟨i',L,i,rfl,⟨D,J,K⟩,hinv,M⟩;conv=>cbv
 have V:=D.eq;have W:=J.eq;refine Bi (fun O=>?_) fun O=>?_
 ·exact AO (by rw[hinv,List.drop_eq_nil_of_le AA];rfl)
 refine .inr ?_;refine BA i' fun m h=>?_
 try conv=>cbv
 obtain⟨j,f⟩:=xB (p m);refine AB (r:= .one (.bool j)) H ((by rw[f];exact I m (List.mem_of_getElem? h))) ?_;cases j <;> conv=>cbv
 ·refine AM ?_;intro z G;refine⟨X.length-(i'+1),?_,?_⟩
  ·omega
  rw[w];refine⟨i'+1,L,z,rfl,⟨D,⟨AA⟩,AA⟩,?_,rfl⟩;rw[hinv,qz h f.symm]
 exact AO (by rw[hinv,qy h f.symm];omega)
def cX (p:el AJ->Bool):∀(X:LR) (i:Nat),decide (I7 p i X >= 0)=X.any p
 | [],i=>rfl
 | x::X,i=>by
  rw[I7,List.any_cons]
  split
  ·rename_i h;rw[h,Bool.true_or];exact decide_eq_true AA
  rename_i h;rw[Bool.eq_false_iff.2 h,Bool.false_or];exact cX p X (i+1)
def YM {X:LR} {p:el AJ->Bool} (m:∀x∈X,CF g [.agg (cells AJ x)] (.one (.bool (p x)))) (k:c=X.any p):CF 301 [AQ X,.one (.fn g)] (.one (.bool c)):=by
 refine AL Tryz.func301 fun E j=>?_
 obtain⟨w,f⟩:=xI (I7 p 0 X);refine AB j (lA m f) ?_;intro v h;exact AO (by rw[k,h,f];exact (cX p X 0).symm)
def wg (q:Rat):decide (q≠0)=(Ef q !=0):=by
 have h:= @Rat.num_eq_zero q;rw[Bool.eq_iff_iff,decide_eq_true_eq,bne_iff_ne];rcases Xh q with⟨a,e⟩ |⟨a,e⟩ |⟨a,e⟩ <;> rw[e]
 ·exact⟨fun _=>AD,fun _ f=>by rw[h.2 f] at a;omega⟩
 ·exact⟨fun f=>absurd (h.1 a) f,fun f=>absurd rfl f⟩
 exact⟨fun _=>AD,fun _ f=>by rw[h.2 f] at a;omega⟩
def tN {q:Rat} (m:Bn q b1 l1 b2 l2) (k:c=decide (q≠0)):CF 313 [.agg (CP b1 l1 b2 l2)] (.one (.bool c)):=by
 refine AL Tryz.func313 fun E j=>?_
 obtain⟨w,f⟩:=xI (Ef q);refine AB j (QL m f) ?_;intro v h;exact AO (by rw[k,h,f];exact wg q)
def gO (q:Rat):decide (q≠0)= !(rp q).1.2.isEmpty:=by
 have h:(rp q).1.2=Ah q.num.natAbs:=rfl;rw[h,Bool.eq_iff_iff,decide_eq_true_eq,Bool.not_eq_true',List.isEmpty_eq_false_iff,Ne,Ne,F8,<-Rat.num_eq_zero];omega
def vL (xs:List Rat):(BV xs).any (fun x=> !x.1.2.isEmpty)= !decide (∀q∈xs,q=0):=by
 induction xs with
 | nil=>rfl
 | cons q xs f=>
  rw[BV,List.map_cons,List.any_cons,<-gO,<-BV,f]
  by_cases h:q=0 <;> simp[h]
def yC {X:LR} {xs:List Rat} (h:X=BV xs):∀x∈X,CF 313 [.agg (cells AJ x)] (.one (.bool (!x.1.2.isEmpty))):=by
 intro x f;rw[h] at f;obtain⟨q,_,rfl⟩:=List.mem_map.1 f;exact tN (F6 q) (gO q).symm
def ZI {X:LR} {xs:List Rat} (h:X=BV xs) (m:c=decide (∀q∈xs,q=0)):CF 285 [AQ X] (.one (.bool c)):=by
 refine AL Tryz.func285 fun E k=>?_
 obtain⟨v,f⟩:=xB (X.any (fun x=> !x.1.2.isEmpty));refine AB k (YM (yC h) f) ?_;intro w j;exact AO (by rw[m,j,f,h,vL,Bool.not_not])
def rT (k:c= !GV b1 l1 b2 l2) (s1:l1.length<=17592186042000) (s2:l2.length<=17592186042000):CF 302 [.agg (CP b1 l1 b2 l2)] (.one (.bool c)):=by
 refine AL Tryz.func302 fun E j=>?_
 obtain⟨m,f⟩:=xB (GV b1 l1 b2 l2);refine AB j (Ya f s1 s2) ?_;intro v h;exact AO (by rw[k,h,f])
def oF {X:LR} {xs:List Rat} (j:X=BV xs) (m:FO xs):∀x∈X,CF 302 [.agg (cells AJ x)] (.one (.bool false)):=by
 intro x f;rw[j] at f;obtain⟨q,k,rfl⟩:=List.mem_map.1 f;have h:=(F6 q).small (m q k);exact rT (by rw[OE.2 ⟨q,F6 q⟩];rfl) AA AA
def any_false (X:LR):false=X.any (fun _=>false):=by
 induction X with
 | nil=>rfl
 | cons x X f=>rw[List.any_cons,<-f];rfl
def Wd {X:LR} {xs:List Rat} {k:Int} {n:Nat} (h:X=BV xs) (z:FO xs) (w:AZ k n) (m:c=decide (xs.length=n)):CF 264 [AQ X,AH k] (.one (.bool c)):=by
 have H:=w.eq;refine AL Tryz.func264 fun E v=>?_
 rintro I ⟨G,f6⟩;refine Cw (fun D=>?_) fun D=>?_
 ·exact AO (by have j:X.length=xs.length:=(by rw[h,List.length_map]);rw[m];exact decide_eq_false AA)
 refine AB v (YM (p:=fun _=>false) (oF h z) (any_false X)) ?_;intro F f;exact AO (by have j:X.length=xs.length:=(by rw[h,List.length_map]);rw[m,f];exact decide_eq_true AA)
def Gf {n i:Int} {k:Nat} (h:n=IntKind.i64.wrap (1*2^min i.toNat IntKind.i64.bits)) (e:i=k) (f:k<=20:=by omega):AZ n (2^k):=by
 have j:=wrap_i64 h;have m:2^k<=2^20:=Nat.pow_le_pow_right AD f
 have h3:((2:Int)^min i.toNat IntKind.i64.bits)=((2^k:Nat):Int):=by
  rw[e,Int.toNat_natCast,Nat.min_eq_left (Nat.le_trans f AD)];simp
 rw[h3,Int.one_mul] at j
 generalize 2^k=Q at*
 exact⟨AA⟩
def MG {X:List LR} {xs:AG} {x:LR} (j:X=xs.map BV) (f:X[i]? =some x):∃y,x=BV y/\xs[i]? =some y:=by
 rw[j,List.getElem?_map] at f;cases h:xs[i]? with
 | none=>rw[h] at f;simp at f
 | some q=>rw[h] at f;exact⟨q,(Option.some.inj f).symm,rfl⟩
def XQ {X:List LR} {xs:AG} (G:X=xs.map BV) (ht:QO xs) (N:c=true):CF 263 [BF X] (.one (.bool c)):=by
 refine AL Tryz.func263 fun E K=>?_
 have M:X.length=xs.length:=by rw[G,List.length_map]
 have hl:=ht.Vt;intro W v;have e6:=v.eq;have f6:=v.le;conv=>cbv
 refine BX [] [5,6,7] [] (fun vs H k=>∃(i':Nat) (L i:Int),vs=[BF X,AH L,AH i]/\(EN L X.length/\AZ i i'/\i'<=X.length)/\k=X.length-i') (X.length-0) ⟨0,W,0,rfl,⟨v,BM 0,AA⟩,rfl⟩ ?_;rintro J0 w vs H U ⟨i',L,i,rfl,⟨F,O,P⟩,Q⟩;conv=>cbv
 have eL:=F.eq;have I:=O.eq;refine Bi (fun S=>?_) fun S=>?_
 ·exact AO (N)
 refine .inr ?_;refine BA i' fun a1 f=>?_
 refine AM ?_;intro V m;obtain⟨x,z,h⟩:=MG G f;refine AB (r:= .one (.bool true)) K (Wd z (ht.small x (List.mem_of_getElem? h)) (Gf m I) (by rw[ht.form i' x h];exact (decide_eq_true rfl).symm)) ?_;refine IH (fun j=>?_) fun j=>?_
 ·exact absurd j AD
 intro D J;exact Bj w ⟨i'+1,L,D,rfl,⟨F,⟨AA⟩,AA⟩,rfl⟩
def Jv {X:List LR} {xs:AG} (v:X=xs.map BV) (ht:QO xs) (z:Y=BV ys) (F:FO ys) (D:c=decide (ys.length=2^xs.length)):CF 207 [BF X,AQ Y] (.one (.bool c)):=by
 refine AL Tryz.func207 fun E m=>?_
 have k:X.length=xs.length:=by rw[v,List.length_map]
 have I:=ht.Vt;refine AB m (XQ v ht rfl) ?_;rintro G ⟨h,f10⟩ H j;obtain⟨w,f⟩:=xB (decide (ys.length=2^xs.length));refine AB m (Wd z F (Gf j (h.trans (congrArg _ k))) f) ?_;exact AO (D.trans f.symm)
def Vh {X:List LR} {Z:LR} {xs:AG} {w:List Rat} (D:X=xs.map BV) (ht:QO xs) (F:Y=BV ys) (H:FO ys) (m:ys.length=2^xs.length) (G:Z=BV w) (k:FO w) (v:w.length=2^xs.length):CF 242 [BF X,AQ Y,AQ Z] (.one (.bool true)):=by
 refine AL Tryz.func242 fun E z=>?_
 have j:X.length=xs.length:=by rw[D,List.length_map]
 have K:=ht.Vt;refine AB z (Jv D ht F H (decide_eq_true m).symm) ?_;rintro I ⟨f,f13⟩ J h;refine AB z (Wd G k (Gf h (f.trans (congrArg _ j))) (decide_eq_true v).symm) ?_;exact AN ⟨t2,trivial⟩
end
section
variable {A B C X Y Z:LR} {R s t zn:Nat} {T:List LR} {p:Rat} {x y:Re}
def L3 {u:AG} (h:BE u) (k:In u x) (j:X=em u x) (f:x=0):CF 285 [AQ X] (.one (.bool true)):=
 ZI j (decide_eq_true ((Ou h k).2 f)).symm
def J9 {u:AG} (h:BE u) (m:In u x) (j:X=em u x) (f:x≠0):CF 285 [AQ X] (.one (.bool false)):=
 ZI j (decide_eq_false (fun k=>f ((Ou h m).1 k))).symm
def R3 {u:AG} {r:List Rat} {p q:Re} (h:BE (r::u)) (j:In u p) (k:In u q) (m:x=p+q*rt u r) (f:X=em (r::u) x) (v:A=em u p) (w:B=em u q):
  CF 288 [AQ X] (.BI [(false,[AT A]),(false,[AT B])]):=
 qt (by rw[f,v,DX h j k m]) (by rw[f,w,DE h j k m])
def OC (r:List Rat) (u:AG):tw (r::u)≠[]:=by rw[P8];simp
def Xq {X A:List LR} {u:AG} {r:List Rat} (f:X=tw (r::u)) (h:A=tw u) (j:B=BV r):
  CF 287 [BF X] (.BI [(false,[Ao A]),(false,[AT B])]):=
 xS (by rw[f];exact OC r u) (by rw[f,h,Ey]) (by rw[f,j,HG])
def LU {n:Nat} (h:n<=16:=by omega):2^n<=1000000:=Nat.le_trans (Ea h) AD
def ZO {u:AG} (h:BT R u) (m:X=em u x) (v:Y=em u y) (f:El u s x) (j:El u t y) (z:s<=60000000000000) (ht:t<=60000000000000) (w:Z=em u (x+y)) (k:zn=Z.length):
  CF 243 [AQ X,AQ Y] (.one (.own AJ Z zn)):=
 nj m v (f.Cy z) (j.Cy ht) (by rw[f.len,j.len]) (by rw[f.len];exact LU h.ht) (by rw[w,bC h.red f.mem j.mem]) k
def Qh {u:AG} (h:BT R u) (f:X=em u x) (j:Y=em u y) (v:El u s x) (w:El u t y) (m:s<=60000000000000) (ht:t<=60000000000000) (k:Z=em u (x+y)):
 CF 243 [AQ X,AQ Y] (AQ Z):=EW (ZO h f j v w m ht k rfl)
def SZ {u:AG} (h:BT R u) (j:X=em u x) (f:El u s x) (m:s<=60000000000000) (k:Z=em u (-x)):
  CF 208 [AQ X] (AQ Z):=
 tK j (f.Cy m) (by rw[f.len];exact LU h.ht) (by rw[k,bD h.red f.mem])
def UC {a:Int} {u:AG} (h:BT R u) (ha:AZ a (2^u.length)) (j:Z=em u 0) (f:zn=Z.length):
  CF 286 [AH a] (.one (.own AJ Z zn)):=
 zh ha (LU h.ht) (by rw[j,VQ h.red]) f
def Ge {x:el AJ} (h:A=[rp p]) (f:A[0]? =some x):Bn p x.1.1 x.1.2 x.2.1 x.2.2:=by
 rw[h] at f;rw[<-Option.some.inj f];exact F6 p
def sw {q:Rat} (M:T=[]) (G:A=[rp p]) (H:B=[rp q]) (P:Ch p) (ht:Ch q) (I:C=[rp (p*q)]) (F:zn=C.length):CF 245 [BF T,AQ A,AQ B] (.one (.own AJ C zn)):=by
 refine AL Tryz.func245 fun E L=>?_
 refine .inr ?_;rintro Q ⟨D,f16⟩;conv=>cbv
 refine Cw (fun k=>?_) fun k=>?_
 ·exact absurd (by rw[D,M];rfl) k
 have J:A.length=1:=by rw[G];rfl
 have K:B.length=1:=by rw[H];rfl
 refine BA 0 fun S h=>?_
 try conv=>cbv
 refine BA 0 fun U j=>?_
 try conv=>cbv
 have N:=Ge G h;have O:=Ge H j;obtain⟨w,z,m,v,f⟩:=Ca (p*q);refine AB L (lP N O P ht rfl f) ?_;refine⟨[((w,z),(m,v))],Cj,.inl ?_⟩;try conv=>cbv
 refine g2 rfl ?_;exact AN ⟨⟨rfl,.inr (.inl ⟨_,_,AD,rfl,rfl,rfl,rfl,Dm (by rw[I,f.rp]) (by rw[F,I];rfl)⟩),trivial⟩,trivial⟩
def tD {u:AG} (h:BT R u) (L:T≠[]) (F:A=em u x) (O:B=em u y) (I:In u x) (P:In u y) (K:x=0) (G:C=em u 0) (z:zn=C.length):CF 245 [BF T,AQ A,AQ B] (.one (.own AJ C zn)):=by
 refine AL Tryz.func245 fun E H=>?_
 refine .inr ?_;rintro M ⟨J,f16⟩;conv=>cbv
 refine BY (fun D=>?_) fun D=>?_
 ·exact absurd (List.length_eq_zero_iff.1 AA) L
 refine AB H (L3 h.red I F K) ?_;have w:A.length=2^u.length:=by rw[F,B9 I]
 rintro N ⟨v,f34⟩;conv=>cbv
 obtain⟨k,f⟩:=xR (em u (0));obtain⟨m,j⟩:=xN k.length;refine AB (r:= .one (.own AJ k m)) H (UC h (AZ.of (by rw[v,w])) f j) ?_;exact AN ⟨⟨rfl,.inr (.inl ⟨_,_,AD,rfl,rfl,j,rfl,Dm (by rw[G,f]) (by rw[z,G,<-f])⟩),trivial⟩,trivial⟩
def tE {u:AG} (h:BT R u) (N:T≠[]) (G:A=em u x) (M:B=em u y) (I:In u x) (O:In u y) (K:y=0) (L:x≠0) (H:C=em u 0) (D:zn=C.length):CF 245 [BF T,AQ A,AQ B] (.one (.own AJ C zn)):=by
 refine AL Tryz.func245 fun E z=>?_
 refine .inr ?_;rintro P ⟨J,f16⟩;conv=>cbv
 refine BY (fun F=>?_) fun F=>?_
 ·exact absurd (List.length_eq_zero_iff.1 AA) N
 refine AB z (J9 h.red I G L) ?_;refine AB z (L3 h.red O M K) ?_;have w:A.length=2^u.length:=by rw[G,B9 I]
 rintro Q ⟨v,f34⟩;conv=>cbv
 obtain⟨k,f⟩:=xR (em u (0));obtain⟨m,j⟩:=xN k.length;refine AB (r:= .one (.own AJ k m)) z (UC h (AZ.of (by rw[v,w])) f j) ?_;exact AN ⟨⟨rfl,.inr (.inl ⟨_,_,AD,rfl,rfl,j,rfl,Dm (by rw[H,f]) (by rw[D,H,<-f])⟩),trivial⟩,trivial⟩
def YT (f:FuncId) (R:Nat) (u:AG):Prop:=∀{T:List LR} {A B C:LR} {zn s t:Nat} {x y:Re},T=tw u->A=em u x->B=em u y->El u s x->El u t y->s+t+EE u.length R<=60000000000000->C=em u (x*y)->zn=C.length->
 CF f [BF T,AQ A,AQ B] (.one (.own AJ C zn))
def tC {u:AG} {r:List Rat} (h:BT R (r::u)) (W:YT 245 R u) (hT:T=tw (r::u)) (hA:A=em (r::u) x) (hB:B=em (r::u) y) (hx:El (r::u) s x) (hy:El (r::u) t y) (aj:s+t+EE (r::u).length R<=60000000000000) (h0:x≠0) (h1:y≠0) (hC:C=em (r::u) (x*y)) (a7:zn=C.length):CF 245 [BF T,AQ A,AQ B] (.one (.own AJ C zn)):=by
 obtain⟨p,q,a5,H,G⟩:=El.parts h.red hx;obtain⟨a,b,a6,ha,hb⟩:=El.parts h.red hy;have ah:EE (r::u).length R=2*EE u.length R+R+2:=rfl;have I:=El.D9 h;have hR:=h.hR;have ai:=De h.red;refine AL Tryz.func245 fun E j=>?_
 refine .inr ?_;rintro ak ⟨ag,f16⟩;conv=>cbv
 refine BY (fun a8=>?_) fun a8=>?_
 ·exact absurd (List.length_eq_zero_iff.1 AA) (hT ▸ OC r u)
 refine AB j (J9 h.red hx.mem hA h0) ?_;refine AB j (J9 h.red hy.mem hB h1) ?_;obtain⟨al,f⟩:=xV (tw u);obtain⟨an,M⟩:=xR (BV r);refine AB j (Xq hT f M) ?_;obtain⟨ao,k⟩:=xR (em u p);obtain⟨aq,m⟩:=xR (em u q);refine AB j (R3 h.red H.mem G.mem a5 hA k m) ?_;obtain⟨ar,v⟩:=xR (em u a);obtain⟨au,w⟩:=xR (em u b);refine AB j (R3 h.red ha.mem hb.mem a6 hB v w) ?_;obtain⟨av,N⟩:=xR (em u (p*a));refine AB j (EW (W f k v H ha AA N rfl)) ?_;obtain⟨aw,O⟩:=xR (em u (q*b));refine AB j (EW (W f m w G hb AA O rfl)) ?_;obtain⟨ax,P⟩:=xR (em u (q*b*AU u r));refine AB j (EW (W f O (M.trans (F2 h.red)) (G.mul h.tail hb) I AA P rfl)) ?_;obtain⟨J,z⟩:=xR (em u (p*a+q*b*AU u r));obtain⟨af,D⟩:=xN J.length;refine AB j (ZO h.tail N P (H.mul h.tail ha) ((G.mul h.tail hb).mul h.tail I) AA AA z D) ?_
 obtain⟨ay,Q⟩:=xR (em u (p*b));refine AB j (EW (W f k w H hb AA Q rfl)) ?_;obtain⟨az,S⟩:=xR (em u (q*a));refine AB j (EW (W f m v G ha AA S rfl)) ?_;obtain⟨K,F⟩:=xR (em u (p*b+q*a));refine AB j (Qh h.tail Q S (H.mul h.tail hb) (G.mul h.tail ha) AA AA F) ?_;have ab:J.length=2^u.length:=by rw[z,B9 (EP (H.mul h.tail ha).mem ((G.mul h.tail hb).mul h.tail I).mem)]
 have ad:K.length=2^u.length:=by rw[F,B9 (EP (H.mul h.tail hb).mem (G.mul h.tail ha).mem)]
 have ae:=Ea h.tail.ht;refine .inl ⟨K,fun _=>⟨rfl,D,rfl,Ck (J.length+K.length) 64⟩,?_⟩;intro (V:LR) aa U;have a1:V=(J:LR)++(K:LR):=U.1;have a2:aa=List.length (α:=(el AJ)) V:=U.2;conv=>cbv
 have L:C=V:=by rw[hC,a1,z,F];exact Gp h.red (EP (H.mul h.tail ha).mem ((G.mul h.tail hb).mul h.tail I).mem) (EP (H.mul h.tail hb).mem (G.mul h.tail ha).mem) (by rw[a5,a6];clear W;grind)
 exact AN ⟨⟨rfl,.inr (.inl ⟨_,_,AD,rfl,rfl,a2,rfl,Dm (L) (by rw[a7,L])⟩),trivial⟩,trivial⟩
def mulC {u:AG} (h:BT R u):YT 245 R u:=by
 induction u with
 | nil=>
  intro T A B C zn s t x y z j k v w D m f;obtain⟨p,rfl⟩:=DZ.1 v.mem;obtain⟨q,rfl⟩:=DZ.1 w.mem;rw[E5] at j k;rw[<-Re.ofRat_mul,E5] at m;have H:=v.Cy AA;have I:=w.Cy AA;rw[D5] at H I;exact sw z j k (H _ List.mem_cons_self) (I _ List.mem_cons_self) m f
 | cons r u J=>
  intro T A B C zn s t x y z j k v w D m f
  by_cases F:x=0
  ·refine tD h (z ▸ OC r u) j k v.mem w.mem F ?_ f;rw[m,F];congr 1;grind
  by_cases G:y=0
  ·refine tE h (z ▸ OC r u) j k v.mem w.mem G F ?_ f;rw[m,G];congr 1;grind
  exact tC h (J h.tail) z j k v w D F G m f
def Pa {u:AG} (h:BT R u) (v:T=tw u) (j:A=em u x) (k:B=em u y) (w:El u s x) (z:El u t y) (f:s+t+EE u.length R<=60000000000000) (m:C=em u (x*y)):
 CF 245 [BF T,AQ A,AQ B] (AQ C):=EW (mulC h v j k w z f m rfl)
end
section
variable {A B C:LR} {R s t:Nat} {T:List LR} {p x y:Re} {q:Rat} {r:List Rat} {u:AG}
def eS {q:Re} (h:BT R (r::u)) (Q:T=tw (r::u)) (O:A=em (r::u) x) (S:El (r::u) s x) (N:x=p+q*rt u r) (K:In u p) (M:In u q) (hs:2*s+2*EE u.length R+R+1<=60000000000000) (P:C=em u (p*p-q*q*AU u r)):CF 316 [BF T,AQ A] (AQ C):=by
 have L:=Zp h.red K M (N ▸ S.bd);have J:El u s p:=⟨K,L.1⟩;have m:El u s q:=⟨M,L.2⟩;have I:=El.D9 h;have hR:=h.hR;refine AL Tryz.func316 fun E H=>?_
 obtain⟨U,f⟩:=xV (tw u);obtain⟨V,v⟩:=xR (BV r);refine AB H (Xq Q f v) ?_;obtain⟨W,j⟩:=xR (em u p);obtain⟨a1,k⟩:=xR (em u q);refine AB H (R3 h.red J.mem m.mem N O j k) ?_;obtain⟨a2,w⟩:=xR (em u (p*p));refine AB H (Pa h.tail f j j J J AA w) ?_;obtain⟨a5,z⟩:=xR (em u (q*q));refine AB H (Pa h.tail f k k m m AA z) ?_;obtain⟨a6,D⟩:=xR (em u (q*q*AU u r));refine AB H (Pa h.tail f z (v.trans (F2 h.red)) (m.mul h.tail m) I AA D) ?_;obtain⟨a7,F⟩:=xR (em u (-(q*q*AU u r)));refine AB H (SZ h.tail D ((m.mul h.tail m).mul h.tail I) AA F) ?_;obtain⟨a8,G⟩:=xR (em u (p*p+ -(q*q*AU u r)));refine AB H (Qh h.tail w F (J.mul h.tail J) (((m.mul h.tail m).mul h.tail I).neg h.red.1) AA AA G) ?_;exact AO (by rw[P,G];congr 1)
def rO {p:Rat} (O:T=[]) (G:A=[rp p]) (N:B=[rp q]) (Q:Ch p) (D:p≠0) (F:q=1/p):CF 294 [BF T,AQ A] (.BI [(false,[AT B]),(false,[.bool true])]):=by
 refine AL Tryz.func294 fun E H=>?_
 rintro S ⟨z,f15⟩;refine Cw (fun j=>?_) fun j=>?_
 ·exact absurd (by rw[z,O];rfl) j
 obtain⟨K,L,I,J,FH⟩:=Ca (((1:Int):Rat));refine AB H (JR AA rfl FH) ?_;have M:A.length=1:=by rw[G];rfl
 refine BA 0 fun U h=>?_
 try conv=>cbv
 have P:=Ge G h;obtain⟨v,w,k,m,f⟩:=Ca q;refine AB H (lO FH P ⟨by decide +kernel,by decide +kernel⟩ Q D F f) ?_;refine⟨[((v,w),(k,m))],Cj,.inl ?_⟩;try conv=>cbv
 refine CN ?_;exact AN ⟨⟨rfl,.inl ⟨_,rfl,AS,congrArg _ (by rw[N,f.rp];rfl)⟩,trivial⟩,t2,trivial⟩
def YR (f:FuncId) (R:Nat) (u:AG):Prop:=∀{T:List LR} {A B:LR} {s:Nat} {x y:Re},T=tw u->A=em u x->El u s x->In u y->x*y=1->II u.length R s<=60000000000000->B=em u y->
 CF f [BF T,AQ A] (.BI [(false,[AT B]),(false,[.bool true])])
def zj (f:FuncId) (u:AG):Prop:=∀{T:List LR} {A:LR},T=tw u->A=em u 0->
 ∃l,CF f [BF T,AQ A] (.BI [(false,[AT l]),(false,[.bool false])])
def rS {q i:Re} (h:BT R (r::u)) (ih:YR 294 R u) (W:T=tw (r::u)) (hA:A=em (r::u) x) (hx:El (r::u) s x) (M:x=p+q*rt u r) (O:El u s p) (L:El u s q) (hi:In u i) (P:(p*p-q*q*AU u r)*i=1) (hy:y=p*i+ -(q*i)*rt u r) (hs:II (r::u).length R s<=60000000000000) (hB:B=em (r::u) y):CF 294 [BF T,AQ A] (.BI [(false,[AT B]),(false,[.bool true])]):=by
 have ad:II (r::u).length R s=s+EE u.length R+II u.length R (2*s+2*EE u.length R+R+1):=rfl;have hN:=El.norm h O.mem L.mem (M ▸ hx);have f:=hN.inv h.tail hi P;have a7:=GH u.length R (2*s+2*EE u.length R+R+1);refine AL Tryz.func294 fun E K=>?_
 rintro ae ⟨ab,f15⟩;refine BY (fun a1=>?_) fun a1=>?_
 ·exact absurd (List.length_eq_zero_iff.1 AA) (W ▸ OC r u)
 obtain⟨af,j⟩:=xV (tw u);obtain⟨ag,V⟩:=xR (BV r);refine AB K (Xq W j V) ?_;obtain⟨ah,F⟩:=xR (em u (p*p-q*q*AU u r));refine AB K (eS h W hA hx M O.mem L.mem AA F) ?_;obtain⟨ai,k⟩:=xR (em u i);refine AB K (ih j F hN hi P AA k) ?_;refine BG ?_;obtain⟨aj,G⟩:=xR (em u p);obtain⟨ak,H⟩:=xR (em u q);refine AB K (R3 h.red O.mem L.mem M hA G H) ?_;obtain⟨z,m⟩:=xR (em u (p*i));obtain⟨aa,v⟩:=xN z.length;refine AB K (mulC h.tail j G k O f AA m v) ?_;obtain⟨al,I⟩:=xR (em u (q*i));refine AB K (Pa h.tail j H k L f AA I) ?_;obtain⟨D,w⟩:=xR (em u (-(q*i)));refine AB K (SZ h.tail I (L.mul h.tail f) AA w) ?_;have a5:z.length=2^u.length:=by rw[m,B9 (O.mul h.tail f).mem]
 have a6:D.length=2^u.length:=by rw[w,B9 ((L.mul h.tail f).neg h.red.1).mem]
 have a8:=Ea h.tail.ht;refine .inl ⟨D,fun _=>⟨rfl,v,rfl,Ck (z.length+D.length) 64⟩,?_⟩;intro (N:LR) a2 J;have S:N=(z:LR)++(D:LR):=J.1;have U:a2=List.length (α:=(el AJ)) N:=J.2;conv=>cbv
 have Q:B=N:=by rw[hB,S,m,w];exact Gp h.red (O.mul h.tail f).mem ((L.mul h.tail f).neg h.red.1).mem hy
 exact AN ⟨⟨rfl,.inl ⟨_,rfl,AA,congrArg _ (by rw[Q,U,List.drop_zero,List.take_length])⟩,trivial⟩,t2,trivial⟩
def rN (h:BT R u):YR 294 R u:=by
 induction u with
 | nil=>
  intro T A B s x y G w m J f I z;obtain⟨p,rfl⟩:=DZ.1 m.mem;obtain⟨q,rfl⟩:=DZ.1 J;rw[E5] at w z;rw[<-Re.ofRat_mul] at f;have e:=Re.MS.1 f;have k:=m.Cy (by have:=GH 0 R s;have:II ([]:AG).length R s=II 0 R s:=rfl;omega);rw[D5] at k;exact rO G w z (k _ List.mem_cons_self) (by intro K;subst K;grind) (by grind)
 | cons r u D=>
  intro T A B s x y G w m J f I z;obtain⟨p,q,j,k,H⟩:=El.parts h.red m;have O:=De h.red;have L:=El.norm h k.mem H.mem (j ▸ m);have F:p*p-q*q*AU u r≠0:=eR h.red k.mem H.mem (by intro e;rw[<-j] at e;rw[e] at f;have N:(0:Re)<1:=Re.KR.2 (AD:(0:Rat)<1);grind);obtain⟨i,M,v⟩:=FV h.red.1 L.mem F;refine rS h (D h.tail) G w m j k H M v ?_ I z
  have:y=x*y*((p-q*rt u r)*i):=by
   have:x*y*((p-q*rt u r)*i)=y*((p*p-q*q*AU u r)*i):=by rw[j];clear D;grind
   rw[this,v];clear D;grind
  rw[f] at this
  clear D;grind
def Mr (h:BT R u) (z:T=tw u) (k:A=em u x) (m:B=em u y) (f:El u s x) (j:El u t y) (D:s<=60000000000000) (ht:t<=60000000000000) (w:C=em u (x+y)):CF 181 [BF T,AQ A,AQ B] (AQ C):=by
 refine AL Tryz.func181 fun E v=>?_
 refine AB (r:= .one (.bool true)) v (Vh z h.IF k (f.Cy AA) (by rw[f.len,List.length_reverse]) m (j.Cy AA) (by rw[j.len,List.length_reverse])) ?_;refine BG ?_;refine AB v (Qh h k m f j D ht w) ?_;exact AN ⟨t2,trivial⟩
def QN (h:BT R u) (D:T=tw u) (v:A=em u x) (w:B=em u y) (m:El u s x) (j:El u t y) (F:s<=60000000000000) (ht:t<=60000000000000) (z:C=em u (x-y)):CF 182 [BF T,AQ A,AQ B] (AQ C):=by
 refine AL Tryz.func182 fun E k=>?_
 refine AB (r:= .one (.bool true)) k (Vh D h.IF v (m.Cy AA) (by rw[m.len,List.length_reverse]) w (j.Cy AA) (by rw[j.len,List.length_reverse])) ?_;refine BG ?_;obtain⟨G,f⟩:=xR (em u (-y));refine AB k (SZ h w j ht f) ?_;refine AB (r:= .one (AT C)) k (Qh h v f m (j.neg h.red) F ht (by rw[z];congr 1)) ?_;exact AN ⟨t2,trivial⟩
def JP (h:BT R u) (z:T=tw u) (m:A=em u x) (v:B=em u y) (j:El u s x) (k:El u t y) (f:s+t+EE u.length R<=60000000000000) (D:C=em u (x*y)):CF 185 [BF T,AQ A,AQ B] (AQ C):=by
 refine AL Tryz.func185 fun E w=>?_
 refine AB (r:= .one (.bool true)) w (Vh z h.IF m (j.Cy AA) (by rw[j.len,List.length_reverse]) v (k.Cy AA) (by rw[k.len,List.length_reverse])) ?_;refine BG ?_;refine AB w (Pa h z m v j k f D) ?_;exact AN ⟨t2,trivial⟩
def YW (h:BT R u) (v:T=tw u) (j:A=em u x) (f:El u s x) (w:s<=60000000000000) (m:C=em u (-x)):CF 153 [BF T,AQ A] (AQ C):=by
 refine AL Tryz.func153 fun E k=>?_
 refine AB (r:= .one (.bool true)) k (Jv v h.IF j (f.Cy AA) (by rw[f.len,List.length_reverse];exact (decide_eq_true rfl).symm)) ?_;refine BG ?_;refine AB k (SZ h j f w m) ?_;exact AN ⟨t2,trivial⟩
def QH (h:BT R u) (v:T=tw u) (k:A=em u x) (f:El u s x) (F:In u y) (j:x*y=1) (D:II u.length R s<=60000000000000) (w:C=em u y):CF 252 [BF T,AQ A] (.BI [(false,[AT C]),(false,[.int .i64 0])]):=by
 have z:=GH u.length R s;refine AL Tryz.func252 fun E m=>?_
 refine AB (r:= .one (.bool true)) m (Jv v h.IF k (f.Cy AA) (by rw[f.len,List.length_reverse];exact (decide_eq_true rfl).symm)) ?_;refine BG ?_;refine AB m (rN h v k f F j D w) ?_;refine BG ?_;exact AN ⟨t2,t2,trivial⟩
def UN {q:Re} (h:BT R (r::u)) (f:T=tw (r::u)) (z:A=em (r::u) x) (m:El (r::u) s x) (v:x=p+q*rt u r) (j:In u p) (k:In u q) (H:2*s+2*EE u.length R+R+1<=60000000000000) (G:C=em u (p*p-q*q*AU u r)):CF 345 [BF T,AQ A] (AQ C):=by
 refine AL Tryz.func345 fun E D=>?_
 refine AB (r:= .one (.bool true)) D (Jv f h.IF z (m.Cy AA) (by rw[m.len,List.length_reverse];exact (decide_eq_true rfl).symm)) ?_;refine BG ?_;rintro I ⟨F,f11⟩;refine BY (fun w=>?_) fun w=>?_
 ·exact absurd (List.length_eq_zero_iff.1 AA) (f ▸ OC r u)
 refine AB D (eS h f z m v j k H G) ?_;exact AN ⟨t2,trivial⟩
def we {n:Nat} (h:0<n):(List.replicate n (rp 0)).set 0 (rp q)=rp q::List.replicate (n-1) (rp 0):=by
 cases n with
 | zero=>omega
 | succ n=>rfl
def bF (h:BE u):em u (Re.ofRat q)=(em u 0).set 0 (rp q):=by
 rw[em,JY q h,VQ h,BV,BV,List.map_cons,List.map_replicate,List.map_replicate,we (D7 _)]
def bG (h:BE (r::u)):em (r::u) (rt u r)=(em (r::u) 0).set (2^u.length) (rp 1):=by
 have e:rt u r=0+1*rt u r:=by grind
 rw[Gp h (C0 u) (MJ u) e,Gp (x:=0) h (C0 u) (C0 u) (by grind),List.set_append_right _ _ (by rw[B9 (C0 u)];omega),B9 (C0 u),Nat.sub_self]
 congr 1
 exact bF (q:=1) h.1
def Ls {b1 b2:Bool} {l1 l2:List UInt32} (h:BT R u) (K:T=tw u) (H:Bn q b1 l1 b2 l2) (S:Ch q) (O:C=em u (Re.ofRat q)):CF 278 [BF T,.agg (CP b1 l1 b2 l2)] (AQ C):=by
 refine AL Tryz.func278 fun E F=>?_
 refine AB F (XQ K h.IF rfl) ?_;refine BG ?_;have Q:=H.small S;refine AB F (Ya (OE.2 ⟨q,H⟩).symm AA AA) ?_;refine BG ?_;have G:T.length=u.length:=by rw[K,Cq]
 have w:=h.ht;refine AM ?_;rintro U ⟨D,f15⟩ V w;obtain⟨j,f⟩:=xR (em u (0));obtain⟨N,m⟩:=xN j.length;refine AB F (UC h (Gf w (D.trans (congrArg _ G))) f m) ?_;have M:j.length=2^u.length:=by rw[f,B9 (C0 u)]
 have P:=D7 u.length;refine AM ?_;intro I L;refine⟨((b1,l1),(b2,l2)),fun _=>⟨by show _<List.length (α:=(el AJ)) j;(first | omega | (simp;omega)),DB⟩,?_⟩;intro (v:LR) (k:v=List.set (α:=(el AJ)) j I (((b1,l1),(b2,l2))));have J:v.length=j.length:=by rw[k,List.length_set]
 conv=>cbv
 have z:C=v:=by rw[O,bF h.red,k,f,H.rp];congr 1;omega
 exact AN ⟨⟨rfl,.inl ⟨_,rfl,AA,congrArg _ (by rw[z,List.drop_zero,List.take_of_length_le AA])⟩,trivial⟩,trivial⟩
def lW {k:Int} (h:BT R (r::u)) (V:T=tw (r::u)) (hk:AZ k u.length) (hC:C=em (r::u) (rt u r)):CF 320 [BF T,AH k] (AQ C):=by
 have ek:=hk.eq;have Q:T.length=u.length+1:=by rw[V,Cq];rfl
 have a8:=h.ht;have W:(r::u).length=u.length+1:=rfl;refine AL Tryz.func320 fun E P=>?_
 refine AB P (XQ V h.IF rfl) ?_;refine BG ?_;refine Dk (fun K=>?_) fun K=>?_
 ·exact absurd K AA
 intro ad I;have a7:=I.eq;have f16:=I.le;refine OH (fun L=>?_) fun L=>?_
 ·exact absurd L AA
 rintro ae ⟨M,f20⟩ af N;obtain⟨j,f⟩:=xR (em (r::u) (0));obtain⟨a6,G⟩:=xN j.length;refine AB P (UC h (Gf N (M.trans (congrArg _ Q))) f G) ?_;intro ag O;obtain⟨D,F,w,z,v⟩:=Ca (((1:Int):Rat));refine AB P (JR AA rfl v) ?_;have a2:j.length=2^(r::u).length:=by rw[f,B9 (C0 _)]
 have ab:=D7 u.length;have aa:=Cc r u;have a5:=(Gf O ek).eq;refine AM ?_;intro S a1;refine⟨((D,F),(w,z)),fun _=>⟨by show _<List.length (α:=(el AJ)) j;(first | omega | (simp;omega)),DB⟩,?_⟩;intro (H:LR) (m:H=List.set (α:=(el AJ)) j S (((D,F),(w,z))));have U:H.length=j.length:=by rw[m,List.length_set]
 conv=>cbv
 refine g2 rfl ?_;have J:C=H:=by rw[hC,bG h.red,m,f];congr 1 <;> first | omega | exact v.rp
 exact AN ⟨⟨rfl,.inl ⟨_,rfl,AA,congrArg _ (by rw[J,List.drop_zero,List.take_of_length_le AA])⟩,trivial⟩,trivial⟩
end
section
variable {a b:Nat} {b1 b2 c c1 c2 d1 d2:Bool} {k1 k2 l l' l1 l2 m1 m2:List UInt32} {r:Rat} {x y:Int}
def SW (p q:Rat):(p*q).num=(p.num/((Nat.gcd p.num.natAbs q.den:Nat):Int))*(q.num/((Nat.gcd q.num.natAbs p.den:Nat):Int)):=by
 show (Rat.mul p q).num=_
 unfold Rat.mul
 dsimp only
 rw[Int.divExact_eq_ediv,Int.divExact_eq_ediv]
def SV (p q:Rat):((p*q).den:Int)=((p.den:Int)/((Nat.gcd q.num.natAbs p.den:Nat):Int))*((q.den:Int)/((Nat.gcd p.num.natAbs q.den:Nat):Int)):=by
 have:(p*q).den=(p.den/Nat.gcd q.num.natAbs p.den)*(q.den/Nat.gcd p.num.natAbs q.den):=by
  show (Rat.mul p q).den=_
  unfold Rat.mul
  dsimp only
  rw[Nat.divExact_eq_div,Nat.divExact_eq_div]
 rw[this,Int.natCast_mul,Int.natCast_ediv,Int.natCast_ediv]
def ZL (p q:Rat) (h:Nat.gcd p.den q.den=1):(p+q).num=p.num*q.den+q.num*p.den/\((p+q).den:Int)=(p.den:Int)*q.den:=by
 have:(p+q)=Rat.add p q:=rfl;rw[this];unfold Rat.add
 dsimp only
 rw[dif_pos h];exact⟨rfl,by rw[Int.natCast_mul]⟩
def ZM (p q:Rat) {g h:Nat} {N:Int} (k:g=Nat.gcd p.den q.den) (w:g≠1) (F:x=(p.den:Int)/g) (G:y=(q.den:Int)/g) (z:N=p.num*y+q.num*x) (v:h=Nat.gcd N.natAbs g):
  (p+q).num=N/h/\((p+q).den:Int)=x*((q.den:Int)/h):=by
 have e:(p+q)=Rat.add p q:=rfl;have f:x=((p.den/g:Nat):Int):=by rw[F,Int.natCast_ediv]
 have m:y=((q.den/g:Nat):Int):=by rw[G,Int.natCast_ediv]
 have j:p.num*((q.den/Nat.gcd p.den q.den:Nat):Int)+q.num*((p.den/Nat.gcd p.den q.den:Nat):Int)=N:=by rw[z,f,m,k]
 have D:h∣q.den:=by rw[v];exact Nat.dvd_trans (Nat.gcd_dvd_right _ _) (by rw[k];exact Nat.gcd_dvd_right _ _)
 subst k;rw[e];unfold Rat.add
 dsimp only
 rw[dif_neg w,Rat.maybeNormalize_eq]
 dsimp only
 rw[Int.divExact_eq_ediv,j,<-v];refine⟨rfl,?_⟩;rw[f,Nat.mul_div_assoc _ D,Int.natCast_mul,Int.natCast_ediv (q.den)]
def GZ {a:Int} (hb:b≠0):a=a/((Nat.gcd a.natAbs b:Nat):Int)*((Nat.gcd a.natAbs b:Nat):Int)/\(b:Int)=(b:Int)/((Nat.gcd a.natAbs b:Nat):Int)*((Nat.gcd a.natAbs b:Nat):Int):=by
 exact⟨(Int.ediv_mul_cancel (Int.ofNat_dvd_left.2 (Nat.gcd_dvd_left _ _))).symm,(Int.ediv_mul_cancel (Int.natCast_dvd_natCast.2 (Nat.gcd_dvd_right _ _))).symm⟩
def GM (hb:b≠0):((Nat.gcd a b:Nat):Int)≠0:=by
 have:=Nat.gcd_pos_of_pos_right a (n:=b) AA;omega
def Hr {q:Int} {b b':Bool} (j:BQ x b l) (f:BQ q b' l') (k:y≠0) (h:x=q*y):l'.length<=l.length:=by
 rw[j.Bx,f.Bx];exact FW (by rw[h,Int.natAbs_mul];exact Nat.le_mul_of_pos_right _ AA)
def IW {x:Int} {f:Bool} (hb:b≠0) (h:BQ (b:Int) c l) (h':BQ ((Nat.gcd a b:Nat):Int) f l'):l'.length<=l.length:=by
 rw[h.Bx,h'.Bx,Int.natAbs_natCast,Int.natAbs_natCast];exact FW (Nat.le_of_dvd AA (Nat.gcd_dvd_right _ _))
def Kq {b:Bool} (j:BQ x b l) (m:c=decide (x=1)):CF 115 [.agg (Bu b l)] (.one (.bool c)):=by
 refine AL Tryz.func115 fun E I=>?_
 rintro J ⟨H,f5⟩;refine Cw (fun z=>?_) fun z=>?_
 ·exact AO (by rw[m];exact (fD j AA).symm)
 refine BA 0 fun G f=>?_
 refine Af ?_;intro D h;have w:=h.eq;have f11:=h.lt;refine Cw (fun v=>?_) fun v=>?_
 ·exact AO (by rw[m];cases b with | true=>exact (W9 j rfl).symm | false=>rw[<-XB j rfl AA f];simp only[decide_eq_false_iff_not];omega)
 intro F k;exact AO (by rw[m,k];cases b with | true=>exact (W9 j rfl).symm | false=>rw[<-XB j rfl AA f];simp;omega)
def Fx {q:Int} {b3:Bool} {l3:List UInt32} (m:BQ x b1 l1) (v:BQ y b2 l2) (h:y≠0) (f:x=q*y) (k:BQ q b3 l3) (s1:l1.length<=17592186043000) (s2:l2.length<=17592186043000):CF 216 [.agg (Bu b1 l1),.agg (Bu b2 l2)] (.agg (Bu b3 l3)):=by
 refine AL Tryz.func216 fun E j=>?_
 refine AB j (ly m v h f k s1 s2) ?_;exact AN ⟨t3,trivial⟩
def Ff {q:Rat} (k: -9223372036854775808<=x/\x<9223372036854775808) (f:q=(x:Rat)) (h:Bn q c1 m1 c2 m2):CF 19 [AH x] (.agg (CP c1 m1 c2 m2)):=by
 refine AL Tryz.func19 fun E j=>?_
 obtain⟨m,w,FU⟩:=BO (x);refine AB j (OX k FU) ?_;obtain⟨v,z,GQ⟩:=BO (1);refine AB j (OX AA GQ) ?_;exact AN ⟨⟨rfl,congrArg _ ((FU.uniq h.num (by rw[f];rfl)).1.symm),congrArg _ ((FU.uniq h.num (by rw[f];rfl)).2.symm),congrArg _ ((GQ.uniq h.den (by rw[f];rfl)).1.symm),congrArg _ ((GQ.uniq h.den (by rw[f];rfl)).2.symm),trivial⟩,trivial⟩
def QW {q:Rat} {c:Int} (k:Bn q b1 l1 b2 l2) (j:c=Ef q):CF 172 [.agg (CP b1 l1 b2 l2)] (AH c):=by
 refine AL Tryz.func172 fun E h=>?_
 obtain⟨m,f⟩:=xI (DI q.num);refine AB h (Ly k.num f) ?_;exact AO (by rw[j,f];rfl)
def mO {q p:Rat} (j:Bn q b1 l1 b2 l2) (f:p= -q) (h:Bn p c1 m1 c2 m2):CF 118 [.agg (CP b1 l1 b2 l2)] (.agg (CP c1 m1 c2 m2)):=by
 refine AL Tryz.func118 fun E k=>?_
 obtain⟨m,v,GQ⟩:=BO (-q.num);refine AB k (OZ j.num GQ) ?_;exact AN ⟨⟨rfl,congrArg _ ((GQ.uniq h.num (by rw[f];rfl)).1.symm),congrArg _ ((GQ.uniq h.num (by rw[f];rfl)).2.symm),congrArg _ ((j.den.uniq h.den (by rw[f];rfl)).1.symm),congrArg _ ((j.den.uniq h.den (by rw[f];rfl)).2.symm),trivial⟩,trivial⟩
def mM {p q:Rat} {c:Int} (h:Bn p b1 l1 b2 l2) (j:Bn q c1 m1 c2 m2) (m:Ch p) (ht:Ch q) (H:c=IT p q):CF 304 [.agg (CP b1 l1 b2 l2),.agg (CP c1 m1 c2 m2)] (AH c):=by
 refine AL Tryz.func304 fun E z=>?_
 obtain⟨F,G,EI⟩:=BO (p.num*q.den);refine AB (r:= .agg [.bool F,.sl .u32 G]) z (E1 h.num j.den EI (by have:=h.small m;have:=j.small ht;omega) (by have:=h.small m;have:=j.small ht;omega)) ?_;obtain⟨v,w,f⟩:=BO (q.num*p.den);refine AB (r:= .agg [.bool v,.sl .u32 w]) z (E1 j.num h.den f (by have:=h.small m;have:=j.small ht;omega) (by have:=h.small m;have:=j.small ht;omega)) ?_;obtain⟨D,k⟩:=xI (CO (p.num*q.den) (q.num*p.den));refine AB (r:= .one (.int .i64 D)) z (lx EI f k (by have:=h.small m;have:=j.small ht;have:=h.num.Ek j.den EI rfl;omega) (by have:=h.small m;have:=j.small ht;have:=j.num.Ek h.den f rfl;omega)) ?_;exact AO (by rw[H,k,aM])
def QV {p q:Rat} (w:Bn p b1 l1 b2 l2) (K:Bn q c1 m1 c2 m2) (hs:Ch p) (ht:Ch q) (N:r=p*q) (L:Bn r d1 k1 d2 k2):CF 167 [.agg (CP b1 l1 b2 l2),.agg (CP c1 m1 c2 m2)] (.agg (CP d1 k1 d2 k2)):=by
 have aw:=w.small hs;have ax:=K.small ht;have f:=p.den_nz;have h:=q.den_nz;refine AL Tryz.func167 fun E J=>?_
 rintro ay ⟨au,f10⟩;refine BY (fun an=>?_) fun an=>?_
 ·obtain⟨S,a6,P,Q,j⟩:=Ca (r);refine AB (r:= .agg [.bool S,.sl .u32 a6,.bool P,.sl .u32 Q]) J (Ff (x:=0) AA (by rw[N];first | (rw[Rat.num_eq_zero.1 (w.num.G9.1 AA),Rat.zero_mul];rfl) | (rw[Rat.num_eq_zero.1 (K.num.G9.1 AA),Rat.mul_zero];rfl)) j) ?_;exact AN ⟨⟨rfl,congrArg _ ((j.uniq L rfl).1.1.symm),congrArg _ ((j.uniq L rfl).1.2.symm),congrArg _ ((j.uniq L rfl).2.1.symm),congrArg _ ((j.uniq L rfl).2.2.symm),trivial⟩,trivial⟩
 intro az af;have av:=af.eq;have f16:=af.le;refine BY (fun ao=>?_) fun ao=>?_
 ·obtain⟨S,a6,P,Q,j⟩:=Ca (r);refine AB (r:= .agg [.bool S,.sl .u32 a6,.bool P,.sl .u32 Q]) J (Ff (x:=0) AA (by rw[N];first | (rw[Rat.num_eq_zero.1 (w.num.G9.1 AA),Rat.zero_mul];rfl) | (rw[Rat.num_eq_zero.1 (K.num.G9.1 AA),Rat.mul_zero];rfl)) j) ?_;exact AN ⟨⟨rfl,congrArg _ ((j.uniq L rfl).1.1.symm),congrArg _ ((j.uniq L rfl).1.2.symm),congrArg _ ((j.uniq L rfl).2.1.symm),congrArg _ ((j.uniq L rfl).2.2.symm),trivial⟩,trivial⟩
 obtain⟨ak,v⟩:=xB (decide ((p.den:Int)=1));refine AB J (Kq w.den v) ?_;cases ak <;> conv=>cbv
 ·obtain⟨ag,ai,k⟩:=BO (((Nat.gcd p.num.natAbs q.den:Nat):Int));refine AB J (Iu w.num K.den k AA AA) ?_;obtain⟨ah,aj,m⟩:=BO (((Nat.gcd q.num.natAbs p.den:Nat):Int));refine AB J (Iu K.num w.den m AA AA) ?_;obtain⟨U,a7,z⟩:=BO (p.num/((Nat.gcd p.num.natAbs q.den:Nat):Int));refine AB (r:= .agg [.bool U,.sl .u32 a7]) J (Fx w.num k (GM h) (GZ h).1 z AA (by have:=IW (x:=0) h K.den k;omega)) ?_;obtain⟨V,a8,D⟩:=BO (q.num/((Nat.gcd q.num.natAbs p.den:Nat):Int));refine AB (r:= .agg [.bool V,.sl .u32 a8]) J (Fx K.num m (GM f) (GZ f).1 D AA (by have:=IW (x:=0) f w.den m;omega)) ?_;obtain⟨W,aa,F⟩:=BO ((p.num/((Nat.gcd p.num.natAbs q.den:Nat):Int))*(q.num/((Nat.gcd q.num.natAbs p.den:Nat):Int)))
  refine AB (r:= .agg [.bool W,.sl .u32 aa]) J (E1 z D F (by have:=Hr w.num z (GM h) (GZ h).1;omega) (by have:=Hr K.num D (GM f) (GZ f).1;omega)) ?_;obtain⟨a1,ab,G⟩:=BO ((p.den:Int)/((Nat.gcd q.num.natAbs p.den:Nat):Int));refine AB (r:= .agg [.bool a1,.sl .u32 ab]) J (Fx w.den m (GM f) (GZ f).2 G AA (by have:=IW (x:=0) f w.den m;omega)) ?_;obtain⟨a2,ad,H⟩:=BO ((q.den:Int)/((Nat.gcd p.num.natAbs q.den:Nat):Int));refine AB (r:= .agg [.bool a2,.sl .u32 ad]) J (Fx K.den k (GM h) (GZ h).2 H AA (by have:=IW (x:=0) h K.den k;omega)) ?_;obtain⟨a5,ae,I⟩:=BO (((p.den:Int)/((Nat.gcd q.num.natAbs p.den:Nat):Int))*((q.den:Int)/((Nat.gcd p.num.natAbs q.den:Nat):Int)));refine AB (r:= .agg [.bool a5,.sl .u32 ae]) J (E1 G H I (by have:=Hr w.den G (GM f) (GZ f).2;omega) (by have:=Hr K.den H (GM h) (GZ h).2;omega)) ?_
  exact AN ⟨⟨rfl,congrArg _ ((F.uniq L.num (by rw[N,SW])).1.symm),congrArg _ ((F.uniq L.num (by rw[N,SW])).2.symm),congrArg _ ((I.uniq L.den (by rw[N,SV])).1.symm),congrArg _ ((I.uniq L.den (by rw[N,SV])).2.symm),trivial⟩,trivial⟩
 obtain⟨al,M⟩:=xB (decide ((q.den:Int)=1));refine AB J (Kq K.den M) ?_;cases al <;> conv=>cbv
 ·obtain⟨ag,ai,k⟩:=BO (((Nat.gcd p.num.natAbs q.den:Nat):Int));refine AB J (Iu w.num K.den k AA AA) ?_;obtain⟨ah,aj,m⟩:=BO (((Nat.gcd q.num.natAbs p.den:Nat):Int));refine AB J (Iu K.num w.den m AA AA) ?_;obtain⟨U,a7,z⟩:=BO (p.num/((Nat.gcd p.num.natAbs q.den:Nat):Int));refine AB (r:= .agg [.bool U,.sl .u32 a7]) J (Fx w.num k (GM h) (GZ h).1 z AA (by have:=IW (x:=0) h K.den k;omega)) ?_;obtain⟨V,a8,D⟩:=BO (q.num/((Nat.gcd q.num.natAbs p.den:Nat):Int));refine AB (r:= .agg [.bool V,.sl .u32 a8]) J (Fx K.num m (GM f) (GZ f).1 D AA (by have:=IW (x:=0) f w.den m;omega)) ?_;obtain⟨W,aa,F⟩:=BO ((p.num/((Nat.gcd p.num.natAbs q.den:Nat):Int))*(q.num/((Nat.gcd q.num.natAbs p.den:Nat):Int)))
  refine AB (r:= .agg [.bool W,.sl .u32 aa]) J (E1 z D F (by have:=Hr w.num z (GM h) (GZ h).1;omega) (by have:=Hr K.num D (GM f) (GZ f).1;omega)) ?_;obtain⟨a1,ab,G⟩:=BO ((p.den:Int)/((Nat.gcd q.num.natAbs p.den:Nat):Int));refine AB (r:= .agg [.bool a1,.sl .u32 ab]) J (Fx w.den m (GM f) (GZ f).2 G AA (by have:=IW (x:=0) f w.den m;omega)) ?_;obtain⟨a2,ad,H⟩:=BO ((q.den:Int)/((Nat.gcd p.num.natAbs q.den:Nat):Int));refine AB (r:= .agg [.bool a2,.sl .u32 ad]) J (Fx K.den k (GM h) (GZ h).2 H AA (by have:=IW (x:=0) h K.den k;omega)) ?_;obtain⟨a5,ae,I⟩:=BO (((p.den:Int)/((Nat.gcd q.num.natAbs p.den:Nat):Int))*((q.den:Int)/((Nat.gcd p.num.natAbs q.den:Nat):Int)));refine AB (r:= .agg [.bool a5,.sl .u32 ae]) J (E1 G H I (by have:=Hr w.den G (GM f) (GZ f).2;omega) (by have:=Hr K.den H (GM h) (GZ h).2;omega)) ?_
  exact AN ⟨⟨rfl,congrArg _ ((F.uniq L.num (by rw[N,SW])).1.symm),congrArg _ ((F.uniq L.num (by rw[N,SW])).2.symm),congrArg _ ((I.uniq L.den (by rw[N,SV])).1.symm),congrArg _ ((I.uniq L.den (by rw[N,SV])).2.symm),trivial⟩,trivial⟩
 obtain⟨aq,ar,O⟩:=BO (p.num*q.num);refine AB J (E1 w.num K.num O AA AA) ?_;exact AN ⟨⟨rfl,congrArg _ ((O.uniq L.num (by rw[N];exact (mul_ones (of_decide_eq_true v.symm) (of_decide_eq_true M.symm)).1.symm)).1.symm),congrArg _ ((O.uniq L.num (by rw[N];exact (mul_ones (of_decide_eq_true v.symm) (of_decide_eq_true M.symm)).1.symm)).2.symm),congrArg _ ((w.den.uniq L.den (by rw[N,(mul_ones (of_decide_eq_true v.symm) (of_decide_eq_true M.symm)).2];exact of_decide_eq_true v.symm)).1.symm),congrArg _ ((w.den.uniq L.den (by rw[N,(mul_ones (of_decide_eq_true v.symm) (of_decide_eq_true M.symm)).2];exact of_decide_eq_true v.symm)).2.symm),trivial⟩,trivial⟩
def Ys {p q:Rat} (v:Bn p b1 l1 b2 l2) (j:Bn q c1 m1 c2 m2) (hs:Ch p) (ht:Ch q) (S:r=p+q) (H:Bn r d1 k1 d2 k2):CF 159 [.agg (CP b1 l1 b2 l2),.agg (CP c1 m1 c2 m2)] (.agg (CP d1 k1 d2 k2)):=by
 have b3:=v.small hs;have b4:=j.small ht;have b0:=p.den_nz;have ah:=q.den_nz;have W:((Nat.gcd p.den q.den:Nat):Int)≠0:=GM ah;obtain⟨x,ai⟩:=xI ((p.den:Int)/((Nat.gcd p.den q.den:Nat):Int));obtain⟨y,aj⟩:=xI ((q.den:Int)/((Nat.gcd p.den q.den:Nat):Int));have ad:(p.den:Int)=x*((Nat.gcd p.den q.den:Nat):Int):=by rw[ai];exact (Int.ediv_mul_cancel (Int.natCast_dvd_natCast.2 (Nat.gcd_dvd_left _ _))).symm
 have ae:(q.den:Int)=y*((Nat.gcd p.den q.den:Nat):Int):=by rw[aj];exact (Int.ediv_mul_cancel (Int.natCast_dvd_natCast.2 (Nat.gcd_dvd_right _ _))).symm
 refine IN Tryz.func159 fun E m=>?_
 refine Af ?_;rintro b7 ⟨aY,f14⟩;refine NI ?_ ?_ <;> intro b5 <;> conv=>cbv
 ·have e0:p=0:=Rat.num_eq_zero.1 (v.num.G9.1 AA);have e1:r=q:=by rw[S,e0,Rat.zero_add]
  exact AN ⟨⟨rfl,congrArg _ ((j.num.uniq H.num (by rw[e1])).1.symm),congrArg _ ((j.num.uniq H.num (by rw[e1])).2.symm),congrArg _ ((j.den.uniq H.den (by rw[e1])).1.symm),congrArg _ ((j.den.uniq H.den (by rw[e1])).2.symm),trivial⟩,trivial⟩
 rintro b8 ⟨aZ,f20⟩;conv=>cbv
 refine NI ?_ ?_ <;> intro b6 <;> conv=>cbv
 ·have e0:q=0:=Rat.num_eq_zero.1 (j.num.G9.1 AA);have e1:r=p:=by rw[S,e0,Rat.add_zero]
  exact AN ⟨⟨rfl,congrArg _ ((v.num.uniq H.num (by rw[e1])).1.symm),congrArg _ ((v.num.uniq H.num (by rw[e1])).2.symm),congrArg _ ((v.den.uniq H.den (by rw[e1])).1.symm),congrArg _ ((v.den.uniq H.den (by rw[e1])).2.symm),trivial⟩,trivial⟩
 obtain⟨aU,I⟩:=xB (decide ((p.den:Int)=1));refine Be m (Kq v.den I) ?_;conv=>cbv
 cases aU <;> conv=>cbv
 ·obtain⟨aw,aI,f⟩:=BO (((Nat.gcd p.den q.den:Nat):Int));refine Be m (Iu v.den j.den f AA AA) ?_;conv=>cbv
  have ak:=IW (x:=0) ah j.den f;obtain⟨af,J⟩:=xB (decide (((Nat.gcd p.den q.den:Nat):Int)=1));refine Be m (Kq f J) ?_;conv=>cbv
  cases af <;> conv=>cbv
  ·obtain⟨aA,aM,h⟩:=BO (x);refine Be m (Fx v.den f W ad h AA AA) ?_;conv=>cbv
   have al:=Hr v.den h W ad;obtain⟨aB,aN,w⟩:=BO (y);refine Be m (Fx j.den f W ae w AA AA) ?_;conv=>cbv
   have an:=Hr j.den w W ae;refine g2 rfl ?_;obtain⟨aC,aO,z⟩:=BO (p.num*y);refine Be m (E1 v.num w z AA AA) ?_;conv=>cbv
   have ao:=v.num.Ek w z rfl;obtain⟨aD,aP,D⟩:=BO (q.num*x);refine Be m (E1 j.num h D AA AA) ?_;conv=>cbv
   have aq:=j.num.Ek h D rfl;obtain⟨aE,aQ,F⟩:=BO ((p.num*y+q.num*x));refine Be m (Mw z D F AA AA) ?_;conv=>cbv
   have ar:=z.Qf D F rfl (k:=8000000000000) AA AA;refine g2 rfl ?_;obtain⟨a8,ab,G⟩:=BO (((Nat.gcd (p.num*y+q.num*x).natAbs (Nat.gcd p.den q.den):Nat):Int));refine Be (r:= .agg [.bool a8,.sl .u32 ab]) m (Iu F f (by rw[Int.natAbs_natCast];exact G) AA AA) ?_;try conv=>cbv
   have a1:Nat.gcd p.den q.den≠0:=AA
   have au:=IW (x:=0) a1 f G;have ag:(p.num*y+q.num*x)=(p.num*y+q.num*x)/((Nat.gcd (p.num*y+q.num*x).natAbs (Nat.gcd p.den q.den):Nat):Int)*((Nat.gcd (p.num*y+q.num*x).natAbs (Nat.gcd p.den q.den):Nat):Int):=(GZ a1).1;have a2:=GM (a:=(p.num*y+q.num*x).natAbs) a1;have a5:(q.den:Int)=(q.den:Int)/((Nat.gcd (p.num*y+q.num*x).natAbs (Nat.gcd p.den q.den):Nat):Int)*((Nat.gcd (p.num*y+q.num*x).natAbs (Nat.gcd p.den q.den):Nat):Int):=(Int.ediv_mul_cancel (Int.natCast_dvd_natCast.2 (Nat.dvd_trans (Nat.gcd_dvd_right _ _) (Nat.gcd_dvd_right _ _)))).symm;obtain⟨aF,aR,O⟩:=BO ((p.num*y+q.num*x)/((Nat.gcd (p.num*y+q.num*x).natAbs (Nat.gcd p.den q.den):Nat):Int));refine Be m (Fx F G a2 ag O AA AA) ?_;conv=>cbv
   obtain⟨aG,aS,P⟩:=BO ((q.den:Int)/((Nat.gcd (p.num*y+q.num*x).natAbs (Nat.gcd p.den q.den):Nat):Int));refine Be m (Fx j.den G a2 a5 P AA AA) ?_;conv=>cbv
   have av:=Hr j.den P a2 a5;obtain⟨aH,aT,Q⟩:=BO (x*((q.den:Int)/((Nat.gcd (p.num*y+q.num*x).natAbs (Nat.gcd p.den q.den):Nat):Int)));refine Be m (E1 h P Q AA AA) ?_;conv=>cbv
   refine g2 rfl ?_;have U:=ZM p q rfl (fun e=>by have:=of_decide_eq_false J.symm;omega) ai aj rfl rfl;exact AN ⟨⟨rfl,congrArg _ ((O.uniq H.num (by rw[S];exact U.1.symm)).1.symm),congrArg _ ((O.uniq H.num (by rw[S];exact U.1.symm)).2.symm),congrArg _ ((Q.uniq H.den (by rw[S];exact U.2.symm)).1.symm),congrArg _ ((Q.uniq H.den (by rw[S];exact U.2.symm)).2.symm),trivial⟩,trivial⟩
  obtain⟨ax,aJ,K⟩:=BO (p.num*q.den);refine Be m (E1 v.num j.den K AA AA) ?_;conv=>cbv
  obtain⟨ay,aK,L⟩:=BO (q.num*p.den);refine Be m (E1 j.num v.den L AA AA) ?_;conv=>cbv
  obtain⟨a7,aa,M⟩:=BO (p.num*q.den+q.num*p.den);refine Be (r:= .agg [.bool a7,.sl .u32 aa]) m (Mw K L M (by have:=v.num.Ek j.den K rfl;omega) (by have:=j.num.Ek v.den L rfl;omega)) ?_;try conv=>cbv
  refine g2 rfl ?_;obtain⟨az,aL,N⟩:=BO ((p.den:Int)*q.den);refine Be m (E1 v.den j.den N AA AA) ?_;conv=>cbv
  refine g2 rfl ?_;have U:=ZL p q (by have:=of_decide_eq_true J.symm;omega);exact AN ⟨⟨rfl,congrArg _ ((M.uniq H.num (by rw[S];exact U.1.symm)).1.symm),congrArg _ ((M.uniq H.num (by rw[S];exact U.1.symm)).2.symm),congrArg _ ((N.uniq H.den (by rw[S];exact U.2.symm)).1.symm),congrArg _ ((N.uniq H.den (by rw[S];exact U.2.symm)).2.symm),trivial⟩,trivial⟩
 obtain⟨aV,V⟩:=xB (decide ((q.den:Int)=1));refine Be m (Kq j.den V) ?_;conv=>cbv
 cases aV <;> conv=>cbv
 ·obtain⟨aw,aI,f⟩:=BO (((Nat.gcd p.den q.den:Nat):Int));refine Be m (Iu v.den j.den f AA AA) ?_;conv=>cbv
  have ak:=IW (x:=0) ah j.den f;obtain⟨af,J⟩:=xB (decide (((Nat.gcd p.den q.den:Nat):Int)=1));refine Be m (Kq f J) ?_;conv=>cbv
  cases af <;> conv=>cbv
  ·obtain⟨aA,aM,h⟩:=BO (x);refine Be m (Fx v.den f W ad h AA AA) ?_;conv=>cbv
   have al:=Hr v.den h W ad;obtain⟨aB,aN,w⟩:=BO (y);refine Be m (Fx j.den f W ae w AA AA) ?_;conv=>cbv
   have an:=Hr j.den w W ae;refine g2 rfl ?_;obtain⟨aC,aO,z⟩:=BO (p.num*y);refine Be m (E1 v.num w z AA AA) ?_;conv=>cbv
   have ao:=v.num.Ek w z rfl;obtain⟨aD,aP,D⟩:=BO (q.num*x);refine Be m (E1 j.num h D AA AA) ?_;conv=>cbv
   have aq:=j.num.Ek h D rfl;obtain⟨aE,aQ,F⟩:=BO ((p.num*y+q.num*x));refine Be m (Mw z D F AA AA) ?_;conv=>cbv
   have ar:=z.Qf D F rfl (k:=8000000000000) AA AA;refine g2 rfl ?_;obtain⟨a8,ab,G⟩:=BO (((Nat.gcd (p.num*y+q.num*x).natAbs (Nat.gcd p.den q.den):Nat):Int));refine Be (r:= .agg [.bool a8,.sl .u32 ab]) m (Iu F f (by rw[Int.natAbs_natCast];exact G) AA AA) ?_;try conv=>cbv
   have a1:Nat.gcd p.den q.den≠0:=AA
   have au:=IW (x:=0) a1 f G;have ag:(p.num*y+q.num*x)=(p.num*y+q.num*x)/((Nat.gcd (p.num*y+q.num*x).natAbs (Nat.gcd p.den q.den):Nat):Int)*((Nat.gcd (p.num*y+q.num*x).natAbs (Nat.gcd p.den q.den):Nat):Int):=(GZ a1).1;have a2:=GM (a:=(p.num*y+q.num*x).natAbs) a1;have a5:(q.den:Int)=(q.den:Int)/((Nat.gcd (p.num*y+q.num*x).natAbs (Nat.gcd p.den q.den):Nat):Int)*((Nat.gcd (p.num*y+q.num*x).natAbs (Nat.gcd p.den q.den):Nat):Int):=(Int.ediv_mul_cancel (Int.natCast_dvd_natCast.2 (Nat.dvd_trans (Nat.gcd_dvd_right _ _) (Nat.gcd_dvd_right _ _)))).symm;obtain⟨aF,aR,O⟩:=BO ((p.num*y+q.num*x)/((Nat.gcd (p.num*y+q.num*x).natAbs (Nat.gcd p.den q.den):Nat):Int));refine Be m (Fx F G a2 ag O AA AA) ?_;conv=>cbv
   obtain⟨aG,aS,P⟩:=BO ((q.den:Int)/((Nat.gcd (p.num*y+q.num*x).natAbs (Nat.gcd p.den q.den):Nat):Int));refine Be m (Fx j.den G a2 a5 P AA AA) ?_;conv=>cbv
   have av:=Hr j.den P a2 a5;obtain⟨aH,aT,Q⟩:=BO (x*((q.den:Int)/((Nat.gcd (p.num*y+q.num*x).natAbs (Nat.gcd p.den q.den):Nat):Int)));refine Be m (E1 h P Q AA AA) ?_;conv=>cbv
   refine g2 rfl ?_;have U:=ZM p q rfl (fun e=>by have:=of_decide_eq_false J.symm;omega) ai aj rfl rfl;exact AN ⟨⟨rfl,congrArg _ ((O.uniq H.num (by rw[S];exact U.1.symm)).1.symm),congrArg _ ((O.uniq H.num (by rw[S];exact U.1.symm)).2.symm),congrArg _ ((Q.uniq H.den (by rw[S];exact U.2.symm)).1.symm),congrArg _ ((Q.uniq H.den (by rw[S];exact U.2.symm)).2.symm),trivial⟩,trivial⟩
  obtain⟨ax,aJ,K⟩:=BO (p.num*q.den);refine Be m (E1 v.num j.den K AA AA) ?_;conv=>cbv
  obtain⟨ay,aK,L⟩:=BO (q.num*p.den);refine Be m (E1 j.num v.den L AA AA) ?_;conv=>cbv
  obtain⟨a7,aa,M⟩:=BO (p.num*q.den+q.num*p.den);refine Be (r:= .agg [.bool a7,.sl .u32 aa]) m (Mw K L M (by have:=v.num.Ek j.den K rfl;omega) (by have:=j.num.Ek v.den L rfl;omega)) ?_;try conv=>cbv
  refine g2 rfl ?_;obtain⟨az,aL,N⟩:=BO ((p.den:Int)*q.den);refine Be m (E1 v.den j.den N AA AA) ?_;conv=>cbv
  refine g2 rfl ?_;have U:=ZL p q (by have:=of_decide_eq_true J.symm;omega);exact AN ⟨⟨rfl,congrArg _ ((M.uniq H.num (by rw[S];exact U.1.symm)).1.symm),congrArg _ ((M.uniq H.num (by rw[S];exact U.1.symm)).2.symm),congrArg _ ((N.uniq H.den (by rw[S];exact U.2.symm)).1.symm),congrArg _ ((N.uniq H.den (by rw[S];exact U.2.symm)).2.symm),trivial⟩,trivial⟩
 obtain⟨aW,aX,a6⟩:=BO (p.num+q.num);refine Be m (Mw v.num j.num a6 AA AA) ?_;conv=>cbv
 refine g2 rfl ?_;exact AN ⟨⟨rfl,congrArg _ ((a6.uniq H.num (by rw[S];exact (Kr (of_decide_eq_true I.symm) (of_decide_eq_true V.symm)).1.symm)).1.symm),congrArg _ ((a6.uniq H.num (by rw[S];exact (Kr (of_decide_eq_true I.symm) (of_decide_eq_true V.symm)).1.symm)).2.symm),congrArg _ ((v.den.uniq H.den (by rw[S,(Kr (of_decide_eq_true I.symm) (of_decide_eq_true V.symm)).2];exact of_decide_eq_true I.symm)).1.symm),congrArg _ ((v.den.uniq H.den (by rw[S,(Kr (of_decide_eq_true I.symm) (of_decide_eq_true V.symm)).2];exact of_decide_eq_true I.symm)).2.symm),trivial⟩,trivial⟩
def rR {p:Rat} (h:p≠0):(1/p).num=(if p.num<0 then -(p.den:Int) else p.den)/\((1/p).den:Int)=if p.num<0 then -p.num else p.num:=by
 have j:p.num≠0:=mt Rat.num_eq_zero.1 h;have e:1/p=Rat.inv p:=by rw[Rat.div_def,Rat.one_mul];rfl
 rw[e];unfold Rat.inv
 split
 ·rename_i f;exact⟨rfl,by show ((p.num.natAbs:Nat):Int)=_;omega⟩
 rename_i f
 rw[dif_pos AA];exact⟨rfl,by show ((p.num.natAbs:Nat):Int)=_;omega⟩
def mN {p:Rat} (k:Bn p b1 l1 b2 l2) (D:p≠0) (F:r=1/p) (m:Bn r d1 k1 d2 k2):CF 154 [.agg (CP b1 l1 b2 l2)] (.agg (CP d1 k1 d2 k2)):=by
 obtain⟨h,f⟩:=rR D;rw[<-F] at h f;refine AL Tryz.func154 fun E v=>?_
 cases b1 <;> conv=>cbv
 ·have j:=V4 k.num rfl;exact AN ⟨⟨rfl,congrArg _ ((k.den.uniq m.num (by rw[h,if_neg j])).1.symm),congrArg _ ((k.den.uniq m.num (by rw[h,if_neg j])).2.symm),congrArg _ ((k.num.uniq m.den (by rw[f,if_neg j])).1.symm),congrArg _ ((k.num.uniq m.den (by rw[f,if_neg j])).2.symm),trivial⟩,trivial⟩
 obtain⟨G,H,DR⟩:=BO (-(p.den:Int));refine AB v (OZ k.den DR) ?_;obtain⟨w,z,GP⟩:=BO (-p.num);refine AB v (OZ k.num GP) ?_;have j:=V5 k.num rfl;exact AN ⟨⟨rfl,congrArg _ ((DR.uniq m.num (by rw[h,if_pos j])).1.symm),congrArg _ ((DR.uniq m.num (by rw[h,if_pos j])).2.symm),congrArg _ ((GP.uniq m.den (by rw[f,if_pos j])).1.symm),congrArg _ ((GP.uniq m.den (by rw[f,if_pos j])).2.symm),trivial⟩,trivial⟩
def mR {p:Rat} (h:Bn p b1 l1 b2 l2) (F:Ch p):CF 50 [.agg (CP b1 l1 b2 l2)] (.one (.bool true)):=by
 have G:=h.small F;have D:=p.den_pos;refine AL Tryz.func50 fun E j=>?_
 refine AB j (Y1 h.num) ?_;refine AB j (Y1 h.den) ?_;obtain⟨z,k⟩:=xI ((1:Int));refine AB (r:= .one (.int .i64 z)) j (Ly h.den (k.trans (by unfold DI;rw[if_neg AA,if_neg AA]))) ?_;refine Fu (fun m=>?_) fun m=>?_
 ·exact absurd m AA
 obtain⟨v,w,f⟩:=BO ((1:Int));refine AB (r:= .agg [.bool v,.sl .u32 w]) j (Iu h.num h.den (by rw[Int.natAbs_natCast,show Nat.gcd p.num.natAbs p.den=1 from p.reduced];exact f) AA AA) ?_;refine AB j (Kq f rfl) ?_;exact AN ⟨t2,trivial⟩
def eI {d r:Int} (f:r=DI d) (h:r<0):d<0:=by rcases HW d with⟨a,e⟩ |⟨a,e⟩ |⟨a,e⟩ <;> omega
def eN {d r:Int} (f:r=DI d) (h:0<=r):¬d<0:=by rcases HW d with⟨a,e⟩ |⟨a,e⟩ |⟨a,e⟩ <;> omega
def RI {g:Int} (f:g≠0) (h:g∣x):x=DQ x g*g:=by
 unfold DQ
 split
 ·exact (Int.ediv_mul_cancel h).symm
 have:=Int.ediv_mul_cancel (a:= -x) (b:= -g) (Int.neg_dvd.2 (Int.dvd_neg.2 h));rw[Int.mul_neg] at this
 generalize -x/ -g*g=Q at*
 omega
def Rw (n d:Int):(if d<0 then -((Nat.gcd n.natAbs d.natAbs:Nat):Int) else ((Nat.gcd n.natAbs d.natAbs:Nat):Int))∣n/\(if d<0 then -((Nat.gcd n.natAbs d.natAbs:Nat):Int) else ((Nat.gcd n.natAbs d.natAbs:Nat):Int))∣d:=by
 have f:((Nat.gcd n.natAbs d.natAbs:Nat):Int)∣n:=Int.ofNat_dvd_left.2 (Nat.gcd_dvd_left _ _);have h:((Nat.gcd n.natAbs d.natAbs:Nat):Int)∣d:=Int.ofNat_dvd_left.2 (Nat.gcd_dvd_right _ _)
 split
 ·exact⟨Int.neg_dvd.2 f,Int.neg_dvd.2 h⟩
 exact⟨f,h⟩
def mH {n d:Int} {q:Rat} (S:BQ n b1 l1) (F:BQ d b2 l2) (D:d≠0) (Q:q=Rat.divInt n d) (G:Bn q c1 m1 c2 m2) (s1:l1.length<=17592186042000) (s2:l2.length<=17592186042000):CF 168 [.agg (Bu b1 l1),.agg (Bu b2 l2)] (.agg (CP c1 m1 c2 m2)):=by
 refine AL Tryz.func168 fun E H=>?_
 obtain⟨V,W,DR⟩:=BO (((Nat.gcd n.natAbs d.natAbs:Nat):Int));refine AB H (Iu S F DR AA AA) ?_;obtain⟨a1,j⟩:=xI (DI d);refine AB H (Ly F j) ?_;intro U K;refine .inr ?_;cases U <;> conv=>cbv
 ·have k:=EY K;obtain⟨m,w,IX⟩:=BO (DQ n (if d<0 then -((Nat.gcd n.natAbs d.natAbs:Nat):Int) else ((Nat.gcd n.natAbs d.natAbs:Nat):Int)));have N:BQ (if d<0 then -((Nat.gcd n.natAbs d.natAbs:Nat):Int) else ((Nat.gcd n.natAbs d.natAbs:Nat):Int)) V W:=by rw[if_neg (eN j k)];exact DR
  have h:(if d<0 then -((Nat.gcd n.natAbs d.natAbs:Nat):Int) else ((Nat.gcd n.natAbs d.natAbs:Nat):Int))≠0:=by rw[if_neg (eN j k)];have:=Rv (n:=n) D;omega
  have M:DQ n (if d<0 then -((Nat.gcd n.natAbs d.natAbs:Nat):Int) else ((Nat.gcd n.natAbs d.natAbs:Nat):Int))=q.num:=by rw[Q];exact (SM D).symm
  have L:DQ d (if d<0 then -((Nat.gcd n.natAbs d.natAbs:Nat):Int) else ((Nat.gcd n.natAbs d.natAbs:Nat):Int))=(q.den:Int):=by rw[Q];exact (SL D).symm
  have J:n=DQ n (if d<0 then -((Nat.gcd n.natAbs d.natAbs:Nat):Int) else ((Nat.gcd n.natAbs d.natAbs:Nat):Int))*(if d<0 then -((Nat.gcd n.natAbs d.natAbs:Nat):Int) else ((Nat.gcd n.natAbs d.natAbs:Nat):Int)):=RI h (Rw n d).1;have I:d=DQ d (if d<0 then -((Nat.gcd n.natAbs d.natAbs:Nat):Int) else ((Nat.gcd n.natAbs d.natAbs:Nat):Int))*(if d<0 then -((Nat.gcd n.natAbs d.natAbs:Nat):Int) else ((Nat.gcd n.natAbs d.natAbs:Nat):Int)):=RI h (Rw n d).2;refine AB (r:= .agg [.bool m,.sl .u32 w]) H (Fx S N h (J) IX AA (by have:=PH D F DR;omega)) ?_;obtain⟨v,z,f⟩:=BO (DQ d (if d<0 then -((Nat.gcd n.natAbs d.natAbs:Nat):Int) else ((Nat.gcd n.natAbs d.natAbs:Nat):Int)));refine AB (r:= .agg [.bool v,.sl .u32 z]) H (Fx F N h (I) f AA (by have:=PH D F DR;omega)) ?_;exact AN ⟨⟨rfl,congrArg _ ((IX.uniq G.num M).1.symm),congrArg _ ((IX.uniq G.num M).2.symm),congrArg _ ((f.uniq G.den L).1.symm),congrArg _ ((f.uniq G.den L).2.symm),trivial⟩,trivial⟩
 have k:=EZ K;obtain⟨O,P,I6⟩:=BO (-((Nat.gcd n.natAbs d.natAbs:Nat):Int));refine AB H (OZ DR I6) ?_;obtain⟨m,w,IX⟩:=BO (DQ n (if d<0 then -((Nat.gcd n.natAbs d.natAbs:Nat):Int) else ((Nat.gcd n.natAbs d.natAbs:Nat):Int)));have N:BQ (if d<0 then -((Nat.gcd n.natAbs d.natAbs:Nat):Int) else ((Nat.gcd n.natAbs d.natAbs:Nat):Int)) O P:=by rw[if_pos (eI j k)];exact I6
 have h:(if d<0 then -((Nat.gcd n.natAbs d.natAbs:Nat):Int) else ((Nat.gcd n.natAbs d.natAbs:Nat):Int))≠0:=by rw[if_pos (eI j k)];have:=Rv (n:=n) D;omega
 have M:DQ n (if d<0 then -((Nat.gcd n.natAbs d.natAbs:Nat):Int) else ((Nat.gcd n.natAbs d.natAbs:Nat):Int))=q.num:=by rw[Q];exact (SM D).symm
 have L:DQ d (if d<0 then -((Nat.gcd n.natAbs d.natAbs:Nat):Int) else ((Nat.gcd n.natAbs d.natAbs:Nat):Int))=(q.den:Int):=by rw[Q];exact (SL D).symm
 have J:n=DQ n (if d<0 then -((Nat.gcd n.natAbs d.natAbs:Nat):Int) else ((Nat.gcd n.natAbs d.natAbs:Nat):Int))*(if d<0 then -((Nat.gcd n.natAbs d.natAbs:Nat):Int) else ((Nat.gcd n.natAbs d.natAbs:Nat):Int)):=RI h (Rw n d).1;have I:d=DQ d (if d<0 then -((Nat.gcd n.natAbs d.natAbs:Nat):Int) else ((Nat.gcd n.natAbs d.natAbs:Nat):Int))*(if d<0 then -((Nat.gcd n.natAbs d.natAbs:Nat):Int) else ((Nat.gcd n.natAbs d.natAbs:Nat):Int)):=RI h (Rw n d).2;refine AB (r:= .agg [.bool m,.sl .u32 w]) H (Fx S N h (J) IX AA (by have:=Ru D F I6;omega)) ?_;obtain⟨v,z,f⟩:=BO (DQ d (if d<0 then -((Nat.gcd n.natAbs d.natAbs:Nat):Int) else ((Nat.gcd n.natAbs d.natAbs:Nat):Int)));refine AB (r:= .agg [.bool v,.sl .u32 z]) H (Fx F N h (I) f AA (by have:=Ru D F I6;omega)) ?_;exact AN ⟨⟨rfl,congrArg _ ((IX.uniq G.num M).1.symm),congrArg _ ((IX.uniq G.num M).2.symm),congrArg _ ((f.uniq G.den L).1.symm),congrArg _ ((f.uniq G.den L).2.symm),trivial⟩,trivial⟩
def UQ {n d:Int} {q:Rat} (k: -9223372036854775808<=n/\n<9223372036854775808) (j: -9223372036854775808<=d/\d<9223372036854775808) (h:d≠0) (z:q=Rat.divInt n d) (D:Bn q c1 m1 c2 m2):CF 105 [AH n,AH d] (.agg (CP c1 m1 c2 m2)):=by
 refine AL Tryz.func105 fun E f=>?_
 refine BY (fun m=>?_) fun m=>?_
 ·exact absurd m h
 obtain⟨F,G,EI⟩:=BO (n);refine AB f (OX k EI) ?_;obtain⟨v,w,GP⟩:=BO (d);refine AB f (OX j GP) ?_;refine AB (r:= .agg [.bool c1,.sl .u32 m1,.bool c2,.sl .u32 m2]) f (mH EI GP h z D (by have:=Th k EI;omega) (by have:=Th j GP;omega)) ?_;exact AN AK
end
section
variable {C X Z:LR} {R i zn:Nat} {T:List LR} {b1 b2:Bool} {l1 l2:List UInt32} {q:Rat} {u:AG} {xs:List Rat}
def MH {x:el AJ} (j:X=BV xs) (f:X[i]? =some x):∃q,Bn q x.1.1 x.1.2 x.2.1 x.2.2/\xs[i]? =some q/\x=rp q:=by
 rw[j,BV,List.getElem?_map] at f;cases h:xs[i]? with
 | none=>rw[h] at f;simp at f
 | some q=>
  rw[h] at f;have e:x=rp q:=(Option.some.inj f).symm;exact⟨q,by rw[e];exact F6 q,rfl,e⟩
def gS (h:xs[i]? =some q):BV (xs.take (i+1))=BV (xs.take i)++[rp q]:=by
 rw[EM h,BV,BV,List.map_append];rfl
def Y2 {c:Bool} (J:X=BV xs) (K:c=decide (∀q∈xs,q=0)):CF 155 [AQ X] (.one (.bool c)):=by
 have N:X.length=xs.length:=by rw[J,List.length_map]
 refine AL Tryz.func155 fun E hE=>?_
 refine BX [] [0,3] [] (fun vs M k=>∃(i':Nat) (i:Int),vs=[AQ X,AH i]/\(AZ i i'/\i'<=X.length)/\(∀q∈xs.take i',q=0)/\k=X.length-i') (X.length-0) ⟨0,0,rfl,⟨BM 0,AA⟩,AS,rfl⟩ ?_;rintro J0 w vs M V ⟨i',i,rfl,⟨O,P⟩,hinv,Q⟩;have ei:=O.eq;refine Af ?_;rintro n6 ⟨e6,f6⟩;refine Bi (fun U=>?_) fun U=>?_
 ·exact AO (by rw[K,decide_eq_true];intro z f;rw[<-List.take_of_length_le (AA:xs.length<=i')] at f;exact hinv z f)
 refine .inr ?_;refine BA i' fun H m=>?_
 try conv=>cbv
 obtain⟨q,L,j,S⟩:=MH J m;rintro G ⟨v,f16⟩;conv=>cbv
 have I:G=((List.length (α:=UInt32) H.1.2:Nat):Int):=v;refine Eb (fun F=>?_) fun F=>?_
 ·have D:q≠0:=fun e=>by have:=L.num.G9.2 (Rat.num_eq_zero.2 e);omega
  exact AO (by rw[K,decide_eq_false];exact fun h=>D (h q (List.mem_of_getElem? j)))
 intro W h9;refine⟨X.length-(i'+1),?_,?_⟩
 ·omega
 rw[w];refine⟨i'+1,W,rfl,⟨⟨AA⟩,AA⟩,?_,rfl⟩;intro z f;rw[EM j] at f;rcases List.mem_append.1 f with f | f
 ·exact hinv z f
 rw[List.mem_singleton.1 f];exact Rat.num_eq_zero.1 (L.num.G9.1 AA)
def ZA {n:Int} (w:X=BV xs) (N:FO xs) (hn:n=(xs.length:Int)):CF 226 [AQ X,AH n] (.one (.bool true)):=by
 have H:X.length=xs.length:=by rw[w,List.length_map]
 refine AL Tryz.func226 fun E G=>?_
 refine BX [] [0,1,5] [] (fun vs z k=>∃(i':Nat) (i:Int),vs=[AQ X,AH n,AH i]/\(AZ i i'/\i'<=X.length)/\k=X.length-i') (X.length-0) ⟨0,0,rfl,⟨BM 0,AA⟩,rfl⟩ ?_;rintro V j vs z P ⟨i',i,rfl,⟨I,J⟩,K⟩;have ei:=I.eq;refine Af ?_;rintro n8 ⟨W,f8⟩;refine Bi (fun O=>?_) fun O=>?_
 ·rintro Q ⟨D,f19⟩ S h;exact AO (by rw[h];simp;omega)
 refine .inr ?_;refine BA i' fun U f=>?_
 try conv=>cbv
 obtain⟨q,L,M,m⟩:=KK w N f;refine AB G (mR L m) ?_;refine BG ?_;intro v F;exact Bj j ⟨i'+1,v,rfl,⟨⟨AA⟩,AA⟩,rfl⟩
def Yx (h:BT R u) (F:T=tw u):CF 225 [BF T] (.one (.bool true)):=by
 have I:T.length=u.length:=by rw[F,Cq]
 have J:=h.ht;refine AL Tryz.func225 fun E H=>?_
 refine BX [] [0,3] [] (fun vs G k=>∃(i':Nat) (i:Int),vs=[BF T,AH i]/\(AZ i i'/\i'<=T.length)/\k=T.length-i') (T.length-0) ⟨0,0,rfl,⟨BM 0,AA⟩,rfl⟩ ?_;rintro U w vs G O ⟨i',i,rfl,⟨K,L⟩,M⟩;have W:=K.eq;refine Af ?_;rintro n6 ⟨V,f6⟩;refine Bi (fun N=>?_) fun N=>?_
 ·exact AN ⟨t2,trivial⟩
 refine .inr ?_;refine BA i' fun S j=>?_
 try conv=>cbv
 obtain⟨y,z,m⟩:=MG F j;have D:=Nx h.red _ y m;refine AM ?_;intro P v;have f:=(Gf (k:=i') v AA).eq;refine AB (r:= .one (.bool true)) H (ZA z ((h.tb y (List.mem_reverse.1 (List.mem_of_getElem? m))).Cy h.hR) (by rw[D];exact f)) ?_;refine BG ?_;intro Q h9;exact Bj w ⟨i'+1,Q,rfl,⟨⟨AA⟩,AA⟩,rfl⟩
def QR {A:LR} {s:Nat} {x:Re} (h:BT R u) (z:T=tw u) (F:A=em u x) (D:El u s x) (H:s<=60000000000000:=by omega):CF 170 [BF T,AQ A] (.one (.bool true)):=by
 have v:T.length=u.length:=by rw[z,Cq]
 have G:=h.ht;refine AL Tryz.func170 fun E w=>?_
 refine AB w (Yx h z) ?_;rintro I ⟨j,f10⟩ J m;have f:=(Gf (k:=u.length) m (j.trans (congrArg _ v))).eq;refine AB (r:= .one (.bool true)) w (ZA F (D.Cy H) (by rw[D.len];exact f)) ?_;exact AN ⟨t2,trivial⟩
def Ym (h:BT R u) (hT:T=tw u) (hq:Bn q b1 l1 b2 l2) (hC:C=em u (Re.ofRat q)) (Q:zn=C.length):CF 156 [BF T,.agg (CP b1 l1 b2 l2)] (.one (.own AJ C zn)):=by
 have O:T.length=u.length:=by rw[hT,Cq]
 have a1:=h.ht;have W:=Ea h.ht;have a7:=D7 u.length;refine AL Tryz.func156 fun E hE=>?_
 refine⟨[((b1,l1),(b2,l2))],Cj,.inl ?_⟩;try conv=>cbv
 refine BX [] [0,5] [7] (fun vs U k=>∃(o:LR) (mm j:Nat),vs=[BF T,.one (.Aj AJ 7 0 0 mm)]/\U=[.arr 0 AJ o]/\(mm=o.length/\o.length=j+1/\o.length<=2^u.length)/\o=rp q::List.replicate j (rp 0)/\k=2^u.length-o.length) (2^u.length-[rp q].length) ⟨[rp q],1,0,rfl,by rw[hq.rp];rfl,⟨rfl,rfl,by show 1<=_;omega⟩,rfl,rfl⟩ ?_;rintro J0 N vs U a8 ⟨o,mm,j,rfl,rfl,⟨I,a5,a6⟩,hinv,a2⟩;conv=>cbv
 intro n9 h9;have e9:=h9.eq;refine AM ?_;rintro aa ⟨L,f11⟩ ab M;have V:=(Gf (k:=u.length) M (L.trans (congrArg _ O))).eq;refine Bi (fun S=>?_) fun S=>?_
 ·have D:C=o:=by rw[hC,em,JY q h.red,hinv,(AA:j=2^u.length-1),BV,List.map_cons,List.map_replicate]
  exact AN ⟨⟨rfl,.inr (.inl ⟨_,_,AD,rfl,rfl,I,rfl,Dm (D) (by rw[Q,D])⟩),trivial⟩,trivial⟩
 refine .inr ?_;obtain⟨v,w,f,m,G⟩:=Ca (((0:Int):Rat));refine AB hE (Ff AA rfl G) ?_;refine⟨[((v,w),(f,m))],Cj,.inr ?_⟩;try conv=>cbv
 refine .inl ⟨[((v,w),(f,m))],fun _=>⟨rfl,I,rfl,Ck (o.length+1) 64⟩,?_⟩;intro (z:LR) K H;have F:z=(o:LR)++([((v,w),(f,m))]:LR):=H.1;have J:K=List.length (α:=(el AJ)) z:=H.2;conv=>cbv
 have P:z.length=o.length+1:=by rw[F];simp
 exact Bj N ⟨z,K,j+1,rfl,rfl,⟨J,AA,AA⟩,by rw[F,hinv,List.replicate_succ',List.cons_append,<-G.rp];rfl,rfl⟩
def IL (h:BT R u) (j:T=tw u) (k:Bn q b1 l1 b2 l2) (f:C=em u (Re.ofRat q)):CF 156 [BF T,.agg (CP b1 l1 b2 l2)] (AQ C):=EW (Ym h j k f rfl)
def mK (O:X=BV xs) (hl:xs.length<=1000000) (U:Z=BV (xs.map (- ·))):CF 53 [BF T,AQ X] (AQ Z):=by
 have S:X.length=xs.length:=by rw[O,List.length_map]
 refine AL Tryz.func53 fun E Q=>?_
 refine BX [(5,AJ,true)] [1,5,6] [5] (fun vs N k=>∃(o:LR) (mm i':Nat) (i:Int),vs=[AQ X,.one (.Aj AJ 5 0 0 mm),AH i]/\N=[.arr 0 AJ o]/\(AZ i i'/\i'<=X.length/\mm=o.length)/\o=BV ((xs.map (- ·)).take i')/\k=X.length-i') X.length ⟨[],0,0,0,rfl,rfl,⟨BM 0,Nat.zero_le _,rfl⟩,rfl,rfl⟩ ?_;rintro J0 I vs N a6 ⟨o,mm,i',i,rfl,rfl,⟨V,W,D⟩,hinv,a1⟩;conv=>cbv
 have ei:=V.eq;have a2:o.length<=X.length:=by rw[hinv,BV,List.length_map,List.length_take,List.length_map];omega
 rintro n9 ⟨e9,f9⟩;conv=>cbv
 refine Bi (fun L=>?_) fun L=>?_
 ·exact AN ⟨⟨rfl,.inl ⟨_,rfl,AA,congrArg _ (by rw[U,D,hinv,List.drop_zero,List.take_length,List.take_of_length_le (by rw[List.length_map];omega)])⟩,trivial⟩,trivial⟩
 refine .inr ?_;refine BA i' fun a7 G=>?_
 try conv=>cbv
 obtain⟨q,hq,J,a5⟩:=MH O G;have K:(xs.map (- ·))[i']? =some (-q):=by rw[List.getElem?_map,J];rfl
 obtain⟨j,m,f,h,FH⟩:=Ca (-q);refine AB Q (mO hq rfl FH) ?_;refine⟨[((j,m),(f,h))],Cj,.inr ?_⟩;try conv=>cbv
 refine .inl ⟨[((j,m),(f,h))],fun _=>⟨rfl,D,rfl,Ck (o.length+1) 64⟩,?_⟩;intro (w:LR) H v;have z:w=(o:LR)++([((j,m),(f,h))]:LR):=v.1;have F:H=List.length (α:=(el AJ)) w:=v.2;refine AM ?_;intro M P;exact Bj I ⟨w,H,i'+1,M,rfl,rfl,⟨⟨AA⟩,AA,F⟩,by rw[z,hinv,gS K,<-FH.rp],rfl⟩
def lj {Y:LR} {ys:List Rat} (hX:X=BV xs) (hY:Y=BV ys) (hs:FO xs) (ht:FO ys) (ab:ys.length=xs.length) (hl:xs.length<=1000000) (hZ:Z=BV (List.zipWith (· + ·) xs ys)) (S:zn=Z.length):CF 89 [BF T,AQ X,AQ Y] (.one (.own AJ Z zn)):=by
 have a5:X.length=xs.length:=by rw[hX,List.length_map]
 have a6:Y.length=ys.length:=by rw[hY,List.length_map]
 refine AL Tryz.func89 fun E hE=>?_
 refine BX [(7,AJ,true)] [1,2,7,8] [7] (fun vs W k=>∃(o:LR) (mm i':Nat) (i:Int),vs=[AQ X,AQ Y,.one (.Aj AJ 7 0 0 mm),AH i]/\W=[.arr 0 AJ o]/\(AZ i i'/\i'<=X.length/\mm=o.length)/\o=BV ((List.zipWith (· + ·) xs ys).take i')/\k=X.length-i') X.length ⟨[],0,0,0,rfl,rfl,⟨BM 0,Nat.zero_le _,rfl⟩,rfl,rfl⟩ ?_;rintro J0 L vs W ad ⟨o,mm,i',i,rfl,rfl,⟨hi,a7,G⟩,hinv,a8⟩;conv=>cbv
 have ei:=hi.eq;have aa:o.length<=X.length:=by rw[hinv,BV,List.length_map,List.length_take,List.length_zipWith];omega
 rintro ae ⟨a1,f11⟩;conv=>cbv
 refine Bi (fun U=>?_) fun U=>?_
 ·have v:Z=o:=by rw[hZ,hinv,List.take_of_length_le (by rw[List.length_zipWith];omega)]
  exact AN ⟨⟨rfl,.inr (.inl ⟨_,_,AD,rfl,rfl,G,rfl,Dm (v) (by rw[S,v])⟩),trivial⟩,trivial⟩
 refine .inr ?_;refine BA i' fun af I=>?_
 try conv=>cbv
 refine BA i' fun ag J=>?_
 try conv=>cbv
 obtain⟨p,hp,M,P⟩:=KK hX hs I;obtain⟨q,hq,N,Q⟩:=KK hY ht J;have O:(List.zipWith (· + ·) xs ys)[i']? =some (p+q):=by rw[List.getElem?_zipWith,M,N]
 obtain⟨j,m,f,h,w⟩:=Ca (p+q);refine AB hE (Ys hp hq P Q rfl w) ?_;refine⟨[((j,m),(f,h))],Cj,.inr ?_⟩;try conv=>cbv
 refine .inl ⟨[((j,m),(f,h))],fun _=>⟨rfl,G,rfl,Ck (o.length+1) 64⟩,?_⟩;intro (D:LR) K z;have F:D=(o:LR)++([((j,m),(f,h))]:LR):=z.1;have H:K=List.length (α:=(el AJ)) D:=z.2;refine AM ?_;intro V a2;exact Bj L ⟨D,K,i'+1,V,rfl,rfl,⟨⟨AA⟩,AA,H⟩,by rw[F,hinv,gS O,<-w.rp],rfl⟩
end
end Go.Abs
