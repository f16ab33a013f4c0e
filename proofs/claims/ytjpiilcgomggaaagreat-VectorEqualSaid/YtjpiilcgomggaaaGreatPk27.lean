/- Part 28 of a proof. Conditions: each theorem's own. -/
import Derived.Test.YtjpiilcgomggaaaGreatPk23
import Derived.Test.YtjpiilcgomggaaaGreatPk24
set_option linter.all false
set_option maxHeartbeats 8000000
open Go.Proofs
namespace Go.Abs
open Go.RowKit
variable {a b:Nat} {b1 b2 c c1 c2 d1 d2:Bool} {k1 k2 l l' l1 l2 m1 m2:List UInt32} {r:Rat} {x y:Int}
theorem KV (p q:Rat):(p*q).num=(p.num/((Nat.gcd p.num.natAbs q.den:Nat):Int))*(q.num/((Nat.gcd q.num.natAbs p.den:Nat):Int)):=by
 show (Rat.mul p q).num=_
 unfold Rat.mul
 dsimp only
 rw[Int.divExact_eq_ediv,Int.divExact_eq_ediv]
theorem KU (p q:Rat):((p*q).den:Int)=((p.den:Int)/((Nat.gcd q.num.natAbs p.den:Nat):Int))*((q.den:Int)/((Nat.gcd p.num.natAbs q.den:Nat):Int)):=by
 have:(p*q).den=(p.den/Nat.gcd q.num.natAbs p.den)*(q.den/Nat.gcd p.num.natAbs q.den):=by
  show (Rat.mul p q).den=_
  unfold Rat.mul
  dsimp only
  rw[Nat.divExact_eq_div,Nat.divExact_eq_div]
 rw[this,Int.natCast_mul,Int.natCast_ediv,Int.natCast_ediv]
theorem Ou (p q:Rat) (h:Nat.gcd p.den q.den=1):(p+q).num=p.num*q.den+q.num*p.den/\((p+q).den:Int)=(p.den:Int)*q.den:=by
 have:(p+q)=Rat.add p q:=rfl;rw[this];unfold Rat.add
 dsimp only
 rw[dif_pos h];exact⟨rfl,by rw[Int.natCast_mul]⟩
theorem Ov (p q:Rat) {g h:Nat} {N:Int} (i:g=Nat.gcd p.den q.den) (m:g≠1) (hx:x=(p.den:Int)/g) (s:y=(q.den:Int)/g) (n:N=p.num*y+q.num*x) (k:h=Nat.gcd N.natAbs g):
  (p+q).num=N/h/\((p+q).den:Int)=x*((q.den:Int)/h):=by
 have e:(p+q)=Rat.add p q:=rfl;have d:x=((p.den/g:Nat):Int):=by rw[hx,Int.natCast_ediv]
 have j:y=((q.den/g:Nat):Int):=by rw[s,Int.natCast_ediv]
 have f:p.num*((q.den/Nat.gcd p.den q.den:Nat):Int)+q.num*((p.den/Nat.gcd p.den q.den:Nat):Int)=N:=by rw[n,d,j,i]
 have o:h∣q.den:=by rw[k];exact Nat.dvd_trans (Nat.gcd_dvd_right _ _) (by rw[i];exact Nat.gcd_dvd_right _ _)
 subst i;rw[e];unfold Rat.add
 dsimp only
 rw[dif_neg m,Rat.maybeNormalize_eq]
 dsimp only
 rw[Int.divExact_eq_ediv,f,<-k];refine⟨rfl,?_⟩;rw[d,Nat.mul_div_assoc _ o,Int.natCast_mul,Int.natCast_ediv (q.den)]
theorem DB {a:Int} (d:b≠0):a=a/((Nat.gcd a.natAbs b:Nat):Int)*((Nat.gcd a.natAbs b:Nat):Int)/\(b:Int)=(b:Int)/((Nat.gcd a.natAbs b:Nat):Int)*((Nat.gcd a.natAbs b:Nat):Int):=by
 exact⟨(Int.ediv_mul_cancel (Int.ofNat_dvd_left.2 (Nat.gcd_dvd_left _ _))).symm,(Int.ediv_mul_cancel (Int.natCast_dvd_natCast.2 (Nat.gcd_dvd_right _ _))).symm⟩
theorem C6 (d:b≠0):((Nat.gcd a b:Nat):Int)≠0:=by
 have:=Nat.gcd_pos_of_pos_right a (n:=b) (by omega);omega
theorem D2 {q:Int} {b b':Bool} (hx:AT x b l) (d:AT q b' l') (f:y≠0) (h:x=q*y):l'.length<=l.length:=by
 rw[hx.Am,d.Am];exact Cl (by rw[h,Int.natAbs_mul];exact Nat.le_mul_of_pos_right _ (by omega))
theorem ER {x:Int} {d:Bool} (f:b≠0) (h:AT (b:Int) c l) (h':AT ((Nat.gcd a b:Nat):Int) d l'):l'.length<=l.length:=by
 rw[h.Am,h'.Am,Int.natAbs_natCast,Int.natAbs_natCast];exact Cl (Nat.le_of_dvd (by omega) (Nat.gcd_dvd_right _ _))
theorem Gd {b:Bool} (hx:AT x b l) (j:c=decide (x=1)):CF 172 [.agg [.bool b,.sl .u32 l]] (.one (.bool c)):=by
 refine AE Tryz.func172 (by kernel_rfl) rfl fun E w=>?_
 conv=>cbv
 rintro z ⟨v,f5⟩;conv=>cbv
 intro u o;conv=>cbv
 cases u <;> conv=>cbv
 ·have q:=Ac o;exact fA ⟨⟨rfl,congrArg _ (by rw[j];exact (RZ hx (by omega)).symm),trivial⟩,trivial⟩ rfl (by simp)
 have q:=Ad o;obtain⟨n,d⟩:=AF (l:=l) (i:=0) (by omega);refine⟨n,fun _=>⟨by omega,d⟩,?_⟩;try conv=>cbv
 intro s f;have p:=f.eq;have f11:=f.lt;conv=>cbv
 intro m g;conv=>cbv
 cases m <;> conv=>cbv
 ·have k:=Ac g;exact fA ⟨⟨rfl,congrArg _ (by rw[j];cases b with | true=>exact (Mz hx rfl).symm | false=>rw[<-M1 hx rfl (by omega) d];simp only[decide_eq_false_iff_not];omega),trivial⟩,trivial⟩ rfl (by simp)
 have k:=Ad g;intro t h;conv=>cbv
 exact fA ⟨⟨rfl,congrArg _ (by rw[j,h];cases b with | true=>exact (Mz hx rfl).symm | false=>rw[<-M1 hx rfl (by omega) d];simp;omega),trivial⟩,trivial⟩ rfl (by simp)
theorem Cv {q:Int} {b3:Bool} {l3:List UInt32} (hx:AT x b1 l1) (i:AT y b2 l2) (f:y≠0) (d:x=q*y) (h:AT q b3 l3) (s1:l1.length<=17592186043000) (s2:l2.length<=17592186043000):CF 184 [.agg [.bool b1,.sl .u32 l1],.agg [.bool b2,.sl .u32 l2]] (.agg [.bool b3,.sl .u32 l3]):=by
 refine AE Tryz.func184 (by kernel_rfl) rfl fun E g=>?_
 conv=>cbv
 refine cL g (UU hx i f d h s1 s2) ⟨t2,t2,trivial⟩ ?_;try conv=>cbv
 exact fA ⟨t3,trivial⟩ rfl (by simp)
theorem Dp {q:Rat} (hx: -9223372036854775808<=x/\x<9223372036854775808) (g:q=(x:Rat)) (h:Aq q c1 m1 c2 m2):CF 131 [.one (.int .i64 x)] (.agg [.bool c1,.sl .u32 m1,.bool c2,.sl .u32 m2]):=by
 refine AE Tryz.func131 (by kernel_rfl) rfl fun E i=>?_
 conv=>cbv
 obtain⟨j,m,d⟩:=AP (x);refine cL i (JM hx d) t1 ?_;try conv=>cbv
 obtain⟨k,n,f⟩:=AP (1);refine cL i (JM (by omega) f) t1 ?_;try conv=>cbv
 exact fA ⟨⟨rfl,congrArg _ ((d.uniq h.num (by rw[g];rfl)).1.symm),congrArg _ ((d.uniq h.num (by rw[g];rfl)).2.symm),congrArg _ ((f.uniq h.den (by rw[g];rfl)).1.symm),congrArg _ ((f.uniq h.den (by rw[g];rfl)).2.symm),trivial⟩,trivial⟩ rfl (by simp)
theorem OW {q:Rat} {c:Int} (hx:Aq q b1 l1 b2 l2) (g:c=C1 q):CF 155 [.agg [.bool b1,.sl .u32 l1,.bool b2,.sl .u32 l2]] (.one (.int .i64 c)):=by
 refine AE Tryz.func155 (by kernel_rfl) rfl fun E f=>?_
 conv=>cbv
 obtain⟨h,d⟩:=xI (BO q.num);refine cL f (G7 hx.num d) ⟨t2,trivial⟩ ?_;try conv=>cbv
 exact fA ⟨⟨rfl,congrArg _ (by rw[g,d];rfl),trivial⟩,trivial⟩ rfl (by simp)
theorem OV {q p:Rat} (hx:Aq q b1 l1 b2 l2) (f:p= -q) (g:Aq p c1 m1 c2 m2):CF 166 [.agg [.bool b1,.sl .u32 l1,.bool b2,.sl .u32 l2]] (.agg [.bool c1,.sl .u32 m1,.bool c2,.sl .u32 m2]):=by
 refine AE Tryz.func166 (by kernel_rfl) rfl fun E h=>?_
 conv=>cbv
 obtain⟨i,j,d⟩:=AP (-q.num);refine cL h (IC hx.num d) ⟨t2,trivial⟩ ?_;try conv=>cbv
 refine g2 rfl ?_;exact fA ⟨⟨rfl,congrArg _ ((d.uniq g.num (by rw[f];rfl)).1.symm),congrArg _ ((d.uniq g.num (by rw[f];rfl)).2.symm),congrArg _ ((hx.den.uniq g.den (by rw[f];rfl)).1.symm),congrArg _ ((hx.den.uniq g.den (by rw[f];rfl)).2.symm),trivial⟩,trivial⟩ rfl (by simp)
theorem OU {p q:Rat} {c:Int} (hx:Aq p b1 l1 b2 l2) (f:Aq q c1 m1 c2 m2) (i:BF p) (ht:BF q) (t:c=D5 p q):CF 60 [.agg [.bool b1,.sl .u32 l1,.bool b2,.sl .u32 l2],.agg [.bool c1,.sl .u32 m1,.bool c2,.sl .u32 m2]] (.one (.int .i64 c)):=by
 refine AE Tryz.func60 (by kernel_rfl) rfl fun E m=>?_
 conv=>cbv
 obtain⟨o,s,h⟩:=AP (p.num*q.den);refine cL (r:= .agg [.bool o,.sl .u32 s]) m (CQ hx.num f.den h (by have:=hx.small i;have:=f.small ht;omega) (by have:=hx.small i;have:=f.small ht;omega)) ⟨t2,t2,trivial⟩ ?_;try conv=>cbv
 obtain⟨j,k,d⟩:=AP (q.num*p.den);refine cL (r:= .agg [.bool j,.sl .u32 k]) m (CQ f.num hx.den d (by have:=hx.small i;have:=f.small ht;omega) (by have:=hx.small i;have:=f.small ht;omega)) ⟨t2,t2,trivial⟩ ?_;try conv=>cbv
 obtain⟨n,g⟩:=xI (Ay (p.num*q.den) (q.num*p.den));refine cL (r:= .one (.int .i64 n)) m (UT h d g (by have:=hx.small i;have:=f.small ht;have:=hx.num.CG f.den h rfl;omega) (by have:=hx.small i;have:=f.small ht;have:=f.num.CG hx.den d rfl;omega)) ⟨t2,t2,trivial⟩ ?_;try conv=>cbv
 refine g2 rfl ?_;exact fA ⟨⟨rfl,congrArg _ (by rw[t,g,Pg]),trivial⟩,trivial⟩ rfl (by simp)
theorem Ul {p q:Rat} (hx:Aq p b1 l1 b2 l2) (v:Aq q c1 m1 c2 m2) (hs:BF p) (ht:BF q) (A:r=p*q) (w:Aq r d1 k1 d2 k2):CF 142 [.agg [.bool b1,.sl .u32 l1,.bool b2,.sl .u32 l2],.agg [.bool c1,.sl .u32 m1,.bool c2,.sl .u32 m2]] (.agg [.bool d1,.sl .u32 k1,.bool d2,.sl .u32 k2]):=by
 have ae:=hx.small hs;have af:=v.small ht;have d:=p.den_nz;have f:=q.den_nz;refine AE Tryz.func142 (by kernel_rfl) rfl fun E u=>?_
 conv=>cbv
 rintro ag ⟨ab,f10⟩;conv=>cbv
 intro a6 T;conv=>cbv
 cases a6 <;> conv=>cbv
 ·have a2:=Ac T;rintro ah ⟨ad,f16⟩;conv=>cbv
  intro a7 U;conv=>cbv
  cases a7 <;> conv=>cbv
  ·have a5:=Ac U;obtain⟨Z,j⟩:=xB (decide ((p.den:Int)=1));refine cL u (Gd hx.den j) ⟨t2,trivial⟩ ?_;try conv=>cbv
   cases Z <;> conv=>cbv
   ·obtain⟨V,X,h⟩:=AP (((Nat.gcd p.num.natAbs q.den:Nat):Int));refine cL u (E8 hx.num v.den h (by omega) (by omega)) ⟨t2,t2,trivial⟩ ?_;try conv=>cbv
    obtain⟨W,Y,i⟩:=AP (((Nat.gcd q.num.natAbs p.den:Nat):Int));refine cL u (E8 v.num hx.den i (by omega) (by omega)) ⟨t2,t2,trivial⟩ ?_;try conv=>cbv
    refine g2 rfl ?_;obtain⟨G,N,k⟩:=AP (p.num/((Nat.gcd p.num.natAbs q.den:Nat):Int));refine cL (r:= .agg [.bool G,.sl .u32 N]) u (Cv hx.num h (C6 f) (DB f).1 k (by omega) (by have:=ER (x:=0) f v.den h;omega)) ⟨t2,t2,trivial⟩ ?_;try conv=>cbv
    obtain⟨H,O,m⟩:=AP (q.num/((Nat.gcd q.num.natAbs p.den:Nat):Int));refine cL (r:= .agg [.bool H,.sl .u32 O]) u (Cv v.num i (C6 d) (DB d).1 m (by omega) (by have:=ER (x:=0) d hx.den i;omega)) ⟨t2,t2,trivial⟩ ?_;try conv=>cbv
    obtain⟨I,P,n⟩:=AP ((p.num/((Nat.gcd p.num.natAbs q.den:Nat):Int))*(q.num/((Nat.gcd q.num.natAbs p.den:Nat):Int)));refine cL (r:= .agg [.bool I,.sl .u32 P]) u (CQ k m n (by have:=D2 hx.num k (C6 f) (DB f).1;omega) (by have:=D2 v.num m (C6 d) (DB d).1;omega)) ⟨t2,t2,trivial⟩ ?_;try conv=>cbv
    obtain⟨J,Q,o⟩:=AP ((p.den:Int)/((Nat.gcd q.num.natAbs p.den:Nat):Int));refine cL (r:= .agg [.bool J,.sl .u32 Q]) u (Cv hx.den i (C6 d) (DB d).2 o (by omega) (by have:=ER (x:=0) d hx.den i;omega)) ⟨t2,t2,trivial⟩ ?_;try conv=>cbv
    obtain⟨K,R,s⟩:=AP ((q.den:Int)/((Nat.gcd p.num.natAbs q.den:Nat):Int));refine cL (r:= .agg [.bool K,.sl .u32 R]) u (Cv v.den h (C6 f) (DB f).2 s (by omega) (by have:=ER (x:=0) f v.den h;omega)) ⟨t2,t2,trivial⟩ ?_;try conv=>cbv
    obtain⟨L,S,t⟩:=AP (((p.den:Int)/((Nat.gcd q.num.natAbs p.den:Nat):Int))*((q.den:Int)/((Nat.gcd p.num.natAbs q.den:Nat):Int)));refine cL (r:= .agg [.bool L,.sl .u32 S]) u (CQ o s t (by have:=D2 hx.den o (C6 d) (DB d).2;omega) (by have:=D2 v.den s (C6 f) (DB f).2;omega)) ⟨t2,t2,trivial⟩ ?_;try conv=>cbv
    refine g2 rfl ?_;exact fA ⟨⟨rfl,congrArg _ ((n.uniq w.num (by rw[A,KV])).1.symm),congrArg _ ((n.uniq w.num (by rw[A,KV])).2.symm),congrArg _ ((t.uniq w.den (by rw[A,KU])).1.symm),congrArg _ ((t.uniq w.den (by rw[A,KU])).2.symm),trivial⟩,trivial⟩ rfl (by simp)
   obtain⟨a1,z⟩:=xB (decide ((q.den:Int)=1));refine cL u (Gd v.den z) ⟨t2,trivial⟩ ?_;try conv=>cbv
   cases a1 <;> conv=>cbv
   ·obtain⟨V,X,h⟩:=AP (((Nat.gcd p.num.natAbs q.den:Nat):Int));refine cL u (E8 hx.num v.den h (by omega) (by omega)) ⟨t2,t2,trivial⟩ ?_;try conv=>cbv
    obtain⟨W,Y,i⟩:=AP (((Nat.gcd q.num.natAbs p.den:Nat):Int));refine cL u (E8 v.num hx.den i (by omega) (by omega)) ⟨t2,t2,trivial⟩ ?_;try conv=>cbv
    refine g2 rfl ?_;obtain⟨G,N,k⟩:=AP (p.num/((Nat.gcd p.num.natAbs q.den:Nat):Int));refine cL (r:= .agg [.bool G,.sl .u32 N]) u (Cv hx.num h (C6 f) (DB f).1 k (by omega) (by have:=ER (x:=0) f v.den h;omega)) ⟨t2,t2,trivial⟩ ?_;try conv=>cbv
    obtain⟨H,O,m⟩:=AP (q.num/((Nat.gcd q.num.natAbs p.den:Nat):Int));refine cL (r:= .agg [.bool H,.sl .u32 O]) u (Cv v.num i (C6 d) (DB d).1 m (by omega) (by have:=ER (x:=0) d hx.den i;omega)) ⟨t2,t2,trivial⟩ ?_;try conv=>cbv
    obtain⟨I,P,n⟩:=AP ((p.num/((Nat.gcd p.num.natAbs q.den:Nat):Int))*(q.num/((Nat.gcd q.num.natAbs p.den:Nat):Int)));refine cL (r:= .agg [.bool I,.sl .u32 P]) u (CQ k m n (by have:=D2 hx.num k (C6 f) (DB f).1;omega) (by have:=D2 v.num m (C6 d) (DB d).1;omega)) ⟨t2,t2,trivial⟩ ?_;try conv=>cbv
    obtain⟨J,Q,o⟩:=AP ((p.den:Int)/((Nat.gcd q.num.natAbs p.den:Nat):Int));refine cL (r:= .agg [.bool J,.sl .u32 Q]) u (Cv hx.den i (C6 d) (DB d).2 o (by omega) (by have:=ER (x:=0) d hx.den i;omega)) ⟨t2,t2,trivial⟩ ?_;try conv=>cbv
    obtain⟨K,R,s⟩:=AP ((q.den:Int)/((Nat.gcd p.num.natAbs q.den:Nat):Int));refine cL (r:= .agg [.bool K,.sl .u32 R]) u (Cv v.den h (C6 f) (DB f).2 s (by omega) (by have:=ER (x:=0) f v.den h;omega)) ⟨t2,t2,trivial⟩ ?_;try conv=>cbv
    obtain⟨L,S,t⟩:=AP (((p.den:Int)/((Nat.gcd q.num.natAbs p.den:Nat):Int))*((q.den:Int)/((Nat.gcd p.num.natAbs q.den:Nat):Int)));refine cL (r:= .agg [.bool L,.sl .u32 S]) u (CQ o s t (by have:=D2 hx.den o (C6 d) (DB d).2;omega) (by have:=D2 v.den s (C6 f) (DB f).2;omega)) ⟨t2,t2,trivial⟩ ?_;try conv=>cbv
    refine g2 rfl ?_;exact fA ⟨⟨rfl,congrArg _ ((n.uniq w.num (by rw[A,KV])).1.symm),congrArg _ ((n.uniq w.num (by rw[A,KV])).2.symm),congrArg _ ((t.uniq w.den (by rw[A,KU])).1.symm),congrArg _ ((t.uniq w.den (by rw[A,KU])).2.symm),trivial⟩,trivial⟩ rfl (by simp)
   obtain⟨a8,aa,B⟩:=AP (p.num*q.num);refine cL u (CQ hx.num v.num B (by omega) (by omega)) ⟨t2,t2,trivial⟩ ?_;try conv=>cbv
   refine g2 rfl ?_;exact fA ⟨⟨rfl,congrArg _ ((B.uniq w.num (by rw[A];exact (mul_ones (of_decide_eq_true j.symm) (of_decide_eq_true z.symm)).1.symm)).1.symm),congrArg _ ((B.uniq w.num (by rw[A];exact (mul_ones (of_decide_eq_true j.symm) (of_decide_eq_true z.symm)).1.symm)).2.symm),congrArg _ ((hx.den.uniq w.den (by rw[A,(mul_ones (of_decide_eq_true j.symm) (of_decide_eq_true z.symm)).2];exact of_decide_eq_true j.symm)).1.symm),congrArg _ ((hx.den.uniq w.den (by rw[A,(mul_ones (of_decide_eq_true j.symm) (of_decide_eq_true z.symm)).2];exact of_decide_eq_true j.symm)).2.symm),trivial⟩,trivial⟩ rfl (by simp)
  have a5:=Ad U;obtain⟨F,M,C,D,g⟩:=A9 (r);refine cL (r:= .agg [.bool F,.sl .u32 M,.bool C,.sl .u32 D]) u (Dp (x:=0) (by omega) (by rw[A];first | (rw[Rat.num_eq_zero.1 (hx.num.Dh.1 (by omega)),Rat.zero_mul];rfl) | (rw[Rat.num_eq_zero.1 (v.num.Dh.1 (by omega)),Rat.mul_zero];rfl)) g) t1 ?_;try conv=>cbv
  exact fA ⟨⟨rfl,congrArg _ ((g.uniq w rfl).1.1.symm),congrArg _ ((g.uniq w rfl).1.2.symm),congrArg _ ((g.uniq w rfl).2.1.symm),congrArg _ ((g.uniq w rfl).2.2.symm),trivial⟩,trivial⟩ rfl (by simp)
 have a2:=Ad T;obtain⟨F,M,C,D,g⟩:=A9 (r);refine cL (r:= .agg [.bool F,.sl .u32 M,.bool C,.sl .u32 D]) u (Dp (x:=0) (by omega) (by rw[A];first | (rw[Rat.num_eq_zero.1 (hx.num.Dh.1 (by omega)),Rat.zero_mul];rfl) | (rw[Rat.num_eq_zero.1 (v.num.Dh.1 (by omega)),Rat.mul_zero];rfl)) g) t1 ?_;try conv=>cbv
 exact fA ⟨⟨rfl,congrArg _ ((g.uniq w rfl).1.1.symm),congrArg _ ((g.uniq w rfl).1.2.symm),congrArg _ ((g.uniq w rfl).2.1.symm),congrArg _ ((g.uniq w rfl).2.2.symm),trivial⟩,trivial⟩ rfl (by simp)
theorem OT {p q:Rat} (hx:Aq p b1 l1 b2 l2) (g:Aq q c1 m1 c2 m2) (hs:BF p) (ht:BF q) (F:r=p+q) (s:Aq r d1 k1 d2 k2):CF 165 [.agg [.bool b1,.sl .u32 l1,.bool b2,.sl .u32 l2],.agg [.bool c1,.sl .u32 m1,.bool c2,.sl .u32 m2]] (.agg [.bool d1,.sl .u32 k1,.bool d2,.sl .u32 k2]):=by
 have aQ:=hx.small hs;have aR:=g.small ht;have aP:=p.den_nz;have V:=q.den_nz;have H:((Nat.gcd p.den q.den:Nat):Int)≠0:=C6 V;obtain⟨x,W⟩:=xI ((p.den:Int)/((Nat.gcd p.den q.den:Nat):Int));obtain⟨y,X⟩:=xI ((q.den:Int)/((Nat.gcd p.den q.den:Nat):Int));have R:(p.den:Int)=x*((Nat.gcd p.den q.den:Nat):Int):=by rw[W];exact (Int.ediv_mul_cancel (Int.natCast_dvd_natCast.2 (Nat.gcd_dvd_left _ _))).symm
 have S:(q.den:Int)=y*((Nat.gcd p.den q.den:Nat):Int):=by rw[X];exact (Int.ediv_mul_cancel (Int.natCast_dvd_natCast.2 (Nat.gcd_dvd_right _ _))).symm
 refine AE Tryz.func165 (by kernel_rfl) rfl fun E h=>?_
 conv=>cbv
 rintro aS ⟨aN,f14⟩;conv=>cbv
 intro aJ Y;conv=>cbv
 cases aJ <;> conv=>cbv
 ·have aH:=Ac Y;rintro aT ⟨aO,f20⟩;conv=>cbv
  intro aK Z;conv=>cbv
  cases aK <;> conv=>cbv
  ·have aI:=Ac Z;obtain⟨aF,t⟩:=xB (decide ((p.den:Int)=1));refine cL h (Gd hx.den t) ⟨t2,trivial⟩ ?_;try conv=>cbv
   cases aF <;> conv=>cbv
   ·obtain⟨ad,ar,d⟩:=AP (((Nat.gcd p.den q.den:Nat):Int));refine cL h (E8 hx.den g.den d (by omega) (by omega)) ⟨t2,t2,trivial⟩ ?_;try conv=>cbv
    have a1:=ER (x:=0) V g.den d;obtain⟨T,u⟩:=xB (decide (((Nat.gcd p.den q.den:Nat):Int)=1));refine cL h (Gd d u) ⟨t2,trivial⟩ ?_;try conv=>cbv
    cases T <;> conv=>cbv
    ·obtain⟨ah,ax,f⟩:=AP (x);refine cL h (Cv hx.den d H R f (by omega) (by omega)) ⟨t2,t2,trivial⟩ ?_;try conv=>cbv
     have a2:=D2 hx.den f H R;obtain⟨ai,ay,i⟩:=AP (y);refine cL h (Cv g.den d H S i (by omega) (by omega)) ⟨t2,t2,trivial⟩ ?_;try conv=>cbv
     have a5:=D2 g.den i H S;refine g2 rfl ?_;obtain⟨aj,az,j⟩:=AP (p.num*y);refine cL h (CQ hx.num i j (by omega) (by omega)) ⟨t2,t2,trivial⟩ ?_;try conv=>cbv
     have a6:=hx.num.CG i j rfl;obtain⟨ak,aA,m⟩:=AP (q.num*x);refine cL h (CQ g.num f m (by omega) (by omega)) ⟨t2,t2,trivial⟩ ?_;try conv=>cbv
     have a7:=g.num.CG f m rfl;obtain⟨al,aB,n⟩:=AP ((p.num*y+q.num*x));refine cL h (G5 j m n (by omega) (by omega)) ⟨t2,t2,trivial⟩ ?_;try conv=>cbv
     have a8:=j.JV m n rfl (k:=8000000000000) (by omega) (by omega);refine g2 rfl ?_;obtain⟨N,P,o⟩:=AP (((Nat.gcd (p.num*y+q.num*x).natAbs (Nat.gcd p.den q.den):Nat):Int));refine cL (r:= .agg [.bool N,.sl .u32 P]) h (E8 n d (by rw[Int.natAbs_natCast];exact o) (by omega) (by omega)) ⟨t2,t2,trivial⟩ ?_;try conv=>cbv
     have I:Nat.gcd p.den q.den≠0:=by omega
     have aa:=ER (x:=0) I d o;have U:(p.num*y+q.num*x)=(p.num*y+q.num*x)/((Nat.gcd (p.num*y+q.num*x).natAbs (Nat.gcd p.den q.den):Nat):Int)*((Nat.gcd (p.num*y+q.num*x).natAbs (Nat.gcd p.den q.den):Nat):Int):=(DB I).1;have J:=C6 (a:=(p.num*y+q.num*x).natAbs) I;have K:(q.den:Int)=(q.den:Int)/((Nat.gcd (p.num*y+q.num*x).natAbs (Nat.gcd p.den q.den):Nat):Int)*((Nat.gcd (p.num*y+q.num*x).natAbs (Nat.gcd p.den q.den):Nat):Int):=(Int.ediv_mul_cancel (Int.natCast_dvd_natCast.2 (Nat.dvd_trans (Nat.gcd_dvd_right _ _) (Nat.gcd_dvd_right _ _)))).symm;obtain⟨an,aC,B⟩:=AP ((p.num*y+q.num*x)/((Nat.gcd (p.num*y+q.num*x).natAbs (Nat.gcd p.den q.den):Nat):Int));refine cL h (Cv n o J U B (by omega) (by omega)) ⟨t2,t2,trivial⟩ ?_;try conv=>cbv
     obtain⟨ao,aD,C⟩:=AP ((q.den:Int)/((Nat.gcd (p.num*y+q.num*x).natAbs (Nat.gcd p.den q.den):Nat):Int));refine cL h (Cv g.den o J K C (by omega) (by omega)) ⟨t2,t2,trivial⟩ ?_;try conv=>cbv
     have ab:=D2 g.den C J K;obtain⟨aq,aE,D⟩:=AP (x*((q.den:Int)/((Nat.gcd (p.num*y+q.num*x).natAbs (Nat.gcd p.den q.den):Nat):Int)));refine cL h (CQ f C D (by omega) (by omega)) ⟨t2,t2,trivial⟩ ?_;try conv=>cbv
     refine g2 rfl ?_;have hA:=Ov p q rfl (fun e=>by have:=of_decide_eq_false u.symm;omega) W X rfl rfl;exact fA ⟨⟨rfl,congrArg _ ((B.uniq s.num (by rw[F];exact hA.1.symm)).1.symm),congrArg _ ((B.uniq s.num (by rw[F];exact hA.1.symm)).2.symm),congrArg _ ((D.uniq s.den (by rw[F];exact hA.2.symm)).1.symm),congrArg _ ((D.uniq s.den (by rw[F];exact hA.2.symm)).2.symm),trivial⟩,trivial⟩ rfl (by simp)
    obtain⟨ae,au,v⟩:=AP (p.num*q.den);refine cL h (CQ hx.num g.den v (by omega) (by omega)) ⟨t2,t2,trivial⟩ ?_;try conv=>cbv
    obtain⟨af,av,w⟩:=AP (q.num*p.den);refine cL h (CQ g.num hx.den w (by omega) (by omega)) ⟨t2,t2,trivial⟩ ?_;try conv=>cbv
    obtain⟨M,O,z⟩:=AP (p.num*q.den+q.num*p.den);refine cL (r:= .agg [.bool M,.sl .u32 O]) h (G5 v w z (by have:=hx.num.CG g.den v rfl;omega) (by have:=g.num.CG hx.den w rfl;omega)) ⟨t2,t2,trivial⟩ ?_;try conv=>cbv
    refine g2 rfl ?_;obtain⟨ag,aw,A⟩:=AP ((p.den:Int)*q.den);refine cL h (CQ hx.den g.den A (by omega) (by omega)) ⟨t2,t2,trivial⟩ ?_;try conv=>cbv
    refine g2 rfl ?_;have hA:=Ou p q (by have:=of_decide_eq_true u.symm;omega);exact fA ⟨⟨rfl,congrArg _ ((z.uniq s.num (by rw[F];exact hA.1.symm)).1.symm),congrArg _ ((z.uniq s.num (by rw[F];exact hA.1.symm)).2.symm),congrArg _ ((A.uniq s.den (by rw[F];exact hA.2.symm)).1.symm),congrArg _ ((A.uniq s.den (by rw[F];exact hA.2.symm)).2.symm),trivial⟩,trivial⟩ rfl (by simp)
   obtain⟨aG,G⟩:=xB (decide ((q.den:Int)=1));refine cL h (Gd g.den G) ⟨t2,trivial⟩ ?_;try conv=>cbv
   cases aG <;> conv=>cbv
   ·obtain⟨ad,ar,d⟩:=AP (((Nat.gcd p.den q.den:Nat):Int));refine cL h (E8 hx.den g.den d (by omega) (by omega)) ⟨t2,t2,trivial⟩ ?_;try conv=>cbv
    have a1:=ER (x:=0) V g.den d;obtain⟨T,u⟩:=xB (decide (((Nat.gcd p.den q.den:Nat):Int)=1));refine cL h (Gd d u) ⟨t2,trivial⟩ ?_;try conv=>cbv
    cases T <;> conv=>cbv
    ·obtain⟨ah,ax,f⟩:=AP (x);refine cL h (Cv hx.den d H R f (by omega) (by omega)) ⟨t2,t2,trivial⟩ ?_;try conv=>cbv
     have a2:=D2 hx.den f H R;obtain⟨ai,ay,i⟩:=AP (y);refine cL h (Cv g.den d H S i (by omega) (by omega)) ⟨t2,t2,trivial⟩ ?_;try conv=>cbv
     have a5:=D2 g.den i H S;refine g2 rfl ?_;obtain⟨aj,az,j⟩:=AP (p.num*y);refine cL h (CQ hx.num i j (by omega) (by omega)) ⟨t2,t2,trivial⟩ ?_;try conv=>cbv
     have a6:=hx.num.CG i j rfl;obtain⟨ak,aA,m⟩:=AP (q.num*x);refine cL h (CQ g.num f m (by omega) (by omega)) ⟨t2,t2,trivial⟩ ?_;try conv=>cbv
     have a7:=g.num.CG f m rfl;obtain⟨al,aB,n⟩:=AP ((p.num*y+q.num*x));refine cL h (G5 j m n (by omega) (by omega)) ⟨t2,t2,trivial⟩ ?_;try conv=>cbv
     have a8:=j.JV m n rfl (k:=8000000000000) (by omega) (by omega);refine g2 rfl ?_;obtain⟨N,P,o⟩:=AP (((Nat.gcd (p.num*y+q.num*x).natAbs (Nat.gcd p.den q.den):Nat):Int));refine cL (r:= .agg [.bool N,.sl .u32 P]) h (E8 n d (by rw[Int.natAbs_natCast];exact o) (by omega) (by omega)) ⟨t2,t2,trivial⟩ ?_;try conv=>cbv
     have I:Nat.gcd p.den q.den≠0:=by omega
     have aa:=ER (x:=0) I d o;have U:(p.num*y+q.num*x)=(p.num*y+q.num*x)/((Nat.gcd (p.num*y+q.num*x).natAbs (Nat.gcd p.den q.den):Nat):Int)*((Nat.gcd (p.num*y+q.num*x).natAbs (Nat.gcd p.den q.den):Nat):Int):=(DB I).1;have J:=C6 (a:=(p.num*y+q.num*x).natAbs) I;have K:(q.den:Int)=(q.den:Int)/((Nat.gcd (p.num*y+q.num*x).natAbs (Nat.gcd p.den q.den):Nat):Int)*((Nat.gcd (p.num*y+q.num*x).natAbs (Nat.gcd p.den q.den):Nat):Int):=(Int.ediv_mul_cancel (Int.natCast_dvd_natCast.2 (Nat.dvd_trans (Nat.gcd_dvd_right _ _) (Nat.gcd_dvd_right _ _)))).symm;obtain⟨an,aC,B⟩:=AP ((p.num*y+q.num*x)/((Nat.gcd (p.num*y+q.num*x).natAbs (Nat.gcd p.den q.den):Nat):Int));refine cL h (Cv n o J U B (by omega) (by omega)) ⟨t2,t2,trivial⟩ ?_;try conv=>cbv
     obtain⟨ao,aD,C⟩:=AP ((q.den:Int)/((Nat.gcd (p.num*y+q.num*x).natAbs (Nat.gcd p.den q.den):Nat):Int));refine cL h (Cv g.den o J K C (by omega) (by omega)) ⟨t2,t2,trivial⟩ ?_;try conv=>cbv
     have ab:=D2 g.den C J K;obtain⟨aq,aE,D⟩:=AP (x*((q.den:Int)/((Nat.gcd (p.num*y+q.num*x).natAbs (Nat.gcd p.den q.den):Nat):Int)));refine cL h (CQ f C D (by omega) (by omega)) ⟨t2,t2,trivial⟩ ?_;try conv=>cbv
     refine g2 rfl ?_;have hA:=Ov p q rfl (fun e=>by have:=of_decide_eq_false u.symm;omega) W X rfl rfl;exact fA ⟨⟨rfl,congrArg _ ((B.uniq s.num (by rw[F];exact hA.1.symm)).1.symm),congrArg _ ((B.uniq s.num (by rw[F];exact hA.1.symm)).2.symm),congrArg _ ((D.uniq s.den (by rw[F];exact hA.2.symm)).1.symm),congrArg _ ((D.uniq s.den (by rw[F];exact hA.2.symm)).2.symm),trivial⟩,trivial⟩ rfl (by simp)
    obtain⟨ae,au,v⟩:=AP (p.num*q.den);refine cL h (CQ hx.num g.den v (by omega) (by omega)) ⟨t2,t2,trivial⟩ ?_;try conv=>cbv
    obtain⟨af,av,w⟩:=AP (q.num*p.den);refine cL h (CQ g.num hx.den w (by omega) (by omega)) ⟨t2,t2,trivial⟩ ?_;try conv=>cbv
    obtain⟨M,O,z⟩:=AP (p.num*q.den+q.num*p.den);refine cL (r:= .agg [.bool M,.sl .u32 O]) h (G5 v w z (by have:=hx.num.CG g.den v rfl;omega) (by have:=g.num.CG hx.den w rfl;omega)) ⟨t2,t2,trivial⟩ ?_;try conv=>cbv
    refine g2 rfl ?_;obtain⟨ag,aw,A⟩:=AP ((p.den:Int)*q.den);refine cL h (CQ hx.den g.den A (by omega) (by omega)) ⟨t2,t2,trivial⟩ ?_;try conv=>cbv
    refine g2 rfl ?_;have hA:=Ou p q (by have:=of_decide_eq_true u.symm;omega);exact fA ⟨⟨rfl,congrArg _ ((z.uniq s.num (by rw[F];exact hA.1.symm)).1.symm),congrArg _ ((z.uniq s.num (by rw[F];exact hA.1.symm)).2.symm),congrArg _ ((A.uniq s.den (by rw[F];exact hA.2.symm)).1.symm),congrArg _ ((A.uniq s.den (by rw[F];exact hA.2.symm)).2.symm),trivial⟩,trivial⟩ rfl (by simp)
   obtain⟨aL,aM,L⟩:=AP (p.num+q.num);refine cL h (G5 hx.num g.num L (by omega) (by omega)) ⟨t2,t2,trivial⟩ ?_;try conv=>cbv
   refine g2 rfl ?_;exact fA ⟨⟨rfl,congrArg _ ((L.uniq s.num (by rw[F];exact (Fz (of_decide_eq_true t.symm) (of_decide_eq_true G.symm)).1.symm)).1.symm),congrArg _ ((L.uniq s.num (by rw[F];exact (Fz (of_decide_eq_true t.symm) (of_decide_eq_true G.symm)).1.symm)).2.symm),congrArg _ ((hx.den.uniq s.den (by rw[F,(Fz (of_decide_eq_true t.symm) (of_decide_eq_true G.symm)).2];exact of_decide_eq_true t.symm)).1.symm),congrArg _ ((hx.den.uniq s.den (by rw[F,(Fz (of_decide_eq_true t.symm) (of_decide_eq_true G.symm)).2];exact of_decide_eq_true t.symm)).2.symm),trivial⟩,trivial⟩ rfl (by simp)
  have aI:=Ad Z;have e0:q=0:=Rat.num_eq_zero.1 (g.num.Dh.1 (by omega));have Q:r=p:=by rw[F,e0,Rat.add_zero]
  exact fA ⟨⟨rfl,congrArg _ ((hx.num.uniq s.num (by rw[Q])).1.symm),congrArg _ ((hx.num.uniq s.num (by rw[Q])).2.symm),congrArg _ ((hx.den.uniq s.den (by rw[Q])).1.symm),congrArg _ ((hx.den.uniq s.den (by rw[Q])).2.symm),trivial⟩,trivial⟩ rfl (by simp)
 have aH:=Ad Y;have e0:p=0:=Rat.num_eq_zero.1 (hx.num.Dh.1 (by omega));have Q:r=q:=by rw[F,e0,Rat.zero_add]
 exact fA ⟨⟨rfl,congrArg _ ((g.num.uniq s.num (by rw[Q])).1.symm),congrArg _ ((g.num.uniq s.num (by rw[Q])).2.symm),congrArg _ ((g.den.uniq s.den (by rw[Q])).1.symm),congrArg _ ((g.den.uniq s.den (by rw[Q])).2.symm),trivial⟩,trivial⟩ rfl (by simp)
theorem XM {p:Rat} (h:p≠0):(1/p).num=(if p.num<0 then -(p.den:Int) else p.den)/\((1/p).den:Int)=if p.num<0 then -p.num else p.num:=by
 have f:p.num≠0:=mt Rat.num_eq_zero.1 h;have e:1/p=Rat.inv p:=by rw[Rat.div_def,Rat.one_mul];rfl
 rw[e];unfold Rat.inv
 split
 ·rename_i d;exact⟨rfl,by show ((p.num.natAbs:Nat):Int)=_;omega⟩
 rename_i d
 rw[dif_pos (by omega)];exact⟨rfl,by show ((p.num.natAbs:Nat):Int)=_;omega⟩
theorem Uk {p:Rat} (hx:Aq p b1 l1 b2 l2) (o:p≠0) (q:r=1/p) (i:Aq r d1 k1 d2 k2):CF 200 [.agg [.bool b1,.sl .u32 l1,.bool b2,.sl .u32 l2]] (.agg [.bool d1,.sl .u32 k1,.bool d2,.sl .u32 k2]):=by
 obtain⟨f,d⟩:=XM o;rw[<-q] at f d;refine AE Tryz.func200 (by kernel_rfl) rfl fun E k=>?_
 conv=>cbv
 cases b1 <;> conv=>cbv
 ·have h:=MW hx.num rfl;exact fA ⟨⟨rfl,congrArg _ ((hx.den.uniq i.num (by rw[f,if_neg h])).1.symm),congrArg _ ((hx.den.uniq i.num (by rw[f,if_neg h])).2.symm),congrArg _ ((hx.num.uniq i.den (by rw[d,if_neg h])).1.symm),congrArg _ ((hx.num.uniq i.den (by rw[d,if_neg h])).2.symm),trivial⟩,trivial⟩ rfl (by simp)
 obtain⟨s,t,j⟩:=AP (-(p.den:Int));refine cL k (IC hx.den j) ⟨t2,trivial⟩ ?_;try conv=>cbv
 obtain⟨m,n,g⟩:=AP (-p.num);refine cL k (IC hx.num g) ⟨t2,trivial⟩ ?_;try conv=>cbv
 refine g2 rfl ?_;have h:=MY hx.num rfl;exact fA ⟨⟨rfl,congrArg _ ((j.uniq i.num (by rw[f,if_pos h])).1.symm),congrArg _ ((j.uniq i.num (by rw[f,if_pos h])).2.symm),congrArg _ ((g.uniq i.den (by rw[d,if_pos h])).1.symm),congrArg _ ((g.uniq i.den (by rw[d,if_pos h])).2.symm),trivial⟩,trivial⟩ rfl (by simp)
theorem Uo {p:Rat} (hx:Aq p b1 l1 b2 l2) (q:BF p):CF 113 [.agg [.bool b1,.sl .u32 l1,.bool b2,.sl .u32 l2]] (.one (.bool true)):=by
 have s:=hx.small q;have o:=p.den_pos;refine AE Tryz.func113 (by kernel_rfl) rfl fun E g=>?_
 conv=>cbv
 refine cL g (Ob hx.num) ⟨t2,trivial⟩ ?_;try conv=>cbv
 refine cL g (Ob hx.den) ⟨t2,trivial⟩ ?_;try conv=>cbv
 obtain⟨n,h⟩:=xI ((1:Int));refine cL (r:= .one (.int .i64 n)) g (G7 hx.den (h.trans (by unfold BO;rw[if_neg (by omega),if_neg (by omega)]))) ⟨t2,trivial⟩ ?_;try conv=>cbv
 intro m f;conv=>cbv
 cases m <;> conv=>cbv
 ·have i:=BZ f;exact absurd i (by omega)
 have i:=Ba f;obtain⟨j,k,d⟩:=AP ((1:Int));refine cL (r:= .agg [.bool j,.sl .u32 k]) g (E8 hx.num hx.den (by rw[Int.natAbs_natCast,show Nat.gcd p.num.natAbs p.den=1 from p.reduced];exact d) (by omega) (by omega)) ⟨t2,t2,trivial⟩ ?_;try conv=>cbv
 refine cL g (Gd d rfl) ⟨t2,trivial⟩ ?_;try conv=>cbv
 exact fA ⟨t2,trivial⟩ rfl (by simp)
theorem RE {d r:Int} (f:r=BO d) (h:r<0):d<0:=by rcases Dj d with⟨a,e⟩ |⟨a,e⟩ |⟨a,e⟩ <;> omega
theorem RG {d r:Int} (f:r=BO d) (h:0<=r):¬d<0:=by rcases Dj d with⟨a,e⟩ |⟨a,e⟩ |⟨a,e⟩ <;> omega
theorem Jl {g:Int} (d:g≠0) (h:g∣x):x=BN x g*g:=by
 unfold BN
 split
 ·exact (Int.ediv_mul_cancel h).symm
 have:=Int.ediv_mul_cancel (a:= -x) (b:= -g) (Int.neg_dvd.2 (Int.dvd_neg.2 h));rw[Int.mul_neg] at this
 generalize -x/ -g*g=Q at*
 omega
theorem J8 (n d:Int):(if d<0 then -((Nat.gcd n.natAbs d.natAbs:Nat):Int) else ((Nat.gcd n.natAbs d.natAbs:Nat):Int))∣n/\(if d<0 then -((Nat.gcd n.natAbs d.natAbs:Nat):Int) else ((Nat.gcd n.natAbs d.natAbs:Nat):Int))∣d:=by
 have f:((Nat.gcd n.natAbs d.natAbs:Nat):Int)∣n:=Int.ofNat_dvd_left.2 (Nat.gcd_dvd_left _ _);have g:((Nat.gcd n.natAbs d.natAbs:Nat):Int)∣d:=Int.ofNat_dvd_left.2 (Nat.gcd_dvd_right _ _)
 split
 ·exact⟨Int.neg_dvd.2 f,Int.neg_dvd.2 g⟩
 exact⟨f,g⟩
theorem Ub {n d:Int} {q:Rat} (hx:AT n b1 l1) (v:AT d b2 l2) (u:d≠0) (J:q=Rat.divInt n d) (w:Aq q c1 m1 c2 m2) (s1:l1.length<=17592186042000) (s2:l2.length<=17592186042000):CF 132 [.agg [.bool b1,.sl .u32 l1],.agg [.bool b2,.sl .u32 l2]] (.agg [.bool c1,.sl .u32 m1,.bool c2,.sl .u32 m2]):=by
 refine AE Tryz.func132 (by kernel_rfl) rfl fun E z=>?_
 conv=>cbv
 obtain⟨L,M,k⟩:=AP (((Nat.gcd n.natAbs d.natAbs:Nat):Int));refine cL z (E8 hx v k (by omega) (by omega)) ⟨t2,t2,trivial⟩ ?_;try conv=>cbv
 obtain⟨N,i⟩:=xI (BO d);refine cL z (G7 v i) ⟨t2,trivial⟩ ?_;try conv=>cbv
 intro K C;conv=>cbv
 refine .inr ?_;cases K <;> conv=>cbv
 ·have m:=AR C;obtain⟨o,s,f⟩:=AP (BN n (if d<0 then -((Nat.gcd n.natAbs d.natAbs:Nat):Int) else ((Nat.gcd n.natAbs d.natAbs:Nat):Int)));have G:AT (if d<0 then -((Nat.gcd n.natAbs d.natAbs:Nat):Int) else ((Nat.gcd n.natAbs d.natAbs:Nat):Int)) L M:=by rw[if_neg (RG i m)];exact k
  have h:(if d<0 then -((Nat.gcd n.natAbs d.natAbs:Nat):Int) else ((Nat.gcd n.natAbs d.natAbs:Nat):Int))≠0:=by rw[if_neg (RG i m)];have:=J7 (n:=n) u;omega
  have F:BN n (if d<0 then -((Nat.gcd n.natAbs d.natAbs:Nat):Int) else ((Nat.gcd n.natAbs d.natAbs:Nat):Int))=q.num:=by rw[J];exact (KN u).symm
  have D:BN d (if d<0 then -((Nat.gcd n.natAbs d.natAbs:Nat):Int) else ((Nat.gcd n.natAbs d.natAbs:Nat):Int))=(q.den:Int):=by rw[J];exact (KM u).symm
  have B:n=BN n (if d<0 then -((Nat.gcd n.natAbs d.natAbs:Nat):Int) else ((Nat.gcd n.natAbs d.natAbs:Nat):Int))*(if d<0 then -((Nat.gcd n.natAbs d.natAbs:Nat):Int) else ((Nat.gcd n.natAbs d.natAbs:Nat):Int)):=Jl h (J8 n d).1;have A:d=BN d (if d<0 then -((Nat.gcd n.natAbs d.natAbs:Nat):Int) else ((Nat.gcd n.natAbs d.natAbs:Nat):Int))*(if d<0 then -((Nat.gcd n.natAbs d.natAbs:Nat):Int) else ((Nat.gcd n.natAbs d.natAbs:Nat):Int)):=Jl h (J8 n d).2;refine cL (r:= .agg [.bool o,.sl .u32 s]) z (Cv hx G h (B) f (by omega) (by have:=IX u v k;omega)) ⟨t2,t2,trivial⟩ ?_;try conv=>cbv
  obtain⟨p,t,g⟩:=AP (BN d (if d<0 then -((Nat.gcd n.natAbs d.natAbs:Nat):Int) else ((Nat.gcd n.natAbs d.natAbs:Nat):Int)));refine cL (r:= .agg [.bool p,.sl .u32 t]) z (Cv v G h (A) g (by omega) (by have:=IX u v k;omega)) ⟨t2,t2,trivial⟩ ?_;try conv=>cbv
  refine g2 rfl ?_;exact fA ⟨⟨rfl,congrArg _ ((f.uniq w.num F).1.symm),congrArg _ ((f.uniq w.num F).2.symm),congrArg _ ((g.uniq w.den D).1.symm),congrArg _ ((g.uniq w.den D).2.symm),trivial⟩,trivial⟩ rfl (by simp)
 have m:=AS C;obtain⟨H,I,j⟩:=AP (-((Nat.gcd n.natAbs d.natAbs:Nat):Int));refine cL z (IC k j) ⟨t2,trivial⟩ ?_;try conv=>cbv
 obtain⟨o,s,f⟩:=AP (BN n (if d<0 then -((Nat.gcd n.natAbs d.natAbs:Nat):Int) else ((Nat.gcd n.natAbs d.natAbs:Nat):Int)));have G:AT (if d<0 then -((Nat.gcd n.natAbs d.natAbs:Nat):Int) else ((Nat.gcd n.natAbs d.natAbs:Nat):Int)) H I:=by rw[if_pos (RE i m)];exact j
 have h:(if d<0 then -((Nat.gcd n.natAbs d.natAbs:Nat):Int) else ((Nat.gcd n.natAbs d.natAbs:Nat):Int))≠0:=by rw[if_pos (RE i m)];have:=J7 (n:=n) u;omega
 have F:BN n (if d<0 then -((Nat.gcd n.natAbs d.natAbs:Nat):Int) else ((Nat.gcd n.natAbs d.natAbs:Nat):Int))=q.num:=by rw[J];exact (KN u).symm
 have D:BN d (if d<0 then -((Nat.gcd n.natAbs d.natAbs:Nat):Int) else ((Nat.gcd n.natAbs d.natAbs:Nat):Int))=(q.den:Int):=by rw[J];exact (KM u).symm
 have B:n=BN n (if d<0 then -((Nat.gcd n.natAbs d.natAbs:Nat):Int) else ((Nat.gcd n.natAbs d.natAbs:Nat):Int))*(if d<0 then -((Nat.gcd n.natAbs d.natAbs:Nat):Int) else ((Nat.gcd n.natAbs d.natAbs:Nat):Int)):=Jl h (J8 n d).1;have A:d=BN d (if d<0 then -((Nat.gcd n.natAbs d.natAbs:Nat):Int) else ((Nat.gcd n.natAbs d.natAbs:Nat):Int))*(if d<0 then -((Nat.gcd n.natAbs d.natAbs:Nat):Int) else ((Nat.gcd n.natAbs d.natAbs:Nat):Int)):=Jl h (J8 n d).2;refine cL (r:= .agg [.bool o,.sl .u32 s]) z (Cv hx G h (B) f (by omega) (by have:=J6 u v j;omega)) ⟨t2,t2,trivial⟩ ?_;try conv=>cbv
 obtain⟨p,t,g⟩:=AP (BN d (if d<0 then -((Nat.gcd n.natAbs d.natAbs:Nat):Int) else ((Nat.gcd n.natAbs d.natAbs:Nat):Int)));refine cL (r:= .agg [.bool p,.sl .u32 t]) z (Cv v G h (A) g (by omega) (by have:=J6 u v j;omega)) ⟨t2,t2,trivial⟩ ?_;try conv=>cbv
 refine g2 rfl ?_;exact fA ⟨⟨rfl,congrArg _ ((f.uniq w.num F).1.symm),congrArg _ ((f.uniq w.num F).2.symm),congrArg _ ((g.uniq w.den D).1.symm),congrArg _ ((g.uniq w.den D).2.symm),trivial⟩,trivial⟩ rfl (by simp)
theorem G6 {n d:Int} {q:Rat} (m: -9223372036854775808<=n/\n<9223372036854775808) (k: -9223372036854775808<=d/\d<9223372036854775808) (i:d≠0) (t:q=Rat.divInt n d) (u:Aq q c1 m1 c2 m2):CF 67 [.one (.int .i64 n),.one (.int .i64 d)] (.agg [.bool c1,.sl .u32 m1,.bool c2,.sl .u32 m2]):=by
 refine AE Tryz.func67 (by kernel_rfl) rfl fun E h=>?_
 conv=>cbv
 intro v j;conv=>cbv
 cases v <;> conv=>cbv
 ·have o:=Ac j;obtain⟨w,z,g⟩:=AP (n);refine cL h (JM m g) t1 ?_;try conv=>cbv
  obtain⟨p,s,f⟩:=AP (d);refine cL h (JM k f) t1 ?_;try conv=>cbv
  refine cL (r:= .agg [.bool c1,.sl .u32 m1,.bool c2,.sl .u32 m2]) h (Ub g f i t u (by have:=LG m g;omega) (by have:=LG k f;omega)) ⟨t2,t2,trivial⟩ ?_;try conv=>cbv
  exact fA ⟨⟨rfl,rfl,rfl,rfl,rfl,trivial⟩,trivial⟩ rfl (by simp)
 have o:=Ad j;exact absurd o i
end Go.Abs
