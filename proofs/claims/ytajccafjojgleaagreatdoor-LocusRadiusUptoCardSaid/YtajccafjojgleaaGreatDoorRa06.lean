/- Part 7 of a proof. Conditions: each theorem's own. -/
import Derived.Test.YtajccafjojgleaaGreatDoorRa05
set_option linter.all false
set_option maxHeartbeats 80000000
set_option maxRecDepth 20000
open Go.Proofs
namespace Go.Abs
open Go.RowKit
section
variable {b b1 b2 b3:Bool} {l l1 l2 l3:List UInt32} {x y:Int}
theorem ff {b4:Bool} {l4:List UInt32} (R:BB x b1 l1) (P:BB y b2 l2) (w:y≠0) (L:BB (Cp x y) b3 l3) (M:BB (Hj x y) b4 l4) (s1:l1.length<=17592186043000) (s2:l2.length<=17592186043000):CF 317 [.agg (BZ b1 l1),.agg (BZ b2 l2)] (.Aj [(true,(BZ b3 l3)),(true,(BZ b4 l4)),(false,[.int .i64 0])]):=by
 refine AM Tryz.func317 fun E C=>?_
 obtain⟨Y,G⟩:=xU (AT (AF l2));refine AB C (FM rfl G) ?_;have t12:Y=l2:=by rw[G];exact P.trim
 rintro a8 ⟨a5,f14⟩;conv=>cbv
 refine BS (fun T=>?_) fun T=>?_
 ·exfalso;exact w (P.F1.1 (by rw[<-t12];omega))
 obtain⟨Z,H⟩:=xU (AT (AF l1));refine AB C (FM rfl H) ?_;have t21:Z=l1:=by rw[H];exact R.trim
 obtain⟨Q,j⟩:=xU (AT (x.natAbs/y.natAbs));obtain⟨X,g⟩:=xU (AT (x.natAbs%y.natAbs));refine AB (r:= .Aj [(false,[.sl .u32 Q]),(false,[.sl .u32 X])]) C (Pd (t21.trans R.Bb) (t12.trans P.Bb) AA j g (by rw[t21];omega)) ?_;have S:0<y.natAbs:=AA
 have a6:=Nat.div_add_mod x.natAbs y.natAbs;have a7:=Nat.mod_lt x.natAbs S;have A:=R.neg;have i:=P.neg;intro V N;conv=>cbv
 cases V <;> conv=>cbv
 ·have h:=PC N;refine .inr ?_;intro F B;conv=>cbv
  obtain⟨k,s,d⟩:=Av (Cp x y);refine AB (r:= .agg [.bool k,.sl .u32 s]) C (Fp (by rw[j,BU,B,h,YO w (by rw[<-A,<-i];exact h)];simp) d) ?_;obtain⟨p,t,f⟩:=Av (Hj x y);refine AB (r:= .agg [.bool p,.sl .u32 t]) C (Fp (by rw[g,BU];exact ni i w (by rw[<-A,<-i];exact h)) f) ?_;exact AN ⟨⟨rfl,congrArg _ ((d.uniq L rfl).1.symm),congrArg _ ((d.uniq L rfl).2.symm),trivial⟩,⟨rfl,congrArg _ ((f.uniq M rfl).1.symm),congrArg _ ((f.uniq M rfl).2.symm),trivial⟩,t2,trivial⟩
 have h:=PD N;refine AW ?_;rintro aa ⟨D,f33⟩ W O;refine .inr ?_;cases W <;> conv=>cbv
 ·have U:=Fi O;intro F B;conv=>cbv
  obtain⟨k,s,d⟩:=Av (Cp x y);refine AB (r:= .agg [.bool k,.sl .u32 s]) C (Fp (by have v:decide (x<0)≠decide (y<0):=(by rw[<-A,<-i];exact h);have K:F=true:=(by rw[B];simpa using h);rw[j,BU,K,if_pos rfl];exact YL w v (E3.1 (by rw[<-g];exact List.eq_nil_of_length_eq_zero AA))) d) ?_;obtain⟨p,t,f⟩:=Av (Hj x y);refine AB (r:= .agg [.bool p,.sl .u32 t]) C (Fp (by have v:decide (x<0)≠decide (y<0):=(by rw[<-A,<-i];exact h);rw[g,BU];exact ng w v (E3.1 (by rw[<-g];exact List.eq_nil_of_length_eq_zero AA))) f) ?_;exact AN ⟨⟨rfl,congrArg _ ((d.uniq L rfl).1.symm),congrArg _ ((d.uniq L rfl).2.symm),trivial⟩,⟨rfl,congrArg _ ((f.uniq M rfl).1.symm),congrArg _ ((f.uniq M rfl).2.symm),trivial⟩,t2,trivial⟩
 have U:=Fj O;refine⟨[(1:UInt32)],fun _=>⟨rfl,AE,rfl,⟨rfl,t1,trivial⟩⟩,.inl ?_⟩;try conv=>cbv
 obtain⟨a1,I⟩:=xU (AT (x.natAbs/y.natAbs+1));refine .inr (.inl ⟨[.one (.sl .u32 Q),.one (.sl .u32 [(1:UInt32)])],.one (.sl .u32 a1),fun _=>⟨rfl,⟨_,rfl,by simp <;> omega,Ai⟩,trivial⟩,fun _=>Gl C (Df (M8 rfl (bC j (rfl:[(1:UInt32)]=AT 1) I rfl (by rw[j];have h1:=EV (Nat.div_le_self x.natAbs y.natAbs);rw[<-R.Bb] at h1;omega) AE))),?_⟩);try conv=>cbv
 obtain⟨a2,J⟩:=xU (AT (y.natAbs-x.natAbs%y.natAbs));refine AB (r:= .one (.sl .u32 a2)) C (Tv (t12.trans P.Bb) g J (Nat.le_of_lt (Nat.mod_lt _ AA)) (by rw[t12];omega)) ?_;intro F B;obtain⟨k,s,d⟩:=Av (Cp x y);refine AB (r:= .agg [.bool k,.sl .u32 s]) C (Fp (by have v:decide (x<0)≠decide (y<0):=(by rw[<-A,<-i];exact h);have K:F=true:=(by rw[B];simpa using h);rw[I,BU,K,if_pos rfl];exact YM w v (fun e=>by rw[e,Gb] at g;rw[g] at D;simp at D;omega)) d) ?_;obtain⟨p,t,f⟩:=Av (Hj x y);refine AB (r:= .agg [.bool p,.sl .u32 t]) C (Fp (by have v:decide (x<0)≠decide (y<0):=(by rw[<-A,<-i];exact h);rw[J,BU];exact nh i w v (fun e=>by rw[e,Gb] at g;rw[g] at D;simp at D;omega)) f) ?_;exact AN ⟨⟨rfl,congrArg _ ((d.uniq L rfl).1.symm),congrArg _ ((d.uniq L rfl).2.symm),trivial⟩,⟨rfl,congrArg _ ((f.uniq M rfl).1.symm),congrArg _ ((f.uniq M rfl).2.symm),trivial⟩,t2,trivial⟩
theorem V5 (hx:BB x b1 l1) (hy:BB y b2 l2) (hz:BB ((Nat.gcd x.natAbs y.natAbs:Nat):Int) b3 l3) (s1:l1.length<=17592186043000) (s2:l2.length<=17592186043000):CF 294 [.agg (BZ b1 l1),.agg (BZ b2 l2)] (.agg (BZ b3 l3)):=by
 refine H0 Tryz.func294 fun E A=>?_
 conv=>cbv
 obtain⟨a1,F⟩:=xU (AT (AF l1));refine BO A (FM rfl F) ?_;conv=>cbv
 have t13:a1=l1:=by rw[F];exact hx.trim
 obtain⟨a2,G⟩:=xU (AT (AF l2));refine BO A (FM rfl G) ?_;conv=>cbv
 have t16:a2=l2:=by rw[G];exact hy.trim
 refine g2 rfl ?_;obtain⟨K0,K⟩:=xK fun vs D=>∃(u v:List UInt32) (P Q:Nat),vs=[.one (.BE 4 0 0),.one (.sl .u32 u),.one (.sl .u32 v)]/\D=[.var 0 [.bool false,.nil]]/\(u=AT P/\v=AT Q/\Nat.gcd P Q=Nat.gcd x.natAbs y.natAbs/\u.length<=17592186043000)/\v.length<=2/\(2<u.length->v.length=0)
 refine .inl ⟨[4,5,6],[4],K0,?_,?_⟩
 ·intro vs D S;rw[K] at S;obtain⟨u,v,P,Q,rfl,rfl,⟨hu,f,J,L⟩,au,ar⟩:=S;refine AW ?_;rintro aF ⟨aq,f39⟩;refine Lb ?_ ?_ <;> intro ay <;> conv=>cbv
  ·have O:Q=0:=E3.1 (by rw[<-f];exact List.eq_nil_of_length_eq_zero AA);obtain⟨aG,H⟩:=xU u;refine BO A (LG H AA) ?_;conv=>cbv
   obtain⟨a5,a7,t⟩:=Av (((Nat.gcd x.natAbs y.natAbs:Nat):Int));refine BO (r:= .agg [.bool a5,.sl .u32 a7]) A (Fp (by rw[H,hu,BU,<-J,O,Nat.gcd_zero_right];rfl) t) ?_;try conv=>cbv
   exact Dk ((t.uniq hz rfl).1.symm) ((t.uniq hz rfl).2.symm)
  have aj:u.length<=2:=AA
  have ak:v.length<=2:=AA
  have N:P<18446744073709551616:=by have:=C0 u;rw[hu,BU] at this;exact Nat.lt_of_lt_of_le this (Nat.pow_le_pow_right AE (by rw[<-hu];omega:32*(AT P).length<=64))
  have R:Q<18446744073709551616:=by have:=C0 v;rw[f,BU] at this;exact Nat.lt_of_lt_of_le this (Nat.pow_le_pow_right AE (by rw[<-f];omega:32*(AT Q).length<=64))
  obtain⟨Y,i⟩:∃n:Int,AR n (P):=⟨_,⟨rfl⟩⟩
  have ag:=i.eq;refine BO (r:= .one (.int .u64 Y)) A (RC (by rw[hu,BU]) AA i) ?_;conv=>cbv
  obtain⟨Z,j⟩:∃n:Int,AR n (Q):=⟨_,⟨rfl⟩⟩
  have ah:=j.eq;refine BO (r:= .one (.int .u64 Z)) A (RC (by rw[f,BU]) AA j) ?_;conv=>cbv
  refine BI [] [4,9,10] [4] (fun vs D k=>∃(C h:Nat) (p q:Int),vs=[.one (.BE 4 0 0),.one (.int .u64 p),.one (.int .u64 q)]/\D=[.var 0 [.bool false,.nil]]/\(AR p C/\AR q h/\C<18446744073709551616/\h<18446744073709551616)/\Nat.gcd C h=Nat.gcd P Q/\k=h) Q ⟨P,Q,Y,Z,rfl,rfl,⟨i,j,N,R⟩,rfl,rfl⟩ ?_;rintro J1 ad vs D aB ⟨C,h,p,q,rfl,rfl,⟨hp,hq,ai,W⟩,U,ae⟩;conv=>cbv
  have ep:=hp.eq;have eq:=hq.eq;refine C7 ?_ ?_ <;> intro az <;> conv=>cbv
  ·obtain⟨aH,I⟩:=xU (AT C);refine BO A (Lp hp AA I) ?_;conv=>cbv
   obtain⟨a6,a8,w⟩:=Av (((Nat.gcd x.natAbs y.natAbs:Nat):Int));refine BO (r:= .agg [.bool a6,.sl .u32 a8]) A (Fp (by rw[I,BU,<-J,<-U,(AA:h=0),Nat.gcd_zero_right];rfl) w) ?_;try conv=>cbv
   exact Dk ((w.uniq hz rfl).1.symm) ((w.uniq hz rfl).2.symm)
  refine .inr ?_;have V:0<h:=AA
  intro Dr ab;conv=>cbv
  refine FI ?_;have aa:Dr=((C%h:Nat):Int):=by rw[ab,ep,eq];exact (Int.natCast_emod _ _).symm
  refine g2 rfl ?_;refine⟨C%h,?_,?_⟩
  ·rw[ae];exact Nat.mod_lt _ V
  rw[ad];exact⟨h,C%h,_,_,rfl,rfl,⟨hq,⟨aa⟩,W,by have:=Nat.mod_lt C V;omega⟩,by rw[<-U,Nat.gcd_comm h,<-Nat.gcd_rec,Nat.gcd_comm],rfl⟩
 obtain⟨J0,B⟩:=xJ fun vs D k=>∃(u v:List UInt32) (P Q:Nat),vs=[.one (.BE 4 0 0),.one (.sl .u32 u),.one (.sl .u32 v)]/\D=[.var 0 [.bool false,.nil]]/\(u=AT P/\v=AT Q/\Nat.gcd P Q=Nat.gcd x.natAbs y.natAbs/\u.length<=17592186043000/\v.length<=17592186043000)/\k=Q
 refine⟨[],[4,5,6],[4],J0,⟨y.natAbs,by rw[B];exact⟨a1,a2,x.natAbs,y.natAbs,rfl,rfl,⟨t13.trans hx.Bb,t16.trans hy.Bb,rfl,by rw[t13];exact s1,by rw[t16];exact s2⟩,rfl⟩⟩,?_⟩;intro vs D aA S;rw[B] at S;obtain⟨u,v,P,Q,rfl,rfl,⟨hu,f,J,L,X⟩,T⟩:=S;refine AW ?_;rintro aC ⟨al,f18⟩;refine ko ?_ ?_ <;> intro av <;> conv=>cbv
 ·refine .inr ?_;have g:0<Q:=by apply Nat.pos_of_ne_zero;intro e;rw[e,Gb] at f;rw[f] at *;simp at *;omega
  obtain⟨af,s⟩:=xU (AT (P/Q));obtain⟨M,d⟩:=xU (AT (P%Q));refine BO A (Pd hu f g s d AA) ?_;conv=>cbv
  refine⟨P%Q,?_,?_⟩
  ·rw[T];exact Nat.mod_lt _ g
  rw[B];exact⟨v,M,Q,P%Q,rfl,rfl,⟨f,d,by rw[<-J,Nat.gcd_comm Q,<-Nat.gcd_rec,Nat.gcd_comm],X,by have:=EV (Nat.le_of_lt (Nat.mod_lt P g));rw[<-d,<-f] at this;omega⟩,rfl⟩
 rintro aD ⟨an,f22⟩;conv=>cbv
 refine PY ?_ ?_ <;> intro aw <;> conv=>cbv
 ·rw[K];exact⟨u,v,P,Q,rfl,rfl,⟨hu,f,J,L⟩,AA,AA⟩
 rintro aE ⟨ao,f26⟩;conv=>cbv
 refine PY ?_ ?_ <;> intro ax <;> conv=>cbv
 ·rw[K];exact⟨u,v,P,Q,rfl,rfl,⟨hu,f,J,L⟩,AA,AA⟩
 refine .inr ?_;have g:0<Q:=by apply Nat.pos_of_ne_zero;intro e;rw[e,Gb] at f;rw[f] at *;simp at *;omega
 obtain⟨af,s⟩:=xU (AT (P/Q));obtain⟨M,d⟩:=xU (AT (P%Q));refine BO A (Pd hu f g s d AA) ?_;conv=>cbv
 refine⟨P%Q,?_,?_⟩
 ·rw[T];exact Nat.mod_lt _ g
 rw[B];exact⟨v,M,Q,P%Q,rfl,rfl,⟨f,d,by rw[<-J,Nat.gcd_comm Q,<-Nat.gcd_rec,Nat.gcd_comm],X,by have:=EV (Nat.le_of_lt (Nat.mod_lt P g));rw[<-d,<-f] at this;omega⟩,rfl⟩
theorem ov {u:List UInt32} {X:Nat} (hu:u=AT X) (g:u.length<=l.length+1) (h:BB x b l) (s1:l.length<=17592186042000):(AT (X+x.natAbs/X)).length<=17592186044416:=by
 refine Nat.le_trans (GF (k:=l.length+2) ?_) AA;have d:=C0 u;rw[hu,BU] at d;have f:=C0 l;rw[h.nat] at f;have h3:=Nat.div_le_self x.natAbs X;have i:2^(32*(AT X).length)<=2^(32*(l.length+1)):=Nat.pow_le_pow_right AE (by rw[<-hu];omega);have j:2^(32*l.length)<=2^(32*(l.length+1)):=Nat.pow_le_pow_right AE AA;have p:2^(32*(l.length+2))=4294967296*2^(32*(l.length+1)):=EX (l.length+1);omega
theorem oE (g:BB x b l) (d:x.natAbs≠0):DM x.natAbs<=32*l.length/\DM x.natAbs=Nat.log2 x.natAbs+1:=by
 have f:=C0 l;rw[g.nat] at f;have h:=(Nat.log2_lt d).2 f;unfold DM;rw[if_neg d];exact⟨AA,rfl⟩
theorem gS {e:Int} (F:BB x b1 l1) (C:BB ((Bk x.toNat:Nat):Int) b3 l3) (he:e=if x<0 then 7 else 0) (s1:l1.length<=17592186042000):CF 318 [.agg (BZ b1 l1)] (BY (BZ b3 l3) e):=by
 refine AM Tryz.func318 fun E t=>?_
 obtain⟨ae,J⟩:=xI (Cd x);refine AB t (Mx F J) ?_;refine .inr ?_;refine BS (fun U=>?_) fun U=>?_
 ·have G:x<0:=by rcases GL x with⟨s,w⟩ |⟨s,w⟩ |⟨s,w⟩ <;> omega
  have O:((Bk x.toNat:Nat):Int)=0:=by rw[(AA:x.toNat=0)];rfl
  rw[O] at C;exact AN ⟨⟨rfl,congrArg _ (C.neg.trans rfl),.inr (.inl ⟨_,congrArg _ (C.Bb.trans rfl)⟩),trivial⟩,⟨rfl,congrArg _ (by rw[he,if_pos G]),trivial⟩,trivial⟩
 refine BS (fun V=>?_) fun V=>?_
 ·have G:x=0:=by rcases GL x with⟨s,w⟩ |⟨s,w⟩ |⟨s,w⟩ <;> omega
  have O:((Bk x.toNat:Nat):Int)=0:=by rw[(AA:x.toNat=0)];rfl
  rw[O] at C;exact AN ⟨⟨rfl,congrArg _ (C.neg.trans rfl),.inr (.inl ⟨_,congrArg _ (C.Bb.trans rfl)⟩),trivial⟩,⟨rfl,congrArg _ (by rw[he,if_neg AA]),trivial⟩,trivial⟩
 have G:0<x:=by rcases GL x with⟨s,w⟩ |⟨s,w⟩ |⟨s,w⟩ <;> omega
 have H:x.natAbs≠0:=AA
 have S:=oE F H;have a8:0<Bk x.natAbs:=by apply Nat.pos_of_ne_zero;intro e;have:=QI x.natAbs;rw[e] at this;omega
 obtain⟨af,A⟩:∃n:Int,AR n (DM x.natAbs):=⟨_,⟨rfl⟩⟩
 have a5:=A.eq;refine AB t (fV F A AA) ?_;intro ab a6 ad a7;obtain⟨Y,g⟩:=xU (AT (2^(DM x.natAbs/2+1)));refine AB t (qa (n:=DM x.natAbs/2+1) ⟨AA⟩ AA g) ?_;refine BI [] [1,2,5] [1,2] (fun vs bl k=>∃(u:List UInt32) (X:Nat),vs=[.one (.BE 1 0 0),.one (.BE 2 0 0),.one (.sl .u32 u)]/\bl=[.var 0 [.bool b1,.sl .u32 l1],.var 0 [.bool false,.nil]]/\(u=AT X/\Bk x.natAbs<=X/\0<X/\u.length<=l1.length+1)/\k=X) (2^(DM x.natAbs/2+1)) ⟨Y,_,rfl,rfl,⟨g,by rw[S.2];exact rI H,Nat.two_pow_pos _,by rw[g];exact GF (Nat.pow_lt_pow_right AE AA)⟩,rfl⟩ ?_;rintro J0 P vs bl aa ⟨u,X,rfl,rfl,⟨hu,D,v,T⟩,R⟩;conv=>cbv
 refine .inr ?_;obtain⟨Z,B⟩:=xU (AT (AF l1));refine AB t (FM rfl B) ?_;have t26:Z=l1:=by rw[B];exact F.trim
 obtain⟨a1,h⟩:=xU (AT (x.natAbs/X));obtain⟨W,K⟩:=xU (AT (x.natAbs%X));refine AB (r:= .Aj [(false,[.sl .u32 a1]),(false,[.sl .u32 W])]) t (Pd (t26.trans F.Bb) hu v h K (by rw[t26];omega)) ?_;obtain⟨a2,i⟩:=xU (AT (X+x.natAbs/X));refine AB (r:= .one (.sl .u32 a2)) t (bB hu h i AA (by rw[h];have s:=EV (Nat.div_le_self x.natAbs X);rw[<-F.Bb] at s;omega)) ?_;obtain⟨L,d⟩:=xU (AT ((X+x.natAbs/X)/2));refine AB (r:= .one (.sl .u32 L)) t (lz i d (by rw[i];exact ov hu T F s1)) ?_;obtain⟨ag,f⟩:=xI (Bp ((X+x.natAbs/X)/2:Nat) X);refine AB t (PS d hu f) ?_;refine I9 (fun p=>?_) fun p=>?_
 ·have I:(X+x.natAbs/X)/2<X:=by rw[f] at p;have:=JQ p;omega
  refine⟨(X+x.natAbs/X)/2,?_,?_⟩
  ·rw[R];exact I
  rw[P];exact⟨L,_,rfl,rfl,⟨d,dx D v,by have:=dx D v;omega,by rw[d];have:=EV (Nat.le_of_lt I);rw[<-hu] at this;omega⟩,rfl⟩
 obtain⟨M,N,j⟩:=Av (((X:Nat):Int));refine AB (r:= .agg [.bool M,.sl .u32 N]) t (Fp (by rw[hu,BU];rfl) j) ?_;have Q:X<=(X+x.natAbs/X)/2:=by rw[f] at p;have:=JP p;omega
 have hX:=rH D v Q;exact AN ⟨⟨rfl,congrArg _ ((j.uniq C (by rw[<-hX];congr 2;omega)).1.symm),congrArg _ ((j.uniq C (by rw[<-hX];congr 2;omega)).2.symm),trivial⟩,⟨rfl,congrArg _ (by rw[he,if_neg AA]),trivial⟩,trivial⟩
end
section
variable {a n:Nat} {b c:Bool} {l m z:List UInt32} {x:Int}
theorem qd {w:List UInt32} (j:x= -(AF l:Int)) (hw:w=AT (AF l)) (i:c=true↔0<w.length):BB x c w:=by
 by_cases d:AF l=0
 ·have h:w=[]:=by rw[hw,E3.2 d]
  have f:c=false:=by
   cases c with
   | false=>rfl
   | true=>have:=i.1 rfl;rw[h] at this;simp at this
  subst f;exact .val hw.symm (by rw[j,d];simp) (fun _=>rfl)
 have g:c=true:=i.2 (List.length_pos_iff.2 (fun e=>d (E3.1 (by rw[<-hw];exact e))));subst g;exact .val hw.symm (by rw[j];rfl) (fun e=>absurd e d)
theorem KN (L:AF l=n) (B:z=AT n):CF 156 [.one (.sl .u32 l)] (.one (.sl .u32 z)):=by
 have B:CR l=z:=by rw[B,<-L,Ma]
 refine AM Tryz.func156 fun E V=>?_
 refine BI [] [0] [] (fun vs F k=>∃m:List UInt32,vs=[.one (.sl .u32 m)]/\CR m=z/\k=m.length) l.length ⟨l,rfl,B,rfl⟩ ?_;rintro S v vs F N ⟨m,rfl,j,K⟩;refine AW ?_;rintro n4 ⟨T,f4⟩;refine FC (fun M=>?_) fun M=>?_
 ·have w:m=[]:=List.eq_nil_of_length_eq_zero AA;exact AL (by rw[<-j,w];rfl)
 rintro W ⟨U,f9⟩ d I;refine Ae ((d).toNat) fun r g=>?_
 refine AW ?_;intro P i;have G:=i.eq;have f12:=i.lt;refine CN (fun s=>?_) fun s=>?_
 ·have A:r≠0:=fun h=>by subst h;exact s i.eq
  have e2:m=m.take (d).toNat++[r]:=by have:=DU g;rw[List.take_of_length_le AA] at this;exact this
  exact AL (by rw[<-j,e2,LA A])
 refine .inr ?_;refine AK ?_;rintro Q ⟨H,f17⟩ R J O D t C p f;refine⟨p.length,?_,?_⟩
 ·rw[f];simp;omega
 rw[v];have el:p=m.take (d).toNat:=by rw[f,(AA:t=(d).toNat)];simp
 refine⟨p,rfl,?_,rfl⟩;obtain rfl:r=0:=UInt32.toNat_inj.1 (by show _=0;omega)
 have e2:m=m.take (d).toNat++[0]:=by
  have:=DU g;rw[List.take_of_length_le AA] at this;exact this
 rw[el,<-j];conv=>rhs;rw[e2]
 rw[J8]
theorem G8 {m:Nat} (P:n<=l.length) (hl:l.length<=140737488355328) (hm:m=(CR (l.take n)).length):JA Tryz.prog 156 (.AU .u32 0 0 0 n) (.arr 0 .u32 l) [] (.one (.AU .u32 0 0 0 m)) (.arr 0 .u32 l):=by
 refine ND Tryz.func156 (by kernel_rfl) rfl fun E Z=>?_
 conv=>cbv
 refine BI [] [0] [0] (fun vs B k=>∃q:Nat,vs=[.one (.AU .u32 0 0 0 q)]/\B=[.arr 0 .u32 l]/\q<=l.length/\m=(CR (l.take q)).length/\k=q) n ⟨n,rfl,rfl,P,hm,rfl⟩ ?_;rintro W v vs B R ⟨q,rfl,rfl,hq,j,O⟩;conv=>cbv
 intro n4 M;have X:=M.eq;conv=>cbv
 refine FC (fun Q=>?_) fun Q=>?_
 ·refine⟨fun _=>⟨⟨⟨rfl,.inr (.inr ⟨rfl,rfl,congrArg (AC.AU .u32 0 0 0) (by rw[j,(AA:q=0)];rfl)⟩),trivial⟩,trivial⟩,rfl,Ai⟩,fun _=>rfl⟩
 intro n9 N;have Y:=N.eq;refine AK ?_;intro S K p F;obtain⟨r,d⟩:=Bj (l:=l) (i:=p) AA;refine⟨r,fun _=>d,?_⟩;refine AW ?_;intro T g;have I:=g.eq;have f12:=g.lt;refine CN (fun s=>?_) fun s=>?_
 ·have w:r≠0:=fun h=>by subst h;exact s g.eq
  refine⟨fun _=>⟨⟨⟨rfl,.inr (.inr ⟨rfl,rfl,congrArg (AC.AU .u32 0 0 0) (by rw[j,(AA:q=p+1),DU d,LA w,List.length_append,List.length_take];simp;omega)⟩),trivial⟩,trivial⟩,rfl,Ai⟩,fun _=>rfl⟩
 refine .inr ?_;intro U t;have J:=t.eq;refine AK ?_;rintro V L H C A f ⟨G,D⟩;refine⟨f,?_,?_⟩
 ·omega
 rw[v];obtain rfl:A=0:=AA
 refine⟨f,rfl,rfl,AA,?_,rfl⟩;obtain rfl:r=0:=UInt32.toNat_inj.1 (by show _=0;omega);rw[j,(AA:q=f+1),DU (x:=0) (by rw[(AA:f=p)];exact d),J8]
theorem HY {n:Bool} (j:x=if n=true then -(AF l:Int) else AF l) (g:BB x b z):CF 104 [.one (.bool n),.one (.sl .u32 l)] (.agg (BZ b z)):=by
 refine AM Tryz.func104 fun E r=>?_
 obtain⟨k,d⟩:=xU (AT (AF l));refine AB r (KN rfl d) ?_;cases n <;> conv=>cbv
 ·have f:BB x false k:= .val d.symm j (fun _=>rfl);exact Dk ((f.uniq g rfl).1.symm) ((f.uniq g rfl).2.symm)
 refine AW ?_;rintro s ⟨p,f10⟩ i h;have f:BB x i k:=qd (by rw[j];rfl) d (by rw[h,decide_eq_true_eq];omega);exact Dk ((f.uniq g rfl).1.symm) ((f.uniq g rfl).2.symm)
theorem M6 {n:Int} {k:Nat} (F:AR n k) (K:k<18446744073709551616) (G:z=AT k):CF 105 [.one (.int .u64 n)] (.one (.sl .u32 z)):=by
 have J:=F.eq;refine AM Tryz.func105 fun E D=>?_
 intro n4 w;have w:=wrap_u32 w;refine AK ?_;intro L A;have A:=Es (p:=4294967296) A rfl;intro I B;conv=>cbv
 have B:=wrap_u32 B;obtain⟨g,d⟩:=CX (n:=n4) AA;have r:=d.eq;have t:=d.lt;obtain⟨h,f⟩:=CX (n:=I) AA;have s:=f.eq;have v:=f.lt;refine⟨[g,h],fun _=>⟨rfl,AE,rfl,⟨rfl,CW d,⟨rfl,CW f,trivial⟩⟩⟩,.inl ?_⟩;try conv=>cbv
 obtain⟨H,i⟩:=xN ((CR ([g,h].take 2)).length);obtain⟨C,j⟩:=FA Ai i;refine .inr (.inr (.inl ⟨[],.one (.AU .u32 0 0 0 H),.arr 0 .u32 [g,h],fun _=>⟨by first | decide | simp[Cq,Ch],trivial⟩,fun _=>⟨Ea D (G8 Ai Ai i),rfl,rfl⟩,?_⟩));try conv=>cbv
 exact AN ⟨⟨rfl,.inl ⟨_,rfl,by simp;omega,congrArg _ (by rw[List.drop_zero,j,G];congr 1;simp[AF];omega)⟩,trivial⟩,trivial⟩
theorem M1 (G: -9223372036854775808<=x/\x<9223372036854775808) (t:BB x b z):CF 48 [AH x] (.agg (BZ b z)):=by
 refine AM Tryz.func48 fun E s=>?_
 refine BQ (fun C=>?_) fun C=>?_
 ·intro D h;have h:=wrap_u64 h;obtain⟨F,f⟩:=xU (AT x.natAbs);refine AB s (M6 (AR.of (k:=x.natAbs) AA) AA f) ?_;obtain⟨j,p,d⟩:=Av (x);refine AB (r:= .agg [.bool j,.sl .u32 p]) s (HY (n:=false) (by rw[f,BU];simp;omega) d) ?_;exact Dk ((d.uniq t rfl).1.symm) ((d.uniq t rfl).2.symm)
 intro H A;have A:=wrap_u64 A;intro I B;conv=>cbv
 have B:=wrap_u64 B;obtain⟨J,i⟩:=xU (AT x.natAbs);refine AB s (M6 (AR.of (k:=x.natAbs) AA) AA i) ?_;obtain⟨v,w,g⟩:=Av (x);refine AB (r:= .agg [.bool v,.sl .u32 w]) s (HY (n:=true) (by rw[i,BU];simp;omega) g) ?_;exact Dk ((g.uniq t rfl).1.symm) ((g.uniq t rfl).2.symm)
theorem gx (h:x=if b=true then -(AF l:Int) else AF l) (f:BB x c z):CF 157 [.agg (BZ b l)] (.agg (BZ c z)):=by
 refine AM Tryz.func157 fun E g=>?_
 obtain⟨i,j,d⟩:=Av (x);refine AB g (HY h d) ?_;exact Dk ((d.uniq f rfl).1.symm) ((d.uniq f rfl).2.symm)
theorem Ia (d:BB x b l):CF 157 [.agg (BZ b l)] (.agg (BZ b l)):=gx d.Ep d
theorem M4 (k:BB x b l) (h:BB (-x) c z):CF 159 [.agg (BZ b l)] (.agg (BZ c z)):=by
 refine AM Tryz.func159 fun E j=>?_
 intro p i;obtain⟨f,g,d⟩:=Av (-x);refine AB (r:= .agg [.bool f,.sl .u32 g]) j (HY (by rw[i];exact dK k.Ep) d) ?_;exact Dk ((d.uniq h rfl).1.symm) ((d.uniq h rfl).2.symm)
theorem KL {c:Int} (d:BB x b l) (h:c=Cd x):CF 100 [.agg (BZ b l)] (AH c):=by
 refine AM Tryz.func100 fun E j=>?_
 refine AB j (Ia d) ?_;rintro k ⟨f,f7⟩;refine BS (fun i=>?_) fun i=>?_
 ·have g:AF l=0:=by rw[List.eq_nil_of_length_eq_zero (by omega:l.length=0)];rfl
  exact AL (by rw[h,d.Ep,g];unfold Cd;simp)
 cases b <;> conv=>cbv
 ·have g:AF l≠0:=fun e=>by rw[d.Bb] at f;have:=d.nat;rw[e] at this;rw[<-this] at f;exact i f
  exact AL (by rw[h,Qy d.Ep g];rfl)
 have g:AF l≠0:=fun e=>by rw[d.Bb] at f;have:=d.nat;rw[e] at this;rw[<-this] at f;exact i f
 exact AL (by rw[h,Qy d.Ep g];rfl)
theorem M5 {b:Nat} {c:Int} (v:l=AT a) (hm:m=AT b) (K:c=Bp a b):CF 214 [.one (.sl .u32 l),.one (.sl .u32 m)] (AH c):=by
 refine AM Tryz.func214 fun E hE=>?_
 rintro n7 ⟨e7,f7⟩ n9 ⟨e9,f9⟩;refine Gn (fun N=>?_) fun N=>?_
 ·rintro ad ⟨X,f12⟩ ae ⟨Y,f14⟩;refine BQ (fun O=>?_) fun O=>?_
  ·exact AL (by rw[K,<-SY (by rw[<-v,<-hm];omega),<-v,<-hm];unfold Bp;rw[if_neg AA,if_pos AA])
  exact AL (by rw[K,<-SY (by rw[<-v,<-hm];omega),<-v,<-hm];unfold Bp;rw[if_pos AA])
 rintro af ⟨Z,f17⟩ S a6;refine BI [] [0,1,5] [] (fun vs W k=>∃(j:Int) (k':Nat),vs=[.one (.sl .u32 l),.one (.sl .u32 m),AH j]/\(AR (j+1) k'/\k'<=l.length/\l.length=m.length/\AF (l.drop k')=AF (m.drop k'))/\k=k') l.length ⟨S,l.length,rfl,⟨⟨AA⟩,AA,AA,by rw[List.drop_length,(AA:l.length=m.length),List.drop_length]⟩,rfl⟩ ?_;rintro J0 M vs W ab ⟨j,k',rfl,⟨hj,a8,w,L⟩,aa⟩;conv=>cbv
 have ej:=hj.eq;refine I9 (fun P=>?_) fun P=>?_
 ·have hk:k'=0:=AA
  have he:a=b:=by rw[hk] at L;simpa [v,hm,BU] using L
  exact AL (by rw[K,he];simp[Bp])
 refine .inr ?_;refine Ae ((j).toNat) fun g p=>?_
 refine AW ?_;intro ag D;have C:=D.eq;have f26:=D.lt;refine Ae ((j).toNat) fun h r=>?_
 refine AK ?_;intro ah F U G;have a1:=F.eq;have f30:=F.lt;cases U <;> conv=>cbv
 ·have Q:=EG G;refine Ae ((j).toNat) fun d s=>?_
  refine AW ?_;intro ai H;have a2:=H.eq;have f35:=H.lt;refine Ae ((j).toNat) fun f t=>?_
  refine AK ?_;intro aj I V J;have a5:=I.eq;have f39:=I.lt;cases V <;> conv=>cbv
  ·have R:=Fi J;refine AK ?_;intro T a7;refine⟨k'-1,?_,?_⟩
   ·omega
   rw[M];obtain⟨i',rfl⟩:∃i',k'=i'+1:=⟨k'-1,AA⟩
   have e3:l[i']? =some g:=by rw[<-p];congr 1;omega
   have e4:m[i']? =some h:=by rw[<-r];congr 1;omega
   have e1:l[i']? =some d:=by rw[<-s];congr 1;omega
   have e2:m[i']? =some f:=by rw[<-t];congr 1;omega
   obtain rfl:d=g:=Option.some.inj (e1.symm.trans e3);obtain rfl:f=h:=Option.some.inj (e2.symm.trans e4);refine⟨T,i',rfl,⟨⟨AA⟩,AA,w,?_⟩,AA⟩;have C:d=f:=UInt32.toNat_inj.1 AA;subst C;exact drop_eq (i:=i') e1 e2 L
  have R:=Fj J;obtain⟨i',rfl⟩:∃i',k'=i'+1:=⟨k'-1,AA⟩
  have e1:l[i']? =some d:=by rw[<-s];congr 1;omega
  have e2:m[i']? =some f:=by rw[<-t];congr 1;omega
  have A:f.toNat<d.toNat:=AA
  have B:d≠f:=fun e=>by rw[e] at A;omega
  exact AL (by rw[K,<-BU a,<-BU b,<-v,<-hm,<-SZ e1 e2 w L B];unfold Bp;rw[if_neg AA,if_pos AA])
 have Q:=EH G;obtain⟨i',rfl⟩:∃i',k'=i'+1:=⟨k'-1,AA⟩
 have e1:l[i']? =some g:=by rw[<-p];congr 1;omega
 have e2:m[i']? =some h:=by rw[<-r];congr 1;omega
 have A:g.toNat<h.toNat:=AA
 have B:g≠h:=fun e=>by rw[e] at A;omega
 exact AL (by rw[K,<-BU a,<-BU b,<-v,<-hm,<-SZ e1 e2 w L B];unfold Bp;rw[if_pos AA])
theorem R3 {b:Nat} (hl:l=AT a) (hm:m=AT b) (hz:z=AT (a-b)) (a8:b<=a) (sl:l.length<=17592186044416):CF 220 [.one (.sl .u32 l),.one (.sl .u32 m)] (.one (.sl .u32 z)):=by
 have ab:m.length<=l.length:=by rw[hl,hm];exact EV a8
 refine AM Tryz.func220 fun E hE=>?_
 rintro aD ⟨au,f11⟩;refine⟨fun _=>⟨AA,AA,by show _*4<=140737488355328;omega⟩,?_⟩;intro N (O:List UInt32) L;have ar:=L.1;have F:O=List.replicate N (0:el .u32):=L.2;have aq:O.length=N:=by rw[F,List.length_replicate]
 conv=>cbv
 refine BI [] [0,1,5,6,7] [12] (fun vs bl k=>∃(o:List UInt32) (n J i':Nat) (c i:Int),vs=[.one (.sl .u32 l),.one (.sl .u32 m),.one (.AU .u32 12 0 0 n),.one (.int .u64 c),AH i]/\bl=[.arr 0 .u32 o]/\(o.length=l.length/\n=o.length/\AR i i'/\i'<=l.length/\AR c J/\J<=1)/\AF (o.take i')+AF (m.take i')=AF (l.take i')+2^(32*i')*J/\k=l.length-i') (l.length-0) ⟨O,N,0,0,0,0,rfl,rfl,⟨by rw[F,List.length_replicate];omega,by rw[F,List.length_replicate],BD 0,AA,BD 0,AA⟩,by simp[AF],rfl⟩ ?_;rintro J0 Z vs bl aC ⟨o,n,J,i',c,i,rfl,rfl,⟨ho,hn,hi,az,hc,ay⟩,hinv,aA⟩;have ei:=hi.eq;have ec:=hc.eq;refine AW ?_;rintro aE ⟨av,f15⟩;refine BQ (fun ad=>?_) fun ad=>?_
 ·have G:n<=(o).length:=AA
  obtain⟨af,K⟩:=xN ((CR ((o).take n)).length);obtain⟨aa,M⟩:=FA G K;refine .inr (.inr (.inl ⟨[],.one (.AU .u32 0 0 0 af),.arr 0 .u32 o,fun _=>⟨by first | decide | simp[Cq,Ch],trivial⟩,fun _=>⟨Ea hE (G8 G AA K),rfl,rfl⟩,?_⟩));try conv=>cbv
  have hk:i'=l.length:=AA
  have a1:AF (o.take n)=a-b:=by rw[hk,Dv ab,Dv (Nat.le_refl _),hm,hl,BU,BU,<-hl,<-ho,List.take_length] at hinv;have aB:=C0 o;generalize 2^(32*o.length)=P at *;rw[hn,List.take_length];rcases (by omega:J=0\/J=1) with e | e <;> rw[e] at hinv <;> omega
  exact AN ⟨⟨rfl,.inl ⟨_,rfl,AA,congrArg _ (by rw[List.drop_zero,M,a1,hz])⟩,trivial⟩,trivial⟩
 refine .inr ?_;refine AW ?_;rintro aF ⟨aw,f21⟩ ag W;refine .inr ?_;cases ag <;> conv=>cbv
 ·have ae:=EG W;refine Ae i' fun S H=>?_
  refine AW ?_;intro ah r ai s;have a6:=r.eq;have f31:=r.lt;have s:=wrap_u64 s;intro aj t;conv=>cbv
  have t:=wrap_u64 t;intro ak v;conv=>cbv
  have v:=wrap_u64 v;intro al A;conv=>cbv
  have A:=wrap_u64 A;intro R B;conv=>cbv
  have B:=wrap_u32 B;refine AK ?_;intro I a2;obtain⟨j,f⟩:=CX (n:=R) AA;have T:=f.eq;have U:=f.lt;refine⟨j,fun _=>⟨by show _<List.length (α:=UInt32) o;(first | omega | (simp;omega)),CW f⟩,?_⟩;intro (g:List UInt32) (d:g=List.set (α:=UInt32) o I j);have V:g.length=o.length:=by rw[d,List.length_set]
  refine AK ?_;intro an C;have C:=Es (p:=4294967296) C rfl;intro h D;conv=>cbv
  have D:=wrap_u64 D;refine AK ?_;intro Q a7;refine⟨l.length-(i'+1),?_,?_⟩
  ·omega
  rw[Z];refine⟨g,n,h.toNat,i'+1,h,Q,rfl,rfl,⟨by rw[d,List.length_set];exact ho,by rw[d,List.length_set];exact hn,⟨AA⟩,AA,⟨AA⟩,AA⟩,?_,rfl⟩;have hs:=L5 (w:=j) (o:=o) (i:=i') (xi:=S.toNat) (yi:=0) (GQ:=J) (GR:=h.toNat) AA hinv AA;rw[d,(AA:I=i'),Cu H,<-hs,Dv (l:=m) (i:=i'+1) AA,Dv (l:=m) (i:=i') AA,Nat.mul_zero]
  rfl
 have ae:=EH W;refine Ae i' fun ao a5=>?_
 refine AW ?_;intro aG X aH Y;have ax:=X.eq;have f26:=X.lt;have Y:=wrap_u64 Y;refine Ae i' fun S H=>?_
 refine AW ?_;intro ah r ai s;have a6:=r.eq;have f31:=r.lt;have s:=wrap_u64 s;intro aj t;conv=>cbv
 have t:=wrap_u64 t;intro ak v;conv=>cbv
 have v:=wrap_u64 v;intro al A;conv=>cbv
 have A:=wrap_u64 A;intro R B;conv=>cbv
 have B:=wrap_u32 B;refine AK ?_;intro I a2;obtain⟨j,f⟩:=CX (n:=R) AA;have T:=f.eq;have U:=f.lt;refine⟨j,fun _=>⟨by show _<List.length (α:=UInt32) o;(first | omega | (simp;omega)),CW f⟩,?_⟩;intro (g:List UInt32) (d:g=List.set (α:=UInt32) o I j);have V:g.length=o.length:=by rw[d,List.length_set]
 refine AK ?_;intro an C;have C:=Es (p:=4294967296) C rfl;intro h D;conv=>cbv
 have D:=wrap_u64 D;refine AK ?_;intro Q a7;refine⟨l.length-(i'+1),?_,?_⟩
 ·omega
 rw[Z];refine⟨g,n,h.toNat,i'+1,h,Q,rfl,rfl,⟨by rw[d,List.length_set];exact ho,by rw[d,List.length_set];exact hn,⟨AA⟩,AA,⟨AA⟩,AA⟩,?_,rfl⟩;have hs:=L5 (w:=j) (o:=o) (i:=i') (xi:=S.toNat) (yi:=ao.toNat) (GQ:=J) (GR:=h.toNat) AA hinv AA;rw[d,(AA:I=i'),Cu H,<-hs,Cu a5]
theorem il {b:Nat} (hl:l=AT a) (hm:m=AT b) (hz:z=AT (a+b)) (sl:l.length<=17592186044416) (sm:m.length<=17592186044416):CF 261 [.one (.sl .u32 l),.one (.sl .u32 m)] (.one (.sl .u32 z)):=by
 refine AM Tryz.func261 fun E hE=>?_
 rintro n9 ⟨e9,f9⟩ aQ ⟨aE,f11⟩ au U;obtain⟨ah,A⟩:=xK fun vs bl=>∃(p q:Nat) (x y:List UInt32),vs=[.one (.sl .u32 x),.one (.sl .u32 y)]/\x=AT p/\y=AT q/\p+q=a+b/\y.length<=x.length/\x.length<=17592186044416
 refine .inl ⟨[0,1],[],ah,?_,?_⟩
 ·intro vs bl hj;rw[A] at hj;obtain⟨p,q,x,y,rfl,hx,hy,ak,al,aO⟩:=hj;refine AK ?_;rintro aR ⟨aF,f16⟩ aS aL;refine⟨fun _=>⟨AA,AA,by show _*4<=140737488355328;omega⟩,?_⟩;intro L (M:List UInt32) J;have aD:=J.1;have B:M=List.replicate L (0:el .u32):=J.2;have aA:M.length=L:=by rw[B,List.length_replicate]
  conv=>cbv
  refine BI [] [0,1,5,6,7] [18] (fun vs bl k=>∃(o:List UInt32) (n Q i':Nat) (c i:Int),vs=[.one (.sl .u32 x),.one (.sl .u32 y),.one (.AU .u32 18 0 0 n),.one (.int .u64 c),AH i]/\bl=[.arr 0 .u32 o]/\(o.length=x.length+1/\n=o.length/\AR i i'/\i'<=x.length/\AR c Q/\Q<=1)/\AF (o.take i')+2^(32*i')*Q=AF (x.take i')+AF (y.take i')/\k=x.length-i') (x.length-0) ⟨M,L,0,0,0,0,rfl,rfl,⟨by rw[B,List.length_replicate];omega,by rw[B,List.length_replicate],BD 0,AA,BD 0,AA⟩,by simp[AF],rfl⟩ ?_;rintro J0 a6 vs bl aP ⟨o,n,Q,i',c,i,rfl,rfl,⟨ho,hn,hi,aN,hc,aM⟩,hinv,aa⟩;have ei:=hi.eq;have ec:=hc.eq;refine AW ?_;rintro aT ⟨aG,f21⟩;refine BQ (fun ao=>?_) fun ao=>?_
  ·rintro aZ ⟨aK,f52⟩ aw a5;have a5:=wrap_u32 a5;refine AK ?_;intro ad aC;obtain⟨P,D⟩:=CX (n:=aw) AA;have ay:=D.eq;have az:=D.lt;refine⟨P,fun _=>⟨by show _<List.length (α:=UInt32) o;(first | omega | (simp;omega)),CW D⟩,?_⟩;intro (r:List UInt32) (G:r=List.set (α:=UInt32) o ad P);have aB:r.length=o.length:=by rw[G,List.length_set]
   conv=>cbv
   have C:n<=(r).length:=AA
   obtain⟨ar,H⟩:=xN ((CR ((r).take n)).length);obtain⟨aj,K⟩:=FA C H;refine .inr (.inr (.inl ⟨[],.one (.AU .u32 0 0 0 ar),.arr 0 .u32 r,fun _=>⟨by first | decide | simp[Cq,Ch],trivial⟩,fun _=>⟨Ea hE (G8 C AA H),rfl,rfl⟩,?_⟩));try conv=>cbv
   have aa:i'=x.length:=AA
   have a7:AF (r.take n)=p+q:=by rw[G,hn,(AA:ad=x.length),(AA:o.length=x.length+1),FZ AA,Ei,List.length_take,Nat.min_eq_left AA,(AA:P.toNat=Q)];rw[aa,Dv (Nat.le_refl _),Dv al,hx,hy,BU,BU,<-hx] at hinv;exact hinv
   exact AN ⟨⟨rfl,.inl ⟨_,rfl,AA,congrArg _ (by rw[List.drop_zero,K,a7,ak,hz])⟩,trivial⟩,trivial⟩
  refine .inr ?_;refine Ae i' fun ag I=>?_
  refine AW ?_;intro aU V aV W;have aH:=V.eq;have f29:=V.lt;have W:=wrap_u64 W;intro ae X;conv=>cbv
  have X:=wrap_u64 X;refine AW ?_;rintro aW ⟨aI,f34⟩ av Y;refine .inr ?_;cases av <;> conv=>cbv
  ·have aq:=EG Y;intro O t;conv=>cbv
   have t:=wrap_u32 t;refine AK ?_;intro F a8;obtain⟨j,f⟩:=CX (n:=O) AA;have R:=f.eq;have S:=f.lt;refine⟨j,fun _=>⟨by show _<List.length (α:=UInt32) o;(first | omega | (simp;omega)),CW f⟩,?_⟩;intro (g:List UInt32) (d:g=List.set (α:=UInt32) o F j);have T:g.length=o.length:=by rw[d,List.length_set]
   refine AK ?_;intro h v;have v:=Es (p:=4294967296) v rfl;refine AK ?_;intro N ai;refine⟨x.length-(i'+1),?_,?_⟩
   ·omega
   rw[a6];refine⟨g,n,h.toNat,i'+1,h,N,rfl,rfl,⟨by rw[d,List.length_set];exact ho,by rw[d,List.length_set];exact hn,⟨AA⟩,AA,⟨AA⟩,AA⟩,?_,rfl⟩;have hs:=PL (o:=o.take i') (i:=i') (xi:=ag.toNat) (yi:=0) (s:=ae.toNat) (w:=j) (by rw[List.length_take];omega) hinv AA AA;rw[d,(AA:F=i'),FZ AA,Cu I,Dv (l:=y) (i:=i'+1) AA];rw[(AA:h.toNat=ae.toNat/4294967296)];rw[hs];rw[Dv (l:=y) (i:=i') AA];omega
  have aq:=EH Y;refine Ae i' fun ax ab=>?_
  refine AW ?_;intro aX Z aY a1;have aJ:=Z.eq;have f40:=Z.lt;have a1:=wrap_u64 a1;intro af a2;conv=>cbv
  have a2:=wrap_u64 a2;intro O t;conv=>cbv
  have t:=wrap_u32 t;refine AK ?_;intro F a8;obtain⟨j,f⟩:=CX (n:=O) AA;have R:=f.eq;have S:=f.lt;refine⟨j,fun _=>⟨by show _<List.length (α:=UInt32) o;(first | omega | (simp;omega)),CW f⟩,?_⟩;intro (g:List UInt32) (d:g=List.set (α:=UInt32) o F j);have T:g.length=o.length:=by rw[d,List.length_set]
  refine AK ?_;intro h v;have v:=Es (p:=4294967296) v rfl;refine AK ?_;intro N ai;refine⟨x.length-(i'+1),?_,?_⟩
  ·omega
  rw[a6];refine⟨g,n,h.toNat,i'+1,h,N,rfl,rfl,⟨by rw[d,List.length_set];exact ho,by rw[d,List.length_set];exact hn,⟨AA⟩,AA,⟨AA⟩,AA⟩,?_,rfl⟩;have hs:=PL (o:=o.take i') (i:=i') (xi:=ag.toNat) (yi:=ax.toNat) (s:=af.toNat) (w:=j) (by rw[List.length_take];omega) hinv AA AA;rw[d,(AA:F=i'),FZ AA,Cu I,Cu ab];rw[(AA:h.toNat=af.toNat/4294967296)];rw[hs]
 cases au <;> conv=>cbv
 ·have an:=EG U;rw[A];exact⟨a,b,_,_,rfl,hl,hm,rfl,AA,AA⟩
 have an:=EH U;rw[A];exact⟨b,a,_,_,rfl,hm,hl,Nat.add_comm _ _,AA,AA⟩
end
section
variable {b1 b2 b3:Bool} {l l1 l2 l3:List UInt32} {x y:Int}
theorem Ls {i:Nat} {x:UInt32} (h:l[i]? =some x):l.getD i 0=x:=by rw[List.getD_eq_getElem?_getD,h];rfl
theorem kC:Cd (x-y)=Bp x y:=by
 unfold Bp Cd
 split <;> split <;> (try split) <;> (try split) <;> omega
theorem W2 {m z:List UInt32} {a b:Nat} (hl:AF l=a) (hm:AF m=b) (hz:z=AT (a*b)) (sl:l.length<=17592186044416) (sm:m.length<=17592186044416):CF 258 [.one (.sl .u32 l),.one (.sl .u32 m)] (.one (.sl .u32 z)):=by
 refine AM Tryz.func258 fun E hE=>?_
 rintro n10 ⟨e10,f10⟩ n12 ⟨e12,f12⟩ n13 h13;refine⟨fun _=>⟨AA,AA,by show _*4<=140737488355328;omega⟩,?_⟩;intro k14 (l14:List UInt32) ql14;have hk14:=ql14.1;have hl14:l14=List.replicate k14 (0:el .u32):=ql14.2;have gl14:l14.length=k14:=by rw[hl14,List.length_replicate]
 conv=>cbv
 refine BI [] [0,1,5,6] [14] (fun vs bl k=>∃(o:List UInt32) (n i':Nat) (i:Int),vs=[.one (.sl .u32 l),.one (.sl .u32 m),.one (.AU .u32 14 0 0 n),AH i]/\bl=[.arr 0 .u32 o]/\(o.length=l.length+m.length/\n=o.length/\AR i i'/\i'<=l.length)/\AF (o.take (i'+m.length))=AF (l.take i')*AF m/\k=l.length-i') (l.length-0) ⟨l14,k14,0,0,rfl,rfl,⟨by rw[hl14,List.length_replicate];omega,by rw[hl14,List.length_replicate],BD 0,AA⟩,by rw[hl14,List.take_replicate,Iv];simp[AF],rfl⟩ ?_;rintro J0 hJ0 vs bl kk0 ⟨o,n,i',i,rfl,rfl,⟨ho,hn,hi,hiL⟩,hinv,hk0⟩;have ei:=hi.eq;refine AW ?_;rintro n17 ⟨e17,f17⟩;refine BQ (fun k18=>?_) fun k18=>?_
 ·have hnl66:n<=(o).length:=AA
  obtain⟨m66,hm66⟩:=xN ((CR ((o).take n)).length);obtain⟨hle66,htk66⟩:=FA hnl66 hm66;refine .inr (.inr (.inl ⟨[],.one (.AU .u32 0 0 0 m66),.arr 0 .u32 o,fun _=>⟨by first | decide | simp[Cq,Ch],trivial⟩,fun _=>⟨Ea hE (G8 hnl66 AA hm66),rfl,rfl⟩,?_⟩));try conv=>cbv
  have hfin:AF (o.take n)=a*b:=by rw[(AA:i'=l.length),List.take_length,hl,hm,<-ho,List.take_length] at hinv;rw[hn,List.take_length,hinv]
  exact AN ⟨⟨rfl,.inl ⟨_,rfl,AA,congrArg _ (by rw[List.drop_zero,htk66,hfin,hz])⟩,trivial⟩,trivial⟩
 refine .inr ?_;refine BI [] [0,1,5,6,7,8] [14] (fun vs bl k=>∃(o1:List UInt32) (n1 c' k':Nat) (c i1:Int),vs=[.one (.sl .u32 l),.one (.sl .u32 m),.one (.AU .u32 14 0 0 n1),AH i,.one (.int .u64 c),AH i1]/\bl=[.arr 0 .u32 o1]/\(o1.length=l.length+m.length/\n1=o1.length/\AR i1 k'/\k'<=m.length/\AR c c'/\c'<4294967296)/\AF (o1.take (i'+m.length))+2^(32*(i'+k'))*c'=AF (l.take i')*AF m+(l.getD i' 0).toNat*2^(32*i')*AF (m.take k')/\k=m.length-k') (m.length-0) ⟨o,n,0,0,0,0,rfl,rfl,⟨ho,hn,BD 0,AA,BD 0,AA⟩,by rw[hinv];simp[AF],rfl⟩ ?_;rintro J1 hJ1 vs bl kk1 ⟨o1,n1,c',k',c,i1,rfl,rfl,⟨ho1,hn1,hi1,hiL1,hc,hc1⟩,hinv1,hk1⟩;have ei1:=hi1.eq;have ec:=hc.eq;refine AW ?_;rintro n23 ⟨e23,f23⟩;refine BQ (fun k24=>?_) fun k24=>?_
 ·rintro n60 ⟨e60,f60⟩ n61 h61 n63 h63;have h63:=wrap_u32 h63;refine AK ?_;intro j64 hj64;obtain⟨w64,hw64⟩:=CX (n:=n63) AA;have ew64:=hw64.eq;have fw64:=hw64.lt;refine⟨w64,fun _=>⟨by show _<List.length (α:=UInt32) o1;(first | omega | (simp;omega)),CW hw64⟩,?_⟩;intro (l64:List UInt32) (hl64:l64=List.set (α:=UInt32) o1 j64 w64);have gl64:l64.length=o1.length:=by rw[hl64,List.length_set]
  refine AK ?_;intro n20 h20;refine⟨l.length-(i'+1),?_,?_⟩
  ·omega
  rw[hJ0];refine⟨l64,n1,i'+1,n20,rfl,rfl,⟨by rw[hl64,List.length_set];exact ho1,by rw[hl64,List.length_set];exact hn1,⟨AA⟩,AA⟩,?_,rfl⟩;obtain⟨ai,hai⟩:=Bj (l:=l) (i:=i') AA;have hk:k'=m.length:=AA
  have hlen:i'+m.length<o1.length:=AA
  rw[hl64,(AA:i'+1+m.length=i'+m.length+1),(AA:j64=i'+m.length),FZ hlen,Ei,List.length_take,Nat.min_eq_left AA,(AA:w64.toNat=c')];rw[hk,Ls hai] at hinv1;rw[hinv1,List.take_length,Cu hai]
  grind
 refine .inr ?_;refine AK ?_;intro n31 h31 j32 hj32;obtain⟨x33,hx33⟩:=Bj (l:=o1) (i:=j32) AA;refine⟨x33,fun _=>hx33,?_⟩;refine AW ?_;intro n33 h33 n34 h34;have e33:=h33.eq;have f33:=h33.lt;have h34:=wrap_u64 h34;intro n35 h35;conv=>cbv
 have h35:=wrap_u64 h35;refine Ae i' fun x38 hx38=>?_
 refine AW ?_;intro n39 h39 n40 h40;have e39:=h39.eq;have f39:=h39.lt;have h40:=wrap_u64 h40;refine Ae k' fun x43 hx43=>?_
 refine AW ?_;intro n44 h44 n45 h45;have e44:=h44.eq;have f44:=h44.lt;have h45:=wrap_u64 h45;have ep:n40*n45=((x38.toNat*x43.toNat:Nat):Int):=by rw[Int.natCast_mul];congr 1 <;> omega
 have bp:x38.toNat*x43.toNat<=4294967295*4294967295:=Nat.mul_le_mul AA AA;intro n46 h46;conv=>cbv
 have h46:=wrap_u64 h46;intro n47 h47;conv=>cbv
 have h47:=wrap_u64 h47;refine AK ?_;intro Du h51 Dr h53;have h53:=wrap_u32 h53;refine AK ?_;intro j54 hj54;obtain⟨w54,hw54⟩:=CX (n:=Dr) AA;have ew54:=hw54.eq;have fw54:=hw54.lt;refine⟨w54,fun _=>⟨by show _<List.length (α:=UInt32) o1;(first | omega | (simp;omega)),CW hw54⟩,?_⟩;intro (l54:List UInt32) (hl54:l54=List.set (α:=UInt32) o1 j54 w54);have gl54:l54.length=o1.length:=by rw[hl54,List.length_set]
 refine AK ?_;intro n56 h56;have h56:=Es (p:=4294967296) h56 rfl;refine AK ?_;intro n26 h26;refine⟨m.length-(k'+1),?_,?_⟩
 ·omega
 rw[hJ1];refine⟨l54,n1,n56.toNat,k'+1,n56,n26,rfl,rfl,⟨by rw[hl54,List.length_set];exact ho1,by rw[hl54,List.length_set];exact hn1,⟨AA⟩,AA,⟨AA⟩,AA⟩,?_,rfl⟩;have hj:j54=i'+k':=AA
 have hj2:j32=i'+k':=AA
 rw[hj2] at hx33;rw[Ls hx38] at hinv1;rw[hl54,hj,Cu hx43,(AA:i'+(k'+1)=i'+k'+1),Ls hx38];refine VT (q:=x33) (xi:=x38.toNat) (yk:=x43.toNat) (old:=x33.toNat) (c:=c') rfl AA hx33 rfl hinv1 ?_ rfl;rw[ep] at h46;omega
theorem EA (k:BB x b1 l1) (p:BB y b2 l2) (s:BB (x*y) b3 l3) (s1:l1.length<=17592186044416) (s2:l2.length<=17592186044416):CF 199 [.agg (BZ b1 l1),.agg (BZ b2 l2)] (.agg (BZ b3 l3)):=by
 refine AM Tryz.func199 fun E i=>?_
 refine AB i (Ia k) ?_;refine AB i (Ia p) ?_;intro t j;obtain⟨v,f⟩:=xU (AT (x.natAbs*y.natAbs));refine AB i (W2 k.nat p.nat f s1 s2) ?_;obtain⟨g,h,d⟩:=Av (x*y);refine AB (r:= .agg [.bool g,.sl .u32 h]) i (HY (by rw[f,BU,j];exact Z2 k.neg p.neg) d) ?_;exact Dk ((d.uniq s rfl).1.symm) ((d.uniq s rfl).2.symm)
theorem LI (v:BB x b1 l1) (w:BB y b2 l2) (A:BB (x+y) b3 l3) (s1:l1.length<=17592186044416) (s2:l2.length<=17592186044416):CF 205 [.agg (BZ b1 l1),.agg (BZ b2 l2)] (.agg (BZ b3 l3)):=by
 refine AM Tryz.func205 fun E j=>?_
 refine AB j (Ia v) ?_;refine AB j (Ia w) ?_;intro J B;cases J <;> conv=>cbv
 ·have k:=SM B;obtain⟨M,f⟩:=xI (Bp x.natAbs y.natAbs);refine AB j (M5 v.Bb w.Bb f) ?_;refine I9 (fun d=>?_) fun d=>?_
  ·obtain⟨L,t⟩:=xU (AT (y.natAbs-x.natAbs));refine AB (r:= .one (.sl .u32 L)) j (R3 w.Bb v.Bb t (by rw[f] at d;have:=JQ d;omega) s2) ?_;obtain⟨F,I,i⟩:=Av (x+y);refine AB (r:= .agg [.bool F,.sl .u32 I]) j (HY (by rw[t,BU];rw[f] at d;exact Ox v.neg w.neg k (by have:=JQ d;omega)) i) ?_;exact Dk ((i.uniq A rfl).1.symm) ((i.uniq A rfl).2.symm)
  obtain⟨K,s⟩:=xU (AT (x.natAbs-y.natAbs));refine AB (r:= .one (.sl .u32 K)) j (R3 v.Bb w.Bb s (by rw[f] at d;have:=JP d;omega) s1) ?_;obtain⟨D,H,h⟩:=Av (x+y);refine AB (r:= .agg [.bool D,.sl .u32 H]) j (HY (by rw[s,BU,Int.add_comm];rw[f] at d;exact Ox w.neg v.neg (Ne.symm k) (by have:=JP d;omega)) h) ?_;exact Dk ((h.uniq A rfl).1.symm) ((h.uniq A rfl).2.symm)
 have k:=SN B;obtain⟨N,p⟩:=xU (AT (x.natAbs+y.natAbs));refine AB j (il v.Bb w.Bb p s1 s2) ?_;obtain⟨C,G,g⟩:=Av (x+y);refine AB (r:= .agg [.bool C,.sl .u32 G]) j (HY (by rw[p,BU];exact add_same v.neg (k.trans w.neg)) g) ?_;exact Dk ((g.uniq A rfl).1.symm) ((g.uniq A rfl).2.symm)
theorem Wg (p:BB x b1 l1) (j:BB y b2 l2) (k:BB (x-y) b3 l3) (s1:l1.length<=17592186044416) (s2:l2.length<=17592186044416):CF 295 [.agg (BZ b1 l1),.agg (BZ b2 l2)] (.agg (BZ b3 l3)):=by
 refine AM Tryz.func295 fun E i=>?_
 obtain⟨s,t,d⟩:=Av (-y);refine AB i (M4 j d) ?_;obtain⟨g,h,f⟩:=Av (x-y);refine AB (r:= .agg [.bool g,.sl .u32 h]) i (LI p d f s1 (by rw[d.Bb,Int.natAbs_neg,<-j.Bb];exact s2)) ?_;exact Dk ((f.uniq k rfl).1.symm) ((f.uniq k rfl).2.symm)
theorem gb (i:BB x b1 l1) (j:BB y b2 l2) {c:Int} (h:c=Bp x y) (s1:l1.length<=17592186044416) (s2:l2.length<=17592186044416):CF 315 [.agg (BZ b1 l1),.agg (BZ b2 l2)] (AH c):=by
 refine AM Tryz.func315 fun E g=>?_
 obtain⟨k,p,f⟩:=Av (x-y);refine AB g (Wg i j f s1 s2) ?_;obtain⟨r,d⟩:=xI (Cd (x-y));refine AB g (KL f d) ?_;exact AL (by rw[h,d,kC])
end
section
variable {c:Int} {l:List UInt32} {n x:Nat}
theorem oD (h:0<x):DM x=DM (x/2)+1:=by
 by_cases g:x=1
 ·subst g;decide
 have f:x/2≠0:=AA
 unfold DM;rw[if_neg AA,if_neg f];have a:=Nat.log2_self_le f;have b:=Nat.lt_log2_self (n:=x/2);have c:Nat.log2 (x/2)+1<=Nat.log2 x:=(Nat.le_log2 AA).2 (by rw[Nat.pow_succ];omega);have d:Nat.log2 x<Nat.log2 (x/2)+2:=(Nat.log2_lt AA).2 (by rw[Nat.pow_succ,Nat.pow_succ];rw[Nat.pow_succ] at b;omega);omega
theorem QU (h:0<x):2^(DM x-1)<=x/\x<2^DM x/\1<=DM x:=by
 unfold DM;rw[if_neg AA];exact⟨by rw[Nat.add_sub_cancel];exact Nat.log2_self_le AA,Nat.lt_log2_self,AA⟩
theorem Z6 (h:x<4294967296):DM x<=32:=by
 unfold DM
 split
 ·omega
 rename_i d
 have:=(Nat.log2_lt d).2 (AA:x<2^32);omega
theorem jb {y r:Nat} (f:n<=32:=by omega):(x+4294967296*(y+4294967296*r))/2^n%4294967296=(x+4294967296*y)/2^n%4294967296:=by
 have d:2^n*2^(32-n)=4294967296:=by rw[<-Nat.pow_add,(AA:n+(32-n)=32)]
 have e:x+4294967296*(y+4294967296*r)=x+4294967296*y+2^n*(2^(32-n)*r*4294967296):=by
  rw[<-Nat.mul_assoc,<-Nat.mul_assoc,d];grind
 rw[e,Nat.add_mul_div_left _ _ (Nat.two_pow_pos n),Nat.add_mul_mod_self_right]
theorem oc {n a b:Int} {p q:Nat} (h:n=IntKind.u64.wrap (BitVec.ofInt IntKind.u64.bits a ||| BitVec.ofInt IntKind.u64.bits b).toNat) (ha:a=q) (hb:b=((p*4294967296:Nat):Int)) (g:p<4294967296) (f:q<4294967296):n=((q+4294967296*p:Nat):Int):=by
 rw[ak h ha hb AA AA,Nat.mul_comm];have:=MG (a:=q) (b:=p) (d:=32) f;exact congrArg _ this
theorem rW {X V top high P R0 V0:Nat} (h:X=top*P+R0) (hR:R0<P) (hV:V=high*P+V0) (i:0<high):X/V<=top/high:=by
 have f:0<P:=AA
 have d:X/V<=X/(high*P):=Nat.div_le_div_left AA (Nat.mul_pos i f);have g:X/(high*P)=X/P/high:=by rw[Nat.mul_comm,Nat.div_div_eq_div_mul]
 have h3:X/P=top:=by rw[h,Nat.mul_comm,Nat.mul_add_div f,Nat.div_eq_of_lt hR,Nat.add_zero]
 rw[g,h3] at d;exact d
theorem W1 (hl:l.length<=2) (K:AR c (AF l)):CF 215 [.one (.sl .u32 l)] (.one (.int .u64 c)):=by
 refine AM Tryz.func215 fun E Z=>?_
 rintro n6 ⟨W,f6⟩ U Y;refine BI [] [0,3,4] [] (fun vs G k=>∃(d g:Nat) (r j:Int),vs=[.one (.sl .u32 l),.one (.int .u64 r),AH j]/\(AR (j+1) d/\d<=l.length/\AR r g)/\g=AF (l.drop d)/\k=d) l.length ⟨l.length,0,0,U,rfl,⟨⟨AA⟩,AA,BD 0⟩,by rw[List.drop_length];rfl,rfl⟩ ?_;rintro V v vs G R ⟨d,g,r,j,rfl,⟨L,M,P⟩,hinv,O⟩;conv=>cbv
 have X:=L.eq;have I:=P.eq;refine I9 (fun Q=>?_) fun Q=>?_
 ·have N:d=0:=AA
  rw[N,List.drop_zero] at hinv;exact AL (by rw[K.eq,I,hinv])
 refine .inr ?_;refine AK ?_;intro A h;have h:=K5 (p:=4294967296) h rfl;obtain⟨i',rfl⟩:∃i',d=i'+1:=⟨d-1,AA⟩
 have F:g<4294967296:=by have:=C0 (l.drop (i'+1));rw[<-hinv] at this;exact Nat.lt_of_lt_of_le this (Nat.pow_le_pow_right AE (by rw[List.length_drop];omega:32*(l.drop (i'+1)).length<=32))
 refine Ae i' fun C t=>?_
 refine AW ?_;intro S i T s;have H:=i.eq;have f17:=i.lt;have s:=wrap_u64 s;intro B f;conv=>cbv
 have D:A=((g*4294967296:Nat):Int):=by clear hinv;omega
 have f:=Ko (p:=g) (q:=C.toNat) f AA AA AA AA;refine AK ?_;intro w J;refine⟨i',?_,?_⟩
 ·omega
 rw[v];refine⟨i',_,B,w,rfl,⟨⟨AA⟩,AA,⟨f⟩⟩,?_,rfl⟩;rw[EC t,hinv]
theorem Ws {z1:List UInt32} {d:Int} {b:Nat} (hd:AR d b) (hb:0<b) (ay:b<4294967296) (a6:z1=AT (AF l/b)) (hc:AR c (AF l%b)) (sl:l.length<=17592186044416):CF 216 [.one (.sl .u32 l),.one (.int .u32 d)] (.Aj [(false,[.sl .u32 z1]),(false,[.int .u32 c])]):=by
 have ed:=hd.eq;refine AM Tryz.func216 fun E hE=>?_
 rintro aD ⟨ar,f10⟩;refine⟨fun _=>⟨AA,AA,by show _*4<=140737488355328;omega⟩,?_⟩;intro L (M:List UInt32) F;have aq:=F.1;have h:M=List.replicate L (0:el .u32):=F.2;have al:M.length=L:=by rw[h,List.length_replicate]
 refine AK ?_;rintro aE ⟨au,f13⟩ aa aw;refine BI [] [0,1,6,7,8] [11] (fun vs bl k=>∃(o:List UInt32) (m g A:Nat) (r j:Int),vs=[.one (.sl .u32 l),.one (.int .u32 d),.one (.AU .u32 11 0 0 m),.one (.int .u64 r),AH j]/\bl=[.arr 0 .u32 o]/\(o.length=l.length/\m=o.length/\AR (j+1) A/\A<=l.length/\AR r g/\g<b)/\AF (l.drop A)=AF (o.drop A)*b+g/\k=A) l.length ⟨M,L,0,l.length,0,aa,rfl,rfl,⟨by rw[h,List.length_replicate];omega,by rw[h,List.length_replicate],⟨AA⟩,AA,BD 0,hb⟩,by rw[List.drop_length,List.drop_eq_nil_of_le (by rw[h,List.length_replicate];omega)];simp[AF],rfl⟩ ?_;rintro J0 a1 vs bl aC ⟨o,m,g,A,r,j,rfl,rfl,⟨ho,hm,hj,az,hr,J⟩,hinv,aA⟩;conv=>cbv
 have ej:=hj.eq;have er:=hr.eq;refine I9 (fun a7=>?_) fun a7=>?_
 ·have s:m<=(o).length:=AA
  obtain⟨a8,D⟩:=xN ((CR ((o).take m)).length);obtain⟨a2,K⟩:=FA s D;refine .inr (.inr (.inl ⟨[],.one (.AU .u32 0 0 0 a8),.arr 0 .u32 o,fun _=>⟨by first | decide | simp[Cq,Ch],trivial⟩,fun _=>⟨Ea hE (G8 s AA D),rfl,rfl⟩,?_⟩));refine AW ?_;intro aI U;have U:=wrap_u32 U;have hk:A=0:=AA
  rw[hk,List.drop_zero,List.drop_zero] at hinv;have hq:AF o=AF l/b:=by rw[hinv,Nat.add_comm,Nat.add_mul_div_right _ _ hb,Nat.div_eq_of_lt J,Nat.zero_add]
  have a5:g=AF l%b:=by rw[hinv,Nat.add_comm,Nat.add_mul_mod_self_right,Nat.mod_eq_of_lt J]
  exact AN ⟨⟨rfl,.inl ⟨_,rfl,AA,congrArg _ (by rw[List.drop_zero,K,a6,hm,List.take_length,hq])⟩,trivial⟩,⟨rfl,congrArg _ (by rw[hc.eq,<-a5];omega),trivial⟩,trivial⟩
 refine .inr ?_;refine AK ?_;intro ad G;have G:=K5 (p:=4294967296) G rfl;have G:ad=((g*4294967296:Nat):Int):=by clear hinv;omega
 obtain⟨i',rfl⟩:∃i',A=i'+1:=⟨A-1,AA⟩
 refine Ae i' fun f V=>?_
 refine AW ?_;intro aF O aG P;have av:=O.eq;have f24:=O.lt;have P:=wrap_u64 P;intro aH w;conv=>cbv
 have w:=Ko (p:=g) (q:=f.toNat) w AA AA AA AA;intro ae S;conv=>cbv
 have S:=wrap_u64 S;refine AK ?_;intro af H;have H:=wrap_u64 H;intro ag I;conv=>cbv
 have I:=wrap_u32 I;have W:ae=(b:Int):=AA
 have X:af=(((f.toNat+4294967296*g)/b:Nat):Int):=by rw[H,w,W,<-Int.natCast_ediv];have:=Nat.div_le_self (f.toNat+4294967296*g) b;generalize (f.toNat+4294967296*g)/b=Q at *;clear hinv;omega
 refine AK ?_;intro B ao;obtain⟨v,t⟩:=CX (n:=ag) AA;have aj:=t.eq;have ak:=t.lt;refine⟨v,fun _=>⟨by show _<List.length (α:=UInt32) o;(first | omega | (simp;omega)),CW t⟩,?_⟩;intro (N:List UInt32) (C:N=List.set (α:=UInt32) o B v);have an:N.length=o.length:=by rw[C,List.length_set]
 refine AW ?_;intro ah T;have T:=wrap_u64 T;refine AK ?_;intro ai Z ab ax;refine⟨i',?_,?_⟩
 ·omega
 rw[a1];have Y:ah=(b:Int):=AA
 have h5:=Nat.div_add_mod (f.toNat+4294967296*g) b;refine⟨N,m,(f.toNat+4294967296*g)%b,i',ai,ab,rfl,rfl,⟨AA,AA,⟨AA⟩,AA,⟨by rw[Z,w,Y];simp⟩,Nat.mod_lt _ hb⟩,?_,rfl⟩
 have aB:(f.toNat+4294967296*g)/b<4294967296:=Nat.div_lt_of_lt_mul (by
  have:4294967296*(g+1)<=4294967296*b:=Nat.mul_le_mul_left _ J;rw[Nat.mul_comm b];omega)
 have ew:v.toNat=(f.toNat+4294967296*g)/b:=by
  rw[X] at I
  generalize (f.toNat+4294967296*g)/b=Q at*
  clear hinv
  omega
 rw[EC V,hinv,C,EC (l:=o.set B v) (i:=i') (x:=v) (by rw[(AA:B=i'),List.getElem?_set_self AA]),(AA:B=i'),List.drop_set_of_lt AA,ew]
 generalize (f.toNat+4294967296*g)/b=Q at*
 generalize (f.toNat+4294967296*g)%b=R at*
 grind
theorem Ww {a:Nat} (t:l=AT a) (H:AR c (DM a)) (sl:l.length<=17592186044416):CF 217 [.one (.sl .u32 l)] (AH c):=by
 refine AM Tryz.func217 fun E hE=>?_
 rintro n6 ⟨e6,f6⟩;refine BS (fun W=>?_) fun W=>?_
 ·have v:a=0:=E3.1 (by rw[<-t];exact List.eq_nil_of_length_eq_zero AA);exact AL (by rw[H.eq,v];rfl)
 rintro Y ⟨K,f10⟩ Z N;refine Ae ((l.length-1)) fun f p=>?_
 refine AW ?_;intro D h;have L:=h.eq;have f13:=h.lt;refine BI [] [0,3,4] [] (fun vs J k=>∃(s x':Nat) (n x:Int),vs=[.one (.sl .u32 l),AH n,.one (.int .u32 x)]/\(AR n s/\AR x x'/\x'<4294967296)/\s+DM x'=DM f.toNat/\k=x') f.toNat ⟨0,f.toNat,0,D,rfl,⟨BD 0,⟨AA⟩,AA⟩,Nat.zero_add _,rfl⟩ ?_;rintro J0 w vs J X ⟨s,x',n,x,rfl,⟨U,V,I⟩,hinv,T⟩;conv=>cbv
 have en:=U.eq;have ex:=V.eq;have S:=Z6 (x:=f.toNat) AA;refine Ft (fun C=>?_) fun C=>?_
 ·refine .inr ?_;refine AK ?_;intro G O F i;have i:=wrap_u32 i;have g:0<x':=AA
  refine⟨x'/2,?_,?_⟩
  ·omega
  rw[w];refine⟨s+1,x'/2,G,F,rfl,⟨⟨AA⟩,⟨AA⟩,AA⟩,?_,rfl⟩;have:=oD g;omega
 rintro a1 ⟨M,f21⟩ a2 P a5 Q a6 R;have d:=p;rw[t] at d;have r:(AT a).length-1+1=(AT a).length:=by rw[<-t];omega
 have B:=NM d r;have A:=QU (x:=f.toNat) AA;have j:=SO d r A.1 A.2.1 A.2.2;have g:x'=0:=AA
 have v:DM 0=0:=rfl;rw[g,v] at hinv;rw[<-t] at j;exact AL (by rw[H.eq,j];omega)
theorem W0 {z:List UInt32} {s:Int} {zn:Nat} (hs:AR s n) (hn:n<=31) (aB:z.length=l.length+1) (a8:AF z=AF l*2^n) (aC:zn=z.length) (sl:l.length<=17592186044416):CF 218 [.one (.sl .u32 l),AH s] (.one (.own .u32 z zn)):=by
 have es:=hs.eq;refine AM Tryz.func218 fun E hE=>?_
 rintro n9 ⟨e9,f9⟩ aE aw;refine⟨fun _=>⟨AA,AA,by show _*4<=140737488355328;omega⟩,?_⟩;intro F (G:List UInt32) C;have ar:=C.1;have f:G=List.replicate F (0:el .u32):=C.2;have aj:G.length=F:=by rw[f,List.length_replicate]
 conv=>cbv
 refine BI [] [0,1,5,6] [11] (fun vs bl k=>∃(o:List UInt32) (c:UInt32) (m i':Nat) (i:Int),vs=[.one (.sl .u32 l),AH s,.one (.AU .u32 11 0 0 m),AH i]/\bl=[.arr 0 .u32 o]/\(o.length=l.length+1/\m=o.length/\AR i i'/\i'<=l.length)/\(o[i']? =some c/\c.toNat<2^n)/\AF (o.take i')+2^(32*i')*c.toNat=AF (l.take i')*2^n/\k=l.length-i') (l.length-0) ⟨G,0,F,0,0,rfl,rfl,⟨by rw[f,List.length_replicate];omega,by rw[f,List.length_replicate],BD 0,AA⟩,⟨by rw[f,List.getElem?_replicate,if_pos AA],Nat.two_pow_pos n⟩,by simp[AF],rfl⟩ ?_;rintro J0 a5 vs bl aD ⟨o,c,m,i',i,rfl,rfl,⟨ho,hm,hi,az⟩,⟨hc,a6⟩,hinv,aA⟩;have ei:=hi.eq;refine AW ?_;rintro aF ⟨au,f14⟩;refine BQ (fun aa=>?_) fun aa=>?_
 ·have hk:i'=l.length:=AA
  have U:AF o=AF l*2^n:=by rw[hk,List.take_length,<-Cu (l:=o) (by rw[<-hk];exact hc),List.take_of_length_le AA] at hinv;exact hinv
  exact AN ⟨⟨rfl,.inr (.inl ⟨_,_,AE,rfl,rfl,hm,rfl,C3 (Ny AA (by rw[a8,U])) AA⟩),trivial⟩,trivial⟩
 refine .inr ?_;refine Ae i' fun d W=>?_
 refine AW ?_;intro aG K aH L;have av:=K.eq;have f21:=K.lt;have L:=wrap_u64 L;refine AK ?_;intro ad M;have a1:d.toNat*2^n<9223372036854775808:=Nat.mul_lt_mul_of_lt_of_le (by omega:d.toNat<4294967296) (Nat.pow_le_pow_right AE hn:2^n<=2^31) AE;obtain⟨J,g,M⟩:∃q:Nat,q=d.toNat*2^n/\ad=q:=⟨_,rfl,(VC (p:=d.toNat) (e:=n) M AA AA).trans (by congr 1;exact Nat.mod_eq_of_lt AA)⟩
 rw[<-g] at a1;refine AK ?_;intro X an;obtain⟨Z,v⟩:=Bj (l:=o) (i:=X) AA;refine⟨Z,fun _=>v,?_⟩;refine AW ?_;intro aI O aJ Q;have a2:=O.eq;have f30:=O.lt;have Q:=wrap_u32 Q;intro I R;conv=>cbv
 have bo:0<=I/\I<4294967296:=by rw[wrap_u32 R];omega
 refine AK ?_;intro Y ao;obtain⟨A,r⟩:=CX (n:=I) AA;have af:=r.eq;have ah:=r.lt;refine⟨A,fun _=>⟨by show _<List.length (α:=UInt32) o;(first | omega | (simp;omega)),CW r⟩,?_⟩;intro (w:List UInt32) (B:w=List.set (α:=UInt32) o Y A);have ak:w.length=o.length:=by rw[B,List.length_set]
 refine AK ?_;intro aK ay aL S;have S:=Es (p:=4294967296) S rfl;intro ae T;conv=>cbv
 have T:=wrap_u32 T;refine AK ?_;intro D aq;obtain⟨h,t⟩:=CX (n:=ae) AA;have ag:=t.eq;have ai:=t.lt;refine⟨h,fun _=>⟨by show _<List.length (α:=UInt32) w;(first | omega | (simp;omega)),CW t⟩,?_⟩;intro (H:List UInt32) (j:H=List.set (α:=UInt32) w D h);have al:H.length=w.length:=by rw[j,List.length_set]
 refine AK ?_;intro ab ax;refine⟨l.length-(i'+1),?_,?_⟩
 ·omega
 rw[a5];have hq:2^n*2^(32-n)=4294967296:=by rw[<-Nat.pow_add,(AA:n+(32-n)=32)]
 have ec:Z=c:=by rw[(AA:X=i'),hc] at v;exact (Option.some.inj v).symm
 have V:J%4294967296=2^n*(d.toNat%2^(32-n)):=by rw[g,Nat.mul_comm d.toNat,<-hq,Nat.mul_mod_mul_left]
 have h6:=Qc R (p:=c.toNat) (q:=J%4294967296) (by rw[a2,ec]) AA (by have:=c.toNat_lt;omega) AA;rw[V,MG a6,<-V] at h6
 have a7:h.toNat<2^n:=by
  have:J/4294967296<2^n:=Nat.div_lt_of_lt_mul (by rw[g];exact (Nat.mul_lt_mul_right (Nat.two_pow_pos n)).2 AA);omega
 refine⟨H,h,m,i'+1,ab,rfl,rfl,⟨AA,AA,⟨AA⟩,AA⟩,⟨by rw[j,(AA:D=i'+1),List.getElem?_set_self AA],a7⟩,?_,rfl⟩;rw[j,(AA:D=i'+1),IQ (Nat.le_refl _),B,(AA:Y=i'),FZ AA,Ei,List.length_take,Nat.min_eq_left AA,Cu W,EX,Nat.add_mul,<-hinv];have e1:A.toNat+4294967296*h.toNat=c.toNat+d.toNat*2^n:=by rw[<-g];omega
 have e2:2^(32*i')*(A.toNat+4294967296*h.toNat)=2^(32*i')*(c.toNat+d.toNat*2^n):=by rw[e1]
 generalize 2^(32*i')=P at*
 generalize 2^n=N at*
 grind
end
section
variable {c n o:Nat} {l u z:List UInt32}
theorem cq {i k:Nat} {w:UInt32} (h:i+k<z.length):((z.set (i+k) w).drop i).take (k+1)=(z.drop i).take k++[w]:=by
 rw[List.drop_set,if_neg AA,Nat.add_sub_cancel_left,FZ (by rw[List.length_drop];omega)]
theorem W4 {m:Nat} (Q:o+n<=l.length) (hl:l.length<=140737488355328) (hm:m=(CR ((l.drop o).take n)).length):JA Tryz.prog 156 (.AU .u32 0 0 o n) (.arr 0 .u32 l) [] (.one (.AU .u32 0 0 o m)) (.arr 0 .u32 l):=by
 refine ND Tryz.func156 (by kernel_rfl) rfl fun E hE=>?_
 conv=>cbv
 refine BI [] [0] [0] (fun vs C k=>∃q:Nat,vs=[.one (.AU .u32 0 0 o q)]/\C=[.arr 0 .u32 l]/\o+q<=l.length/\m=(CR ((l.drop o).take q)).length/\k=q) n ⟨n,rfl,rfl,Q,hm,rfl⟩ ?_;rintro X A vs C S ⟨q,rfl,rfl,hq,p,P⟩;conv=>cbv
 intro n4 N;have Y:=N.eq;conv=>cbv
 refine FC (fun R=>?_) fun R=>?_
 ·refine⟨fun _=>⟨⟨⟨rfl,.inr (.inr ⟨rfl,rfl,congrArg (AC.AU .u32 0 0 o) (by rw[p,(AA:q=0)];rfl)⟩),trivial⟩,trivial⟩,rfl,Ai⟩,fun _=>rfl⟩
 intro n9 O;have Z:=O.eq;refine AK ?_;intro T L s G;obtain⟨g,d⟩:=Bj (l:=l) (i:=s) AA;refine⟨g,fun _=>d,?_⟩;refine AW ?_;intro U j;have J:=j.eq;have f12:=j.lt;refine CN (fun t=>?_) fun t=>?_
 ·have B:g≠0:=fun h=>by subst h;exact t j.eq
  have r:(l.drop o)[q-1]? =some g:=by rw[List.getElem?_drop,(AA:o+(q-1)=s)];exact d
  refine⟨fun _=>⟨⟨⟨rfl,.inr (.inr ⟨rfl,rfl,congrArg (AC.AU .u32 0 0 o) (by rw[p,(AA:q=q-1+1),DU r,LA B,List.length_append,List.length_take,List.length_drop];simp;omega)⟩),trivial⟩,trivial⟩,rfl,Ai⟩,fun _=>rfl⟩
 refine .inr ?_;intro V w;have K:=w.eq;refine AK ?_;rintro W M I D v f ⟨H,F⟩;refine⟨f,?_,?_⟩
 ·omega
 rw[A];obtain rfl:v=o:=AA
 refine⟨f,rfl,rfl,AA,?_,rfl⟩;obtain rfl:g=0:=UInt32.toNat_inj.1 (by show _=0;omega);rw[p,(AA:q=f+1),DU (x:=0) (by rw[List.getElem?_drop,(AA:v+f=s)];exact d),J8]
theorem iI {y p:List UInt32} {q:Int} {X V n':Nat} (hX:AF ((u.drop o).take c)=X) (b9:o+c<=u.length) (bc:u.length<=17592186044400) (U:y=AT V) (aI:y.length=n'+1) (b7:c=n'+2) (aD:X<4294967296*V) (hq:AR q (X/V)) (hp:p=AT (X/V*V)):Dn Tryz.prog 219 [.one (.AU .u32 0 0 o c),.one (.sl .u32 y)] (.arr 0 .u32 u) (.Aj [(false,[.int .u32 q]),(false,[.sl .u32 p])]):=by
 obtain⟨x,hx⟩:=xU ((u.drop o).take c);have bd:x.length=n'+2:=by rw[hx,List.length_take,List.length_drop];omega
 have aj:∀i,i<c->x[i]? =u[o+i]? :=fun i h=>by rw[hx,List.getElem?_take,if_pos h,List.getElem?_drop]
 rw[<-hx] at hX;refine Fx Tryz.func219 fun E hE=>?_
 refine AK ?_;rintro bg ⟨aX,f10⟩ aq aV;obtain⟨A,L⟩:=Bj (l:=u) (i:=aq) AA;refine⟨A,fun _=>L,?_⟩;refine AW ?_;intro bh Y bj Z;have aY:=Y.eq;have f14:=Y.lt;have Z:=wrap_u64 Z;refine AK ?_;intro aK a1;have a1:=K5 (p:=4294967296) a1 rfl;have aU:aK=((A.toNat*4294967296:Nat):Int):=AA
 refine AK ?_;intro bk b5 ar aW;obtain⟨C,M⟩:=Bj (l:=u) (i:=ar) AA;refine⟨C,fun _=>M,?_⟩;refine AW ?_;intro bl a2 bm a5;have aZ:=a2.eq;have f21:=a2.lt;have a5:=wrap_u64 a5;intro bn O;conv=>cbv
 have O:=Ko (p:=A.toNat) (q:=C.toNat) O AA AA AA AA;refine AK ?_;intro bo b6;refine Ae n' fun f N=>?_
 refine AW ?_;intro bp a6 aL a7;have b0:=a6.eq;have f28:=a6.lt;have a7:=wrap_u64 a7;have an:x[n'+1]? =some A:=by rw[aj _ AA,(AA:o+(n'+1)=aq)];exact L
 have ao:x[n']? =some C:=by rw[aj _ AA,(AA:o+n'=ar)];exact M
 have aH:f.toNat≠0:=NM (by rw[<-U];exact N) (by rw[<-U];omega);obtain⟨top,I⟩:∃t,t=C.toNat+4294967296*A.toNat:=⟨_,rfl⟩
 have aE:X=top*2^(32*n')+AF (x.take n'):=by have F:=Cu an;have h2:=Cu ao;rw[List.take_of_length_le AA,hX] at F;rw[F,h2,EX,I];grind
 have aC:V=f.toNat*2^(32*n')+AF (y.take n'):=by have F:=Cu N;rw[List.take_of_length_le AA,U,BU,<-U] at F;rw[F];grind
 have hg:=rW aE (MZ (l:=x) (n:=n')) aC AA;have R:0<V:=by have:=Nat.mul_pos (AA:0<f.toNat) (Nat.two_pow_pos (32*n'));omega
 have ba:X/V<4294967296:=(Nat.div_lt_iff_lt_mul R).2 aD;have bb:top<18446744073709551616:=AA
 refine AK ?_;intro aM P;have P:=wrap_u64 P;have a8:aM=((top/f.toNat:Nat):Int):=by rw[P,O,(AA:aL=(f.toNat:Int)),<-I,<-Int.natCast_ediv];have:=Nat.div_le_self top f.toNat;generalize top/f.toNat=Q at *;omega
 refine AK ?_;intro aN aa;obtain⟨ax,j⟩:=xK fun vs W=>∃(G:Nat) (g:Int),vs=[.one (.AU .u32 0 0 o c),.one (.sl .u32 y),.one (.int .u64 g)]/\W=[.arr 0 .u32 u]/\AR g G/\X/V<=G/\G<4294967296
 refine .inl ⟨[0,1,7],[0],ax,?_,?_⟩
 ·intro vs W hj;rw[j] at hj;obtain⟨G,g,rfl,rfl,ai,aA,ah⟩:=hj;have b4:=ai.eq;refine AW ?_;intro aO ab;have ab:=wrap_u32 ab;obtain⟨aR,v⟩:=CX (n:=aO) AA;have aS:=v.eq;have aT:=v.lt;refine⟨[aR],fun _=>⟨rfl,AE,rfl,⟨rfl,CW v,trivial⟩⟩,.inr ?_⟩;try conv=>cbv
  obtain⟨av,J⟩:=xU (AT (V*G));refine AB (r:= .one (.sl .u32 av)) hE (W2 (a:=V) (b:=G) (by rw[U,BU]) (by simp[AF];omega) J AA Ai) ?_;refine BI [] [0,1,7,8] [0] (fun vs W k=>∃(D:Nat) (d:Int) (pp:List UInt32),vs=[.one (.AU .u32 0 0 o c),.one (.sl .u32 y),.one (.int .u64 d),.one (.sl .u32 pp)]/\W=[.arr 0 .u32 u]/\(AR d D/\D<4294967296/\X/V<=D)/\pp=AT (V*D)/\k=D) G ⟨G,g,av,rfl,rfl,⟨ai,ah,aA⟩,J,rfl⟩ ?_;rintro J0 aB vs W bf ⟨D,d,pp,rfl,rfl,⟨hd,af,az⟩,B,b8⟩;conv=>cbv
  have ed:=hd.eq;have S:c<=(u.drop o).length:=by rw[List.length_drop];omega
  obtain⟨au,H⟩:=xN ((CR ((u.drop o).take c)).length);obtain⟨aG,T⟩:=FA S H;refine .inr (.inr (.inl ⟨[],.one (.AU .u32 0 0 o au),.arr 0 .u32 u,fun _=>⟨by first | decide | simp[Cq,Ch],trivial⟩,fun _=>⟨Ea hE (W4 AA AA H),rfl,rfl⟩,?_⟩));try conv=>cbv
  obtain⟨aQ,s⟩:=xI (Bp X (V*D:Nat));refine .inr (.inl ⟨[.one (.sl .u32 (((u).drop o).take au)),.one (.sl .u32 pp)],AH aQ,fun _=>⟨⟨_,rfl,AA,rfl⟩,rfl,trivial⟩,fun _=>Gl hE (M8 rfl (M5 (by rw[T,<-hx,hX]) B s)),?_⟩);try conv=>cbv
  refine BQ (fun w=>?_) fun w=>?_
  ·intro bq ae;have ae:=wrap_u32 ae;have aF:V*D<=X:=by rw[s] at w;have:=JP w;omega
   have ag:D=X/V:=Nat.le_antisymm ((Nat.le_div_iff_mul_le R).2 (by rw[Nat.mul_comm];exact aF)) az;refine fun _=>⟨⟨⟨⟨rfl,congrArg _ (by rw[hq.eq,<-ag];omega),trivial⟩,⟨rfl,congrArg _ (by rw[hp,B,<-ag,Nat.mul_comm]),trivial⟩,trivial⟩,rfl,Ai⟩,rfl⟩
  have ak:X<V*D:=by rw[s] at w;have:=JQ w;omega
  have ay:1<=D:=by apply Nat.pos_of_ne_zero;intro e;rw[e,Nat.mul_zero] at ak;omega
  have al:pp.length<=17592186044416:=by rw[B];refine Nat.le_trans (GF (k:=n'+2) ?_) AA;have F:=C0 y;rw[aI,U,BU] at F;have h2:2^(32*(n'+2))=4294967296*2^(32*(n'+1)):=EX (n'+1);rw[h2,Nat.mul_comm];exact Nat.mul_lt_mul_of_lt_of_le af (Nat.le_of_lt F) AA
  refine .inr ?_;intro aP ad;conv=>cbv
  have ad:=wrap_u64 ad;obtain⟨aw,K⟩:=xU (AT (V*D-V));refine AB (r:= .one (.sl .u32 aw)) hE (R3 B U K (by have:=Nat.mul_le_mul_left V ay;omega) al) ?_;exact BT aB ⟨D-1,aP,aw,rfl,rfl,⟨⟨AA⟩,AA,by have:=(Nat.div_lt_iff_lt_mul R).2 (show X<D*V by rw[Nat.mul_comm];exact ak);omega⟩,by rw[K,Nat.mul_sub,Nat.mul_one],rfl⟩
 cases aN <;> conv=>cbv
 ·have aJ:=Fi aa;rw[j];exact⟨_,_,rfl,rfl,⟨a8⟩,hg,AA⟩
 have aJ:=Fj aa;rw[j];exact⟨4294967295,_,rfl,rfl,⟨rfl⟩,AA,AA⟩
theorem iW {m:List UInt32} {a b:Nat} (ab:l=(u.drop o).take c) (aL:o+c<=u.length) (hl:l=AT a) (hm:m=AT b) (hz:z=AT (a-b)) (ai:b<=a) (sl:u.length<=17592186044416):Dn Tryz.prog 220 [.one (.AU .u32 0 0 o c),.one (.sl .u32 m)] (.arr 0 .u32 u) (.one (.sl .u32 z)):=by
 have ak:m.length<=l.length:=by rw[hl,hm];exact EV ai
 have aJ:l.length=c:=by rw[ab,List.length_take,List.length_drop];omega
 have a7:∀i,i<c->l[i]? =u[o+i]? :=fun i h=>by rw[ab,List.getElem?_take,if_pos h,List.getElem?_drop]
 refine Fx Tryz.func220 fun E hE=>?_
 conv=>cbv
 intro aN af;have aC:=af.eq;conv=>cbv
 refine⟨fun _=>⟨AA,AA,by show _*4<=140737488355328;omega⟩,?_⟩;intro S (T:List UInt32) Q;have aB:=Q.1;have I:T=List.replicate S (0:el .u32):=Q.2;have aA:T.length=S:=by rw[I,List.length_replicate]
 conv=>cbv
 refine BI [] [0,1,5,6,7] [0,12] (fun vs bl k=>∃(q:List UInt32) (n N i':Nat) (cc i:Int),vs=[.one (.AU .u32 0 0 o c),.one (.sl .u32 m),.one (.AU .u32 12 0 0 n),.one (.int .u64 cc),AH i]/\bl=[.arr 0 .u32 u,.arr 0 .u32 q]/\(q.length=l.length/\n=q.length/\AR i i'/\i'<=l.length/\AR cc N/\N<=1)/\AF (q.take i')+AF (m.take i')=AF (l.take i')+2^(32*i')*N/\k=l.length-i') (l.length-0) ⟨T,S,0,0,0,0,rfl,rfl,⟨by rw[I,List.length_replicate];omega,by rw[I,List.length_replicate],BD 0,AA,BD 0,AA⟩,by simp[AF],rfl⟩ ?_;rintro J0 a5 vs bl aM ⟨q,n,N,i',cc,i,rfl,rfl,⟨hq,hn,hi,aH,hc,aG⟩,hinv,aI⟩;conv=>cbv
 have ei:=hi.eq;have ec:=hc.eq;intro aO ag;have aD:=ag.eq;conv=>cbv
 refine BQ (fun al=>?_) fun al=>?_
 ·have J:n<=(q).length:=AA
  obtain⟨ao,O⟩:=xN ((CR ((q).take n)).length);obtain⟨aj,R⟩:=FA J O;refine .inr (.inr (.inl ⟨[],.one (.AU .u32 0 0 0 ao),.arr 0 .u32 q,fun _=>⟨by first | decide | simp[Cq,Ch],trivial⟩,fun _=>⟨Ea hE (G8 J AA O),rfl,rfl⟩,?_⟩));try conv=>cbv
  have hk:i'=l.length:=AA
  have a6:AF (q.take n)=a-b:=by rw[hk,Dv ak,Dv (Nat.le_refl _),hm,hl,BU,BU,<-hl,<-hq,List.take_length] at hinv;have aK:=C0 q;generalize 2^(32*q.length)=P at *;rw[hn,List.take_length];rcases (by omega:N=0\/N=1) with e | e <;> rw[e] at hinv <;> omega
  refine fun _=>⟨⟨⟨⟨rfl,.inl ⟨_,rfl,AA,congrArg _ (by rw[List.drop_zero,R,a6,hz])⟩,trivial⟩,trivial⟩,rfl,Ai⟩,rfl⟩
 refine .inr ?_;refine AW ?_;rintro aP ⟨aE,f21⟩ aq Z;refine .inr ?_;cases aq <;> conv=>cbv
 ·have an:=EG Z;refine AK ?_;intro L a8;obtain⟨t,g⟩:=Bj (l:=u) (i:=L) AA;refine⟨t,fun _=>g,?_⟩;refine AW ?_;intro ar v au A;have ae:=v.eq;have f31:=v.lt;have A:=wrap_u64 A;intro av B;conv=>cbv
  have B:=wrap_u64 B;intro aw C;conv=>cbv
  have C:=wrap_u64 C;intro ax D;conv=>cbv
  have D:=wrap_u64 D;intro V F;conv=>cbv
  have F:=wrap_u32 F;refine AK ?_;intro M aa;obtain⟨s,f⟩:=CX (n:=V) AA;have W:=f.eq;have X:=f.lt;refine⟨s,fun _=>⟨by show _<List.length (α:=UInt32) q;(first | omega | (simp;omega)),CW f⟩,?_⟩;intro (j:List UInt32) (d:j=List.set (α:=UInt32) q M s);have Y:j.length=q.length:=by rw[d,List.length_set]
  refine AK ?_;intro ay G;have G:=Es (p:=4294967296) G rfl;intro r H;conv=>cbv
  have H:=wrap_u64 H;refine AK ?_;intro U ah;refine⟨l.length-(i'+1),?_,?_⟩
  ·omega
  rw[a5];have K:l[i']? =some t:=by rw[a7 _ AA,(AA:o+i'=L)];exact g
  refine⟨j,n,r.toNat,i'+1,r,U,rfl,rfl,⟨by rw[d,List.length_set];exact hq,by rw[d,List.length_set];exact hn,⟨AA⟩,AA,⟨AA⟩,AA⟩,?_,rfl⟩;have hs:=L5 (w:=s) (o:=q) (i:=i') (xi:=t.toNat) (yi:=0) (GQ:=N) (GR:=r.toNat) AA hinv AA;rw[d,(AA:M=i'),Cu K,<-hs,Dv (l:=m) (i:=i'+1) AA,Dv (l:=m) (i:=i') AA,Nat.mul_zero]
  rfl
 have an:=EH Z;refine Ae i' fun az ad=>?_
 refine AW ?_;intro aQ a1 aR a2;have aF:=a1.eq;have f26:=a1.lt;have a2:=wrap_u64 a2;refine AK ?_;intro L a8;obtain⟨t,g⟩:=Bj (l:=u) (i:=L) AA;refine⟨t,fun _=>g,?_⟩;refine AW ?_;intro ar v au A;have ae:=v.eq;have f31:=v.lt;have A:=wrap_u64 A;intro av B;conv=>cbv
 have B:=wrap_u64 B;intro aw C;conv=>cbv
 have C:=wrap_u64 C;intro ax D;conv=>cbv
 have D:=wrap_u64 D;intro V F;conv=>cbv
 have F:=wrap_u32 F;refine AK ?_;intro M aa;obtain⟨s,f⟩:=CX (n:=V) AA;have W:=f.eq;have X:=f.lt;refine⟨s,fun _=>⟨by show _<List.length (α:=UInt32) q;(first | omega | (simp;omega)),CW f⟩,?_⟩;intro (j:List UInt32) (d:j=List.set (α:=UInt32) q M s);have Y:j.length=q.length:=by rw[d,List.length_set]
 refine AK ?_;intro ay G;have G:=Es (p:=4294967296) G rfl;intro r H;conv=>cbv
 have H:=wrap_u64 H;refine AK ?_;intro U ah;refine⟨l.length-(i'+1),?_,?_⟩
 ·omega
 rw[a5];have K:l[i']? =some t:=by rw[a7 _ AA,(AA:o+i'=L)];exact g
 refine⟨j,n,r.toNat,i'+1,r,U,rfl,rfl,⟨by rw[d,List.length_set];exact hq,by rw[d,List.length_set];exact hn,⟨AA⟩,AA,⟨AA⟩,AA⟩,?_,rfl⟩;have hs:=L5 (w:=s) (o:=q) (i:=i') (xi:=t.toNat) (yi:=az.toNat) (GQ:=N) (GR:=r.toNat) AA hinv AA;rw[d,(AA:M=i'),Cu K,<-hs,Cu ad]
theorem iG {s:Int} (aB:c<=u.length) (sl:u.length<=17592186044416) (hs:AR s n) (hn:n<=31) (hz:z=AT (AF (u.take c)/2^n)):Dn Tryz.prog 221 [.one (.AU .u32 0 0 0 c),AH s] (.arr 0 .u32 u) (.one (.sl .u32 z)):=by
 have es:=hs.eq;obtain⟨l,hl⟩:=xU (u.take c);have aE:l.length=c:=by rw[hl,List.length_take];omega
 have K:∀i,i<c->l[i]? =u[i]? :=fun i h=>by rw[hl,List.getElem?_take,if_pos h]
 rw[<-hl] at hz;refine Fx Tryz.func221 fun E hE=>?_
 conv=>cbv
 intro n9 h9;have e9:=h9.eq;conv=>cbv
 refine⟨fun _=>⟨AA,AA,by show _*4<=140737488355328;omega⟩,?_⟩;intro N (O:List UInt32) J;have ar:=J.1;have w:O=List.replicate N (0:el .u32):=J.2;have an:O.length=N:=by rw[w,List.length_replicate]
 conv=>cbv
 refine BI [] [0,1,5,6] [0,10] (fun vs bl k=>∃(o:List UInt32) (m i':Nat) (i:Int),vs=[.one (.AU .u32 0 0 0 c),AH s,.one (.AU .u32 10 0 0 m),AH i]/\bl=[.arr 0 .u32 u,.arr 0 .u32 o]/\(o.length=l.length/\m=o.length/\AR i i'/\i'<=l.length)/\AF (o.take i')=AF l/2^n%2^(32*i')/\k=l.length-i') (l.length-0) ⟨O,N,0,0,rfl,rfl,⟨by rw[w,List.length_replicate];omega,by rw[w,List.length_replicate],BD 0,AA⟩,by simp[AF,Nat.mod_one],rfl⟩ ?_;rintro J0 a5 vs bl aF ⟨o,m,i',i,rfl,rfl,⟨ho,hm,hi,aC⟩,hinv,aD⟩;conv=>cbv
 have ei:=hi.eq;intro aG aa;have au:=aa.eq;conv=>cbv
 refine BQ (fun ag=>?_) fun ag=>?_
 ·have A:m<=(o).length:=AA
  obtain⟨ai,H⟩:=xN ((CR ((o).take m)).length);obtain⟨af,L⟩:=FA A H;refine .inr (.inr (.inl ⟨[],.one (.AU .u32 0 0 0 ai),.arr 0 .u32 o,fun _=>⟨by first | decide | simp[Cq,Ch],trivial⟩,fun _=>⟨Ea hE (G8 A AA H),rfl,rfl⟩,?_⟩));try conv=>cbv
  have hk:i'=l.length:=AA
  have a6:AF o=AF l/2^n:=by rw[hk,<-ho,List.take_length,ho] at hinv;rw[hinv];exact Nat.mod_eq_of_lt (Nat.lt_of_le_of_lt (Nat.div_le_self _ _) (C0 l))
  refine fun _=>⟨⟨⟨⟨rfl,.inl ⟨_,rfl,AA,congrArg _ (by rw[List.drop_zero,L,hz,hm,List.take_length,a6])⟩,trivial⟩,trivial⟩,rfl,Ai⟩,rfl⟩
 refine .inr ?_;refine AK ?_;intro M ao;obtain⟨G,D⟩:=Bj (l:=u) (i:=M) AA;refine⟨G,fun _=>D,?_⟩;refine AW ?_;intro aH W aI X;have av:=W.eq;have f20:=W.lt;have X:=wrap_u64 X;refine AK ?_;intro aJ az;intro aK ad;have aw:=ad.eq;refine AW ?_;intro aj Y;refine .inr ?_;cases aj <;> conv=>cbv
 ·have ah:=EG Y;refine AK ?_;intro Q g;obtain⟨v,hv⟩:=xN G.toNat;obtain⟨al,B,g⟩:∃q:Nat,q=v/2^n/\Q=q:=⟨_,rfl,shr_var g AA AA (by show n<=64;omega)⟩
  rw[B] at g;intro R t;conv=>cbv
  have t:=wrap_u32 t;refine AK ?_;intro F a7;obtain⟨r,f⟩:=CX (n:=R) AA;have T:=f.eq;have U:=f.lt;refine⟨r,fun _=>⟨by show _<List.length (α:=UInt32) o;(first | omega | (simp;omega)),CW f⟩,?_⟩;intro (j:List UInt32) (d:j=List.set (α:=UInt32) o F r);have V:j.length=o.length:=by rw[d,List.length_set]
  refine AK ?_;intro P ab;refine⟨l.length-(i'+1),?_,?_⟩
  ·omega
  rw[a5];have ew:r.toNat=v/2^n%4294967296:=AA
  have C:l[i']? =some G:=by rw[K _ AA,(AA:i'=M)];exact D
  refine⟨j,m,i'+1,P,rfl,rfl,⟨by rw[d,List.length_set];exact ho,by rw[d,List.length_set];exact hm,⟨AA⟩,AA⟩,?_,rfl⟩;rw[d,(AA:F=i'),FZ AA,Ei,List.length_take,Nat.min_eq_left AA,hinv,RE,ew];rw[Nat.div_div_eq_div_mul,Nat.mul_comm (2^n),<-Nat.div_div_eq_div_mul,Pc (by omega:i'<=l.length),EC C,List.drop_eq_nil_of_le (by omega:l.length<=i'+1),hv,AF,Nat.mul_zero,Nat.add_zero]
 have ah:=EH Y;refine AK ?_;intro aL aA a8 aq;obtain⟨S,I⟩:=Bj (l:=u) (i:=a8) AA;refine⟨S,fun _=>I,?_⟩;refine AW ?_;intro aM Z aN a1;have ax:=Z.eq;have f32:=Z.lt;have a1:=wrap_u64 a1;refine AK ?_;intro aO a2;have a2:=K5 (p:=4294967296) a2 rfl;intro ak ae;conv=>cbv
 obtain⟨v,hv,ay⟩:∃v:Nat,v=G.toNat+4294967296*S.toNat/\ak=v:=⟨_,rfl,oc ae AA AA AA AA⟩
 refine AK ?_;intro Q g;obtain⟨al,B,g⟩:∃q:Nat,q=v/2^n/\Q=q:=⟨_,rfl,shr_var g AA AA (by show n<=64;omega)⟩
 rw[B] at g;intro R t;conv=>cbv
 have t:=wrap_u32 t;refine AK ?_;intro F a7;obtain⟨r,f⟩:=CX (n:=R) AA;have T:=f.eq;have U:=f.lt;refine⟨r,fun _=>⟨by show _<List.length (α:=UInt32) o;(first | omega | (simp;omega)),CW f⟩,?_⟩;intro (j:List UInt32) (d:j=List.set (α:=UInt32) o F r);have V:j.length=o.length:=by rw[d,List.length_set]
 refine AK ?_;intro P ab;refine⟨l.length-(i'+1),?_,?_⟩
 ·omega
 rw[a5];have ew:r.toNat=v/2^n%4294967296:=AA
 have C:l[i']? =some G:=by rw[K _ AA,(AA:i'=M)];exact D
 refine⟨j,m,i'+1,P,rfl,rfl,⟨by rw[d,List.length_set];exact ho,by rw[d,List.length_set];exact hm,⟨AA⟩,AA⟩,?_,rfl⟩;rw[d,(AA:F=i'),FZ AA,Ei,List.length_take,Nat.min_eq_left AA,hinv,RE,ew];rw[Nat.div_div_eq_div_mul,Nat.mul_comm (2^n),<-Nat.div_div_eq_div_mul,Pc (by omega:i'<=l.length),EC C,EC (show l[i'+1]? =some S from (by rw[K _ AA,(AA:i'+1=a8)];exact I)),jb,hv]
end
section
theorem Wt {l m z1 z2:List UInt32} {a b:Nat} (hl:l=AT a) (hm:m=AT b) (hb:0<b) (hz1:z1=AT (a/b)) (hz2:z2=AT (a%b)) (sl:l.length<=17592186043990):CF 158 [.one (.sl .u32 l),.one (.sl .u32 m)] (.Aj [(false,[.sl .u32 z1]),(false,[.sl .u32 z2])]):=by
 refine H0 Tryz.func158 fun E hE=>?_
 conv=>cbv
 obtain⟨r22,hr22⟩:=xI (Bp a b);refine BO hE (M5 hl hm hr22) ?_;refine AW ?_;intro n23 h23;cases n23 <;> conv=>cbv
 ·have k23:=EG h23;have hba:b<=a:=by rw[hr22] at k23;have:=JP k23;omega
  have hml:m.length<=l.length:=by rw[hl,hm];exact EV hba
  have hm0:m.length≠0:=fun e=>by have e2:=List.eq_nil_of_length_eq_zero e;rw[hm] at e2;have:=E3.1 e2;omega
  refine AW ?_;intro n26 h26 n27 h27;have e26:=h26.eq;have f26:=h26.le;cases n27 <;> conv=>cbv
  ·have k27:=Nn h27;refine AW ?_;intro n41 h41 n42 h42;have e41:=h41.eq;have f41:=h41.le;cases n42 <;> conv=>cbv
   ·have k42:=Bu h42;refine AW ?_;intro n56 h56 n57 h57;have e56:=h56.eq;have f56:=h56.le;refine DI ?_;obtain⟨r59,hr59⟩:∃n:Int,AR n (DM b):=⟨_,⟨rfl⟩⟩
    have er59:=hr59.eq;refine BO hE (Ww hm hr59 AA) ?_;conv=>cbv
    obtain⟨n,hn⟩:∃n,n=m.length:=⟨_,rfl⟩
    have hn2:2<=n:=AA
    obtain⟨xt,hxt⟩:=Bj (l:=m) (i:=n-1) AA;have hxtb:=hxt;rw[hm] at hxtb;have hxt1:n-1+1=(AT b).length:=by rw[<-hm];omega
    have hxt0:=NM hxtb hxt1;have hsp:=QU (x:=xt.toNat) AA;have hbw:=SO hxtb hxt1 hsp.1 hsp.2.1 hsp.2.2;have h32:=Z6 (x:=xt.toNat) (by have:=xt.toNat_lt;omega);obtain⟨s,hs⟩:∃s,s=32-DM xt.toNat:=⟨_,rfl⟩
    intro n60 h60;conv=>cbv
    refine DI ?_;have e60s:n60=(s:Int):=AA
    have hs60:AR n60 s:=⟨e60s⟩;obtain⟨z63,hz631,hz632⟩:=Kq (N:=AF l*2^s) (k:=l.length+1) (Qz l);obtain⟨zn63,hzn63⟩:∃k,k=z63.length:=⟨_,rfl⟩
    refine BO hE (W0 hs60 AA hz631 hz632 hzn63 AA) ?_;conv=>cbv
    obtain⟨z66,hz661,hz662⟩:=Kq (N:=AF m*2^s) (k:=m.length+1) (Qz m);refine BO hE (Df (W0 hs60 AA hz661 hz662 rfl AA)) ?_;conv=>cbv
    obtain⟨w67,hw67⟩:=xU (AT (AF m*2^s));refine BO hE (KN hz662 hw67) ?_;conv=>cbv
    obtain⟨hwl,hwV⟩:=dO (b:=b) (n:=n) (s:=s) (x:=xt) (k:=DM xt.toNat) (by rw[<-hm,hn]) AA hxtb hsp.1 hsp.2.1 hsp.2.2 h32 hs;obtain⟨V,hVw⟩:∃V,V=AF w67:=⟨_,rfl⟩
    have hV:V=b*2^s:=by rw[hVw,hw67,BU,hm,BU]
    have hyV:w67=AT V:=by rw[hV,hw67,hm,BU]
    have hwn:w67.length=n:=by rw[hyV,hV];exact hwl
    rw[<-hV] at hwV;intro n69 h69;have e69:=h69.eq;have f69:=h69.le;conv=>cbv
    refine⟨fun _=>⟨AA,AA,by show _*4<=140737488355328;omega⟩,?_⟩;intro k70 (l70:List UInt32) ql70;have hk70:=ql70.1;have hl70:l70=List.replicate k70 (0:el .u32):=ql70.2;have gl70:l70.length=k70:=by rw[hl70,List.length_replicate]
    refine AW ?_;intro n72 h72 n74 h74;have e72:=h72.eq;have f72:=h72.le;have e74:=h74.eq;have f74:=h74.le;obtain⟨A,hA⟩:∃A,A=AF z63:=⟨_,rfl⟩
    have hVpos:0<V:=by rw[hV];exact Nat.mul_pos hb (Nat.two_pow_pos s)
    have hk70:k70=l.length:=AA
    have hk70n:n<=k70:=AA
    have hzl:zn63=l.length+1/\z63.length=l.length+1:=AA
    have hs31:s<=31:=AA
    have hstart:AF (z63.drop (k70-n+1))<V:=eA hz632 hs31 hz631 AA AA hwV;intro n75 h75;conv=>cbv
    refine DI ?_;refine BI [] [10,11,12,13,14] [63,70] (fun vs bl k=>∃(u q:List UInt32) (j':Nat) (i:Int),vs=[AH n60,.one (.AU .u32 63 0 0 zn63),.one (.sl .u32 w67),.one (.AU .u32 70 0 0 k70),AH i]/\bl=[.arr 0 .u32 u,.arr 0 .u32 q]/\(u.length=z63.length/\q.length=k70/\AR (i+1) j'/\j'+n<=k70+1)/\AF (u.drop j')<V/\A=AF u+2^(32*j')*AF (q.drop j')*V/\k=j') (k70-n+1) ⟨z63,l70,k70-n+1,n75,rfl,rfl,⟨rfl,by rw[hl70,List.length_replicate],⟨AA⟩,AA⟩,hstart,by rw[hl70,List.drop_replicate,Iv];simp[hA],rfl⟩ ?_;rintro J0 hJ0 vs bl kk0 ⟨u,q,j',i,rfl,rfl,⟨hul,hql,hi,hjl⟩,hlt,hinv,hk0⟩;conv=>cbv
    clear hr22 h23 k23 hba hml h26 e26 f26 h27 k27 h41 e41 f41 h42 k42 h56 e56 f56 h57 hr59 er59 hn hxt hxtb hxt1 hxt0 hsp hbw h32 hs h60 hz631 hzn63 hz661 hz662 hwl hwV h69 e69 f69 hl70 gl70 h72 e72 f72 h74 e74 f74 hstart h75
    have ei:=hi.eq;refine LU ?_ ?_ <;> intro k77 <;> conv=>cbv
    ·have hnl123:k70<=(q).length:=AA
     obtain⟨m123,hm123⟩:=xN ((CR ((q).take k70)).length);obtain⟨hle123,htk123⟩:=FA hnl123 hm123;refine .inr (.inr (.inl ⟨[],.one (.AU .u32 0 0 0 m123),.arr 0 .u32 q,fun _=>⟨by first | decide | simp[Cq,Ch],trivial⟩,fun _=>⟨Ea hE (G8 hnl123 AA hm123),rfl,rfl⟩,?_⟩));try conv=>cbv
     have hnl125:zn63<=u.length:=AA
     obtain⟨m125,hm125⟩:=xN ((CR (u.take zn63)).length);obtain⟨hle125,htk125⟩:=FA hnl125 hm125;refine .inr (.inr (.inl ⟨[],.one (.AU .u32 0 0 0 m125),.arr 0 .u32 u,fun _=>⟨by first | decide | simp[Cq,Ch],trivial⟩,fun _=>⟨Ea hE (G8 hnl125 AA hm125),rfl,rfl⟩,?_⟩));try conv=>cbv
     obtain⟨w127,hw127⟩:=xU (AT (AF (u.take m125)/2^s));refine .inr (.inr (.inr (.inl ⟨63,.arr 0 .u32 u,[.one (.AU .u32 0 0 0 m125),AH n60],.one (.sl .u32 w127),Ao,fun _=>Fq hE (iG AA AA hs60 AA hw127),?_⟩)));try conv=>cbv
     have hj0:j'=0:=AA
     rw[hj0,List.drop_zero] at hlt;have hinv2:A=AF u+AF q*V:=by rw[hj0] at hinv;simpa using hinv
     have hA2:A=a*2^s:=by rw[hA,hz632,hl,BU]
     obtain⟨e1,e2⟩:=YS hA2 hV hinv2 hlt hb;have hum:AF (u.take m125)=AF u:=by rw[htk125,BU,List.take_of_length_le AA]
     exact AN ⟨⟨rfl,.inl ⟨_,rfl,AA,congrArg _ (by rw[List.drop_zero,htk123,<-hql,List.take_length,e1,hz1])⟩,trivial⟩,⟨rfl,congrArg _ (by rw[hz2,hw127,hum,e2]),trivial⟩,trivial⟩
    refine .inr ?_;obtain⟨i',rfl⟩:∃i',j'=i'+1:=⟨j'-1,AA⟩
    obtain⟨R,hRd⟩:∃R,R=AF (u.drop i'):=⟨_,rfl⟩
    have hVlt:V<2^(32*n):=by have:=C0 w67;rw[<-hVw,hwn] at this;exact this
    have h0:AF (u.drop (i'+n+1))=0:=by have:=TL (l:=u.drop (i'+1)) (n:=n) AA (by rw[List.length_drop];omega);rwa [List.drop_drop,(AA:i'+1+n=i'+n+1)] at this
    have hRV:R<4294967296*V:=by obtain⟨xi,hxi⟩:=Bj (l:=u) (i:=i') AA;rw[hRd,EC hxi];have:=xi.toNat_lt;omega
    refine AW ?_;rintro n84 ⟨e84,f84⟩ n85 h85;refine DI ?_;intro n86 h86;conv=>cbv
    refine DI ?_;refine⟨fun _=>⟨AA,AA,AA⟩,?_⟩;rintro a87 b87 ⟨ha87,hb87⟩;conv=>cbv
    rintro o87 c87 ⟨ho87,hc87⟩;conv=>cbv
    have ho87b:o87=i':=AA
    have hc87b:c87=n+1:=AA
    have hseg:AF ((u.drop o87).take c87)=R:=by rw[ho87b,hc87b,hRd];exact cm AA h0
    obtain⟨r92,hr92⟩:∃n:Int,AR n (R/V):=⟨_,⟨rfl⟩⟩
    have er92:=hr92.eq;have hqw:R/V<4294967296:=(Nat.div_lt_iff_lt_mul hVpos).2 hRV;obtain⟨Qd,hQd⟩:∃d,d=R/V:=⟨_,rfl⟩
    rw[<-hQd] at er92 hqw;obtain⟨w93,hw93⟩:=xU (AT (R/V*V));refine .inr (.inr (.inr (.inl ⟨63,.arr 0 .u32 u,[.one (.AU .u32 0 0 o87 c87),.one (.sl .u32 w67)],.Aj [(false,[.int .u32 r92]),(false,[.sl .u32 w93])],Ao,fun _=>Fq hE (iI (n':=n-1) hseg AA AA hyV AA AA hRV hr92 hw93),?_⟩)));try conv=>cbv
    refine FI ?_;intro j97 hj97;conv=>cbv
    obtain⟨w97,hw97⟩:=CX (n:=r92) AA;have ew97:=hw97.eq;have fw97:=hw97.lt;refine⟨w97,fun _=>⟨by show _<List.length (α:=UInt32) q;(first | omega | (simp;omega)),CW hw97⟩,?_⟩;intro (l97:List UInt32) (hl97:l97=List.set (α:=UInt32) q j97 w97);have gl97:l97.length=q.length:=by rw[hl97,List.length_set]
    conv=>cbv
    have hnl99:c87<=(u.drop o87).length:=by rw[List.length_drop];omega
    obtain⟨m99,hm99⟩:=xN ((CR ((u.drop o87).take c87)).length);obtain⟨hle99,htk99⟩:=FA hnl99 hm99;refine .inr (.inr (.inl ⟨[],.one (.AU .u32 0 0 o87 m99),.arr 0 .u32 u,fun _=>⟨by first | decide | simp[Cq,Ch],trivial⟩,fun _=>⟨Ea hE (W4 AA AA hm99),rfl,rfl⟩,?_⟩));try conv=>cbv
    have hdm:=Nat.div_add_mod R V;have hmlt:=Nat.mod_lt R hVpos;have hsub:R-R/V*V=R%V:=by rw[Nat.mul_comm];omega
    obtain⟨w101,hw101⟩:=xU (AT (R%V));refine .inr (.inr (.inr (.inl ⟨63,.arr 0 .u32 u,[.one (.AU .u32 0 0 o87 m99),.one (.sl .u32 w93)],.one (.sl .u32 w101),Ao,fun _=>Fq hE (iW (a:=R) (b:=R/V*V) rfl AA (by rw[htk99,hseg]) hw93 (by rw[hw101,hsub]) (by rw[Nat.mul_comm];omega) AA),?_⟩)));try conv=>cbv
    refine BI [] [10,11,12,13,14,15,18,19] [63,70] (fun vs bl k=>∃(z:List UInt32) (k':Nat) (j:Int),vs=[AH n60,.one (.AU .u32 63 0 0 zn63),.one (.sl .u32 w67),.one (.AU .u32 70 0 0 k70),AH i,.one (.AU .u32 63 0 o87 c87),.one (.sl .u32 w101),AH j]/\bl=[.arr 0 .u32 z,.arr 0 .u32 l97]/\(z.length=u.length/\z.take i'=u.take i'/\z.drop (i'+(n+1))=u.drop (i'+(n+1))/\AR j k'/\k'<=n+1)/\AF ((z.drop i').take k')=AF (w101.take k')/\k=n+1-k') (n+1-0) ⟨u,0,0,rfl,rfl,⟨rfl,rfl,rfl,BD 0,AA⟩,by simp[AF],rfl⟩ ?_;rintro J1 hJ1 vs bl kk1 ⟨z,k',j,rfl,rfl,⟨hzl1,hzt,hzd,hj,hkl⟩,hzv,hk1⟩;conv=>cbv
    have ej:=hj.eq;intro n104 h104;have e104:=h104.eq;conv=>cbv
    refine NT ?_ ?_ <;> intro k105 <;> conv=>cbv
    ·intro n79 h79;conv=>cbv
     refine DI ?_;refine⟨i',?_,?_⟩
     ·omega
     rw[hJ0];have hk2:k'=n+1:=AA
     rw[hk2] at hzv;have hwl:w101.length<=n+1:=by rw[hw101];have:=EV (Nat.le_of_lt hmlt);rw[<-hyV] at this;omega
     rw[Dv (l:=w101) hwl,hw101,BU] at hzv;have hwq:w97.toNat=R/V:=by rw[<-hQd];omega
     obtain⟨g1,g2⟩:=bw (u:=u) (z:=z) (A:=A) (V:=V) (i:=i') (n:=n) (Q:=AF (q.drop (i'+1))) (q:=w97.toNat) hzl1 hzt hzd AA h0 (by rw[hwq,hRd]) (by rw[hzv,hRd]) hinv;refine⟨z,l97,i',n79,rfl,rfl,⟨AA,AA,⟨AA⟩,AA⟩,?_,?_,rfl⟩
     ·rw[g1];exact Nat.mod_lt _ hVpos
     rw[hl97,(AA:j97=i'),EC (l:=q.set i' w97) (i:=i') (x:=w97) (by rw[List.getElem?_set_self AA]),List.drop_set_of_lt AA];exact g2
    refine .inr ?_;refine FI ?_;intro j110 hj110;conv=>cbv
    obtain⟨w110,hw110⟩:=CX (n:=0) AA;have ew110:=hw110.eq;have fw110:=hw110.lt;refine⟨w110,fun _=>⟨by show _<List.length (α:=UInt32) z;(first | omega | (simp;omega)),CW hw110⟩,?_⟩;intro (l110:List UInt32) (hl110:l110=List.set (α:=UInt32) z j110 w110);have gl110:l110.length=z.length:=by rw[hl110,List.length_set]
    refine AW ?_;rintro n113 ⟨e113,f113⟩ n114 h114;refine .inr ?_;cases n114 <;> conv=>cbv
    ·have k114:=EG h114;intro n107 h107;conv=>cbv
     refine DI ?_;refine⟨n+1-(k'+1),?_,?_⟩
     ·omega
     rw[hJ1];refine⟨l110,k'+1,n107,rfl,rfl,⟨AA,?_,?_,⟨AA⟩,AA⟩,?_,rfl⟩
     ·rw[hl110,(AA:j110=i'+k')];rw[IQ];exact hzt
     ·rw[hl110,(AA:j110=i'+k'),List.drop_set_of_lt AA];exact hzd
     rw[hl110,(AA:j110=i'+k'),cq AA,Ei,List.length_take,List.length_drop,Nat.min_eq_left AA,hzv,Dv (l:=w101) (i:=k'+1) AA,Dv (l:=w101) (i:=k') AA,(AA:w110.toNat=0),Nat.mul_zero,Nat.add_zero]
    have k114:=EH h114;refine Ae k' fun x119 hx119=>?_
    refine AW ?_;intro n120 h120;have e120:=h120.eq;have f120:=h120.lt;refine FI ?_;intro j121 hj121;conv=>cbv
    obtain⟨w121,hw121⟩:=CX (n:=n120) AA;have ew121:=hw121.eq;have fw121:=hw121.lt;refine⟨w121,fun _=>⟨by show _<List.length (α:=UInt32) l110;(first | omega | (simp;omega)),CW hw121⟩,?_⟩;intro (l121:List UInt32) (hl121:l121=List.set (α:=UInt32) l110 j121 w121);have gl121:l121.length=l110.length:=by rw[hl121,List.length_set]
    refine AW ?_;intro n107 h107;refine DI ?_;refine⟨n+1-(k'+1),?_,?_⟩
    ·omega
    rw[hJ1];refine⟨l121,k'+1,n107,rfl,rfl,⟨AA,?_,?_,⟨AA⟩,AA⟩,?_,rfl⟩
    ·rw[hl121,hl110,(AA:j121=j110),List.set_set,(AA:j110=i'+k')];rw[IQ];exact hzt
    ·rw[hl121,hl110,(AA:j121=j110),List.set_set,(AA:j110=i'+k'),List.drop_set_of_lt AA];exact hzd
    rw[hl121,hl110,(AA:j121=j110),List.set_set,(AA:j110=i'+k'),cq AA,Ei,List.length_take,List.length_drop,Nat.min_eq_left AA,hzv,Cu hx119,(AA:w121.toNat=x119.toNat)]
   have k42:=Bv h42;refine Ae 0 fun x46 hx46=>?_
   refine AW ?_;intro n47 h47;have e47:=h47.eq;have f47:=h47.lt;have hb46:b=x46.toNat:=by have:=Cu hx46;rw[(AA:0+1=m.length),List.take_length,hm,BU] at this;simpa [AF] using this
   obtain⟨w48,hw48⟩:=xU (AT (AF l/b));obtain⟨r48,hr48⟩:∃n:Int,AR n (AF l%b):=⟨_,⟨rfl⟩⟩
   have er48:=hr48.eq;have hrb:=Nat.mod_lt (AF l) hb;refine BO hE (Ws (d:=n47) (b:=b) (AR.of AA) hb AA hw48 hr48 AA) ?_;refine AW ?_;intro Dr h53;have h53:=wrap_u64 h53;obtain⟨w54,hw54⟩:=xU (AT (AF l%b));refine BO (r:= .one (.sl .u32 w54)) hE (M6 (AR.of (k:=AF l%b) (by generalize AF l%b=Q at *;omega)) (by generalize AF l%b=Q at *;omega) hw54) ?_;try conv=>cbv
   exact AN ⟨⟨rfl,congrArg _ (by rw[hz1,hw48,hl,BU]),trivial⟩,⟨rfl,congrArg _ (by rw[hz2,hw54,hl,BU]),trivial⟩,trivial⟩
  have k27:=No h27;obtain⟨r29,hr29⟩:∃n:Int,AR n (a):=⟨_,⟨rfl⟩⟩
  have er29:=hr29.eq;refine BO (r:= .one (.int .u64 r29)) hE (W1 AA (by rw[hl,BU];exact hr29)) ?_;try conv=>cbv
  obtain⟨r31,hr31⟩:∃n:Int,AR n (b):=⟨_,⟨rfl⟩⟩
  have er31:=hr31.eq;refine BO (r:= .one (.int .u64 r31)) hE (W1 AA (by rw[hm,BU];exact hr31)) ?_;try conv=>cbv
  have ha64:a<18446744073709551616:=by have:=C0 l;rw[hl,BU] at this;exact Nat.lt_of_lt_of_le this (Nat.pow_le_pow_right AE (by rw[<-hl];omega:32*(AT a).length<=64))
  intro n34 h34;conv=>cbv
  refine FI ?_;have h34:=wrap_u64 h34;have bq:=Nat.div_le_self a b;have h34:n34=((a/b:Nat):Int):=by rw[h34,er29,er31,<-Int.natCast_ediv];generalize a/b=Q at *;omega
  obtain⟨w35,hw35⟩:=xU (AT (a/b));refine BO (r:= .one (.sl .u32 w35)) hE (M6 (AR.of (k:=a/b) h34) (by generalize a/b=Q at *;omega) hw35) ?_;refine AW ?_;intro n38 h38;refine FI ?_;have br:=Nat.mod_lt a hb;have h38:n38=((a%b:Nat):Int):=by rw[h38,er29,er31];exact (Int.natCast_emod _ _).symm
  obtain⟨w39,hw39⟩:=xU (AT (a%b));refine BO (r:= .one (.sl .u32 w39)) hE (M6 (AR.of (k:=a%b) h38) (by generalize a%b=Q at *;omega) hw39) ?_;try conv=>cbv
  refine g2 rfl ?_;exact AN ⟨⟨rfl,congrArg _ (by rw[hz1,hw35]),trivial⟩,⟨rfl,congrArg _ (by rw[hz2,hw39]),trivial⟩,trivial⟩
 have k23:=EH h23;have hlt:a<b:=by rw[hr22] at k23;have:=JQ k23;omega
 exact AN ⟨⟨rfl,.inr (.inl ⟨_,congrArg _ (by rw[hz1,Nat.div_eq_of_lt hlt];rfl)⟩),trivial⟩,⟨rfl,congrArg _ (by rw[hz2,Nat.mod_eq_of_lt hlt,hl]),trivial⟩,trivial⟩
end
section
variable {b b1 b2 b3:Bool} {l l1 l2 l3:List UInt32} {q x y:Int}
theorem qY (d:y≠0) (h:x=q*y):q=if (decide (x<0) !=decide (y<0))=true then -((x.natAbs/y.natAbs:Nat):Int) else ((x.natAbs/y.natAbs:Nat):Int):=by
 have g:x.natAbs/y.natAbs=q.natAbs:=by rw[h,Int.natAbs_mul,Nat.mul_div_cancel _ AA]
 rw[g];rcases Int.lt_trichotomy q 0 with f | f | f
 ·rcases Int.lt_or_gt_of_ne d with d | d
  ·have:=Int.mul_pos_of_neg_of_neg f d;rw[decide_eq_false (by omega:¬x<0),decide_eq_true d];simp;omega
  have:=Int.mul_neg_of_neg_of_pos f d;rw[decide_eq_true (by omega:x<0),decide_eq_false (by omega:¬y<0)];simp;omega
 ·subst f
  split <;> simp
 rcases Int.lt_or_gt_of_ne d with d | d
 ·have:=Int.mul_neg_of_pos_of_neg f d;rw[decide_eq_true (by omega:x<0),decide_eq_true d];simp;omega
 have:=Int.mul_pos f d;rw[decide_eq_false (by omega:¬x<0),decide_eq_false (by omega:¬y<0)];simp;omega
theorem gg (k:BB x b1 l1) (p:BB y b2 l2) (w:y≠0) (j:x=q*y) (I:BB q b3 l3) (s1:l1.length<=17592186043000) (s2:l2.length<=17592186043000):CF 259 [.agg (BZ b1 l1),.agg (BZ b2 l2)] (.Aj [(true,(BZ b3 l3)),(true,[.bool false,.sl .u32 []]),(false,[.int .i64 0])]):=by
 refine AM Tryz.func259 fun E h=>?_
 refine AB h (Ia k) ?_;refine AB h (Ia p) ?_;rintro O ⟨N,f17⟩;refine BS (fun J=>?_) fun J=>?_
 ·exact absurd (p.F1.1 AA) w
 obtain⟨S,i⟩:=xU (AT (x.natAbs/y.natAbs));obtain⟨R,v⟩:=xU (AT (x.natAbs%y.natAbs));refine AB h (Wt k.Bb p.Bb AA i v AA) ?_;intro P G;refine AB (r:= .agg [.bool b3,.sl .u32 l3]) h (HY (by rw[i,BU,G,k.neg,p.neg];exact qY w j) I) ?_;obtain⟨B,D,g⟩:=Av (x);refine AB (r:= .agg [.bool B,.sl .u32 D]) h (EA I p (j ▸ g) (by rw[I.Bb];have:=EV (show q.natAbs<=x.natAbs by rw[j,Int.natAbs_mul];exact Nat.le_mul_of_pos_right _ AA);rw[<-k.Bb] at this;omega) AA) ?_;obtain⟨C,F,d⟩:=Av (0);refine AB (r:= .agg [.bool C,.sl .u32 F]) h (Wg k g (by rw[Int.sub_self];exact d) AA (by rw[g.Bb,<-k.Bb];omega)) ?_;obtain⟨L,f⟩:=xI (Cd (0:Int));refine AB h (KL d f) ?_;obtain⟨M,t⟩:=xI (Cd y);refine AB h (KL p t) ?_
 have em:L*M=0:=by rw[f,show Cd (0:Int)=0 from rfl,Int.zero_mul]
 refine AK ?_;intro Q H K s;refine .inr ?_;cases K <;> conv=>cbv
 ·have A:=EG s;refine g2 rfl ?_;exact AN ⟨t3,⟨rfl,congrArg _ ((d.neg.trans rfl).symm),congrArg _ ((d.Bb.trans rfl).symm),trivial⟩,t2,trivial⟩
 have A:=EH s;exact absurd A (by rw[H,f];show ¬_*_<0;rw[show Cd (0:Int)=0 from rfl,Int.zero_mul];decide)
theorem HW (w:BB x b1 l1) (C:BB y b2 l2) (K:BB ((Nat.gcd x.natAbs y.natAbs:Nat):Int) b3 l3) (s1:l1.length<=17592186043000) (s2:l2.length<=17592186043000):CF 102 [.agg (BZ b1 l1),.agg (BZ b2 l2)] (.agg (BZ b3 l3)):=by
 refine AM Tryz.func102 fun E j=>?_
 refine AB j (KN w.nat w.Bb) ?_;refine AB j (KN C.nat C.Bb) ?_;refine BI [] [4,5,6] [4] (fun vs G k=>∃(u v:List UInt32) (A B:Nat),vs=[.one (.BE 4 0 0),.one (.sl .u32 u),.one (.sl .u32 v)]/\G=[.var 0 [.bool false,.nil]]/\(u=AT A/\v=AT B/\Nat.gcd A B=Nat.gcd x.natAbs y.natAbs/\u.length<=17592186043000/\v.length<=17592186043000)/\k=B) y.natAbs ⟨l1,l2,x.natAbs,y.natAbs,rfl,rfl,⟨w.Bb,C.Bb,rfl,s1,s2⟩,rfl⟩ ?_;rintro O p vs G L ⟨u,v,A,B,rfl,rfl,⟨hu,g,H,J,t⟩,s⟩;refine AW ?_;rintro M ⟨I,f16⟩;refine FC (fun D=>?_) fun D=>?_
 ·have h:B=0:=E3.1 (by rw[<-g];exact List.eq_nil_of_length_eq_zero AA);refine AB (r:= .agg [.bool b3,.sl .u32 l3]) j (HY (n:=false) (by rw[hu,BU,<-H,h,Nat.gcd_zero_right];rfl) K) ?_;exact AN ⟨t3,trivial⟩
 refine .inr ?_;have f:0<B:=by apply Nat.pos_of_ne_zero;intro e;rw[e,Gb] at g;rw[g] at *;simp at *;omega
 obtain⟨N,i⟩:=xU (AT (A/B));obtain⟨F,d⟩:=xU (AT (A%B));refine AB j (Wt hu g f i d AA) ?_;refine⟨A%B,?_,?_⟩
 ·rw[s];exact Nat.mod_lt _ f
 rw[p];exact⟨v,F,B,A%B,rfl,rfl,⟨g,d,by rw[<-H,Nat.gcd_comm B,<-Nat.gcd_rec,Nat.gcd_comm],t,by have:=EV (Nat.le_of_lt (Nat.mod_lt A f));rw[<-d,<-g] at this;omega⟩,rfl⟩
theorem gZ {c:Int} (d:BB x b l) (g:AR c (DM x.natAbs)) (sl:l.length<=17592186043000):CF 316 [.agg (BZ b l)] (AH c):=by
 refine AM Tryz.func316 fun E f=>?_
 refine AB f (KN d.nat d.Bb) ?_;refine AB f (Ww d.Bb g AA) ?_;exact AN ⟨t2,trivial⟩
theorem Wo (f:BB x b l):CF 99 [.agg (BZ b l)] (.one (.bool true)):=by
 refine AM Tryz.func99 fun E r=>?_
 refine AB r (KN f.nat f.Bb) ?_;rintro C ⟨w,f6⟩ D ⟨A,f9⟩;refine CN (fun h=>?_) fun h=>?_
 ·exfalso;omega
 intro j d;cases j <;> conv=>cbv
 ·have i:=Gg d;refine AK ?_;rintro t ⟨p,f18⟩ v g;exact AL (by have hb:b=true:=(by cases b with | false=>cases d | true=>rfl);have k:=f.neg;rw[hb] at k;have s:x<0:=of_decide_eq_true k.symm;have B:l.length≠0:=(fun e=>by have:=f.F1.1 e;omega);rw[g,decide_eq_true AA])
 have i:=Gh d;refine g2 rfl ?_;exact AN ⟨t2,trivial⟩
end
end Go.Abs
