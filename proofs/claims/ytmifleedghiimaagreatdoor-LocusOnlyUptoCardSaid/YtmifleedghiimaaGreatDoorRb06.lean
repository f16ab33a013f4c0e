/- Part 7 of a proof. Conditions: each theorem's own. -/
import Derived.Test.YtmifleedghiimaaGreatDoorRb05
set_option linter.all false
set_option maxHeartbeats 80000000
set_option maxRecDepth 20000
open Go.Proofs
namespace Go.Abs
open Go.RowKit
section
variable {b b1 b2 b3:Bool} {l l1 l2 l3:List UInt32} {x y:Int}
def kj {b4:Bool} {l4:List UInt32} (R:BQ x b1 l1) (P:BQ y b2 l2) (w:y≠0) (L:BQ (DQ x y) b3 l3) (M:BQ (I9 x y) b4 l4) (s1:l1.length<=17592186043000) (s2:l2.length<=17592186043000):CF 323 [.agg (Bu b1 l1),.agg (Bu b2 l2)] (.BI [(true,(Bu b3 l3)),(true,(Bu b4 l4)),(false,[.int .i64 0])]):=by
 refine AL Tryz.func323 fun E C=>?_
 obtain⟨Y,G⟩:=xU (Ah (AI l2));refine AB C (GU rfl G) ?_;have t12:Y=l2:=by rw[G];exact P.trim
 rintro a8 ⟨a5,f14⟩;conv=>cbv
 refine BY (fun T=>?_) fun T=>?_
 ·exfalso;exact w (P.G9.1 (by rw[<-t12];omega))
 obtain⟨Z,H⟩:=xU (Ah (AI l1));refine AB C (GU rfl H) ?_;have t21:Z=l1:=by rw[H];exact R.trim
 obtain⟨Q,j⟩:=xU (Ah (x.natAbs/y.natAbs));obtain⟨X,g⟩:=xU (Ah (x.natAbs%y.natAbs));refine AB (r:= .BI [(false,[.sl .u32 Q]),(false,[.sl .u32 X])]) C (RK (t21.trans R.Bx) (t12.trans P.Bx) AA j g (by rw[t21];omega)) ?_;have S:0<y.natAbs:=AA
 have a6:=Nat.div_add_mod x.natAbs y.natAbs;have a7:=Nat.mod_lt x.natAbs S;have A:=R.neg;have i:=P.neg;intro V N;conv=>cbv
 cases V <;> conv=>cbv
 ·have h:=Qr N;refine .inr ?_;intro F B;conv=>cbv
  obtain⟨k,s,d⟩:=BO (DQ x y);refine AB (r:= .agg [.bool k,.sl .u32 s]) C (G1 (by rw[j,Bk,B,h,aq w (by rw[<-A,<-i];exact h)];simp) d) ?_;obtain⟨p,t,f⟩:=BO (I9 x y);refine AB (r:= .agg [.bool p,.sl .u32 t]) C (G1 (by rw[g,Bk];exact su i w (by rw[<-A,<-i];exact h)) f) ?_;exact AN ⟨⟨rfl,congrArg _ ((d.uniq L rfl).1.symm),congrArg _ ((d.uniq L rfl).2.symm),trivial⟩,⟨rfl,congrArg _ ((f.uniq M rfl).1.symm),congrArg _ ((f.uniq M rfl).2.symm),trivial⟩,t2,trivial⟩
 have h:=Qs N;refine Af ?_;rintro aa ⟨D,f33⟩ W O;refine .inr ?_;cases W <;> conv=>cbv
 ·have U:=Gs O;intro F B;conv=>cbv
  obtain⟨k,s,d⟩:=BO (DQ x y);refine AB (r:= .agg [.bool k,.sl .u32 s]) C (G1 (by have v:decide (x<0)≠decide (y<0):=(by rw[<-A,<-i];exact h);have K:F=true:=(by rw[B];simpa using h);rw[j,Bk,K,if_pos rfl];exact aj w v (F8.1 (by rw[<-g];exact List.eq_nil_of_length_eq_zero AA))) d) ?_;obtain⟨p,t,f⟩:=BO (I9 x y);refine AB (r:= .agg [.bool p,.sl .u32 t]) C (G1 (by have v:decide (x<0)≠decide (y<0):=(by rw[<-A,<-i];exact h);rw[g,Bk];exact sr w v (F8.1 (by rw[<-g];exact List.eq_nil_of_length_eq_zero AA))) f) ?_;exact AN ⟨⟨rfl,congrArg _ ((d.uniq L rfl).1.symm),congrArg _ ((d.uniq L rfl).2.symm),trivial⟩,⟨rfl,congrArg _ ((f.uniq M rfl).1.symm),congrArg _ ((f.uniq M rfl).2.symm),trivial⟩,t2,trivial⟩
 have U:=Gt O;refine⟨[(1:UInt32)],fun _=>⟨rfl,AD,rfl,⟨rfl,t1,trivial⟩⟩,.inl ?_⟩;try conv=>cbv
 obtain⟨a1,I⟩:=xU (Ah (x.natAbs/y.natAbs+1));refine .inr (.inl ⟨[.one (.sl .u32 Q),.one (.sl .u32 [(1:UInt32)])],.one (.sl .u32 a1),fun _=>⟨rfl,⟨_,rfl,by simp <;> omega,AS⟩,trivial⟩,fun _=>Im C (EW (Qc rfl (fW j (rfl:[(1:UInt32)]=Ah 1) I rfl (by rw[j];have h1:=FW (Nat.div_le_self x.natAbs y.natAbs);rw[<-R.Bx] at h1;omega) AD))),?_⟩);try conv=>cbv
 obtain⟨a2,J⟩:=xU (Ah (y.natAbs-x.natAbs%y.natAbs));refine AB (r:= .one (.sl .u32 a2)) C (WK (t12.trans P.Bx) g J (Nat.le_of_lt (Nat.mod_lt _ AA)) (by rw[t12];omega)) ?_;intro F B;obtain⟨k,s,d⟩:=BO (DQ x y);refine AB (r:= .agg [.bool k,.sl .u32 s]) C (G1 (by have v:decide (x<0)≠decide (y<0):=(by rw[<-A,<-i];exact h);have K:F=true:=(by rw[B];simpa using h);rw[I,Bk,K,if_pos rfl];exact ak w v (fun e=>by rw[e,Hm] at g;rw[g] at D;simp at D;omega)) d) ?_;obtain⟨p,t,f⟩:=BO (I9 x y);refine AB (r:= .agg [.bool p,.sl .u32 t]) C (G1 (by have v:decide (x<0)≠decide (y<0):=(by rw[<-A,<-i];exact h);rw[J,Bk];exact ss i w v (fun e=>by rw[e,Hm] at g;rw[g] at D;simp at D;omega)) f) ?_;exact AN ⟨⟨rfl,congrArg _ ((d.uniq L rfl).1.symm),congrArg _ ((d.uniq L rfl).2.symm),trivial⟩,⟨rfl,congrArg _ ((f.uniq M rfl).1.symm),congrArg _ ((f.uniq M rfl).2.symm),trivial⟩,t2,trivial⟩
def YP (hx:BQ x b1 l1) (hy:BQ y b2 l2) (hz:BQ ((Nat.gcd x.natAbs y.natAbs:Nat):Int) b3 l3) (s1:l1.length<=17592186043000) (s2:l2.length<=17592186043000):CF 297 [.agg (Bu b1 l1),.agg (Bu b2 l2)] (.agg (Bu b3 l3)):=by
 refine IN Tryz.func297 fun E A=>?_
 conv=>cbv
 obtain⟨a1,F⟩:=xU (Ah (AI l1));refine Be A (GU rfl F) ?_;conv=>cbv
 have t13:a1=l1:=by rw[F];exact hx.trim
 obtain⟨a2,G⟩:=xU (Ah (AI l2));refine Be A (GU rfl G) ?_;conv=>cbv
 have t16:a2=l2:=by rw[G];exact hy.trim
 refine g2 rfl ?_;obtain⟨K0,K⟩:=xK fun vs D=>∃(u v:List UInt32) (P Q:Nat),vs=[.one (.BU 4 0 0),.one (.sl .u32 u),.one (.sl .u32 v)]/\D=[.var 0 [.bool false,.nil]]/\(u=Ah P/\v=Ah Q/\Nat.gcd P Q=Nat.gcd x.natAbs y.natAbs/\u.length<=17592186043000)/\v.length<=2/\(2<u.length->v.length=0)
 refine .inl ⟨[4,5,6],[4],K0,?_,?_⟩
 ·intro vs D S;rw[K] at S;obtain⟨u,v,P,Q,rfl,rfl,⟨hu,f,J,L⟩,au,ar⟩:=S;refine Af ?_;rintro aF ⟨aq,f39⟩;refine NI ?_ ?_ <;> intro ay <;> conv=>cbv
  ·have O:Q=0:=F8.1 (by rw[<-f];exact List.eq_nil_of_length_eq_zero AA);obtain⟨aG,H⟩:=xU u;refine Be A (Mt H AA) ?_;conv=>cbv
   obtain⟨a5,a7,t⟩:=BO (((Nat.gcd x.natAbs y.natAbs:Nat):Int));refine Be (r:= .agg [.bool a5,.sl .u32 a7]) A (G1 (by rw[H,hu,Bk,<-J,O,Nat.gcd_zero_right];rfl) t) ?_;try conv=>cbv
   exact Ed ((t.uniq hz rfl).1.symm) ((t.uniq hz rfl).2.symm)
  have aj:u.length<=2:=AA
  have ak:v.length<=2:=AA
  have N:P<18446744073709551616:=by have:=Dj u;rw[hu,Bk] at this;exact Nat.lt_of_lt_of_le this (Nat.pow_le_pow_right AD (by rw[<-hu];omega:32*(Ah P).length<=64))
  have R:Q<18446744073709551616:=by have:=Dj v;rw[f,Bk] at this;exact Nat.lt_of_lt_of_le this (Nat.pow_le_pow_right AD (by rw[<-f];omega:32*(Ah Q).length<=64))
  obtain⟨Y,i⟩:∃n:Int,AZ n (P):=⟨_,⟨rfl⟩⟩
  have ag:=i.eq;refine Be (r:= .one (.int .u64 Y)) A (TN (by rw[hu,Bk]) AA i) ?_;conv=>cbv
  obtain⟨Z,j⟩:∃n:Int,AZ n (Q):=⟨_,⟨rfl⟩⟩
  have ah:=j.eq;refine Be (r:= .one (.int .u64 Z)) A (TN (by rw[f,Bk]) AA j) ?_;conv=>cbv
  refine BX [] [4,9,10] [4] (fun vs D k=>∃(C h:Nat) (p q:Int),vs=[.one (.BU 4 0 0),.one (.int .u64 p),.one (.int .u64 q)]/\D=[.var 0 [.bool false,.nil]]/\(AZ p C/\AZ q h/\C<18446744073709551616/\h<18446744073709551616)/\Nat.gcd C h=Nat.gcd P Q/\k=h) Q ⟨P,Q,Y,Z,rfl,rfl,⟨i,j,N,R⟩,rfl,rfl⟩ ?_;rintro J1 ad vs D aB ⟨C,h,p,q,rfl,rfl,⟨hp,hq,ai,W⟩,U,ae⟩;conv=>cbv
  have ep:=hp.eq;have eq:=hq.eq;refine Dr ?_ ?_ <;> intro az <;> conv=>cbv
  ·obtain⟨aH,I⟩:=xU (Ah C);refine Be A (NS hp AA I) ?_;conv=>cbv
   obtain⟨a6,a8,w⟩:=BO (((Nat.gcd x.natAbs y.natAbs:Nat):Int));refine Be (r:= .agg [.bool a6,.sl .u32 a8]) A (G1 (by rw[I,Bk,<-J,<-U,(AA:h=0),Nat.gcd_zero_right];rfl) w) ?_;try conv=>cbv
   exact Ed ((w.uniq hz rfl).1.symm) ((w.uniq hz rfl).2.symm)
  refine .inr ?_;have V:0<h:=AA
  intro Eu ab;conv=>cbv
  refine GL ?_;have aa:Eu=((C%h:Nat):Int):=by rw[ab,ep,eq];exact (Int.natCast_emod _ _).symm
  refine g2 rfl ?_;refine⟨C%h,?_,?_⟩
  ·rw[ae];exact Nat.mod_lt _ V
  rw[ad];exact⟨h,C%h,_,_,rfl,rfl,⟨hq,⟨aa⟩,W,by have:=Nat.mod_lt C V;omega⟩,by rw[<-U,Nat.gcd_comm h,<-Nat.gcd_rec,Nat.gcd_comm],rfl⟩
 obtain⟨J0,B⟩:=xJ fun vs D k=>∃(u v:List UInt32) (P Q:Nat),vs=[.one (.BU 4 0 0),.one (.sl .u32 u),.one (.sl .u32 v)]/\D=[.var 0 [.bool false,.nil]]/\(u=Ah P/\v=Ah Q/\Nat.gcd P Q=Nat.gcd x.natAbs y.natAbs/\u.length<=17592186043000/\v.length<=17592186043000)/\k=Q
 refine⟨[],[4,5,6],[4],J0,⟨y.natAbs,by rw[B];exact⟨a1,a2,x.natAbs,y.natAbs,rfl,rfl,⟨t13.trans hx.Bx,t16.trans hy.Bx,rfl,by rw[t13];exact s1,by rw[t16];exact s2⟩,rfl⟩⟩,?_⟩;intro vs D aA S;rw[B] at S;obtain⟨u,v,P,Q,rfl,rfl,⟨hu,f,J,L,X⟩,T⟩:=S;refine Af ?_;rintro aC ⟨al,f18⟩;refine RP ?_ ?_ <;> intro av <;> conv=>cbv
 ·refine .inr ?_;have g:0<Q:=by apply Nat.pos_of_ne_zero;intro e;rw[e,Hm] at f;rw[f] at *;simp at *;omega
  obtain⟨af,s⟩:=xU (Ah (P/Q));obtain⟨M,d⟩:=xU (Ah (P%Q));refine Be A (RK hu f g s d AA) ?_;conv=>cbv
  refine⟨P%Q,?_,?_⟩
  ·rw[T];exact Nat.mod_lt _ g
  rw[B];exact⟨v,M,Q,P%Q,rfl,rfl,⟨f,d,by rw[<-J,Nat.gcd_comm Q,<-Nat.gcd_rec,Nat.gcd_comm],X,by have:=FW (Nat.le_of_lt (Nat.mod_lt P g));rw[<-d,<-f] at this;omega⟩,rfl⟩
 rintro aD ⟨an,f22⟩;conv=>cbv
 refine RF ?_ ?_ <;> intro aw <;> conv=>cbv
 ·rw[K];exact⟨u,v,P,Q,rfl,rfl,⟨hu,f,J,L⟩,AA,AA⟩
 rintro aE ⟨ao,f26⟩;conv=>cbv
 refine RF ?_ ?_ <;> intro ax <;> conv=>cbv
 ·rw[K];exact⟨u,v,P,Q,rfl,rfl,⟨hu,f,J,L⟩,AA,AA⟩
 refine .inr ?_;have g:0<Q:=by apply Nat.pos_of_ne_zero;intro e;rw[e,Hm] at f;rw[f] at *;simp at *;omega
 obtain⟨af,s⟩:=xU (Ah (P/Q));obtain⟨M,d⟩:=xU (Ah (P%Q));refine Be A (RK hu f g s d AA) ?_;conv=>cbv
 refine⟨P%Q,?_,?_⟩
 ·rw[T];exact Nat.mod_lt _ g
 rw[B];exact⟨v,M,Q,P%Q,rfl,rfl,⟨f,d,by rw[<-J,Nat.gcd_comm Q,<-Nat.gcd_rec,Nat.gcd_comm],X,by have:=FW (Nat.le_of_lt (Nat.mod_lt P g));rw[<-d,<-f] at this;omega⟩,rfl⟩
def uP {u:List UInt32} {X:Nat} (hu:u=Ah X) (g:u.length<=l.length+1) (h:BQ x b l) (s1:l.length<=17592186042000):(Ah (X+x.natAbs/X)).length<=17592186044416:=by
 refine Nat.le_trans (HS (k:=l.length+2) ?_) AA;have d:=Dj u;rw[hu,Bk] at d;have f:=Dj l;rw[h.nat] at f;have h3:=Nat.div_le_self x.natAbs X;have i:2^(32*(Ah X).length)<=2^(32*(l.length+1)):=Nat.pow_le_pow_right AD (by rw[<-hu];omega);have j:2^(32*l.length)<=2^(32*(l.length+1)):=Nat.pow_le_pow_right AD AA;have p:2^(32*(l.length+2))=4294967296*2^(32*(l.length+1)):=FX (l.length+1);omega
def tI (g:BQ x b l) (d:x.natAbs≠0):EC x.natAbs<=32*l.length/\EC x.natAbs=Nat.log2 x.natAbs+1:=by
 have f:=Dj l;rw[g.nat] at f;have h:=(Nat.log2_lt d).2 f;unfold EC;rw[if_neg d];exact⟨AA,rfl⟩
def la {e:Int} (F:BQ x b1 l1) (C:BQ ((CH x.toNat:Nat):Int) b3 l3) (he:e=if x<0 then 7 else 0) (s1:l1.length<=17592186042000):CF 352 [.agg (Bu b1 l1)] (BK (Bu b3 l3) e):=by
 refine AL Tryz.func352 fun E t=>?_
 obtain⟨ae,J⟩:=xI (DI x);refine AB t (OT F J) ?_;refine .inr ?_;refine BY (fun U=>?_) fun U=>?_
 ·have G:x<0:=by rcases HW x with⟨s,w⟩ |⟨s,w⟩ |⟨s,w⟩ <;> omega
  have O:((CH x.toNat:Nat):Int)=0:=by rw[(AA:x.toNat=0)];rfl
  rw[O] at C;exact AN ⟨⟨rfl,congrArg _ (C.neg.trans rfl),.inr (.inl ⟨_,congrArg _ (C.Bx.trans rfl)⟩),trivial⟩,⟨rfl,congrArg _ (by rw[he,if_pos G]),trivial⟩,trivial⟩
 refine BY (fun V=>?_) fun V=>?_
 ·have G:x=0:=by rcases HW x with⟨s,w⟩ |⟨s,w⟩ |⟨s,w⟩ <;> omega
  have O:((CH x.toNat:Nat):Int)=0:=by rw[(AA:x.toNat=0)];rfl
  rw[O] at C;exact AN ⟨⟨rfl,congrArg _ (C.neg.trans rfl),.inr (.inl ⟨_,congrArg _ (C.Bx.trans rfl)⟩),trivial⟩,⟨rfl,congrArg _ (by rw[he,if_neg AA]),trivial⟩,trivial⟩
 have G:0<x:=by rcases HW x with⟨s,w⟩ |⟨s,w⟩ |⟨s,w⟩ <;> omega
 have H:x.natAbs≠0:=AA
 have S:=tI F H;have a8:0<CH x.natAbs:=by apply Nat.pos_of_ne_zero;intro e;have:=SN x.natAbs;rw[e] at this;omega
 obtain⟨af,A⟩:∃n:Int,AZ n (EC x.natAbs):=⟨_,⟨rfl⟩⟩
 have a5:=A.eq;refine AB t (kU F A AA) ?_;intro ab a6 ad a7;obtain⟨Y,g⟩:=xU (Ah (2^(EC x.natAbs/2+1)));refine AB t (wo (n:=EC x.natAbs/2+1) ⟨AA⟩ AA g) ?_;refine BX [] [1,2,5] [1,2] (fun vs bl k=>∃(u:List UInt32) (X:Nat),vs=[.one (.BU 1 0 0),.one (.BU 2 0 0),.one (.sl .u32 u)]/\bl=[.var 0 [.bool b1,.sl .u32 l1],.var 0 [.bool false,.nil]]/\(u=Ah X/\CH x.natAbs<=X/\0<X/\u.length<=l1.length+1)/\k=X) (2^(EC x.natAbs/2+1)) ⟨Y,_,rfl,rfl,⟨g,by rw[S.2];exact xv H,Nat.two_pow_pos _,by rw[g];exact HS (Nat.pow_lt_pow_right AD AA)⟩,rfl⟩ ?_;rintro J0 P vs bl aa ⟨u,X,rfl,rfl,⟨hu,D,v,T⟩,R⟩;conv=>cbv
 refine .inr ?_;obtain⟨Z,B⟩:=xU (Ah (AI l1));refine AB t (GU rfl B) ?_;have t26:Z=l1:=by rw[B];exact F.trim
 obtain⟨a1,h⟩:=xU (Ah (x.natAbs/X));obtain⟨W,K⟩:=xU (Ah (x.natAbs%X));refine AB (r:= .BI [(false,[.sl .u32 a1]),(false,[.sl .u32 W])]) t (RK (t26.trans F.Bx) hu v h K (by rw[t26];omega)) ?_;obtain⟨a2,i⟩:=xU (Ah (X+x.natAbs/X));refine AB (r:= .one (.sl .u32 a2)) t (fV hu h i AA (by rw[h];have s:=FW (Nat.div_le_self x.natAbs X);rw[<-F.Bx] at s;omega)) ?_;obtain⟨L,d⟩:=xU (Ah ((X+x.natAbs/X)/2));refine AB (r:= .one (.sl .u32 L)) t (qp i d (by rw[i];exact uP hu T F s1)) ?_;obtain⟨ag,f⟩:=xI (CO ((X+x.natAbs/X)/2:Nat) X);refine AB t (RC d hu f) ?_;refine Kf (fun p=>?_) fun p=>?_
 ·have I:(X+x.natAbs/X)/2<X:=by rw[f] at p;have:=Kw p;omega
  refine⟨(X+x.natAbs/X)/2,?_,?_⟩
  ·rw[R];exact I
  rw[P];exact⟨L,_,rfl,rfl,⟨d,jR D v,by have:=jR D v;omega,by rw[d];have:=FW (Nat.le_of_lt I);rw[<-hu] at this;omega⟩,rfl⟩
 obtain⟨M,N,j⟩:=BO (((X:Nat):Int));refine AB (r:= .agg [.bool M,.sl .u32 N]) t (G1 (by rw[hu,Bk];rfl) j) ?_;have Q:X<=(X+x.natAbs/X)/2:=by rw[f] at p;have:=Kv p;omega
 have hX:=xu D v Q;exact AN ⟨⟨rfl,congrArg _ ((j.uniq C (by rw[<-hX];congr 2;omega)).1.symm),congrArg _ ((j.uniq C (by rw[<-hX];congr 2;omega)).2.symm),trivial⟩,⟨rfl,congrArg _ (by rw[he,if_neg AA]),trivial⟩,trivial⟩
end
section
variable {a n:Nat} {b c:Bool} {l m z:List UInt32} {x:Int}
def wv {w:List UInt32} (j:x= -(AI l:Int)) (hw:w=Ah (AI l)) (i:c=true↔0<w.length):BQ x c w:=by
 by_cases d:AI l=0
 ·have h:w=[]:=by rw[hw,F8.2 d]
  have f:c=false:=by
   cases c with
   | false=>rfl
   | true=>have:=i.1 rfl;rw[h] at this;simp at this
  subst f;exact .val hw.symm (by rw[j,d];simp) (fun _=>rfl)
 have g:c=true:=i.2 (List.length_pos_iff.2 (fun e=>d (F8.1 (by rw[<-hw];exact e))));subst g;exact .val hw.symm (by rw[j];rfl) (fun e=>absurd e d)
def L2 (L:AI l=n) (B:z=Ah n):CF 174 [.one (.sl .u32 l)] (.one (.sl .u32 z)):=by
 have B:C7 l=z:=by rw[B,<-L,N8]
 refine AL Tryz.func174 fun E V=>?_
 refine BX [] [0] [] (fun vs F k=>∃m:List UInt32,vs=[.one (.sl .u32 m)]/\C7 m=z/\k=m.length) l.length ⟨l,rfl,B,rfl⟩ ?_;rintro S v vs F N ⟨m,rfl,j,K⟩;refine Af ?_;rintro n4 ⟨T,f4⟩;refine Fu (fun M=>?_) fun M=>?_
 ·have w:m=[]:=List.eq_nil_of_length_eq_zero AA;exact AO (by rw[<-j,w];rfl)
 rintro W ⟨U,f9⟩ d I;refine BA ((d).toNat) fun r g=>?_
 refine Af ?_;intro P i;have G:=i.eq;have f12:=i.lt;refine Cw (fun s=>?_) fun s=>?_
 ·have A:r≠0:=fun h=>by subst h;exact s i.eq
  have e2:m=m.take (d).toNat++[r]:=by have:=EM g;rw[List.take_of_length_le AA] at this;exact this
  exact AO (by rw[<-j,e2,Mm A])
 refine .inr ?_;refine AM ?_;rintro Q ⟨H,f17⟩ R J O D t C p f;refine⟨p.length,?_,?_⟩
 ·rw[f];simp;omega
 rw[v];have el:p=m.take (d).toNat:=by rw[f,(AA:t=(d).toNat)];simp
 refine⟨p,rfl,?_,rfl⟩;obtain rfl:r=0:=UInt32.toNat_inj.1 (by show _=0;omega)
 have e2:m=m.take (d).toNat++[0]:=by
  have:=EM g;rw[List.take_of_length_le AA] at this;exact this
 rw[el,<-j];conv=>rhs;rw[e2]
 rw[Lj]
def IM {m:Nat} (P:n<=l.length) (hl:l.length<=140737488355328) (hm:m=(C7 (l.take n)).length):Kg Tryz.prog 174 (.Aj .u32 0 0 0 n) (.arr 0 .u32 l) [] (.one (.Aj .u32 0 0 0 m)) (.arr 0 .u32 l):=by
 refine Og Tryz.func174 (by kernel_rfl) rfl fun E Z=>?_
 conv=>cbv
 refine BX [] [0] [0] (fun vs B k=>∃q:Nat,vs=[.one (.Aj .u32 0 0 0 q)]/\B=[.arr 0 .u32 l]/\q<=l.length/\m=(C7 (l.take q)).length/\k=q) n ⟨n,rfl,rfl,P,hm,rfl⟩ ?_;rintro W v vs B R ⟨q,rfl,rfl,hq,j,O⟩;conv=>cbv
 intro n4 M;have X:=M.eq;conv=>cbv
 refine Fu (fun Q=>?_) fun Q=>?_
 ·refine⟨fun _=>⟨⟨⟨rfl,.inr (.inr ⟨rfl,rfl,congrArg (AC.Aj .u32 0 0 0) (by rw[j,(AA:q=0)];rfl)⟩),trivial⟩,trivial⟩,rfl,AS⟩,fun _=>rfl⟩
 intro n9 N;have Y:=N.eq;refine AM ?_;intro S K p F;obtain⟨r,d⟩:=CE (l:=l) (i:=p) AA;refine⟨r,fun _=>d,?_⟩;refine Af ?_;intro T g;have I:=g.eq;have f12:=g.lt;refine Cw (fun s=>?_) fun s=>?_
 ·have w:r≠0:=fun h=>by subst h;exact s g.eq
  refine⟨fun _=>⟨⟨⟨rfl,.inr (.inr ⟨rfl,rfl,congrArg (AC.Aj .u32 0 0 0) (by rw[j,(AA:q=p+1),EM d,Mm w,List.length_append,List.length_take];simp;omega)⟩),trivial⟩,trivial⟩,rfl,AS⟩,fun _=>rfl⟩
 refine .inr ?_;intro U t;have J:=t.eq;refine AM ?_;rintro V L H C A f ⟨G,D⟩;refine⟨f,?_,?_⟩
 ·omega
 rw[v];obtain rfl:A=0:=AA
 refine⟨f,rfl,rfl,AA,?_,rfl⟩;obtain rfl:r=0:=UInt32.toNat_inj.1 (by show _=0;omega);rw[j,(AA:q=f+1),EM (x:=0) (by rw[(AA:f=p)];exact d),Lj]
def Iw {n:Bool} (j:x=if n=true then -(AI l:Int) else AI l) (g:BQ x b z):CF 119 [.one (.bool n),.one (.sl .u32 l)] (.agg (Bu b z)):=by
 refine AL Tryz.func119 fun E r=>?_
 obtain⟨k,d⟩:=xU (Ah (AI l));refine AB r (L2 rfl d) ?_;cases n <;> conv=>cbv
 ·have f:BQ x false k:= .val d.symm j (fun _=>rfl);exact Ed ((f.uniq g rfl).1.symm) ((f.uniq g rfl).2.symm)
 refine Af ?_;rintro s ⟨p,f10⟩ i h;have f:BQ x i k:=wv (by rw[j];rfl) d (by rw[h,decide_eq_true_eq];omega);exact Ed ((f.uniq g rfl).1.symm) ((f.uniq g rfl).2.symm)
def Ob {n:Int} {k:Nat} (F:AZ n k) (K:k<18446744073709551616) (G:z=Ah k):CF 120 [.one (.int .u64 n)] (.one (.sl .u32 z)):=by
 have J:=F.eq;refine AL Tryz.func120 fun E D=>?_
 intro n4 w;have w:=wrap_u32 w;refine AM ?_;intro L A;have A:=Fs (p:=4294967296) A rfl;intro I B;conv=>cbv
 have B:=wrap_u32 B;obtain⟨g,d⟩:=DD (n:=n4) AA;have r:=d.eq;have t:=d.lt;obtain⟨h,f⟩:=DD (n:=I) AA;have s:=f.eq;have v:=f.lt;refine⟨[g,h],fun _=>⟨rfl,AD,rfl,⟨rfl,DC d,⟨rfl,DC f,trivial⟩⟩⟩,.inl ?_⟩;try conv=>cbv
 obtain⟨H,i⟩:=xN ((C7 ([g,h].take 2)).length);obtain⟨C,j⟩:=GF AS i;refine .inr (.inr (.inl ⟨[],.one (.Aj .u32 0 0 0 H),.arr 0 .u32 [g,h],fun _=>⟨by first | decide | simp[DS,DJ],trivial⟩,fun _=>⟨Fb D (IM AS AS i),rfl,rfl⟩,?_⟩));try conv=>cbv
 exact AN ⟨⟨rfl,.inl ⟨_,rfl,by simp;omega,congrArg _ (by rw[List.drop_zero,j,G];congr 1;simp[AI];omega)⟩,trivial⟩,trivial⟩
def OX (D: -9223372036854775808<=x/\x<9223372036854775808) (p:BQ x b z):CF 55 [AH x] (.agg (Bu b z)):=by
 refine AL Tryz.func55 fun E j=>?_
 refine Bi (fun A=>?_) fun A=>?_
 ·intro B f;have f:=wrap_u64 f;obtain⟨C,d⟩:=xU (Ah x.natAbs);refine AB j (Ob (AZ.of (k:=x.natAbs) AA) AA d) ?_;obtain⟨h,i,I6⟩:=BO (x);refine AB (r:= .agg [.bool h,.sl .u32 i]) j (Iw (n:=false) (by rw[d,Bk];simp;omega) I6) ?_;exact Ed ((I6.uniq p rfl).1.symm) ((I6.uniq p rfl).2.symm)
 intro F v;have v:=wrap_u64 v;intro G w;conv=>cbv
 have w:=wrap_u64 w;obtain⟨H,g⟩:=xU (Ah x.natAbs);refine AB j (Ob (AZ.of (k:=x.natAbs) AA) AA g) ?_;obtain⟨s,t,EI⟩:=BO (x);refine AB (r:= .agg [.bool s,.sl .u32 t]) j (Iw (n:=true) (by rw[g,Bk];simp;omega) EI) ?_;exact Ed ((EI.uniq p rfl).1.symm) ((EI.uniq p rfl).2.symm)
def mL (g:x=if b=true then -(AI l:Int) else AI l) (d:BQ x c z):CF 175 [.agg (Bu b l)] (.agg (Bu c z)):=by
 refine AL Tryz.func175 fun E f=>?_
 obtain⟨h,i,EH⟩:=BO (x);refine AB f (Iw g EH) ?_;exact Ed ((EH.uniq d rfl).1.symm) ((EH.uniq d rfl).2.symm)
def J5 (d:BQ x b l):CF 175 [.agg (Bu b l)] (.agg (Bu b l)):=mL d.Fq d
def OZ (j:BQ x b l) (g:BQ (-x) c z):CF 177 [.agg (Bu b l)] (.agg (Bu c z)):=by
 refine AL Tryz.func177 fun E i=>?_
 intro k h;obtain⟨d,f,DR⟩:=BO (-x);refine AB (r:= .agg [.bool d,.sl .u32 f]) i (Iw (by rw[h];exact iT j.Fq) DR) ?_;exact Ed ((DR.uniq g rfl).1.symm) ((DR.uniq g rfl).2.symm)
def Ly {c:Int} (d:BQ x b l) (h:c=DI x):CF 114 [.agg (Bu b l)] (AH c):=by
 refine AL Tryz.func114 fun E j=>?_
 refine AB j (J5 d) ?_;rintro k ⟨f,f7⟩;refine BY (fun i=>?_) fun i=>?_
 ·have g:AI l=0:=by rw[List.eq_nil_of_length_eq_zero (by omega:l.length=0)];rfl
  exact AO (by rw[h,d.Fq,g];unfold DI;simp)
 cases b <;> conv=>cbv
 ·have g:AI l≠0:=fun e=>by rw[d.Bx] at f;have:=d.nat;rw[e] at this;rw[<-this] at f;exact i f
  exact AO (by rw[h,TA d.Fq g];rfl)
 have g:AI l≠0:=fun e=>by rw[d.Bx] at f;have:=d.nat;rw[e] at this;rw[<-this] at f;exact i f
 exact AO (by rw[h,TA d.Fq g];rfl)
def Oa {b:Nat} {c:Int} (v:l=Ah a) (hm:m=Ah b) (K:c=CO a b):CF 231 [.one (.sl .u32 l),.one (.sl .u32 m)] (AH c):=by
 refine AL Tryz.func231 fun E hE=>?_
 rintro n7 ⟨e7,f7⟩ n9 ⟨e9,f9⟩;refine HY (fun N=>?_) fun N=>?_
 ·rintro ad ⟨X,f12⟩ ae ⟨Y,f14⟩;refine Bi (fun O=>?_) fun O=>?_
  ·exact AO (by rw[K,<-VC (by rw[<-v,<-hm];omega),<-v,<-hm];unfold CO;rw[if_neg AA,if_pos AA])
  exact AO (by rw[K,<-VC (by rw[<-v,<-hm];omega),<-v,<-hm];unfold CO;rw[if_pos AA])
 rintro af ⟨Z,f17⟩ S a6;refine BX [] [0,1,5] [] (fun vs W k=>∃(j:Int) (k':Nat),vs=[.one (.sl .u32 l),.one (.sl .u32 m),AH j]/\(AZ (j+1) k'/\k'<=l.length/\l.length=m.length/\AI (l.drop k')=AI (m.drop k'))/\k=k') l.length ⟨S,l.length,rfl,⟨⟨AA⟩,AA,AA,by rw[List.drop_length,(AA:l.length=m.length),List.drop_length]⟩,rfl⟩ ?_;rintro J0 M vs W ab ⟨j,k',rfl,⟨hj,a8,w,L⟩,aa⟩;conv=>cbv
 have ej:=hj.eq;refine Kf (fun P=>?_) fun P=>?_
 ·have hk:k'=0:=AA
  have he:a=b:=by rw[hk] at L;simpa [v,hm,Bk] using L
  exact AO (by rw[K,he];simp[CO])
 refine .inr ?_;refine BA ((j).toNat) fun g p=>?_
 refine Af ?_;intro ag D;have C:=D.eq;have f26:=D.lt;refine BA ((j).toNat) fun h r=>?_
 refine AM ?_;intro ah F U G;have a1:=F.eq;have f30:=F.lt;cases U <;> conv=>cbv
 ·have Q:=EY G;refine BA ((j).toNat) fun d s=>?_
  refine Af ?_;intro ai H;have a2:=H.eq;have f35:=H.lt;refine BA ((j).toNat) fun f t=>?_
  refine AM ?_;intro aj I V J;have a5:=I.eq;have f39:=I.lt;cases V <;> conv=>cbv
  ·have R:=Gs J;refine AM ?_;intro T a7;refine⟨k'-1,?_,?_⟩
   ·omega
   rw[M];obtain⟨i',rfl⟩:∃i',k'=i'+1:=⟨k'-1,AA⟩
   have e3:l[i']? =some g:=by rw[<-p];congr 1;omega
   have e4:m[i']? =some h:=by rw[<-r];congr 1;omega
   have e1:l[i']? =some d:=by rw[<-s];congr 1;omega
   have e2:m[i']? =some f:=by rw[<-t];congr 1;omega
   obtain rfl:d=g:=Option.some.inj (e1.symm.trans e3);obtain rfl:f=h:=Option.some.inj (e2.symm.trans e4);refine⟨T,i',rfl,⟨⟨AA⟩,AA,w,?_⟩,AA⟩;have C:d=f:=UInt32.toNat_inj.1 AA;subst C;exact drop_eq (i:=i') e1 e2 L
  have R:=Gt J;obtain⟨i',rfl⟩:∃i',k'=i'+1:=⟨k'-1,AA⟩
  have e1:l[i']? =some d:=by rw[<-s];congr 1;omega
  have e2:m[i']? =some f:=by rw[<-t];congr 1;omega
  have A:f.toNat<d.toNat:=AA
  have B:d≠f:=fun e=>by rw[e] at A;omega
  exact AO (by rw[K,<-Bk a,<-Bk b,<-v,<-hm,<-VD e1 e2 w L B];unfold CO;rw[if_neg AA,if_pos AA])
 have Q:=EZ G;obtain⟨i',rfl⟩:∃i',k'=i'+1:=⟨k'-1,AA⟩
 have e1:l[i']? =some g:=by rw[<-p];congr 1;omega
 have e2:m[i']? =some h:=by rw[<-r];congr 1;omega
 have A:g.toNat<h.toNat:=AA
 have B:g≠h:=fun e=>by rw[e] at A;omega
 exact AO (by rw[K,<-Bk a,<-Bk b,<-v,<-hm,<-VD e1 e2 w L B];unfold CO;rw[if_pos AA])
def Ua {b:Nat} (hl:l=Ah a) (hm:m=Ah b) (hz:z=Ah (a-b)) (a8:b<=a) (sl:l.length<=17592186044416):CF 237 [.one (.sl .u32 l),.one (.sl .u32 m)] (.one (.sl .u32 z)):=by
 have ab:m.length<=l.length:=by rw[hl,hm];exact FW a8
 refine AL Tryz.func237 fun E hE=>?_
 rintro aD ⟨au,f11⟩;refine⟨fun _=>⟨AA,AA,by show _*4<=140737488355328;omega⟩,?_⟩;intro N (O:List UInt32) L;have ar:=L.1;have F:O=List.replicate N (0:el .u32):=L.2;have aq:O.length=N:=by rw[F,List.length_replicate]
 conv=>cbv
 refine BX [] [0,1,5,6,7] [12] (fun vs bl k=>∃(o:List UInt32) (n J i':Nat) (c i:Int),vs=[.one (.sl .u32 l),.one (.sl .u32 m),.one (.Aj .u32 12 0 0 n),.one (.int .u64 c),AH i]/\bl=[.arr 0 .u32 o]/\(o.length=l.length/\n=o.length/\AZ i i'/\i'<=l.length/\AZ c J/\J<=1)/\AI (o.take i')+AI (m.take i')=AI (l.take i')+2^(32*i')*J/\k=l.length-i') (l.length-0) ⟨O,N,0,0,0,0,rfl,rfl,⟨by rw[F,List.length_replicate];omega,by rw[F,List.length_replicate],BM 0,AA,BM 0,AA⟩,by simp[AI],rfl⟩ ?_;rintro J0 Z vs bl aC ⟨o,n,J,i',c,i,rfl,rfl,⟨ho,hn,hi,az,hc,ay⟩,hinv,aA⟩;have ei:=hi.eq;have ec:=hc.eq;refine Af ?_;rintro aE ⟨av,f15⟩;refine Bi (fun ad=>?_) fun ad=>?_
 ·have G:n<=(o).length:=AA
  obtain⟨af,K⟩:=xN ((C7 ((o).take n)).length);obtain⟨aa,M⟩:=GF G K;refine .inr (.inr (.inl ⟨[],.one (.Aj .u32 0 0 0 af),.arr 0 .u32 o,fun _=>⟨by first | decide | simp[DS,DJ],trivial⟩,fun _=>⟨Fb hE (IM G AA K),rfl,rfl⟩,?_⟩));try conv=>cbv
  have hk:i'=l.length:=AA
  have a1:AI (o.take n)=a-b:=by rw[hk,Ev ab,Ev (Nat.le_refl _),hm,hl,Bk,Bk,<-hl,<-ho,List.take_length] at hinv;have aB:=Dj o;generalize 2^(32*o.length)=P at *;rw[hn,List.take_length];rcases (by omega:J=0\/J=1) with e | e <;> rw[e] at hinv <;> omega
  exact AN ⟨⟨rfl,.inl ⟨_,rfl,AA,congrArg _ (by rw[List.drop_zero,M,a1,hz])⟩,trivial⟩,trivial⟩
 refine .inr ?_;refine Af ?_;rintro aF ⟨aw,f21⟩ ag W;refine .inr ?_;cases ag <;> conv=>cbv
 ·have ae:=EY W;refine BA i' fun S H=>?_
  refine Af ?_;intro ah r ai s;have a6:=r.eq;have f31:=r.lt;have s:=wrap_u64 s;intro aj t;conv=>cbv
  have t:=wrap_u64 t;intro ak v;conv=>cbv
  have v:=wrap_u64 v;intro al A;conv=>cbv
  have A:=wrap_u64 A;intro R B;conv=>cbv
  have B:=wrap_u32 B;refine AM ?_;intro I a2;obtain⟨j,f⟩:=DD (n:=R) AA;have T:=f.eq;have U:=f.lt;refine⟨j,fun _=>⟨by show _<List.length (α:=UInt32) o;(first | omega | (simp;omega)),DC f⟩,?_⟩;intro (g:List UInt32) (d:g=List.set (α:=UInt32) o I j);have V:g.length=o.length:=by rw[d,List.length_set]
  refine AM ?_;intro an C;have C:=Fs (p:=4294967296) C rfl;intro h D;conv=>cbv
  have D:=wrap_u64 D;refine AM ?_;intro Q a7;refine⟨l.length-(i'+1),?_,?_⟩
  ·omega
  rw[Z];refine⟨g,n,h.toNat,i'+1,h,Q,rfl,rfl,⟨by rw[d,List.length_set];exact ho,by rw[d,List.length_set];exact hn,⟨AA⟩,AA,⟨AA⟩,AA⟩,?_,rfl⟩;have hs:=Ng (w:=j) (o:=o) (i:=i') (xi:=S.toNat) (yi:=0) (He:=J) (Hf:=h.toNat) AA hinv AA;rw[d,(AA:I=i'),DV H,<-hs,Ev (l:=m) (i:=i'+1) AA,Ev (l:=m) (i:=i') AA,Nat.mul_zero]
  rfl
 have ae:=EZ W;refine BA i' fun ao a5=>?_
 refine Af ?_;intro aG X aH Y;have ax:=X.eq;have f26:=X.lt;have Y:=wrap_u64 Y;refine BA i' fun S H=>?_
 refine Af ?_;intro ah r ai s;have a6:=r.eq;have f31:=r.lt;have s:=wrap_u64 s;intro aj t;conv=>cbv
 have t:=wrap_u64 t;intro ak v;conv=>cbv
 have v:=wrap_u64 v;intro al A;conv=>cbv
 have A:=wrap_u64 A;intro R B;conv=>cbv
 have B:=wrap_u32 B;refine AM ?_;intro I a2;obtain⟨j,f⟩:=DD (n:=R) AA;have T:=f.eq;have U:=f.lt;refine⟨j,fun _=>⟨by show _<List.length (α:=UInt32) o;(first | omega | (simp;omega)),DC f⟩,?_⟩;intro (g:List UInt32) (d:g=List.set (α:=UInt32) o I j);have V:g.length=o.length:=by rw[d,List.length_set]
 refine AM ?_;intro an C;have C:=Fs (p:=4294967296) C rfl;intro h D;conv=>cbv
 have D:=wrap_u64 D;refine AM ?_;intro Q a7;refine⟨l.length-(i'+1),?_,?_⟩
 ·omega
 rw[Z];refine⟨g,n,h.toNat,i'+1,h,Q,rfl,rfl,⟨by rw[d,List.length_set];exact ho,by rw[d,List.length_set];exact hn,⟨AA⟩,AA,⟨AA⟩,AA⟩,?_,rfl⟩;have hs:=Ng (w:=j) (o:=o) (i:=i') (xi:=S.toNat) (yi:=ao.toNat) (He:=J) (Hf:=h.toNat) AA hinv AA;rw[d,(AA:I=i'),DV H,<-hs,DV a5]
def nI {b:Nat} (hl:l=Ah a) (hm:m=Ah b) (hz:z=Ah (a+b)) (sl:l.length<=17592186044416) (sm:m.length<=17592186044416):CF 267 [.one (.sl .u32 l),.one (.sl .u32 m)] (.one (.sl .u32 z)):=by
 refine AL Tryz.func267 fun E hE=>?_
 rintro n9 ⟨e9,f9⟩ aQ ⟨aE,f11⟩ au U;obtain⟨ah,A⟩:=xK fun vs bl=>∃(p q:Nat) (x y:List UInt32),vs=[.one (.sl .u32 x),.one (.sl .u32 y)]/\x=Ah p/\y=Ah q/\p+q=a+b/\y.length<=x.length/\x.length<=17592186044416
 refine .inl ⟨[0,1],[],ah,?_,?_⟩
 ·intro vs bl hj;rw[A] at hj;obtain⟨p,q,x,y,rfl,hx,hy,ak,al,aO⟩:=hj;refine AM ?_;rintro aR ⟨aF,f16⟩ aS aL;refine⟨fun _=>⟨AA,AA,by show _*4<=140737488355328;omega⟩,?_⟩;intro L (M:List UInt32) J;have aD:=J.1;have B:M=List.replicate L (0:el .u32):=J.2;have aA:M.length=L:=by rw[B,List.length_replicate]
  conv=>cbv
  refine BX [] [0,1,5,6,7] [18] (fun vs bl k=>∃(o:List UInt32) (n Q i':Nat) (c i:Int),vs=[.one (.sl .u32 x),.one (.sl .u32 y),.one (.Aj .u32 18 0 0 n),.one (.int .u64 c),AH i]/\bl=[.arr 0 .u32 o]/\(o.length=x.length+1/\n=o.length/\AZ i i'/\i'<=x.length/\AZ c Q/\Q<=1)/\AI (o.take i')+2^(32*i')*Q=AI (x.take i')+AI (y.take i')/\k=x.length-i') (x.length-0) ⟨M,L,0,0,0,0,rfl,rfl,⟨by rw[B,List.length_replicate];omega,by rw[B,List.length_replicate],BM 0,AA,BM 0,AA⟩,by simp[AI],rfl⟩ ?_;rintro J0 a6 vs bl aP ⟨o,n,Q,i',c,i,rfl,rfl,⟨ho,hn,hi,aN,hc,aM⟩,hinv,aa⟩;have ei:=hi.eq;have ec:=hc.eq;refine Af ?_;rintro aT ⟨aG,f21⟩;refine Bi (fun ao=>?_) fun ao=>?_
  ·rintro aZ ⟨aK,f52⟩ aw a5;have a5:=wrap_u32 a5;refine AM ?_;intro ad aC;obtain⟨P,D⟩:=DD (n:=aw) AA;have ay:=D.eq;have az:=D.lt;refine⟨P,fun _=>⟨by show _<List.length (α:=UInt32) o;(first | omega | (simp;omega)),DC D⟩,?_⟩;intro (r:List UInt32) (G:r=List.set (α:=UInt32) o ad P);have aB:r.length=o.length:=by rw[G,List.length_set]
   conv=>cbv
   have C:n<=(r).length:=AA
   obtain⟨ar,H⟩:=xN ((C7 ((r).take n)).length);obtain⟨aj,K⟩:=GF C H;refine .inr (.inr (.inl ⟨[],.one (.Aj .u32 0 0 0 ar),.arr 0 .u32 r,fun _=>⟨by first | decide | simp[DS,DJ],trivial⟩,fun _=>⟨Fb hE (IM C AA H),rfl,rfl⟩,?_⟩));try conv=>cbv
   have aa:i'=x.length:=AA
   have a7:AI (r.take n)=p+q:=by rw[G,hn,(AA:ad=x.length),(AA:o.length=x.length+1),Gg AA,Fj,List.length_take,Nat.min_eq_left AA,(AA:P.toNat=Q)];rw[aa,Ev (Nat.le_refl _),Ev al,hx,hy,Bk,Bk,<-hx] at hinv;exact hinv
   exact AN ⟨⟨rfl,.inl ⟨_,rfl,AA,congrArg _ (by rw[List.drop_zero,K,a7,ak,hz])⟩,trivial⟩,trivial⟩
  refine .inr ?_;refine BA i' fun ag I=>?_
  refine Af ?_;intro aU V aV W;have aH:=V.eq;have f29:=V.lt;have W:=wrap_u64 W;intro ae X;conv=>cbv
  have X:=wrap_u64 X;refine Af ?_;rintro aW ⟨aI,f34⟩ av Y;refine .inr ?_;cases av <;> conv=>cbv
  ·have aq:=EY Y;intro O t;conv=>cbv
   have t:=wrap_u32 t;refine AM ?_;intro F a8;obtain⟨j,f⟩:=DD (n:=O) AA;have R:=f.eq;have S:=f.lt;refine⟨j,fun _=>⟨by show _<List.length (α:=UInt32) o;(first | omega | (simp;omega)),DC f⟩,?_⟩;intro (g:List UInt32) (d:g=List.set (α:=UInt32) o F j);have T:g.length=o.length:=by rw[d,List.length_set]
   refine AM ?_;intro h v;have v:=Fs (p:=4294967296) v rfl;refine AM ?_;intro N ai;refine⟨x.length-(i'+1),?_,?_⟩
   ·omega
   rw[a6];refine⟨g,n,h.toNat,i'+1,h,N,rfl,rfl,⟨by rw[d,List.length_set];exact ho,by rw[d,List.length_set];exact hn,⟨AA⟩,AA,⟨AA⟩,AA⟩,?_,rfl⟩;have hs:=Q5 (o:=o.take i') (i:=i') (xi:=ag.toNat) (yi:=0) (s:=ae.toNat) (w:=j) (by rw[List.length_take];omega) hinv AA AA;rw[d,(AA:F=i'),Gg AA,DV I,Ev (l:=y) (i:=i'+1) AA];rw[(AA:h.toNat=ae.toNat/4294967296)];rw[hs];rw[Ev (l:=y) (i:=i') AA];omega
  have aq:=EZ Y;refine BA i' fun ax ab=>?_
  refine Af ?_;intro aX Z aY a1;have aJ:=Z.eq;have f40:=Z.lt;have a1:=wrap_u64 a1;intro af a2;conv=>cbv
  have a2:=wrap_u64 a2;intro O t;conv=>cbv
  have t:=wrap_u32 t;refine AM ?_;intro F a8;obtain⟨j,f⟩:=DD (n:=O) AA;have R:=f.eq;have S:=f.lt;refine⟨j,fun _=>⟨by show _<List.length (α:=UInt32) o;(first | omega | (simp;omega)),DC f⟩,?_⟩;intro (g:List UInt32) (d:g=List.set (α:=UInt32) o F j);have T:g.length=o.length:=by rw[d,List.length_set]
  refine AM ?_;intro h v;have v:=Fs (p:=4294967296) v rfl;refine AM ?_;intro N ai;refine⟨x.length-(i'+1),?_,?_⟩
  ·omega
  rw[a6];refine⟨g,n,h.toNat,i'+1,h,N,rfl,rfl,⟨by rw[d,List.length_set];exact ho,by rw[d,List.length_set];exact hn,⟨AA⟩,AA,⟨AA⟩,AA⟩,?_,rfl⟩;have hs:=Q5 (o:=o.take i') (i:=i') (xi:=ag.toNat) (yi:=ax.toNat) (s:=af.toNat) (w:=j) (by rw[List.length_take];omega) hinv AA AA;rw[d,(AA:F=i'),Gg AA,DV I,DV ab];rw[(AA:h.toNat=af.toNat/4294967296)];rw[hs]
 cases au <;> conv=>cbv
 ·have an:=EY U;rw[A];exact⟨a,b,_,_,rfl,hl,hm,rfl,AA,AA⟩
 have an:=EZ U;rw[A];exact⟨b,a,_,_,rfl,hm,hl,Nat.add_comm _ _,AA,AA⟩
end
section
variable {b1 b2 b3:Bool} {l l1 l2 l3:List UInt32} {x y:Int}
def NV {i:Nat} {x:UInt32} (h:l[i]? =some x):l.getD i 0=x:=by rw[List.getD_eq_getElem?_getD,h];rfl
def ox:DI (x-y)=CO x y:=by
 unfold CO DI
 split <;> split <;> (try split) <;> (try split) <;> omega
def ZD {m z:List UInt32} {a b:Nat} (hl:AI l=a) (hm:AI m=b) (hz:z=Ah (a*b)) (sl:l.length<=17592186044416) (sm:m.length<=17592186044416):CF 268 [.one (.sl .u32 l),.one (.sl .u32 m)] (.one (.sl .u32 z)):=by
 refine AL Tryz.func268 fun E hE=>?_
 rintro b4 ⟨aG,f10⟩ b5 ⟨aH,f12⟩ b6 aP;refine⟨fun _=>⟨AA,AA,by show _*4<=140737488355328;omega⟩,?_⟩;intro D (F:List UInt32) A;have aF:=A.1;have f:F=List.replicate D (0:el .u32):=A.2;have ay:F.length=D:=by rw[f,List.length_replicate]
 conv=>cbv
 refine BX [] [0,1,5,6] [14] (fun vs bl k=>∃(o:List UInt32) (n i':Nat) (i:Int),vs=[.one (.sl .u32 l),.one (.sl .u32 m),.one (.Aj .u32 14 0 0 n),AH i]/\bl=[.arr 0 .u32 o]/\(o.length=l.length+m.length/\n=o.length/\AZ i i'/\i'<=l.length)/\AI (o.take (i'+m.length))=AI (l.take i')*AI m/\k=l.length-i') (l.length-0) ⟨F,D,0,0,rfl,rfl,⟨by rw[f,List.length_replicate];omega,by rw[f,List.length_replicate],BM 0,AA⟩,by rw[f,List.take_replicate,KQ];simp[AI],rfl⟩ ?_;rintro J0 ab vs bl aZ ⟨o,n,i',i,rfl,rfl,⟨ho,hn,hi,aW⟩,hinv,aX⟩;have ei:=hi.eq;refine Af ?_;rintro b7 ⟨aI,f17⟩;refine Bi (fun ah=>?_) fun ah=>?_
 ·have j:n<=(o).length:=AA
  obtain⟨ak,v⟩:=xN ((C7 ((o).take n)).length);obtain⟨ag,C⟩:=GF j v;refine .inr (.inr (.inl ⟨[],.one (.Aj .u32 0 0 0 ak),.arr 0 .u32 o,fun _=>⟨by first | decide | simp[DS,DJ],trivial⟩,fun _=>⟨Fb hE (IM j AA v),rfl,rfl⟩,?_⟩));try conv=>cbv
  have Y:AI (o.take n)=a*b:=by rw[(AA:i'=l.length),List.take_length,hl,hm,<-ho,List.take_length] at hinv;rw[hn,List.take_length,hinv]
  exact AN ⟨⟨rfl,.inl ⟨_,rfl,AA,congrArg _ (by rw[List.drop_zero,C,Y,hz])⟩,trivial⟩,trivial⟩
 refine .inr ?_;refine BX [] [0,1,5,6,7,8] [14] (fun vs bl k=>∃(o1:List UInt32) (n1 c' k':Nat) (c i1:Int),vs=[.one (.sl .u32 l),.one (.sl .u32 m),.one (.Aj .u32 14 0 0 n1),AH i,.one (.int .u64 c),AH i1]/\bl=[.arr 0 .u32 o1]/\(o1.length=l.length+m.length/\n1=o1.length/\AZ i1 k'/\k'<=m.length/\AZ c c'/\c'<4294967296)/\AI (o1.take (i'+m.length))+2^(32*(i'+k'))*c'=AI (l.take i')*AI m+(l.getD i' 0).toNat*2^(32*i')*AI (m.take k')/\k=m.length-k') (m.length-0) ⟨o,n,0,0,0,0,rfl,rfl,⟨ho,hn,BM 0,AA,BM 0,AA⟩,by rw[hinv];simp[AI],rfl⟩ ?_;rintro J1 ad vs bl b0 ⟨o1,n1,c',k',c,i1,rfl,rfl,⟨a1,Z,ae,aB,hc,aV⟩,d,aY⟩;have aO:=ae.eq;have ec:=hc.eq;refine Af ?_;rintro b8 ⟨aJ,f23⟩;refine Bi (fun aj=>?_) fun aj=>?_
 ·rintro bj ⟨aN,f60⟩ bk aU ar W;have W:=wrap_u32 W;refine AM ?_;intro a7 aE;obtain⟨I,s⟩:=DD (n:=ar) AA;have av:=s.eq;have ax:=s.lt;refine⟨I,fun _=>⟨by show _<List.length (α:=UInt32) o1;(first | omega | (simp;omega)),DC s⟩,?_⟩;intro (H:List UInt32) (h:H=List.set (α:=UInt32) o1 a7 I);have aA:H.length=o1.length:=by rw[h,List.length_set]
  refine AM ?_;intro al aQ;refine⟨l.length-(i'+1),?_,?_⟩
  ·omega
  rw[ab];refine⟨H,n1,i'+1,al,rfl,rfl,⟨by rw[h,List.length_set];exact a1,by rw[h,List.length_set];exact Z,⟨AA⟩,AA⟩,?_,rfl⟩;obtain⟨ai,X⟩:=CE (l:=l) (i:=i') AA;have hk:k'=m.length:=AA
  have hlen:i'+m.length<o1.length:=AA
  rw[h,(AA:i'+1+m.length=i'+m.length+1),(AA:a7=i'+m.length),Gg hlen,Fj,List.length_take,Nat.min_eq_left AA,(AA:I.toNat=c')];rw[hk,NV X] at d;rw[d,List.take_length,DV X]
  grind
 refine .inr ?_;refine AM ?_;intro b9 aS a5 aC;obtain⟨J,t⟩:=CE (l:=o1) (i:=a5) AA;refine⟨J,fun _=>t,?_⟩;refine Af ?_;intro ba M bb N;have aK:=M.eq;have f33:=M.lt;have N:=wrap_u64 N;intro bc O;conv=>cbv
 have O:=wrap_u64 O;refine BA i' fun K w=>?_
 refine Af ?_;intro bd P ao Q;have aL:=P.eq;have f39:=P.lt;have Q:=wrap_u64 Q;refine BA k' fun L a2=>?_
 refine Af ?_;intro bf R aq S;have aM:=R.eq;have f44:=R.lt;have S:=wrap_u64 S;have ep:ao*aq=((K.toNat*L.toNat:Nat):Int):=by rw[Int.natCast_mul];congr 1 <;> omega
 have bp:K.toNat*L.toNat<=4294967295*4294967295:=Nat.mul_le_mul AA AA;intro bg B;conv=>cbv
 have B:=wrap_u64 B;intro bh T;conv=>cbv
 have T:=wrap_u64 T;refine AM ?_;intro E7 aT Eu U;have U:=wrap_u32 U;refine AM ?_;intro a6 aD;obtain⟨aa,r⟩:=DD (n:=Eu) AA;have au:=r.eq;have aw:=r.lt;refine⟨aa,fun _=>⟨by show _<List.length (α:=UInt32) o1;(first | omega | (simp;omega)),DC r⟩,?_⟩;intro (G:List UInt32) (g:G=List.set (α:=UInt32) o1 a6 aa);have az:G.length=o1.length:=by rw[g,List.length_set]
 refine AM ?_;intro a8 V;have V:=Fs (p:=4294967296) V rfl;refine AM ?_;intro an aR;refine⟨m.length-(k'+1),?_,?_⟩
 ·omega
 rw[ad];refine⟨G,n1,a8.toNat,k'+1,a8,an,rfl,rfl,⟨by rw[g,List.length_set];exact a1,by rw[g,List.length_set];exact Z,⟨AA⟩,AA,⟨AA⟩,AA⟩,?_,rfl⟩;have hj:a6=i'+k':=AA
 have af:a5=i'+k':=AA
 rw[af] at t;rw[NV w] at d;rw[g,hj,DV a2,(AA:i'+(k'+1)=i'+k'+1),NV w];refine Xx (q:=J) (xi:=K.toNat) (yk:=L.toNat) (old:=J.toNat) (c:=c') rfl AA t rfl d ?_ rfl;rw[ep] at B;omega
def E1 (k:BQ x b1 l1) (p:BQ y b2 l2) (s:BQ (x*y) b3 l3) (s1:l1.length<=17592186044416) (s2:l2.length<=17592186044416):CF 215 [.agg (Bu b1 l1),.agg (Bu b2 l2)] (.agg (Bu b3 l3)):=by
 refine AL Tryz.func215 fun E i=>?_
 refine AB i (J5 k) ?_;refine AB i (J5 p) ?_;intro t j;obtain⟨v,f⟩:=xU (Ah (x.natAbs*y.natAbs));refine AB i (ZD k.nat p.nat f s1 s2) ?_;obtain⟨g,h,d⟩:=BO (x*y);refine AB (r:= .agg [.bool g,.sl .u32 h]) i (Iw (by rw[f,Bk,j];exact dy k.neg p.neg) d) ?_;exact Ed ((d.uniq s rfl).1.symm) ((d.uniq s rfl).2.symm)
def Mw (v:BQ x b1 l1) (w:BQ y b2 l2) (A:BQ (x+y) b3 l3) (s1:l1.length<=17592186044416) (s2:l2.length<=17592186044416):CF 214 [.agg (Bu b1 l1),.agg (Bu b2 l2)] (.agg (Bu b3 l3)):=by
 refine AL Tryz.func214 fun E j=>?_
 refine AB j (J5 v) ?_;refine AB j (J5 w) ?_;intro J B;cases J <;> conv=>cbv
 ·have k:=Ut B;obtain⟨M,f⟩:=xI (CO x.natAbs y.natAbs);refine AB j (Oa v.Bx w.Bx f) ?_;refine Kf (fun d=>?_) fun d=>?_
  ·obtain⟨L,t⟩:=xU (Ah (y.natAbs-x.natAbs));refine AB (r:= .one (.sl .u32 L)) j (Ua w.Bx v.Bx t (by rw[f] at d;have:=Kw d;omega) s2) ?_;obtain⟨F,I,i⟩:=BO (x+y);refine AB (r:= .agg [.bool F,.sl .u32 I]) j (Iw (by rw[t,Bk];rw[f] at d;exact Qe v.neg w.neg k (by have:=Kw d;omega)) i) ?_;exact Ed ((i.uniq A rfl).1.symm) ((i.uniq A rfl).2.symm)
  obtain⟨K,s⟩:=xU (Ah (x.natAbs-y.natAbs));refine AB (r:= .one (.sl .u32 K)) j (Ua v.Bx w.Bx s (by rw[f] at d;have:=Kv d;omega) s1) ?_;obtain⟨D,H,h⟩:=BO (x+y);refine AB (r:= .agg [.bool D,.sl .u32 H]) j (Iw (by rw[s,Bk,Int.add_comm];rw[f] at d;exact Qe w.neg v.neg (Ne.symm k) (by have:=Kv d;omega)) h) ?_;exact Ed ((h.uniq A rfl).1.symm) ((h.uniq A rfl).2.symm)
 have k:=Uu B;obtain⟨N,p⟩:=xU (Ah (x.natAbs+y.natAbs));refine AB j (nI v.Bx w.Bx p s1 s2) ?_;obtain⟨C,G,g⟩:=BO (x+y);refine AB (r:= .agg [.bool C,.sl .u32 G]) j (Iw (by rw[p,Bk];exact add_same v.neg (k.trans w.neg)) g) ?_;exact Ed ((g.uniq A rfl).1.symm) ((g.uniq A rfl).2.symm)
def Yw (j:BQ x b1 l1) (h:BQ y b2 l2) (i:BQ (x-y) b3 l3) (s1:l1.length<=17592186044416) (s2:l2.length<=17592186044416):CF 305 [.agg (Bu b1 l1),.agg (Bu b2 l2)] (.agg (Bu b3 l3)):=by
 refine AL Tryz.func305 fun E g=>?_
 obtain⟨k,p,EH⟩:=BO (-y);refine AB g (OZ h EH) ?_;obtain⟨d,f,DR⟩:=BO (x-y);refine AB (r:= .agg [.bool d,.sl .u32 f]) g (Mw j EH DR s1 (by rw[EH.Bx,Int.natAbs_neg,<-h.Bx];exact s2)) ?_;exact Ed ((DR.uniq i rfl).1.symm) ((DR.uniq i rfl).2.symm)
def lx (h:BQ x b1 l1) (i:BQ y b2 l2) {c:Int} (g:c=CO x y) (s1:l1.length<=17592186044416) (s2:l2.length<=17592186044416):CF 326 [.agg (Bu b1 l1),.agg (Bu b2 l2)] (AH c):=by
 refine AL Tryz.func326 fun E f=>?_
 obtain⟨j,k,EH⟩:=BO (x-y);refine AB f (Yw h i EH s1 s2) ?_;obtain⟨p,d⟩:=xI (DI (x-y));refine AB f (Ly EH d) ?_;exact AO (by rw[g,d,ox])
end
section
variable {c:Int} {l:List UInt32} {n x:Nat}
def tH (h:0<x):EC x=EC (x/2)+1:=by
 by_cases g:x=1
 ·subst g;decide
 have f:x/2≠0:=AA
 unfold EC;rw[if_neg AA,if_neg f];have a:=Nat.log2_self_le f;have b:=Nat.lt_log2_self (n:=x/2);have c:Nat.log2 (x/2)+1<=Nat.log2 x:=(Nat.le_log2 AA).2 (by rw[Nat.pow_succ];omega);have d:Nat.log2 x<Nat.log2 (x/2)+2:=(Nat.log2_lt AA).2 (by rw[Nat.pow_succ,Nat.pow_succ];rw[Nat.pow_succ] at b;omega);omega
def SY (h:0<x):2^(EC x-1)<=x/\x<2^EC x/\1<=EC x:=by
 unfold EC;rw[if_neg AA];exact⟨by rw[Nat.add_sub_cancel];exact Nat.log2_self_le AA,Nat.lt_log2_self,AA⟩
def eE (h:x<4294967296):EC x<=32:=by
 unfold EC
 split
 ·omega
 rename_i d
 have:=(Nat.log2_lt d).2 (AA:x<2^32);omega
def n3 {y r:Nat} (f:n<=32:=by omega):(x+4294967296*(y+4294967296*r))/2^n%4294967296=(x+4294967296*y)/2^n%4294967296:=by
 have d:2^n*2^(32-n)=4294967296:=by rw[<-Nat.pow_add,(AA:n+(32-n)=32)]
 have e:x+4294967296*(y+4294967296*r)=x+4294967296*y+2^n*(2^(32-n)*r*4294967296):=by
  rw[<-Nat.mul_assoc,<-Nat.mul_assoc,d];grind
 rw[e,Nat.add_mul_div_left _ _ (Nat.two_pow_pos n),Nat.add_mul_mod_self_right]
def uE {n a b:Int} {p q:Nat} (h:n=IntKind.u64.wrap (BitVec.ofInt IntKind.u64.bits a ||| BitVec.ofInt IntKind.u64.bits b).toNat) (ha:a=q) (hb:b=((p*4294967296:Nat):Int)) (g:p<4294967296) (f:q<4294967296):n=((q+4294967296*p:Nat):Int):=by
 rw[fL h ha hb AA AA,Nat.mul_comm];have:=No (a:=q) (b:=p) (d:=32) f;exact congrArg _ this
def yG {X V top high P R0 V0:Nat} (h:X=top*P+R0) (hR:R0<P) (hV:V=high*P+V0) (i:0<high):X/V<=top/high:=by
 have f:0<P:=AA
 have d:X/V<=X/(high*P):=Nat.div_le_div_left AA (Nat.mul_pos i f);have g:X/(high*P)=X/P/high:=by rw[Nat.mul_comm,Nat.div_div_eq_div_mul]
 have h3:X/P=top:=by rw[h,Nat.mul_comm,Nat.mul_add_div f,Nat.div_eq_of_lt hR,Nat.add_zero]
 rw[g,h3] at d;exact d
def ZC (hl:l.length<=2) (K:AZ c (AI l)):CF 232 [.one (.sl .u32 l)] (.one (.int .u64 c)):=by
 refine AL Tryz.func232 fun E Z=>?_
 rintro n6 ⟨W,f6⟩ U Y;refine BX [] [0,3,4] [] (fun vs G k=>∃(d g:Nat) (r j:Int),vs=[.one (.sl .u32 l),.one (.int .u64 r),AH j]/\(AZ (j+1) d/\d<=l.length/\AZ r g)/\g=AI (l.drop d)/\k=d) l.length ⟨l.length,0,0,U,rfl,⟨⟨AA⟩,AA,BM 0⟩,by rw[List.drop_length];rfl,rfl⟩ ?_;rintro V v vs G R ⟨d,g,r,j,rfl,⟨L,M,P⟩,hinv,O⟩;conv=>cbv
 have X:=L.eq;have I:=P.eq;refine Kf (fun Q=>?_) fun Q=>?_
 ·have N:d=0:=AA
  rw[N,List.drop_zero] at hinv;exact AO (by rw[K.eq,I,hinv])
 refine .inr ?_;refine AM ?_;intro A h;have h:=Mk (p:=4294967296) h rfl;obtain⟨i',rfl⟩:∃i',d=i'+1:=⟨d-1,AA⟩
 have F:g<4294967296:=by have:=Dj (l.drop (i'+1));rw[<-hinv] at this;exact Nat.lt_of_lt_of_le this (Nat.pow_le_pow_right AD (by rw[List.length_drop];omega:32*(l.drop (i'+1)).length<=32))
 refine BA i' fun C t=>?_
 refine Af ?_;intro S i T s;have H:=i.eq;have f17:=i.lt;have s:=wrap_u64 s;intro B f;conv=>cbv
 have D:A=((g*4294967296:Nat):Int):=by clear hinv;omega
 have f:=MV (p:=g) (q:=C.toNat) f AA AA AA AA;refine AM ?_;intro w J;refine⟨i',?_,?_⟩
 ·omega
 rw[v];refine⟨i',_,B,w,rfl,⟨⟨AA⟩,AA,⟨f⟩⟩,?_,rfl⟩;rw[E3 t,hinv]
def Y4 {z1:List UInt32} {d:Int} {b:Nat} (hd:AZ d b) (hb:0<b) (ax:b<4294967296) (Et:z1=Ah (AI l/b)) (hc:AZ c (AI l%b)) (sl:l.length<=17592186044416):CF 233 [.one (.sl .u32 l),.one (.int .u32 d)] (.BI [(false,[.sl .u32 z1]),(false,[.int .u32 c])]):=by
 have ed:=hd.eq;refine AL Tryz.func233 fun E hE=>?_
 rintro aC ⟨aq,f10⟩;refine⟨fun _=>⟨AA,AA,by show _*4<=140737488355328;omega⟩,?_⟩;intro L (M:List UInt32) F;have ao:=F.1;have h:M=List.replicate L (0:el .u32):=F.2;have ak:M.length=L:=by rw[h,List.length_replicate]
 refine AM ?_;rintro aD ⟨ar,f13⟩ a8 av;refine BX [] [0,1,6,7,8] [11] (fun vs bl k=>∃(o:List UInt32) (m g A:Nat) (r j:Int),vs=[.one (.sl .u32 l),.one (.int .u32 d),.one (.Aj .u32 11 0 0 m),.one (.int .u64 r),AH j]/\bl=[.arr 0 .u32 o]/\(o.length=l.length/\m=o.length/\AZ (j+1) A/\A<=l.length/\AZ r g/\g<b)/\AI (l.drop A)=AI (o.drop A)*b+g/\k=A) l.length ⟨M,L,0,l.length,0,a8,rfl,rfl,⟨by rw[h,List.length_replicate];omega,by rw[h,List.length_replicate],⟨AA⟩,AA,BM 0,hb⟩,by rw[List.drop_length,List.drop_eq_nil_of_le (by rw[h,List.length_replicate];omega)];simp[AI],rfl⟩ ?_;rintro J0 a1 vs bl aB ⟨o,m,g,A,r,j,rfl,rfl,⟨ho,hm,hj,ay,hr,J⟩,hinv,az⟩;conv=>cbv
 have ej:=hj.eq;have er:=hr.eq;refine Kf (fun a6=>?_) fun a6=>?_
 ·have s:m<=(o).length:=AA
  obtain⟨a7,D⟩:=xN ((C7 ((o).take m)).length);obtain⟨a2,K⟩:=GF s D;refine .inr (.inr (.inl ⟨[],.one (.Aj .u32 0 0 0 a7),.arr 0 .u32 o,fun _=>⟨by first | decide | simp[DS,DJ],trivial⟩,fun _=>⟨Fb hE (IM s AA D),rfl,rfl⟩,?_⟩));refine Af ?_;intro aH U;have U:=wrap_u32 U;have hk:A=0:=AA
  rw[hk,List.drop_zero,List.drop_zero] at hinv;have hq:AI o=AI l/b:=by rw[hinv,Nat.add_comm,Nat.add_mul_div_right _ _ hb,Nat.div_eq_of_lt J,Nat.zero_add]
  have a5:g=AI l%b:=by rw[hinv,Nat.add_comm,Nat.add_mul_mod_self_right,Nat.mod_eq_of_lt J]
  exact AN ⟨⟨rfl,.inl ⟨_,rfl,AA,congrArg _ (by rw[List.drop_zero,K,Et,hm,List.take_length,hq])⟩,trivial⟩,⟨rfl,congrArg _ (by rw[hc.eq,<-a5];omega),trivial⟩,trivial⟩
 refine .inr ?_;refine AM ?_;intro ab G;have G:=Mk (p:=4294967296) G rfl;have G:ab=((g*4294967296:Nat):Int):=by clear hinv;omega
 obtain⟨i',rfl⟩:∃i',A=i'+1:=⟨A-1,AA⟩
 refine BA i' fun f V=>?_
 refine Af ?_;intro aE O aF P;have au:=O.eq;have f24:=O.lt;have P:=wrap_u64 P;intro aG w;conv=>cbv
 have w:=MV (p:=g) (q:=f.toNat) w AA AA AA AA;intro ad S;conv=>cbv
 have S:=wrap_u64 S;refine AM ?_;intro ae H;have H:=wrap_u64 H;intro af I;conv=>cbv
 have I:=wrap_u32 I;have W:ad=(b:Int):=AA
 have X:ae=(((f.toNat+4294967296*g)/b:Nat):Int):=by rw[H,w,W,<-Int.natCast_ediv];have:=Nat.div_le_self (f.toNat+4294967296*g) b;generalize (f.toNat+4294967296*g)/b=Q at *;clear hinv;omega
 refine AM ?_;intro B an;obtain⟨v,t⟩:=DD (n:=af) AA;have ai:=t.eq;have aj:=t.lt;refine⟨v,fun _=>⟨by show _<List.length (α:=UInt32) o;(first | omega | (simp;omega)),DC t⟩,?_⟩;intro (N:List UInt32) (C:N=List.set (α:=UInt32) o B v);have al:N.length=o.length:=by rw[C,List.length_set]
 refine Af ?_;intro ag T;have T:=wrap_u64 T;refine AM ?_;intro ah Z aa aw;refine⟨i',?_,?_⟩
 ·omega
 rw[a1];have Y:ag=(b:Int):=AA
 have h5:=Nat.div_add_mod (f.toNat+4294967296*g) b;refine⟨N,m,(f.toNat+4294967296*g)%b,i',ah,aa,rfl,rfl,⟨AA,AA,⟨AA⟩,AA,⟨by rw[Z,w,Y];simp⟩,Nat.mod_lt _ hb⟩,?_,rfl⟩
 have aA:(f.toNat+4294967296*g)/b<4294967296:=Nat.div_lt_of_lt_mul (by
  have:4294967296*(g+1)<=4294967296*b:=Nat.mul_le_mul_left _ J;rw[Nat.mul_comm b];omega)
 have ew:v.toNat=(f.toNat+4294967296*g)/b:=by
  rw[X] at I
  generalize (f.toNat+4294967296*g)/b=Q at*
  clear hinv
  omega
 rw[E3 V,hinv,C,E3 (l:=o.set B v) (i:=i') (x:=v) (by rw[(AA:B=i'),List.getElem?_set_self AA]),(AA:B=i'),List.drop_set_of_lt AA,ew]
 generalize (f.toNat+4294967296*g)/b=Q at*
 generalize (f.toNat+4294967296*g)%b=R at*
 grind
def Y7 {a:Nat} (t:l=Ah a) (H:AZ c (EC a)) (sl:l.length<=17592186044416):CF 234 [.one (.sl .u32 l)] (AH c):=by
 refine AL Tryz.func234 fun E hE=>?_
 rintro n6 ⟨e6,f6⟩;refine BY (fun W=>?_) fun W=>?_
 ·have v:a=0:=F8.1 (by rw[<-t];exact List.eq_nil_of_length_eq_zero AA);exact AO (by rw[H.eq,v];rfl)
 rintro Y ⟨K,f10⟩ Z N;refine BA ((l.length-1)) fun f p=>?_
 refine Af ?_;intro D h;have L:=h.eq;have f13:=h.lt;refine BX [] [0,3,4] [] (fun vs J k=>∃(s x':Nat) (n x:Int),vs=[.one (.sl .u32 l),AH n,.one (.int .u32 x)]/\(AZ n s/\AZ x x'/\x'<4294967296)/\s+EC x'=EC f.toNat/\k=x') f.toNat ⟨0,f.toNat,0,D,rfl,⟨BM 0,⟨AA⟩,AA⟩,Nat.zero_add _,rfl⟩ ?_;rintro J0 w vs J X ⟨s,x',n,x,rfl,⟨U,V,I⟩,hinv,T⟩;conv=>cbv
 have en:=U.eq;have ex:=V.eq;have S:=eE (x:=f.toNat) AA;refine Eb (fun C=>?_) fun C=>?_
 ·refine .inr ?_;refine AM ?_;intro G O F i;have i:=wrap_u32 i;have g:0<x':=AA
  refine⟨x'/2,?_,?_⟩
  ·omega
  rw[w];refine⟨s+1,x'/2,G,F,rfl,⟨⟨AA⟩,⟨AA⟩,AA⟩,?_,rfl⟩;have:=tH g;omega
 rintro a1 ⟨M,f21⟩ a2 P a5 Q a6 R;have d:=p;rw[t] at d;have r:(Ah a).length-1+1=(Ah a).length:=by rw[<-t];omega
 have B:=Oo d r;have A:=SY (x:=f.toNat) AA;have j:=Uv d r A.1 A.2.1 A.2.2;have g:x'=0:=AA
 have v:EC 0=0:=rfl;rw[g,v] at hinv;rw[<-t] at j;exact AO (by rw[H.eq,j];omega)
def ZB {z:List UInt32} {s:Int} {zn:Nat} (hs:AZ s n) (hn:n<=31) (Et:z.length=l.length+1) (EB:AI z=AI l*2^n) (aA:zn=z.length) (sl:l.length<=17592186044416):CF 235 [.one (.sl .u32 l),AH s] (.one (.own .u32 z zn)):=by
 have es:=hs.eq;refine AL Tryz.func235 fun E hE=>?_
 rintro n9 ⟨e9,f9⟩ aC av;refine⟨fun _=>⟨AA,AA,by show _*4<=140737488355328;omega⟩,?_⟩;intro F (G:List UInt32) C;have aq:=C.1;have f:G=List.replicate F (0:el .u32):=C.2;have ai:G.length=F:=by rw[f,List.length_replicate]
 conv=>cbv
 refine BX [] [0,1,5,6] [11] (fun vs bl k=>∃(o:List UInt32) (c:UInt32) (m i':Nat) (i:Int),vs=[.one (.sl .u32 l),AH s,.one (.Aj .u32 11 0 0 m),AH i]/\bl=[.arr 0 .u32 o]/\(o.length=l.length+1/\m=o.length/\AZ i i'/\i'<=l.length)/\(o[i']? =some c/\c.toNat<2^n)/\AI (o.take i')+2^(32*i')*c.toNat=AI (l.take i')*2^n/\k=l.length-i') (l.length-0) ⟨G,0,F,0,0,rfl,rfl,⟨by rw[f,List.length_replicate];omega,by rw[f,List.length_replicate],BM 0,AA⟩,⟨by rw[f,List.getElem?_replicate,if_pos AA],Nat.two_pow_pos n⟩,by simp[AI],rfl⟩ ?_;rintro J0 a5 vs bl aB ⟨o,c,m,i',i,rfl,rfl,⟨ho,hm,hi,ay⟩,⟨hc,a6⟩,hinv,az⟩;have ei:=hi.eq;refine Af ?_;rintro aD ⟨ar,f14⟩;refine Bi (fun a8=>?_) fun a8=>?_
 ·have hk:i'=l.length:=AA
  have U:AI o=AI l*2^n:=by rw[hk,List.take_length,<-DV (l:=o) (by rw[<-hk];exact hc),List.take_of_length_le AA] at hinv;exact hinv
  exact AN ⟨⟨rfl,.inr (.inl ⟨_,_,AD,rfl,rfl,hm,rfl,Dm (Pb AA (by rw[EB,U])) AA⟩),trivial⟩,trivial⟩
 refine .inr ?_;refine BA i' fun d W=>?_
 refine Af ?_;intro aE K aF L;have au:=K.eq;have f21:=K.lt;have L:=wrap_u64 L;refine AM ?_;intro ab M;have a1:d.toNat*2^n<9223372036854775808:=Nat.mul_lt_mul_of_lt_of_le (by omega:d.toNat<4294967296) (Nat.pow_le_pow_right AD hn:2^n<=2^31) AD;obtain⟨J,g,M⟩:∃q:Nat,q=d.toNat*2^n/\ab=q:=⟨_,rfl,(Xj (p:=d.toNat) (e:=n) M AA AA).trans (by congr 1;exact Nat.mod_eq_of_lt AA)⟩
 rw[<-g] at a1;refine AM ?_;intro X al;obtain⟨Z,v⟩:=CE (l:=o) (i:=X) AA;refine⟨Z,fun _=>v,?_⟩;refine Af ?_;intro aG O aH Q;have a2:=O.eq;have f30:=O.lt;have Q:=wrap_u32 Q;intro I R;conv=>cbv
 have bo:0<=I/\I<4294967296:=by rw[wrap_u32 R];omega
 refine AM ?_;intro Y an;obtain⟨A,r⟩:=DD (n:=I) AA;have ae:=r.eq;have ag:=r.lt;refine⟨A,fun _=>⟨by show _<List.length (α:=UInt32) o;(first | omega | (simp;omega)),DC r⟩,?_⟩;intro (w:List UInt32) (B:w=List.set (α:=UInt32) o Y A);have aj:w.length=o.length:=by rw[B,List.length_set]
 refine AM ?_;intro aI ax aJ S;have S:=Fs (p:=4294967296) S rfl;intro ad T;conv=>cbv
 have T:=wrap_u32 T;refine AM ?_;intro D ao;obtain⟨h,t⟩:=DD (n:=ad) AA;have af:=t.eq;have ah:=t.lt;refine⟨h,fun _=>⟨by show _<List.length (α:=UInt32) w;(first | omega | (simp;omega)),DC t⟩,?_⟩;intro (H:List UInt32) (j:H=List.set (α:=UInt32) w D h);have ak:H.length=w.length:=by rw[j,List.length_set]
 refine AM ?_;intro aa aw;refine⟨l.length-(i'+1),?_,?_⟩
 ·omega
 rw[a5];have hq:2^n*2^(32-n)=4294967296:=by rw[<-Nat.pow_add,(AA:n+(32-n)=32)]
 have ec:Z=c:=by rw[(AA:X=i'),hc] at v;exact (Option.some.inj v).symm
 have V:J%4294967296=2^n*(d.toNat%2^(32-n)):=by rw[g,Nat.mul_comm d.toNat,<-hq,Nat.mul_mod_mul_left]
 have h6:=Sh R (p:=c.toNat) (q:=J%4294967296) (by rw[a2,ec]) AA (by have:=c.toNat_lt;omega) AA;rw[V,No a6,<-V] at h6
 have a7:h.toNat<2^n:=by
  have:J/4294967296<2^n:=Nat.div_lt_of_lt_mul (by rw[g];exact (Nat.mul_lt_mul_right (Nat.two_pow_pos n)).2 AA);omega
 refine⟨H,h,m,i'+1,aa,rfl,rfl,⟨AA,AA,⟨AA⟩,AA⟩,⟨by rw[j,(AA:D=i'+1),List.getElem?_set_self AA],a7⟩,?_,rfl⟩;rw[j,(AA:D=i'+1),Jq (Nat.le_refl _),B,(AA:Y=i'),Gg AA,Fj,List.length_take,Nat.min_eq_left AA,DV W,FX,Nat.add_mul,<-hinv];have e1:A.toNat+4294967296*h.toNat=c.toNat+d.toNat*2^n:=by rw[<-g];omega
 have e2:2^(32*i')*(A.toNat+4294967296*h.toNat)=2^(32*i')*(c.toNat+d.toNat*2^n):=by rw[e1]
 generalize 2^(32*i')=P at*
 generalize 2^n=N at*
 grind
end
section
variable {c n o:Nat} {l u z:List UInt32}
def iF {i k:Nat} {w:UInt32} (h:i+k<z.length):((z.set (i+k) w).drop i).take (k+1)=(z.drop i).take k++[w]:=by
 rw[List.drop_set,if_neg AA,Nat.add_sub_cancel_left,Gg (by rw[List.length_drop];omega)]
def ZE {m:Nat} (Q:o+n<=l.length) (hl:l.length<=140737488355328) (hm:m=(C7 ((l.drop o).take n)).length):Kg Tryz.prog 174 (.Aj .u32 0 0 o n) (.arr 0 .u32 l) [] (.one (.Aj .u32 0 0 o m)) (.arr 0 .u32 l):=by
 refine Og Tryz.func174 (by kernel_rfl) rfl fun E hE=>?_
 conv=>cbv
 refine BX [] [0] [0] (fun vs C k=>∃q:Nat,vs=[.one (.Aj .u32 0 0 o q)]/\C=[.arr 0 .u32 l]/\o+q<=l.length/\m=(C7 ((l.drop o).take q)).length/\k=q) n ⟨n,rfl,rfl,Q,hm,rfl⟩ ?_;rintro X A vs C S ⟨q,rfl,rfl,hq,p,P⟩;conv=>cbv
 intro n4 N;have Y:=N.eq;conv=>cbv
 refine Fu (fun R=>?_) fun R=>?_
 ·refine⟨fun _=>⟨⟨⟨rfl,.inr (.inr ⟨rfl,rfl,congrArg (AC.Aj .u32 0 0 o) (by rw[p,(AA:q=0)];rfl)⟩),trivial⟩,trivial⟩,rfl,AS⟩,fun _=>rfl⟩
 intro n9 O;have Z:=O.eq;refine AM ?_;intro T L s G;obtain⟨g,d⟩:=CE (l:=l) (i:=s) AA;refine⟨g,fun _=>d,?_⟩;refine Af ?_;intro U j;have J:=j.eq;have f12:=j.lt;refine Cw (fun t=>?_) fun t=>?_
 ·have B:g≠0:=fun h=>by subst h;exact t j.eq
  have r:(l.drop o)[q-1]? =some g:=by rw[List.getElem?_drop,(AA:o+(q-1)=s)];exact d
  refine⟨fun _=>⟨⟨⟨rfl,.inr (.inr ⟨rfl,rfl,congrArg (AC.Aj .u32 0 0 o) (by rw[p,(AA:q=q-1+1),EM r,Mm B,List.length_append,List.length_take,List.length_drop];simp;omega)⟩),trivial⟩,trivial⟩,rfl,AS⟩,fun _=>rfl⟩
 refine .inr ?_;intro V w;have K:=w.eq;refine AM ?_;rintro W M I D v f ⟨H,F⟩;refine⟨f,?_,?_⟩
 ·omega
 rw[A];obtain rfl:v=o:=AA
 refine⟨f,rfl,rfl,AA,?_,rfl⟩;obtain rfl:g=0:=UInt32.toNat_inj.1 (by show _=0;omega);rw[p,(AA:q=f+1),EM (x:=0) (by rw[List.getElem?_drop,(AA:v+f=s)];exact d),Lj]
def mZ {y p:List UInt32} {q:Int} {X V n':Nat} (hX:AI ((u.drop o).take c)=X) (b9:o+c<=u.length) (bc:u.length<=17592186044400) (U:y=Ah V) (aI:y.length=n'+1) (b7:c=n'+2) (aD:X<4294967296*V) (hq:AZ q (X/V)) (hp:p=Ah (X/V*V)):Cz Tryz.prog 236 [.one (.Aj .u32 0 0 o c),.one (.sl .u32 y)] (.arr 0 .u32 u) (.BI [(false,[.int .u32 q]),(false,[.sl .u32 p])]):=by
 obtain⟨x,hx⟩:=xU ((u.drop o).take c);have bd:x.length=n'+2:=by rw[hx,List.length_take,List.length_drop];omega
 have aj:∀i,i<c->x[i]? =u[o+i]? :=fun i h=>by rw[hx,List.getElem?_take,if_pos h,List.getElem?_drop]
 rw[<-hx] at hX;refine DW Tryz.func236 fun E hE=>?_
 refine AM ?_;rintro bg ⟨aX,f10⟩ aq aV;obtain⟨A,L⟩:=CE (l:=u) (i:=aq) AA;refine⟨A,fun _=>L,?_⟩;refine Af ?_;intro bh Y bj Z;have aY:=Y.eq;have f14:=Y.lt;have Z:=wrap_u64 Z;refine AM ?_;intro aK a1;have a1:=Mk (p:=4294967296) a1 rfl;have aU:aK=((A.toNat*4294967296:Nat):Int):=AA
 refine AM ?_;intro bk b5 ar aW;obtain⟨C,M⟩:=CE (l:=u) (i:=ar) AA;refine⟨C,fun _=>M,?_⟩;refine Af ?_;intro bl a2 bm a5;have aZ:=a2.eq;have f21:=a2.lt;have a5:=wrap_u64 a5;intro bn O;conv=>cbv
 have O:=MV (p:=A.toNat) (q:=C.toNat) O AA AA AA AA;refine AM ?_;intro bo b6;refine BA n' fun f N=>?_
 refine Af ?_;intro bp a6 aL a7;have b0:=a6.eq;have f28:=a6.lt;have a7:=wrap_u64 a7;have an:x[n'+1]? =some A:=by rw[aj _ AA,(AA:o+(n'+1)=aq)];exact L
 have ao:x[n']? =some C:=by rw[aj _ AA,(AA:o+n'=ar)];exact M
 have aH:f.toNat≠0:=Oo (by rw[<-U];exact N) (by rw[<-U];omega);obtain⟨top,I⟩:∃t,t=C.toNat+4294967296*A.toNat:=⟨_,rfl⟩
 have aE:X=top*2^(32*n')+AI (x.take n'):=by have F:=DV an;have h2:=DV ao;rw[List.take_of_length_le AA,hX] at F;rw[F,h2,FX,I];grind
 have aC:V=f.toNat*2^(32*n')+AI (y.take n'):=by have F:=DV N;rw[List.take_of_length_le AA,U,Bk,<-U] at F;rw[F];grind
 have hg:=yG aE (N7 (l:=x) (n:=n')) aC AA;have R:0<V:=by have:=Nat.mul_pos (AA:0<f.toNat) (Nat.two_pow_pos (32*n'));omega
 have ba:X/V<4294967296:=(Nat.div_lt_iff_lt_mul R).2 aD;have bb:top<18446744073709551616:=AA
 refine AM ?_;intro aM P;have P:=wrap_u64 P;have a8:aM=((top/f.toNat:Nat):Int):=by rw[P,O,(AA:aL=(f.toNat:Int)),<-I,<-Int.natCast_ediv];have:=Nat.div_le_self top f.toNat;generalize top/f.toNat=Q at *;omega
 refine AM ?_;intro aN aa;obtain⟨ax,j⟩:=xK fun vs W=>∃(G:Nat) (g:Int),vs=[.one (.Aj .u32 0 0 o c),.one (.sl .u32 y),.one (.int .u64 g)]/\W=[.arr 0 .u32 u]/\AZ g G/\X/V<=G/\G<4294967296
 refine .inl ⟨[0,1,7],[0],ax,?_,?_⟩
 ·intro vs W hj;rw[j] at hj;obtain⟨G,g,rfl,rfl,ai,aA,ah⟩:=hj;have b4:=ai.eq;refine Af ?_;intro aO ab;have ab:=wrap_u32 ab;obtain⟨aR,v⟩:=DD (n:=aO) AA;have aS:=v.eq;have aT:=v.lt;refine⟨[aR],fun _=>⟨rfl,AD,rfl,⟨rfl,DC v,trivial⟩⟩,.inr ?_⟩;try conv=>cbv
  obtain⟨av,J⟩:=xU (Ah (V*G));refine AB (r:= .one (.sl .u32 av)) hE (ZD (a:=V) (b:=G) (by rw[U,Bk]) (by simp[AI];omega) J AA AS) ?_;refine BX [] [0,1,7,8] [0] (fun vs W k=>∃(D:Nat) (d:Int) (pp:List UInt32),vs=[.one (.Aj .u32 0 0 o c),.one (.sl .u32 y),.one (.int .u64 d),.one (.sl .u32 pp)]/\W=[.arr 0 .u32 u]/\(AZ d D/\D<4294967296/\X/V<=D)/\pp=Ah (V*D)/\k=D) G ⟨G,g,av,rfl,rfl,⟨ai,ah,aA⟩,J,rfl⟩ ?_;rintro J0 aB vs W bf ⟨D,d,pp,rfl,rfl,⟨hd,af,az⟩,B,b8⟩;conv=>cbv
  have ed:=hd.eq;have S:c<=(u.drop o).length:=by rw[List.length_drop];omega
  obtain⟨au,H⟩:=xN ((C7 ((u.drop o).take c)).length);obtain⟨aG,T⟩:=GF S H;refine .inr (.inr (.inl ⟨[],.one (.Aj .u32 0 0 o au),.arr 0 .u32 u,fun _=>⟨by first | decide | simp[DS,DJ],trivial⟩,fun _=>⟨Fb hE (ZE AA AA H),rfl,rfl⟩,?_⟩));try conv=>cbv
  obtain⟨aQ,s⟩:=xI (CO X (V*D:Nat));refine .inr (.inl ⟨[.one (.sl .u32 (((u).drop o).take au)),.one (.sl .u32 pp)],AH aQ,fun _=>⟨⟨_,rfl,AA,rfl⟩,rfl,trivial⟩,fun _=>Im hE (Qc rfl (Oa (by rw[T,<-hx,hX]) B s)),?_⟩);try conv=>cbv
  refine Bi (fun w=>?_) fun w=>?_
  ·intro bq ae;have ae:=wrap_u32 ae;have aF:V*D<=X:=by rw[s] at w;have:=Kv w;omega
   have ag:D=X/V:=Nat.le_antisymm ((Nat.le_div_iff_mul_le R).2 (by rw[Nat.mul_comm];exact aF)) az;refine fun _=>⟨⟨⟨⟨rfl,congrArg _ (by rw[hq.eq,<-ag];omega),trivial⟩,⟨rfl,congrArg _ (by rw[hp,B,<-ag,Nat.mul_comm]),trivial⟩,trivial⟩,rfl,AS⟩,rfl⟩
  have ak:X<V*D:=by rw[s] at w;have:=Kw w;omega
  have ay:1<=D:=by apply Nat.pos_of_ne_zero;intro e;rw[e,Nat.mul_zero] at ak;omega
  have al:pp.length<=17592186044416:=by rw[B];refine Nat.le_trans (HS (k:=n'+2) ?_) AA;have F:=Dj y;rw[aI,U,Bk] at F;have h2:2^(32*(n'+2))=4294967296*2^(32*(n'+1)):=FX (n'+1);rw[h2,Nat.mul_comm];exact Nat.mul_lt_mul_of_lt_of_le af (Nat.le_of_lt F) AA
  refine .inr ?_;intro aP ad;conv=>cbv
  have ad:=wrap_u64 ad;obtain⟨aw,K⟩:=xU (Ah (V*D-V));refine AB (r:= .one (.sl .u32 aw)) hE (Ua B U K (by have:=Nat.mul_le_mul_left V ay;omega) al) ?_;exact Bj aB ⟨D-1,aP,aw,rfl,rfl,⟨⟨AA⟩,AA,by have:=(Nat.div_lt_iff_lt_mul R).2 (show X<D*V by rw[Nat.mul_comm];exact ak);omega⟩,by rw[K,Nat.mul_sub,Nat.mul_one],rfl⟩
 cases aN <;> conv=>cbv
 ·have aJ:=Gs aa;rw[j];exact⟨_,_,rfl,rfl,⟨a8⟩,hg,AA⟩
 have aJ:=Gt aa;rw[j];exact⟨4294967295,_,rfl,rfl,⟨rfl⟩,AA,AA⟩
def my {m:List UInt32} {a b:Nat} (ab:l=(u.drop o).take c) (aL:o+c<=u.length) (hl:l=Ah a) (hm:m=Ah b) (hz:z=Ah (a-b)) (ai:b<=a) (sl:u.length<=17592186044416):Cz Tryz.prog 237 [.one (.Aj .u32 0 0 o c),.one (.sl .u32 m)] (.arr 0 .u32 u) (.one (.sl .u32 z)):=by
 have ak:m.length<=l.length:=by rw[hl,hm];exact FW ai
 have aJ:l.length=c:=by rw[ab,List.length_take,List.length_drop];omega
 have a7:∀i,i<c->l[i]? =u[o+i]? :=fun i h=>by rw[ab,List.getElem?_take,if_pos h,List.getElem?_drop]
 refine DW Tryz.func237 fun E hE=>?_
 conv=>cbv
 intro aN af;have aC:=af.eq;conv=>cbv
 refine⟨fun _=>⟨AA,AA,by show _*4<=140737488355328;omega⟩,?_⟩;intro S (T:List UInt32) Q;have aB:=Q.1;have I:T=List.replicate S (0:el .u32):=Q.2;have aA:T.length=S:=by rw[I,List.length_replicate]
 conv=>cbv
 refine BX [] [0,1,5,6,7] [0,12] (fun vs bl k=>∃(q:List UInt32) (n N i':Nat) (cc i:Int),vs=[.one (.Aj .u32 0 0 o c),.one (.sl .u32 m),.one (.Aj .u32 12 0 0 n),.one (.int .u64 cc),AH i]/\bl=[.arr 0 .u32 u,.arr 0 .u32 q]/\(q.length=l.length/\n=q.length/\AZ i i'/\i'<=l.length/\AZ cc N/\N<=1)/\AI (q.take i')+AI (m.take i')=AI (l.take i')+2^(32*i')*N/\k=l.length-i') (l.length-0) ⟨T,S,0,0,0,0,rfl,rfl,⟨by rw[I,List.length_replicate];omega,by rw[I,List.length_replicate],BM 0,AA,BM 0,AA⟩,by simp[AI],rfl⟩ ?_;rintro J0 a5 vs bl aM ⟨q,n,N,i',cc,i,rfl,rfl,⟨hq,hn,hi,aH,hc,aG⟩,hinv,aI⟩;conv=>cbv
 have ei:=hi.eq;have ec:=hc.eq;intro aO ag;have aD:=ag.eq;conv=>cbv
 refine Bi (fun al=>?_) fun al=>?_
 ·have J:n<=(q).length:=AA
  obtain⟨ao,O⟩:=xN ((C7 ((q).take n)).length);obtain⟨aj,R⟩:=GF J O;refine .inr (.inr (.inl ⟨[],.one (.Aj .u32 0 0 0 ao),.arr 0 .u32 q,fun _=>⟨by first | decide | simp[DS,DJ],trivial⟩,fun _=>⟨Fb hE (IM J AA O),rfl,rfl⟩,?_⟩));try conv=>cbv
  have hk:i'=l.length:=AA
  have a6:AI (q.take n)=a-b:=by rw[hk,Ev ak,Ev (Nat.le_refl _),hm,hl,Bk,Bk,<-hl,<-hq,List.take_length] at hinv;have aK:=Dj q;generalize 2^(32*q.length)=P at *;rw[hn,List.take_length];rcases (by omega:N=0\/N=1) with e | e <;> rw[e] at hinv <;> omega
  refine fun _=>⟨⟨⟨⟨rfl,.inl ⟨_,rfl,AA,congrArg _ (by rw[List.drop_zero,R,a6,hz])⟩,trivial⟩,trivial⟩,rfl,AS⟩,rfl⟩
 refine .inr ?_;refine Af ?_;rintro aP ⟨aE,f21⟩ aq Z;refine .inr ?_;cases aq <;> conv=>cbv
 ·have an:=EY Z;refine AM ?_;intro L a8;obtain⟨t,g⟩:=CE (l:=u) (i:=L) AA;refine⟨t,fun _=>g,?_⟩;refine Af ?_;intro ar v au A;have ae:=v.eq;have f31:=v.lt;have A:=wrap_u64 A;intro av B;conv=>cbv
  have B:=wrap_u64 B;intro aw C;conv=>cbv
  have C:=wrap_u64 C;intro ax D;conv=>cbv
  have D:=wrap_u64 D;intro V F;conv=>cbv
  have F:=wrap_u32 F;refine AM ?_;intro M aa;obtain⟨s,f⟩:=DD (n:=V) AA;have W:=f.eq;have X:=f.lt;refine⟨s,fun _=>⟨by show _<List.length (α:=UInt32) q;(first | omega | (simp;omega)),DC f⟩,?_⟩;intro (j:List UInt32) (d:j=List.set (α:=UInt32) q M s);have Y:j.length=q.length:=by rw[d,List.length_set]
  refine AM ?_;intro ay G;have G:=Fs (p:=4294967296) G rfl;intro r H;conv=>cbv
  have H:=wrap_u64 H;refine AM ?_;intro U ah;refine⟨l.length-(i'+1),?_,?_⟩
  ·omega
  rw[a5];have K:l[i']? =some t:=by rw[a7 _ AA,(AA:o+i'=L)];exact g
  refine⟨j,n,r.toNat,i'+1,r,U,rfl,rfl,⟨by rw[d,List.length_set];exact hq,by rw[d,List.length_set];exact hn,⟨AA⟩,AA,⟨AA⟩,AA⟩,?_,rfl⟩;have hs:=Ng (w:=s) (o:=q) (i:=i') (xi:=t.toNat) (yi:=0) (He:=N) (Hf:=r.toNat) AA hinv AA;rw[d,(AA:M=i'),DV K,<-hs,Ev (l:=m) (i:=i'+1) AA,Ev (l:=m) (i:=i') AA,Nat.mul_zero]
  rfl
 have an:=EZ Z;refine BA i' fun az ad=>?_
 refine Af ?_;intro aQ a1 aR a2;have aF:=a1.eq;have f26:=a1.lt;have a2:=wrap_u64 a2;refine AM ?_;intro L a8;obtain⟨t,g⟩:=CE (l:=u) (i:=L) AA;refine⟨t,fun _=>g,?_⟩;refine Af ?_;intro ar v au A;have ae:=v.eq;have f31:=v.lt;have A:=wrap_u64 A;intro av B;conv=>cbv
 have B:=wrap_u64 B;intro aw C;conv=>cbv
 have C:=wrap_u64 C;intro ax D;conv=>cbv
 have D:=wrap_u64 D;intro V F;conv=>cbv
 have F:=wrap_u32 F;refine AM ?_;intro M aa;obtain⟨s,f⟩:=DD (n:=V) AA;have W:=f.eq;have X:=f.lt;refine⟨s,fun _=>⟨by show _<List.length (α:=UInt32) q;(first | omega | (simp;omega)),DC f⟩,?_⟩;intro (j:List UInt32) (d:j=List.set (α:=UInt32) q M s);have Y:j.length=q.length:=by rw[d,List.length_set]
 refine AM ?_;intro ay G;have G:=Fs (p:=4294967296) G rfl;intro r H;conv=>cbv
 have H:=wrap_u64 H;refine AM ?_;intro U ah;refine⟨l.length-(i'+1),?_,?_⟩
 ·omega
 rw[a5];have K:l[i']? =some t:=by rw[a7 _ AA,(AA:o+i'=L)];exact g
 refine⟨j,n,r.toNat,i'+1,r,U,rfl,rfl,⟨by rw[d,List.length_set];exact hq,by rw[d,List.length_set];exact hn,⟨AA⟩,AA,⟨AA⟩,AA⟩,?_,rfl⟩;have hs:=Ng (w:=s) (o:=q) (i:=i') (xi:=t.toNat) (yi:=az.toNat) (He:=N) (Hf:=r.toNat) AA hinv AA;rw[d,(AA:M=i'),DV K,<-hs,DV ad]
def mX {s:Int} (aB:c<=u.length) (sl:u.length<=17592186044416) (hs:AZ s n) (hn:n<=31) (hz:z=Ah (AI (u.take c)/2^n)):Cz Tryz.prog 238 [.one (.Aj .u32 0 0 0 c),AH s] (.arr 0 .u32 u) (.one (.sl .u32 z)):=by
 have es:=hs.eq;obtain⟨l,hl⟩:=xU (u.take c);have aE:l.length=c:=by rw[hl,List.length_take];omega
 have K:∀i,i<c->l[i]? =u[i]? :=fun i h=>by rw[hl,List.getElem?_take,if_pos h]
 rw[<-hl] at hz;refine DW Tryz.func238 fun E hE=>?_
 conv=>cbv
 intro n9 h9;have e9:=h9.eq;conv=>cbv
 refine⟨fun _=>⟨AA,AA,by show _*4<=140737488355328;omega⟩,?_⟩;intro N (O:List UInt32) J;have ar:=J.1;have w:O=List.replicate N (0:el .u32):=J.2;have an:O.length=N:=by rw[w,List.length_replicate]
 conv=>cbv
 refine BX [] [0,1,5,6] [0,10] (fun vs bl k=>∃(o:List UInt32) (m i':Nat) (i:Int),vs=[.one (.Aj .u32 0 0 0 c),AH s,.one (.Aj .u32 10 0 0 m),AH i]/\bl=[.arr 0 .u32 u,.arr 0 .u32 o]/\(o.length=l.length/\m=o.length/\AZ i i'/\i'<=l.length)/\AI (o.take i')=AI l/2^n%2^(32*i')/\k=l.length-i') (l.length-0) ⟨O,N,0,0,rfl,rfl,⟨by rw[w,List.length_replicate];omega,by rw[w,List.length_replicate],BM 0,AA⟩,by simp[AI,Nat.mod_one],rfl⟩ ?_;rintro J0 a5 vs bl aF ⟨o,m,i',i,rfl,rfl,⟨ho,hm,hi,aC⟩,hinv,aD⟩;conv=>cbv
 have ei:=hi.eq;intro aG aa;have au:=aa.eq;conv=>cbv
 refine Bi (fun ag=>?_) fun ag=>?_
 ·have A:m<=(o).length:=AA
  obtain⟨ai,H⟩:=xN ((C7 ((o).take m)).length);obtain⟨af,L⟩:=GF A H;refine .inr (.inr (.inl ⟨[],.one (.Aj .u32 0 0 0 ai),.arr 0 .u32 o,fun _=>⟨by first | decide | simp[DS,DJ],trivial⟩,fun _=>⟨Fb hE (IM A AA H),rfl,rfl⟩,?_⟩));try conv=>cbv
  have hk:i'=l.length:=AA
  have a6:AI o=AI l/2^n:=by rw[hk,<-ho,List.take_length,ho] at hinv;rw[hinv];exact Nat.mod_eq_of_lt (Nat.lt_of_le_of_lt (Nat.div_le_self _ _) (Dj l))
  refine fun _=>⟨⟨⟨⟨rfl,.inl ⟨_,rfl,AA,congrArg _ (by rw[List.drop_zero,L,hz,hm,List.take_length,a6])⟩,trivial⟩,trivial⟩,rfl,AS⟩,rfl⟩
 refine .inr ?_;refine AM ?_;intro M ao;obtain⟨G,D⟩:=CE (l:=u) (i:=M) AA;refine⟨G,fun _=>D,?_⟩;refine Af ?_;intro aH W aI X;have av:=W.eq;have f20:=W.lt;have X:=wrap_u64 X;refine AM ?_;intro aJ az;intro aK ad;have aw:=ad.eq;refine Af ?_;intro aj Y;refine .inr ?_;cases aj <;> conv=>cbv
 ·have ah:=EY Y;refine AM ?_;intro Q g;obtain⟨v,hv⟩:=xN G.toNat;obtain⟨al,B,g⟩:∃q:Nat,q=v/2^n/\Q=q:=⟨_,rfl,shr_var g AA AA (by show n<=64;omega)⟩
  rw[B] at g;intro R t;conv=>cbv
  have t:=wrap_u32 t;refine AM ?_;intro F a7;obtain⟨r,f⟩:=DD (n:=R) AA;have T:=f.eq;have U:=f.lt;refine⟨r,fun _=>⟨by show _<List.length (α:=UInt32) o;(first | omega | (simp;omega)),DC f⟩,?_⟩;intro (j:List UInt32) (d:j=List.set (α:=UInt32) o F r);have V:j.length=o.length:=by rw[d,List.length_set]
  refine AM ?_;intro P ab;refine⟨l.length-(i'+1),?_,?_⟩
  ·omega
  rw[a5];have ew:r.toNat=v/2^n%4294967296:=AA
  have C:l[i']? =some G:=by rw[K _ AA,(AA:i'=M)];exact D
  refine⟨j,m,i'+1,P,rfl,rfl,⟨by rw[d,List.length_set];exact ho,by rw[d,List.length_set];exact hm,⟨AA⟩,AA⟩,?_,rfl⟩;rw[d,(AA:F=i'),Gg AA,Fj,List.length_take,Nat.min_eq_left AA,hinv,TP,ew];rw[Nat.div_div_eq_div_mul,Nat.mul_comm (2^n),<-Nat.div_div_eq_div_mul,RJ (by omega:i'<=l.length),E3 C,List.drop_eq_nil_of_le (by omega:l.length<=i'+1),hv,AI,Nat.mul_zero,Nat.add_zero]
 have ah:=EZ Y;refine AM ?_;intro aL aA a8 aq;obtain⟨S,I⟩:=CE (l:=u) (i:=a8) AA;refine⟨S,fun _=>I,?_⟩;refine Af ?_;intro aM Z aN a1;have ax:=Z.eq;have f32:=Z.lt;have a1:=wrap_u64 a1;refine AM ?_;intro aO a2;have a2:=Mk (p:=4294967296) a2 rfl;intro ak ae;conv=>cbv
 obtain⟨v,hv,ay⟩:∃v:Nat,v=G.toNat+4294967296*S.toNat/\ak=v:=⟨_,rfl,uE ae AA AA AA AA⟩
 refine AM ?_;intro Q g;obtain⟨al,B,g⟩:∃q:Nat,q=v/2^n/\Q=q:=⟨_,rfl,shr_var g AA AA (by show n<=64;omega)⟩
 rw[B] at g;intro R t;conv=>cbv
 have t:=wrap_u32 t;refine AM ?_;intro F a7;obtain⟨r,f⟩:=DD (n:=R) AA;have T:=f.eq;have U:=f.lt;refine⟨r,fun _=>⟨by show _<List.length (α:=UInt32) o;(first | omega | (simp;omega)),DC f⟩,?_⟩;intro (j:List UInt32) (d:j=List.set (α:=UInt32) o F r);have V:j.length=o.length:=by rw[d,List.length_set]
 refine AM ?_;intro P ab;refine⟨l.length-(i'+1),?_,?_⟩
 ·omega
 rw[a5];have ew:r.toNat=v/2^n%4294967296:=AA
 have C:l[i']? =some G:=by rw[K _ AA,(AA:i'=M)];exact D
 refine⟨j,m,i'+1,P,rfl,rfl,⟨by rw[d,List.length_set];exact ho,by rw[d,List.length_set];exact hm,⟨AA⟩,AA⟩,?_,rfl⟩;rw[d,(AA:F=i'),Gg AA,Fj,List.length_take,Nat.min_eq_left AA,hinv,TP,ew];rw[Nat.div_div_eq_div_mul,Nat.mul_comm (2^n),<-Nat.div_div_eq_div_mul,RJ (by omega:i'<=l.length),E3 C,E3 (show l[i'+1]? =some S from (by rw[K _ AA,(AA:i'+1=a8)];exact I)),n3,hv]
end
section
def Y5 {l m z1 z2:List UInt32} {a b:Nat} (hl:l=Ah a) (hm:m=Ah b) (hb:0<b) (Et:z1=Ah (a/b)) (EB:z2=Ah (a%b)) (sl:l.length<=17592186043990):CF 176 [.one (.sl .u32 l),.one (.sl .u32 m)] (.BI [(false,[.sl .u32 z1]),(false,[.sl .u32 z2])]):=by
 refine IN Tryz.func176 fun E hE=>?_
 conv=>cbv
 obtain⟨dG,T⟩:=xI (CO a b);refine Be hE (Oa hl hm T) ?_;refine Af ?_;intro cu aQ;cases cu <;> conv=>cbv
 ·have Z:=EY aQ;have bx:b<=a:=by rw[T] at Z;have:=Kv Z;omega
  have cl:m.length<=l.length:=by rw[hl,hm];exact FW bx
  have dn:m.length≠0:=fun e=>by have e2:=List.eq_nil_of_length_eq_zero e;rw[hm] at e2;have:=F8.1 e2;omega
  refine Af ?_;intro dw aR cv aS;have bW:=aR.eq;have f26:=aR.le;cases cv <;> conv=>cbv
  ·have bK:=PQ aS;refine Af ?_;intro dx aU cy aV;have bX:=aU.eq;have f41:=aU.le;cases cy <;> conv=>cbv
   ·have bL:=CI aV;refine Af ?_;intro dy aW dz c8;have bY:=aW.eq;have f56:=aW.le;refine D6 ?_;obtain⟨dI,aa⟩:∃n:Int,AZ n (EC b):=⟨_,⟨rfl⟩⟩
    have bg:=aa.eq;refine Be hE (Y7 hm aa AA) ?_;conv=>cbv
    obtain⟨n,hn⟩:∃n,n=m.length:=⟨_,rfl⟩
    have dp:2<=n:=AA
    obtain⟨xt,bF⟩:=CE (l:=m) (i:=n-1) AA;have w:=bF;rw[hm] at w;have ag:n-1+1=(Ah b).length:=by rw[<-hm];omega
    have bG:=Oo w ag;have F:=SY (x:=xt.toNat) AA;have cd:=Uv w ag F.1 F.2.1 F.2.2;have bn:=eE (x:=xt.toNat) (by have:=xt.toNat_lt;omega);obtain⟨s,hs⟩:∃s,s=32-EC xt.toNat:=⟨_,rfl⟩
    intro an c9;conv=>cbv
    refine D6 ?_;have bf:an=(s:Int):=AA
    have ab:AZ an s:=⟨bf⟩;obtain⟨a2,J,K⟩:=MY (N:=AI l*2^s) (k:=l.length+1) (TC l);obtain⟨C,ai⟩:∃k,k=a2.length:=⟨_,rfl⟩
    refine Be hE (ZB ab AA J K ai AA) ?_;conv=>cbv
    obtain⟨dK,ah,L⟩:=MY (N:=AI m*2^s) (k:=m.length+1) (TC m);refine Be hE (EW (ZB ab AA ah L rfl AA)) ?_;conv=>cbv
    obtain⟨M,ae⟩:=xU (Ah (AI m*2^s));refine Be hE (L2 L ae) ?_;conv=>cbv
    obtain⟨aw,b8⟩:=iW (b:=b) (n:=n) (s:=s) (x:=xt) (k:=EC xt.toNat) (by rw[<-hm,hn]) AA w F.1 F.2.1 F.2.2 bn hs;obtain⟨V,bw⟩:∃V,V=AI M:=⟨_,rfl⟩
    have hV:V=b*2^s:=by rw[bw,ae,Bk,hm,Bk]
    have ba:M=Ah V:=by rw[hV,ae,hm,Bk]
    have cq:M.length=n:=by rw[ba,hV];exact aw
    rw[<-hV] at b8;intro dA aX;have bZ:=aX.eq;have f69:=aX.le;conv=>cbv
    refine⟨fun _=>⟨AA,AA,by show _*4<=140737488355328;omega⟩,?_⟩;intro h (bd:List UInt32) aP;have bA:=aP.1;have O:bd=List.replicate h (0:el .u32):=aP.2;have bj:bd.length=h:=by rw[O,List.length_replicate]
    refine Af ?_;intro dB aY dC aZ;have c0:=aY.eq;have f72:=aY.le;have c1:=aZ.eq;have f74:=aZ.le;obtain⟨A,hA⟩:∃A,A=AI a2:=⟨_,rfl⟩
    have D:0<V:=by rw[hV];exact Nat.mul_pos hb (Nat.two_pow_pos s)
    have bA:h=l.length:=AA
    have cj:n<=h:=AA
    have ds:C=l.length+1/\a2.length=l.length+1:=AA
    have bC:s<=31:=AA
    have U:AI (a2.drop (h-n+1))<V:=jU K bC J AA AA b8;intro cA ca;conv=>cbv
    refine D6 ?_;refine BX [] [10,11,12,13,14] [63,70] (fun vs bl k=>∃(u q:List UInt32) (j':Nat) (i:Int),vs=[AH an,.one (.Aj .u32 63 0 0 C),.one (.sl .u32 M),.one (.Aj .u32 70 0 0 h),AH i]/\bl=[.arr 0 .u32 u,.arr 0 .u32 q]/\(u.length=a2.length/\q.length=h/\AZ (i+1) j'/\j'+n<=h+1)/\AI (u.drop j')<V/\A=AI u+2^(32*j')*AI (q.drop j')*V/\k=j') (h-n+1) ⟨a2,bd,h-n+1,cA,rfl,rfl,⟨rfl,by rw[O,List.length_replicate],⟨AA⟩,AA⟩,U,by rw[O,List.drop_replicate,KQ];simp[hA],rfl⟩ ?_;rintro J0 cc vs bl du ⟨u,q,j',i,rfl,rfl,⟨dr,cm,hi,di⟩,a6,hinv,dj⟩;conv=>cbv
    clear T aQ Z bx cl aR bW f26 aS bK aU bX f41 aV bL aW bY f56 c8 aa bg hn bF w ag bG F cd bn hs c9 J ai ah L aw b8 aX bZ f69 O bj aY c0 f72 aZ c1 f74 U ca
    have ei:=hi.eq;refine M8 ?_ ?_ <;> intro dt <;> conv=>cbv
    ·have P:h<=(q).length:=AA
     obtain⟨bM,a7⟩:=xN ((C7 ((q).take h)).length);obtain⟨bU,au⟩:=GF P a7;refine .inr (.inr (.inl ⟨[],.one (.Aj .u32 0 0 0 bM),.arr 0 .u32 q,fun _=>⟨by first | decide | simp[DS,DJ],trivial⟩,fun _=>⟨Fb hE (IM P AA a7),rfl,rfl⟩,?_⟩));try conv=>cbv
     have S:C<=u.length:=AA
     obtain⟨X,a8⟩:=xN ((C7 (u.take C)).length);obtain⟨bV,av⟩:=GF S a8;refine .inr (.inr (.inl ⟨[],.one (.Aj .u32 0 0 0 X),.arr 0 .u32 u,fun _=>⟨by first | decide | simp[DS,DJ],trivial⟩,fun _=>⟨Fb hE (IM S AA a8),rfl,rfl⟩,?_⟩));try conv=>cbv
     obtain⟨bR,ad⟩:=xU (Ah (AI (u.take X)/2^s));refine .inr (.inr (.inr (.inl ⟨63,.arr 0 .u32 u,[.one (.Aj .u32 0 0 0 X),AH an],.one (.sl .u32 bR),AK,fun _=>G3 hE (mX AA AA ab AA ad),?_⟩)));try conv=>cbv
     have bz:j'=0:=AA
     rw[bz,List.drop_zero] at a6;have b4:A=AI u+AI q*V:=by rw[bz] at hinv;simpa using hinv
     have cb:A=a*2^s:=by rw[hA,K,hl,Bk]
     obtain⟨e1,e2⟩:=ax cb hV b4 a6 hb;have cp:AI (u.take X)=AI u:=by rw[av,Bk,List.take_of_length_le AA]
     exact AN ⟨⟨rfl,.inl ⟨_,rfl,AA,congrArg _ (by rw[List.drop_zero,au,<-cm,List.take_length,e1,Et])⟩,trivial⟩,⟨rfl,congrArg _ (by rw[EB,ad,cp,e2]),trivial⟩,trivial⟩
    refine .inr ?_;obtain⟨i',rfl⟩:∃i',j'=i'+1:=⟨j'-1,AA⟩
    obtain⟨R,ar⟩:∃R,R=AI (u.drop i'):=⟨_,rfl⟩
    have cP:V<2^(32*n):=by have:=Dj M;rw[<-bw,cq] at this;exact this
    have h0:AI (u.drop (i'+n+1))=0:=by have:=Vu (l:=u.drop (i'+1)) (n:=n) AA (by rw[List.length_drop];omega);rwa [List.drop_drop,(AA:i'+1+n=i'+n+1)] at this
    have bu:R<4294967296*V:=by obtain⟨xi,ct⟩:=CE (l:=u) (i:=i') AA;rw[ar,E3 ct];have:=xi.toNat_lt;omega
    refine Af ?_;rintro dD ⟨dd,f84⟩ dE df;refine D6 ?_;intro dF dg;conv=>cbv
    refine D6 ?_;refine⟨fun _=>⟨AA,AA,AA⟩,?_⟩;rintro da db ⟨cR,cT⟩;conv=>cbv
    rintro B Y ⟨cW,cU⟩;conv=>cbv
    have b6:B=i':=AA
    have b0:Y=n+1:=AA
    have aJ:AI ((u.drop B).take Y)=R:=by rw[b6,b0,ar];exact iC AA h0
    obtain⟨bQ,aI⟩:∃n:Int,AZ n (R/V):=⟨_,⟨rfl⟩⟩
    have bh:=aI.eq;have cn:R/V<4294967296:=(Nat.div_lt_iff_lt_mul D).2 bu;obtain⟨Qd,bt⟩:∃d,d=R/V:=⟨_,rfl⟩
    rw[<-bt] at bh cn;obtain⟨bS,aO⟩:=xU (Ah (R/V*V));refine .inr (.inr (.inr (.inl ⟨63,.arr 0 .u32 u,[.one (.Aj .u32 0 0 B Y),.one (.sl .u32 M)],.BI [(false,[.int .u32 bQ]),(false,[.sl .u32 bS])],AK,fun _=>G3 hE (mZ (n':=n-1) aJ AA AA ba AA AA bu aI aO),?_⟩)));try conv=>cbv
    refine GL ?_;intro bI cV;conv=>cbv
    obtain⟨a1,af⟩:=DD (n:=bQ) AA;have cM:=af.eq;have cN:=af.lt;refine⟨a1,fun _=>⟨by show _<List.length (α:=UInt32) q;(first | omega | (simp;omega)),DC af⟩,?_⟩;intro (ay:List UInt32) (aD:ay=List.set (α:=UInt32) q bI a1);have cO:ay.length=q.length:=by rw[aD,List.length_set]
    conv=>cbv
    have b5:Y<=(u.drop B).length:=by rw[List.length_drop];omega
    obtain⟨bN,aE⟩:=xN ((C7 ((u.drop B).take Y)).length);obtain⟨ck,b7⟩:=GF b5 aE;refine .inr (.inr (.inl ⟨[],.one (.Aj .u32 0 0 B bN),.arr 0 .u32 u,fun _=>⟨by first | decide | simp[DS,DJ],trivial⟩,fun _=>⟨Fb hE (ZE AA AA aE),rfl,rfl⟩,?_⟩));try conv=>cbv
    have dh:=Nat.div_add_mod R V;have bB:=Nat.mod_lt R D;have bD:R-R/V*V=R%V:=by rw[Nat.mul_comm];omega
    obtain⟨p,G⟩:=xU (Ah (R%V));refine .inr (.inr (.inr (.inl ⟨63,.arr 0 .u32 u,[.one (.Aj .u32 0 0 B bN),.one (.sl .u32 bS)],.one (.sl .u32 p),AK,fun _=>G3 hE (my (a:=R) (b:=R/V*V) rfl AA (by rw[b7,aJ]) aO (by rw[G,bD]) (by rw[Nat.mul_comm];omega) AA),?_⟩)));try conv=>cbv
    refine BX [] [10,11,12,13,14,15,18,19] [63,70] (fun vs bl k=>∃(z:List UInt32) (k':Nat) (j:Int),vs=[AH an,.one (.Aj .u32 63 0 0 C),.one (.sl .u32 M),.one (.Aj .u32 70 0 0 h),AH i,.one (.Aj .u32 63 0 B Y),.one (.sl .u32 p),AH j]/\bl=[.arr 0 .u32 z,.arr 0 .u32 ay]/\(z.length=u.length/\z.take i'=u.take i'/\z.drop (i'+(n+1))=u.drop (i'+(n+1))/\AZ j k'/\k'<=n+1)/\AI ((z.drop i').take k')=AI (p.take k')/\k=n+1-k') (n+1-0) ⟨u,0,0,rfl,rfl,⟨rfl,rfl,rfl,BM 0,AA⟩,by simp[AI],rfl⟩ ?_;rintro J1 bs vs bl dv ⟨z,k',j,rfl,rfl,⟨bH,bc,bb,hj,dm⟩,aj,dk⟩;conv=>cbv
    have ej:=hj.eq;intro cY bk;have cI:=bk.eq;conv=>cbv
    refine Oy ?_ ?_ <;> intro cX <;> conv=>cbv
    ·intro cB de;conv=>cbv
     refine D6 ?_;refine⟨i',?_,?_⟩
     ·omega
     rw[cc];have ch:k'=n+1:=AA
     rw[ch] at aj;have aw:p.length<=n+1:=by rw[G];have:=FW (Nat.le_of_lt bB);rw[<-ba] at this;omega
     rw[Ev (l:=p) aw,G,Bk] at aj;have cr:a1.toNat=R/V:=by rw[<-bt];omega
     obtain⟨g1,g2⟩:=gM (u:=u) (z:=z) (A:=A) (V:=V) (i:=i') (n:=n) (Q:=AI (q.drop (i'+1))) (q:=a1.toNat) bH bc bb AA h0 (by rw[cr,ar]) (by rw[aj,ar]) hinv;refine⟨z,ay,i',cB,rfl,rfl,⟨AA,AA,⟨AA⟩,AA⟩,?_,?_,rfl⟩
     ·rw[g1];exact Nat.mod_lt _ D
     rw[aD,(AA:bI=i'),E3 (l:=q.set i' a1) (i:=i') (x:=a1) (by rw[List.getElem?_set_self AA]),List.drop_set_of_lt AA];exact g2
    refine .inr ?_;refine GL ?_;intro f cf;conv=>cbv
    obtain⟨ao,H⟩:=DD (n:=0) AA;have c2:=H.eq;have c4:=H.lt;refine⟨ao,fun _=>⟨by show _<List.length (α:=UInt32) z;(first | omega | (simp;omega)),DC H⟩,?_⟩;intro (t:List UInt32) (g:t=List.set (α:=UInt32) z f ao);have c6:t.length=z.length:=by rw[g,List.length_set]
    refine Af ?_;rintro cZ ⟨cJ,f113⟩ bO aB;refine .inr ?_;cases bO <;> conv=>cbv
    ·have bJ:=EY aB;intro al bm;conv=>cbv
     refine D6 ?_;refine⟨n+1-(k'+1),?_,?_⟩
     ·omega
     rw[bs];refine⟨t,k'+1,al,rfl,rfl,⟨AA,?_,?_,⟨AA⟩,AA⟩,?_,rfl⟩
     ·rw[g,(AA:f=i'+k')];rw[Jq];exact bc
     ·rw[g,(AA:f=i'+k'),List.drop_set_of_lt AA];exact bb
     rw[g,(AA:f=i'+k'),iF AA,Fj,List.length_take,List.length_drop,Nat.min_eq_left AA,aj,Ev (l:=p) (i:=k'+1) AA,Ev (l:=p) (i:=k') AA,(AA:ao.toNat=0),Nat.mul_zero,Nat.add_zero]
    have bJ:=EZ aB;refine BA k' fun bT b9=>?_
    refine Af ?_;intro bP aC;have cK:=aC.eq;have f120:=aC.lt;refine GL ?_;intro W cg;conv=>cbv
    obtain⟨aq,I⟩:=DD (n:=bP) AA;have c3:=I.eq;have c5:=I.lt;refine⟨aq,fun _=>⟨by show _<List.length (α:=UInt32) t;(first | omega | (simp;omega)),DC I⟩,?_⟩;intro (ak:List UInt32) (v:ak=List.set (α:=UInt32) t W aq);have c7:ak.length=t.length:=by rw[v,List.length_set]
    refine Af ?_;intro al bm;refine D6 ?_;refine⟨n+1-(k'+1),?_,?_⟩
    ·omega
    rw[bs];refine⟨ak,k'+1,al,rfl,rfl,⟨AA,?_,?_,⟨AA⟩,AA⟩,?_,rfl⟩
    ·rw[v,g,(AA:W=f),List.set_set,(AA:f=i'+k')];rw[Jq];exact bc
    ·rw[v,g,(AA:W=f),List.set_set,(AA:f=i'+k'),List.drop_set_of_lt AA];exact bb
    rw[v,g,(AA:W=f),List.set_set,(AA:f=i'+k'),iF AA,Fj,List.length_take,List.length_drop,Nat.min_eq_left AA,aj,DV b9,(AA:aq.toNat=bT.toNat)]
   have bL:=CL aV;refine BA 0 fun cH bE=>?_
   refine Af ?_;intro cz bo;have dc:=bo.eq;have f47:=bo.lt;have cS:b=cH.toNat:=by have:=DV bE;rw[(AA:0+1=m.length),List.take_length,hm,Bk] at this;simpa [AI] using this
   obtain⟨dJ,aM⟩:=xU (Ah (AI l/b));obtain⟨dH,aH⟩:∃n:Int,AZ n (AI l%b):=⟨_,⟨rfl⟩⟩
   have cL:=aH.eq;have dq:=Nat.mod_lt (AI l) hb;refine Be hE (Y4 (d:=cz) (b:=b) (AZ.of AA) hb AA aM aH AA) ?_;refine Af ?_;intro Eu bp;have bp:=wrap_u64 bp;obtain⟨cG,aN⟩:=xU (Ah (AI l%b));refine Be (r:= .one (.sl .u32 cG)) hE (Ob (AZ.of (k:=AI l%b) (by generalize AI l%b=Q at *;omega)) (by generalize AI l%b=Q at *;omega) aN) ?_;try conv=>cbv
   exact AN ⟨⟨rfl,congrArg _ (by rw[Et,aM,hl,Bk]),trivial⟩,⟨rfl,congrArg _ (by rw[EB,aN,hl,Bk]),trivial⟩,trivial⟩
  have bK:=PR aS;obtain⟨cC,aF⟩:∃n:Int,AZ n (a):=⟨_,⟨rfl⟩⟩
  have az:=aF.eq;refine Be (r:= .one (.int .u64 cC)) hE (ZC AA (by rw[hl,Bk];exact aF)) ?_;try conv=>cbv
  obtain⟨cD,aG⟩:∃n:Int,AZ n (b):=⟨_,⟨rfl⟩⟩
  have aA:=aG.eq;refine Be (r:= .one (.int .u64 cD)) hE (ZC AA (by rw[hm,Bk];exact aG)) ?_;try conv=>cbv
  have cQ:a<18446744073709551616:=by have:=Dj l;rw[hl,Bk] at this;exact Nat.lt_of_lt_of_le this (Nat.pow_le_pow_right AD (by rw[<-hl];omega:32*(Ah a).length<=64))
  intro cw a5;conv=>cbv
  refine GL ?_;have a5:=wrap_u64 a5;have bq:=Nat.div_le_self a b;have a5:cw=((a/b:Nat):Int):=by rw[a5,az,aA,<-Int.natCast_ediv];generalize a/b=Q at *;omega
  obtain⟨cE,aK⟩:=xU (Ah (a/b));refine Be (r:= .one (.sl .u32 cE)) hE (Ob (AZ.of (k:=a/b) a5) (by generalize a/b=Q at *;omega) aK) ?_;refine Af ?_;intro cx aT;refine GL ?_;have br:=Nat.mod_lt a hb;have aT:cx=((a%b:Nat):Int):=by rw[aT,az,aA];exact (Int.natCast_emod _ _).symm
  obtain⟨cF,aL⟩:=xU (Ah (a%b));refine Be (r:= .one (.sl .u32 cF)) hE (Ob (AZ.of (k:=a%b) aT) (by generalize a%b=Q at *;omega) aL) ?_;try conv=>cbv
  refine g2 rfl ?_;exact AN ⟨⟨rfl,congrArg _ (by rw[Et,aK]),trivial⟩,⟨rfl,congrArg _ (by rw[EB,aL]),trivial⟩,trivial⟩
 have Z:=EZ aQ;have a6:a<b:=by rw[T] at Z;have:=Kw Z;omega
 exact AN ⟨⟨rfl,.inr (.inl ⟨_,congrArg _ (by rw[Et,Nat.div_eq_of_lt a6];rfl)⟩),trivial⟩,⟨rfl,congrArg _ (by rw[EB,Nat.mod_eq_of_lt a6,hl]),trivial⟩,trivial⟩
end
section
variable {b b1 b2 b3:Bool} {l l1 l2 l3:List UInt32} {q x y:Int}
def wj (d:y≠0) (h:x=q*y):q=if (decide (x<0) !=decide (y<0))=true then -((x.natAbs/y.natAbs:Nat):Int) else ((x.natAbs/y.natAbs:Nat):Int):=by
 have g:x.natAbs/y.natAbs=q.natAbs:=by rw[h,Int.natAbs_mul,Nat.mul_div_cancel _ AA]
 rw[g];rcases Int.lt_trichotomy q 0 with f | f | f
 ·rcases Int.lt_or_gt_of_ne d with d | d
  ·have:=Int.mul_pos_of_neg_of_neg f d;rw[decide_eq_false (by omega:¬x<0),decide_eq_true d];simp;omega
  have:=Int.mul_neg_of_neg_of_pos f d;rw[decide_eq_true (by omega:x<0),decide_eq_false (by omega:¬y<0)];simp;omega
 ·subst f
  split <;> simp
 rcases Int.lt_or_gt_of_ne d with d | d
 ·have:=Int.mul_neg_of_pos_of_neg f d;rw[decide_eq_true (by omega:x<0),decide_eq_true d];simp;omega
 have:=Int.mul_pos f d;rw[decide_eq_false (by omega:¬x<0),decide_eq_false (by omega:¬y<0)];simp;omega
def ly (k:BQ x b1 l1) (p:BQ y b2 l2) (w:y≠0) (j:x=q*y) (I:BQ q b3 l3) (s1:l1.length<=17592186043000) (s2:l2.length<=17592186043000):CF 269 [.agg (Bu b1 l1),.agg (Bu b2 l2)] (.BI [(true,(Bu b3 l3)),(true,[.bool false,.sl .u32 []]),(false,[.int .i64 0])]):=by
 refine AL Tryz.func269 fun E h=>?_
 refine AB h (J5 k) ?_;refine AB h (J5 p) ?_;rintro O ⟨N,f17⟩;refine BY (fun J=>?_) fun J=>?_
 ·exact absurd (p.G9.1 AA) w
 obtain⟨S,i⟩:=xU (Ah (x.natAbs/y.natAbs));obtain⟨R,v⟩:=xU (Ah (x.natAbs%y.natAbs));refine AB h (Y5 k.Bx p.Bx AA i v AA) ?_;intro P G;refine AB (r:= .agg [.bool b3,.sl .u32 l3]) h (Iw (by rw[i,Bk,G,k.neg,p.neg];exact wj w j) I) ?_;obtain⟨B,D,g⟩:=BO (x);refine AB (r:= .agg [.bool B,.sl .u32 D]) h (E1 I p (j ▸ g) (by rw[I.Bx];have:=FW (show q.natAbs<=x.natAbs by rw[j,Int.natAbs_mul];exact Nat.le_mul_of_pos_right _ AA);rw[<-k.Bx] at this;omega) AA) ?_;obtain⟨C,F,d⟩:=BO (0);refine AB (r:= .agg [.bool C,.sl .u32 F]) h (Yw k g (by rw[Int.sub_self];exact d) AA (by rw[g.Bx,<-k.Bx];omega)) ?_;obtain⟨L,f⟩:=xI (DI (0:Int));refine AB h (Ly d f) ?_;obtain⟨M,t⟩:=xI (DI y);refine AB h (Ly p t) ?_
 have em:L*M=0:=by rw[f,show DI (0:Int)=0 from rfl,Int.zero_mul]
 refine AM ?_;intro Q H K s;refine .inr ?_;cases K <;> conv=>cbv
 ·have A:=EY s;refine g2 rfl ?_;exact AN ⟨t3,⟨rfl,congrArg _ ((d.neg.trans rfl).symm),congrArg _ ((d.Bx.trans rfl).symm),trivial⟩,t2,trivial⟩
 have A:=EZ s;exact absurd A (by rw[H,f];show ¬_*_<0;rw[show DI (0:Int)=0 from rfl,Int.zero_mul];decide)
def Iu (w:BQ x b1 l1) (C:BQ y b2 l2) (K:BQ ((Nat.gcd x.natAbs y.natAbs:Nat):Int) b3 l3) (s1:l1.length<=17592186043000) (s2:l2.length<=17592186043000):CF 116 [.agg (Bu b1 l1),.agg (Bu b2 l2)] (.agg (Bu b3 l3)):=by
 refine AL Tryz.func116 fun E j=>?_
 refine AB j (L2 w.nat w.Bx) ?_;refine AB j (L2 C.nat C.Bx) ?_;refine BX [] [4,5,6] [4] (fun vs G k=>∃(u v:List UInt32) (A B:Nat),vs=[.one (.BU 4 0 0),.one (.sl .u32 u),.one (.sl .u32 v)]/\G=[.var 0 [.bool false,.nil]]/\(u=Ah A/\v=Ah B/\Nat.gcd A B=Nat.gcd x.natAbs y.natAbs/\u.length<=17592186043000/\v.length<=17592186043000)/\k=B) y.natAbs ⟨l1,l2,x.natAbs,y.natAbs,rfl,rfl,⟨w.Bx,C.Bx,rfl,s1,s2⟩,rfl⟩ ?_;rintro O p vs G L ⟨u,v,A,B,rfl,rfl,⟨hu,g,H,J,t⟩,s⟩;refine Af ?_;rintro M ⟨I,f16⟩;refine Fu (fun D=>?_) fun D=>?_
 ·have h:B=0:=F8.1 (by rw[<-g];exact List.eq_nil_of_length_eq_zero AA);refine AB (r:= .agg [.bool b3,.sl .u32 l3]) j (Iw (n:=false) (by rw[hu,Bk,<-H,h,Nat.gcd_zero_right];rfl) K) ?_;exact AN ⟨t3,trivial⟩
 refine .inr ?_;have f:0<B:=by apply Nat.pos_of_ne_zero;intro e;rw[e,Hm] at g;rw[g] at *;simp at *;omega
 obtain⟨N,i⟩:=xU (Ah (A/B));obtain⟨F,d⟩:=xU (Ah (A%B));refine AB j (Y5 hu g f i d AA) ?_;refine⟨A%B,?_,?_⟩
 ·rw[s];exact Nat.mod_lt _ f
 rw[p];exact⟨v,F,B,A%B,rfl,rfl,⟨g,d,by rw[<-H,Nat.gcd_comm B,<-Nat.gcd_rec,Nat.gcd_comm],t,by have:=FW (Nat.le_of_lt (Nat.mod_lt A f));rw[<-d,<-g] at this;omega⟩,rfl⟩
def lr {c:Int} (d:BQ x b l) (g:AZ c (EC x.natAbs)) (sl:l.length<=17592186043000):CF 327 [.agg (Bu b l)] (AH c):=by
 refine AL Tryz.func327 fun E f=>?_
 refine AB f (L2 d.nat d.Bx) ?_;refine AB f (Y7 d.Bx g AA) ?_;exact AN ⟨t2,trivial⟩
def Y1 (f:BQ x b l):CF 113 [.agg (Bu b l)] (.one (.bool true)):=by
 refine AL Tryz.func113 fun E r=>?_
 refine AB r (L2 f.nat f.Bx) ?_;rintro C ⟨w,f6⟩ D ⟨A,f9⟩;refine Cw (fun h=>?_) fun h=>?_
 ·exfalso;omega
 intro j d;cases j <;> conv=>cbv
 ·have i:=Hp d;refine AM ?_;rintro t ⟨p,f18⟩ v g;exact AO (by have hb:b=true:=(by cases b with | false=>cases d | true=>rfl);have k:=f.neg;rw[hb] at k;have s:x<0:=of_decide_eq_true k.symm;have B:l.length≠0:=(fun e=>by have:=f.G9.1 e;omega);rw[g,decide_eq_true AA])
 have i:=Hq d;refine g2 rfl ?_;exact AN ⟨t2,trivial⟩
end
end Go.Abs
