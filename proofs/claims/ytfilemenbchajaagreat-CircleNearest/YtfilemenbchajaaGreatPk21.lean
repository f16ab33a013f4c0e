/- Part 22 of a proof. Conditions: each theorem's own. -/
import Derived.Test.YtfilemenbchajaaGreatPk20
set_option linter.all false
set_option maxHeartbeats 8000000
set_option maxRecDepth 20000
open Go.Proofs
namespace Go.Abs
open Go.RowKit
variable {b b1 b2 b3:Bool} {l l1 l2 l3:List UInt32} {x y:Int}
theorem Ws {W:Bool} {X:List UInt32} (K:Ag x b1 l1) (I:Ag y b2 l2) (o:y≠0) (C:Ag (Br x y) b3 l3) (D:Ag (Fh x y) W X) (s1:l1.length<=17592186043000) (s2:l2.length<=17592186043000):CF 356 [.agg [.bool b1,.sl .u32 l1],.agg [.bool b2,.sl .u32 l2]] (.AE [(true,[.bool b3,.sl .u32 l3]),(true,[.bool W,.sl .u32 X]),(false,[.int .i64 0])]):=by
 refine AH Tryz.func356 (by kernel_rfl) rfl fun E s=>?_
 conv=>cbv
 obtain⟨S,v⟩:=xU (AR (AB l2));refine cL s (Dx rfl v) t1 ?_;try conv=>cbv
 have t12:S=l2:=by rw[v];exact I.trim
 rintro a5 ⟨Y,f14⟩;conv=>cbv
 intro O F;conv=>cbv
 cases O <;> conv=>cbv
 ·have M:=Au F;obtain⟨T,w⟩:=xU (AR (AB l1));refine cL s (Dx rfl w) t1 ?_;try conv=>cbv
  have t21:T=l1:=by rw[w];exact K.trim
  obtain⟨J,h⟩:=xU (AR (x.natAbs/y.natAbs));obtain⟨R,d⟩:=xU (AR (x.natAbs%y.natAbs));refine cL (r:= .AE [(false,[.sl .u32 J]),(false,[.sl .u32 R])]) s (Ld (t21.trans K.BI) (t12.trans I.BI) (by omega) h d (by rw[t21];omega)) t2 ?_;try conv=>cbv
  have L:0<y.natAbs:=by omega
  have a1:=Nat.div_add_mod x.natAbs y.natAbs;have a2:=Nat.mod_lt x.natAbs L;have p:=K.neg;have g:=I.neg;intro P G;conv=>cbv
  cases P <;> conv=>cbv
  ·have f:=LO G;refine .inr ?_;intro u q;conv=>cbv
   obtain⟨i,k,a⟩:=Ac (Br x y);refine cL (r:= .agg [.bool i,.sl .u32 k]) s (EI (by rw[h,BB,q,f,SV o (by rw[<-p,<-g];exact f)];simp) a) t2 ?_;try conv=>cbv
   obtain⟨j,m,c⟩:=Ac (Fh x y);refine cL (r:= .agg [.bool j,.sl .u32 m]) s (EI (by rw[d,BB];exact bm g o (by rw[<-p,<-g];exact f)) c) t2 ?_;try conv=>cbv
   refine g2 rfl ?_;exact fA ⟨⟨rfl,congrArg _ ((a.uniq C rfl).1.symm),congrArg _ ((a.uniq C rfl).2.symm),trivial⟩,⟨rfl,congrArg _ ((c.uniq D rfl).1.symm),congrArg _ ((c.uniq D rfl).2.symm),trivial⟩,t2,trivial⟩ rfl (by simp)
  have f:=LP G;rintro a6 ⟨t,f33⟩;conv=>cbv
  intro Q H;conv=>cbv
  refine .inr ?_;cases Q <;> conv=>cbv
  ·have N:=CA H;intro u q;conv=>cbv
   obtain⟨i,k,a⟩:=Ac (Br x y);refine cL (r:= .agg [.bool i,.sl .u32 k]) s (EI (by have n:decide (x<0)≠decide (y<0):=(by rw[<-p,<-g];exact f);have B:u=true:=(by rw[q];simpa using f);rw[h,BB,B,if_pos rfl];exact SQ o n (EL.1 (by rw[<-d];exact List.eq_nil_of_length_eq_zero (by omega)))) a) t2 ?_;try conv=>cbv
   obtain⟨j,m,c⟩:=Ac (Fh x y);refine cL (r:= .agg [.bool j,.sl .u32 m]) s (EI (by have n:decide (x<0)≠decide (y<0):=(by rw[<-p,<-g];exact f);rw[d,BB];exact bh o n (EL.1 (by rw[<-d];exact List.eq_nil_of_length_eq_zero (by omega)))) c) t2 ?_;try conv=>cbv
   refine g2 rfl ?_;exact fA ⟨⟨rfl,congrArg _ ((a.uniq C rfl).1.symm),congrArg _ ((a.uniq C rfl).2.symm),trivial⟩,⟨rfl,congrArg _ ((c.uniq D rfl).1.symm),congrArg _ ((c.uniq D rfl).2.symm),trivial⟩,t2,trivial⟩ rfl (by simp)
  have N:=CB H;refine⟨[(1:UInt32)],fun _=>⟨rfl,by decide,rfl,⟨rfl,t1,trivial⟩⟩,.inl ?_⟩;try conv=>cbv
  obtain⟨U,z⟩:=xU (AR (x.natAbs/y.natAbs+1));refine .inr (.inl ⟨[.one (.sl .u32 J),.one (.sl .u32 [(1:UInt32)])],.one (.sl .u32 U),fun _=>⟨rfl,⟨_,rfl,by simp <;> omega,by simp⟩,trivial⟩,fun _=>Fu s (Cl (NX rfl (Ub h (rfl:[(1:UInt32)]=AR 1) z rfl (by rw[h];have Z:=DW (Nat.div_le_self x.natAbs y.natAbs);rw[<-K.BI] at Z;omega) (by decide)))),?_⟩);try conv=>cbv
  obtain⟨V,A⟩:=xU (AR (y.natAbs-x.natAbs%y.natAbs));refine cL (r:= .one (.sl .u32 V)) s (Od (t12.trans I.BI) d A (Nat.le_of_lt (Nat.mod_lt _ (by omega))) (by rw[t12];omega)) t2 ?_;try conv=>cbv
  intro u q;conv=>cbv
  obtain⟨i,k,a⟩:=Ac (Br x y);refine cL (r:= .agg [.bool i,.sl .u32 k]) s (EI (by have n:decide (x<0)≠decide (y<0):=(by rw[<-p,<-g];exact f);have B:u=true:=(by rw[q];simpa using f);rw[z,BB,B,if_pos rfl];exact SR o n (fun e=>by rw[e,E3] at d;rw[d] at t;simp at t;omega)) a) t2 ?_;try conv=>cbv
  obtain⟨j,m,c⟩:=Ac (Fh x y);refine cL (r:= .agg [.bool j,.sl .u32 m]) s (EI (by have n:decide (x<0)≠decide (y<0):=(by rw[<-p,<-g];exact f);rw[A,BB];exact bj g o n (fun e=>by rw[e,E3] at d;rw[d] at t;simp at t;omega)) c) t2 ?_;try conv=>cbv
  refine g2 rfl ?_;exact fA ⟨⟨rfl,congrArg _ ((a.uniq C rfl).1.symm),congrArg _ ((a.uniq C rfl).2.symm),trivial⟩,⟨rfl,congrArg _ ((c.uniq D rfl).1.symm),congrArg _ ((c.uniq D rfl).2.symm),trivial⟩,t2,trivial⟩ rfl (by simp)
 have M:=Av F
 exfalso;exact o (I.Eb.1 (by rw[<-t12];omega))
theorem QL (hx:Ag x b1 l1) (hy:Ag y b2 l2) (hz:Ag ((Nat.gcd x.natAbs y.natAbs:Nat):Int) b3 l3) (s1:l1.length<=17592186043000) (s2:l2.length<=17592186043000):CF 329 [.agg [.bool b1,.sl .u32 l1],.agg [.bool b2,.sl .u32 l2]] (.agg [.bool b3,.sl .u32 l3]):=by
 refine AH Tryz.func329 (by kernel_rfl) rfl fun E o=>?_
 conv=>cbv
 obtain⟨a2,A⟩:=xU (AR (AB l1));refine cL o (Dx rfl A) t1 ?_;try conv=>cbv
 have t13:a2=l1:=by rw[A];exact hx.trim
 obtain⟨a5,B⟩:=xU (AR (AB l2));refine cL o (Dx rfl B) t1 ?_;try conv=>cbv
 have t16:a5=l2:=by rw[B];exact hy.trim
 refine g2 rfl ?_;obtain⟨K0,H⟩:=xK fun vs w=>∃(u v:List UInt32) (P Q:Nat),vs=[.one (.AD 4 0 0),.one (.sl .u32 u),.one (.sl .u32 v)]/\w=[.var 0 [.bool false,.nil]]/\(u=AR P/\v=AR Q/\Nat.gcd P Q=Nat.gcd x.natAbs y.natAbs/\u.length<=17592186043000)/\v.length<=2/\(2<u.length->v.length=0)
 refine .inl ⟨[4,5,6],[4],K0,?_,?_⟩
 ·intro vs w z;rw[H] at z;obtain⟨u,v,P,Q,rfl,rfl,⟨hu,c,F,I⟩,aE,aD⟩:=z;conv=>cbv
  rintro aK ⟨aC,f39⟩;conv=>cbv
  intro ao N;conv=>cbv
  cases ao <;> conv=>cbv
  ·have ai:=Au N;have ax:u.length<=2:=by omega
   have ay:v.length<=2:=by omega
   have R:P<18446744073709551616:=by have:=CL u;rw[hu,BB] at this;exact Nat.lt_of_lt_of_le this (Nat.pow_le_pow_right (by decide) (by rw[<-hu];omega:32*(AR P).length<=64))
   have T:Q<18446744073709551616:=by have:=CL v;rw[c,BB] at this;exact Nat.lt_of_lt_of_le this (Nat.pow_le_pow_right (by decide) (by rw[<-c];omega:32*(AR Q).length<=64))
   obtain⟨Z,g⟩:∃n:Int,AS n (P):=⟨_,⟨rfl⟩⟩
   have au:=g.eq;refine cL (r:= .one (.int .u64 Z)) o (Mu (by rw[hu,BB]) (by omega) g) t1 ?_;try conv=>cbv
   obtain⟨a1,h⟩:∃n:Int,AS n (Q):=⟨_,⟨rfl⟩⟩
   have av:=h.eq;refine cL (r:= .one (.int .u64 a1)) o (Mu (by rw[c,BB]) (by omega) h) t1 ?_;try conv=>cbv
   refine .inr ?_;obtain⟨J1,G⟩:=xJ fun vs w k=>∃(t f:Nat) (p q:Int),vs=[.one (.AD 4 0 0),.one (.int .u64 p),.one (.int .u64 q)]/\w=[.var 0 [.bool false,.nil]]/\(AS p t/\AS q f/\t<18446744073709551616/\f<18446744073709551616)/\Nat.gcd t f=Nat.gcd P Q/\k=f
   refine⟨[4,9,10],[4],J1,⟨Q,by rw[G];exact⟨P,Q,Z,a1,rfl,rfl,⟨g,h,R,T⟩,rfl,rfl⟩⟩,?_⟩;intro vs w aG z;rw[G] at z;obtain⟨t,f,p,q,rfl,rfl,⟨hp,hq,aw,X⟩,V,ae⟩:=z;conv=>cbv
   have ep:=hp.eq;have eq:=hq.eq;intro aq O;conv=>cbv
   cases aq <;> conv=>cbv
   ·have aj:=Dg O;obtain⟨aM,D⟩:=xU (AR t);refine cL o (Is hp (by omega) D) t1 ?_;try conv=>cbv
    obtain⟨a7,aa,m⟩:=Ac (((Nat.gcd x.natAbs y.natAbs:Nat):Int));refine cL (r:= .agg [.bool a7,.sl .u32 aa]) o (EI (by rw[D,BB,<-F,<-V,show f=0 by omega,Nat.gcd_zero_right];rfl) m) t2 ?_;try conv=>cbv
    exact fA ⟨⟨rfl,congrArg _ ((m.uniq hz rfl).1.symm),congrArg _ ((m.uniq hz rfl).2.symm),trivial⟩,trivial⟩ rfl (by simp)
   have aj:=Dh O;refine .inr ?_;have W:0<f:=by omega
   intro Cg ad;conv=>cbv
   refine g2 (by omega) ?_;have ab:Cg=((t%f:Nat):Int):=by rw[ad,ep,eq];exact (Int.natCast_emod _ _).symm
   refine g2 rfl ?_;refine⟨t%f,?_,?_⟩
   ·rw[ae];exact Nat.mod_lt _ W
   rw[G];exact⟨f,t%f,_,_,rfl,rfl,⟨hq,⟨ab⟩,X,by have:=Nat.mod_lt t W;omega⟩,by rw[<-V,Nat.gcd_comm f,<-Nat.gcd_rec,Nat.gcd_comm],rfl⟩
  have ai:=Av N;have S:Q=0:=EL.1 (by rw[<-c];exact List.eq_nil_of_length_eq_zero (by omega));obtain⟨aL,C⟩:=xU u;refine cL o (IP C (by omega)) t1 ?_;try conv=>cbv
  obtain⟨a6,a8,j⟩:=Ac (((Nat.gcd x.natAbs y.natAbs:Nat):Int));refine cL (r:= .agg [.bool a6,.sl .u32 a8]) o (EI (by rw[C,hu,BB,<-F,S,Nat.gcd_zero_right];rfl) j) t2 ?_;try conv=>cbv
  exact fA ⟨⟨rfl,congrArg _ ((j.uniq hz rfl).1.symm),congrArg _ ((j.uniq hz rfl).2.symm),trivial⟩,trivial⟩ rfl (by simp)
 obtain⟨J0,s⟩:=xJ fun vs w k=>∃(u v:List UInt32) (P Q:Nat),vs=[.one (.AD 4 0 0),.one (.sl .u32 u),.one (.sl .u32 v)]/\w=[.var 0 [.bool false,.nil]]/\(u=AR P/\v=AR Q/\Nat.gcd P Q=Nat.gcd x.natAbs y.natAbs/\u.length<=17592186043000/\v.length<=17592186043000)/\k=Q
 refine⟨[4,5,6],[4],J0,⟨y.natAbs,by rw[s];exact⟨a2,a5,x.natAbs,y.natAbs,rfl,rfl,⟨t13.trans hx.BI,t16.trans hy.BI,rfl,by rw[t13];exact s1,by rw[t16];exact s2⟩,rfl⟩⟩,?_⟩;intro vs w aF z;rw[s] at z;obtain⟨u,v,P,Q,rfl,rfl,⟨hu,c,F,I,Y⟩,U⟩:=z;conv=>cbv
 rintro aH ⟨az,f18⟩;conv=>cbv
 intro ak K;conv=>cbv
 cases ak <;> conv=>cbv
 ·have af:=CA K;rintro aI ⟨aA,f22⟩;conv=>cbv
  intro al L;conv=>cbv
  cases al <;> conv=>cbv
  ·have ag:=CA L;rw[H];exact⟨u,v,P,Q,rfl,rfl,⟨hu,c,F,I⟩,by omega,by omega⟩
  have ag:=CB L;rintro aJ ⟨aB,f26⟩;conv=>cbv
  intro an M;conv=>cbv
  cases an <;> conv=>cbv
  ·have ah:=CA M;rw[H];exact⟨u,v,P,Q,rfl,rfl,⟨hu,c,F,I⟩,by omega,by omega⟩
  have ah:=CB M;refine .inr ?_;have d:0<Q:=by apply Nat.pos_of_ne_zero;intro e;rw[e,E3] at c;rw[c] at *;simp at *;omega
  obtain⟨ar,i⟩:=xU (AR (P/Q));obtain⟨J,a⟩:=xU (AR (P%Q));refine cL o (Ld hu c d i a (by omega)) t2 ?_;try conv=>cbv
  refine⟨P%Q,?_,?_⟩
  ·rw[U];exact Nat.mod_lt _ d
  rw[s];exact⟨v,J,Q,P%Q,rfl,rfl,⟨c,a,by rw[<-F,Nat.gcd_comm Q,<-Nat.gcd_rec,Nat.gcd_comm],Y,by have:=DW (Nat.le_of_lt (Nat.mod_lt P d));rw[<-a,<-c] at this;omega⟩,rfl⟩
 have af:=CB K;refine .inr ?_;have d:0<Q:=by apply Nat.pos_of_ne_zero;intro e;rw[e,E3] at c;rw[c] at *;simp at *;omega
 obtain⟨ar,i⟩:=xU (AR (P/Q));obtain⟨J,a⟩:=xU (AR (P%Q));refine cL o (Ld hu c d i a (by omega)) t2 ?_;try conv=>cbv
 refine⟨P%Q,?_,?_⟩
 ·rw[U];exact Nat.mod_lt _ d
 rw[s];exact⟨v,J,Q,P%Q,rfl,rfl,⟨c,a,by rw[<-F,Nat.gcd_comm Q,<-Nat.gcd_rec,Nat.gcd_comm],Y,by have:=DW (Nat.le_of_lt (Nat.mod_lt P d));rw[<-a,<-c] at this;omega⟩,rfl⟩
theorem cu {u:List UInt32} {X:Nat} (hu:u=AR X) (d:u.length<=l.length+1) (f:Ag x b l) (s1:l.length<=17592186042000):(AR (X+x.natAbs/X)).length<=17592186044416:=by
 refine Nat.le_trans (E2 (k:=l.length+2) ?_) (by omega);have a:=CL u;rw[hu,BB] at a;have c:=CL l;rw[f.nat] at c;have h3:=Nat.div_le_self x.natAbs X;have g:2^(32*(AR X).length)<=2^(32*(l.length+1)):=Nat.pow_le_pow_right (by decide) (by rw[<-hu];omega);have h:2^(32*l.length)<=2^(32*(l.length+1)):=Nat.pow_le_pow_right (by decide) (by omega);have i:2^(32*(l.length+2))=4294967296*2^(32*(l.length+1)):=DR (l.length+1);omega
theorem cG (d:Ag x b l) (a:x.natAbs≠0):CW x.natAbs<=32*l.length/\CW x.natAbs=Nat.log2 x.natAbs+1:=by
 have c:=CL l;rw[d.nat] at c;have f:=(Nat.log2_lt a).2 c;unfold CW;rw[if_neg a];exact⟨by omega,rfl⟩
theorem XP {e:Int} (z:Ag x b1 l1) (t:Ag ((BN x.toNat:Nat):Int) b3 l3) (he:e=if x<0 then 7 else 0) (s1:l1.length<=17592186042000):CF 362 [.agg [.bool b1,.sl .u32 l1]] (.AE [(true,[.bool b3,.sl .u32 l3]),(false,[.int .i64 e])]):=by
 refine AH Tryz.func362 (by kernel_rfl) rfl fun E m=>?_
 conv=>cbv
 obtain⟨ae,H⟩:=xI (Bu x);refine cL m (JY z H) ⟨t2,trivial⟩ ?_;try conv=>cbv
 refine .inr ?_;intro T B;conv=>cbv
 cases T <;> conv=>cbv
 ·have R:=Au B;intro U C;conv=>cbv
  cases U <;> conv=>cbv
  ·have S:=Au C;have A:0<x:=by rcases Ee x with⟨j,p⟩ |⟨j,p⟩ |⟨j,p⟩ <;> omega
   have F:x.natAbs≠0:=by omega
   have P:=cG z F;have a8:0<BN x.natAbs:=by apply Nat.pos_of_ne_zero;intro e;have:=MC x.natAbs;rw[e] at this;omega
   obtain⟨af,q⟩:∃n:Int,AS n (CW x.natAbs):=⟨_,⟨rfl⟩⟩
   have a5:=q.eq;refine cL m (Wn z q (by omega)) ⟨t2,trivial⟩ ?_;try conv=>cbv
   intro ab a6;conv=>cbv
   refine g2 ⟨by omega,by omega,i64 (by omega)⟩ ?_;intro ad a7;conv=>cbv
   refine g1 (by omega) ?_;obtain⟨Y,d⟩:=xU (AR (2^(CW x.natAbs/2+1)));refine cL m (fC (n:=CW x.natAbs/2+1) ⟨by omega⟩ (by omega) d) t1 ?_;try conv=>cbv
   refine .inr ?_;obtain⟨J0,v⟩:=xJ fun vs bl k=>∃(u:List UInt32) (X:Nat),vs=[.one (.AD 1 0 0),.one (.AD 2 0 0),.one (.sl .u32 u)]/\bl=[.var 0 [.bool b1,.sl .u32 l1],.var 0 [.bool false,.nil]]/\(u=AR X/\BN x.natAbs<=X/\0<X/\u.length<=l1.length+1)/\k=X
   refine⟨[1,2,5],[1,2],J0,⟨2^(CW x.natAbs/2+1),by rw[v];exact⟨Y,_,rfl,rfl,⟨d,by rw[P.2];exact fy F,Nat.two_pow_pos _,by rw[d];exact E2 (Nat.pow_lt_pow_right (by decide) (by omega))⟩,rfl⟩⟩,?_⟩;intro vs bl aa hj;rw[v] at hj;obtain⟨u,X,rfl,rfl,⟨hu,w,o,Q⟩,O⟩:=hj;conv=>cbv
   refine .inr ?_;obtain⟨Z,s⟩:=xU (AR (AB l1));refine cL m (Dx rfl s) t1 ?_;try conv=>cbv
   have t26:Z=l1:=by rw[s];exact z.trim
   obtain⟨a1,f⟩:=xU (AR (x.natAbs/X));obtain⟨W,I⟩:=xU (AR (x.natAbs%X));refine cL (r:= .AE [(false,[.sl .u32 a1]),(false,[.sl .u32 W])]) m (Ld (t26.trans z.BI) hu o f I (by rw[t26];omega)) t2 ?_;try conv=>cbv
   obtain⟨a2,g⟩:=xU (AR (X+x.natAbs/X));refine cL (r:= .one (.sl .u32 a2)) m (Ua hu f g (by omega) (by rw[f];have j:=DW (Nat.div_le_self x.natAbs X);rw[<-z.BI] at j;omega)) t2 ?_;try conv=>cbv
   obtain⟨J,a⟩:=xU (AR ((X+x.natAbs/X)/2));refine cL (r:= .one (.sl .u32 J)) m (aD g a (by rw[g];exact cu hu Q z s1)) t1 ?_;try conv=>cbv
   obtain⟨ag,c⟩:=xI (BT ((X+x.natAbs/X)/2:Nat) X);refine cL m (LY a hu c) t2 ?_;try conv=>cbv
   intro V D;conv=>cbv
   cases V <;> conv=>cbv
   ·have i:=EC D;have G:(X+x.natAbs/X)/2<X:=by rw[c] at i;have:=G9 i;omega
    refine⟨(X+x.natAbs/X)/2,?_,?_⟩
    ·rw[O];exact G
    rw[v];exact⟨J,_,rfl,rfl,⟨a,WB w o,by have:=WB w o;omega,by rw[a];have:=DW (Nat.le_of_lt G);rw[<-hu] at this;omega⟩,rfl⟩
   have i:=ED D;obtain⟨K,L,h⟩:=Ac (((X:Nat):Int));refine cL (r:= .agg [.bool K,.sl .u32 L]) m (EI (by rw[hu,BB];rfl) h) t2 ?_;try conv=>cbv
   have N:X<=(X+x.natAbs/X)/2:=by rw[c] at i;have:=G8 i;omega
   have hX:=fw w o N;exact fA ⟨⟨rfl,congrArg _ ((h.uniq t (by rw[<-hX];congr 2;omega)).1.symm),congrArg _ ((h.uniq t (by rw[<-hX];congr 2;omega)).2.symm),trivial⟩,⟨rfl,congrArg _ (by rw[he,if_neg (by omega)]),trivial⟩,trivial⟩ rfl (by simp)
  have S:=Av C;have A:x=0:=by rcases Ee x with⟨j,p⟩ |⟨j,p⟩ |⟨j,p⟩ <;> omega
  have M:((BN x.toNat:Nat):Int)=0:=by rw[show x.toNat=0 by omega];rfl
  rw[M] at t;exact fA ⟨⟨rfl,congrArg _ (t.neg.trans rfl),.inr (.inl ⟨_,congrArg _ (t.BI.trans rfl)⟩),trivial⟩,⟨rfl,congrArg _ (by rw[he,if_neg (by omega)]),trivial⟩,trivial⟩ rfl (by simp)
 have R:=Av B;have A:x<0:=by rcases Ee x with⟨j,p⟩ |⟨j,p⟩ |⟨j,p⟩ <;> omega
 have M:((BN x.toNat:Nat):Int)=0:=by rw[show x.toNat=0 by omega];rfl
 rw[M] at t;exact fA ⟨⟨rfl,congrArg _ (t.neg.trans rfl),.inr (.inl ⟨_,congrArg _ (t.BI.trans rfl)⟩),trivial⟩,⟨rfl,congrArg _ (by rw[he,if_pos A]),trivial⟩,trivial⟩ rfl (by simp)
end Go.Abs
