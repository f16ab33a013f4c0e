/- Part 21 of a proof. Conditions: each theorem's own. -/
import Derived.Test.YtoonaidhfikkeaaGreatPk19
set_option linter.all false
set_option maxHeartbeats 8000000
open Go.Proofs
namespace Go.Abs
open Go.RowKit
variable {b b1 b2 b3:Bool} {l l1 l2 l3:List UInt32} {x y:Int}
theorem Tp {W:Bool} {X:List UInt32} (K:AT x b1 l1) (I:AT y b2 l2) (o:y≠0) (C:AT (BQ x y) b3 l3) (D:AT (Er x y) W X) (s1:l1.length<=17592186043000) (s2:l2.length<=17592186043000):CF 285 [.agg [.bool b1,.sl .u32 l1],.agg [.bool b2,.sl .u32 l2]] (.AF [(true,[.bool b3,.sl .u32 l3]),(true,[.bool W,.sl .u32 X]),(false,[.int .i64 0])]):=by
 refine AE Tryz.func285 (by kernel_rfl) rfl fun E s=>?_
 conv=>cbv
 obtain⟨S,v⟩:=xU (AJ (AB l2));refine cL s (C9 rfl v) t1 ?_;try conv=>cbv
 have t12:S=l2:=by rw[v];exact I.trim
 rintro a5 ⟨Y,f14⟩;conv=>cbv
 intro O F;conv=>cbv
 cases O <;> conv=>cbv
 ·have M:=Ab F;obtain⟨T,w⟩:=xU (AJ (AB l1));refine cL s (C9 rfl w) t1 ?_;try conv=>cbv
  have t21:T=l1:=by rw[w];exact K.trim
  obtain⟨J,h⟩:=xU (AJ (x.natAbs/y.natAbs));obtain⟨R,d⟩:=xU (AJ (x.natAbs%y.natAbs));refine cL (r:= .AF [(false,[.sl .u32 J]),(false,[.sl .u32 R])]) s (Jm (t21.trans K.An) (t12.trans I.An) (by omega) h d (by rw[t21];omega)) t2 ?_;try conv=>cbv
  have L:0<y.natAbs:=by omega
  have a1:=Nat.div_add_mod x.natAbs y.natAbs;have a2:=Nat.mod_lt x.natAbs L;have p:=K.neg;have g:=I.neg;intro P G;conv=>cbv
  cases P <;> conv=>cbv
  ·have f:=Pa G;refine .inr ?_;intro u q;conv=>cbv
   obtain⟨i,k,a⟩:=AP (BQ x y);refine cL (r:= .agg [.bool i,.sl .u32 k]) s (DT (by rw[h,Af,q,f,P5 o (by rw[<-p,<-g];exact f)];simp) a) t2 ?_;try conv=>cbv
   obtain⟨j,m,c⟩:=AP (Er x y);refine cL (r:= .agg [.bool j,.sl .u32 m]) s (DT (by rw[d,Af];exact Xo g o (by rw[<-p,<-g];exact f)) c) t2 ?_;try conv=>cbv
   refine g2 rfl ?_;exact fA ⟨⟨rfl,congrArg _ ((a.uniq C rfl).1.symm),congrArg _ ((a.uniq C rfl).2.symm),trivial⟩,⟨rfl,congrArg _ ((c.uniq D rfl).1.symm),congrArg _ ((c.uniq D rfl).2.symm),trivial⟩,t2,trivial⟩ rfl (by simp)
  have f:=Pb G;rintro a6 ⟨t,f33⟩;conv=>cbv
  intro Q H;conv=>cbv
  refine .inr ?_;cases Q <;> conv=>cbv
  ·have N:=Bc H;intro u q;conv=>cbv
   obtain⟨i,k,a⟩:=AP (BQ x y);refine cL (r:= .agg [.bool i,.sl .u32 k]) s (DT (by have n:decide (x<0)≠decide (y<0):=(by rw[<-p,<-g];exact f);have B:u=true:=(by rw[q];simpa using f);rw[h,Af,B,if_pos rfl];exact P2 o n (DX.1 (by rw[<-d];exact List.eq_nil_of_length_eq_zero (by omega)))) a) t2 ?_;try conv=>cbv
   obtain⟨j,m,c⟩:=AP (Er x y);refine cL (r:= .agg [.bool j,.sl .u32 m]) s (DT (by have n:decide (x<0)≠decide (y<0):=(by rw[<-p,<-g];exact f);rw[d,Af];exact Xm o n (DX.1 (by rw[<-d];exact List.eq_nil_of_length_eq_zero (by omega)))) c) t2 ?_;try conv=>cbv
   refine g2 rfl ?_;exact fA ⟨⟨rfl,congrArg _ ((a.uniq C rfl).1.symm),congrArg _ ((a.uniq C rfl).2.symm),trivial⟩,⟨rfl,congrArg _ ((c.uniq D rfl).1.symm),congrArg _ ((c.uniq D rfl).2.symm),trivial⟩,t2,trivial⟩ rfl (by simp)
  have N:=Be H;refine⟨[(1:UInt32)],fun _=>⟨rfl,by decide,rfl,⟨rfl,t1,trivial⟩⟩,.inl ?_⟩;try conv=>cbv
  obtain⟨U,z⟩:=xU (AJ (x.natAbs/y.natAbs+1));refine .inr (.inl ⟨[.one (.sl .u32 J),.one (.sl .u32 [(1:UInt32)])],.one (.sl .u32 U),fun _=>⟨rfl,⟨_,rfl,by simp <;> omega,by simp⟩,trivial⟩,fun _=>E3 s (B8 (Lj rfl (Rj h (rfl:[(1:UInt32)]=AJ 1) z rfl (by rw[h];have Z:=Cp (Nat.div_le_self x.natAbs y.natAbs);rw[<-K.An] at Z;omega) (by decide)))),?_⟩);try conv=>cbv
  obtain⟨V,A⟩:=xU (AJ (y.natAbs-x.natAbs%y.natAbs));refine cL (r:= .one (.sl .u32 V)) s (Ml (t12.trans I.An) d A (Nat.le_of_lt (Nat.mod_lt _ (by omega))) (by rw[t12];omega)) t2 ?_;try conv=>cbv
  intro u q;conv=>cbv
  obtain⟨i,k,a⟩:=AP (BQ x y);refine cL (r:= .agg [.bool i,.sl .u32 k]) s (DT (by have n:decide (x<0)≠decide (y<0):=(by rw[<-p,<-g];exact f);have B:u=true:=(by rw[q];simpa using f);rw[z,Af,B,if_pos rfl];exact P3 o n (fun e=>by rw[e,ED] at d;rw[d] at t;simp at t;omega)) a) t2 ?_;try conv=>cbv
  obtain⟨j,m,c⟩:=AP (Er x y);refine cL (r:= .agg [.bool j,.sl .u32 m]) s (DT (by have n:decide (x<0)≠decide (y<0):=(by rw[<-p,<-g];exact f);rw[A,Af];exact Xn g o n (fun e=>by rw[e,ED] at d;rw[d] at t;simp at t;omega)) c) t2 ?_;try conv=>cbv
  refine g2 rfl ?_;exact fA ⟨⟨rfl,congrArg _ ((a.uniq C rfl).1.symm),congrArg _ ((a.uniq C rfl).2.symm),trivial⟩,⟨rfl,congrArg _ ((c.uniq D rfl).1.symm),congrArg _ ((c.uniq D rfl).2.symm),trivial⟩,t2,trivial⟩ rfl (by simp)
 have M:=Ad F
 exfalso;exact o (I.Dm.1 (by rw[<-t12];omega))
theorem N9 (hx:AT x b1 l1) (hy:AT y b2 l2) (hz:AT ((Nat.gcd x.natAbs y.natAbs:Nat):Int) b3 l3) (s1:l1.length<=17592186043000) (s2:l2.length<=17592186043000):CF 259 [.agg [.bool b1,.sl .u32 l1],.agg [.bool b2,.sl .u32 l2]] (.agg [.bool b3,.sl .u32 l3]):=by
 refine AE Tryz.func259 (by kernel_rfl) rfl fun E o=>?_
 conv=>cbv
 obtain⟨a5,A⟩:=xU (AJ (AB l1));refine cL o (C9 rfl A) t1 ?_;try conv=>cbv
 have t13:a5=l1:=by rw[A];exact hx.trim
 obtain⟨a6,B⟩:=xU (AJ (AB l2));refine cL o (C9 rfl B) t1 ?_;try conv=>cbv
 have t16:a6=l2:=by rw[B];exact hy.trim
 refine g2 rfl ?_;obtain⟨K0,I⟩:=xK fun F w=>∃(u v:List UInt32) (P Q:Nat),F=[.one (.Am 4 0 0),.one (.sl .u32 u),.one (.sl .u32 v)]/\w=[.var 0 [.bool false,.nil]]/\(u=AJ P/\v=AJ Q/\Nat.gcd P Q=Nat.gcd x.natAbs y.natAbs/\u.length<=17592186043000)/\v.length<=2/\(2<u.length->v.length=0)
 refine .inl ⟨[4,5,6],[4],K0,?_,?_⟩
 ·intro F w z;rw[I] at z;obtain⟨u,v,P,Q,rfl,rfl,⟨hu,c,G,J⟩,aF,aE⟩:=z;conv=>cbv
  rintro aL ⟨aD,f39⟩;conv=>cbv
  intro aq O;conv=>cbv
  cases aq <;> conv=>cbv
  ·have aj:=Ab O;have ay:u.length<=2:=by omega
   have az:v.length<=2:=by omega
   have S:P<18446744073709551616:=by have:=Bk u;rw[hu,Af] at this;exact Nat.lt_of_lt_of_le this (Nat.pow_le_pow_right (by decide) (by rw[<-hu];omega:32*(AJ P).length<=64))
   have U:Q<18446744073709551616:=by have:=Bk v;rw[c,Af] at this;exact Nat.lt_of_lt_of_le this (Nat.pow_le_pow_right (by decide) (by rw[<-c];omega:32*(AJ Q).length<=64))
   obtain⟨a1,g⟩:∃n:Int,AK n (P):=⟨_,⟨rfl⟩⟩
   have av:=g.eq;refine cL (r:= .one (.int .u64 a1)) o (K4 (by rw[hu,Af]) (by omega) g) t1 ?_;try conv=>cbv
   obtain⟨a2,h⟩:∃n:Int,AK n (Q):=⟨_,⟨rfl⟩⟩
   have aw:=h.eq;refine cL (r:= .one (.int .u64 a2)) o (K4 (by rw[c,Af]) (by omega) h) t1 ?_;try conv=>cbv
   refine .inr ?_;obtain⟨J1,H⟩:=xJ fun F w k=>∃(t f:Nat) (p q:Int),F=[.one (.Am 4 0 0),.one (.int .u64 p),.one (.int .u64 q)]/\w=[.var 0 [.bool false,.nil]]/\(AK p t/\AK q f/\t<18446744073709551616/\f<18446744073709551616)/\Nat.gcd t f=Nat.gcd P Q/\k=f
   refine⟨[4,9,10],[4],J1,⟨Q,by rw[H];exact⟨P,Q,a1,a2,rfl,rfl,⟨g,h,S,U⟩,rfl,rfl⟩⟩,?_⟩;intro F w aH z;rw[H] at z;obtain⟨t,f,p,q,rfl,rfl,⟨hp,hq,ax,Y⟩,W,af⟩:=z;conv=>cbv
   have ep:=hp.eq;have eq:=hq.eq;intro ar R;conv=>cbv
   cases ar <;> conv=>cbv
   ·have ak:=DR R;obtain⟨aN,D⟩:=xU (AJ t);refine cL o (HT hp (by omega) D) t1 ?_;try conv=>cbv
    obtain⟨a8,ab,m⟩:=AP (((Nat.gcd x.natAbs y.natAbs:Nat):Int));refine cL (r:= .agg [.bool a8,.sl .u32 ab]) o (DT (by rw[D,Af,<-G,<-W,show f=0 by omega,Nat.gcd_zero_right];rfl) m) t2 ?_;try conv=>cbv
    exact fA ⟨⟨rfl,congrArg _ ((m.uniq hz rfl).1.symm),congrArg _ ((m.uniq hz rfl).2.symm),trivial⟩,trivial⟩ rfl (by simp)
   have ak:=DS R;refine .inr ?_;have X:0<f:=by omega
   intro CQ ae;conv=>cbv
   refine g2 (by omega) ?_;have ad:CQ=((t%f:Nat):Int):=by rw[ae,ep,eq];exact (Int.natCast_emod _ _).symm
   refine g2 rfl ?_;refine⟨t%f,?_,?_⟩
   ·rw[af];exact Nat.mod_lt _ X
   rw[H];exact⟨f,t%f,_,_,rfl,rfl,⟨hq,⟨ad⟩,Y,by have:=Nat.mod_lt t X;omega⟩,by rw[<-W,Nat.gcd_comm f,<-Nat.gcd_rec,Nat.gcd_comm],rfl⟩
  have aj:=Ad O;have T:Q=0:=DX.1 (by rw[<-c];exact List.eq_nil_of_length_eq_zero (by omega));obtain⟨aM,C⟩:=xU u;refine cL o (G5 C (by omega)) t1 ?_;try conv=>cbv
  obtain⟨a7,aa,j⟩:=AP (((Nat.gcd x.natAbs y.natAbs:Nat):Int));refine cL (r:= .agg [.bool a7,.sl .u32 aa]) o (DT (by rw[C,hu,Af,<-G,T,Nat.gcd_zero_right];rfl) j) t2 ?_;try conv=>cbv
  exact fA ⟨⟨rfl,congrArg _ ((j.uniq hz rfl).1.symm),congrArg _ ((j.uniq hz rfl).2.symm),trivial⟩,trivial⟩ rfl (by simp)
 obtain⟨J0,s⟩:=xJ fun F w k=>∃(u v:List UInt32) (P Q:Nat),F=[.one (.Am 4 0 0),.one (.sl .u32 u),.one (.sl .u32 v)]/\w=[.var 0 [.bool false,.nil]]/\(u=AJ P/\v=AJ Q/\Nat.gcd P Q=Nat.gcd x.natAbs y.natAbs/\u.length<=17592186043000/\v.length<=17592186043000)/\k=Q
 refine⟨[4,5,6],[4],J0,⟨y.natAbs,by rw[s];exact⟨a5,a6,x.natAbs,y.natAbs,rfl,rfl,⟨t13.trans hx.An,t16.trans hy.An,rfl,by rw[t13];exact s1,by rw[t16];exact s2⟩,rfl⟩⟩,?_⟩;intro F w aG z;rw[s] at z;obtain⟨u,v,P,Q,rfl,rfl,⟨hu,c,G,J,Z⟩,V⟩:=z;conv=>cbv
 rintro aI ⟨aA,f18⟩;conv=>cbv
 intro al L;conv=>cbv
 cases al <;> conv=>cbv
 ·have ag:=Bc L;rintro aJ ⟨aB,f22⟩;conv=>cbv
  intro an M;conv=>cbv
  cases an <;> conv=>cbv
  ·have ah:=Bc M;rw[I];exact⟨u,v,P,Q,rfl,rfl,⟨hu,c,G,J⟩,by omega,by omega⟩
  have ah:=Be M;rintro aK ⟨aC,f26⟩;conv=>cbv
  intro ao N;conv=>cbv
  cases ao <;> conv=>cbv
  ·have ai:=Bc N;rw[I];exact⟨u,v,P,Q,rfl,rfl,⟨hu,c,G,J⟩,by omega,by omega⟩
  have ai:=Be N;refine .inr ?_;have d:0<Q:=by apply Nat.pos_of_ne_zero;intro e;rw[e,ED] at c;rw[c] at *;simp at *;omega
  obtain⟨au,i⟩:=xU (AJ (P/Q));obtain⟨K,a⟩:=xU (AJ (P%Q));refine cL o (Jm hu c d i a (by omega)) t2 ?_;try conv=>cbv
  refine⟨P%Q,?_,?_⟩
  ·rw[V];exact Nat.mod_lt _ d
  rw[s];exact⟨v,K,Q,P%Q,rfl,rfl,⟨c,a,by rw[<-G,Nat.gcd_comm Q,<-Nat.gcd_rec,Nat.gcd_comm],Z,by have:=Cp (Nat.le_of_lt (Nat.mod_lt P d));rw[<-a,<-c] at this;omega⟩,rfl⟩
 have ag:=Be L;refine .inr ?_;have d:0<Q:=by apply Nat.pos_of_ne_zero;intro e;rw[e,ED] at c;rw[c] at *;simp at *;omega
 obtain⟨au,i⟩:=xU (AJ (P/Q));obtain⟨K,a⟩:=xU (AJ (P%Q));refine cL o (Jm hu c d i a (by omega)) t2 ?_;try conv=>cbv
 refine⟨P%Q,?_,?_⟩
 ·rw[V];exact Nat.mod_lt _ d
 rw[s];exact⟨v,K,Q,P%Q,rfl,rfl,⟨c,a,by rw[<-G,Nat.gcd_comm Q,<-Nat.gcd_rec,Nat.gcd_comm],Z,by have:=Cp (Nat.le_of_lt (Nat.mod_lt P d));rw[<-a,<-c] at this;omega⟩,rfl⟩
theorem YQ {u:List UInt32} {X:Nat} (hu:u=AJ X) (d:u.length<=l.length+1) (f:AT x b l) (s1:l.length<=17592186042000):(AJ (X+x.natAbs/X)).length<=17592186044416:=by
 refine Nat.le_trans (EC (k:=l.length+2) ?_) (by omega);have a:=Bk u;rw[hu,Af] at a;have c:=Bk l;rw[f.nat] at c;have g:=Nat.div_le_self x.natAbs X;have h:2^(32*(AJ X).length)<=2^(32*(l.length+1)):=Nat.pow_le_pow_right (by decide) (by rw[<-hu];omega);have i:2^(32*l.length)<=2^(32*(l.length+1)):=Nat.pow_le_pow_right (by decide) (by omega);have j:2^(32*(l.length+2))=4294967296*2^(32*(l.length+1)):=Cj (l.length+1);omega
theorem Xz (d:AT x b l) (a:x.natAbs≠0):Bx x.natAbs<=32*l.length/\Bx x.natAbs=Nat.log2 x.natAbs+1:=by
 have c:=Bk l;rw[d.nat] at c;have f:=(Nat.log2_lt a).2 c;unfold Bx;rw[if_neg a];exact⟨by omega,rfl⟩
theorem UX {e:Int} (z:AT x b1 l1) (t:AT ((Ar x.toNat:Nat):Int) b3 l3) (he:e=if x<0 then 7 else 0) (s1:l1.length<=17592186042000):CF 301 [.agg [.bool b1,.sl .u32 l1]] (.AF [(true,[.bool b3,.sl .u32 l3]),(false,[.int .i64 e])]):=by
 refine AE Tryz.func301 (by kernel_rfl) rfl fun E m=>?_
 conv=>cbv
 obtain⟨ae,H⟩:=xI (BR x);refine cL m (H6 z H) ⟨t2,trivial⟩ ?_;try conv=>cbv
 refine .inr ?_;intro T B;conv=>cbv
 cases T <;> conv=>cbv
 ·have R:=Ab B;intro U C;conv=>cbv
  cases U <;> conv=>cbv
  ·have S:=Ab C;have A:0<x:=by rcases Dq x with⟨j,p⟩ |⟨j,p⟩ |⟨j,p⟩ <;> omega
   have F:x.natAbs≠0:=by omega
   have P:=Xz z F;have a8:0<Ar x.natAbs:=by apply Nat.pos_of_ne_zero;intro e;have:=KM x.natAbs;rw[e] at this;omega
   obtain⟨af,q⟩:∃n:Int,AK n (Bx x.natAbs):=⟨_,⟨rfl⟩⟩
   have a5:=q.eq;refine cL m (Tk z q (by omega)) ⟨t2,trivial⟩ ?_;try conv=>cbv
   intro ab a6;conv=>cbv
   refine g2 ⟨by omega,by omega,i64 (by omega)⟩ ?_;intro ad a7;conv=>cbv
   refine g1 (by omega) ?_;obtain⟨Y,d⟩:=xU (AJ (2^(Bx x.natAbs/2+1)));refine cL m (ZD (n:=Bx x.natAbs/2+1) ⟨by omega⟩ (by omega) d) t1 ?_;try conv=>cbv
   refine .inr ?_;obtain⟨J0,v⟩:=xJ fun vs bl k=>∃(u:List UInt32) (X:Nat),vs=[.one (.Am 1 0 0),.one (.Am 2 0 0),.one (.sl .u32 u)]/\bl=[.var 0 [.bool b1,.sl .u32 l1],.var 0 [.bool false,.nil]]/\(u=AJ X/\Ar x.natAbs<=X/\0<X/\u.length<=l1.length+1)/\k=X
   refine⟨[1,2,5],[1,2],J0,⟨2^(Bx x.natAbs/2+1),by rw[v];exact⟨Y,_,rfl,rfl,⟨d,by rw[P.2];exact Zp F,Nat.two_pow_pos _,by rw[d];exact EC (Nat.pow_lt_pow_right (by decide) (by omega))⟩,rfl⟩⟩,?_⟩;intro vs bl aa hj;rw[v] at hj;obtain⟨u,X,rfl,rfl,⟨hu,w,o,Q⟩,O⟩:=hj;conv=>cbv
   refine .inr ?_;obtain⟨Z,s⟩:=xU (AJ (AB l1));refine cL m (C9 rfl s) t1 ?_;try conv=>cbv
   have t26:Z=l1:=by rw[s];exact z.trim
   obtain⟨a1,f⟩:=xU (AJ (x.natAbs/X));obtain⟨W,I⟩:=xU (AJ (x.natAbs%X));refine cL (r:= .AF [(false,[.sl .u32 a1]),(false,[.sl .u32 W])]) m (Jm (t26.trans z.An) hu o f I (by rw[t26];omega)) t2 ?_;try conv=>cbv
   obtain⟨a2,g⟩:=xU (AJ (X+x.natAbs/X));refine cL (r:= .one (.sl .u32 a2)) m (Ri hu f g (by omega) (by rw[f];have j:=Cp (Nat.div_le_self x.natAbs X);rw[<-z.An] at j;omega)) t2 ?_;try conv=>cbv
   obtain⟨J,a⟩:=xU (AJ ((X+x.natAbs/X)/2));refine cL (r:= .one (.sl .u32 J)) m (W0 g a (by rw[g];exact YQ hu Q z s1)) t1 ?_;try conv=>cbv
   obtain⟨ag,c⟩:=xI (Ax ((X+x.natAbs/X)/2:Nat) X);refine cL m (Jh a hu c) t2 ?_;try conv=>cbv
   intro V D;conv=>cbv
   cases V <;> conv=>cbv
   ·have i:=DO D;have G:(X+x.natAbs/X)/2<X:=by rw[c] at i;have:=GA i;omega
    refine⟨(X+x.natAbs/X)/2,?_,?_⟩
    ·rw[O];exact G
    rw[v];exact⟨J,_,rfl,rfl,⟨a,TD w o,by have:=TD w o;omega,by rw[a];have:=Cp (Nat.le_of_lt G);rw[<-hu] at this;omega⟩,rfl⟩
   have i:=DP D;obtain⟨K,L,h⟩:=AP (((X:Nat):Int));refine cL (r:= .agg [.bool K,.sl .u32 L]) m (DT (by rw[hu,Af];rfl) h) t2 ?_;try conv=>cbv
   have N:X<=(X+x.natAbs/X)/2:=by rw[c] at i;have:=F9 i;omega
   have hX:=Zo w o N;exact fA ⟨⟨rfl,congrArg _ ((h.uniq t (by rw[<-hX];congr 2;omega)).1.symm),congrArg _ ((h.uniq t (by rw[<-hX];congr 2;omega)).2.symm),trivial⟩,⟨rfl,congrArg _ (by rw[he,if_neg (by omega)]),trivial⟩,trivial⟩ rfl (by simp)
  have S:=Ad C;have A:x=0:=by rcases Dq x with⟨j,p⟩ |⟨j,p⟩ |⟨j,p⟩ <;> omega
  have M:((Ar x.toNat:Nat):Int)=0:=by rw[show x.toNat=0 by omega];rfl
  rw[M] at t;exact fA ⟨⟨rfl,congrArg _ (t.neg.trans rfl),.inr (.inl ⟨_,congrArg _ (t.An.trans rfl)⟩),trivial⟩,⟨rfl,congrArg _ (by rw[he,if_neg (by omega)]),trivial⟩,trivial⟩ rfl (by simp)
 have R:=Ad B;have A:x<0:=by rcases Dq x with⟨j,p⟩ |⟨j,p⟩ |⟨j,p⟩ <;> omega
 have M:((Ar x.toNat:Nat):Int)=0:=by rw[show x.toNat=0 by omega];rfl
 rw[M] at t;exact fA ⟨⟨rfl,congrArg _ (t.neg.trans rfl),.inr (.inl ⟨_,congrArg _ (t.An.trans rfl)⟩),trivial⟩,⟨rfl,congrArg _ (by rw[he,if_pos A]),trivial⟩,trivial⟩ rfl (by simp)
end Go.Abs
