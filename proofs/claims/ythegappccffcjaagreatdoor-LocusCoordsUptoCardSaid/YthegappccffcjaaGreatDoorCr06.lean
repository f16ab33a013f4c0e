/- Part 7 of a proof. Conditions: each theorem's own. -/
import Derived.Test.YthegappccffcjaaGreatDoorCr05
set_option linter.all false
set_option maxHeartbeats 80000000
set_option maxRecDepth 20000
open Go.Proofs
namespace Go.Abs
open Go.RowKit
section
variable {b b1 b2 b3:Bool} {l l1 l2 l3:List UInt32} {x y:Int}
theorem gM {b4:Bool} {l4:List UInt32} (R:BR x b1 l1) (P:BR y b2 l2) (w:y≠0) (L:BR (DO x y) b3 l3) (M:BR (IX x y) b4 l4) (s1:l1.length<=17592186043000) (s2:l2.length<=17592186043000):CF 352 [.agg (B8 b1 l1),.agg (B8 b2 l2)] (.BN [(true,(B8 b3 l3)),(true,(B8 b4 l4)),(false,[.int .i64 0])]):=by
 refine AN Tryz.func352 fun E C=>?_
 obtain⟨Y,G⟩:=xU (BB (AJ l2));refine AB C (GD rfl G) ?_;have t12:Y=l2:=by rw[G];exact P.trim
 rintro a8 ⟨a5,f14⟩;conv=>cbv
 refine BV (fun T=>?_) fun T=>?_
 ·exfalso;exact w (P.Gf.1 (by rw[<-t12];omega))
 obtain⟨Z,H⟩:=xU (BB (AJ l1));refine AB C (GD rfl H) ?_;have t21:Z=l1:=by rw[H];exact R.trim
 obtain⟨Q,j⟩:=xU (BB (x.natAbs/y.natAbs));obtain⟨X,g⟩:=xU (BB (x.natAbs%y.natAbs));refine AB (r:= .BN [(false,[.sl .u32 Q]),(false,[.sl .u32 X])]) C (QG (t21.trans R.B9) (t12.trans P.B9) AA j g (by rw[t21];omega)) ?_;have S:0<y.natAbs:=AA
 have a6:=Nat.div_add_mod x.natAbs y.natAbs;have a7:=Nat.mod_lt x.natAbs S;have A:=R.neg;have i:=P.neg;intro V N;conv=>cbv
 cases V <;> conv=>cbv
 ·have h:=MA N;refine .inr ?_;intro F B;conv=>cbv
  obtain⟨k,s,d⟩:=BQ (DO x y);refine AB (r:= .agg [.bool k,.sl .u32 s]) C (GW (by rw[j,Bn,B,h,Yu w (by rw[<-A,<-i];exact h)];simp) d) ?_;obtain⟨p,t,f⟩:=BQ (IX x y);refine AB (r:= .agg [.bool p,.sl .u32 t]) C (GW (by rw[g,Bn];exact ow i w (by rw[<-A,<-i];exact h)) f) ?_;exact AM ⟨⟨rfl,congrArg _ ((d.uniq L rfl).1.symm),congrArg _ ((d.uniq L rfl).2.symm),trivial⟩,⟨rfl,congrArg _ ((f.uniq M rfl).1.symm),congrArg _ ((f.uniq M rfl).2.symm),trivial⟩,t2,trivial⟩
 have h:=MB N;refine Ak ?_;rintro aa ⟨D,f33⟩ W O;refine .inr ?_;cases W <;> conv=>cbv
 ·have U:=HC O;intro F B;conv=>cbv
  obtain⟨k,s,d⟩:=BQ (DO x y);refine AB (r:= .agg [.bool k,.sl .u32 s]) C (GW (by have v:decide (x<0)≠decide (y<0):=(by rw[<-A,<-i];exact h);have K:F=true:=(by rw[B];simpa using h);rw[j,Bn,K,if_pos rfl];exact Yr w v (Fo.1 (by rw[<-g];exact List.eq_nil_of_length_eq_zero AA))) d) ?_;obtain⟨p,t,f⟩:=BQ (IX x y);refine AB (r:= .agg [.bool p,.sl .u32 t]) C (GW (by have v:decide (x<0)≠decide (y<0):=(by rw[<-A,<-i];exact h);rw[g,Bn];exact ou w v (Fo.1 (by rw[<-g];exact List.eq_nil_of_length_eq_zero AA))) f) ?_;exact AM ⟨⟨rfl,congrArg _ ((d.uniq L rfl).1.symm),congrArg _ ((d.uniq L rfl).2.symm),trivial⟩,⟨rfl,congrArg _ ((f.uniq M rfl).1.symm),congrArg _ ((f.uniq M rfl).2.symm),trivial⟩,t2,trivial⟩
 have U:=HD O;refine⟨[(1:UInt32)],fun _=>⟨rfl,AF,rfl,⟨rfl,t1,trivial⟩⟩,.inl ?_⟩;try conv=>cbv
 obtain⟨a1,I⟩:=xU (BB (x.natAbs/y.natAbs+1));refine .inr (.inl ⟨[.one (.sl .u32 Q),.one (.sl .u32 [(1:UInt32)])],.one (.sl .u32 a1),fun _=>⟨rfl,⟨_,rfl,by simp <;> omega,AZ⟩,trivial⟩,fun _=>GX C (ER (PY rfl (bT j (rfl:[(1:UInt32)]=BB 1) I rfl (by rw[j];have h1:=FG (Nat.div_le_self x.natAbs y.natAbs);rw[<-R.B9] at h1;omega) AF))),?_⟩);try conv=>cbv
 obtain⟨a2,J⟩:=xU (BB (y.natAbs-x.natAbs%y.natAbs));refine AB (r:= .one (.sl .u32 a2)) C (Ul (t12.trans P.B9) g J (Nat.le_of_lt (Nat.mod_lt _ AA)) (by rw[t12];omega)) ?_;intro F B;obtain⟨k,s,d⟩:=BQ (DO x y);refine AB (r:= .agg [.bool k,.sl .u32 s]) C (GW (by have v:decide (x<0)≠decide (y<0):=(by rw[<-A,<-i];exact h);have K:F=true:=(by rw[B];simpa using h);rw[I,Bn,K,if_pos rfl];exact Ys w v (fun e=>by rw[e,HH] at g;rw[g] at D;simp at D;omega)) d) ?_;obtain⟨p,t,f⟩:=BQ (IX x y);refine AB (r:= .agg [.bool p,.sl .u32 t]) C (GW (by have v:decide (x<0)≠decide (y<0):=(by rw[<-A,<-i];exact h);rw[J,Bn];exact ov i w v (fun e=>by rw[e,HH] at g;rw[g] at D;simp at D;omega)) f) ?_;exact AM ⟨⟨rfl,congrArg _ ((d.uniq L rfl).1.symm),congrArg _ ((d.uniq L rfl).2.symm),trivial⟩,⟨rfl,congrArg _ ((f.uniq M rfl).1.symm),congrArg _ ((f.uniq M rfl).2.symm),trivial⟩,t2,trivial⟩
theorem Wl (hx:BR x b1 l1) (hy:BR y b2 l2) (hz:BR ((Nat.gcd x.natAbs y.natAbs:Nat):Int) b3 l3) (s1:l1.length<=17592186043000) (s2:l2.length<=17592186043000):CF 328 [.agg (B8 b1 l1),.agg (B8 b2 l2)] (.agg (B8 b3 l3)):=by
 refine Gc Tryz.func328 fun E A=>?_
 conv=>cbv
 obtain⟨a1,F⟩:=xU (BB (AJ l1));refine Be A (GD rfl F) ?_;conv=>cbv
 have t13:a1=l1:=by rw[F];exact hx.trim
 obtain⟨a2,G⟩:=xU (BB (AJ l2));refine Be A (GD rfl G) ?_;conv=>cbv
 have t16:a2=l2:=by rw[G];exact hy.trim
 refine g2 rfl ?_;obtain⟨K0,K⟩:=xK fun vs D=>∃(u v:List UInt32) (P Q:Nat),vs=[.one (.BX 4 0 0),.one (.sl .u32 u),.one (.sl .u32 v)]/\D=[.var 0 [.bool false,.nil]]/\(u=BB P/\v=BB Q/\Nat.gcd P Q=Nat.gcd x.natAbs y.natAbs/\u.length<=17592186043000)/\v.length<=2/\(2<u.length->v.length=0)
 refine .inl ⟨[4,5,6],[4],K0,?_,?_⟩
 ·intro vs D S;rw[K] at S;obtain⟨u,v,P,Q,rfl,rfl,⟨hu,f,J,L⟩,au,ar⟩:=S;refine Ak ?_;rintro aF ⟨aq,f39⟩;refine ML ?_ ?_ <;> intro ay <;> conv=>cbv
  ·have O:Q=0:=Fo.1 (by rw[<-f];exact List.eq_nil_of_length_eq_zero AA);obtain⟨aG,H⟩:=xU u;refine Be A (Lv H AA) ?_;conv=>cbv
   obtain⟨a5,a7,t⟩:=BQ (((Nat.gcd x.natAbs y.natAbs:Nat):Int));refine Be (r:= .agg [.bool a5,.sl .u32 a7]) A (GW (by rw[H,hu,Bn,<-J,O,Nat.gcd_zero_right];rfl) t) ?_;try conv=>cbv
   exact Eg ((t.uniq hz rfl).1.symm) ((t.uniq hz rfl).2.symm)
  have aj:u.length<=2:=AA
  have ak:v.length<=2:=AA
  have N:P<18446744073709551616:=by have:=DZ u;rw[hu,Bn] at this;exact Nat.lt_of_lt_of_le this (Nat.pow_le_pow_right AF (by rw[<-hu];omega:32*(BB P).length<=64))
  have R:Q<18446744073709551616:=by have:=DZ v;rw[f,Bn] at this;exact Nat.lt_of_lt_of_le this (Nat.pow_le_pow_right AF (by rw[<-f];omega:32*(BB Q).length<=64))
  obtain⟨Y,i⟩:∃n:Int,Ah n (P):=⟨_,⟨rfl⟩⟩
  have ag:=i.eq;refine Be (r:= .one (.int .u64 Y)) A (Rs (by rw[hu,Bn]) AA i) ?_;conv=>cbv
  obtain⟨Z,j⟩:∃n:Int,Ah n (Q):=⟨_,⟨rfl⟩⟩
  have ah:=j.eq;refine Be (r:= .one (.int .u64 Z)) A (Rs (by rw[f,Bn]) AA j) ?_;conv=>cbv
  refine Bc [] [4,9,10] [4] (fun vs D k=>∃(C h:Nat) (p q:Int),vs=[.one (.BX 4 0 0),.one (.int .u64 p),.one (.int .u64 q)]/\D=[.var 0 [.bool false,.nil]]/\(Ah p C/\Ah q h/\C<18446744073709551616/\h<18446744073709551616)/\Nat.gcd C h=Nat.gcd P Q/\k=h) Q ⟨P,Q,Y,Z,rfl,rfl,⟨i,j,N,R⟩,rfl,rfl⟩ ?_;rintro J1 ad vs D aB ⟨C,h,p,q,rfl,rfl,⟨hp,hq,ai,W⟩,U,ae⟩;conv=>cbv
  have ep:=hp.eq;have eq:=hq.eq;refine Dl ?_ ?_ <;> intro az <;> conv=>cbv
  ·obtain⟨aH,I⟩:=xU (BB C);refine Be A (MR hp AA I) ?_;conv=>cbv
   obtain⟨a6,a8,w⟩:=BQ (((Nat.gcd x.natAbs y.natAbs:Nat):Int));refine Be (r:= .agg [.bool a6,.sl .u32 a8]) A (GW (by rw[I,Bn,<-J,<-U,(AA:h=0),Nat.gcd_zero_right];rfl) w) ?_;try conv=>cbv
   exact Eg ((w.uniq hz rfl).1.symm) ((w.uniq hz rfl).2.symm)
  refine .inr ?_;have V:0<h:=AA
  intro DY ab;conv=>cbv
  refine F7 ?_;have aa:DY=((C%h:Nat):Int):=by rw[ab,ep,eq];exact (Int.natCast_emod _ _).symm
  refine g2 rfl ?_;refine⟨C%h,?_,?_⟩
  ·rw[ae];exact Nat.mod_lt _ V
  rw[ad];exact⟨h,C%h,_,_,rfl,rfl,⟨hq,⟨aa⟩,W,by have:=Nat.mod_lt C V;omega⟩,by rw[<-U,Nat.gcd_comm h,<-Nat.gcd_rec,Nat.gcd_comm],rfl⟩
 obtain⟨J0,B⟩:=xJ fun vs D k=>∃(u v:List UInt32) (P Q:Nat),vs=[.one (.BX 4 0 0),.one (.sl .u32 u),.one (.sl .u32 v)]/\D=[.var 0 [.bool false,.nil]]/\(u=BB P/\v=BB Q/\Nat.gcd P Q=Nat.gcd x.natAbs y.natAbs/\u.length<=17592186043000/\v.length<=17592186043000)/\k=Q
 refine⟨[],[4,5,6],[4],J0,⟨y.natAbs,by rw[B];exact⟨a1,a2,x.natAbs,y.natAbs,rfl,rfl,⟨t13.trans hx.B9,t16.trans hy.B9,rfl,by rw[t13];exact s1,by rw[t16];exact s2⟩,rfl⟩⟩,?_⟩;intro vs D aA S;rw[B] at S;obtain⟨u,v,P,Q,rfl,rfl,⟨hu,f,J,L,X⟩,T⟩:=S;refine Ak ?_;rintro aC ⟨al,f18⟩;refine QL ?_ ?_ <;> intro av <;> conv=>cbv
 ·refine .inr ?_;have g:0<Q:=by apply Nat.pos_of_ne_zero;intro e;rw[e,HH] at f;rw[f] at *;simp at *;omega
  obtain⟨af,s⟩:=xU (BB (P/Q));obtain⟨M,d⟩:=xU (BB (P%Q));refine Be A (QG hu f g s d AA) ?_;conv=>cbv
  refine⟨P%Q,?_,?_⟩
  ·rw[T];exact Nat.mod_lt _ g
  rw[B];exact⟨v,M,Q,P%Q,rfl,rfl,⟨f,d,by rw[<-J,Nat.gcd_comm Q,<-Nat.gcd_rec,Nat.gcd_comm],X,by have:=FG (Nat.le_of_lt (Nat.mod_lt P g));rw[<-d,<-f] at this;omega⟩,rfl⟩
 rintro aD ⟨an,f22⟩;conv=>cbv
 refine QB ?_ ?_ <;> intro aw <;> conv=>cbv
 ·rw[K];exact⟨u,v,P,Q,rfl,rfl,⟨hu,f,J,L⟩,AA,AA⟩
 rintro aE ⟨ao,f26⟩;conv=>cbv
 refine QB ?_ ?_ <;> intro ax <;> conv=>cbv
 ·rw[K];exact⟨u,v,P,Q,rfl,rfl,⟨hu,f,J,L⟩,AA,AA⟩
 refine .inr ?_;have g:0<Q:=by apply Nat.pos_of_ne_zero;intro e;rw[e,HH] at f;rw[f] at *;simp at *;omega
 obtain⟨af,s⟩:=xU (BB (P/Q));obtain⟨M,d⟩:=xU (BB (P%Q));refine Be A (QG hu f g s d AA) ?_;conv=>cbv
 refine⟨P%Q,?_,?_⟩
 ·rw[T];exact Nat.mod_lt _ g
 rw[B];exact⟨v,M,Q,P%Q,rfl,rfl,⟨f,d,by rw[<-J,Nat.gcd_comm Q,<-Nat.gcd_rec,Nat.gcd_comm],X,by have:=FG (Nat.le_of_lt (Nat.mod_lt P g));rw[<-d,<-f] at this;omega⟩,rfl⟩
theorem px {u:List UInt32} {X:Nat} (hu:u=BB X) (g:u.length<=l.length+1) (h:BR x b l) (s1:l.length<=17592186042000):(BB (X+x.natAbs/X)).length<=17592186044416:=by
 refine Nat.le_trans (Gz (k:=l.length+2) ?_) AA;have d:=DZ u;rw[hu,Bn] at d;have f:=DZ l;rw[h.nat] at f;have h3:=Nat.div_le_self x.natAbs X;have i:2^(32*(BB X).length)<=2^(32*(l.length+1)):=Nat.pow_le_pow_right AF (by rw[<-hu];omega);have j:2^(32*l.length)<=2^(32*(l.length+1)):=Nat.pow_le_pow_right AF AA;have p:2^(32*(l.length+2))=4294967296*2^(32*(l.length+1)):=FI (l.length+1);omega
theorem pG (g:BR x b l) (d:x.natAbs≠0):EC x.natAbs<=32*l.length/\EC x.natAbs=Nat.log2 x.natAbs+1:=by
 have f:=DZ l;rw[g.nat] at f;have h:=(Nat.log2_lt d).2 f;unfold EC;rw[if_neg d];exact⟨AA,rfl⟩
theorem iE {e:Int} (F:BR x b1 l1) (C:BR ((CO x.toNat:Nat):Int) b3 l3) (he:e=if x<0 then 7 else 0) (s1:l1.length<=17592186042000):CF 369 [.agg (B8 b1 l1)] (AS (B8 b3 l3) e):=by
 refine AN Tryz.func369 fun E t=>?_
 obtain⟨ae,J⟩:=xI (DM x);refine AB t (NT F J) ?_;refine .inr ?_;refine BV (fun U=>?_) fun U=>?_
 ·have G:x<0:=by rcases G3 x with⟨s,w⟩ |⟨s,w⟩ |⟨s,w⟩ <;> omega
  have O:((CO x.toNat:Nat):Int)=0:=by rw[(AA:x.toNat=0)];rfl
  rw[O] at C;exact AM ⟨⟨rfl,congrArg _ (C.neg.trans rfl),.inr (.inl ⟨_,congrArg _ (C.B9.trans rfl)⟩),trivial⟩,⟨rfl,congrArg _ (by rw[he,if_pos G]),trivial⟩,trivial⟩
 refine BV (fun V=>?_) fun V=>?_
 ·have G:x=0:=by rcases G3 x with⟨s,w⟩ |⟨s,w⟩ |⟨s,w⟩ <;> omega
  have O:((CO x.toNat:Nat):Int)=0:=by rw[(AA:x.toNat=0)];rfl
  rw[O] at C;exact AM ⟨⟨rfl,congrArg _ (C.neg.trans rfl),.inr (.inl ⟨_,congrArg _ (C.B9.trans rfl)⟩),trivial⟩,⟨rfl,congrArg _ (by rw[he,if_neg AA]),trivial⟩,trivial⟩
 have G:0<x:=by rcases G3 x with⟨s,w⟩ |⟨s,w⟩ |⟨s,w⟩ <;> omega
 have H:x.natAbs≠0:=AA
 have S:=pG F H;have a8:0<CO x.natAbs:=by apply Nat.pos_of_ne_zero;intro e;have:=Qv x.natAbs;rw[e] at this;omega
 obtain⟨af,A⟩:∃n:Int,Ah n (EC x.natAbs):=⟨_,⟨rfl⟩⟩
 have a5:=A.eq;refine AB t (gD F A AA) ?_;intro ab a6 ad a7;obtain⟨Y,g⟩:=xU (BB (2^(EC x.natAbs/2+1)));refine AB t (so (n:=EC x.natAbs/2+1) ⟨AA⟩ AA g) ?_;refine Bc [] [1,2,5] [1,2] (fun vs bl k=>∃(u:List UInt32) (X:Nat),vs=[.one (.BX 1 0 0),.one (.BX 2 0 0),.one (.sl .u32 u)]/\bl=[.var 0 [.bool b1,.sl .u32 l1],.var 0 [.bool false,.nil]]/\(u=BB X/\CO x.natAbs<=X/\0<X/\u.length<=l1.length+1)/\k=X) (2^(EC x.natAbs/2+1)) ⟨Y,_,rfl,rfl,⟨g,by rw[S.2];exact tV H,Nat.two_pow_pos _,by rw[g];exact Gz (Nat.pow_lt_pow_right AF AA)⟩,rfl⟩ ?_;rintro J0 P vs bl aa ⟨u,X,rfl,rfl,⟨hu,D,v,T⟩,R⟩;conv=>cbv
 refine .inr ?_;obtain⟨Z,B⟩:=xU (BB (AJ l1));refine AB t (GD rfl B) ?_;have t26:Z=l1:=by rw[B];exact F.trim
 obtain⟨a1,h⟩:=xU (BB (x.natAbs/X));obtain⟨W,K⟩:=xU (BB (x.natAbs%X));refine AB (r:= .BN [(false,[.sl .u32 a1]),(false,[.sl .u32 W])]) t (QG (t26.trans F.B9) hu v h K (by rw[t26];omega)) ?_;obtain⟨a2,i⟩:=xU (BB (X+x.natAbs/X));refine AB (r:= .one (.sl .u32 a2)) t (bR hu h i AA (by rw[h];have s:=FG (Nat.div_le_self x.natAbs X);rw[<-F.B9] at s;omega)) ?_;obtain⟨L,d⟩:=xU (BB ((X+x.natAbs/X)/2));refine AB (r:= .one (.sl .u32 L)) t (nI i d (by rw[i];exact px hu T F s1)) ?_;obtain⟨ag,f⟩:=xI (CR ((X+x.natAbs/X)/2:Nat) X);refine AB t (P8 d hu f) ?_;refine J3 (fun p=>?_) fun p=>?_
 ·have I:(X+x.natAbs/X)/2<X:=by rw[f] at p;have:=KG p;omega
  refine⟨(X+x.natAbs/X)/2,?_,?_⟩
  ·rw[R];exact I
  rw[P];exact⟨L,_,rfl,rfl,⟨d,eZ D v,by have:=eZ D v;omega,by rw[d];have:=FG (Nat.le_of_lt I);rw[<-hu] at this;omega⟩,rfl⟩
 obtain⟨M,N,j⟩:=BQ (((X:Nat):Int));refine AB (r:= .agg [.bool M,.sl .u32 N]) t (GW (by rw[hu,Bn];rfl) j) ?_;have Q:X<=(X+x.natAbs/X)/2:=by rw[f] at p;have:=KF p;omega
 have hX:=tU D v Q;exact AM ⟨⟨rfl,congrArg _ ((j.uniq C (by rw[<-hX];congr 2;omega)).1.symm),congrArg _ ((j.uniq C (by rw[<-hX];congr 2;omega)).2.symm),trivial⟩,⟨rfl,congrArg _ (by rw[he,if_neg AA]),trivial⟩,trivial⟩
end
section
variable {a n:Nat} {b c:Bool} {l m z:List UInt32} {x:Int}
theorem ss {w:List UInt32} (j:x= -(AJ l:Int)) (hw:w=BB (AJ l)) (i:c=true↔0<w.length):BR x c w:=by
 by_cases d:AJ l=0
 ·have h:w=[]:=by rw[hw,Fo.2 d]
  have f:c=false:=by
   cases c with
   | false=>rfl
   | true=>have:=i.1 rfl;rw[h] at this;simp at this
  subst f;exact .val hw.symm (by rw[j,d];simp) (fun _=>rfl)
 have g:c=true:=i.2 (List.length_pos_iff.2 (fun e=>d (Fo.1 (by rw[<-hw];exact e))));subst g;exact .val hw.symm (by rw[j];rfl) (fun e=>absurd e d)
theorem K5 (L:AJ l=n) (B:z=BB n):CF 212 [.one (.sl .u32 l)] (.one (.sl .u32 z)):=by
 have B:DB l=z:=by rw[B,<-L,M7]
 refine AN Tryz.func212 fun E V=>?_
 refine Bc [] [0] [] (fun vs F k=>∃m:List UInt32,vs=[.one (.sl .u32 m)]/\DB m=z/\k=m.length) l.length ⟨l,rfl,B,rfl⟩ ?_;rintro S v vs F N ⟨m,rfl,j,K⟩;refine Ak ?_;rintro n4 ⟨T,f4⟩;refine Fw (fun M=>?_) fun M=>?_
 ·have w:m=[]:=List.eq_nil_of_length_eq_zero AA;exact AO (by rw[<-j,w];rfl)
 rintro W ⟨U,f9⟩ d I;refine BH ((d).toNat) fun r g=>?_
 refine Ak ?_;intro P i;have G:=i.eq;have f12:=i.lt;refine CU (fun s=>?_) fun s=>?_
 ·have A:r≠0:=fun h=>by subst h;exact s i.eq
  have e2:m=m.take (d).toNat++[r]:=by have:=EI g;rw[List.take_of_length_le AA] at this;exact this
  exact AO (by rw[<-j,e2,Lo A])
 refine .inr ?_;refine AP ?_;rintro Q ⟨H,f17⟩ R J O D t C p f;refine⟨p.length,?_,?_⟩
 ·rw[f];simp;omega
 rw[v];have el:p=m.take (d).toNat:=by rw[f,(AA:t=(d).toNat)];simp
 refine⟨p,rfl,?_,rfl⟩;obtain rfl:r=0:=UInt32.toNat_inj.1 (by show _=0;omega)
 have e2:m=m.take (d).toNat++[0]:=by
  have:=EI g;rw[List.take_of_length_le AA] at this;exact this
 rw[el,<-j];conv=>rhs;rw[e2]
 rw[Kk]
theorem Hw {m:Nat} (P:n<=l.length) (hl:l.length<=140737488355328) (hm:m=(DB (l.take n)).length):J4 Tryz.prog 212 (.BK .u32 0 0 0 n) (.arr 0 .u32 l) [] (.one (.BK .u32 0 0 0 m)) (.arr 0 .u32 l):=by
 refine Nh Tryz.func212 (by kernel_rfl) rfl fun E Z=>?_
 conv=>cbv
 refine Bc [] [0] [0] (fun vs B k=>∃q:Nat,vs=[.one (.BK .u32 0 0 0 q)]/\B=[.arr 0 .u32 l]/\q<=l.length/\m=(DB (l.take q)).length/\k=q) n ⟨n,rfl,rfl,P,hm,rfl⟩ ?_;rintro W v vs B R ⟨q,rfl,rfl,hq,j,O⟩;conv=>cbv
 intro n4 M;have X:=M.eq;conv=>cbv
 refine Fw (fun Q=>?_) fun Q=>?_
 ·refine⟨fun _=>⟨⟨⟨rfl,.inr (.inr ⟨rfl,rfl,congrArg (AC.BK .u32 0 0 0) (by rw[j,(AA:q=0)];rfl)⟩),trivial⟩,trivial⟩,rfl,AZ⟩,fun _=>rfl⟩
 intro n9 N;have Y:=N.eq;refine AP ?_;intro S K p F;obtain⟨r,d⟩:=Cq (l:=l) (i:=p) AA;refine⟨r,fun _=>d,?_⟩;refine Ak ?_;intro T g;have I:=g.eq;have f12:=g.lt;refine CU (fun s=>?_) fun s=>?_
 ·have w:r≠0:=fun h=>by subst h;exact s g.eq
  refine⟨fun _=>⟨⟨⟨rfl,.inr (.inr ⟨rfl,rfl,congrArg (AC.BK .u32 0 0 0) (by rw[j,(AA:q=p+1),EI d,Lo w,List.length_append,List.length_take];simp;omega)⟩),trivial⟩,trivial⟩,rfl,AZ⟩,fun _=>rfl⟩
 refine .inr ?_;intro U t;have J:=t.eq;refine AP ?_;rintro V L H C A f ⟨G,D⟩;refine⟨f,?_,?_⟩
 ·omega
 rw[v];obtain rfl:A=0:=AA
 refine⟨f,rfl,rfl,AA,?_,rfl⟩;obtain rfl:r=0:=UInt32.toNat_inj.1 (by show _=0;omega);rw[j,(AA:q=f+1),EI (x:=0) (by rw[(AA:f=p)];exact d),Kk]
theorem IH {n:Bool} (j:x=if n=true then -(AJ l:Int) else AJ l) (g:BR x b z):CF 148 [.one (.bool n),.one (.sl .u32 l)] (.agg (B8 b z)):=by
 refine AN Tryz.func148 fun E r=>?_
 obtain⟨k,d⟩:=xU (BB (AJ l));refine AB r (K5 rfl d) ?_;cases n <;> conv=>cbv
 ·have f:BR x false k:= .val d.symm j (fun _=>rfl);exact Eg ((f.uniq g rfl).1.symm) ((f.uniq g rfl).2.symm)
 refine Ak ?_;rintro s ⟨p,f10⟩ i h;have f:BR x i k:=ss (by rw[j];rfl) d (by rw[h,decide_eq_true_eq];omega);exact Eg ((f.uniq g rfl).1.symm) ((f.uniq g rfl).2.symm)
theorem Nb {n:Int} {k:Nat} (F:Ah n k) (K:k<18446744073709551616) (G:z=BB k):CF 149 [.one (.int .u64 n)] (.one (.sl .u32 z)):=by
 have J:=F.eq;refine AN Tryz.func149 fun E D=>?_
 intro n4 w;have w:=wrap_u32 w;refine AP ?_;intro L A;have A:=Fb (p:=4294967296) A rfl;intro I B;conv=>cbv
 have B:=wrap_u32 B;obtain⟨g,d⟩:=DF (n:=n4) AA;have r:=d.eq;have t:=d.lt;obtain⟨h,f⟩:=DF (n:=I) AA;have s:=f.eq;have v:=f.lt;refine⟨[g,h],fun _=>⟨rfl,AF,rfl,⟨rfl,DE d,⟨rfl,DE f,trivial⟩⟩⟩,.inl ?_⟩;try conv=>cbv
 obtain⟨H,i⟩:=xN ((DB ([g,h].take 2)).length);obtain⟨C,j⟩:=Fv AZ i;refine .inr (.inr (.inl ⟨[],.one (.BK .u32 0 0 0 H),.arr 0 .u32 [g,h],fun _=>⟨by first | decide | simp[DR,DQ],trivial⟩,fun _=>⟨FN D (Hw AZ AZ i),rfl,rfl⟩,?_⟩));try conv=>cbv
 exact AM ⟨⟨rfl,.inl ⟨_,rfl,by simp;omega,congrArg _ (by rw[List.drop_zero,j,G];congr 1;simp[AJ];omega)⟩,trivial⟩,trivial⟩
theorem NX (G: -9223372036854775808<=x/\x<9223372036854775808) (t:BR x b z):CF 70 [AD x] (.agg (B8 b z)):=by
 refine AN Tryz.func70 fun E s=>?_
 refine Bt (fun C=>?_) fun C=>?_
 ·intro D h;have h:=wrap_u64 h;obtain⟨F,f⟩:=xU (BB x.natAbs);refine AB s (Nb (Ah.of (k:=x.natAbs) AA) AA f) ?_;obtain⟨j,p,d⟩:=BQ (x);refine AB (r:= .agg [.bool j,.sl .u32 p]) s (IH (n:=false) (by rw[f,Bn];simp;omega) d) ?_;exact Eg ((d.uniq t rfl).1.symm) ((d.uniq t rfl).2.symm)
 intro H A;have A:=wrap_u64 A;intro I B;conv=>cbv
 have B:=wrap_u64 B;obtain⟨J,i⟩:=xU (BB x.natAbs);refine AB s (Nb (Ah.of (k:=x.natAbs) AA) AA i) ?_;obtain⟨v,w,g⟩:=BQ (x);refine AB (r:= .agg [.bool v,.sl .u32 w]) s (IH (n:=true) (by rw[i,Bn];simp;omega) g) ?_;exact Eg ((g.uniq t rfl).1.symm) ((g.uniq t rfl).2.symm)
theorem ie (h:x=if b=true then -(AJ l:Int) else AJ l) (f:BR x c z):CF 213 [.agg (B8 b l)] (.agg (B8 c z)):=by
 refine AN Tryz.func213 fun E g=>?_
 obtain⟨i,j,d⟩:=BQ (x);refine AB g (IH h d) ?_;exact Eg ((d.uniq f rfl).1.symm) ((d.uniq f rfl).2.symm)
theorem JL (d:BR x b l):CF 213 [.agg (B8 b l)] (.agg (B8 b l)):=ie d.Fa d
theorem NZ (k:BR x b l) (h:BR (-x) c z):CF 215 [.agg (B8 b l)] (.agg (B8 c z)):=by
 refine AN Tryz.func215 fun E j=>?_
 intro p i;obtain⟨f,g,d⟩:=BQ (-x);refine AB (r:= .agg [.bool f,.sl .u32 g]) j (IH (by rw[i];exact di k.Fa) d) ?_;exact Eg ((d.uniq h rfl).1.symm) ((d.uniq h rfl).2.symm)
theorem Kz {c:Int} (d:BR x b l) (h:c=DM x):CF 143 [.agg (B8 b l)] (AD c):=by
 refine AN Tryz.func143 fun E j=>?_
 refine AB j (JL d) ?_;rintro k ⟨f,f7⟩;refine BV (fun i=>?_) fun i=>?_
 ·have g:AJ l=0:=by rw[List.eq_nil_of_length_eq_zero (by omega:l.length=0)];rfl
  exact AO (by rw[h,d.Fa,g];unfold DM;simp)
 cases b <;> conv=>cbv
 ·have g:AJ l≠0:=fun e=>by rw[d.B9] at f;have:=d.nat;rw[e] at this;rw[<-this] at f;exact i f
  exact AO (by rw[h,Rg d.Fa g];rfl)
 have g:AJ l≠0:=fun e=>by rw[d.B9] at f;have:=d.nat;rw[e] at this;rw[<-this] at f;exact i f
 exact AO (by rw[h,Rg d.Fa g];rfl)
theorem Na {b:Nat} {c:Int} (v:l=BB a) (hm:m=BB b) (K:c=CR a b):CF 269 [.one (.sl .u32 l),.one (.sl .u32 m)] (AD c):=by
 refine AN Tryz.func269 fun E hE=>?_
 rintro n7 ⟨e7,f7⟩ n9 ⟨e9,f9⟩;refine E2 (fun N=>?_) fun N=>?_
 ·rintro ad ⟨X,f12⟩ ae ⟨Y,f14⟩;refine Bt (fun O=>?_) fun O=>?_
  ·exact AO (by rw[K,<-TM (by rw[<-v,<-hm];omega),<-v,<-hm];unfold CR;rw[if_neg AA,if_pos AA])
  exact AO (by rw[K,<-TM (by rw[<-v,<-hm];omega),<-v,<-hm];unfold CR;rw[if_pos AA])
 rintro af ⟨Z,f17⟩ S a6;refine Bc [] [0,1,5] [] (fun vs W k=>∃(j:Int) (k':Nat),vs=[.one (.sl .u32 l),.one (.sl .u32 m),AD j]/\(Ah (j+1) k'/\k'<=l.length/\l.length=m.length/\AJ (l.drop k')=AJ (m.drop k'))/\k=k') l.length ⟨S,l.length,rfl,⟨⟨AA⟩,AA,AA,by rw[List.drop_length,(AA:l.length=m.length),List.drop_length]⟩,rfl⟩ ?_;rintro J0 M vs W ab ⟨j,k',rfl,⟨hj,a8,w,L⟩,aa⟩;conv=>cbv
 have ej:=hj.eq;refine J3 (fun P=>?_) fun P=>?_
 ·have hk:k'=0:=AA
  have he:a=b:=by rw[hk] at L;simpa [v,hm,Bn] using L
  exact AO (by rw[K,he];simp[CR])
 refine .inr ?_;refine BH ((j).toNat) fun g p=>?_
 refine Ak ?_;intro ag D;have C:=D.eq;have f26:=D.lt;refine BH ((j).toNat) fun h r=>?_
 refine AP ?_;intro ah F U G;have a1:=F.eq;have f30:=F.lt;cases U <;> conv=>cbv
 ·have Q:=ES G;refine BH ((j).toNat) fun d s=>?_
  refine Ak ?_;intro ai H;have a2:=H.eq;have f35:=H.lt;refine BH ((j).toNat) fun f t=>?_
  refine AP ?_;intro aj I V J;have a5:=I.eq;have f39:=I.lt;cases V <;> conv=>cbv
  ·have R:=HC J;refine AP ?_;intro T a7;refine⟨k'-1,?_,?_⟩
   ·omega
   rw[M];obtain⟨i',rfl⟩:∃i',k'=i'+1:=⟨k'-1,AA⟩
   have e3:l[i']? =some g:=by rw[<-p];congr 1;omega
   have e4:m[i']? =some h:=by rw[<-r];congr 1;omega
   have e1:l[i']? =some d:=by rw[<-s];congr 1;omega
   have e2:m[i']? =some f:=by rw[<-t];congr 1;omega
   obtain rfl:d=g:=Option.some.inj (e1.symm.trans e3);obtain rfl:f=h:=Option.some.inj (e2.symm.trans e4);refine⟨T,i',rfl,⟨⟨AA⟩,AA,w,?_⟩,AA⟩;have C:d=f:=UInt32.toNat_inj.1 AA;subst C;exact drop_eq (i:=i') e1 e2 L
  have R:=HD J;obtain⟨i',rfl⟩:∃i',k'=i'+1:=⟨k'-1,AA⟩
  have e1:l[i']? =some d:=by rw[<-s];congr 1;omega
  have e2:m[i']? =some f:=by rw[<-t];congr 1;omega
  have A:f.toNat<d.toNat:=AA
  have B:d≠f:=fun e=>by rw[e] at A;omega
  exact AO (by rw[K,<-Bn a,<-Bn b,<-v,<-hm,<-TN e1 e2 w L B];unfold CR;rw[if_neg AA,if_pos AA])
 have Q:=ET G;obtain⟨i',rfl⟩:∃i',k'=i'+1:=⟨k'-1,AA⟩
 have e1:l[i']? =some g:=by rw[<-p];congr 1;omega
 have e2:m[i']? =some h:=by rw[<-r];congr 1;omega
 have A:g.toNat<h.toNat:=AA
 have B:g≠h:=fun e=>by rw[e] at A;omega
 exact AO (by rw[K,<-Bn a,<-Bn b,<-v,<-hm,<-TN e1 e2 w L B];unfold CR;rw[if_pos AA])
theorem Sd {b:Nat} (hl:l=BB a) (hm:m=BB b) (hz:z=BB (a-b)) (a8:b<=a) (sl:l.length<=17592186044416):CF 275 [.one (.sl .u32 l),.one (.sl .u32 m)] (.one (.sl .u32 z)):=by
 have ab:m.length<=l.length:=by rw[hl,hm];exact FG a8
 refine AN Tryz.func275 fun E hE=>?_
 rintro aD ⟨au,f11⟩;refine⟨fun _=>⟨AA,AA,by show _*4<=140737488355328;omega⟩,?_⟩;intro N (O:List UInt32) L;have ar:=L.1;have F:O=List.replicate N (0:el .u32):=L.2;have aq:O.length=N:=by rw[F,List.length_replicate]
 conv=>cbv
 refine Bc [] [0,1,5,6,7] [12] (fun vs bl k=>∃(o:List UInt32) (n J i':Nat) (c i:Int),vs=[.one (.sl .u32 l),.one (.sl .u32 m),.one (.BK .u32 12 0 0 n),.one (.int .u64 c),AD i]/\bl=[.arr 0 .u32 o]/\(o.length=l.length/\n=o.length/\Ah i i'/\i'<=l.length/\Ah c J/\J<=1)/\AJ (o.take i')+AJ (m.take i')=AJ (l.take i')+2^(32*i')*J/\k=l.length-i') (l.length-0) ⟨O,N,0,0,0,0,rfl,rfl,⟨by rw[F,List.length_replicate];omega,by rw[F,List.length_replicate],BJ 0,AA,BJ 0,AA⟩,by simp[AJ],rfl⟩ ?_;rintro J0 Z vs bl aC ⟨o,n,J,i',c,i,rfl,rfl,⟨ho,hn,hi,az,hc,ay⟩,hinv,aA⟩;have ei:=hi.eq;have ec:=hc.eq;refine Ak ?_;rintro aE ⟨av,f15⟩;refine Bt (fun ad=>?_) fun ad=>?_
 ·have G:n<=(o).length:=AA
  obtain⟨af,K⟩:=xN ((DB ((o).take n)).length);obtain⟨aa,M⟩:=Fv G K;refine .inr (.inr (.inl ⟨[],.one (.BK .u32 0 0 0 af),.arr 0 .u32 o,fun _=>⟨by first | decide | simp[DR,DQ],trivial⟩,fun _=>⟨FN hE (Hw G AA K),rfl,rfl⟩,?_⟩));try conv=>cbv
  have hk:i'=l.length:=AA
  have a1:AJ (o.take n)=a-b:=by rw[hk,Ei ab,Ei (Nat.le_refl _),hm,hl,Bn,Bn,<-hl,<-ho,List.take_length] at hinv;have aB:=DZ o;generalize 2^(32*o.length)=P at *;rw[hn,List.take_length];rcases (by omega:J=0\/J=1) with e | e <;> rw[e] at hinv <;> omega
  exact AM ⟨⟨rfl,.inl ⟨_,rfl,AA,congrArg _ (by rw[List.drop_zero,M,a1,hz])⟩,trivial⟩,trivial⟩
 refine .inr ?_;refine Ak ?_;rintro aF ⟨aw,f21⟩ ag W;refine .inr ?_;cases ag <;> conv=>cbv
 ·have ae:=ES W;refine BH i' fun S H=>?_
  refine Ak ?_;intro ah r ai s;have a6:=r.eq;have f31:=r.lt;have s:=wrap_u64 s;intro aj t;conv=>cbv
  have t:=wrap_u64 t;intro ak v;conv=>cbv
  have v:=wrap_u64 v;intro al A;conv=>cbv
  have A:=wrap_u64 A;intro R B;conv=>cbv
  have B:=wrap_u32 B;refine AP ?_;intro I a2;obtain⟨j,f⟩:=DF (n:=R) AA;have T:=f.eq;have U:=f.lt;refine⟨j,fun _=>⟨by show _<List.length (α:=UInt32) o;(first | omega | (simp;omega)),DE f⟩,?_⟩;intro (g:List UInt32) (d:g=List.set (α:=UInt32) o I j);have V:g.length=o.length:=by rw[d,List.length_set]
  refine AP ?_;intro an C;have C:=Fb (p:=4294967296) C rfl;intro h D;conv=>cbv
  have D:=wrap_u64 D;refine AP ?_;intro Q a7;refine⟨l.length-(i'+1),?_,?_⟩
  ·omega
  rw[Z];refine⟨g,n,h.toNat,i'+1,h,Q,rfl,rfl,⟨by rw[d,List.length_set];exact ho,by rw[d,List.length_set];exact hn,⟨AA⟩,AA,⟨AA⟩,AA⟩,?_,rfl⟩;have hs:=Mg (w:=j) (o:=o) (i:=i') (xi:=S.toNat) (yi:=0) (G8:=J) (G9:=h.toNat) AA hinv AA;rw[d,(AA:I=i'),DS H,<-hs,Ei (l:=m) (i:=i'+1) AA,Ei (l:=m) (i:=i') AA,Nat.mul_zero]
  rfl
 have ae:=ET W;refine BH i' fun ao a5=>?_
 refine Ak ?_;intro aG X aH Y;have ax:=X.eq;have f26:=X.lt;have Y:=wrap_u64 Y;refine BH i' fun S H=>?_
 refine Ak ?_;intro ah r ai s;have a6:=r.eq;have f31:=r.lt;have s:=wrap_u64 s;intro aj t;conv=>cbv
 have t:=wrap_u64 t;intro ak v;conv=>cbv
 have v:=wrap_u64 v;intro al A;conv=>cbv
 have A:=wrap_u64 A;intro R B;conv=>cbv
 have B:=wrap_u32 B;refine AP ?_;intro I a2;obtain⟨j,f⟩:=DF (n:=R) AA;have T:=f.eq;have U:=f.lt;refine⟨j,fun _=>⟨by show _<List.length (α:=UInt32) o;(first | omega | (simp;omega)),DE f⟩,?_⟩;intro (g:List UInt32) (d:g=List.set (α:=UInt32) o I j);have V:g.length=o.length:=by rw[d,List.length_set]
 refine AP ?_;intro an C;have C:=Fb (p:=4294967296) C rfl;intro h D;conv=>cbv
 have D:=wrap_u64 D;refine AP ?_;intro Q a7;refine⟨l.length-(i'+1),?_,?_⟩
 ·omega
 rw[Z];refine⟨g,n,h.toNat,i'+1,h,Q,rfl,rfl,⟨by rw[d,List.length_set];exact ho,by rw[d,List.length_set];exact hn,⟨AA⟩,AA,⟨AA⟩,AA⟩,?_,rfl⟩;have hs:=Mg (w:=j) (o:=o) (i:=i') (xi:=S.toNat) (yi:=ao.toNat) (G8:=J) (G9:=h.toNat) AA hinv AA;rw[d,(AA:I=i'),DS H,<-hs,DS a5]
theorem jc {b:Nat} (hl:l=BB a) (hm:m=BB b) (hz:z=BB (a+b)) (sl:l.length<=17592186044416) (sm:m.length<=17592186044416):CF 298 [.one (.sl .u32 l),.one (.sl .u32 m)] (.one (.sl .u32 z)):=by
 refine AN Tryz.func298 fun E hE=>?_
 rintro n9 ⟨e9,f9⟩ aQ ⟨aE,f11⟩ au U;obtain⟨ah,A⟩:=xK fun vs bl=>∃(p q:Nat) (x y:List UInt32),vs=[.one (.sl .u32 x),.one (.sl .u32 y)]/\x=BB p/\y=BB q/\p+q=a+b/\y.length<=x.length/\x.length<=17592186044416
 refine .inl ⟨[0,1],[],ah,?_,?_⟩
 ·intro vs bl hj;rw[A] at hj;obtain⟨p,q,x,y,rfl,hx,hy,ak,al,aO⟩:=hj;refine AP ?_;rintro aR ⟨aF,f16⟩ aS aL;refine⟨fun _=>⟨AA,AA,by show _*4<=140737488355328;omega⟩,?_⟩;intro L (M:List UInt32) J;have aD:=J.1;have B:M=List.replicate L (0:el .u32):=J.2;have aA:M.length=L:=by rw[B,List.length_replicate]
  conv=>cbv
  refine Bc [] [0,1,5,6,7] [18] (fun vs bl k=>∃(o:List UInt32) (n Q i':Nat) (c i:Int),vs=[.one (.sl .u32 x),.one (.sl .u32 y),.one (.BK .u32 18 0 0 n),.one (.int .u64 c),AD i]/\bl=[.arr 0 .u32 o]/\(o.length=x.length+1/\n=o.length/\Ah i i'/\i'<=x.length/\Ah c Q/\Q<=1)/\AJ (o.take i')+2^(32*i')*Q=AJ (x.take i')+AJ (y.take i')/\k=x.length-i') (x.length-0) ⟨M,L,0,0,0,0,rfl,rfl,⟨by rw[B,List.length_replicate];omega,by rw[B,List.length_replicate],BJ 0,AA,BJ 0,AA⟩,by simp[AJ],rfl⟩ ?_;rintro J0 a6 vs bl aP ⟨o,n,Q,i',c,i,rfl,rfl,⟨ho,hn,hi,aN,hc,aM⟩,hinv,aa⟩;have ei:=hi.eq;have ec:=hc.eq;refine Ak ?_;rintro aT ⟨aG,f21⟩;refine Bt (fun ao=>?_) fun ao=>?_
  ·rintro aZ ⟨aK,f52⟩ aw a5;have a5:=wrap_u32 a5;refine AP ?_;intro ad aC;obtain⟨P,D⟩:=DF (n:=aw) AA;have ay:=D.eq;have az:=D.lt;refine⟨P,fun _=>⟨by show _<List.length (α:=UInt32) o;(first | omega | (simp;omega)),DE D⟩,?_⟩;intro (r:List UInt32) (G:r=List.set (α:=UInt32) o ad P);have aB:r.length=o.length:=by rw[G,List.length_set]
   conv=>cbv
   have C:n<=(r).length:=AA
   obtain⟨ar,H⟩:=xN ((DB ((r).take n)).length);obtain⟨aj,K⟩:=Fv C H;refine .inr (.inr (.inl ⟨[],.one (.BK .u32 0 0 0 ar),.arr 0 .u32 r,fun _=>⟨by first | decide | simp[DR,DQ],trivial⟩,fun _=>⟨FN hE (Hw C AA H),rfl,rfl⟩,?_⟩));try conv=>cbv
   have aa:i'=x.length:=AA
   have a7:AJ (r.take n)=p+q:=by rw[G,hn,(AA:ad=x.length),(AA:o.length=x.length+1),GQ AA,FW,List.length_take,Nat.min_eq_left AA,(AA:P.toNat=Q)];rw[aa,Ei (Nat.le_refl _),Ei al,hx,hy,Bn,Bn,<-hx] at hinv;exact hinv
   exact AM ⟨⟨rfl,.inl ⟨_,rfl,AA,congrArg _ (by rw[List.drop_zero,K,a7,ak,hz])⟩,trivial⟩,trivial⟩
  refine .inr ?_;refine BH i' fun ag I=>?_
  refine Ak ?_;intro aU V aV W;have aH:=V.eq;have f29:=V.lt;have W:=wrap_u64 W;intro ae X;conv=>cbv
  have X:=wrap_u64 X;refine Ak ?_;rintro aW ⟨aI,f34⟩ av Y;refine .inr ?_;cases av <;> conv=>cbv
  ·have aq:=ES Y;intro O t;conv=>cbv
   have t:=wrap_u32 t;refine AP ?_;intro F a8;obtain⟨j,f⟩:=DF (n:=O) AA;have R:=f.eq;have S:=f.lt;refine⟨j,fun _=>⟨by show _<List.length (α:=UInt32) o;(first | omega | (simp;omega)),DE f⟩,?_⟩;intro (g:List UInt32) (d:g=List.set (α:=UInt32) o F j);have T:g.length=o.length:=by rw[d,List.length_set]
   refine AP ?_;intro h v;have v:=Fb (p:=4294967296) v rfl;refine AP ?_;intro N ai;refine⟨x.length-(i'+1),?_,?_⟩
   ·omega
   rw[a6];refine⟨g,n,h.toNat,i'+1,h,N,rfl,rfl,⟨by rw[d,List.length_set];exact ho,by rw[d,List.length_set];exact hn,⟨AA⟩,AA,⟨AA⟩,AA⟩,?_,rfl⟩;have hs:=Pw (o:=o.take i') (i:=i') (xi:=ag.toNat) (yi:=0) (s:=ae.toNat) (w:=j) (by rw[List.length_take];omega) hinv AA AA;rw[d,(AA:F=i'),GQ AA,DS I,Ei (l:=y) (i:=i'+1) AA];rw[(AA:h.toNat=ae.toNat/4294967296)];rw[hs];rw[Ei (l:=y) (i:=i') AA];omega
  have aq:=ET Y;refine BH i' fun ax ab=>?_
  refine Ak ?_;intro aX Z aY a1;have aJ:=Z.eq;have f40:=Z.lt;have a1:=wrap_u64 a1;intro af a2;conv=>cbv
  have a2:=wrap_u64 a2;intro O t;conv=>cbv
  have t:=wrap_u32 t;refine AP ?_;intro F a8;obtain⟨j,f⟩:=DF (n:=O) AA;have R:=f.eq;have S:=f.lt;refine⟨j,fun _=>⟨by show _<List.length (α:=UInt32) o;(first | omega | (simp;omega)),DE f⟩,?_⟩;intro (g:List UInt32) (d:g=List.set (α:=UInt32) o F j);have T:g.length=o.length:=by rw[d,List.length_set]
  refine AP ?_;intro h v;have v:=Fb (p:=4294967296) v rfl;refine AP ?_;intro N ai;refine⟨x.length-(i'+1),?_,?_⟩
  ·omega
  rw[a6];refine⟨g,n,h.toNat,i'+1,h,N,rfl,rfl,⟨by rw[d,List.length_set];exact ho,by rw[d,List.length_set];exact hn,⟨AA⟩,AA,⟨AA⟩,AA⟩,?_,rfl⟩;have hs:=Pw (o:=o.take i') (i:=i') (xi:=ag.toNat) (yi:=ax.toNat) (s:=af.toNat) (w:=j) (by rw[List.length_take];omega) hinv AA AA;rw[d,(AA:F=i'),GQ AA,DS I,DS ab];rw[(AA:h.toNat=af.toNat/4294967296)];rw[hs]
 cases au <;> conv=>cbv
 ·have an:=ES U;rw[A];exact⟨a,b,_,_,rfl,hl,hm,rfl,AA,AA⟩
 have an:=ET U;rw[A];exact⟨b,a,_,_,rfl,hm,hl,Nat.add_comm _ _,AA,AA⟩
end
section
variable {b1 b2 b3:Bool} {l l1 l2 l3:List UInt32} {x y:Int}
theorem MW {i:Nat} {x:UInt32} (h:l[i]? =some x):l.getD i 0=x:=by rw[List.getD_eq_getElem?_getD,h];rfl
theorem lI:DM (x-y)=CR x y:=by
 unfold CR DM
 split <;> split <;> (try split) <;> (try split) <;> omega
theorem Xd {m z:List UInt32} {a b:Nat} (hl:AJ l=a) (hm:AJ m=b) (hz:z=BB (a*b)) (sl:l.length<=17592186044416) (sm:m.length<=17592186044416):CF 296 [.one (.sl .u32 l),.one (.sl .u32 m)] (.one (.sl .u32 z)):=by
 refine AN Tryz.func296 fun E hE=>?_
 rintro n10 ⟨e10,f10⟩ n12 ⟨e12,f12⟩ n13 h13;refine⟨fun _=>⟨AA,AA,by show _*4<=140737488355328;omega⟩,?_⟩;intro k14 (l14:List UInt32) ql14;have hk14:=ql14.1;have hl14:l14=List.replicate k14 (0:el .u32):=ql14.2;have gl14:l14.length=k14:=by rw[hl14,List.length_replicate]
 conv=>cbv
 refine Bc [] [0,1,5,6] [14] (fun vs bl k=>∃(o:List UInt32) (n i':Nat) (i:Int),vs=[.one (.sl .u32 l),.one (.sl .u32 m),.one (.BK .u32 14 0 0 n),AD i]/\bl=[.arr 0 .u32 o]/\(o.length=l.length+m.length/\n=o.length/\Ah i i'/\i'<=l.length)/\AJ (o.take (i'+m.length))=AJ (l.take i')*AJ m/\k=l.length-i') (l.length-0) ⟨l14,k14,0,0,rfl,rfl,⟨by rw[hl14,List.length_replicate];omega,by rw[hl14,List.length_replicate],BJ 0,AA⟩,by rw[hl14,List.take_replicate,Jj];simp[AJ],rfl⟩ ?_;rintro J0 hJ0 vs bl kk0 ⟨o,n,i',i,rfl,rfl,⟨ho,hn,hi,hiL⟩,hinv,hk0⟩;have ei:=hi.eq;refine Ak ?_;rintro n17 ⟨e17,f17⟩;refine Bt (fun k18=>?_) fun k18=>?_
 ·have hnl66:n<=(o).length:=AA
  obtain⟨m66,hm66⟩:=xN ((DB ((o).take n)).length);obtain⟨hle66,htk66⟩:=Fv hnl66 hm66;refine .inr (.inr (.inl ⟨[],.one (.BK .u32 0 0 0 m66),.arr 0 .u32 o,fun _=>⟨by first | decide | simp[DR,DQ],trivial⟩,fun _=>⟨FN hE (Hw hnl66 AA hm66),rfl,rfl⟩,?_⟩));try conv=>cbv
  have hfin:AJ (o.take n)=a*b:=by rw[(AA:i'=l.length),List.take_length,hl,hm,<-ho,List.take_length] at hinv;rw[hn,List.take_length,hinv]
  exact AM ⟨⟨rfl,.inl ⟨_,rfl,AA,congrArg _ (by rw[List.drop_zero,htk66,hfin,hz])⟩,trivial⟩,trivial⟩
 refine .inr ?_;refine Bc [] [0,1,5,6,7,8] [14] (fun vs bl k=>∃(o1:List UInt32) (n1 c' k':Nat) (c i1:Int),vs=[.one (.sl .u32 l),.one (.sl .u32 m),.one (.BK .u32 14 0 0 n1),AD i,.one (.int .u64 c),AD i1]/\bl=[.arr 0 .u32 o1]/\(o1.length=l.length+m.length/\n1=o1.length/\Ah i1 k'/\k'<=m.length/\Ah c c'/\c'<4294967296)/\AJ (o1.take (i'+m.length))+2^(32*(i'+k'))*c'=AJ (l.take i')*AJ m+(l.getD i' 0).toNat*2^(32*i')*AJ (m.take k')/\k=m.length-k') (m.length-0) ⟨o,n,0,0,0,0,rfl,rfl,⟨ho,hn,BJ 0,AA,BJ 0,AA⟩,by rw[hinv];simp[AJ],rfl⟩ ?_;rintro J1 hJ1 vs bl kk1 ⟨o1,n1,c',k',c,i1,rfl,rfl,⟨ho1,hn1,hi1,hiL1,hc,hc1⟩,hinv1,hk1⟩;have ei1:=hi1.eq;have ec:=hc.eq;refine Ak ?_;rintro n23 ⟨e23,f23⟩;refine Bt (fun k24=>?_) fun k24=>?_
 ·rintro n60 ⟨e60,f60⟩ n61 h61 n63 h63;have h63:=wrap_u32 h63;refine AP ?_;intro j64 hj64;obtain⟨w64,hw64⟩:=DF (n:=n63) AA;have ew64:=hw64.eq;have fw64:=hw64.lt;refine⟨w64,fun _=>⟨by show _<List.length (α:=UInt32) o1;(first | omega | (simp;omega)),DE hw64⟩,?_⟩;intro (l64:List UInt32) (hl64:l64=List.set (α:=UInt32) o1 j64 w64);have gl64:l64.length=o1.length:=by rw[hl64,List.length_set]
  refine AP ?_;intro n20 h20;refine⟨l.length-(i'+1),?_,?_⟩
  ·omega
  rw[hJ0];refine⟨l64,n1,i'+1,n20,rfl,rfl,⟨by rw[hl64,List.length_set];exact ho1,by rw[hl64,List.length_set];exact hn1,⟨AA⟩,AA⟩,?_,rfl⟩;obtain⟨ai,hai⟩:=Cq (l:=l) (i:=i') AA;have hk:k'=m.length:=AA
  have hlen:i'+m.length<o1.length:=AA
  rw[hl64,(AA:i'+1+m.length=i'+m.length+1),(AA:j64=i'+m.length),GQ hlen,FW,List.length_take,Nat.min_eq_left AA,(AA:w64.toNat=c')];rw[hk,MW hai] at hinv1;rw[hinv1,List.take_length,DS hai]
  grind
 refine .inr ?_;refine AP ?_;intro n31 h31 j32 hj32;obtain⟨x33,hx33⟩:=Cq (l:=o1) (i:=j32) AA;refine⟨x33,fun _=>hx33,?_⟩;refine Ak ?_;intro n33 h33 n34 h34;have e33:=h33.eq;have f33:=h33.lt;have h34:=wrap_u64 h34;intro n35 h35;conv=>cbv
 have h35:=wrap_u64 h35;refine BH i' fun x38 hx38=>?_
 refine Ak ?_;intro n39 h39 n40 h40;have e39:=h39.eq;have f39:=h39.lt;have h40:=wrap_u64 h40;refine BH k' fun x43 hx43=>?_
 refine Ak ?_;intro n44 h44 n45 h45;have e44:=h44.eq;have f44:=h44.lt;have h45:=wrap_u64 h45;have ep:n40*n45=((x38.toNat*x43.toNat:Nat):Int):=by rw[Int.natCast_mul];congr 1 <;> omega
 have bp:x38.toNat*x43.toNat<=4294967295*4294967295:=Nat.mul_le_mul AA AA;intro n46 h46;conv=>cbv
 have h46:=wrap_u64 h46;intro n47 h47;conv=>cbv
 have h47:=wrap_u64 h47;refine AP ?_;intro Eh h51 DY h53;have h53:=wrap_u32 h53;refine AP ?_;intro j54 hj54;obtain⟨w54,hw54⟩:=DF (n:=DY) AA;have ew54:=hw54.eq;have fw54:=hw54.lt;refine⟨w54,fun _=>⟨by show _<List.length (α:=UInt32) o1;(first | omega | (simp;omega)),DE hw54⟩,?_⟩;intro (l54:List UInt32) (hl54:l54=List.set (α:=UInt32) o1 j54 w54);have gl54:l54.length=o1.length:=by rw[hl54,List.length_set]
 refine AP ?_;intro n56 h56;have h56:=Fb (p:=4294967296) h56 rfl;refine AP ?_;intro n26 h26;refine⟨m.length-(k'+1),?_,?_⟩
 ·omega
 rw[hJ1];refine⟨l54,n1,n56.toNat,k'+1,n56,n26,rfl,rfl,⟨by rw[hl54,List.length_set];exact ho1,by rw[hl54,List.length_set];exact hn1,⟨AA⟩,AA,⟨AA⟩,AA⟩,?_,rfl⟩;have hj:j54=i'+k':=AA
 have hj2:j32=i'+k':=AA
 rw[hj2] at hx33;rw[MW hx38] at hinv1;rw[hl54,hj,DS hx43,(AA:i'+(k'+1)=i'+k'+1),MW hx38];refine WH (q:=x33) (xi:=x38.toNat) (yk:=x43.toNat) (old:=x33.toNat) (c:=c') rfl AA hx33 rfl hinv1 ?_ rfl;rw[ep] at h46;omega
theorem Es (k:BR x b1 l1) (p:BR y b2 l2) (s:BR (x*y) b3 l3) (s1:l1.length<=17592186044416) (s2:l2.length<=17592186044416):CF 241 [.agg (B8 b1 l1),.agg (B8 b2 l2)] (.agg (B8 b3 l3)):=by
 refine AN Tryz.func241 fun E i=>?_
 refine AB i (JL k) ?_;refine AB i (JL p) ?_;intro t j;obtain⟨v,f⟩:=xU (BB (x.natAbs*y.natAbs));refine AB i (Xd k.nat p.nat f s1 s2) ?_;obtain⟨g,h,d⟩:=BQ (x*y);refine AB (r:= .agg [.bool g,.sl .u32 h]) i (IH (by rw[f,Bn,j];exact aR k.neg p.neg) d) ?_;exact Eg ((d.uniq s rfl).1.symm) ((d.uniq s rfl).2.symm)
theorem Lx (v:BR x b1 l1) (w:BR y b2 l2) (A:BR (x+y) b3 l3) (s1:l1.length<=17592186044416) (s2:l2.length<=17592186044416):CF 243 [.agg (B8 b1 l1),.agg (B8 b2 l2)] (.agg (B8 b3 l3)):=by
 refine AN Tryz.func243 fun E j=>?_
 refine AB j (JL v) ?_;refine AB j (JL w) ?_;intro J B;cases J <;> conv=>cbv
 ·have k:=Sz B;obtain⟨M,f⟩:=xI (CR x.natAbs y.natAbs);refine AB j (Na v.B9 w.B9 f) ?_;refine J3 (fun d=>?_) fun d=>?_
  ·obtain⟨L,t⟩:=xU (BB (y.natAbs-x.natAbs));refine AB (r:= .one (.sl .u32 L)) j (Sd w.B9 v.B9 t (by rw[f] at d;have:=KG d;omega) s2) ?_;obtain⟨F,I,i⟩:=BQ (x+y);refine AB (r:= .agg [.bool F,.sl .u32 I]) j (IH (by rw[t,Bn];rw[f] at d;exact PZ v.neg w.neg k (by have:=KG d;omega)) i) ?_;exact Eg ((i.uniq A rfl).1.symm) ((i.uniq A rfl).2.symm)
  obtain⟨K,s⟩:=xU (BB (x.natAbs-y.natAbs));refine AB (r:= .one (.sl .u32 K)) j (Sd v.B9 w.B9 s (by rw[f] at d;have:=KF d;omega) s1) ?_;obtain⟨D,H,h⟩:=BQ (x+y);refine AB (r:= .agg [.bool D,.sl .u32 H]) j (IH (by rw[s,Bn,Int.add_comm];rw[f] at d;exact PZ w.neg v.neg (Ne.symm k) (by have:=KF d;omega)) h) ?_;exact Eg ((h.uniq A rfl).1.symm) ((h.uniq A rfl).2.symm)
 have k:=TA B;obtain⟨N,p⟩:=xU (BB (x.natAbs+y.natAbs));refine AB j (jc v.B9 w.B9 p s1 s2) ?_;obtain⟨C,G,g⟩:=BQ (x+y);refine AB (r:= .agg [.bool C,.sl .u32 G]) j (IH (by rw[p,Bn];exact add_same v.neg (k.trans w.neg)) g) ?_;exact Eg ((g.uniq A rfl).1.symm) ((g.uniq A rfl).2.symm)
theorem XM (p:BR x b1 l1) (j:BR y b2 l2) (k:BR (x-y) b3 l3) (s1:l1.length<=17592186044416) (s2:l2.length<=17592186044416):CF 332 [.agg (B8 b1 l1),.agg (B8 b2 l2)] (.agg (B8 b3 l3)):=by
 refine AN Tryz.func332 fun E i=>?_
 obtain⟨s,t,d⟩:=BQ (-y);refine AB i (NZ j d) ?_;obtain⟨g,h,f⟩:=BQ (x-y);refine AB (r:= .agg [.bool g,.sl .u32 h]) i (Lx p d f s1 (by rw[d.B9,Int.natAbs_neg,<-j.B9];exact s2)) ?_;exact Eg ((f.uniq k rfl).1.symm) ((f.uniq k rfl).2.symm)
theorem iN (i:BR x b1 l1) (j:BR y b2 l2) {c:Int} (h:c=CR x y) (s1:l1.length<=17592186044416) (s2:l2.length<=17592186044416):CF 353 [.agg (B8 b1 l1),.agg (B8 b2 l2)] (AD c):=by
 refine AN Tryz.func353 fun E g=>?_
 obtain⟨k,p,f⟩:=BQ (x-y);refine AB g (XM i j f s1 s2) ?_;obtain⟨r,d⟩:=xI (DM (x-y));refine AB g (Kz f d) ?_;exact AO (by rw[h,d,lI])
end
section
variable {c:Int} {l:List UInt32} {n x:Nat}
theorem pF (h:0<x):EC x=EC (x/2)+1:=by
 by_cases g:x=1
 ·subst g;decide
 have f:x/2≠0:=AA
 unfold EC;rw[if_neg AA,if_neg f];have a:=Nat.log2_self_le f;have b:=Nat.lt_log2_self (n:=x/2);have c:Nat.log2 (x/2)+1<=Nat.log2 x:=(Nat.le_log2 AA).2 (by rw[Nat.pow_succ];omega);have d:Nat.log2 x<Nat.log2 (x/2)+2:=(Nat.log2_lt AA).2 (by rw[Nat.pow_succ,Nat.pow_succ];rw[Nat.pow_succ] at b;omega);omega
theorem Q8 (h:0<x):2^(EC x-1)<=x/\x<2^EC x/\1<=EC x:=by
 unfold EC;rw[if_neg AA];exact⟨by rw[Nat.add_sub_cancel];exact Nat.log2_self_le AA,Nat.lt_log2_self,AA⟩
theorem aV (h:x<4294967296):EC x<=32:=by
 unfold EC
 split
 ·omega
 rename_i d
 have:=(Nat.log2_lt d).2 (AA:x<2^32);omega
theorem kI {y r:Nat} (f:n<=32:=by omega):(x+4294967296*(y+4294967296*r))/2^n%4294967296=(x+4294967296*y)/2^n%4294967296:=by
 have d:2^n*2^(32-n)=4294967296:=by rw[<-Nat.pow_add,(AA:n+(32-n)=32)]
 have e:x+4294967296*(y+4294967296*r)=x+4294967296*y+2^n*(2^(32-n)*r*4294967296):=by
  rw[<-Nat.mul_assoc,<-Nat.mul_assoc,d];grind
 rw[e,Nat.add_mul_div_left _ _ (Nat.two_pow_pos n),Nat.add_mul_mod_self_right]
theorem pk {n a b:Int} {p q:Nat} (h:n=IntKind.u64.wrap (BitVec.ofInt IntKind.u64.bits a ||| BitVec.ofInt IntKind.u64.bits b).toNat) (ha:a=q) (hb:b=((p*4294967296:Nat):Int)) (g:p<4294967296) (f:q<4294967296):n=((q+4294967296*p:Nat):Int):=by
 rw[bJ h ha hb AA AA,Nat.mul_comm];have:=Mo (a:=q) (b:=p) (d:=32) f;exact congrArg _ this
theorem tm {X V top high P R0 V0:Nat} (h:X=top*P+R0) (hR:R0<P) (hV:V=high*P+V0) (i:0<high):X/V<=top/high:=by
 have f:0<P:=AA
 have d:X/V<=X/(high*P):=Nat.div_le_div_left AA (Nat.mul_pos i f);have g:X/(high*P)=X/P/high:=by rw[Nat.mul_comm,Nat.div_div_eq_div_mul]
 have h3:X/P=top:=by rw[h,Nat.mul_comm,Nat.mul_add_div f,Nat.div_eq_of_lt hR,Nat.add_zero]
 rw[g,h3] at d;exact d
theorem Xc (hl:l.length<=2) (K:Ah c (AJ l)):CF 270 [.one (.sl .u32 l)] (.one (.int .u64 c)):=by
 refine AN Tryz.func270 fun E Z=>?_
 rintro n6 ⟨W,f6⟩ U Y;refine Bc [] [0,3,4] [] (fun vs G k=>∃(d g:Nat) (r j:Int),vs=[.one (.sl .u32 l),.one (.int .u64 r),AD j]/\(Ah (j+1) d/\d<=l.length/\Ah r g)/\g=AJ (l.drop d)/\k=d) l.length ⟨l.length,0,0,U,rfl,⟨⟨AA⟩,AA,BJ 0⟩,by rw[List.drop_length];rfl,rfl⟩ ?_;rintro V v vs G R ⟨d,g,r,j,rfl,⟨L,M,P⟩,hinv,O⟩;conv=>cbv
 have X:=L.eq;have I:=P.eq;refine J3 (fun Q=>?_) fun Q=>?_
 ·have N:d=0:=AA
  rw[N,List.drop_zero] at hinv;exact AO (by rw[K.eq,I,hinv])
 refine .inr ?_;refine AP ?_;intro A h;have h:=Ll (p:=4294967296) h rfl;obtain⟨i',rfl⟩:∃i',d=i'+1:=⟨d-1,AA⟩
 have F:g<4294967296:=by have:=DZ (l.drop (i'+1));rw[<-hinv] at this;exact Nat.lt_of_lt_of_le this (Nat.pow_le_pow_right AF (by rw[List.length_drop];omega:32*(l.drop (i'+1)).length<=32))
 refine BH i' fun C t=>?_
 refine Ak ?_;intro S i T s;have H:=i.eq;have f17:=i.lt;have s:=wrap_u64 s;intro B f;conv=>cbv
 have D:A=((g*4294967296:Nat):Int):=by clear hinv;omega
 have f:=La (p:=g) (q:=C.toNat) f AA AA AA AA;refine AP ?_;intro w J;refine⟨i',?_,?_⟩
 ·omega
 rw[v];refine⟨i',_,B,w,rfl,⟨⟨AA⟩,AA,⟨f⟩⟩,?_,rfl⟩;rw[Eu t,hinv]
theorem XU {z1:List UInt32} {d:Int} {b:Nat} (hd:Ah d b) (hb:0<b) (ay:b<4294967296) (a6:z1=BB (AJ l/b)) (hc:Ah c (AJ l%b)) (sl:l.length<=17592186044416):CF 271 [.one (.sl .u32 l),.one (.int .u32 d)] (.BN [(false,[.sl .u32 z1]),(false,[.int .u32 c])]):=by
 have ed:=hd.eq;refine AN Tryz.func271 fun E hE=>?_
 rintro aD ⟨ar,f10⟩;refine⟨fun _=>⟨AA,AA,by show _*4<=140737488355328;omega⟩,?_⟩;intro L (M:List UInt32) F;have aq:=F.1;have h:M=List.replicate L (0:el .u32):=F.2;have al:M.length=L:=by rw[h,List.length_replicate]
 refine AP ?_;rintro aE ⟨au,f13⟩ aa aw;refine Bc [] [0,1,6,7,8] [11] (fun vs bl k=>∃(o:List UInt32) (m g A:Nat) (r j:Int),vs=[.one (.sl .u32 l),.one (.int .u32 d),.one (.BK .u32 11 0 0 m),.one (.int .u64 r),AD j]/\bl=[.arr 0 .u32 o]/\(o.length=l.length/\m=o.length/\Ah (j+1) A/\A<=l.length/\Ah r g/\g<b)/\AJ (l.drop A)=AJ (o.drop A)*b+g/\k=A) l.length ⟨M,L,0,l.length,0,aa,rfl,rfl,⟨by rw[h,List.length_replicate];omega,by rw[h,List.length_replicate],⟨AA⟩,AA,BJ 0,hb⟩,by rw[List.drop_length,List.drop_eq_nil_of_le (by rw[h,List.length_replicate];omega)];simp[AJ],rfl⟩ ?_;rintro J0 a1 vs bl aC ⟨o,m,g,A,r,j,rfl,rfl,⟨ho,hm,hj,az,hr,J⟩,hinv,aA⟩;conv=>cbv
 have ej:=hj.eq;have er:=hr.eq;refine J3 (fun a7=>?_) fun a7=>?_
 ·have s:m<=(o).length:=AA
  obtain⟨a8,D⟩:=xN ((DB ((o).take m)).length);obtain⟨a2,K⟩:=Fv s D;refine .inr (.inr (.inl ⟨[],.one (.BK .u32 0 0 0 a8),.arr 0 .u32 o,fun _=>⟨by first | decide | simp[DR,DQ],trivial⟩,fun _=>⟨FN hE (Hw s AA D),rfl,rfl⟩,?_⟩));refine Ak ?_;intro aI U;have U:=wrap_u32 U;have hk:A=0:=AA
  rw[hk,List.drop_zero,List.drop_zero] at hinv;have hq:AJ o=AJ l/b:=by rw[hinv,Nat.add_comm,Nat.add_mul_div_right _ _ hb,Nat.div_eq_of_lt J,Nat.zero_add]
  have a5:g=AJ l%b:=by rw[hinv,Nat.add_comm,Nat.add_mul_mod_self_right,Nat.mod_eq_of_lt J]
  exact AM ⟨⟨rfl,.inl ⟨_,rfl,AA,congrArg _ (by rw[List.drop_zero,K,a6,hm,List.take_length,hq])⟩,trivial⟩,⟨rfl,congrArg _ (by rw[hc.eq,<-a5];omega),trivial⟩,trivial⟩
 refine .inr ?_;refine AP ?_;intro ad G;have G:=Ll (p:=4294967296) G rfl;have G:ad=((g*4294967296:Nat):Int):=by clear hinv;omega
 obtain⟨i',rfl⟩:∃i',A=i'+1:=⟨A-1,AA⟩
 refine BH i' fun f V=>?_
 refine Ak ?_;intro aF O aG P;have av:=O.eq;have f24:=O.lt;have P:=wrap_u64 P;intro aH w;conv=>cbv
 have w:=La (p:=g) (q:=f.toNat) w AA AA AA AA;intro ae S;conv=>cbv
 have S:=wrap_u64 S;refine AP ?_;intro af H;have H:=wrap_u64 H;intro ag I;conv=>cbv
 have I:=wrap_u32 I;have W:ae=(b:Int):=AA
 have X:af=(((f.toNat+4294967296*g)/b:Nat):Int):=by rw[H,w,W,<-Int.natCast_ediv];have:=Nat.div_le_self (f.toNat+4294967296*g) b;generalize (f.toNat+4294967296*g)/b=Q at *;clear hinv;omega
 refine AP ?_;intro B ao;obtain⟨v,t⟩:=DF (n:=ag) AA;have aj:=t.eq;have ak:=t.lt;refine⟨v,fun _=>⟨by show _<List.length (α:=UInt32) o;(first | omega | (simp;omega)),DE t⟩,?_⟩;intro (N:List UInt32) (C:N=List.set (α:=UInt32) o B v);have an:N.length=o.length:=by rw[C,List.length_set]
 refine Ak ?_;intro ah T;have T:=wrap_u64 T;refine AP ?_;intro ai Z ab ax;refine⟨i',?_,?_⟩
 ·omega
 rw[a1];have Y:ah=(b:Int):=AA
 have h5:=Nat.div_add_mod (f.toNat+4294967296*g) b;refine⟨N,m,(f.toNat+4294967296*g)%b,i',ai,ab,rfl,rfl,⟨AA,AA,⟨AA⟩,AA,⟨by rw[Z,w,Y];simp⟩,Nat.mod_lt _ hb⟩,?_,rfl⟩
 have aB:(f.toNat+4294967296*g)/b<4294967296:=Nat.div_lt_of_lt_mul (by
  have:4294967296*(g+1)<=4294967296*b:=Nat.mul_le_mul_left _ J;rw[Nat.mul_comm b];omega)
 have ew:v.toNat=(f.toNat+4294967296*g)/b:=by
  rw[X] at I
  generalize (f.toNat+4294967296*g)/b=Q at*
  clear hinv
  omega
 rw[Eu V,hinv,C,Eu (l:=o.set B v) (i:=i') (x:=v) (by rw[(AA:B=i'),List.getElem?_set_self AA]),(AA:B=i'),List.drop_set_of_lt AA,ew]
 generalize (f.toNat+4294967296*g)/b=Q at*
 generalize (f.toNat+4294967296*g)%b=R at*
 grind
theorem XX {a:Nat} (t:l=BB a) (H:Ah c (EC a)) (sl:l.length<=17592186044416):CF 272 [.one (.sl .u32 l)] (AD c):=by
 refine AN Tryz.func272 fun E hE=>?_
 rintro n6 ⟨e6,f6⟩;refine BV (fun W=>?_) fun W=>?_
 ·have v:a=0:=Fo.1 (by rw[<-t];exact List.eq_nil_of_length_eq_zero AA);exact AO (by rw[H.eq,v];rfl)
 rintro Y ⟨K,f10⟩ Z N;refine BH ((l.length-1)) fun f p=>?_
 refine Ak ?_;intro D h;have L:=h.eq;have f13:=h.lt;refine Bc [] [0,3,4] [] (fun vs J k=>∃(s x':Nat) (n x:Int),vs=[.one (.sl .u32 l),AD n,.one (.int .u32 x)]/\(Ah n s/\Ah x x'/\x'<4294967296)/\s+EC x'=EC f.toNat/\k=x') f.toNat ⟨0,f.toNat,0,D,rfl,⟨BJ 0,⟨AA⟩,AA⟩,Nat.zero_add _,rfl⟩ ?_;rintro J0 w vs J X ⟨s,x',n,x,rfl,⟨U,V,I⟩,hinv,T⟩;conv=>cbv
 have en:=U.eq;have ex:=V.eq;have S:=aV (x:=f.toNat) AA;refine EX (fun C=>?_) fun C=>?_
 ·refine .inr ?_;refine AP ?_;intro G O F i;have i:=wrap_u32 i;have g:0<x':=AA
  refine⟨x'/2,?_,?_⟩
  ·omega
  rw[w];refine⟨s+1,x'/2,G,F,rfl,⟨⟨AA⟩,⟨AA⟩,AA⟩,?_,rfl⟩;have:=pF g;omega
 rintro a1 ⟨M,f21⟩ a2 P a5 Q a6 R;have d:=p;rw[t] at d;have r:(BB a).length-1+1=(BB a).length:=by rw[<-t];omega
 have B:=Nr d r;have A:=Q8 (x:=f.toNat) AA;have j:=TD d r A.1 A.2.1 A.2.2;have g:x'=0:=AA
 have v:EC 0=0:=rfl;rw[g,v] at hinv;rw[<-t] at j;exact AO (by rw[H.eq,j];omega)
theorem Xb {z:List UInt32} {s:Int} {zn:Nat} (hs:Ah s n) (hn:n<=31) (aB:z.length=l.length+1) (a8:AJ z=AJ l*2^n) (aC:zn=z.length) (sl:l.length<=17592186044416):CF 273 [.one (.sl .u32 l),AD s] (.one (.own .u32 z zn)):=by
 have es:=hs.eq;refine AN Tryz.func273 fun E hE=>?_
 rintro n9 ⟨e9,f9⟩ aE aw;refine⟨fun _=>⟨AA,AA,by show _*4<=140737488355328;omega⟩,?_⟩;intro F (G:List UInt32) C;have ar:=C.1;have f:G=List.replicate F (0:el .u32):=C.2;have aj:G.length=F:=by rw[f,List.length_replicate]
 conv=>cbv
 refine Bc [] [0,1,5,6] [11] (fun vs bl k=>∃(o:List UInt32) (c:UInt32) (m i':Nat) (i:Int),vs=[.one (.sl .u32 l),AD s,.one (.BK .u32 11 0 0 m),AD i]/\bl=[.arr 0 .u32 o]/\(o.length=l.length+1/\m=o.length/\Ah i i'/\i'<=l.length)/\(o[i']? =some c/\c.toNat<2^n)/\AJ (o.take i')+2^(32*i')*c.toNat=AJ (l.take i')*2^n/\k=l.length-i') (l.length-0) ⟨G,0,F,0,0,rfl,rfl,⟨by rw[f,List.length_replicate];omega,by rw[f,List.length_replicate],BJ 0,AA⟩,⟨by rw[f,List.getElem?_replicate,if_pos AA],Nat.two_pow_pos n⟩,by simp[AJ],rfl⟩ ?_;rintro J0 a5 vs bl aD ⟨o,c,m,i',i,rfl,rfl,⟨ho,hm,hi,az⟩,⟨hc,a6⟩,hinv,aA⟩;have ei:=hi.eq;refine Ak ?_;rintro aF ⟨au,f14⟩;refine Bt (fun aa=>?_) fun aa=>?_
 ·have hk:i'=l.length:=AA
  have U:AJ o=AJ l*2^n:=by rw[hk,List.take_length,<-DS (l:=o) (by rw[<-hk];exact hc),List.take_of_length_le AA] at hinv;exact hinv
  exact AM ⟨⟨rfl,.inr (.inl ⟨_,_,AF,rfl,rfl,hm,rfl,De (OU AA (by rw[a8,U])) AA⟩),trivial⟩,trivial⟩
 refine .inr ?_;refine BH i' fun d W=>?_
 refine Ak ?_;intro aG K aH L;have av:=K.eq;have f21:=K.lt;have L:=wrap_u64 L;refine AP ?_;intro ad M;have a1:d.toNat*2^n<9223372036854775808:=Nat.mul_lt_mul_of_lt_of_le (by omega:d.toNat<4294967296) (Nat.pow_le_pow_right AF hn:2^n<=2^31) AF;obtain⟨J,g,M⟩:∃q:Nat,q=d.toNat*2^n/\ad=q:=⟨_,rfl,(Vy (p:=d.toNat) (e:=n) M AA AA).trans (by congr 1;exact Nat.mod_eq_of_lt AA)⟩
 rw[<-g] at a1;refine AP ?_;intro X an;obtain⟨Z,v⟩:=Cq (l:=o) (i:=X) AA;refine⟨Z,fun _=>v,?_⟩;refine Ak ?_;intro aI O aJ Q;have a2:=O.eq;have f30:=O.lt;have Q:=wrap_u32 Q;intro I R;conv=>cbv
 have bo:0<=I/\I<4294967296:=by rw[wrap_u32 R];omega
 refine AP ?_;intro Y ao;obtain⟨A,r⟩:=DF (n:=I) AA;have af:=r.eq;have ah:=r.lt;refine⟨A,fun _=>⟨by show _<List.length (α:=UInt32) o;(first | omega | (simp;omega)),DE r⟩,?_⟩;intro (w:List UInt32) (B:w=List.set (α:=UInt32) o Y A);have ak:w.length=o.length:=by rw[B,List.length_set]
 refine AP ?_;intro aK ay aL S;have S:=Fb (p:=4294967296) S rfl;intro ae T;conv=>cbv
 have T:=wrap_u32 T;refine AP ?_;intro D aq;obtain⟨h,t⟩:=DF (n:=ae) AA;have ag:=t.eq;have ai:=t.lt;refine⟨h,fun _=>⟨by show _<List.length (α:=UInt32) w;(first | omega | (simp;omega)),DE t⟩,?_⟩;intro (H:List UInt32) (j:H=List.set (α:=UInt32) w D h);have al:H.length=w.length:=by rw[j,List.length_set]
 refine AP ?_;intro ab ax;refine⟨l.length-(i'+1),?_,?_⟩
 ·omega
 rw[a5];have hq:2^n*2^(32-n)=4294967296:=by rw[<-Nat.pow_add,(AA:n+(32-n)=32)]
 have ec:Z=c:=by rw[(AA:X=i'),hc] at v;exact (Option.some.inj v).symm
 have V:J%4294967296=2^n*(d.toNat%2^(32-n)):=by rw[g,Nat.mul_comm d.toNat,<-hq,Nat.mul_mod_mul_left]
 have h6:=RG R (p:=c.toNat) (q:=J%4294967296) (by rw[a2,ec]) AA (by have:=c.toNat_lt;omega) AA;rw[V,Mo a6,<-V] at h6
 have a7:h.toNat<2^n:=by
  have:J/4294967296<2^n:=Nat.div_lt_of_lt_mul (by rw[g];exact (Nat.mul_lt_mul_right (Nat.two_pow_pos n)).2 AA);omega
 refine⟨H,h,m,i'+1,ab,rfl,rfl,⟨AA,AA,⟨AA⟩,AA⟩,⟨by rw[j,(AA:D=i'+1),List.getElem?_set_self AA],a7⟩,?_,rfl⟩;rw[j,(AA:D=i'+1),JC (Nat.le_refl _),B,(AA:Y=i'),GQ AA,FW,List.length_take,Nat.min_eq_left AA,DS W,FI,Nat.add_mul,<-hinv];have e1:A.toNat+4294967296*h.toNat=c.toNat+d.toNat*2^n:=by rw[<-g];omega
 have e2:2^(32*i')*(A.toNat+4294967296*h.toNat)=2^(32*i')*(c.toNat+d.toNat*2^n):=by rw[e1]
 generalize 2^(32*i')=P at*
 generalize 2^n=N at*
 grind
end
section
variable {c n o:Nat} {l u z:List UInt32}
theorem dT {i k:Nat} {w:UInt32} (h:i+k<z.length):((z.set (i+k) w).drop i).take (k+1)=(z.drop i).take k++[w]:=by
 rw[List.drop_set,if_neg AA,Nat.add_sub_cancel_left,GQ (by rw[List.length_drop];omega)]
theorem Xe {m:Nat} (Q:o+n<=l.length) (hl:l.length<=140737488355328) (hm:m=(DB ((l.drop o).take n)).length):J4 Tryz.prog 212 (.BK .u32 0 0 o n) (.arr 0 .u32 l) [] (.one (.BK .u32 0 0 o m)) (.arr 0 .u32 l):=by
 refine Nh Tryz.func212 (by kernel_rfl) rfl fun E hE=>?_
 conv=>cbv
 refine Bc [] [0] [0] (fun vs C k=>∃q:Nat,vs=[.one (.BK .u32 0 0 o q)]/\C=[.arr 0 .u32 l]/\o+q<=l.length/\m=(DB ((l.drop o).take q)).length/\k=q) n ⟨n,rfl,rfl,Q,hm,rfl⟩ ?_;rintro X A vs C S ⟨q,rfl,rfl,hq,p,P⟩;conv=>cbv
 intro n4 N;have Y:=N.eq;conv=>cbv
 refine Fw (fun R=>?_) fun R=>?_
 ·refine⟨fun _=>⟨⟨⟨rfl,.inr (.inr ⟨rfl,rfl,congrArg (AC.BK .u32 0 0 o) (by rw[p,(AA:q=0)];rfl)⟩),trivial⟩,trivial⟩,rfl,AZ⟩,fun _=>rfl⟩
 intro n9 O;have Z:=O.eq;refine AP ?_;intro T L s G;obtain⟨g,d⟩:=Cq (l:=l) (i:=s) AA;refine⟨g,fun _=>d,?_⟩;refine Ak ?_;intro U j;have J:=j.eq;have f12:=j.lt;refine CU (fun t=>?_) fun t=>?_
 ·have B:g≠0:=fun h=>by subst h;exact t j.eq
  have r:(l.drop o)[q-1]? =some g:=by rw[List.getElem?_drop,(AA:o+(q-1)=s)];exact d
  refine⟨fun _=>⟨⟨⟨rfl,.inr (.inr ⟨rfl,rfl,congrArg (AC.BK .u32 0 0 o) (by rw[p,(AA:q=q-1+1),EI r,Lo B,List.length_append,List.length_take,List.length_drop];simp;omega)⟩),trivial⟩,trivial⟩,rfl,AZ⟩,fun _=>rfl⟩
 refine .inr ?_;intro V w;have K:=w.eq;refine AP ?_;rintro W M I D v f ⟨H,F⟩;refine⟨f,?_,?_⟩
 ·omega
 rw[A];obtain rfl:v=o:=AA
 refine⟨f,rfl,rfl,AA,?_,rfl⟩;obtain rfl:g=0:=UInt32.toNat_inj.1 (by show _=0;omega);rw[p,(AA:q=f+1),EI (x:=0) (by rw[List.getElem?_drop,(AA:v+f=s)];exact d),Kk]
theorem jG {y p:List UInt32} {q:Int} {X V n':Nat} (hX:AJ ((u.drop o).take c)=X) (b9:o+c<=u.length) (bc:u.length<=17592186044400) (U:y=BB V) (aI:y.length=n'+1) (b7:c=n'+2) (aD:X<4294967296*V) (hq:Ah q (X/V)) (hp:p=BB (X/V*V)):CY Tryz.prog 274 [.one (.BK .u32 0 0 o c),.one (.sl .u32 y)] (.arr 0 .u32 u) (.BN [(false,[.int .u32 q]),(false,[.sl .u32 p])]):=by
 obtain⟨x,hx⟩:=xU ((u.drop o).take c);have bd:x.length=n'+2:=by rw[hx,List.length_take,List.length_drop];omega
 have aj:∀i,i<c->x[i]? =u[o+i]? :=fun i h=>by rw[hx,List.getElem?_take,if_pos h,List.getElem?_drop]
 rw[<-hx] at hX;refine C5 Tryz.func274 fun E hE=>?_
 refine AP ?_;rintro bg ⟨aX,f10⟩ aq aV;obtain⟨A,L⟩:=Cq (l:=u) (i:=aq) AA;refine⟨A,fun _=>L,?_⟩;refine Ak ?_;intro bh Y bj Z;have aY:=Y.eq;have f14:=Y.lt;have Z:=wrap_u64 Z;refine AP ?_;intro aK a1;have a1:=Ll (p:=4294967296) a1 rfl;have aU:aK=((A.toNat*4294967296:Nat):Int):=AA
 refine AP ?_;intro bk b5 ar aW;obtain⟨C,M⟩:=Cq (l:=u) (i:=ar) AA;refine⟨C,fun _=>M,?_⟩;refine Ak ?_;intro bl a2 bm a5;have aZ:=a2.eq;have f21:=a2.lt;have a5:=wrap_u64 a5;intro bn O;conv=>cbv
 have O:=La (p:=A.toNat) (q:=C.toNat) O AA AA AA AA;refine AP ?_;intro bo b6;refine BH n' fun f N=>?_
 refine Ak ?_;intro bp a6 aL a7;have b0:=a6.eq;have f28:=a6.lt;have a7:=wrap_u64 a7;have an:x[n'+1]? =some A:=by rw[aj _ AA,(AA:o+(n'+1)=aq)];exact L
 have ao:x[n']? =some C:=by rw[aj _ AA,(AA:o+n'=ar)];exact M
 have aH:f.toNat≠0:=Nr (by rw[<-U];exact N) (by rw[<-U];omega);obtain⟨top,I⟩:∃t,t=C.toNat+4294967296*A.toNat:=⟨_,rfl⟩
 have aE:X=top*2^(32*n')+AJ (x.take n'):=by have F:=DS an;have h2:=DS ao;rw[List.take_of_length_le AA,hX] at F;rw[F,h2,FI,I];grind
 have aC:V=f.toNat*2^(32*n')+AJ (y.take n'):=by have F:=DS N;rw[List.take_of_length_le AA,U,Bn,<-U] at F;rw[F];grind
 have hg:=tm aE (M6 (l:=x) (n:=n')) aC AA;have R:0<V:=by have:=Nat.mul_pos (AA:0<f.toNat) (Nat.two_pow_pos (32*n'));omega
 have ba:X/V<4294967296:=(Nat.div_lt_iff_lt_mul R).2 aD;have bb:top<18446744073709551616:=AA
 refine AP ?_;intro aM P;have P:=wrap_u64 P;have a8:aM=((top/f.toNat:Nat):Int):=by rw[P,O,(AA:aL=(f.toNat:Int)),<-I,<-Int.natCast_ediv];have:=Nat.div_le_self top f.toNat;generalize top/f.toNat=Q at *;omega
 refine AP ?_;intro aN aa;obtain⟨ax,j⟩:=xK fun vs W=>∃(G:Nat) (g:Int),vs=[.one (.BK .u32 0 0 o c),.one (.sl .u32 y),.one (.int .u64 g)]/\W=[.arr 0 .u32 u]/\Ah g G/\X/V<=G/\G<4294967296
 refine .inl ⟨[0,1,7],[0],ax,?_,?_⟩
 ·intro vs W hj;rw[j] at hj;obtain⟨G,g,rfl,rfl,ai,aA,ah⟩:=hj;have b4:=ai.eq;refine Ak ?_;intro aO ab;have ab:=wrap_u32 ab;obtain⟨aR,v⟩:=DF (n:=aO) AA;have aS:=v.eq;have aT:=v.lt;refine⟨[aR],fun _=>⟨rfl,AF,rfl,⟨rfl,DE v,trivial⟩⟩,.inr ?_⟩;try conv=>cbv
  obtain⟨av,J⟩:=xU (BB (V*G));refine AB (r:= .one (.sl .u32 av)) hE (Xd (a:=V) (b:=G) (by rw[U,Bn]) (by simp[AJ];omega) J AA AZ) ?_;refine Bc [] [0,1,7,8] [0] (fun vs W k=>∃(D:Nat) (d:Int) (pp:List UInt32),vs=[.one (.BK .u32 0 0 o c),.one (.sl .u32 y),.one (.int .u64 d),.one (.sl .u32 pp)]/\W=[.arr 0 .u32 u]/\(Ah d D/\D<4294967296/\X/V<=D)/\pp=BB (V*D)/\k=D) G ⟨G,g,av,rfl,rfl,⟨ai,ah,aA⟩,J,rfl⟩ ?_;rintro J0 aB vs W bf ⟨D,d,pp,rfl,rfl,⟨hd,af,az⟩,B,b8⟩;conv=>cbv
  have ed:=hd.eq;have S:c<=(u.drop o).length:=by rw[List.length_drop];omega
  obtain⟨au,H⟩:=xN ((DB ((u.drop o).take c)).length);obtain⟨aG,T⟩:=Fv S H;refine .inr (.inr (.inl ⟨[],.one (.BK .u32 0 0 o au),.arr 0 .u32 u,fun _=>⟨by first | decide | simp[DR,DQ],trivial⟩,fun _=>⟨FN hE (Xe AA AA H),rfl,rfl⟩,?_⟩));try conv=>cbv
  obtain⟨aQ,s⟩:=xI (CR X (V*D:Nat));refine .inr (.inl ⟨[.one (.sl .u32 (((u).drop o).take au)),.one (.sl .u32 pp)],AD aQ,fun _=>⟨⟨_,rfl,AA,rfl⟩,rfl,trivial⟩,fun _=>GX hE (PY rfl (Na (by rw[T,<-hx,hX]) B s)),?_⟩);try conv=>cbv
  refine Bt (fun w=>?_) fun w=>?_
  ·intro bq ae;have ae:=wrap_u32 ae;have aF:V*D<=X:=by rw[s] at w;have:=KF w;omega
   have ag:D=X/V:=Nat.le_antisymm ((Nat.le_div_iff_mul_le R).2 (by rw[Nat.mul_comm];exact aF)) az;refine fun _=>⟨⟨⟨⟨rfl,congrArg _ (by rw[hq.eq,<-ag];omega),trivial⟩,⟨rfl,congrArg _ (by rw[hp,B,<-ag,Nat.mul_comm]),trivial⟩,trivial⟩,rfl,AZ⟩,rfl⟩
  have ak:X<V*D:=by rw[s] at w;have:=KG w;omega
  have ay:1<=D:=by apply Nat.pos_of_ne_zero;intro e;rw[e,Nat.mul_zero] at ak;omega
  have al:pp.length<=17592186044416:=by rw[B];refine Nat.le_trans (Gz (k:=n'+2) ?_) AA;have F:=DZ y;rw[aI,U,Bn] at F;have h2:2^(32*(n'+2))=4294967296*2^(32*(n'+1)):=FI (n'+1);rw[h2,Nat.mul_comm];exact Nat.mul_lt_mul_of_lt_of_le af (Nat.le_of_lt F) AA
  refine .inr ?_;intro aP ad;conv=>cbv
  have ad:=wrap_u64 ad;obtain⟨aw,K⟩:=xU (BB (V*D-V));refine AB (r:= .one (.sl .u32 aw)) hE (Sd B U K (by have:=Nat.mul_le_mul_left V ay;omega) al) ?_;exact Bz aB ⟨D-1,aP,aw,rfl,rfl,⟨⟨AA⟩,AA,by have:=(Nat.div_lt_iff_lt_mul R).2 (show X<D*V by rw[Nat.mul_comm];exact ak);omega⟩,by rw[K,Nat.mul_sub,Nat.mul_one],rfl⟩
 cases aN <;> conv=>cbv
 ·have aJ:=HC aa;rw[j];exact⟨_,_,rfl,rfl,⟨a8⟩,hg,AA⟩
 have aJ:=HD aa;rw[j];exact⟨4294967295,_,rfl,rfl,⟨rfl⟩,AA,AA⟩
theorem jU {m:List UInt32} {a b:Nat} (ab:l=(u.drop o).take c) (aL:o+c<=u.length) (hl:l=BB a) (hm:m=BB b) (hz:z=BB (a-b)) (ai:b<=a) (sl:u.length<=17592186044416):CY Tryz.prog 275 [.one (.BK .u32 0 0 o c),.one (.sl .u32 m)] (.arr 0 .u32 u) (.one (.sl .u32 z)):=by
 have ak:m.length<=l.length:=by rw[hl,hm];exact FG ai
 have aJ:l.length=c:=by rw[ab,List.length_take,List.length_drop];omega
 have a7:∀i,i<c->l[i]? =u[o+i]? :=fun i h=>by rw[ab,List.getElem?_take,if_pos h,List.getElem?_drop]
 refine C5 Tryz.func275 fun E hE=>?_
 conv=>cbv
 intro aN af;have aC:=af.eq;conv=>cbv
 refine⟨fun _=>⟨AA,AA,by show _*4<=140737488355328;omega⟩,?_⟩;intro S (T:List UInt32) Q;have aB:=Q.1;have I:T=List.replicate S (0:el .u32):=Q.2;have aA:T.length=S:=by rw[I,List.length_replicate]
 conv=>cbv
 refine Bc [] [0,1,5,6,7] [0,12] (fun vs bl k=>∃(q:List UInt32) (n N i':Nat) (cc i:Int),vs=[.one (.BK .u32 0 0 o c),.one (.sl .u32 m),.one (.BK .u32 12 0 0 n),.one (.int .u64 cc),AD i]/\bl=[.arr 0 .u32 u,.arr 0 .u32 q]/\(q.length=l.length/\n=q.length/\Ah i i'/\i'<=l.length/\Ah cc N/\N<=1)/\AJ (q.take i')+AJ (m.take i')=AJ (l.take i')+2^(32*i')*N/\k=l.length-i') (l.length-0) ⟨T,S,0,0,0,0,rfl,rfl,⟨by rw[I,List.length_replicate];omega,by rw[I,List.length_replicate],BJ 0,AA,BJ 0,AA⟩,by simp[AJ],rfl⟩ ?_;rintro J0 a5 vs bl aM ⟨q,n,N,i',cc,i,rfl,rfl,⟨hq,hn,hi,aH,hc,aG⟩,hinv,aI⟩;conv=>cbv
 have ei:=hi.eq;have ec:=hc.eq;intro aO ag;have aD:=ag.eq;conv=>cbv
 refine Bt (fun al=>?_) fun al=>?_
 ·have J:n<=(q).length:=AA
  obtain⟨ao,O⟩:=xN ((DB ((q).take n)).length);obtain⟨aj,R⟩:=Fv J O;refine .inr (.inr (.inl ⟨[],.one (.BK .u32 0 0 0 ao),.arr 0 .u32 q,fun _=>⟨by first | decide | simp[DR,DQ],trivial⟩,fun _=>⟨FN hE (Hw J AA O),rfl,rfl⟩,?_⟩));try conv=>cbv
  have hk:i'=l.length:=AA
  have a6:AJ (q.take n)=a-b:=by rw[hk,Ei ak,Ei (Nat.le_refl _),hm,hl,Bn,Bn,<-hl,<-hq,List.take_length] at hinv;have aK:=DZ q;generalize 2^(32*q.length)=P at *;rw[hn,List.take_length];rcases (by omega:N=0\/N=1) with e | e <;> rw[e] at hinv <;> omega
  refine fun _=>⟨⟨⟨⟨rfl,.inl ⟨_,rfl,AA,congrArg _ (by rw[List.drop_zero,R,a6,hz])⟩,trivial⟩,trivial⟩,rfl,AZ⟩,rfl⟩
 refine .inr ?_;refine Ak ?_;rintro aP ⟨aE,f21⟩ aq Z;refine .inr ?_;cases aq <;> conv=>cbv
 ·have an:=ES Z;refine AP ?_;intro L a8;obtain⟨t,g⟩:=Cq (l:=u) (i:=L) AA;refine⟨t,fun _=>g,?_⟩;refine Ak ?_;intro ar v au A;have ae:=v.eq;have f31:=v.lt;have A:=wrap_u64 A;intro av B;conv=>cbv
  have B:=wrap_u64 B;intro aw C;conv=>cbv
  have C:=wrap_u64 C;intro ax D;conv=>cbv
  have D:=wrap_u64 D;intro V F;conv=>cbv
  have F:=wrap_u32 F;refine AP ?_;intro M aa;obtain⟨s,f⟩:=DF (n:=V) AA;have W:=f.eq;have X:=f.lt;refine⟨s,fun _=>⟨by show _<List.length (α:=UInt32) q;(first | omega | (simp;omega)),DE f⟩,?_⟩;intro (j:List UInt32) (d:j=List.set (α:=UInt32) q M s);have Y:j.length=q.length:=by rw[d,List.length_set]
  refine AP ?_;intro ay G;have G:=Fb (p:=4294967296) G rfl;intro r H;conv=>cbv
  have H:=wrap_u64 H;refine AP ?_;intro U ah;refine⟨l.length-(i'+1),?_,?_⟩
  ·omega
  rw[a5];have K:l[i']? =some t:=by rw[a7 _ AA,(AA:o+i'=L)];exact g
  refine⟨j,n,r.toNat,i'+1,r,U,rfl,rfl,⟨by rw[d,List.length_set];exact hq,by rw[d,List.length_set];exact hn,⟨AA⟩,AA,⟨AA⟩,AA⟩,?_,rfl⟩;have hs:=Mg (w:=s) (o:=q) (i:=i') (xi:=t.toNat) (yi:=0) (G8:=N) (G9:=r.toNat) AA hinv AA;rw[d,(AA:M=i'),DS K,<-hs,Ei (l:=m) (i:=i'+1) AA,Ei (l:=m) (i:=i') AA,Nat.mul_zero]
  rfl
 have an:=ET Z;refine BH i' fun az ad=>?_
 refine Ak ?_;intro aQ a1 aR a2;have aF:=a1.eq;have f26:=a1.lt;have a2:=wrap_u64 a2;refine AP ?_;intro L a8;obtain⟨t,g⟩:=Cq (l:=u) (i:=L) AA;refine⟨t,fun _=>g,?_⟩;refine Ak ?_;intro ar v au A;have ae:=v.eq;have f31:=v.lt;have A:=wrap_u64 A;intro av B;conv=>cbv
 have B:=wrap_u64 B;intro aw C;conv=>cbv
 have C:=wrap_u64 C;intro ax D;conv=>cbv
 have D:=wrap_u64 D;intro V F;conv=>cbv
 have F:=wrap_u32 F;refine AP ?_;intro M aa;obtain⟨s,f⟩:=DF (n:=V) AA;have W:=f.eq;have X:=f.lt;refine⟨s,fun _=>⟨by show _<List.length (α:=UInt32) q;(first | omega | (simp;omega)),DE f⟩,?_⟩;intro (j:List UInt32) (d:j=List.set (α:=UInt32) q M s);have Y:j.length=q.length:=by rw[d,List.length_set]
 refine AP ?_;intro ay G;have G:=Fb (p:=4294967296) G rfl;intro r H;conv=>cbv
 have H:=wrap_u64 H;refine AP ?_;intro U ah;refine⟨l.length-(i'+1),?_,?_⟩
 ·omega
 rw[a5];have K:l[i']? =some t:=by rw[a7 _ AA,(AA:o+i'=L)];exact g
 refine⟨j,n,r.toNat,i'+1,r,U,rfl,rfl,⟨by rw[d,List.length_set];exact hq,by rw[d,List.length_set];exact hn,⟨AA⟩,AA,⟨AA⟩,AA⟩,?_,rfl⟩;have hs:=Mg (w:=s) (o:=q) (i:=i') (xi:=t.toNat) (yi:=az.toNat) (G8:=N) (G9:=r.toNat) AA hinv AA;rw[d,(AA:M=i'),DS K,<-hs,DS ad]
theorem jE {s:Int} (aB:c<=u.length) (sl:u.length<=17592186044416) (hs:Ah s n) (hn:n<=31) (hz:z=BB (AJ (u.take c)/2^n)):CY Tryz.prog 276 [.one (.BK .u32 0 0 0 c),AD s] (.arr 0 .u32 u) (.one (.sl .u32 z)):=by
 have es:=hs.eq;obtain⟨l,hl⟩:=xU (u.take c);have aE:l.length=c:=by rw[hl,List.length_take];omega
 have K:∀i,i<c->l[i]? =u[i]? :=fun i h=>by rw[hl,List.getElem?_take,if_pos h]
 rw[<-hl] at hz;refine C5 Tryz.func276 fun E hE=>?_
 conv=>cbv
 intro n9 h9;have e9:=h9.eq;conv=>cbv
 refine⟨fun _=>⟨AA,AA,by show _*4<=140737488355328;omega⟩,?_⟩;intro N (O:List UInt32) J;have ar:=J.1;have w:O=List.replicate N (0:el .u32):=J.2;have an:O.length=N:=by rw[w,List.length_replicate]
 conv=>cbv
 refine Bc [] [0,1,5,6] [0,10] (fun vs bl k=>∃(o:List UInt32) (m i':Nat) (i:Int),vs=[.one (.BK .u32 0 0 0 c),AD s,.one (.BK .u32 10 0 0 m),AD i]/\bl=[.arr 0 .u32 u,.arr 0 .u32 o]/\(o.length=l.length/\m=o.length/\Ah i i'/\i'<=l.length)/\AJ (o.take i')=AJ l/2^n%2^(32*i')/\k=l.length-i') (l.length-0) ⟨O,N,0,0,rfl,rfl,⟨by rw[w,List.length_replicate];omega,by rw[w,List.length_replicate],BJ 0,AA⟩,by simp[AJ,Nat.mod_one],rfl⟩ ?_;rintro J0 a5 vs bl aF ⟨o,m,i',i,rfl,rfl,⟨ho,hm,hi,aC⟩,hinv,aD⟩;conv=>cbv
 have ei:=hi.eq;intro aG aa;have au:=aa.eq;conv=>cbv
 refine Bt (fun ag=>?_) fun ag=>?_
 ·have A:m<=(o).length:=AA
  obtain⟨ai,H⟩:=xN ((DB ((o).take m)).length);obtain⟨af,L⟩:=Fv A H;refine .inr (.inr (.inl ⟨[],.one (.BK .u32 0 0 0 ai),.arr 0 .u32 o,fun _=>⟨by first | decide | simp[DR,DQ],trivial⟩,fun _=>⟨FN hE (Hw A AA H),rfl,rfl⟩,?_⟩));try conv=>cbv
  have hk:i'=l.length:=AA
  have a6:AJ o=AJ l/2^n:=by rw[hk,<-ho,List.take_length,ho] at hinv;rw[hinv];exact Nat.mod_eq_of_lt (Nat.lt_of_le_of_lt (Nat.div_le_self _ _) (DZ l))
  refine fun _=>⟨⟨⟨⟨rfl,.inl ⟨_,rfl,AA,congrArg _ (by rw[List.drop_zero,L,hz,hm,List.take_length,a6])⟩,trivial⟩,trivial⟩,rfl,AZ⟩,rfl⟩
 refine .inr ?_;refine AP ?_;intro M ao;obtain⟨G,D⟩:=Cq (l:=u) (i:=M) AA;refine⟨G,fun _=>D,?_⟩;refine Ak ?_;intro aH W aI X;have av:=W.eq;have f20:=W.lt;have X:=wrap_u64 X;refine AP ?_;intro aJ az;intro aK ad;have aw:=ad.eq;refine Ak ?_;intro aj Y;refine .inr ?_;cases aj <;> conv=>cbv
 ·have ah:=ES Y;refine AP ?_;intro Q g;obtain⟨v,hv⟩:=xN G.toNat;obtain⟨al,B,g⟩:∃q:Nat,q=v/2^n/\Q=q:=⟨_,rfl,shr_var g AA AA (by show n<=64;omega)⟩
  rw[B] at g;intro R t;conv=>cbv
  have t:=wrap_u32 t;refine AP ?_;intro F a7;obtain⟨r,f⟩:=DF (n:=R) AA;have T:=f.eq;have U:=f.lt;refine⟨r,fun _=>⟨by show _<List.length (α:=UInt32) o;(first | omega | (simp;omega)),DE f⟩,?_⟩;intro (j:List UInt32) (d:j=List.set (α:=UInt32) o F r);have V:j.length=o.length:=by rw[d,List.length_set]
  refine AP ?_;intro P ab;refine⟨l.length-(i'+1),?_,?_⟩
  ·omega
  rw[a5];have ew:r.toNat=v/2^n%4294967296:=AA
  have C:l[i']? =some G:=by rw[K _ AA,(AA:i'=M)];exact D
  refine⟨j,m,i'+1,P,rfl,rfl,⟨by rw[d,List.length_set];exact ho,by rw[d,List.length_set];exact hm,⟨AA⟩,AA⟩,?_,rfl⟩;rw[d,(AA:F=i'),GQ AA,FW,List.length_take,Nat.min_eq_left AA,hinv,Rv,ew];rw[Nat.div_div_eq_div_mul,Nat.mul_comm (2^n),<-Nat.div_div_eq_div_mul,QF (by omega:i'<=l.length),Eu C,List.drop_eq_nil_of_le (by omega:l.length<=i'+1),hv,AJ,Nat.mul_zero,Nat.add_zero]
 have ah:=ET Y;refine AP ?_;intro aL aA a8 aq;obtain⟨S,I⟩:=Cq (l:=u) (i:=a8) AA;refine⟨S,fun _=>I,?_⟩;refine Ak ?_;intro aM Z aN a1;have ax:=Z.eq;have f32:=Z.lt;have a1:=wrap_u64 a1;refine AP ?_;intro aO a2;have a2:=Ll (p:=4294967296) a2 rfl;intro ak ae;conv=>cbv
 obtain⟨v,hv,ay⟩:∃v:Nat,v=G.toNat+4294967296*S.toNat/\ak=v:=⟨_,rfl,pk ae AA AA AA AA⟩
 refine AP ?_;intro Q g;obtain⟨al,B,g⟩:∃q:Nat,q=v/2^n/\Q=q:=⟨_,rfl,shr_var g AA AA (by show n<=64;omega)⟩
 rw[B] at g;intro R t;conv=>cbv
 have t:=wrap_u32 t;refine AP ?_;intro F a7;obtain⟨r,f⟩:=DF (n:=R) AA;have T:=f.eq;have U:=f.lt;refine⟨r,fun _=>⟨by show _<List.length (α:=UInt32) o;(first | omega | (simp;omega)),DE f⟩,?_⟩;intro (j:List UInt32) (d:j=List.set (α:=UInt32) o F r);have V:j.length=o.length:=by rw[d,List.length_set]
 refine AP ?_;intro P ab;refine⟨l.length-(i'+1),?_,?_⟩
 ·omega
 rw[a5];have ew:r.toNat=v/2^n%4294967296:=AA
 have C:l[i']? =some G:=by rw[K _ AA,(AA:i'=M)];exact D
 refine⟨j,m,i'+1,P,rfl,rfl,⟨by rw[d,List.length_set];exact ho,by rw[d,List.length_set];exact hm,⟨AA⟩,AA⟩,?_,rfl⟩;rw[d,(AA:F=i'),GQ AA,FW,List.length_take,Nat.min_eq_left AA,hinv,Rv,ew];rw[Nat.div_div_eq_div_mul,Nat.mul_comm (2^n),<-Nat.div_div_eq_div_mul,QF (by omega:i'<=l.length),Eu C,Eu (show l[i'+1]? =some S from (by rw[K _ AA,(AA:i'+1=a8)];exact I)),kI,hv]
end
section
theorem XV {l m z1 z2:List UInt32} {a b:Nat} (hl:l=BB a) (hm:m=BB b) (hb:0<b) (hz1:z1=BB (a/b)) (hz2:z2=BB (a%b)) (sl:l.length<=17592186043990):CF 214 [.one (.sl .u32 l),.one (.sl .u32 m)] (.BN [(false,[.sl .u32 z1]),(false,[.sl .u32 z2])]):=by
 refine Gc Tryz.func214 fun E hE=>?_
 conv=>cbv
 obtain⟨r22,hr22⟩:=xI (CR a b);refine Be hE (Na hl hm hr22) ?_;refine Ak ?_;intro n23 h23;cases n23 <;> conv=>cbv
 ·have k23:=ES h23;have hba:b<=a:=by rw[hr22] at k23;have:=KF k23;omega
  have hml:m.length<=l.length:=by rw[hl,hm];exact FG hba
  have hm0:m.length≠0:=fun e=>by have e2:=List.eq_nil_of_length_eq_zero e;rw[hm] at e2;have:=Fo.1 e2;omega
  refine Ak ?_;intro n26 h26 n27 h27;have e26:=h26.eq;have f26:=h26.le;cases n27 <;> conv=>cbv
  ·have k27:=OK h27;refine Ak ?_;intro n41 h41 n42 h42;have e41:=h41.eq;have f41:=h41.le;cases n42 <;> conv=>cbv
   ·have k42:=Bm h42;refine Ak ?_;intro n56 h56 n57 h57;have e56:=h56.eq;have f56:=h56.le;refine Dx ?_;obtain⟨r59,hr59⟩:∃n:Int,Ah n (EC b):=⟨_,⟨rfl⟩⟩
    have er59:=hr59.eq;refine Be hE (XX hm hr59 AA) ?_;conv=>cbv
    obtain⟨n,hn⟩:∃n,n=m.length:=⟨_,rfl⟩
    have hn2:2<=n:=AA
    obtain⟨xt,hxt⟩:=Cq (l:=m) (i:=n-1) AA;have hxtb:=hxt;rw[hm] at hxtb;have hxt1:n-1+1=(BB b).length:=by rw[<-hm];omega
    have hxt0:=Nr hxtb hxt1;have hsp:=Q8 (x:=xt.toNat) AA;have hbw:=TD hxtb hxt1 hsp.1 hsp.2.1 hsp.2.2;have h32:=aV (x:=xt.toNat) (by have:=xt.toNat_lt;omega);obtain⟨s,hs⟩:∃s,s=32-EC xt.toNat:=⟨_,rfl⟩
    intro n60 h60;conv=>cbv
    refine Dx ?_;have e60s:n60=(s:Int):=AA
    have hs60:Ah n60 s:=⟨e60s⟩;obtain⟨z63,hz631,hz632⟩:=Lc (N:=AJ l*2^s) (k:=l.length+1) (Rh l);obtain⟨zn63,hzn63⟩:∃k,k=z63.length:=⟨_,rfl⟩
    refine Be hE (Xb hs60 AA hz631 hz632 hzn63 AA) ?_;conv=>cbv
    obtain⟨z66,hz661,hz662⟩:=Lc (N:=AJ m*2^s) (k:=m.length+1) (Rh m);refine Be hE (ER (Xb hs60 AA hz661 hz662 rfl AA)) ?_;conv=>cbv
    obtain⟨w67,hw67⟩:=xU (BB (AJ m*2^s));refine Be hE (K5 hz662 hw67) ?_;conv=>cbv
    obtain⟨hwl,hwV⟩:=dr (b:=b) (n:=n) (s:=s) (x:=xt) (k:=EC xt.toNat) (by rw[<-hm,hn]) AA hxtb hsp.1 hsp.2.1 hsp.2.2 h32 hs;obtain⟨V,hVw⟩:∃V,V=AJ w67:=⟨_,rfl⟩
    have hV:V=b*2^s:=by rw[hVw,hw67,Bn,hm,Bn]
    have hyV:w67=BB V:=by rw[hV,hw67,hm,Bn]
    have hwn:w67.length=n:=by rw[hyV,hV];exact hwl
    rw[<-hV] at hwV;intro n69 h69;have e69:=h69.eq;have f69:=h69.le;conv=>cbv
    refine⟨fun _=>⟨AA,AA,by show _*4<=140737488355328;omega⟩,?_⟩;intro k70 (l70:List UInt32) ql70;have hk70:=ql70.1;have hl70:l70=List.replicate k70 (0:el .u32):=ql70.2;have gl70:l70.length=k70:=by rw[hl70,List.length_replicate]
    refine Ak ?_;intro n72 h72 n74 h74;have e72:=h72.eq;have f72:=h72.le;have e74:=h74.eq;have f74:=h74.le;obtain⟨A,hA⟩:∃A,A=AJ z63:=⟨_,rfl⟩
    have hVpos:0<V:=by rw[hV];exact Nat.mul_pos hb (Nat.two_pow_pos s)
    have hk70:k70=l.length:=AA
    have hk70n:n<=k70:=AA
    have hzl:zn63=l.length+1/\z63.length=l.length+1:=AA
    have hs31:s<=31:=AA
    have hstart:AJ (z63.drop (k70-n+1))<V:=ee hz632 hs31 hz631 AA AA hwV;intro n75 h75;conv=>cbv
    refine Dx ?_;refine Bc [] [10,11,12,13,14] [63,70] (fun vs bl k=>∃(u q:List UInt32) (j':Nat) (i:Int),vs=[AD n60,.one (.BK .u32 63 0 0 zn63),.one (.sl .u32 w67),.one (.BK .u32 70 0 0 k70),AD i]/\bl=[.arr 0 .u32 u,.arr 0 .u32 q]/\(u.length=z63.length/\q.length=k70/\Ah (i+1) j'/\j'+n<=k70+1)/\AJ (u.drop j')<V/\A=AJ u+2^(32*j')*AJ (q.drop j')*V/\k=j') (k70-n+1) ⟨z63,l70,k70-n+1,n75,rfl,rfl,⟨rfl,by rw[hl70,List.length_replicate],⟨AA⟩,AA⟩,hstart,by rw[hl70,List.drop_replicate,Jj];simp[hA],rfl⟩ ?_;rintro J0 hJ0 vs bl kk0 ⟨u,q,j',i,rfl,rfl,⟨hul,hql,hi,hjl⟩,hlt,hinv,hk0⟩;conv=>cbv
    clear hr22 h23 k23 hba hml h26 e26 f26 h27 k27 h41 e41 f41 h42 k42 h56 e56 f56 h57 hr59 er59 hn hxt hxtb hxt1 hxt0 hsp hbw h32 hs h60 hz631 hzn63 hz661 hz662 hwl hwV h69 e69 f69 hl70 gl70 h72 e72 f72 h74 e74 f74 hstart h75
    have ei:=hi.eq;refine MF ?_ ?_ <;> intro k77 <;> conv=>cbv
    ·have hnl123:k70<=(q).length:=AA
     obtain⟨m123,hm123⟩:=xN ((DB ((q).take k70)).length);obtain⟨hle123,htk123⟩:=Fv hnl123 hm123;refine .inr (.inr (.inl ⟨[],.one (.BK .u32 0 0 0 m123),.arr 0 .u32 q,fun _=>⟨by first | decide | simp[DR,DQ],trivial⟩,fun _=>⟨FN hE (Hw hnl123 AA hm123),rfl,rfl⟩,?_⟩));try conv=>cbv
     have hnl125:zn63<=u.length:=AA
     obtain⟨m125,hm125⟩:=xN ((DB (u.take zn63)).length);obtain⟨hle125,htk125⟩:=Fv hnl125 hm125;refine .inr (.inr (.inl ⟨[],.one (.BK .u32 0 0 0 m125),.arr 0 .u32 u,fun _=>⟨by first | decide | simp[DR,DQ],trivial⟩,fun _=>⟨FN hE (Hw hnl125 AA hm125),rfl,rfl⟩,?_⟩));try conv=>cbv
     obtain⟨w127,hw127⟩:=xU (BB (AJ (u.take m125)/2^s));refine .inr (.inr (.inr (.inl ⟨63,.arr 0 .u32 u,[.one (.BK .u32 0 0 0 m125),AD n60],.one (.sl .u32 w127),AQ,fun _=>Hq hE (jE AA AA hs60 AA hw127),?_⟩)));try conv=>cbv
     have hj0:j'=0:=AA
     rw[hj0,List.drop_zero] at hlt;have hinv2:A=AJ u+AJ q*V:=by rw[hj0] at hinv;simpa using hinv
     have hA2:A=a*2^s:=by rw[hA,hz632,hl,Bn]
     obtain⟨e1,e2⟩:=Yy hA2 hV hinv2 hlt hb;have hum:AJ (u.take m125)=AJ u:=by rw[htk125,Bn,List.take_of_length_le AA]
     exact AM ⟨⟨rfl,.inl ⟨_,rfl,AA,congrArg _ (by rw[List.drop_zero,htk123,<-hql,List.take_length,e1,hz1])⟩,trivial⟩,⟨rfl,congrArg _ (by rw[hz2,hw127,hum,e2]),trivial⟩,trivial⟩
    refine .inr ?_;obtain⟨i',rfl⟩:∃i',j'=i'+1:=⟨j'-1,AA⟩
    obtain⟨R,hRd⟩:∃R,R=AJ (u.drop i'):=⟨_,rfl⟩
    have hVlt:V<2^(32*n):=by have:=DZ w67;rw[<-hVw,hwn] at this;exact this
    have h0:AJ (u.drop (i'+n+1))=0:=by have:=UQ (l:=u.drop (i'+1)) (n:=n) AA (by rw[List.length_drop];omega);rwa [List.drop_drop,(AA:i'+1+n=i'+n+1)] at this
    have hRV:R<4294967296*V:=by obtain⟨xi,hxi⟩:=Cq (l:=u) (i:=i') AA;rw[hRd,Eu hxi];have:=xi.toNat_lt;omega
    refine Ak ?_;rintro n84 ⟨e84,f84⟩ n85 h85;refine Dx ?_;intro n86 h86;conv=>cbv
    refine Dx ?_;refine⟨fun _=>⟨AA,AA,AA⟩,?_⟩;rintro a87 b87 ⟨ha87,hb87⟩;conv=>cbv
    rintro o87 c87 ⟨ho87,hc87⟩;conv=>cbv
    have ho87b:o87=i':=AA
    have hc87b:c87=n+1:=AA
    have hseg:AJ ((u.drop o87).take c87)=R:=by rw[ho87b,hc87b,hRd];exact dQ AA h0
    obtain⟨r92,hr92⟩:∃n:Int,Ah n (R/V):=⟨_,⟨rfl⟩⟩
    have er92:=hr92.eq;have hqw:R/V<4294967296:=(Nat.div_lt_iff_lt_mul hVpos).2 hRV;obtain⟨Qd,hQd⟩:∃d,d=R/V:=⟨_,rfl⟩
    rw[<-hQd] at er92 hqw;obtain⟨w93,hw93⟩:=xU (BB (R/V*V));refine .inr (.inr (.inr (.inl ⟨63,.arr 0 .u32 u,[.one (.BK .u32 0 0 o87 c87),.one (.sl .u32 w67)],.BN [(false,[.int .u32 r92]),(false,[.sl .u32 w93])],AQ,fun _=>Hq hE (jG (n':=n-1) hseg AA AA hyV AA AA hRV hr92 hw93),?_⟩)));try conv=>cbv
    refine F7 ?_;intro j97 hj97;conv=>cbv
    obtain⟨w97,hw97⟩:=DF (n:=r92) AA;have ew97:=hw97.eq;have fw97:=hw97.lt;refine⟨w97,fun _=>⟨by show _<List.length (α:=UInt32) q;(first | omega | (simp;omega)),DE hw97⟩,?_⟩;intro (l97:List UInt32) (hl97:l97=List.set (α:=UInt32) q j97 w97);have gl97:l97.length=q.length:=by rw[hl97,List.length_set]
    conv=>cbv
    have hnl99:c87<=(u.drop o87).length:=by rw[List.length_drop];omega
    obtain⟨m99,hm99⟩:=xN ((DB ((u.drop o87).take c87)).length);obtain⟨hle99,htk99⟩:=Fv hnl99 hm99;refine .inr (.inr (.inl ⟨[],.one (.BK .u32 0 0 o87 m99),.arr 0 .u32 u,fun _=>⟨by first | decide | simp[DR,DQ],trivial⟩,fun _=>⟨FN hE (Xe AA AA hm99),rfl,rfl⟩,?_⟩));try conv=>cbv
    have hdm:=Nat.div_add_mod R V;have hmlt:=Nat.mod_lt R hVpos;have hsub:R-R/V*V=R%V:=by rw[Nat.mul_comm];omega
    obtain⟨w101,hw101⟩:=xU (BB (R%V));refine .inr (.inr (.inr (.inl ⟨63,.arr 0 .u32 u,[.one (.BK .u32 0 0 o87 m99),.one (.sl .u32 w93)],.one (.sl .u32 w101),AQ,fun _=>Hq hE (jU (a:=R) (b:=R/V*V) rfl AA (by rw[htk99,hseg]) hw93 (by rw[hw101,hsub]) (by rw[Nat.mul_comm];omega) AA),?_⟩)));try conv=>cbv
    refine Bc [] [10,11,12,13,14,15,18,19] [63,70] (fun vs bl k=>∃(z:List UInt32) (k':Nat) (j:Int),vs=[AD n60,.one (.BK .u32 63 0 0 zn63),.one (.sl .u32 w67),.one (.BK .u32 70 0 0 k70),AD i,.one (.BK .u32 63 0 o87 c87),.one (.sl .u32 w101),AD j]/\bl=[.arr 0 .u32 z,.arr 0 .u32 l97]/\(z.length=u.length/\z.take i'=u.take i'/\z.drop (i'+(n+1))=u.drop (i'+(n+1))/\Ah j k'/\k'<=n+1)/\AJ ((z.drop i').take k')=AJ (w101.take k')/\k=n+1-k') (n+1-0) ⟨u,0,0,rfl,rfl,⟨rfl,rfl,rfl,BJ 0,AA⟩,by simp[AJ],rfl⟩ ?_;rintro J1 hJ1 vs bl kk1 ⟨z,k',j,rfl,rfl,⟨hzl1,hzt,hzd,hj,hkl⟩,hzv,hk1⟩;conv=>cbv
    have ej:=hj.eq;intro n104 h104;have e104:=h104.eq;conv=>cbv
    refine N0 ?_ ?_ <;> intro k105 <;> conv=>cbv
    ·intro n79 h79;conv=>cbv
     refine Dx ?_;refine⟨i',?_,?_⟩
     ·omega
     rw[hJ0];have hk2:k'=n+1:=AA
     rw[hk2] at hzv;have hwl:w101.length<=n+1:=by rw[hw101];have:=FG (Nat.le_of_lt hmlt);rw[<-hyV] at this;omega
     rw[Ei (l:=w101) hwl,hw101,Bn] at hzv;have hwq:w97.toNat=R/V:=by rw[<-hQd];omega
     obtain⟨g1,g2⟩:=cO (u:=u) (z:=z) (A:=A) (V:=V) (i:=i') (n:=n) (Q:=AJ (q.drop (i'+1))) (q:=w97.toNat) hzl1 hzt hzd AA h0 (by rw[hwq,hRd]) (by rw[hzv,hRd]) hinv;refine⟨z,l97,i',n79,rfl,rfl,⟨AA,AA,⟨AA⟩,AA⟩,?_,?_,rfl⟩
     ·rw[g1];exact Nat.mod_lt _ hVpos
     rw[hl97,(AA:j97=i'),Eu (l:=q.set i' w97) (i:=i') (x:=w97) (by rw[List.getElem?_set_self AA]),List.drop_set_of_lt AA];exact g2
    refine .inr ?_;refine F7 ?_;intro j110 hj110;conv=>cbv
    obtain⟨w110,hw110⟩:=DF (n:=0) AA;have ew110:=hw110.eq;have fw110:=hw110.lt;refine⟨w110,fun _=>⟨by show _<List.length (α:=UInt32) z;(first | omega | (simp;omega)),DE hw110⟩,?_⟩;intro (l110:List UInt32) (hl110:l110=List.set (α:=UInt32) z j110 w110);have gl110:l110.length=z.length:=by rw[hl110,List.length_set]
    refine Ak ?_;rintro n113 ⟨e113,f113⟩ n114 h114;refine .inr ?_;cases n114 <;> conv=>cbv
    ·have k114:=ES h114;intro n107 h107;conv=>cbv
     refine Dx ?_;refine⟨n+1-(k'+1),?_,?_⟩
     ·omega
     rw[hJ1];refine⟨l110,k'+1,n107,rfl,rfl,⟨AA,?_,?_,⟨AA⟩,AA⟩,?_,rfl⟩
     ·rw[hl110,(AA:j110=i'+k')];rw[JC];exact hzt
     ·rw[hl110,(AA:j110=i'+k'),List.drop_set_of_lt AA];exact hzd
     rw[hl110,(AA:j110=i'+k'),dT AA,FW,List.length_take,List.length_drop,Nat.min_eq_left AA,hzv,Ei (l:=w101) (i:=k'+1) AA,Ei (l:=w101) (i:=k') AA,(AA:w110.toNat=0),Nat.mul_zero,Nat.add_zero]
    have k114:=ET h114;refine BH k' fun x119 hx119=>?_
    refine Ak ?_;intro n120 h120;have e120:=h120.eq;have f120:=h120.lt;refine F7 ?_;intro j121 hj121;conv=>cbv
    obtain⟨w121,hw121⟩:=DF (n:=n120) AA;have ew121:=hw121.eq;have fw121:=hw121.lt;refine⟨w121,fun _=>⟨by show _<List.length (α:=UInt32) l110;(first | omega | (simp;omega)),DE hw121⟩,?_⟩;intro (l121:List UInt32) (hl121:l121=List.set (α:=UInt32) l110 j121 w121);have gl121:l121.length=l110.length:=by rw[hl121,List.length_set]
    refine Ak ?_;intro n107 h107;refine Dx ?_;refine⟨n+1-(k'+1),?_,?_⟩
    ·omega
    rw[hJ1];refine⟨l121,k'+1,n107,rfl,rfl,⟨AA,?_,?_,⟨AA⟩,AA⟩,?_,rfl⟩
    ·rw[hl121,hl110,(AA:j121=j110),List.set_set,(AA:j110=i'+k')];rw[JC];exact hzt
    ·rw[hl121,hl110,(AA:j121=j110),List.set_set,(AA:j110=i'+k'),List.drop_set_of_lt AA];exact hzd
    rw[hl121,hl110,(AA:j121=j110),List.set_set,(AA:j110=i'+k'),dT AA,FW,List.length_take,List.length_drop,Nat.min_eq_left AA,hzv,DS hx119,(AA:w121.toNat=x119.toNat)]
   have k42:=Bp h42;refine BH 0 fun x46 hx46=>?_
   refine Ak ?_;intro n47 h47;have e47:=h47.eq;have f47:=h47.lt;have hb46:b=x46.toNat:=by have:=DS hx46;rw[(AA:0+1=m.length),List.take_length,hm,Bn] at this;simpa [AJ] using this
   obtain⟨w48,hw48⟩:=xU (BB (AJ l/b));obtain⟨r48,hr48⟩:∃n:Int,Ah n (AJ l%b):=⟨_,⟨rfl⟩⟩
   have er48:=hr48.eq;have hrb:=Nat.mod_lt (AJ l) hb;refine Be hE (XU (d:=n47) (b:=b) (Ah.of AA) hb AA hw48 hr48 AA) ?_;refine Ak ?_;intro DY h53;have h53:=wrap_u64 h53;obtain⟨w54,hw54⟩:=xU (BB (AJ l%b));refine Be (r:= .one (.sl .u32 w54)) hE (Nb (Ah.of (k:=AJ l%b) (by generalize AJ l%b=Q at *;omega)) (by generalize AJ l%b=Q at *;omega) hw54) ?_;try conv=>cbv
   exact AM ⟨⟨rfl,congrArg _ (by rw[hz1,hw48,hl,Bn]),trivial⟩,⟨rfl,congrArg _ (by rw[hz2,hw54,hl,Bn]),trivial⟩,trivial⟩
  have k27:=OL h27;obtain⟨r29,hr29⟩:∃n:Int,Ah n (a):=⟨_,⟨rfl⟩⟩
  have er29:=hr29.eq;refine Be (r:= .one (.int .u64 r29)) hE (Xc AA (by rw[hl,Bn];exact hr29)) ?_;try conv=>cbv
  obtain⟨r31,hr31⟩:∃n:Int,Ah n (b):=⟨_,⟨rfl⟩⟩
  have er31:=hr31.eq;refine Be (r:= .one (.int .u64 r31)) hE (Xc AA (by rw[hm,Bn];exact hr31)) ?_;try conv=>cbv
  have ha64:a<18446744073709551616:=by have:=DZ l;rw[hl,Bn] at this;exact Nat.lt_of_lt_of_le this (Nat.pow_le_pow_right AF (by rw[<-hl];omega:32*(BB a).length<=64))
  intro n34 h34;conv=>cbv
  refine F7 ?_;have h34:=wrap_u64 h34;have bq:=Nat.div_le_self a b;have h34:n34=((a/b:Nat):Int):=by rw[h34,er29,er31,<-Int.natCast_ediv];generalize a/b=Q at *;omega
  obtain⟨w35,hw35⟩:=xU (BB (a/b));refine Be (r:= .one (.sl .u32 w35)) hE (Nb (Ah.of (k:=a/b) h34) (by generalize a/b=Q at *;omega) hw35) ?_;refine Ak ?_;intro n38 h38;refine F7 ?_;have br:=Nat.mod_lt a hb;have h38:n38=((a%b:Nat):Int):=by rw[h38,er29,er31];exact (Int.natCast_emod _ _).symm
  obtain⟨w39,hw39⟩:=xU (BB (a%b));refine Be (r:= .one (.sl .u32 w39)) hE (Nb (Ah.of (k:=a%b) h38) (by generalize a%b=Q at *;omega) hw39) ?_;try conv=>cbv
  refine g2 rfl ?_;exact AM ⟨⟨rfl,congrArg _ (by rw[hz1,hw35]),trivial⟩,⟨rfl,congrArg _ (by rw[hz2,hw39]),trivial⟩,trivial⟩
 have k23:=ET h23;have hlt:a<b:=by rw[hr22] at k23;have:=KG k23;omega
 exact AM ⟨⟨rfl,.inr (.inl ⟨_,congrArg _ (by rw[hz1,Nat.div_eq_of_lt hlt];rfl)⟩),trivial⟩,⟨rfl,congrArg _ (by rw[hz2,Nat.mod_eq_of_lt hlt,hl]),trivial⟩,trivial⟩
end
section
variable {b b1 b2 b3:Bool} {l l1 l2 l3:List UInt32} {q x y:Int}
theorem sk (d:y≠0) (h:x=q*y):q=if (decide (x<0) !=decide (y<0))=true then -((x.natAbs/y.natAbs:Nat):Int) else ((x.natAbs/y.natAbs:Nat):Int):=by
 have g:x.natAbs/y.natAbs=q.natAbs:=by rw[h,Int.natAbs_mul,Nat.mul_div_cancel _ AA]
 rw[g];rcases Int.lt_trichotomy q 0 with f | f | f
 ·rcases Int.lt_or_gt_of_ne d with d | d
  ·have:=Int.mul_pos_of_neg_of_neg f d;rw[decide_eq_false (by omega:¬x<0),decide_eq_true d];simp;omega
  have:=Int.mul_neg_of_neg_of_pos f d;rw[decide_eq_true (by omega:x<0),decide_eq_false (by omega:¬y<0)];simp;omega
 ·subst f
  split <;> simp
 rcases Int.lt_or_gt_of_ne d with d | d
 ·have:=Int.mul_neg_of_pos_of_neg f d;rw[decide_eq_true (by omega:x<0),decide_eq_true d];simp;omega
 have:=Int.mul_pos f d;rw[decide_eq_false (by omega:¬x<0),decide_eq_false (by omega:¬y<0)];simp;omega
theorem iO (k:BR x b1 l1) (p:BR y b2 l2) (w:y≠0) (j:x=q*y) (I:BR q b3 l3) (s1:l1.length<=17592186043000) (s2:l2.length<=17592186043000):CF 297 [.agg (B8 b1 l1),.agg (B8 b2 l2)] (.BN [(true,(B8 b3 l3)),(true,[.bool false,.sl .u32 []]),(false,[.int .i64 0])]):=by
 refine AN Tryz.func297 fun E h=>?_
 refine AB h (JL k) ?_;refine AB h (JL p) ?_;rintro O ⟨N,f17⟩;refine BV (fun J=>?_) fun J=>?_
 ·exact absurd (p.Gf.1 AA) w
 obtain⟨S,i⟩:=xU (BB (x.natAbs/y.natAbs));obtain⟨R,v⟩:=xU (BB (x.natAbs%y.natAbs));refine AB h (XV k.B9 p.B9 AA i v AA) ?_;intro P G;refine AB (r:= .agg [.bool b3,.sl .u32 l3]) h (IH (by rw[i,Bn,G,k.neg,p.neg];exact sk w j) I) ?_;obtain⟨B,D,g⟩:=BQ (x);refine AB (r:= .agg [.bool B,.sl .u32 D]) h (Es I p (j ▸ g) (by rw[I.B9];have:=FG (show q.natAbs<=x.natAbs by rw[j,Int.natAbs_mul];exact Nat.le_mul_of_pos_right _ AA);rw[<-k.B9] at this;omega) AA) ?_;obtain⟨C,F,d⟩:=BQ (0);refine AB (r:= .agg [.bool C,.sl .u32 F]) h (XM k g (by rw[Int.sub_self];exact d) AA (by rw[g.B9,<-k.B9];omega)) ?_;obtain⟨L,f⟩:=xI (DM (0:Int));refine AB h (Kz d f) ?_;obtain⟨M,t⟩:=xI (DM y);refine AB h (Kz p t) ?_
 have em:L*M=0:=by rw[f,show DM (0:Int)=0 from rfl,Int.zero_mul]
 refine AP ?_;intro Q H K s;refine .inr ?_;cases K <;> conv=>cbv
 ·have A:=ES s;refine g2 rfl ?_;exact AM ⟨t3,⟨rfl,congrArg _ ((d.neg.trans rfl).symm),congrArg _ ((d.B9.trans rfl).symm),trivial⟩,t2,trivial⟩
 have A:=ET s;exact absurd A (by rw[H,f];show ¬_*_<0;rw[show DM (0:Int)=0 from rfl,Int.zero_mul];decide)
theorem IF (w:BR x b1 l1) (C:BR y b2 l2) (K:BR ((Nat.gcd x.natAbs y.natAbs:Nat):Int) b3 l3) (s1:l1.length<=17592186043000) (s2:l2.length<=17592186043000):CF 145 [.agg (B8 b1 l1),.agg (B8 b2 l2)] (.agg (B8 b3 l3)):=by
 refine AN Tryz.func145 fun E j=>?_
 refine AB j (K5 w.nat w.B9) ?_;refine AB j (K5 C.nat C.B9) ?_;refine Bc [] [4,5,6] [4] (fun vs G k=>∃(u v:List UInt32) (A B:Nat),vs=[.one (.BX 4 0 0),.one (.sl .u32 u),.one (.sl .u32 v)]/\G=[.var 0 [.bool false,.nil]]/\(u=BB A/\v=BB B/\Nat.gcd A B=Nat.gcd x.natAbs y.natAbs/\u.length<=17592186043000/\v.length<=17592186043000)/\k=B) y.natAbs ⟨l1,l2,x.natAbs,y.natAbs,rfl,rfl,⟨w.B9,C.B9,rfl,s1,s2⟩,rfl⟩ ?_;rintro O p vs G L ⟨u,v,A,B,rfl,rfl,⟨hu,g,H,J,t⟩,s⟩;refine Ak ?_;rintro M ⟨I,f16⟩;refine Fw (fun D=>?_) fun D=>?_
 ·have h:B=0:=Fo.1 (by rw[<-g];exact List.eq_nil_of_length_eq_zero AA);refine AB (r:= .agg [.bool b3,.sl .u32 l3]) j (IH (n:=false) (by rw[hu,Bn,<-H,h,Nat.gcd_zero_right];rfl) K) ?_;exact AM ⟨t3,trivial⟩
 refine .inr ?_;have f:0<B:=by apply Nat.pos_of_ne_zero;intro e;rw[e,HH] at g;rw[g] at *;simp at *;omega
 obtain⟨N,i⟩:=xU (BB (A/B));obtain⟨F,d⟩:=xU (BB (A%B));refine AB j (XV hu g f i d AA) ?_;refine⟨A%B,?_,?_⟩
 ·rw[s];exact Nat.mod_lt _ f
 rw[p];exact⟨v,F,B,A%B,rfl,rfl,⟨g,d,by rw[<-H,Nat.gcd_comm B,<-Nat.gcd_rec,Nat.gcd_comm],t,by have:=FG (Nat.le_of_lt (Nat.mod_lt A f));rw[<-d,<-g] at this;omega⟩,rfl⟩
theorem iL {c:Int} (d:BR x b l) (g:Ah c (EC x.natAbs)) (sl:l.length<=17592186043000):CF 360 [.agg (B8 b l)] (AD c):=by
 refine AN Tryz.func360 fun E f=>?_
 refine AB f (K5 d.nat d.B9) ?_;refine AB f (XX d.B9 g AA) ?_;exact AM ⟨t2,trivial⟩
theorem XR (f:BR x b l):CF 142 [.agg (B8 b l)] (.one (.bool true)):=by
 refine AN Tryz.func142 fun E r=>?_
 refine AB r (K5 f.nat f.B9) ?_;rintro C ⟨w,f6⟩ D ⟨A,f9⟩;refine CU (fun h=>?_) fun h=>?_
 ·exfalso;omega
 intro j d;cases j <;> conv=>cbv
 ·have i:=HN d;refine AP ?_;rintro t ⟨p,f18⟩ v g;exact AO (by have hb:b=true:=(by cases b with | false=>cases d | true=>rfl);have k:=f.neg;rw[hb] at k;have s:x<0:=of_decide_eq_true k.symm;have B:l.length≠0:=(fun e=>by have:=f.Gf.1 e;omega);rw[g,decide_eq_true AA])
 have i:=HO d;refine g2 rfl ?_;exact AM ⟨t2,trivial⟩
end
end Go.Abs
