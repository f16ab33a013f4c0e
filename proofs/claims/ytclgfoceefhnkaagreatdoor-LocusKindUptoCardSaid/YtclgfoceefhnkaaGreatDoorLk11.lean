/- Part 12 of a proof. Conditions: each theorem's own. -/
import Derived.Test.YtclgfoceefhnkaaGreatDoorLk10
set_option linter.all false
set_option maxHeartbeats 80000000
set_option maxRecDepth 20000
namespace Go.Abs
variable {A R V b i n q s:Nat} {u:List UInt32}
theorem gO {D M:Nat} (f:Jk R V D) (g:0<V) (hR:R<M) (c:V<=M):∃(b:Bool) (S:Nat),S+V*D=R+M*b.toNat/\S<M:=by
 have j:=Nat.div_add_mod R V;have a:V*D<=V*(R/V+1):=Nat.mul_le_mul_left _ f.low;rw[Nat.mul_add] at a
 by_cases h:V*D<=R
 ·exact⟨false,R-V*D,by simp;omega,by omega⟩
 refine⟨true,R+M-V*D,?_,by omega⟩;simp
 generalize V*(R/V)=T at*
 omega
theorem gb {x y w:UInt32} (a:u[i+n]? =some x) (h:u[i+n-1]? =some y) (hw:u[i+n-2]? =some w) (m:2<=n) (f:AE (u.drop (i+n+1))=0):
  AE (u.drop i)=(4294967296*(y.toNat+4294967296*x.toNat)+w.toNat)*2^(32*(n-2))+AE ((u.drop i).take (n-2)):=by
 have g:i+n<u.length:=by
  apply Classical.byContradiction;intro j;rw[List.getElem?_eq_none (by omega)] at a;exact absurd a (by simp)
 have c:=E8 (u.drop i) (n-2) (by rw[List.length_drop];omega);rw[List.drop_drop,show i+(n-2)=i+n-2 by omega,DH hw,show i+n-2+1=i+n-1 by omega,DH h,show i+n-1+1=i+n by omega,DH a,f] at c;rw[c]
 generalize 2^(32*(n-2))=P
 grind
theorem ga {v:List UInt32} {y w:UInt32} (hlen:v.length=n) (f:v[n-1]? =some y) (hw:v[n-2]? =some w) (g:2<=n):
  AE v=(4294967296*y.toNat+w.toNat)*2^(32*(n-2))+AE (v.take (n-2))/\AE v=y.toNat*2^(32*(n-1))+AE (v.take (n-1)):=by
 have a:=E8 v (n-2) (by omega);rw[DH hw,show n-2+1=n-1 by omega,DH f,show n-1+1=n by omega,List.drop_eq_nil_of_le (by omega)] at a;have c:=E8 v (n-1) (by omega);rw[DH f,show n-1+1=n by omega,List.drop_eq_nil_of_le (by omega)] at c
 constructor
 ·rw[a];simp only[AE];generalize 2^(32*(n-2))=P;grind
 rw[c];simp only[AE];generalize 2^(32*(n-1))=P;grind
theorem JX {l:List UInt32}:AE (l.take n)<2^(32*n):=
 Nat.lt_of_lt_of_le (CI _) (Nat.pow_le_pow_right (by decide) (by rw[List.length_take];omega))
theorem OX {l:List UInt32} (h:AE l<2^(32*n)) (a:n<=l.length):AE (l.drop n)=0:=by
 have c:=E8 l n a;apply Classical.byContradiction;intro f;have:2^(32*n)*1<=2^(32*n)*AE (l.drop n):=Nat.mul_le_mul_left _ (by omega);omega
theorem Vt {z:List UInt32} {Q:Nat} (w:z.length=u.length) (a:z.take i=u.take i) (c:z.drop (i+(n+1))=u.drop (i+(n+1))) (hlen:i+(n+1)<=u.length) (j:AE (u.drop (i+n+1))=0)
  (v:q=AE (u.drop i)/V) (r:AE ((z.drop i).take (n+1))=AE (u.drop i)%V) (o:A=AE u+2^(32*(i+1))*Q*V):
  AE (z.drop i)=AE (u.drop i)%V/\A=AE z+2^(32*i)*(q+4294967296*Q)*V:=by
 have f:AE (z.drop i)=AE (u.drop i)%V:=by
  have:=E8 (z.drop i) (n+1) (by rw[List.length_drop];omega);rw[List.drop_drop,c,show i+(n+1)=i+n+1 by omega,j,r] at this;simpa using this
 refine⟨f,?_⟩;have m:=E8 u i (by omega);have g:=E8 z i (by omega);rw[a,f] at g;have h:=Nat.div_add_mod (AE (u.drop i)) V;rw[<-v] at h;rw[o,m,g,Dg,<-h]
 generalize 2^(32*i)=P
 grind
theorem WC (h:i+n<=u.length) (a:AE (u.drop (i+n))=0):AE ((u.drop i).take n)=AE (u.drop i):=by
 have:=E8 (u.drop i) n (by rw[List.length_drop];omega);rw[List.drop_drop,a] at this;simpa using this.symm
theorem KC {x:UInt32} (m:(AS b)[i]? =some x) (a:i+1=(AS b).length):x.toNat≠0:=by
 intro c;have j:b≠0:=fun e=>by subst e;simp[E5] at a
 have f:=UW j;have g:=CB m;rw[a,List.take_length,Aw,c] at g;have h:=CI ((AS b).take i);rw[List.length_take,Nat.min_eq_left (by omega)] at h;rw[<-a,Nat.add_sub_cancel] at f;omega
theorem WT {k:Nat} {x:UInt32} (c:(AS b).length=n) (h:1<=n) (w:(AS b)[n-1]? =some x) (g:2^(k-1)<=x.toNat) (j:x.toNat<2^k) (I:1<=k) (r:k<=32) (J:s=32-k):
  (AS (b*2^s)).length=n/\2147483648*2^(32*(n-1))<=b*2^s:=by
 have e1:2^(k-1)*2^s=2147483648:=by rw[<-Nat.pow_add,show k-1+s=31 by omega]
 have f:2^k*2^s=4294967296:=by rw[<-Nat.pow_add,show k+s=32 by omega]
 have a:=CB w;rw[show n-1+1=n by omega,<-c,List.take_length,Aw,c] at a;have m:=CI ((AS b).take (n-1));rw[List.length_take,Nat.min_eq_left (by omega)] at m;have v:2^(32*n)=4294967296*2^(32*(n-1)):=by rw[<-Dg,show n-1+1=n by omega]
 generalize o:2^(32*(n-1))=P at*
 have low:2147483648*P<=b*2^s:=by
  rw[<-e1,a];have:2^(k-1)*2^s*P<=x.toNat*2^s*P:=Nat.mul_le_mul_right _ (Nat.mul_le_mul_right _ g);have:(AE (List.take (n-1) (AS b))+P*x.toNat)*2^s=AE (List.take (n-1) (AS b))*2^s+x.toNat*2^s*P:=by grind
  omega
 refine⟨?_,low⟩
 have up:b*2^s<2^(32*n):=by
  rw[v,<-f];have B:b<(x.toNat+1)*P:=by rw[a,Nat.add_mul,Nat.mul_comm P];omega
  have D:(x.toNat+1)*P<=2^k*P:=Nat.mul_le_mul_right _ j;have F:b*2^s<2^k*P*2^s:=(Nat.mul_lt_mul_right (Nat.two_pow_pos s)).2 (by omega);have:2^k*2^s*P=2^k*P*2^s:=by grind
  omega
 have G:=Ep up;have H:=UO (n:=b*2^s) (k:=n-1) (by rw[o];omega);omega
theorem Mx (l:List UInt32) (h:s<=31:=by omega):AE l*2^s<2^(32*(l.length+1)):=by
 rw[Dg,Nat.mul_comm 4294967296];exact Nat.mul_lt_mul_of_lt_of_le (CI l) (Nat.le_trans (Nat.pow_le_pow_right (by decide) h:2^s<=2^31) (by decide)) (by decide)
theorem bR {a rest:Nat} (h:2147483648*2^(32*(n-1))<=V) (c:V=a*2^(32*(n-1))+rest) (g:rest<2^(32*(n-1))):2147483648<=a:=by
 generalize 2^(32*(n-1))=P at*
 apply Classical.byContradiction;intro f;have:(a+1)*P<=2147483648*P:=Nat.mul_le_mul_right _ (by omega);rw[Nat.add_mul] at this;omega
theorem Wt {l:List UInt32} {m:Nat} (hu:AE u=AE l*2^s) (j:s<=31) (hlen:u.length=l.length+1) (hm:m+n=l.length+1) (B:1<=n) (v:2147483648*2^(32*(n-1))<=V):AE (u.drop m)<V:=by
 have a:=E8 u m (by omega);have c:=CI l;have f:2^(32*l.length)=2^(32*m)*2^(32*(n-1)):=by rw[<-Nat.pow_add,show 32*m+32*(n-1)=32*l.length by omega]
 have g:2^s<=2147483648:=Nat.le_trans (Nat.pow_le_pow_right (by decide) j:2^s<=2^31) (by decide);have h:AE l*2^s<2^(32*l.length)*2147483648:=Nat.mul_lt_mul_of_lt_of_le c g (by decide);rw[hu,] at a;rw[f] at h;have D:=Nat.two_pow_pos (32*m)
 generalize 2^(32*m)=P at*
 generalize 2^(32*(n-1))=N at*
 apply Classical.byContradiction;intro w;have o:P*(2147483648*N)<=P*AE (u.drop m):=Nat.mul_le_mul_left _ (by omega);have r:P*N*2147483648=P*(2147483648*N):=by grind
 omega
theorem gd {x y:UInt32} (a:u[i+n]? =some x) (h:u[i+n-1]? =some y) (m:1<=n) (f:AE (u.drop (i+n+1))=0):
  AE (u.drop i)=(y.toNat+4294967296*x.toNat)*2^(32*(n-1))+AE ((u.drop i).take (n-1)):=by
 have g:i+n<u.length:=by
  apply Classical.byContradiction;intro j;rw[List.getElem?_eq_none (by omega)] at a;exact absurd a (by simp)
 have c:=E8 (u.drop i) (n-1) (by rw[List.length_drop];omega);rw[List.drop_drop,show i+(n-1)=i+n-1 by omega,DH h,show i+n-1+1=i+n by omega,DH a,f] at c;rw[c]
 generalize 2^(32*(n-1))=P
 grind
theorem gZ {top high P c a:Nat} (hR:R=top*P+c) (m:V=high*P+a) (f:a<P) (h:R<4294967296*V):top<4294967296*(high+1):=by
 apply Classical.byContradiction;intro o;have g:4294967296*(high+1)*P<=top*P:=Nat.mul_le_mul_right _ (by omega);have j:4294967296*(high+1)*P=4294967296*(high*P)+4294967296*P:=by grind
 omega
theorem S5 {a r:Nat} (g:A=a*2^s) (j:V=b*2^s) (h:A=r+q*V) (G:r<V) (B:0<b):q=a/b/\r/2^s=a%b:=by
 have m:=Nat.two_pow_pos s;have D:=Nat.div_add_mod a b;have F:=Nat.mod_lt a B
 have e:a*2^s=(a%b)*2^s+(a/b)*V:=by rw[j];conv=>lhs;rw[<-D]
                                    grind
 have f:(a%b)*2^s<V:=by rw[j];exact (Nat.mul_lt_mul_right m).2 F
 have c:0<V:=by omega
 have o:q=a/b:=by
  have v:A/V=q:=by rw[h,Nat.add_mul_div_right _ _ c,Nat.div_eq_of_lt G,Nat.zero_add]
  have w:A/V=a/b:=by rw[g,e,Nat.add_mul_div_right _ _ c,Nat.div_eq_of_lt f,Nat.zero_add]
  rw[<-v,w]
 refine⟨o,?_⟩;have:r=(a%b)*2^s:=by rw[g,e,o] at h;omega
 rw[this,Nat.mul_div_cancel _ m]
end Go.Abs
namespace Go.Abs
def B9 (x y:Int):Int:=if 0<=y then x/y else (-x)/(-y)
variable {N X:Nat} {b:Bool} {x y:Int}
theorem Ip {a b q r:Int} (g:0<b) (h:a=b*q+r) (c:0<=r) (f:r<b):a/b=q:=((Int.ediv_emod_unique g).2 ⟨by omega,c,f⟩).1
theorem Sy (j:y≠0) (c:decide (x<0)=decide (y<0)):B9 x y=((x.natAbs/y.natAbs:Nat):Int):=by
 have f:=Nat.div_add_mod x.natAbs y.natAbs;have hm:=Nat.mod_lt x.natAbs (by omega:0<y.natAbs)
 generalize x.natAbs/y.natAbs=q at*
 generalize x.natAbs%y.natAbs=r at*
 have a:(y.natAbs:Int)*q+r=x.natAbs:=by rw[<-f];simp
 unfold B9
 by_cases h:0<=y
 ·rw[if_pos h]
  have:¬x<0:=by intro g;have:y<0:=by simpa [g] using c
                omega
  rw[show (y.natAbs:Int)=y by omega,show (x.natAbs:Int)=x by omega] at a;exact Ip (r:=r) (by omega) a.symm (by omega) (by omega)
 rw[if_neg h]
 have:x<0:=by have:y<0:=by omega
              simpa [this] using c
 rw[show (y.natAbs:Int)= -y by omega,show (x.natAbs:Int)= -x by omega] at a;exact Ip (r:=r) (by omega) a.symm (by omega) (by omega)
theorem Sv (m:y≠0) (g:decide (x<0)≠decide (y<0)) (j:x.natAbs%y.natAbs=0):B9 x y= -((x.natAbs/y.natAbs:Nat):Int):=by
 have f:=Nat.div_add_mod x.natAbs y.natAbs;rw[j] at f
 generalize x.natAbs/y.natAbs=q at*
 have a:(y.natAbs:Int)*q=x.natAbs:=by rw[<-f];simp
 unfold B9
 by_cases h:0<=y
 ·rw[if_pos h]
  have c:x<0:=by
   apply Classical.byContradiction;intro c;exact g (by rw[decide_eq_false c,decide_eq_false (by omega)])
  rw[show (y.natAbs:Int)=y by omega,show (x.natAbs:Int)= -x by omega] at a;exact Ip (r:=0) (by omega) (by rw[Int.mul_neg,a];omega) (by omega) (by omega)
 rw[if_neg h]
 have c:¬x<0:=by
  intro c;exact g (by rw[decide_eq_true c,decide_eq_true (by omega)])
 rw[show (y.natAbs:Int)= -y by omega,show (x.natAbs:Int)=x by omega] at a;exact Ip (r:=0) (by omega) (by rw[Int.mul_neg,a];omega) (by omega) (by omega)
theorem Sw (m:y≠0) (f:decide (x<0)≠decide (y<0)) (j:x.natAbs%y.natAbs≠0):B9 x y= -((x.natAbs/y.natAbs+1:Nat):Int):=by
 have g:=Nat.div_add_mod x.natAbs y.natAbs;have hm:=Nat.mod_lt x.natAbs (by omega:0<y.natAbs)
 generalize x.natAbs/y.natAbs=q at*
 generalize x.natAbs%y.natAbs=r at*
 have a:(y.natAbs:Int)*q+r=x.natAbs:=by rw[<-g];simp
 unfold B9
 by_cases h:0<=y
 ·rw[if_pos h]
  have c:x<0:=by
   apply Classical.byContradiction;intro c;exact f (by rw[decide_eq_false c,decide_eq_false (by omega)])
  rw[show (y.natAbs:Int)=y by omega,show (x.natAbs:Int)= -x by omega] at a;refine Ip (r:=y-r) (by omega) ?_ (by omega) (by omega);rw[Int.natCast_add,Int.mul_neg,Int.mul_add];omega
 rw[if_neg h]
 have c:¬x<0:=by
  intro c;exact f (by rw[decide_eq_true c,decide_eq_true (by omega)])
 rw[show (y.natAbs:Int)= -y by omega,show (x.natAbs:Int)=x by omega] at a;refine Ip (r:= -y-r) (by omega) ?_ (by omega) (by omega);rw[Int.natCast_add,Int.mul_neg,Int.mul_add];omega
def F6 (x y:Int):Int:=x-y*B9 x y
theorem Ov:(y.natAbs:Int)*((x.natAbs/y.natAbs:Nat):Int)+((x.natAbs%y.natAbs:Nat):Int)=x.natAbs:=by
 rw[<-Int.natCast_mul,<-Int.natCast_add,Nat.div_add_mod]
theorem ch (f:b=decide (y<0)) (j:y≠0) (a:decide (x<0)=decide (y<0)):F6 x y=if b=true then -((x.natAbs%y.natAbs:Nat):Int) else ((x.natAbs%y.natAbs:Nat):Int):=by
 have g:= @Ov x y;unfold F6;rw[Sy j a]
 generalize x.natAbs/y.natAbs=q at*
 generalize x.natAbs%y.natAbs=r at*
 by_cases h:y<0
 ·have c:x<0:=by simpa [h] using a
  rw[f,decide_eq_true h,if_pos rfl];rw[show (y.natAbs:Int)= -y by omega,show (x.natAbs:Int)= -x by omega,Int.neg_mul] at g;omega
 have c:¬x<0:=by intro c;simp[c,h] at a
 rw[f,decide_eq_false h,if_neg (by simp)];rw[show (y.natAbs:Int)=y by omega,show (x.natAbs:Int)=x by omega] at g;omega
theorem cd (j:y≠0) (f:decide (x<0)≠decide (y<0)) (g:x.natAbs%y.natAbs=0):F6 x y=if b=true then -((x.natAbs%y.natAbs:Nat):Int) else ((x.natAbs%y.natAbs:Nat):Int):=by
 have c:= @Ov x y;unfold F6;rw[Sv j f g];rw[g] at c ⊢
 generalize x.natAbs/y.natAbs=q at*
 have e:x-y* -(q:Int)=0:=by
  by_cases h:y<0
  ·have a:¬x<0:=by intro a;exact f (by rw[decide_eq_true a,decide_eq_true h])
   rw[show (y.natAbs:Int)= -y by omega,show (x.natAbs:Int)=x by omega,Int.neg_mul] at c;rw[Int.mul_neg];omega
  have a:x<0:=by apply Classical.byContradiction;intro a;exact f (by rw[decide_eq_false a,decide_eq_false h])
  rw[show (y.natAbs:Int)=y by omega,show (x.natAbs:Int)= -x by omega] at c;rw[Int.mul_neg];omega
 rw[e];cases b <;> rfl
theorem cg (f:b=decide (y<0)) (m:y≠0) (c:decide (x<0)≠decide (y<0)) (j:x.natAbs%y.natAbs≠0):
  F6 x y=if b=true then -((y.natAbs-x.natAbs%y.natAbs:Nat):Int) else ((y.natAbs-x.natAbs%y.natAbs:Nat):Int):=by
 have g:= @Ov x y;have hm:=Nat.mod_lt x.natAbs (by omega:0<y.natAbs);unfold F6;rw[Sw m c j]
 generalize x.natAbs/y.natAbs=q at*
 generalize x.natAbs%y.natAbs=r at*
 rw[Int.natCast_add,Int.mul_neg,Int.mul_add]
 by_cases h:y<0
 ·have a:¬x<0:=by intro a;exact c (by rw[decide_eq_true a,decide_eq_true h])
  rw[f,decide_eq_true h,if_pos rfl];rw[show (y.natAbs:Int)= -y by omega,show (x.natAbs:Int)=x by omega,Int.neg_mul] at g;omega
 have a:x<0:=by apply Classical.byContradiction;intro a;exact c (by rw[decide_eq_false a,decide_eq_false h])
 rw[f,decide_eq_false h,if_neg (by simp)];rw[show (y.natAbs:Int)=y by omega,show (x.natAbs:Int)= -x by omega] at g;omega
theorem Ws (v:BL N<=X) (a:0<X):BL N<=(X+N/X)/2:=by
 have h:=KO N
 generalize BL N=s at*
 have j:X*(N/X)+N%X=N:=Nat.div_add_mod N X;have m:=Nat.mod_lt N a
 generalize N/X=q at*
 rw[Nat.le_div_iff_mul_le (by decide)];apply Classical.byContradiction;intro w;have o:X+q+1<=2*s:=by omega
 obtain⟨d,rfl⟩:∃d,X=s+d:=⟨X-s,by omega⟩
 have c:q+1<=s-d:=by omega
 have f:(s+d)*(q+1)<=(s+d)*(s-d):=Nat.mul_le_mul_left _ c
 have r:(s+d)*(s-d)<=s*s:=by
  by_cases g:d<=s
  ·obtain⟨e,rfl⟩:∃e,s=e+d:=⟨s-d,by omega⟩
   have:(e+d)*(e+d)=(e+d+d)*e+d*d:=by grind
   rw[Nat.add_sub_cancel];omega
  rw[show s-d=0 by omega];simp
 rw[Nat.mul_add] at f;omega
theorem gK (m:BL N<=X) (a:0<X) (h:X<=(X+N/X)/2):BL N=X:=by
 have c:X<=N/X:=by omega
 have f:X*X<=N:=by
  have:=(Nat.le_div_iff_mul_le a).1 c;exact this
 have g:=MQ N;have j:X<BL N+1:=Nat.mul_self_lt_mul_self_iff.1 (by omega);omega
theorem gL (h:N≠0):BL N<=2^((Nat.log2 N+1)/2+1):=by
 apply Classical.byContradiction;intro j;have c:=KO N;have f:N<2^(Nat.log2 N+1):=(Nat.log2_lt h).1 (Nat.lt_succ_self _);have a:2^((Nat.log2 N+1)/2+1)*2^((Nat.log2 N+1)/2+1)<=BL N*BL N:=Nat.mul_le_mul (by omega) (by omega);rw[<-Nat.pow_add] at a;have g:2^(Nat.log2 N+1)<=2^((Nat.log2 N+1)/2+1+((Nat.log2 N+1)/2+1)):=Nat.pow_le_pow_right (by decide) (by omega);omega
end Go.Abs
namespace Go.Abs
structure BE (q:Rat) (b1:Bool) (l1:List UInt32) (b2:Bool) (l2:List UInt32):Prop where
 num:Af q.num b1 l1
 den:Af (q.den:Int) b2 l2
variable {b' Rx b1 b2:Bool} {d y z:Int} {k:Nat} {l l' MH l1 l2:List UInt32}
theorem Bl (q:Rat):∃b1 l1 b2 l2,BE q b1 l1 b2 l2:=⟨_,_,_,_,⟨rfl,rfl⟩,⟨rfl,rfl⟩⟩
theorem BE.uniq {p q:Rat} {c1 c2:Bool} {m1 m2:List UInt32} (h:BE p b1 l1 b2 l2) (h':BE q c1 m1 c2 m2) (e:p=q):(b1=c1/\l1=m1)/\(b2=c2/\l2=m2):=by
 subst e;exact⟨h.num.uniq h'.num rfl,h.den.uniq h'.den rfl⟩
structure Bt (q:Rat):Prop where
 num:(AS q.num.natAbs).length<=4000000000000
 den:(AS q.den).length<=4000000000000
theorem BE.small {q:Rat} (h:BE q b1 l1 b2 l2) (s:Bt q):l1.length<=4000000000000/\l2.length<=4000000000000:=by
 rw[h.num.BD,h.den.BD];exact⟨s.num,by simpa using s.den⟩
theorem Sx (x:Int):B9 x 1=x:=by unfold B9;simp
theorem MP {n:Int} (f:d≠0):(Rat.divInt n d).num=B9 n (if d<0 then -((Nat.gcd n.natAbs d.natAbs:Nat):Int) else ((Nat.gcd n.natAbs d.natAbs:Nat):Int)):=by
 rw[Rat.num_divInt];have c:Int.gcd d n=Nat.gcd n.natAbs d.natAbs:=by rw[Int.gcd_comm];rfl
 have a:0<Nat.gcd n.natAbs d.natAbs:=Nat.gcd_pos_of_pos_right _ (by omega);rw[c];unfold B9
 by_cases h:d<0
 ·rw[if_pos h,if_neg (by omega),Int.sign_eq_neg_one_of_neg h,Int.neg_neg,Int.neg_one_mul]
 rw[if_neg h,if_pos (by omega),Int.sign_eq_one_of_pos (by omega),Int.one_mul]
theorem MO {n:Int} (c:d≠0):((Rat.divInt n d).den:Int)=B9 d (if d<0 then -((Nat.gcd n.natAbs d.natAbs:Nat):Int) else ((Nat.gcd n.natAbs d.natAbs:Nat):Int)):=by
 rw[Rat.den_divInt,if_neg c];have f:Int.gcd d n=Nat.gcd n.natAbs d.natAbs:=by rw[Int.gcd_comm];rfl
 have a:0<Nat.gcd n.natAbs d.natAbs:=Nat.gcd_pos_of_pos_right _ (by omega);rw[f,Int.natCast_ediv];unfold B9
 by_cases h:d<0
 ·rw[if_pos h,if_neg (by omega),Int.neg_neg,show (d.natAbs:Int)= -d by omega]
 rw[if_neg h,if_pos (by omega),show (d.natAbs:Int)=d by omega]
theorem cX:AS 1=[1]:=by decide +kernel
theorem PD {x:Int} {b:Bool} (h:Af x b l) (e:b=true):false=decide (x=1):=by
 have:=h.neg;rw[e] at this;have a:x<0:=by simpa using this.symm
 simp;omega
theorem U8 {x:Int} {b:Bool} (h:Af x b l) (e:¬l.length=1):false=decide (x=1):=by
 have a:x≠1:=by
  intro c;subst c;apply e;rw[h.BD];exact congrArg List.length cX
 simp[a]
theorem PF {x:Int} {b:Bool} {w:UInt32} (h:Af x b l) (j:b=false) (e:l.length=1) (hw:l[0]? =some w):decide (w.toNat=1)=decide (x=1):=by
 have m:l=[w]:=by
  match l,e,hw with
  | [a],_,hw=>simp at hw;rw[hw]
 have c:=h.nat;rw[m] at c;have g:AE [w]=w.toNat:=by simp[AE]
 rw[g] at c;have f:=h.neg;rw[j] at f;have o:¬x<0:=by simpa using f.symm
 rw[Bool.eq_iff_iff];simp;omega
theorem MR (n:Nat):n<2^(32*(AS n).length):=by
 have h:=CI (AS n);rwa [Aw] at h
theorem cW (a b:Nat):(AS (a*b)).length<=(AS a).length+(AS b).length:=by
 apply Ep;rw[Nat.mul_add,Nat.pow_add];exact Nat.mul_lt_mul_of_lt_of_le (MR a) (Nat.le_of_lt (MR b)) (Nat.pow_pos (by decide))
theorem cV {a b:Nat} (c:(AS a).length<=k) (f:(AS b).length<=k):(AS (a+b)).length<=k+1:=by
 apply Ep;have g:=Nat.lt_of_lt_of_le (MR a) (Nat.pow_le_pow_right (n:=2) (by decide) (Nat.mul_le_mul_left 32 c));have h:=Nat.lt_of_lt_of_le (MR b) (Nat.pow_le_pow_right (n:=2) (by decide) (Nat.mul_le_mul_left 32 f));rw[Nat.mul_add,Nat.pow_add];have j:2^(32*k)*2<=2^(32*k)*2^(32*1):=Nat.mul_le_mul_left _ (by decide);omega
theorem Af.C8 {x:Int} {b:Bool} (h:Af x b l) (h':Af y b' l') (a:Af z Rx MH) (e:z=x*y):MH.length<=l.length+l'.length:=by
 rw[h.BD,h'.BD,a.BD,e,Int.natAbs_mul];exact cW _ _
theorem Af.LS {x:Int} {b:Bool} (h:Af x b l) (h':Af y b' l') (c:Af z Rx MH) (e:z=x+y) (f:l.length<=k) (a:l'.length<=k):MH.length<=k+1:=by
 rw[h.BD] at f;rw[h'.BD] at a;rw[c.BD,e];exact Nat.le_trans (Df (Int.natAbs_add_le x y)) (cV f a)
theorem Fy (q:Rat):(q.den:Int)≠0:=by have:=q.den_nz;omega
theorem Ng (p q:Rat):p+q=Rat.divInt (p.num*q.den+q.num*p.den) ((p.den:Int)*q.den):=by
 have h:=Rat.divInt_add_divInt p.num q.num (Fy p) (Fy q);rwa [Rat.num_divInt_den,Rat.num_divInt_den] at h
theorem MT (p q:Rat):p*q=Rat.divInt (p.num*q.num) ((p.den:Int)*q.den):=by
 have h:=Rat.divInt_mul_divInt p.num q.num (d₁:=p.den) (d₂:=q.den);rwa [Rat.num_divInt_den,Rat.num_divInt_den] at h
theorem aj (p q:Rat):p/q=Rat.divInt (p.num*q.den) ((p.den:Int)*q.num):=by
 have h:=Rat.divInt_mul_divInt p.num q.den (d₁:=p.den) (d₂:=q.num);rw[<-Rat.inv_divInt q.num q.den,Rat.num_divInt_den,Rat.num_divInt_den] at h;rw[Rat.div_def,h]
theorem Sz (x:Int):Rat.divInt x 1=(x:Rat):=Rat.num_divInt_den (x:Rat)
theorem S4 (x:Int):(Rat.divInt x 1).num=x:=by rw[Sz];rfl
theorem S3 (x:Int):(Rat.divInt x 1).den=1:=by rw[Sz];rfl
theorem HQ {p q:Rat} (a:(p.den:Int)=1) (c:(q.den:Int)=1):(p+q).num=p.num+q.num/\(p+q).den=1:=by
 rw[Ng,a,c];simp only[Int.mul_one];exact⟨S4 _,S3 _⟩
theorem mul_ones {p q:Rat} (a:(p.den:Int)=1) (c:(q.den:Int)=1):(p*q).num=p.num*q.num/\(p*q).den=1:=by
 rw[MT,a,c];simp only[Int.mul_one];exact⟨S4 _,S3 _⟩
theorem Wj (r:Rat):(r*r).num=r.num*r.num/\(r*r).den=r.den*r.den:=by
 have a:(r.num*r.num).natAbs.Coprime (r.den*r.den):=by
  rw[Int.natAbs_mul];have h:=r.reduced;exact Nat.Coprime.mul_right (Nat.Coprime.mul_left h h) (Nat.Coprime.mul_left h h)
 have c:r.den*r.den≠0:=Nat.mul_ne_zero r.den_nz r.den_nz;have h:=Rat.num_divInt_den (⟨r.num*r.num,r.den*r.den,c,a⟩:Rat);have f:=MT r r
 have g:(⟨r.num*r.num,r.den*r.den,c,a⟩:Rat)=r*r:=by
  rw[f,<-h];exact congrArg _ (Int.natCast_mul _ _)
 rw[<-g];exact⟨rfl,rfl⟩
theorem UF (n:Nat):BL (n*n)=n:=UG (Nat.le_refl _) (by rw[Nat.add_mul,Nat.mul_add];omega)
theorem Wr {r q:Rat} (c:0<=r) (h:r*r=q):((BL q.num.toNat:Nat):Int)=r.num/\r.num*r.num=q.num:=by
 have a:=(Wj r).1;rw[h] at a;have g:0<=r.num:=Rat.num_nonneg.2 c;refine⟨?_,a.symm⟩;obtain⟨k,f⟩:=Int.eq_ofNat_of_zero_le g;rw[a,f];rw[show ((k:Int)*k).toNat=k*k by rw[<-Int.natCast_mul];rfl,UF]
theorem Wq {r q:Rat} (c:0<=r) (h:r*r=q):((BL (q.den:Int).toNat:Nat):Int)=(r.den:Int)/\(r.den:Int)*r.den=(q.den:Int):=by
 have a:=(Wj r).2;rw[h] at a;refine⟨?_,by rw[a];exact (Int.natCast_mul _ _).symm⟩;rw[a,Int.toNat_natCast,UF]
theorem Wp {q:Rat} (c:((BL q.num.toNat:Nat):Int)*((BL q.num.toNat:Nat):Int)=q.num) (a:((BL (q.den:Int).toNat:Nat):Int)*((BL (q.den:Int).toNat:Nat):Int)=(q.den:Int)):∃r:Rat,0<=r/\r*r=q:=by
 refine⟨Rat.divInt ((BL q.num.toNat:Nat):Int) ((BL (q.den:Int).toNat:Nat):Int),?_,?_⟩
 ·exact Rat.divInt_nonneg (Int.natCast_nonneg _) (Int.natCast_nonneg _)
 rw[Rat.divInt_mul_divInt,c,a,Rat.num_divInt_den]
def D6 (b1:Bool) (l1:List UInt32) (b2:Bool) (l2:List UInt32):Bool:=Ef b1 l1&&(Ef b2 l2&&(!b2&&(decide (l2≠[])&&decide (Nat.gcd (AE l1) (AE l2)=1))))
theorem K4:D6 b1 l1 b2 l2=true↔∃q,BE q b1 l1 b2 l2:=by
 unfold D6;simp only[Bool.and_eq_true,Bool.not_eq_true',decide_eq_true_eq]
 constructor
 ·rintro⟨j,m,o,r,c⟩
  obtain⟨x,g⟩:=Hm.1 j;obtain⟨y,a⟩:=Hm.1 m;have v:y≠0:=fun e=>r (a.nil.2 e)
  have f:=a.neg;rw[o] at f;have w:¬y<0:=by simpa using f.symm
  rw[g.nat,a.nat] at c;refine⟨⟨x,y.natAbs,by omega,c⟩,g,?_⟩
  show Af ((y.natAbs:Nat):Int) b2 l2
  rw[show ((y.natAbs:Nat):Int)=y by omega];exact a
 rintro⟨q,h⟩
 refine⟨Hm.2 ⟨_,h.num⟩,Hm.2 ⟨_,h.den⟩,?_,fun e=>q.den_nz (by have:=h.den.nil.1 e;omega),?_⟩
 ·rw[h.den.neg];simp
 rw[h.num.nat,h.den.nat,Int.natAbs_natCast];exact q.reduced
def DO (q:Rat):Int:=B7 q.num
def FV (p q:Rat):Int:=if p<q then -1 else if q<p then 1 else 0
end Go.Abs
namespace Go.Abs
open Go.RowKit
def rp (q:Rat):el AA:=((decide (q.num<0),AS q.num.natAbs),(decide ((q.den:Int)<0),AS q.den))
theorem Fa (q:Rat):BE q (rp q).1.1 (rp q).1.2 (rp q).2.1 (rp q).2.2:=⟨⟨rfl,rfl⟩,⟨rfl,rfl⟩⟩
theorem BE.rp {q:Rat} {b1 b2:Bool} {l1 l2:List UInt32} (h:BE q b1 l1 b2 l2):rp q=((b1,l1),(b2,l2)):=by
 have u:=h.uniq (Fa q) rfl;rw[u.1.1,u.1.2,u.2.1,u.2.2]
abbrev Aj (X:List Rat):List (el AA):=X.map rp
def DU (X:List Rat):Prop:=∀q∈X,Bt q
structure LG (ts:List (List Rat)):Prop where
 small:∀x∈ts,DU x
 OW:ts.length<=16
 form:∀i x,ts[i]? =some x->x.length=2^i
end Go.Abs
namespace Go.Abs
open Go.RowKit
noncomputable def em (u:List (List Rat)) (x:Re):List (el AA):=Aj (co u x)
def tw (u:List (List Rat)):List (List (el AA)):=u.reverse.map Aj
structure Ah (R:Nat) (u:List (List Rat)):Prop where
 red:Ag u
 tb:TB R u
 hR:R<=60000000000000
 ht:u.length<=16
structure El (u:List (List Rat)) (s:Nat) (x:Re):Prop where
 mem:In u x
 bd:Bd s (co u x)
variable {R k n s t:Nat} {p x y:Re}
theorem UU (h:n<=2^(2*k)) (c:k<=60000000000000):(AS n).length<=4000000000000:=by
 obtain⟨m,hm⟩:=xN 3999999999999;have a:n<2^(32*m):=Nat.lt_of_le_of_lt h (Nat.pow_lt_pow_right (by decide) (by omega));have:=Ep a;omega
theorem aS {q:Rat} {D:Nat} {n:Int} (h:q*D=n) (j:0<D):q.den<=D:=by
 have a:=JK q
 have c:((q.num*D:Int):Rat)=((n*q.den:Int):Rat):=by
  rw[Rat.intCast_mul,Rat.intCast_mul,<-h,<-a];have e1:((D:Int):Rat)=(D:Rat):=rfl;have m:((q.den:Int):Rat)=(q.den:Rat):=rfl
  grind
 have f:q.num*D=n*q.den:=Rat.intCast_inj.1 c
 have g:q.den∣q.num.natAbs*D:=by
  refine⟨n.natAbs,?_⟩;have:=congrArg Int.natAbs f;rw[Int.natAbs_mul,Int.natAbs_mul,Int.natAbs_natCast,Int.natAbs_natCast] at this;rw[this,Nat.mul_comm]
 exact Nat.le_of_dvd j ((Nat.Coprime.symm q.reduced).dvd_of_dvd_mul_left g)
theorem Bd.B8 {a:List Rat} (h:Bd k a) (g:k<=60000000000000):DU a:=by
 obtain⟨D,o,r,v,w⟩:=h;intro q j;obtain⟨n,F⟩:=v q j;have f:q.den<=2^k:=Nat.le_trans (aS F o) r;have B:=w q j
 have c:q.num.natAbs<=2^(2*k):=by
  have e1:=Ou (C:=q.den) B (q:=(q.den:Rat)) ⟨by have:(0:Rat)<=q.den:=Rat.natCast_nonneg;grind,by grind⟩;rw[JK] at e1
  have m:q.num.natAbs<=2^k*q.den:=by
   have G: -((2^k*q.den:Nat):Int)<=q.num:=by
    apply Rat.intCast_le_intCast.1;rw[Rat.intCast_neg];exact e1.1
   have H:q.num<=((2^k*q.den:Nat):Int):=Rat.intCast_le_intCast.1 e1.2;omega
  have:=Nat.mul_le_mul_left (2^k) f;rw[<-Nat.pow_add] at this;exact Nat.le_trans m (Nat.le_trans this (Cg))
 exact⟨UU c g,UU (Nat.le_trans f (Cg)) g⟩
theorem El.B8 {u:List (List Rat)} (h:El u s x) (a:s<=60000000000000):DU (co u x):=h.bd.B8 a
theorem El.len {u:List (List Rat)} (h:El u s x):(co u x).length=2^u.length:=Cz h.mem
theorem BI {u:List (List Rat)} (h:In u x):(em u x).length=2^u.length:=by rw[em,List.length_map,Cz h]
theorem Bh (u:List (List Rat)):(tw u).length=u.length:=by rw[tw,List.length_map,List.length_reverse]
theorem Cu (h:n<=16:=by omega):2^n<=65536:=Nat.le_trans (Cg h) (by decide)
theorem Kz (r:List Rat) (u:List (List Rat)):tw (r::u)=tw u++[Aj r]:=by rw[tw,List.reverse_cons,List.map_append];rfl
theorem DD (r:List Rat) (u:List (List Rat)):(tw (r::u)).take ((tw (r::u)).length-1)=tw u:=by
 rw[Kz,List.length_append,Bh];simp[List.take_left' (Bh u)]
theorem Ed (r:List Rat) (u:List (List Rat)):(tw (r::u))[(tw (r::u)).length-1]? =some (Aj r):=by
 rw[Kz,List.length_append,Bh];simp[List.getElem?_append_right (Nat.le_of_eq (Bh u))];rw[Bh,Nat.sub_self];rfl
theorem Dw {r:List Rat} {u:List (List Rat)} (h:Ag (r::u)):Aj r=em u (AP u r):=by rw[em,FW h]
theorem CE {u:List (List Rat)} {r:List Rat} {q:Re} (h:Ag (r::u)) (c:In u p) (f:In u q) (g:x=p+q*rt u r):(em (r::u) x).take ((em (r::u) x).length/2)=em u p:=by
 have a:In (r::u) x:=Cd.2 ⟨p,q,c,f,g⟩;rw[BI a,Br,show (2^u.length+2^u.length)/2=2^u.length by omega,em,em,Aj,Aj,<-List.map_take,aK h c f g]
theorem B6 {u:List (List Rat)} {r:List Rat} {q:Re} (h:Ag (r::u)) (c:In u p) (f:In u q) (g:x=p+q*rt u r):(em (r::u) x).drop ((em (r::u) x).length/2)=em u q:=by
 have a:In (r::u) x:=Cd.2 ⟨p,q,c,f,g⟩;rw[BI a,Br,show (2^u.length+2^u.length)/2=2^u.length by omega,em,em,Aj,Aj,<-List.map_drop,aJ h c f g]
theorem EN {u:List (List Rat)} {r:List Rat} {q:Re} (h:Ag (r::u)) (a:In u p) (c:In u q) (f:x=p+q*rt u r):em (r::u) x=em u p++em u q:=by
 rw[em,DX h a c f,Aj,List.map_append];rfl
theorem TA {u:List (List Rat)} (h:Ag u) (a:In u x) (c:In u y):em u (x+y)=Aj (List.zipWith (· + ·) (co u x) (co u y)):=by rw[em,Lh h a c]
theorem TC {u:List (List Rat)} (h:Ag u) (a:In u x):em u (-x)=Aj ((co u x).map (- ·)):=by rw[em,KF h a]
theorem Dl (q:Rat):em [] (Re.ofRat q)=[rp q]:=by rw[em,DY];rfl
theorem OB {u:List (List Rat)} (h:Ag u):em u 0=Aj (List.replicate (2^u.length) 0):=by rw[em,N6 h]
theorem Ah.tail {r:List Rat} {u:List (List Rat)} (h:Ah R (r::u)):Ah R u:=⟨h.red.1,h.tb.tail,h.hR,by have:=h.ht;rw[List.length_cons] at this;omega⟩
theorem Dm {α:Type} {l:List α} {i:Nat} {x:α} (h:l[i]? =some x):i<l.length:=by
 apply Classical.byContradiction;intro a;rw[List.getElem?_eq_none (by omega)] at h;exact absurd h (by simp)
theorem JL:∀{u:List (List Rat)},Ag u->∀(i:Nat) (x:List Rat),u.reverse[i]? =some x->x.length=2^i
 | [],_,i,x,h=>by simp at h
 | r::u,a,i,x,h=>by
  rw[List.reverse_cons] at h
  by_cases f:i<u.length
  ·rw[List.getElem?_append_left (by rw[List.length_reverse];exact f)] at h;exact JL a.1 i x h
  rw[List.getElem?_append_right (by rw[List.length_reverse];omega),List.length_reverse] at h
  have c:i-u.length=0:=by
   have:=Dm h;simp at this;omega
  rw[c] at h;have:r=x:=by simpa using h
  rw[<-this,a.2.1]
  congr 1;omega
theorem Ah.FK {u:List (List Rat)} (h:Ah R u):LG u.reverse:=
 ⟨fun x a=>(h.tb x (List.mem_reverse.1 a)).B8 h.hR,by rw[List.length_reverse];exact h.ht,JL h.red⟩
theorem El.Cj {r:List Rat} {u:List (List Rat)} (h:Ah R (r::u)):El u R (AP u r):=⟨CQ h.red,Nq h.red h.tb⟩
theorem El.parts {u:List (List Rat)} {r:List Rat} (h:Ag (r::u)) (f:El (r::u) s x):∃p q,x=p+q*rt u r/\El u s p/\El u s q:=by
 obtain⟨p,q,a,c,rfl⟩:=Cd.1 f.mem;have:=R4 h a c f.bd;exact⟨p,q,rfl,⟨a,this.1⟩,⟨c,this.2⟩⟩
theorem El.mono {u:List (List Rat)} (h:El u s x) (a:s<=t):El u t x:=⟨h.mem,h.bd.mono a⟩
theorem El.add {u:List (List Rat)} (h:Ag u) (a:El u s x) (c:El u t y):El u (s+t+1) (x+y):=⟨C0 a.mem c.mem,Rz h a.mem c.mem a.bd c.bd⟩
theorem El.sub {u:List (List Rat)} (h:Ag u) (a:El u s x) (c:El u t y):El u (s+t+1) (x-y):=⟨EZ a.mem c.mem,Zx h a.mem c.mem a.bd c.bd⟩
theorem El.neg {u:List (List Rat)} (h:Ag u) (a:El u s x):El u s (-x):=⟨GX a.mem,R5 h a.mem a.bd⟩
theorem El.mul {u:List (List Rat)} (h:Ah R u) (a:El u s x) (c:El u t y):El u (s+t+EE u.length R) (x*y):=⟨Am h.red a.mem c.mem,Zv h.red h.tb a.mem c.mem a.bd c.bd⟩
theorem El.norm {u:List (List Rat)} {r:List Rat} {q:Re} (h:Ah R (r::u)) (a:In u p) (c:In u q) (f:El (r::u) s (p+q*rt u r)):El u (2*s+2*EE u.length R+R+1) (p*p-q*q*AP u r):=
 ⟨EZ (Am h.red.1 a a) (Am h.red.1 (Am h.red.1 c c) (CQ h.red)),R6 h.red h.tb a c f.bd⟩
theorem El.inv {u:List (List Rat)} (h:Ah R u) (a:El u s x) (c:In u y) (e:x*y=1):El u (II u.length R s) y:=⟨c,Lb h.red h.tb a.mem c e a.bd⟩
theorem El.sqrt {u:List (List Rat)} {w:Re} (h:Ah R u) (a:El u s x) (hw:In u w) (e:w*w=x):El u (s+GG u.length R) w:=⟨hw,R7 h.red h.tb hw e a.bd⟩
theorem El.rat {u:List (List Rat)} {q:Rat} (h:Ag u) (a:Bd s [q]):El u s (Re.ofRat q):=⟨G8 q u,Zw h a⟩
theorem D2:∀(h R s:Nat),2*s<=II h R s
 | 0,_,_=>Nat.le_refl _
 | h+1,R,s=>by
  have:=D2 h R (2*s+2*EE h R+R+1);rw[II];omega
theorem Ut {u:List (List Rat)} {r:List Rat} {q:Re} (h:Ag (r::u)) (f:In u p) (g:In u q) (c:p+q*rt u r≠0):p*p-q*q*AP u r≠0:=by
 intro j;have v:=CX h;have e1:(p+q*rt u r)*(p-q*rt u r)=0:=by grind
 rcases Re.FX e1 with a | a
 ·exact c a
 obtain⟨m,o⟩:=indep h f (GX g) (CH u) (CH u) (show p+ -q*rt u r=0+0*rt u r by grind);exact c (by grind)
theorem J7:Bd 1 [(1/2:Rat)]:=by
 refine⟨2,by decide,by decide,fun q a=>⟨1,?_⟩,fun q a=>?_⟩
 ·rw[List.mem_singleton.1 a];decide +kernel
 rw[List.mem_singleton.1 a];decide +kernel
theorem Gx:Bd 0 [(0:Rat)]:=⟨1,by decide,by decide,fun q a=>⟨0,by rw[List.mem_singleton.1 a];decide +kernel⟩,fun q a=>by rw[List.mem_singleton.1 a];decide +kernel⟩
theorem Zt:Bd 0 [(1:Rat)]:=⟨1,by decide,by decide,fun q a=>⟨1,by rw[List.mem_singleton.1 a];decide +kernel⟩,fun q a=>by rw[List.mem_singleton.1 a];decide +kernel⟩
end Go.Abs
namespace Go.Abs
noncomputable def BJ (x:Re):Int:=by
 classical
 exact if x<0 then -1 else if x=0 then 0 else 1
theorem Ec (x:Re):(x<0/\BJ x= -1)\/(x=0/\BJ x=0)\/(0<x/\BJ x=1):=by
 unfold BJ
 by_cases h:x<0
 ·rw[if_pos h];exact .inl ⟨h,rfl⟩
 rw[if_neg h]
 by_cases a:x=0
 ·rw[if_pos a];exact .inr (.inl ⟨a,rfl⟩)
 rw[if_neg a];exact .inr (.inr ⟨by grind,rfl⟩)
theorem GH {x:Re} (h:0<x):BJ x=1:=by rcases Ec x with⟨a,b⟩ |⟨a,b⟩ |⟨a,b⟩ <;> grind
theorem JQ {x:Re} (h:x<0):BJ x= -1:=by rcases Ec x with⟨a,b⟩ |⟨a,b⟩ |⟨a,b⟩ <;> grind
theorem Fh:BJ 0=0:=by rcases Ec 0 with⟨a,b⟩ |⟨a,b⟩ |⟨a,b⟩ <;> grind
theorem JP {x:Re}:BJ x=0↔x=0:=by
 rcases Ec x with⟨a,b⟩ |⟨a,b⟩ |⟨a,b⟩ <;> rw[b]
 ·constructor
  ·intro h;omega
  intro h;grind
 ·exact⟨fun _=>a,fun _=>rfl⟩
 constructor
 ·intro h;omega
 intro h;grind
theorem WH (x y:Re):BJ (x*y)=BJ x*BJ y:=by
 rcases Ec x with⟨a,b⟩ |⟨a,b⟩ |⟨a,b⟩ <;> rcases Ec y with⟨c,d⟩ |⟨c,d⟩ |⟨c,d⟩ <;> rw[b,d]
 ·have:=Re.mul_pos (x:= -x) (y:= -y) (by grind) (by grind);exact GH (by grind)
 ·rw[c,show x*0=0 by grind];exact Fh
 ·have:=Re.mul_pos (x:= -x) (y:=y) (by grind) (by grind);exact JQ (by grind)
 ·rw[a,show 0*y=0 by grind];exact Fh
 ·rw[a,show 0*y=0 by grind];exact Fh
 ·rw[a,show 0*y=0 by grind];exact Fh
 ·have:=Re.mul_pos (x:=x) (y:= -y) (by grind) (by grind);exact JQ (by grind)
 ·rw[c,show x*0=0 by grind];exact Fh
 exact GH (Re.mul_pos a c)
theorem WG (x y:Re): -9223372036854775808<=BJ x*BJ y/\BJ x*BJ y<9223372036854775808:=by
 rcases Ec x with⟨a,b⟩ |⟨a,b⟩ |⟨a,b⟩ <;> rcases Ec y with⟨c,d⟩ |⟨c,d⟩ |⟨c,d⟩ <;> rw[b,d] <;> decide
section
variable {p q s ρ:Re}
theorem Mv (f:0<s) (h:q=0\/BJ p=BJ q):BJ (p+q*s)=BJ p:=by
 rcases h with h | h
 ·rw[h,show p+0*s=p by grind]
 rcases Ec p with⟨a,b⟩ |⟨a,b⟩ |⟨a,b⟩ <;> rcases Ec q with⟨c,d⟩ |⟨c,d⟩ |⟨c,d⟩ <;> rw[b,d] at h <;> try omega
 ·have:=Re.mul_pos (x:= -q) (y:=s) (by grind) f;rw[b];exact JQ (by grind)
 ·rw[b,a,c,show (0:Re)+0*s=0 by grind];exact Fh
 have:=Re.mul_pos (x:=q) (y:=s) c f;rw[b];exact GH (by grind)
theorem WN (a:0<s) (h:p=0):BJ (p+q*s)=BJ q:=by
 rw[h,show 0+q*s=q*s by grind,WH,GH a,Int.mul_one]
theorem WM (f:0<s) (m:s*s=ρ) (g:p≠0) (j:q≠0) (h:BJ p≠BJ q):BJ (p+q*s)=BJ p*BJ (p*p-q*q*ρ):=by
 have e:p*p-q*q*ρ=(p-q*s)*(p+q*s):=by rw[<-m];grind
 rw[e,WH];rcases Ec p with⟨a,b⟩ |⟨a,b⟩ |⟨a,b⟩ <;> rcases Ec q with⟨c,d⟩ |⟨c,d⟩ |⟨c,d⟩ <;> rw[b,d] at h <;> first | (exact absurd rfl h) | (exact absurd a g) | (exact absurd c j) | skip
 ·have:=Re.mul_pos (x:=q) (y:=s) c f;rw[b,JQ (x:=p-q*s) (by grind)];omega
 have:=Re.mul_pos (x:= -q) (y:=s) (by grind) f;rw[b,GH (x:=p-q*s) (by grind)];omega
end
theorem WI (q:Rat):BJ (Re.ofRat q)=DO q:=by
 have c:(0:Re)=Re.ofRat 0:=rfl;have f:DO q=B7 q.num:=rfl;rw[f];rcases Es q.num with⟨a,b⟩ |⟨a,b⟩ |⟨a,b⟩ <;> rw[b]
 ·exact JQ (by rw[c,Re.Hc];rw[Rat.lt_iff];simp;exact a)
 ·rw[Rat.num_eq_zero.1 a];exact Fh
 exact GH (by rw[c,Re.Hc];rw[Rat.lt_iff];simp;exact a)
def VV:Nat->Nat->Nat->Nat
 | 0,_,s=>s
 | h+1,R,s=>VV h R (2*s+2*EE h R+R+1)
theorem Gq:∀(h R:Nat) {s t:Nat},s<=t->VV h R s<=VV h R t
 | 0,_,_,_,h=>h
 | h+1,R,_,_,a=>Gq h R (by omega)
theorem Eu:∀(h R s:Nat),s<=VV h R s
 | 0,_,_=>Nat.le_refl _
 | h+1,R,s=>Nat.le_trans (by omega) (Eu h R (2*s+2*EE h R+R+1))
theorem Qo (h R s:Nat):VV h R s<=VV (h+1) R s:=Gq h R (by omega)
theorem Jq {i h:Nat} (c:i<=h) (R s:Nat):VV i R s<=VV h R s:=by
 induction h with
 | zero=>rw[Nat.le_zero.1 c];exact Nat.le_refl _
 | succ h f=>
  rcases Nat.lt_or_ge i (h+1) with a | a
  ·exact Nat.le_trans (f (by omega)) (Qo h R s)
  rw[show i=h+1 by omega];exact Nat.le_refl _
def pre (u:List (List Rat)) (i:Nat):List (List Rat):=u.drop (u.length-i)
theorem Hg {u:List (List Rat)} {i:Nat} (h:i<=u.length):(pre u i).length=i:=by rw[pre,List.length_drop];omega
theorem HE {u:List (List Rat)} {i:Nat}:(tw u).take i=tw (pre u i):=by
 rw[tw,tw,pre,<-List.map_take,List.reverse_drop]
 by_cases h:i<=u.length
 ·rw[show u.length-(u.length-i)=i by omega]
 rw[show u.length-i=0 by omega,Nat.sub_zero,List.take_of_length_le (by rw[List.length_reverse];omega),List.take_of_length_le (by rw[List.length_reverse];omega)]
theorem VW (u:List (List Rat)):pre u u.length=u:=by rw[pre,Nat.sub_self,List.drop_zero]
theorem IG {u:List (List Rat)} {i:Nat} (h:i<u.length):∃r,pre u (i+1)=r::pre u i/\(tw u)[i]? =some (Aj r):=by
 refine⟨u[u.length-(i+1)]'(by omega),?_,?_⟩
 ·rw[pre,pre,List.drop_eq_getElem_cons (by omega),show u.length-(i+1)+1=u.length-i by omega]
 rw[tw,List.getElem?_map,List.getElem?_reverse h,show u.length-1-i=u.length-(i+1) by omega,List.getElem?_eq_getElem (by omega)];rfl
theorem Vg:∀{u:List (List Rat)} (n:Nat),Ag u->Ag (u.drop n)
 |u,0,h|[],_+1,h=>h
 | _::u,n+1,h=>Vg n h.1
theorem Ah.pre {R:Nat} {u:List (List Rat)} (h:Ah R u) (i:Nat):Ah R (pre u i):=
 ⟨Vg _ h.red,fun r a=>h.tb r (List.mem_of_mem_drop a),h.hR,by have:=h.ht;rw[Go.Abs.pre,List.length_drop];omega⟩
def QQ:Nat->Nat->Nat->Nat
 | 0,_,s=>s
 | h+1,R,s=>max (QQ h R (3*s+3*EE h R+R+GG h R+3+II h R R)) (s+II h R (2*(3*s+3*EE h R+R+GG h R+3+II h R R+GG h R)+1)+EE h R)
theorem Hq:∀(h R:Nat) {s t:Nat},s<=t->II h R s<=II h R t
 | 0,_,_,_,h=>by rw[II,II];omega
 | h+1,R,s,t,a=>by
  have:=Hq h R (s:=2*s+2*EE h R+R+1) (t:=2*t+2*EE h R+R+1) (by omega);rw[II,II];omega
theorem LC:∀(h R:Nat) {s t:Nat},s<=t->QQ h R s<=QQ h R t
 | 0,_,_,_,h=>h
 | h+1,R,s,t,f=>by
  have a:=LC h R (s:=3*s+3*EE h R+R+GG h R+3+II h R R) (t:=3*t+3*EE h R+R+GG h R+3+II h R R) (by omega);have c:=Hq h R (s:=2*(3*s+3*EE h R+R+GG h R+3+II h R R+GG h R)+1) (t:=2*(3*t+3*EE h R+R+GG h R+3+II h R R+GG h R)+1) (by omega);rw[QQ,QQ];omega
theorem Gm:∀(h R s:Nat),s<=QQ h R s
 | 0,_,_=>Nat.le_refl _
 | h+1,R,s=>by have:=Gm h R (3*s+3*EE h R+R+GG h R+3+II h R R);rw[QQ];omega
theorem Xv (h R s:Nat):QQ h R s<=QQ (h+1) R s:=by
 have:=LC h R (s:=s) (t:=3*s+3*EE h R+R+GG h R+3+II h R R) (by omega);rw[QQ];omega
theorem Xu {i h:Nat} (c:i<=h) (R s:Nat):QQ i R s<=QQ h R s:=by
 induction h with
 | zero=>rw[Nat.le_zero.1 c];exact Nat.le_refl _
 | succ h f=>
  rcases Nat.lt_or_ge i (h+1) with a | a
  ·exact Nat.le_trans (f (by omega)) (Xv h R s)
  rw[show i=h+1 by omega];exact Nat.le_refl _
structure Fit (h R s:Nat):Prop where
 q:QQ h R s<=60000000000000
 v:VV h R (s+GG h R)<=60000000000000
 qR:QQ h R R<=60000000000000
 vR:VV h R R<=60000000000000
theorem Fit.v0 {h R s:Nat} (f:Fit h R s):VV h R s<=60000000000000:=Nat.le_trans (Gq h R (by omega)) f.v
theorem Fit.s {h R s:Nat} (f:Fit h R s):s<=60000000000000:=Nat.le_trans (Gm h R s) f.q
theorem Fit.mono {h R s t:Nat} (f:Fit h R s) (ht:t<=s):Fit h R t:=⟨Nat.le_trans (LC h R ht) f.q,Nat.le_trans (Gq h R (by omega)) f.v,f.qR,f.vR⟩
end Go.Abs
namespace Go.Abs
def Bb (u w:List (List Rat)):Prop:=∀x,In u x->In w x
theorem Bb.refl (u:List (List Rat)):Bb u u:=fun _ h=>h
theorem Bb.trans {u v w:List (List Rat)} (h:Bb u v) (k:Bb v w):Bb u w:=fun x a=>k x (h x a)
theorem OC:∀(v:List (List Rat)) {u:List (List Rat)},Bb u (v++u)
 | [],u=>Bb.refl u
 | _::v,_=>fun x a=>G9 (OC v x a)
theorem Lx {u w:List (List Rat)} (h:u<:+w):Bb u w:=by
 obtain⟨v,rfl⟩:=h;exact OC v
theorem Bb.tail {u w:List (List Rat)} {r:List Rat} (h:Bb (r::u) w):Bb u w:=fun x a=>h x (G9 a)
theorem Bb.root {u w:List (List Rat)} {r:List Rat} (h:Bb (r::u) w):In w (rt u r):=h _ (Ix u r)
theorem OD {u w:List (List Rat)} {r:List Rat} (hw:Ag w) (h:Bb u w) (f:In w (rt u r)):Bb (r::u) w:=fun x g=>by
 obtain⟨p,q,a,c,rfl⟩:=Cd.1 g;exact C0 (h p a) (Am hw (h q c) f)
theorem TH (w:List (List Rat)):Bb [] w:=fun x a=>by
 obtain⟨q,rfl⟩:=CV.1 a;exact G8 q w
noncomputable def BM (u:List (List Rat)) (v:Re):List (List Rat):=by
 classical
 exact if Sq u v then u else co u v::u
theorem FR {u:List (List Rat)} {v:Re} (h:Sq u v):BM u v=u:=by unfold BM;rw[if_pos h]
theorem Fu {u:List (List Rat)} {v:Re} (h:¬Sq u v):BM u v=co u v::u:=by unfold BM;rw[if_neg h]
theorem LW (u:List (List Rat)) (v:Re):u<:+BM u v:=by
 by_cases h:Sq u v
 ·rw[FR h];exact List.suffix_refl u
 rw[Fu h];exact List.suffix_cons _ _
theorem dw {u:List (List Rat)} {v:Re} (h:Ag u) (a:In u v) (c:0<v) (f:¬Sq u v):Ag (co u v::u):=
 ⟨h,Cz a,by rw[EY a];exact c,by rw[EY a];exact f⟩
theorem PS {u:List (List Rat)} {v:Re} (h:Ag u) (f:In u v) (c:0<v):Ag (BM u v):=by
 by_cases a:Sq u v
 ·rw[FR a];exact h
 rw[Fu a];exact dw h f c a
theorem Pd {u:List (List Rat)} {v:Re} (a:In u v):rt u (co u v)=Re.sqrt v:=by rw[rt,EY a]
theorem Px {u:List (List Rat)} {v:Re} (a:0<=v):Sq u v↔In u (Re.sqrt v):=by
 constructor
 ·rintro⟨w,hw,e⟩
  have f:=Re.Hk a;have c:=Re.JT v
  by_cases h:0<=w
  ·rw[<-Re.JS h c (by rw[e,f])];exact hw
  rw[<-Re.JS (x:= -w) (by grind) c (by rw[f,<-e];grind)];exact GX hw
 intro h;exact⟨_,h,Re.Hk a⟩
theorem Rc {u:List (List Rat)} {v:Re} (f:In u v) (c:0<=v):In (BM u v) (Re.sqrt v):=by
 by_cases a:Sq u v
 ·rw[FR a];exact (Px c).1 a
 rw[Fu a,<-Pd f];exact Ix u _
noncomputable def ext (t:List (List Rat)):List (List Rat)->List (List Rat)
 | []=>t
 | r::u=>BM (ext t u) (AP u r)
theorem TK (t:List (List Rat)):∀u,t<:+ext t u
 | []=>List.suffix_refl t
 | r::u=>List.IsSuffix.trans (TK t u) (LW _ _)
theorem IK {t:List (List Rat)} (ht:Ag t):∀{u:List (List Rat)},Ag u->Ag (ext t u)/\Bb u (ext t u)
 | [],_=>⟨ht,TH _⟩
 | r::u,hu=>by
  obtain⟨h,a⟩:=IK ht hu.1;have f:=a _ (CQ hu);have g:=hu.2.2.1;have c:=PS h f g;exact⟨c,OD c (a.trans (Lx (LW _ _))) (Rc f (by grind))⟩
open Classical in
noncomputable def E2 (t u:List (List Rat)):List (List Rat):=if u<:+t then t else if t<:+u then u else ext t u
theorem dv {t u:List (List Rat)} (ht:Ag t) (hu:Ag u):Ag (E2 t u)/\Bb t (E2 t u)/\Bb u (E2 t u):=by
 unfold E2
 split
 ·rename_i h;exact⟨ht,Bb.refl t,Lx h⟩
 split
 ·rename_i h;exact⟨hu,Lx h,Bb.refl u⟩
 obtain⟨a,c⟩:=IK ht hu;exact⟨a,Lx (TK t u),c⟩
theorem TD:∀(v:List (List Rat)) {u:List (List Rat)} {x:Re},Ag (v++u)->In u x->em (v++u) x=em u x++List.replicate (2^(v++u).length-2^u.length) (rp 0)
 | [],u,x,h,c=>by simp
 | r::v,u,x,h,c=>by
  have f:=OC v x c;have w:=TD v h.1 c;have j:2^u.length<=2^(v++u).length:=Cg (by simp);have e:em (r::v++u) x=em (v++u) x++em (v++u) 0:=EN h f (CH _) (by grind);have o:em (v++u) 0=Aj (List.replicate (2^(v++u).length) 0):=OB h.1;rw[e,w,o,Aj,List.map_replicate,List.append_assoc,List.replicate_append_replicate];have m:2^(r::v++u).length=2^(v++u).length+2^(v++u).length:=Br r (v++u);have g:∀a b:Nat,b<=a->a-b+a=a+a-b:=fun a b h=>by omega
  rw[m,<-g _ _ j]
theorem TG {u w:List (List Rat)} {x:Re} (h:u<:+w) (hw:Ag w) (a:In u x):em w x=em u x++List.replicate (2^w.length-2^u.length) (rp 0):=by
 obtain⟨v,rfl⟩:=h;exact TD v hw a
theorem Vi {u w:List (List Rat)} (h:u<:+w) (hw:Ag w):Ag u:=by
 obtain⟨v,rfl⟩:=h
 induction v with
 | nil=>exact hw
 | cons r v a=>exact a hw.1
structure Gam (T:List (List Rat)->Prop) (R C S:Nat):Prop where
 Ar:∀{u},T u->Ah R u
 ht:∀{u},T u->u.length<=8
 nil:T []
 sub:∀{r u},T (r::u)->T u
 BM:∀{t r u},T t->T (r::u)->Bb u t->T (BM t (AP u r))
 CG:∀{u w s x},T u->T w->Bb u w->El u s x->El w (s+C) x
 fit:∀{u},T u->Fit u.length R (S+C)
 mul:∀{u},T u->2*(S+C)+EE u.length R<=60000000000000
 RS:R<=S
section
variable {T:List (List Rat)->Prop} {R C S:Nat}
theorem Gam.JU (G:Gam T R C S) {u w:List (List Rat)} (h:u<:+w) (hw:T w):T u:=by
 obtain⟨v,rfl⟩:=h
 induction v with
 | nil=>exact hw
 | cons r v a=>exact a (G.sub hw)
theorem Gam.ext (G:Gam T R C S) {t:List (List Rat)} (ht:T t):∀{u:List (List Rat)},T u->T (ext t u)
 | [],_=>ht
 | r::u,hu=>G.BM (G.ext ht (G.sub hu)) hu (IK (G.Ar ht).red (G.Ar (G.sub hu)).red).2
theorem Gam.join (G:Gam T R C S) {t u:List (List Rat)} (ht:T t) (hu:T u):T (E2 t u):=by
 unfold E2
 split
 ·exact ht
 split
 ·exact hu
 exact G.ext ht hu
end
theorem Is {u:List (List Rat)} {r:List Rat} (h:Ag (r::u)):El (r::u) 0 (rt u r):=by
 have a:El u 0 0:=El.rat h.1 Gx;have c:El u 0 1:=El.rat h.1 Zt;have:=Zs h a.mem c.mem a.bd c.bd;rw[show (0:Re)+1*rt u r=rt u r by grind] at this;exact⟨Ix u r,this⟩
end Go.Abs
namespace Go.Abs
theorem Ji:∀{h h' R R':Nat},h<=h'->R<=R'->EE h R<=EE h' R'
 | 0,h',R,R',_,_=>Nat.zero_le _
 | h+1,0,R,R',a,_=>absurd a (by omega)
 | h+1,h'+1,R,R',a,hR=>by
  have:=Ji (h:=h) (h':=h') (by omega) hR;rw[EE,EE];omega
theorem QU:∀{h h' R R' s s':Nat},h<=h'->R<=R'->s<=s'->II h R s<=II h' R' s'
 | 0,0,R,R',s,s',_,_,c=>by rw[II,II];omega
 | 0,h'+1,R,R',s,s',_,_,c=>by
  have:=D2 h' R' (2*s'+2*EE h' R'+R'+1);rw[II,II];omega
 | h+1,0,R,R',s,s',a,_,_=>absurd a (by omega)
 | h+1,h'+1,R,R',s,s',a,hR,c=>by
  have f:=Ji (h:=h) (h':=h') (by omega) hR;have g:=QU (h:=h) (h':=h') (s:=2*s+2*EE h R+R+1) (s':=2*s'+2*EE h' R'+R'+1) (by omega) hR (by omega);rw[II,II];omega
theorem QT:∀{h h' R R':Nat},h<=h'->R<=R'->GG h R<=GG h' R'
 | 0,h',R,R',_,_=>by rw[GG];exact Nat.zero_le _
 | h+1,0,R,R',a,_=>absurd a (by omega)
 | h+1,h'+1,R,R',a,hR=>by
  have c:=Ji (h:=h) (h':=h') (by omega) hR;have f:=QT (h:=h) (h':=h') (by omega) hR;have g:=QU (h:=h) (h':=h') (s:=R) (s':=R') (by omega) hR hR;rw[GG,GG];omega
def CC:Nat->Nat->Nat->Nat->Nat
 | 0,_,_,_=>0
 | k+1,R0,h,R=>2*CC k R0 h R+R0+GG h R+EE h R+1
theorem NK:∀{k k' R0 Jl h h' R R':Nat},k<=k'->R0<=Jl->h<=h'->R<=R'->CC k R0 h R<=CC k' Jl h' R'
 | 0,k',_,_,_,_,_,_,_,_,_,_=>by rw[CC];exact Nat.zero_le _
 | k+1,0,_,_,_,_,_,_,c,_,_,_=>absurd c (by omega)
 | k+1,k'+1,R0,Jl,h,h',R,R',c,f,a,hR=>by
  have g:=NK (k:=k) (k':=k') (by omega) f a hR;have j:=Ji a hR;have m:=QT a hR;rw[CC,CC];omega
theorem aq {D:Nat} {q:Rat} {n:Nat} (h:DN D [q]):DN D (q::List.replicate n 0):=fun z a=>by
 rcases List.mem_cons.1 a with rfl | a
 ·exact h _ List.mem_cons_self
 rw[List.eq_of_mem_replicate a];exact⟨0,by simp⟩
theorem cu {B:Nat} {q:Rat} {n:Nat} (h:MX B [q]):MX B (q::List.replicate n 0):=fun z a=>by
 rcases List.mem_cons.1 a with rfl | a
 ·exact h _ List.mem_cons_self
 rw[List.eq_of_mem_replicate a];have:(0:Rat)<=B:=Rat.natCast_nonneg
 constructor <;> grind
theorem R3 {w:List (List Rat)} {R:Nat} (hw:Ag w) (v:TB R w):∀{u:List (List Rat)} {R0:Nat},Ag u->TB R0 u->Bb u w->∃K:Nat,0<K/\K<=2^CC u.length R0 w.length R/\
  ∀{x:Re} {D B:Nat},In u x->(DN D (co u x)->DN (D*K) (co w x))/\(MX B (co u x)->MX (B*2^CC u.length R0 w.length R) (co w x))
 | [],R0,_,_,_=>⟨1,by decide,by simp[CC],fun {x D B} hx=>by
  obtain⟨q,rfl⟩:=CV.1 hx;rw[DY,KG q hw,Nat.mul_one];refine⟨aq,fun h=>?_⟩;rw[show B*2^CC ([]:List (List Rat)).length R0 w.length R=B by simp[CC]];exact cu h⟩
 | r::u,R0,h,h0,o=>by
  obtain⟨K,hK,f,g⟩:=R3 hw v h.1 h0.tail o.tail;obtain⟨E,M,O,hm⟩:=Iq hw v;obtain⟨D0,I,J,L,Y⟩:=h0.head;have hr:=CX h;have Z:=CQ h;have a:=o.root;have b1:=g (D:=D0) (B:=2^R0) Z;rw[FW h] at b1
  have hv:Bd (R0+CC u.length R0 w.length R) (co w (AP u r)):=by
   refine⟨D0*K,Nat.mul_pos I hK,?_,b1.1 L,?_⟩
   ·rw[Nat.pow_add];exact Nat.mul_le_mul J f
   rw[Nat.pow_add];exact b1.2 Y
  obtain⟨F,hF,U,Q,W⟩:=R7 hw v a hr hv;refine⟨K*(F*E),Nat.mul_pos hK (Nat.mul_pos hF M),?_,fun {x D B} hx=>?_⟩
  ·have h1:=Nat.mul_le_mul f (Nat.mul_le_mul U O);simp only[<-Nat.pow_add] at h1;exact Nat.le_trans h1 (Cg (by rw[List.length_cons,CC];omega))
  obtain⟨p,q,G,H,rfl⟩:=Cd.1 hx;rw[DX h G H rfl,DN.app,MX.app];have m:=o.tail _ G;have c:=o.tail _ H;refine⟨fun j=>?_,fun j=>?_⟩
  ·have k1:=(g (B:=0) G).1 j.1;have k2:=(g (B:=0) H).1 j.2;have k3:=hm c a k2 Q;exact DN.GN hw m (Am hw c a) (k1.dvd ⟨F*E,by grind⟩) (k3.dvd ⟨1,by grind⟩)
  have k1:=(g (D:=0) G).2 j.1;have k2:=(g (D:=0) H).2 j.2;have k3:=HB hw v c a k2 W;refine (MX.GN hw m (Am hw c a) k1 k3).mono ?_
  have e:B*2^CC u.length R0 w.length R*2^(R0+CC u.length R0 w.length R+GG w.length R)*2^EE w.length R=B*2^(CC u.length R0 w.length R+(R0+CC u.length R0 w.length R+GG w.length R)+EE w.length R):=by
   rw[Nat.mul_assoc,Nat.mul_assoc,<-Nat.pow_add,<-Nat.pow_add];congr 2;omega
  rw[e,<-Nat.mul_add];refine Nat.mul_le_mul_left B ?_;have e2:CC (r::u).length R0 w.length R=CC u.length R0 w.length R+(R0+CC u.length R0 w.length R+GG w.length R)+EE w.length R+1:=by rw[List.length_cons,CC];omega
  have h3:2^CC u.length R0 w.length R<=2^(CC u.length R0 w.length R+(R0+CC u.length R0 w.length R+GG w.length R)+EE w.length R):=Cg;rw[e2,Nat.pow_succ];omega
theorem El.CG {w u:List (List Rat)} {R R0 s:Nat} {x:Re} (hw:Ag w) (F:TB R w) (hu:Ag u) (h:TB R0 u) (f:Bb u w) (a:El u s x):El w (s+CC u.length R0 w.length R) x:=by
 obtain⟨K,v,c,g⟩:=R3 hw F hu h f;obtain⟨D,j,m,o,r⟩:=a.bd;refine⟨f _ a.mem,D*K,Nat.mul_pos j v,?_,(g (B:=0) a.mem).1 o,?_⟩
 ·rw[Nat.pow_add];exact Nat.mul_le_mul m c
 rw[Nat.pow_add];exact (g (D:=0) a.mem).2 r
inductive Tf (P:List (List Rat)->Prop):List (List Rat)->Prop
 | nil:Tf P []
 | BM {u:List (List Rat)} {r0:List Rat} {u0:List (List Rat)}:Tf P u->P (r0::u0)->Bb u0 u->Tf P (BM u (AP u0 r0))
structure FM (P:List (List Rat)->Prop) (R0:Nat):Prop where
 red:∀{u},P u->Ag u
 tb:∀{u},P u->TB R0 u
 sub:∀{r u},P (r::u)->P u
section
variable {P:List (List Rat)->Prop} {R0:Nat}
theorem Tf.red (I:FM P R0) {u:List (List Rat)} (h:Tf P u):Ag u:=by
 induction h with
 | nil=>trivial
 | BM _ a c f=>exact PS f (c _ (CQ (I.red a))) (I.red a).2.2.1
theorem ZY {u:List (List Rat)} {r:List Rat} (h:Ag (r::u)):BM u (AP u r)=r::u:=by rw[Fu h.2.2.2,FW h]
theorem Tf.of (I:FM P R0):∀{u:List (List Rat)},P u->Tf P u
 | [],_=> .nil
 | r::u,h=>by
  have:=Tf.BM (Tf.of I (I.sub h)) h (Bb.refl u);rwa [ZY (I.red h)] at this
theorem Tf.gen (I:FM P R0) {w:List (List Rat)} (h:Tf P w):∀{r:List Rat} {u:List (List Rat)},w=r::u->Tf P u/\∃c a,P (c::a)/\AP a c=AP u r/\Bb a u:=by
 induction h with
 | nil=>intro r u e;cases e
 | @BM o c a ht g f m=>
  intro r u e
  by_cases j:Sq o (AP a c)
  ·rw[FR j] at e;exact m e
  rw[Fu j] at e;obtain⟨rfl,rfl⟩:=List.cons.inj e;exact⟨ht,c,a,g,(EY (f _ (CQ (I.red g)))).symm,f⟩
theorem Tf.sub (I:FM P R0) {r:List Rat} {u:List (List Rat)} (h:Tf P (r::u)):Tf P u:=(h.gen I rfl).1
theorem Tf.ZX (I:FM P R0) {t u:List (List Rat)} {r:List Rat} (ht:Tf P t) (h:Tf P (r::u)) (c:Bb u t):Tf P (Go.Abs.BM t (AP u r)):=by
 obtain⟨_,g,j,f,e,a⟩:=h.gen I rfl;rw[<-e];exact .BM ht f (a.trans c)
theorem Vh:∀{u:List (List Rat)},Ag u->Bb u []->u=[]
 | [],_,_=>rfl
 | r::u,h,a=>by
  have hu:=Vh h.1 a.tail;subst hu;exact absurd ⟨_,a.root,CX h⟩ h.2.2.2
theorem du {r q:List Rat} {s:List Rat} (h:Ag [q,r]) (G:Ag [s]) (H:Bb [q,r] [s]):False:=by
 have v:=h.1;obtain⟨a,b,B,F,e⟩:=Cd.1 H.tail.root;have J:=CX v;have w:=CX G;have g:Ag ([]:List (List Rat)):=trivial
 by_cases o:b=0
 ·exact v.2.2.2 ⟨a,B,by rw[<-J,e,o];grind⟩
 obtain⟨d,I,L⟩:=EP g F o
 by_cases m:a=0
 ·have j:In [r] (rt [] s):=by
   have:rt [] s=d*rt [] r:=by rw[e,m];grind
   rw[this];exact Am v (G9 I) (Ix [] r)
  have D:Bb [s] [r]:=OD v (TH _) j;exact h.2.2.2 ⟨_,D _ H.root,CX h⟩
 obtain⟨c,M,K⟩:=EP g B m
 have Q:Re.ofRat (1/2)*(1+1)=1:=by
  rw[show (1:Re)=Re.ofRat 1 from rfl,<-Re.ofRat_add,<-Re.ofRat_mul,show (1/2:Rat)*(1+1)=1 by decide +kernel]
 have O:=CQ v;have hw:=CQ G
 have key:rt [] s=(AP [] r-a*a-b*b*AP [] s)*(c*d*Re.ofRat (1/2)):=by
  rw[<-J,<-w,e];generalize rt [] s=t at *;generalize Re.ofRat (1/2)=f at *;grind
 have j:In [] (rt [] s):=by
  rw[key];exact Am g (EZ (EZ O (Am g B B)) (Am g (Am g F F) hw)) (Am g (Am g M I) (G8 _ []))
 exact G.2.2.2 ⟨_,j,w⟩
def RR (R0:Nat):Nat->Nat
 | 0=>R0
 | h+1=>max (RR R0 h) (R0+CC (min h 2) R0 h (RR R0 h))
theorem Qf {R0 h h':Nat} (a:h<=h'):RR R0 h<=RR R0 h':=by
 induction a with
 | refl=>exact Nat.le_refl _
 | step _ c=>exact Nat.le_trans c (Nat.le_max_left _ _)
theorem TB.mono {R R':Nat} {u:List (List Rat)} (h:TB R u) (hR:R<=R'):TB R' u:=fun r a=>(h r a).mono hR
theorem Tf.tb (I:FM P R0) (hm:∀{u},Tf P u->u.length<=3) {u:List (List Rat)} (h:Tf P u):TB (RR R0 u.length) u:=by
 induction h with
 | nil=>intro r g;simp at g
 | @BM u D c ht f j v=>
  by_cases B:Sq u (AP c D)
  ·rw[FR B];exact v
  have w:=hm (Tf.BM ht f j);have o:=hm (Tf.of I f);rw[Fu B] at w ⊢;rw[List.length_cons] at w o;intro r g;rcases List.mem_cons.1 g with rfl | g
  ·have a:=I.red f;have m:El c R0 (AP c D):=⟨CQ a,by rw[FW a];exact (I.tb f).head⟩;have:=(m.CG (ht.red I) v a.1 (I.tb f).tail j).bd;refine this.mono ?_;rw[List.length_cons,RR]
   have G:c.length<=min u.length 2:=by
    have F:c.length<=2:=by omega
    cases u with
    | nil=>rw[Vh a.1 j];exact Nat.zero_le _
    | cons s H=>
     cases H with
     | nil=>
      cases c with
      | nil=>exact Nat.zero_le _
      | cons q J=>
       cases J with
       | nil=>exact Nat.le_refl 1
       | cons r K=>
        have:K=[]:=List.eq_nil_of_length_eq_zero (by simp only[List.length_cons] at F;omega);subst this;exact (du a.1 (ht.red I) j).elim
     | cons _ _=>simp only[List.length_cons];omega
   have:=NK (k:=c.length) (k':=min u.length 2) (R0:=R0) (Jl:=R0) (h:=u.length) (h':=u.length) (R:=RR R0 u.length) (R':=RR R0 u.length) G (Nat.le_refl _) (Nat.le_refl _) (Nat.le_refl _);omega
  exact (v r g).mono (Qf (by rw[List.length_cons];omega))
theorem Tf.gam (I:FM P R0) (hm:∀{u},Tf P u->u.length<=3) {R C S:Nat} (hR:RR R0 3<=R) (f:R<=S) (m:CC 3 R 3 R<=C) (g:∀h,h<=3->Fit h R (S+C)) (o:2*(S+C)+EE 3 R<=60000000000000):Gam (Tf P) R C S:=by
 have a:∀{u},Tf P u->TB R u:=fun {u} h=>(h.tb I hm).mono (Nat.le_trans (Qf (hm h)) hR)
 refine⟨fun {u} h=>⟨h.red I,a h,by omega,by have:=hm h;omega⟩,fun {u} h=>by have:=hm h;omega,.nil,fun {r u} h=>h.sub I,fun {t r u} ht h c=>ht.ZX I h c,fun {u w s x} hu hw c j=>?_,fun {u} h=>g _ (hm h),fun {u} h=>?_,f⟩
 ·refine (j.CG (hw.red I) (a hw) (hu.red I) (a hu) c).mono ?_;have:=NK (k:=u.length) (k':=3) (R0:=R) (Jl:=R) (h:=w.length) (h':=3) (R:=R) (R':=R) (hm hu) (Nat.le_refl _) (hm hw) (Nat.le_refl _);omega
 have:=Ji (h:=u.length) (h':=3) (R:=R) (R':=R) (hm h) (Nat.le_refl _);omega
def Bu:List (List Rat)->List Re
 | []=>[]
 | r::u=>AP u r::Bu u
theorem QA:∀u:List (List Rat),(Bu u).length=u.length
 | []=>rfl
 | r::u=>by rw[Bu,List.length_cons,List.length_cons,QA u]
theorem XE:∀{u:List (List Rat)} {v:Re},v∈Bu u->In u (Re.sqrt v)
 | [],v,h=>by simp[Bu] at h
 | r::u,v,h=>by
  rcases List.mem_cons.1 h with rfl | h
  ·exact Ix u r
  exact G9 (XE h)
theorem QB:∀{u:List (List Rat)},Ag u->(Bu u).Nodup
 | [],_=>List.nodup_nil
 | r::u,h=>by
  rw[Bu,List.nodup_cons];refine⟨fun hm=>h.2.2.2 ⟨_,XE hm,Re.Hk (by have:=h.2.2.1;grind)⟩,QB h.1⟩
theorem Tf.Bu (I:FM P R0) {V:List Re} (m:∀{u},P u->∀v∈Bu u,v∈V) {u:List (List Rat)} (h:Tf P u):∀v∈Go.Abs.Bu u,v∈V:=by
 induction h with
 | nil=>intro v a;simp[Go.Abs.Bu] at a
 | @BM u o r ht c j g=>
  by_cases f:Sq u (AP r o)
  ·rw[FR f];exact g
  rw[Fu f];intro v a;rcases List.mem_cons.1 a with rfl | a
  ·rw[EY (j _ (CQ (I.red c)))];exact m c _ List.mem_cons_self
  exact g v a
theorem O0 {α:Type}:∀{l m:List α},l.Nodup->(∀x∈l,x∈m)->l.length<=m.length
 | [],_,_,_=>Nat.zero_le _
 | x::l,m,h,hm=>by
  rw[List.nodup_cons] at h;obtain⟨a,b,rfl⟩:=List.append_of_mem (hm x List.mem_cons_self)
  have:=O0 (l:=l) (m:=a++b) h.2 (fun y f=>by
   have g:=hm y (List.mem_cons_of_mem _ f);rcases List.mem_append.1 g with c | c
   ·exact List.mem_append_left _ c
   rcases List.mem_cons.1 c with rfl | c
   ·exact absurd f h.1
   exact List.mem_append_right _ c)
  rw[List.length_cons,List.length_append,List.length_cons];rw[List.length_append] at this;omega
theorem Tf.len (I:FM P R0) {V:List Re} (a:∀{u},P u->∀v∈Go.Abs.Bu u,v∈V) {u:List (List Rat)} (h:Tf P u):u.length<=V.length:=by
 rw[<-QA];exact O0 (QB (h.red I)) (h.Bu I a)
end
end Go.Abs
