/- Part 10 of a proof. Conditions: each theorem's own. -/
import Derived.Test.YtmhbikooakmagaaGreatPk08
set_option linter.all false
set_option maxHeartbeats 8000000
set_option maxRecDepth 20000
namespace Go.Abs
variable {A R V b i n q s:Nat} {u:List UInt32}
theorem nv {D M:Nat} (f:Lw R V D) (hV:0<V) (hR:R<M) (c:V<=M):∃(b:Bool) (S:Nat),S+V*D=R+M*b.toNat/\S<M:=by
 have g:=Nat.div_add_mod R V;have a:V*D<=V*(R/V+1):=Nat.mul_le_mul_left _ f.low;rw[Nat.mul_add] at a
 by_cases h:V*D<=R
 ·exact⟨false,R-V*D,by simp;omega,by omega⟩
 refine⟨true,R+M-V*D,?_,by omega⟩;simp
 generalize V*(R/V)=T at*
 omega
theorem oI {x y w:UInt32} (a:u[i+n]? =some x) (h:u[i+n-1]? =some y) (hw:u[i+n-2]? =some w) (j:2<=n) (f:AE (u.drop (i+n+1))=0):
  AE (u.drop i)=(4294967296*(y.toNat+4294967296*x.toNat)+w.toNat)*2^(32*(n-2))+AE ((u.drop i).take (n-2)):=by
 have g:i+n<u.length:=by
  apply Classical.byContradiction;intro hc;rw[List.getElem?_eq_none (by omega)] at a;exact absurd a (by simp)
 have c:=Gf (u.drop i) (n-2) (by rw[List.length_drop];omega);rw[List.drop_drop,show i+(n-2)=i+n-2 by omega,Dt hw,show i+n-2+1=i+n-1 by omega,Dt h,show i+n-1+1=i+n by omega,Dt a,f] at c;rw[c]
 generalize 2^(32*(n-2))=P
 grind
theorem oH {v:List UInt32} {y w:UInt32} (hlen:v.length=n) (f:v[n-1]? =some y) (hw:v[n-2]? =some w) (g:2<=n):
  AE v=(4294967296*y.toNat+w.toNat)*2^(32*(n-2))+AE (v.take (n-2))/\AE v=y.toNat*2^(32*(n-1))+AE (v.take (n-1)):=by
 have a:=Gf v (n-2) (by omega);rw[Dt hw,show n-2+1=n-1 by omega,Dt f,show n-1+1=n by omega,List.drop_eq_nil_of_le (by omega)] at a;have c:=Gf v (n-1) (by omega);rw[Dt f,show n-1+1=n by omega,List.drop_eq_nil_of_le (by omega)] at c
 constructor
 ·rw[a];simp only[AE];generalize 2^(32*(n-2))=P;grind
 rw[c];simp only[AE];generalize 2^(32*(n-1))=P;grind
theorem Lh {l:List UInt32}:AE (l.take n)<2^(32*n):=
 Nat.lt_of_lt_of_le (Cu _) (Nat.pow_le_pow_right (by decide) (by rw[List.length_take];omega))
theorem RA {l:List UInt32} (h:AE l<2^(32*n)) (a:n<=l.length):AE (l.drop n)=0:=by
 have c:=Gf l n a;apply Classical.byContradiction;intro hc;have:2^(32*n)*1<=2^(32*n)*AE (l.drop n):=Nat.mul_le_mul_left _ (by omega);omega
theorem ZT {z:List UInt32} {Q:Nat} (v:z.length=u.length) (a:z.take i=u.take i) (c:z.drop (i+(n+1))=u.drop (i+(n+1))) (hlen:i+(n+1)<=u.length) (h:AE (u.drop (i+n+1))=0)
  (r:q=AE (u.drop i)/V) (o:AE ((z.drop i).take (n+1))=AE (u.drop i)%V) (m:A=AE u+2^(32*(i+1))*Q*V):
  AE (z.drop i)=AE (u.drop i)%V/\A=AE z+2^(32*i)*(q+4294967296*Q)*V:=by
 have f:AE (z.drop i)=AE (u.drop i)%V:=by
  have:=Gf (z.drop i) (n+1) (by rw[List.length_drop];omega);rw[List.drop_drop,c,show i+(n+1)=i+n+1 by omega,h,o] at this;simpa using this
 refine⟨f,?_⟩;have j:=Gf u i (by omega);have h3:=Gf z i (by omega);rw[a,f] at h3;have g:=Nat.div_add_mod (AE (u.drop i)) V;rw[<-r] at g;rw[m,j,h3,EF,<-g]
 generalize 2^(32*i)=P
 grind
theorem Zk (h:i+n<=u.length) (a:AE (u.drop (i+n))=0):AE ((u.drop i).take n)=AE (u.drop i):=by
 have:=Gf (u.drop i) n (by rw[List.length_drop];omega);rw[List.drop_drop,a] at this;simpa using this.symm
theorem MJ {x:UInt32} (h:(AQ b)[i]? =some x) (a:i+1=(AQ b).length):x.toNat≠0:=by
 intro c;have hb:b≠0:=fun e=>by subst e;simp[Gy] at a
 have f:=Xp hb;have g:=Ck h;rw[a,List.take_length,BS,c] at g;have h3:=Cu ((AQ b).take i);rw[List.length_take,Nat.min_eq_left (by omega)] at h3;rw[<-a,Nat.add_sub_cancel] at f;omega
theorem Zx {k:Nat} {x:UInt32} (a:(AQ b).length=n) (g:1<=n) (v:(AQ b)[n-1]? =some x) (f:2^(k-1)<=x.toNat) (h:x.toNat<2^k) (H:1<=k) (o:k<=32) (I:s=32-k):
  (AQ (b*2^s)).length=n/\2147483648*2^(32*(n-1))<=b*2^s:=by
 have c:2^(k-1)*2^s=2147483648:=by rw[<-Nat.pow_add,show k-1+s=31 by omega]
 have e2:2^k*2^s=4294967296:=by rw[<-Nat.pow_add,show k+s=32 by omega]
 have h3:=Ck v;rw[show n-1+1=n by omega,<-a,List.take_length,BS,a] at h3;have j:=Cu ((AQ b).take (n-1));rw[List.length_take,Nat.min_eq_left (by omega)] at j;have r:2^(32*n)=4294967296*2^(32*(n-1)):=by rw[<-EF,show n-1+1=n by omega]
 generalize m:2^(32*(n-1))=P at*
 have low:2147483648*P<=b*2^s:=by
  rw[<-c,h3];have:2^(k-1)*2^s*P<=x.toNat*2^s*P:=Nat.mul_le_mul_right _ (Nat.mul_le_mul_right _ f);have:(AE (List.take (n-1) (AQ b))+P*x.toNat)*2^s=AE (List.take (n-1) (AQ b))*2^s+x.toNat*2^s*P:=by grind
  omega
 refine⟨?_,low⟩
 have up:b*2^s<2^(32*n):=by
  rw[r,<-e2];have w:b<(x.toNat+1)*P:=by rw[h3,Nat.add_mul,Nat.mul_comm P];omega
  have B:(x.toNat+1)*P<=2^k*P:=Nat.mul_le_mul_right _ h;have D:b*2^s<2^k*P*2^s:=(Nat.mul_lt_mul_right (Nat.two_pow_pos s)).2 (by omega);have:2^k*2^s*P=2^k*P*2^s:=by grind
  omega
 have F:=Gx up;have G:=Xf (n:=b*2^s) (k:=n-1) (by rw[m];omega);omega
theorem PT (l:List UInt32) (h:s<=31:=by omega):AE l*2^s<2^(32*(l.length+1)):=by
 rw[EF,Nat.mul_comm 4294967296];exact Nat.mul_lt_mul_of_lt_of_le (Cu l) (Nat.le_trans (Nat.pow_le_pow_right (by decide) h:2^s<=2^31) (by decide)) (by decide)
theorem iG {a rest:Nat} (h:2147483648*2^(32*(n-1))<=V) (hV:V=a*2^(32*(n-1))+rest) (c:rest<2^(32*(n-1))):2147483648<=a:=by
 generalize 2^(32*(n-1))=P at*
 apply Classical.byContradiction;intro hc;have:(a+1)*P<=2147483648*P:=Nat.mul_le_mul_right _ (by omega);rw[Nat.add_mul] at this;omega
theorem aM {l:List UInt32} {m:Nat} (hu:AE u=AE l*2^s) (h:s<=31) (hlen:u.length=l.length+1) (hm:m+n=l.length+1) (r:1<=n) (hV:2147483648*2^(32*(n-1))<=V):AE (u.drop m)<V:=by
 have a:=Gf u m (by omega);have c:=Cu l;have h3:2^(32*l.length)=2^(32*m)*2^(32*(n-1)):=by rw[<-Nat.pow_add,show 32*m+32*(n-1)=32*l.length by omega]
 have f:2^s<=2147483648:=Nat.le_trans (Nat.pow_le_pow_right (by decide) h:2^s<=2^31) (by decide);have g:AE l*2^s<2^(32*l.length)*2147483648:=Nat.mul_lt_mul_of_lt_of_le c f (by decide);rw[hu,] at a;rw[h3] at g;have v:=Nat.two_pow_pos (32*m)
 generalize 2^(32*m)=P at*
 generalize 2^(32*(n-1))=N at*
 apply Classical.byContradiction;intro hc;have j:P*(2147483648*N)<=P*AE (u.drop m):=Nat.mul_le_mul_left _ (by omega);have o:P*N*2147483648=P*(2147483648*N):=by grind
 omega
theorem oJ {x y:UInt32} (a:u[i+n]? =some x) (h:u[i+n-1]? =some y) (j:1<=n) (f:AE (u.drop (i+n+1))=0):
  AE (u.drop i)=(y.toNat+4294967296*x.toNat)*2^(32*(n-1))+AE ((u.drop i).take (n-1)):=by
 have g:i+n<u.length:=by
  apply Classical.byContradiction;intro hc;rw[List.getElem?_eq_none (by omega)] at a;exact absurd a (by simp)
 have c:=Gf (u.drop i) (n-1) (by rw[List.length_drop];omega);rw[List.drop_drop,show i+(n-1)=i+n-1 by omega,Dt h,show i+n-1+1=i+n by omega,Dt a,f] at c;rw[c]
 generalize 2^(32*(n-1))=P
 grind
theorem oG {top high P c a:Nat} (hR:R=top*P+c) (hV:V=high*P+a) (f:a<P) (h:R<4294967296*V):top<4294967296*(high+1):=by
 apply Classical.byContradiction;intro hc;have g:4294967296*(high+1)*P<=top*P:=Nat.mul_le_mul_right _ (by omega);have j:4294967296*(high+1)*P=4294967296*(high*P)+4294967296*P:=by grind
 omega
theorem WY {a r:Nat} (g:A=a*2^s) (hV:V=b*2^s) (h:A=r+q*V) (D:r<V) (hb:0<b):q=a/b/\r/2^s=a%b:=by
 have j:=Nat.two_pow_pos s;have w:=Nat.div_add_mod a b;have B:=Nat.mod_lt a hb
 have e:a*2^s=(a%b)*2^s+(a/b)*V:=by rw[hV];conv=>lhs;rw[<-w]
                                    grind
 have f:(a%b)*2^s<V:=by rw[hV];exact (Nat.mul_lt_mul_right j).2 B
 have c:0<V:=by omega
 have m:q=a/b:=by
  have o:A/V=q:=by rw[h,Nat.add_mul_div_right _ _ c,Nat.div_eq_of_lt D,Nat.zero_add]
  have v:A/V=a/b:=by rw[g,e,Nat.add_mul_div_right _ _ c,Nat.div_eq_of_lt f,Nat.zero_add]
  rw[<-o,v]
 refine⟨m,?_⟩;have:r=(a%b)*2^s:=by rw[g,e,m] at h;omega
 rw[this,Nat.mul_div_cancel _ j]
end Go.Abs
namespace Go.Abs
def CY (x y:Int):Int:=if 0<=y then x/y else (-x)/(-y)
variable {N X:Nat} {b:Bool} {x y:Int}
theorem Kq {a b q r:Int} (hb:0<b) (h:a=b*q+r) (c:0<=r) (f:r<b):a/b=q:=((Int.ediv_emod_unique hb).2 ⟨by omega,c,f⟩).1
theorem WT (j:y≠0) (c:decide (x<0)=decide (y<0)):CY x y=((x.natAbs/y.natAbs:Nat):Int):=by
 have f:=Nat.div_add_mod x.natAbs y.natAbs;have hm:=Nat.mod_lt x.natAbs (by omega:0<y.natAbs)
 generalize x.natAbs/y.natAbs=q at*
 generalize x.natAbs%y.natAbs=r at*
 have a:(y.natAbs:Int)*q+r=x.natAbs:=by rw[<-f];simp
 unfold CY
 by_cases h:0<=y
 ·rw[if_pos h]
  have:¬x<0:=by intro g;have:y<0:=by simpa [g] using c
                omega
  rw[show (y.natAbs:Int)=y by omega,show (x.natAbs:Int)=x by omega] at a;exact Kq (r:=r) (by omega) a.symm (by omega) (by omega)
 rw[if_neg h]
 have:x<0:=by have:y<0:=by omega
              simpa [this] using c
 rw[show (y.natAbs:Int)= -y by omega,show (x.natAbs:Int)= -x by omega] at a;exact Kq (r:=r) (by omega) a.symm (by omega) (by omega)
theorem WQ (m:y≠0) (g:decide (x<0)≠decide (y<0)) (j:x.natAbs%y.natAbs=0):CY x y= -((x.natAbs/y.natAbs:Nat):Int):=by
 have f:=Nat.div_add_mod x.natAbs y.natAbs;rw[j] at f
 generalize x.natAbs/y.natAbs=q at*
 have a:(y.natAbs:Int)*q=x.natAbs:=by rw[<-f];simp
 unfold CY
 by_cases h:0<=y
 ·rw[if_pos h]
  have c:x<0:=by
   apply Classical.byContradiction;intro c;exact g (by rw[decide_eq_false c,decide_eq_false (by omega)])
  rw[show (y.natAbs:Int)=y by omega,show (x.natAbs:Int)= -x by omega] at a;exact Kq (r:=0) (by omega) (by rw[Int.mul_neg,a];omega) (by omega) (by omega)
 rw[if_neg h]
 have c:¬x<0:=by
  intro c;exact g (by rw[decide_eq_true c,decide_eq_true (by omega)])
 rw[show (y.natAbs:Int)= -y by omega,show (x.natAbs:Int)=x by omega] at a;exact Kq (r:=0) (by omega) (by rw[Int.mul_neg,a];omega) (by omega) (by omega)
theorem WR (m:y≠0) (f:decide (x<0)≠decide (y<0)) (j:x.natAbs%y.natAbs≠0):CY x y= -((x.natAbs/y.natAbs+1:Nat):Int):=by
 have g:=Nat.div_add_mod x.natAbs y.natAbs;have hm:=Nat.mod_lt x.natAbs (by omega:0<y.natAbs)
 generalize x.natAbs/y.natAbs=q at*
 generalize x.natAbs%y.natAbs=r at*
 have a:(y.natAbs:Int)*q+r=x.natAbs:=by rw[<-g];simp
 unfold CY
 by_cases h:0<=y
 ·rw[if_pos h]
  have c:x<0:=by
   apply Classical.byContradiction;intro c;exact f (by rw[decide_eq_false c,decide_eq_false (by omega)])
  rw[show (y.natAbs:Int)=y by omega,show (x.natAbs:Int)= -x by omega] at a;refine Kq (r:=y-r) (by omega) ?_ (by omega) (by omega);rw[Int.natCast_add,Int.mul_neg,Int.mul_add];omega
 rw[if_neg h]
 have c:¬x<0:=by
  intro c;exact f (by rw[decide_eq_true c,decide_eq_true (by omega)])
 rw[show (y.natAbs:Int)= -y by omega,show (x.natAbs:Int)=x by omega] at a;refine Kq (r:= -y-r) (by omega) ?_ (by omega) (by omega);rw[Int.natCast_add,Int.mul_neg,Int.mul_add];omega
def Hn (x y:Int):Int:=x-y*CY x y
theorem Rq:(y.natAbs:Int)*((x.natAbs/y.natAbs:Nat):Int)+((x.natAbs%y.natAbs:Nat):Int)=x.natAbs:=by
 rw[<-Int.natCast_mul,<-Int.natCast_add,Nat.div_add_mod]
theorem jz (hb:b=decide (y<0)) (g:y≠0) (a:decide (x<0)=decide (y<0)):Hn x y=if b=true then -((x.natAbs%y.natAbs:Nat):Int) else ((x.natAbs%y.natAbs:Nat):Int):=by
 have f:= @Rq x y;unfold Hn;rw[WT g a]
 generalize x.natAbs/y.natAbs=q at*
 generalize x.natAbs%y.natAbs=r at*
 by_cases h:y<0
 ·have c:x<0:=by simpa [h] using a
  rw[hb,decide_eq_true h,if_pos rfl];rw[show (y.natAbs:Int)= -y by omega,show (x.natAbs:Int)= -x by omega,Int.neg_mul] at f;omega
 have c:¬x<0:=by intro c;simp[c,h] at a
 rw[hb,decide_eq_false h,if_neg (by simp)];rw[show (y.natAbs:Int)=y by omega,show (x.natAbs:Int)=x by omega] at f;omega
theorem jx (j:y≠0) (f:decide (x<0)≠decide (y<0)) (g:x.natAbs%y.natAbs=0):Hn x y=if b=true then -((x.natAbs%y.natAbs:Nat):Int) else ((x.natAbs%y.natAbs:Nat):Int):=by
 have c:= @Rq x y;unfold Hn;rw[WQ j f g];rw[g] at c ⊢
 generalize x.natAbs/y.natAbs=q at*
 have e:x-y* -(q:Int)=0:=by
  by_cases h:y<0
  ·have a:¬x<0:=by intro a;exact f (by rw[decide_eq_true a,decide_eq_true h])
   rw[show (y.natAbs:Int)= -y by omega,show (x.natAbs:Int)=x by omega,Int.neg_mul] at c;rw[Int.mul_neg];omega
  have a:x<0:=by apply Classical.byContradiction;intro a;exact f (by rw[decide_eq_false a,decide_eq_false h])
  rw[show (y.natAbs:Int)=y by omega,show (x.natAbs:Int)= -x by omega] at c;rw[Int.mul_neg];omega
 rw[e];cases b <;> rfl
theorem jy (hb:b=decide (y<0)) (j:y≠0) (c:decide (x<0)≠decide (y<0)) (g:x.natAbs%y.natAbs≠0):
  Hn x y=if b=true then -((y.natAbs-x.natAbs%y.natAbs:Nat):Int) else ((y.natAbs-x.natAbs%y.natAbs:Nat):Int):=by
 have f:= @Rq x y;have hm:=Nat.mod_lt x.natAbs (by omega:0<y.natAbs);unfold Hn;rw[WR j c g]
 generalize x.natAbs/y.natAbs=q at*
 generalize x.natAbs%y.natAbs=r at*
 rw[Int.natCast_add,Int.mul_neg,Int.mul_add]
 by_cases h:y<0
 ·have a:¬x<0:=by intro a;exact c (by rw[decide_eq_true a,decide_eq_true h])
  rw[hb,decide_eq_true h,if_pos rfl];rw[show (y.natAbs:Int)= -y by omega,show (x.natAbs:Int)=x by omega,Int.neg_mul] at f;omega
 have a:x<0:=by apply Classical.byContradiction;intro a;exact c (by rw[decide_eq_false a,decide_eq_false h])
 rw[hb,decide_eq_false h,if_neg (by simp)];rw[show (y.natAbs:Int)=y by omega,show (x.natAbs:Int)= -x by omega] at f;omega
theorem aL (r:Bq N<=X) (a:0<X):Bq N<=(X+N/X)/2:=by
 have h:=MY N
 generalize Bq N=s at*
 have j:X*(N/X)+N%X=N:=Nat.div_add_mod N X;have h3:=Nat.mod_lt N a
 generalize N/X=q at*
 rw[Nat.le_div_iff_mul_le (by decide)];apply Classical.byContradiction;intro hc;have m:X+q+1<=2*s:=by omega
 obtain⟨d,rfl⟩:∃d,X=s+d:=⟨X-s,by omega⟩
 have c:q+1<=s-d:=by omega
 have f:(s+d)*(q+1)<=(s+d)*(s-d):=Nat.mul_le_mul_left _ c
 have o:(s+d)*(s-d)<=s*s:=by
  by_cases g:d<=s
  ·obtain⟨e,rfl⟩:∃e,s=e+d:=⟨s-d,by omega⟩
   have:(e+d)*(e+d)=(e+d+d)*e+d*d:=by grind
   rw[Nat.add_sub_cancel];omega
  rw[show s-d=0 by omega];simp
 rw[Nat.mul_add] at f;omega
theorem nq (j:Bq N<=X) (a:0<X) (h:X<=(X+N/X)/2):Bq N=X:=by
 have c:X<=N/X:=by omega
 have f:X*X<=N:=by
  have:=(Nat.le_div_iff_mul_le a).1 c;exact this
 have h3:=Ok N;have g:X<Bq N+1:=Nat.mul_self_lt_mul_self_iff.1 (by omega);omega
theorem nr (h:N≠0):Bq N<=2^((Nat.log2 N+1)/2+1):=by
 apply Classical.byContradiction;intro hc;have a:=MY N;have c:N<2^(Nat.log2 N+1):=(Nat.log2_lt h).1 (Nat.lt_succ_self _);have h3:2^((Nat.log2 N+1)/2+1)*2^((Nat.log2 N+1)/2+1)<=Bq N*Bq N:=Nat.mul_le_mul (by omega) (by omega);rw[<-Nat.pow_add] at h3;have f:2^(Nat.log2 N+1)<=2^((Nat.log2 N+1)/2+1+((Nat.log2 N+1)/2+1)):=Nat.pow_le_pow_right (by decide) (by omega);omega
end Go.Abs
namespace Go.Abs
structure Bn (q:Rat) (b1:Bool) (l1:List UInt32) (b2:Bool) (l2:List UInt32):Prop where
 num:As q.num b1 l1
 den:As (q.den:Int) b2 l2
variable {b' VQ b1 b2:Bool} {d y z:Int} {k:Nat} {l l' Oc l1 l2:List UInt32}
theorem CH (q:Rat):∃b1 l1 b2 l2,Bn q b1 l1 b2 l2:=⟨_,_,_,_,⟨rfl,rfl⟩,⟨rfl,rfl⟩⟩
theorem Bn.uniq {p q:Rat} {c1 c2:Bool} {m1 m2:List UInt32} (h:Bn p b1 l1 b2 l2) (h':Bn q c1 m1 c2 m2) (e:p=q):(b1=c1/\l1=m1)/\(b2=c2/\l2=m2):=by
 subst e;exact⟨h.num.uniq h'.num rfl,h.den.uniq h'.den rfl⟩
structure CL (q:Rat):Prop where
 num:(AQ q.num.natAbs).length<=4000000000000
 den:(AQ q.den).length<=4000000000000
theorem Bn.small {q:Rat} (h:Bn q b1 l1 b2 l2) (s:CL q):l1.length<=4000000000000/\l2.length<=4000000000000:=by
 rw[h.num.Bh,h.den.Bh];exact⟨s.num,by simpa using s.den⟩
theorem WS (x:Int):CY x 1=x:=by unfold CY;simp
theorem Oi {n:Int} (f:d≠0):(Rat.divInt n d).num=CY n (if d<0 then -((Nat.gcd n.natAbs d.natAbs:Nat):Int) else ((Nat.gcd n.natAbs d.natAbs:Nat):Int)):=by
 rw[Rat.num_divInt];have c:Int.gcd d n=Nat.gcd n.natAbs d.natAbs:=by rw[Int.gcd_comm];rfl
 have a:0<Nat.gcd n.natAbs d.natAbs:=Nat.gcd_pos_of_pos_right _ (by omega);rw[c];unfold CY
 by_cases h:d<0
 ·rw[if_pos h,if_neg (by omega),Int.sign_eq_neg_one_of_neg h,Int.neg_neg,Int.neg_one_mul]
 rw[if_neg h,if_pos (by omega),Int.sign_eq_one_of_pos (by omega),Int.one_mul]
theorem Oh {n:Int} (c:d≠0):((Rat.divInt n d).den:Int)=CY d (if d<0 then -((Nat.gcd n.natAbs d.natAbs:Nat):Int) else ((Nat.gcd n.natAbs d.natAbs:Nat):Int)):=by
 rw[Rat.den_divInt,if_neg c];have f:Int.gcd d n=Nat.gcd n.natAbs d.natAbs:=by rw[Int.gcd_comm];rfl
 have a:0<Nat.gcd n.natAbs d.natAbs:=Nat.gcd_pos_of_pos_right _ (by omega);rw[f,Int.natCast_ediv];unfold CY
 by_cases h:d<0
 ·rw[if_pos h,if_neg (by omega),Int.neg_neg,show (d.natAbs:Int)= -d by omega]
 rw[if_neg h,if_pos (by omega),show (d.natAbs:Int)=d by omega]
theorem jS:AQ 1=[1]:=by decide +kernel
theorem SD {x:Int} {b:Bool} (h:As x b l) (e:b=true):false=decide (x=1):=by
 have:=h.neg;rw[e] at this;have a:x<0:=by simpa using this.symm
 simp;omega
theorem YY {x:Int} {b:Bool} (h:As x b l) (e:¬l.length=1):false=decide (x=1):=by
 have a:x≠1:=by
  intro c;subst c;apply e;rw[h.Bh];exact congrArg List.length jS
 simp[a]
theorem SF {x:Int} {b:Bool} {w:UInt32} (h:As x b l) (hb:b=false) (e:l.length=1) (hw:l[0]? =some w):decide (w.toNat=1)=decide (x=1):=by
 have g:l=[w]:=by
  match l,e,hw with
  | [a],_,hw=>simp at hw;rw[hw]
 have c:=h.nat;rw[g] at c;have f:AE [w]=w.toNat:=by simp[AE]
 rw[f] at c;have h3:=h.neg;rw[hb] at h3;have j:¬x<0:=by simpa using h3.symm
 rw[Bool.eq_iff_iff];simp;omega
theorem Ol (n:Nat):n<2^(32*(AQ n).length):=by
 have h:=Cu (AQ n);rwa [BS] at h
theorem jR (a b:Nat):(AQ (a*b)).length<=(AQ a).length+(AQ b).length:=by
 apply Gx;rw[Nat.mul_add,Nat.pow_add];exact Nat.mul_lt_mul_of_lt_of_le (Ol a) (Nat.le_of_lt (Ol b)) (Nat.pow_pos (by decide))
theorem jQ {a b:Nat} (ha:(AQ a).length<=k) (hb:(AQ b).length<=k):(AQ (a+b)).length<=k+1:=by
 apply Gx;have c:=Nat.lt_of_lt_of_le (Ol a) (Nat.pow_le_pow_right (n:=2) (by decide) (Nat.mul_le_mul_left 32 ha));have f:=Nat.lt_of_lt_of_le (Ol b) (Nat.pow_le_pow_right (n:=2) (by decide) (Nat.mul_le_mul_left 32 hb));rw[Nat.mul_add,Nat.pow_add];have h3:2^(32*k)*2<=2^(32*k)*2^(32*1):=Nat.mul_le_mul_left _ (by decide);omega
theorem As.Di {x:Int} {b:Bool} (h:As x b l) (h':As y b' l') (a:As z VQ Oc) (e:z=x*y):Oc.length<=l.length+l'.length:=by
 rw[h.Bh,h'.Bh,a.Bh,e,Int.natAbs_mul];exact jR _ _
theorem As.Nv {x:Int} {b:Bool} (h:As x b l) (h':As y b' l') (c:As z VQ Oc) (e:z=x+y) (f:l.length<=k) (a:l'.length<=k):Oc.length<=k+1:=by
 rw[h.Bh] at f;rw[h'.Bh] at a;rw[c.Bh,e];exact Nat.le_trans (EM (Int.natAbs_add_le x y)) (jQ f a)
theorem Hf (q:Rat):(q.den:Int)≠0:=by have:=q.den_nz;omega
theorem QE (p q:Rat):p+q=Rat.divInt (p.num*q.den+q.num*p.den) ((p.den:Int)*q.den):=by
 have h:=Rat.divInt_add_divInt p.num q.num (Hf p) (Hf q);rwa [Rat.num_divInt_den,Rat.num_divInt_den] at h
theorem Ou (p q:Rat):p*q=Rat.divInt (p.num*q.num) ((p.den:Int)*q.den):=by
 have h:=Rat.divInt_mul_divInt p.num q.num (d₁:=p.den) (d₂:=q.den);rwa [Rat.num_divInt_den,Rat.num_divInt_den] at h
theorem gP (p q:Rat):p/q=Rat.divInt (p.num*q.den) ((p.den:Int)*q.num):=by
 have h:=Rat.divInt_mul_divInt p.num q.den (d₁:=p.den) (d₂:=q.num);rw[<-Rat.inv_divInt q.num q.den,Rat.num_divInt_den,Rat.num_divInt_den] at h;rw[Rat.div_def,h]
theorem WU (x:Int):Rat.divInt x 1=(x:Rat):=Rat.num_divInt_den (x:Rat)
theorem WW (x:Int):(Rat.divInt x 1).num=x:=by rw[WU];rfl
theorem WV (x:Int):(Rat.divInt x 1).den=1:=by rw[WU];rfl
theorem JD {p q:Rat} (a:(p.den:Int)=1) (c:(q.den:Int)=1):(p+q).num=p.num+q.num/\(p+q).den=1:=by
 rw[QE,a,c];simp only[Int.mul_one];exact⟨WW _,WV _⟩
theorem mul_ones {p q:Rat} (a:(p.den:Int)=1) (c:(q.den:Int)=1):(p*q).num=p.num*q.num/\(p*q).den=1:=by
 rw[Ou,a,c];simp only[Int.mul_one];exact⟨WW _,WV _⟩
theorem aA (r:Rat):(r*r).num=r.num*r.num/\(r*r).den=r.den*r.den:=by
 have hc:(r.num*r.num).natAbs.Coprime (r.den*r.den):=by
  rw[Int.natAbs_mul];have h:=r.reduced;exact Nat.Coprime.mul_right (Nat.Coprime.mul_left h h) (Nat.Coprime.mul_left h h)
 have a:r.den*r.den≠0:=Nat.mul_ne_zero r.den_nz r.den_nz;have h:=Rat.num_divInt_den (⟨r.num*r.num,r.den*r.den,a,hc⟩:Rat);have c:=Ou r r
 have h3:(⟨r.num*r.num,r.den*r.den,a,hc⟩:Rat)=r*r:=by
  rw[c,<-h];exact congrArg _ (Int.natCast_mul _ _)
 rw[<-h3];exact⟨rfl,rfl⟩
theorem XR (n:Nat):Bq (n*n)=n:=XS (Nat.le_refl _) (by rw[Nat.add_mul,Nat.mul_add];omega)
theorem aJ {r q:Rat} (c:0<=r) (h:r*r=q):((Bq q.num.toNat:Nat):Int)=r.num/\r.num*r.num=q.num:=by
 have a:=(aA r).1;rw[h] at a;have g:0<=r.num:=Rat.num_nonneg.2 c;refine⟨?_,a.symm⟩;obtain⟨k,f⟩:=Int.eq_ofNat_of_zero_le g;rw[a,f];rw[show ((k:Int)*k).toNat=k*k by rw[<-Int.natCast_mul];rfl,XR]
theorem aI {r q:Rat} (c:0<=r) (h:r*r=q):((Bq (q.den:Int).toNat:Nat):Int)=(r.den:Int)/\(r.den:Int)*r.den=(q.den:Int):=by
 have a:=(aA r).2;rw[h] at a;refine⟨?_,by rw[a];exact (Int.natCast_mul _ _).symm⟩;rw[a,Int.toNat_natCast,XR]
theorem aH {q:Rat} (c:((Bq q.num.toNat:Nat):Int)*((Bq q.num.toNat:Nat):Int)=q.num) (a:((Bq (q.den:Int).toNat:Nat):Int)*((Bq (q.den:Int).toNat:Nat):Int)=(q.den:Int)):∃r:Rat,0<=r/\r*r=q:=by
 refine⟨Rat.divInt ((Bq q.num.toNat:Nat):Int) ((Bq (q.den:Int).toNat:Nat):Int),?_,?_⟩
 ·exact Rat.divInt_nonneg (Int.natCast_nonneg _) (Int.natCast_nonneg _)
 rw[Rat.divInt_mul_divInt,c,a,Rat.num_divInt_den]
def IT (b1:Bool) (l1:List UInt32) (b2:Bool) (l2:List UInt32):Bool:=Hx b1 l1&&(Hx b2 l2&&(!b2&&(decide (l2≠[])&&decide (Nat.gcd (AE l1) (AE l2)=1))))
theorem TV:IT b1 l1 b2 l2=true↔∃q,Bn q b1 l1 b2 l2:=by
 unfold IT;simp only[Bool.and_eq_true,Bool.not_eq_true',decide_eq_true_eq]
 constructor
 ·rintro⟨j,m,h3,o,c⟩
  obtain⟨x,g⟩:=Lo.1 j;obtain⟨y,a⟩:=Lo.1 m;have r:y≠0:=fun e=>o (a.nil.2 e)
  have f:=a.neg;rw[h3] at f;have v:¬y<0:=by simpa using f.symm
  rw[g.nat,a.nat] at c;refine⟨⟨x,y.natAbs,by omega,c⟩,g,?_⟩
  show As ((y.natAbs:Nat):Int) b2 l2
  rw[show ((y.natAbs:Nat):Int)=y by omega];exact a
 rintro⟨q,h⟩
 refine⟨Lo.2 ⟨_,h.num⟩,Lo.2 ⟨_,h.den⟩,?_,fun e=>q.den_nz (by have:=h.den.nil.1 e;omega),?_⟩
 ·rw[h.den.neg];simp
 rw[h.num.nat,h.den.nat,Int.natAbs_natCast];exact q.reduced
def Ez (q:Rat):Int:=CZ q.num
def HH (p q:Rat):Int:=if p<q then -1 else if q<p then 1 else 0
end Go.Abs
namespace Go.Abs
open Go.RowKit
def rp (q:Rat):el AA:=((decide (q.num<0),AQ q.num.natAbs),(decide ((q.den:Int)<0),AQ q.den))
theorem HK (q:Rat):Bn q (rp q).1.1 (rp q).1.2 (rp q).2.1 (rp q).2.2:=⟨⟨rfl,rfl⟩,⟨rfl,rfl⟩⟩
theorem Bn.rp {q:Rat} {b1 b2:Bool} {l1 l2:List UInt32} (h:Bn q b1 l1 b2 l2):rp q=((b1,l1),(b2,l2)):=by
 have u:=h.uniq (HK q) rfl;rw[u.1.1,u.1.2,u.2.1,u.2.2]
abbrev BD (X:List Rat):List (el AA):=X.map rp
def D7 (X:List Rat):Prop:=∀q∈X,CL q
structure Nh (ts:List (List Rat)):Prop where
 small:∀x∈ts,D7 x
 Q9:ts.length<=16
 form:∀i x,ts[i]? =some x->x.length=2^i
end Go.Abs
namespace Go.Abs
open Go.RowKit
noncomputable def em (u:List (List Rat)) (x:Re):List (el AA):=BD (co u x)
def tw (u:List (List Rat)):List (List (el AA)):=u.reverse.map BD
structure At (R:Nat) (u:List (List Rat)):Prop where
 red:AZ u
 tb:TB R u
 hR:R<=60000000000000
 ht:u.length<=16
structure El (u:List (List Rat)) (s:Nat) (x:Re):Prop where
 mem:In u x
 bd:Bd s (co u x)
variable {R k n s t:Nat} {p x y:Re}
theorem Xo (h:n<=2^(2*k)) (c:k<=60000000000000):(AQ n).length<=4000000000000:=by
 obtain⟨m,hm⟩:=xN 3999999999999;have a:n<2^(32*m):=Nat.lt_of_le_of_lt h (Nat.pow_lt_pow_right (by decide) (by omega));have:=Gx a;omega
theorem gL {q:Rat} {D:Nat} {n:Int} (h:q*D=n) (g:0<D):q.den<=D:=by
 have a:=LU q
 have c:((q.num*D:Int):Rat)=((n*q.den:Int):Rat):=by
  rw[Rat.intCast_mul,Rat.intCast_mul,<-h,<-a];have j:((D:Int):Rat)=(D:Rat):=rfl;have e2:((q.den:Int):Rat)=(q.den:Rat):=rfl
  grind
 have h3:q.num*D=n*q.den:=Rat.intCast_inj.1 c
 have f:q.den∣q.num.natAbs*D:=by
  refine⟨n.natAbs,?_⟩;have:=congrArg Int.natAbs h3;rw[Int.natAbs_mul,Int.natAbs_mul,Int.natAbs_natCast,Int.natAbs_natCast] at this;rw[this,Nat.mul_comm]
 exact Nat.le_of_dvd g ((Nat.Coprime.symm q.reduced).dvd_of_dvd_mul_left f)
theorem Bd.CJ {a:List Rat} (h:Bd k a) (j:k<=60000000000000):D7 a:=by
 obtain⟨D,o,r,v,h3⟩:=h;intro q m;obtain⟨n,w⟩:=v q m;have g:q.den<=2^k:=Nat.le_trans (gL w o) r;have hb:=h3 q m
 have c:q.num.natAbs<=2^(2*k):=by
  have f:=Ro (C:=q.den) hb (q:=(q.den:Rat)) ⟨by have:(0:Rat)<=q.den:=Rat.natCast_nonneg;grind,by grind⟩;rw[LU] at f
  have e2:q.num.natAbs<=2^k*q.den:=by
   have B: -((2^k*q.den:Nat):Int)<=q.num:=by
    apply Rat.intCast_le_intCast.1;rw[Rat.intCast_neg];exact f.1
   have F:q.num<=((2^k*q.den:Nat):Int):=Rat.intCast_le_intCast.1 f.2;omega
  have:=Nat.mul_le_mul_left (2^k) g;rw[<-Nat.pow_add] at this;exact Nat.le_trans e2 (Nat.le_trans this (CQ))
 exact⟨Xo c j,Xo (Nat.le_trans g (CQ)) j⟩
theorem El.CJ {u:List (List Rat)} (h:El u s x) (a:s<=60000000000000):D7 (co u x):=h.bd.CJ a
theorem El.len {u:List (List Rat)} (h:El u s x):(co u x).length=2^u.length:=Cr h.mem
theorem Bl {u:List (List Rat)} (h:In u x):(em u x).length=2^u.length:=by rw[em,List.length_map,Cr h]
theorem CB (u:List (List Rat)):(tw u).length=u.length:=by rw[tw,List.length_map,List.length_reverse]
theorem DS (h:n<=16:=by omega):2^n<=65536:=Nat.le_trans (CQ h) (by decide)
theorem NU (r:List Rat) (u:List (List Rat)):tw (r::u)=tw u++[BD r]:=by rw[tw,List.reverse_cons,List.map_append];rfl
theorem Dq (r:List Rat) (u:List (List Rat)):(tw (r::u)).take ((tw (r::u)).length-1)=tw u:=by
 rw[NU,List.length_append,CB];simp[List.take_left' (CB u)]
theorem GA (r:List Rat) (u:List (List Rat)):(tw (r::u))[(tw (r::u)).length-1]? =some (BD r):=by
 rw[NU,List.length_append,CB];simp[List.getElem?_append_right (Nat.le_of_eq (CB u))];rw[CB,Nat.sub_self];rfl
theorem Eu {r:List Rat} {u:List (List Rat)} (h:AZ (r::u)):BD r=em u (AL u r):=by rw[em,Es h]
theorem Co {u:List (List Rat)} {r:List Rat} {q:Re} (h:AZ (r::u)) (c:In u p) (f:In u q) (g:x=p+q*rt u r):(em (r::u) x).take ((em (r::u) x).length/2)=em u p:=by
 have a:In (r::u) x:=CV.2 ⟨p,q,c,f,g⟩;rw[Bl a,B4,show (2^u.length+2^u.length)/2=2^u.length by omega,em,em,BD,BD,<-List.map_take,gI h c f g]
theorem CP {u:List (List Rat)} {r:List Rat} {q:Re} (h:AZ (r::u)) (c:In u p) (f:In u q) (g:x=p+q*rt u r):(em (r::u) x).drop ((em (r::u) x).length/2)=em u q:=by
 have a:In (r::u) x:=CV.2 ⟨p,q,c,f,g⟩;rw[Bl a,B4,show (2^u.length+2^u.length)/2=2^u.length by omega,em,em,BD,BD,<-List.map_drop,gH h c f g]
theorem Fp {u:List (List Rat)} {r:List Rat} {q:Re} (h:AZ (r::u)) (a:In u p) (c:In u q) (f:x=p+q*rt u r):em (r::u) x=em u p++em u q:=by
 rw[em,Cz h a c f,BD,List.map_append];rfl
theorem Wd {u:List (List Rat)} (h:AZ u) (a:In u x) (c:In u y):em u (x+y)=BD (List.zipWith (· + ·) (co u x) (co u y)):=by rw[em,ML h a c]
theorem We {u:List (List Rat)} (h:AZ u) (a:In u x):em u (-x)=BD ((co u x).map (- ·)):=by rw[em,Ko h a]
theorem EJ (q:Rat):em [] (Re.ofRat q)=[rp q]:=by rw[em,De];rfl
theorem Qv {u:List (List Rat)} (h:AZ u):em u 0=BD (List.replicate (2^u.length) 0):=by rw[em,Qn h]
theorem At.tail {r:List Rat} {u:List (List Rat)} (h:At R (r::u)):At R u:=⟨h.red.1,h.tb.tail,h.hR,by have:=h.ht;rw[List.length_cons] at this;omega⟩
theorem Il {α:Type} {l:List α} {i:Nat} {x:α} (h:l[i]? =some x):i<l.length:=by
 apply Classical.byContradiction;intro a;rw[List.getElem?_eq_none (by omega)] at h;exact absurd h (by simp)
theorem LV:∀{u:List (List Rat)},AZ u->∀(i:Nat) (x:List Rat),u.reverse[i]? =some x->x.length=2^i
 | [],_,i,x,h=>by simp at h
 | r::u,a,i,x,h=>by
  rw[List.reverse_cons] at h
  by_cases f:i<u.length
  ·rw[List.getElem?_append_left (by rw[List.length_reverse];exact f)] at h;exact LV a.1 i x h
  rw[List.getElem?_append_right (by rw[List.length_reverse];omega),List.length_reverse] at h
  have c:i-u.length=0:=by
   have:=Il h;simp at this;omega
  rw[c] at h;have:r=x:=by simpa using h
  rw[<-this,a.2.1]
  congr 1;omega
theorem At.G7 {u:List (List Rat)} (h:At R u):Nh u.reverse:=
 ⟨fun x a=>(h.tb x (List.mem_reverse.1 a)).CJ h.hR,by rw[List.length_reverse];exact h.ht,LV h.red⟩
theorem El.DH {r:List Rat} {u:List (List Rat)} (h:At R (r::u)):El u R (AL u r):=⟨B8 h.red,QS h.red h.tb⟩
theorem El.parts {u:List (List Rat)} {r:List Rat} (h:AZ (r::u)) (f:El (r::u) s x):∃p q,x=p+q*rt u r/\El u s p/\El u s q:=by
 obtain⟨p,q,a,c,rfl⟩:=CV.1 f.mem;have:=VZ h a c f.bd;exact⟨p,q,rfl,⟨a,this.1⟩,⟨c,this.2⟩⟩
theorem El.mono {u:List (List Rat)} (h:El u s x) (a:s<=t):El u t x:=⟨h.mem,h.bd.mono a⟩
theorem El.add {u:List (List Rat)} (h:AZ u) (a:El u s x) (c:El u t y):El u (s+t+1) (x+y):=⟨DK a.mem c.mem,VU h a.mem c.mem a.bd c.bd⟩
theorem El.sub {u:List (List Rat)} (h:AZ u) (a:El u s x) (c:El u t y):El u (s+t+1) (x-y):=⟨FY a.mem c.mem,fX h a.mem c.mem a.bd c.bd⟩
theorem El.neg {u:List (List Rat)} (h:AZ u) (a:El u s x):El u s (-x):=⟨Gw a.mem,Va h a.mem a.bd⟩
theorem El.mul {u:List (List Rat)} (h:At R u) (a:El u s x) (c:El u t y):El u (s+t+EE u.length R) (x*y):=⟨Aj h.red a.mem c.mem,fU h.red h.tb a.mem c.mem a.bd c.bd⟩
theorem El.norm {u:List (List Rat)} {r:List Rat} {q:Re} (h:At R (r::u)) (a:In u p) (c:In u q) (f:El (r::u) s (p+q*rt u r)):El u (2*s+2*EE u.length R+R+1) (p*p-q*q*AL u r):=
 ⟨FY (Aj h.red.1 a a) (Aj h.red.1 (Aj h.red.1 c c) (B8 h.red)),Vb h.red h.tb a c f.bd⟩
theorem El.inv {u:List (List Rat)} (h:At R u) (a:El u s x) (c:In u y) (e:x*y=1):El u (II u.length R s) y:=⟨c,Ii h.red h.tb a.mem c e a.bd⟩
theorem El.sqrt {u:List (List Rat)} {w:Re} (h:At R u) (a:El u s x) (hw:In u w) (e:w*w=x):El u (s+GG u.length R) w:=⟨hw,QT h.red h.tb hw e a.bd⟩
theorem El.rat {u:List (List Rat)} {q:Rat} (h:AZ u) (a:Bd s [q]):El u s (Re.ofRat q):=⟨Hj q u,fV h a⟩
theorem E1:∀(h R s:Nat),2*s<=II h R s
 | 0,_,_=>Nat.le_refl _
 | h+1,R,s=>by
  have:=E1 h R (2*s+2*EE h R+R+1);rw[II];omega
theorem YL {u:List (List Rat)} {r:List Rat} {q:Re} (h:AZ (r::u)) (f:In u p) (g:In u q) (a:p+q*rt u r≠0):p*p-q*q*AL u r≠0:=by
 intro j;have v:=Cq h;have c:(p+q*rt u r)*(p-q*rt u r)=0:=by grind
 rcases Re.Gu c with e2 | e2
 ·exact a e2
 obtain⟨m,o⟩:=indep h f (Gw g) (CG u) (CG u) (show p+ -q*rt u r=0+0*rt u r by grind);exact a (by grind)
theorem MC:Bd 1 [(1/2:Rat)]:=by
 refine⟨2,by decide,by decide,fun q a=>⟨1,?_⟩,fun q a=>?_⟩
 ·rw[List.mem_singleton.1 a];decide +kernel
 rw[List.mem_singleton.1 a];decide +kernel
theorem HF:Bd 0 [(0:Rat)]:=⟨1,by decide,by decide,fun q a=>⟨0,by rw[List.mem_singleton.1 a];decide +kernel⟩,fun q a=>by rw[List.mem_singleton.1 a];decide +kernel⟩
theorem fS:Bd 0 [(1:Rat)]:=⟨1,by decide,by decide,fun q a=>⟨1,by rw[List.mem_singleton.1 a];decide +kernel⟩,fun q a=>by rw[List.mem_singleton.1 a];decide +kernel⟩
end Go.Abs
namespace Go.Abs
noncomputable def BT (x:Re):Int:=by
 classical
 exact if x<0 then -1 else if x=0 then 0 else 1
theorem E7 (x:Re):(x<0/\BT x= -1)\/(x=0/\BT x=0)\/(0<x/\BT x=1):=by
 unfold BT
 by_cases h:x<0
 ·rw[if_pos h];exact .inl ⟨h,rfl⟩
 rw[if_neg h]
 by_cases a:x=0
 ·rw[if_pos a];exact .inr (.inl ⟨a,rfl⟩)
 rw[if_neg a];exact .inr (.inr ⟨by grind,rfl⟩)
theorem E8 {x:Re} (h:0<x):BT x=1:=by rcases E7 x with⟨a,b⟩ |⟨a,b⟩ |⟨a,b⟩ <;> grind
theorem Ld {x:Re} (h:x<0):BT x= -1:=by rcases E7 x with⟨a,b⟩ |⟨a,b⟩ |⟨a,b⟩ <;> grind
theorem Gk:BT 0=0:=by rcases E7 0 with⟨a,b⟩ |⟨a,b⟩ |⟨a,b⟩ <;> grind
theorem Gj {x:Re}:BT x=0↔x=0:=by
 rcases E7 x with⟨a,b⟩ |⟨a,b⟩ |⟨a,b⟩ <;> rw[b]
 ·constructor
  ·intro h;omega
  intro h;grind
 ·exact⟨fun _=>a,fun _=>rfl⟩
 constructor
 ·intro h;omega
 intro h;grind
theorem Sw (x y:Re):BT (x*y)=BT x*BT y:=by
 rcases E7 x with⟨a,b⟩ |⟨a,b⟩ |⟨a,b⟩ <;> rcases E7 y with⟨c,d⟩ |⟨c,d⟩ |⟨c,d⟩ <;> rw[b,d]
 ·have:=Re.mul_pos (x:= -x) (y:= -y) (by grind) (by grind);exact E8 (by grind)
 ·rw[c,show x*0=0 by grind];exact Gk
 ·have:=Re.mul_pos (x:= -x) (y:=y) (by grind) (by grind);exact Ld (by grind)
 ·rw[a,show 0*y=0 by grind];exact Gk
 ·rw[a,show 0*y=0 by grind];exact Gk
 ·rw[a,show 0*y=0 by grind];exact Gk
 ·have:=Re.mul_pos (x:=x) (y:= -y) (by grind) (by grind);exact Ld (by grind)
 ·rw[c,show x*0=0 by grind];exact Gk
 exact E8 (Re.mul_pos a c)
theorem Zn (x y:Re): -9223372036854775808<=BT x*BT y/\BT x*BT y<9223372036854775808:=by
 rcases E7 x with⟨a,b⟩ |⟨a,b⟩ |⟨a,b⟩ <;> rcases E7 y with⟨c,d⟩ |⟨c,d⟩ |⟨c,d⟩ <;> rw[b,d] <;> decide
section
variable {p q s ρ:Re}
theorem PR (f:0<s) (h:q=0\/BT p=BT q):BT (p+q*s)=BT p:=by
 rcases h with h | h
 ·rw[h,show p+0*s=p by grind]
 rcases E7 p with⟨a,b⟩ |⟨a,b⟩ |⟨a,b⟩ <;> rcases E7 q with⟨c,d⟩ |⟨c,d⟩ |⟨c,d⟩ <;> rw[b,d] at h <;> try omega
 ·have:=Re.mul_pos (x:= -q) (y:=s) (by grind) f;rw[b];exact Ld (by grind)
 ·rw[b,a,c,show (0:Re)+0*s=0 by grind];exact Gk
 have:=Re.mul_pos (x:=q) (y:=s) c f;rw[b];exact E8 (by grind)
theorem Zs (a:0<s) (h:p=0):BT (p+q*s)=BT q:=by
 rw[h,show 0+q*s=q*s by grind,Sw,E8 a,Int.mul_one]
theorem Zr (f:0<s) (m:s*s=ρ) (g:p≠0) (j:q≠0) (h:BT p≠BT q):BT (p+q*s)=BT p*BT (p*p-q*q*ρ):=by
 have e:p*p-q*q*ρ=(p-q*s)*(p+q*s):=by rw[<-m];grind
 rw[e,Sw];rcases E7 p with⟨a,b⟩ |⟨a,b⟩ |⟨a,b⟩ <;> rcases E7 q with⟨c,d⟩ |⟨c,d⟩ |⟨c,d⟩ <;> rw[b,d] at h <;> first | (exact absurd rfl h) | (exact absurd a g) | (exact absurd c j) | skip
 ·have:=Re.mul_pos (x:=q) (y:=s) c f;rw[b,Ld (x:=p-q*s) (by grind)];omega
 have:=Re.mul_pos (x:= -q) (y:=s) (by grind) f;rw[b,E8 (x:=p-q*s) (by grind)];omega
end
theorem Zp (q:Rat):BT (Re.ofRat q)=Ez q:=by
 have c:(0:Re)=Re.ofRat 0:=rfl;have f:Ez q=CZ q.num:=rfl;rw[f];rcases GU q.num with⟨a,b⟩ |⟨a,b⟩ |⟨a,b⟩ <;> rw[b]
 ·exact Ld (by rw[c,Re.G1];rw[Rat.lt_iff];simp;exact a)
 ·rw[Rat.num_eq_zero.1 a];exact Gk
 exact E8 (by rw[c,Re.G1];rw[Rat.lt_iff];simp;exact a)
def VV:Nat->Nat->Nat->Nat
 | 0,_,s=>s
 | h+1,R,s=>VV h R (2*s+2*EE h R+R+1)
theorem Ib:∀(h R:Nat) {s t:Nat},s<=t->VV h R s<=VV h R t
 | 0,_,_,_,h=>h
 | h+1,R,_,_,a=>Ib h R (by omega)
theorem GY:∀(h R s:Nat),s<=VV h R s
 | 0,_,_=>Nat.le_refl _
 | h+1,R,s=>Nat.le_trans (by omega) (GY h R (2*s+2*EE h R+R+1))
theorem UW (h R s:Nat):VV h R s<=VV (h+1) R s:=Ib h R (by omega)
theorem L2 {i h:Nat} (c:i<=h) (R s:Nat):VV i R s<=VV h R s:=by
 induction h with
 | zero=>rw[Nat.le_zero.1 c];exact Nat.le_refl _
 | succ h f=>
  rcases Nat.lt_or_ge i (h+1) with a | a
  ·exact Nat.le_trans (f (by omega)) (UW h R s)
  rw[show i=h+1 by omega];exact Nat.le_refl _
def pre (u:List (List Rat)) (i:Nat):List (List Rat):=u.drop (u.length-i)
theorem Jd {u:List (List Rat)} {i:Nat} (h:i<=u.length):(pre u i).length=i:=by rw[pre,List.length_drop];omega
theorem Ix {u:List (List Rat)} {i:Nat}:(tw u).take i=tw (pre u i):=by
 rw[tw,tw,pre,<-List.map_take,List.reverse_drop]
 by_cases h:i<=u.length
 ·rw[show u.length-(u.length-i)=i by omega]
 rw[show u.length-i=0 by omega,Nat.sub_zero,List.take_of_length_le (by rw[List.length_reverse];omega),List.take_of_length_le (by rw[List.length_reverse];omega)]
theorem Yv (u:List (List Rat)):pre u u.length=u:=by rw[pre,Nat.sub_self,List.drop_zero]
theorem KJ {u:List (List Rat)} {i:Nat} (h:i<u.length):∃r,pre u (i+1)=r::pre u i/\(tw u)[i]? =some (BD r):=by
 refine⟨u[u.length-(i+1)]'(by omega),?_,?_⟩
 ·rw[pre,pre,List.drop_eq_getElem_cons (by omega),show u.length-(i+1)+1=u.length-i by omega]
 rw[tw,List.getElem?_map,List.getElem?_reverse h,show u.length-1-i=u.length-(i+1) by omega,List.getElem?_eq_getElem (by omega)];rfl
theorem ZE:∀{u:List (List Rat)} (n:Nat),AZ u->AZ (u.drop n)
 |u,0,h|[],_+1,h=>h
 | _::u,n+1,h=>ZE n h.1
theorem At.pre {R:Nat} {u:List (List Rat)} (h:At R u) (i:Nat):At R (pre u i):=
 ⟨ZE _ h.red,fun r a=>h.tb r (List.mem_of_mem_drop a),h.hR,by have:=h.ht;rw[Go.Abs.pre,List.length_drop];omega⟩
def QQ:Nat->Nat->Nat->Nat
 | 0,_,s=>s
 | h+1,R,s=>max (QQ h R (3*s+3*EE h R+R+GG h R+3+II h R R)) (s+II h R (2*(3*s+3*EE h R+R+GG h R+3+II h R R+GG h R)+1)+EE h R)
theorem Js:∀(h R:Nat) {s t:Nat},s<=t->II h R s<=II h R t
 | 0,_,_,_,h=>by rw[II,II];omega
 | h+1,R,s,t,a=>by
  have:=Js h R (s:=2*s+2*EE h R+R+1) (t:=2*t+2*EE h R+R+1) (by omega);rw[II,II];omega
theorem Nb:∀(h R:Nat) {s t:Nat},s<=t->QQ h R s<=QQ h R t
 | 0,_,_,_,h=>h
 | h+1,R,s,t,f=>by
  have a:=Nb h R (s:=3*s+3*EE h R+R+GG h R+3+II h R R) (t:=3*t+3*EE h R+R+GG h R+3+II h R R) (by omega);have c:=Js h R (s:=2*(3*s+3*EE h R+R+GG h R+3+II h R R+GG h R)+1) (t:=2*(3*t+3*EE h R+R+GG h R+3+II h R R+GG h R)+1) (by omega);rw[QQ,QQ];omega
theorem IY:∀(h R s:Nat),s<=QQ h R s
 | 0,_,_=>Nat.le_refl _
 | h+1,R,s=>by have:=IY h R (3*s+3*EE h R+R+GG h R+3+II h R R);rw[QQ];omega
theorem cH (h R s:Nat):QQ h R s<=QQ (h+1) R s:=by
 have:=Nb h R (s:=s) (t:=3*s+3*EE h R+R+GG h R+3+II h R R) (by omega);rw[QQ];omega
theorem cG {i h:Nat} (c:i<=h) (R s:Nat):QQ i R s<=QQ h R s:=by
 induction h with
 | zero=>rw[Nat.le_zero.1 c];exact Nat.le_refl _
 | succ h f=>
  rcases Nat.lt_or_ge i (h+1) with a | a
  ·exact Nat.le_trans (f (by omega)) (cH h R s)
  rw[show i=h+1 by omega];exact Nat.le_refl _
structure Fit (h R s:Nat):Prop where
 q:QQ h R s<=60000000000000
 v:VV h R (s+GG h R)<=60000000000000
 qR:QQ h R R<=60000000000000
 vR:VV h R R<=60000000000000
theorem Fit.v0 {h R s:Nat} (f:Fit h R s):VV h R s<=60000000000000:=Nat.le_trans (Ib h R (by omega)) f.v
theorem Fit.s {h R s:Nat} (f:Fit h R s):s<=60000000000000:=Nat.le_trans (IY h R s) f.q
theorem Fit.mono {h R s t:Nat} (f:Fit h R s) (ht:t<=s):Fit h R t:=⟨Nat.le_trans (Nb h R ht) f.q,Nat.le_trans (Ib h R (by omega)) f.v,f.qR,f.vR⟩
end Go.Abs
namespace Go.Abs
def Ba (u w:List (List Rat)):Prop:=∀x,In u x->In w x
theorem Ba.refl (u:List (List Rat)):Ba u u:=fun _ h=>h
theorem Ba.trans {u v w:List (List Rat)} (h:Ba u v) (k:Ba v w):Ba u w:=fun x a=>k x (h x a)
theorem MP:∀(v:List (List Rat)) {u:List (List Rat)},Ba u (v++u)
 | [],u=>Ba.refl u
 | _::v,_=>fun x a=>FZ (MP v x a)
theorem MQ {u w:List (List Rat)} (h:u<:+w):Ba u w:=by
 obtain⟨v,rfl⟩:=h;exact MP v
theorem Ba.tail {u w:List (List Rat)} {r:List Rat} (h:Ba (r::u) w):Ba u w:=fun x a=>h x (FZ a)
theorem Ba.root {u w:List (List Rat)} {r:List Rat} (h:Ba (r::u) w):In w (rt u r):=h _ (Iq u r)
theorem JM {u w:List (List Rat)} {r:List Rat} (hw:AZ w) (h:Ba u w) (f:In w (rt u r)):Ba (r::u) w:=fun x g=>by
 obtain⟨p,q,a,c,rfl⟩:=CV.1 g;exact DK (h p a) (Aj hw (h q c) f)
theorem Ks (w:List (List Rat)):Ba [] w:=fun x a=>by
 obtain⟨q,rfl⟩:=Cp.1 a;exact Hj q w
noncomputable def BK (u:List (List Rat)) (v:Re):List (List Rat):=by
 classical
 exact if Sq u v then u else co u v::u
theorem D3 {u:List (List Rat)} {v:Re} (h:Sq u v):BK u v=u:=by unfold BK;rw[if_pos h]
theorem Dc {u:List (List Rat)} {v:Re} (h:¬Sq u v):BK u v=co u v::u:=by unfold BK;rw[if_neg h]
theorem Ny (u:List (List Rat)) (v:Re):u<:+BK u v:=by
 by_cases h:Sq u v
 ·rw[D3 h];exact List.suffix_refl u
 rw[Dc h];exact List.suffix_cons _ _
theorem NA {u:List (List Rat)} {v:Re} (h:AZ u) (a:In u v) (c:0<v) (f:¬Sq u v):AZ (co u v::u):=
 ⟨h,Cr a,by rw[EB a];exact c,by rw[EB a];exact f⟩
theorem Sb {u:List (List Rat)} {v:Re} (h:AZ u) (f:In u v) (c:0<v):AZ (BK u v):=by
 by_cases a:Sq u v
 ·rw[D3 a];exact h
 rw[Dc a];exact NA h f c a
theorem KM {u:List (List Rat)} {v:Re} (a:In u v):rt u (co u v)=Re.sqrt v:=by rw[rt,EB a]
theorem Lf {u:List (List Rat)} {v:Re} (a:0<=v):Sq u v↔In u (Re.sqrt v):=by
 constructor
 ·rintro⟨w,hw,e⟩
  have f:=Re.HR a;have c:=Re.Jl v
  by_cases h:0<=w
  ·rw[<-Re.KO h c (by rw[e,f])];exact hw
  rw[<-Re.KO (x:= -w) (by grind) c (by rw[f,<-e];grind)];exact Gw hw
 intro h;exact⟨_,h,Re.HR a⟩
theorem QG {u:List (List Rat)} {v:Re} (f:In u v) (c:0<=v):In (BK u v) (Re.sqrt v):=by
 by_cases a:Sq u v
 ·rw[D3 a];exact (Lf c).1 a
 rw[Dc a,<-KM f];exact Iq u _
noncomputable def ext (t:List (List Rat)):List (List Rat)->List (List Rat)
 | []=>t
 | r::u=>BK (ext t u) (AL u r)
theorem OR (t:List (List Rat)):∀u,t<:+ext t u
 | []=>List.suffix_refl t
 | r::u=>List.IsSuffix.trans (OR t u) (Ny _ _)
theorem Iy {t:List (List Rat)} (ht:AZ t):∀{u:List (List Rat)},AZ u->AZ (ext t u)/\Ba u (ext t u)
 | [],_=>⟨ht,Ks _⟩
 | r::u,hu=>by
  obtain⟨g,a⟩:=Iy ht hu.1;have c:=a _ (B8 hu);have f:=hu.2.2.1;have h3:=Sb g c f;exact⟨h3,JM h3 (a.trans (MQ (Ny _ _))) (QG c (by grind))⟩
open Classical in
noncomputable def Ev (t u:List (List Rat)):List (List Rat):=if u<:+t then t else if t<:+u then u else ext t u
theorem mM {t u:List (List Rat)} (ht:AZ t) (hu:AZ u):AZ (Ev t u)/\Ba t (Ev t u)/\Ba u (Ev t u):=by
 unfold Ev
 split
 ·rename_i h;exact⟨ht,Ba.refl t,MQ h⟩
 split
 ·rename_i h;exact⟨hu,MQ h,Ba.refl u⟩
 obtain⟨a,c⟩:=Iy ht hu;exact⟨a,MQ (OR t u),c⟩
theorem Wf:∀(v:List (List Rat)) {u:List (List Rat)} {x:Re},AZ (v++u)->In u x->em (v++u) x=em u x++List.replicate (2^(v++u).length-2^u.length) (rp 0)
 | [],u,x,h,c=>by simp
 | r::v,u,x,h,c=>by
  have f:=MP v x c;have w:=Wf v h.1 c;have j:2^u.length<=2^(v++u).length:=CQ (by simp);have e:em (r::v++u) x=em (v++u) x++em (v++u) 0:=Fp h f (CG _) (by grind);have o:em (v++u) 0=BD (List.replicate (2^(v++u).length) 0):=Qv h.1;rw[e,w,o,BD,List.map_replicate,List.append_assoc,List.replicate_append_replicate];have m:2^(r::v++u).length=2^(v++u).length+2^(v++u).length:=B4 r (v++u);have g:∀a b:Nat,b<=a->a-b+a=a+a-b:=fun a b h=>by omega
  rw[m,<-g _ _ j]
theorem Wi {u w:List (List Rat)} {x:Re} (h:u<:+w) (hw:AZ w) (a:In u x):em w x=em u x++List.replicate (2^w.length-2^u.length) (rp 0):=by
 obtain⟨v,rfl⟩:=h;exact Wf v hw a
theorem Sd {u w:List (List Rat)} (h:u<:+w) (hw:AZ w):AZ u:=by
 obtain⟨v,rfl⟩:=h
 induction v with
 | nil=>exact hw
 | cons r v a=>exact a hw.1
structure Gam (T:List (List Rat)->Prop) (R C S:Nat):Prop where
 BE:∀{u},T u->At R u
 ht:∀{u},T u->u.length<=8
 nil:T []
 sub:∀{r u},T (r::u)->T u
 BK:∀{t r u},T t->T (r::u)->Ba u t->T (BK t (AL u r))
 CE:∀{u w s x},T u->T w->Ba u w->El u s x->El w (s+C) x
 fit:∀{u},T u->Fit u.length R (S+C)
 mul:∀{u},T u->2*(S+C)+EE u.length R<=60000000000000
 RS:R<=S
section
variable {T:List (List Rat)->Prop} {R C S:Nat}
theorem Gam.I5 (G:Gam T R C S) {u w:List (List Rat)} (h:u<:+w) (hw:T w):T u:=by
 obtain⟨v,rfl⟩:=h
 induction v with
 | nil=>exact hw
 | cons r v a=>exact a (G.sub hw)
theorem Gam.ext (G:Gam T R C S) {t:List (List Rat)} (ht:T t):∀{u:List (List Rat)},T u->T (ext t u)
 | [],_=>ht
 | r::u,hu=>G.BK (G.ext ht (G.sub hu)) hu (Iy (G.BE ht).red (G.BE (G.sub hu)).red).2
theorem Gam.join (G:Gam T R C S) {t u:List (List Rat)} (ht:T t) (hu:T u):T (Ev t u):=by
 unfold Ev
 split
 ·exact ht
 split
 ·exact hu
 exact G.ext ht hu
end
theorem JL {u:List (List Rat)} {r:List Rat} (h:AZ (r::u)):El (r::u) 0 (rt u r):=by
 have a:El u 0 0:=El.rat h.1 HF;have c:El u 0 1:=El.rat h.1 fS;have:=N2 h a.mem c.mem a.bd c.bd;rw[show (0:Re)+1*rt u r=rt u r by grind] at this;exact⟨Iq u r,this⟩
end Go.Abs
namespace Go.Abs
theorem H0:∀{h h' R R':Nat},h<=h'->R<=R'->EE h R<=EE h' R'
 | 0,h',R,R',_,_=>Nat.zero_le _
 | h+1,0,R,R',a,_=>absurd a (by omega)
 | h+1,h'+1,R,R',a,hR=>by
  have:=H0 (h:=h) (h':=h') (by omega) hR;rw[EE,EE];omega
theorem IX:∀{h h' R R' s s':Nat},h<=h'->R<=R'->s<=s'->II h R s<=II h' R' s'
 | 0,0,R,R',s,s',_,_,c=>by rw[II,II];omega
 | 0,h'+1,R,R',s,s',_,_,c=>by
  have:=E1 h' R' (2*s'+2*EE h' R'+R'+1);rw[II,II];omega
 | h+1,0,R,R',s,s',a,_,_=>absurd a (by omega)
 | h+1,h'+1,R,R',s,s',a,hR,c=>by
  have f:=H0 (h:=h) (h':=h') (by omega) hR;have g:=IX (h:=h) (h':=h') (s:=2*s+2*EE h R+R+1) (s':=2*s'+2*EE h' R'+R'+1) (by omega) hR (by omega);rw[II,II];omega
theorem Pj:∀{h h' R R':Nat},h<=h'->R<=R'->GG h R<=GG h' R'
 | 0,h',R,R',_,_=>by rw[GG];exact Nat.zero_le _
 | h+1,0,R,R',a,_=>absurd a (by omega)
 | h+1,h'+1,R,R',a,hR=>by
  have c:=H0 (h:=h) (h':=h') (by omega) hR;have f:=Pj (h:=h) (h':=h') (by omega) hR;have h3:=IX (h:=h) (h':=h') (s:=R) (s':=R') (by omega) hR hR;rw[GG,GG];omega
def CC:Nat->Nat->Nat->Nat->Nat
 | 0,_,_,_=>0
 | k+1,R0,h,R=>2*CC k R0 h R+R0+GG h R+EE h R+1
theorem Jp:∀{k k' R0 IZ h h' R R':Nat},k<=k'->R0<=IZ->h<=h'->R<=R'->CC k R0 h R<=CC k' IZ h' R'
 | 0,k',_,_,_,_,_,_,_,_,_,_=>by rw[CC];exact Nat.zero_le _
 | k+1,0,_,_,_,_,_,_,c,_,_,_=>absurd c (by omega)
 | k+1,k'+1,R0,IZ,h,h',R,R',c,f,a,hR=>by
  have g:=Jp (k:=k) (k':=k') (by omega) f a hR;have j:=H0 a hR;have h3:=Pj a hR;rw[CC,CC];omega
theorem Qt {D:Nat} {q:Rat} {n:Nat} (h:DN D [q]):DN D (q::List.replicate n 0):=fun z a=>by
 rcases List.mem_cons.1 a with rfl | a
 ·exact h _ List.mem_cons_self
 rw[List.eq_of_mem_replicate a];exact⟨0,by simp⟩
theorem Rp {B:Nat} {q:Rat} {n:Nat} (h:MX B [q]):MX B (q::List.replicate n 0):=fun z a=>by
 rcases List.mem_cons.1 a with rfl | a
 ·exact h _ List.mem_cons_self
 rw[List.eq_of_mem_replicate a];have:(0:Rat)<=B:=Rat.natCast_nonneg
 constructor <;> grind
theorem VX {w:List (List Rat)} {R:Nat} (hw:AZ w) (o:TB R w):∀{u:List (List Rat)} {R0:Nat},AZ u->TB R0 u->Ba u w->∃K:Nat,0<K/\K<=2^CC u.length R0 w.length R/\
  ∀{x:Re} {D B:Nat},In u x->(DN D (co u x)->DN (D*K) (co w x))/\(MX B (co u x)->MX (B*2^CC u.length R0 w.length R) (co w x))
 | [],R0,_,_,_=>⟨1,by decide,by simp[CC],fun {x D B} Z=>by
  obtain⟨q,rfl⟩:=Cp.1 Z;rw[De,IA q hw,Nat.mul_one];refine⟨Qt,fun h=>?_⟩;rw[show B*2^CC ([]:List (List Rat)).length R0 w.length R=B by simp[CC]];exact Rp h⟩
 | r::u,R0,h,h0,m=>by
  obtain⟨K,hK,f,hb⟩:=VX hw o h.1 h0.tail m.tail;obtain⟨E,L,M,hm⟩:=J5 hw o;obtain⟨D0,H,I,J,W⟩:=h0.head;have hr:=Cq h;have Y:=B8 h;have a:=m.root;have b1:=hb (D:=D0) (B:=2^R0) Y;rw[Es h] at b1
  have hv:Bd (R0+CC u.length R0 w.length R) (co w (AL u r)):=by
   refine⟨D0*K,Nat.mul_pos H hK,?_,b1.1 J,?_⟩
   ·rw[Nat.pow_add];exact Nat.mul_le_mul I f
   rw[Nat.pow_add];exact b1.2 W
  obtain⟨F,hF,Q,O,U⟩:=QT hw o a hr hv;refine⟨K*(F*E),Nat.mul_pos hK (Nat.mul_pos hF L),?_,fun {x D B} Z=>?_⟩
  ·have h1:=Nat.mul_le_mul f (Nat.mul_le_mul Q M);simp only[<-Nat.pow_add] at h1;exact Nat.le_trans h1 (CQ (by rw[List.length_cons,CC];omega))
  obtain⟨p,q,v,G,rfl⟩:=CV.1 Z;rw[Cz h v G rfl,DN.app,MX.app];have j:=m.tail _ v;have c:=m.tail _ G;refine⟨fun g=>?_,fun g=>?_⟩
  ·have k1:=(hb (B:=0) v).1 g.1;have k2:=(hb (B:=0) G).1 g.2;have k3:=hm c a k2 O;exact DN.Fv hw j (Aj hw c a) (k1.dvd ⟨F*E,by grind⟩) (k3.dvd ⟨1,by grind⟩)
  have k1:=(hb (D:=0) v).2 g.1;have k2:=(hb (D:=0) G).2 g.2;have k3:=IK hw o c a k2 U;refine (MX.Fv hw j (Aj hw c a) k1 k3).mono ?_
  have e:B*2^CC u.length R0 w.length R*2^(R0+CC u.length R0 w.length R+GG w.length R)*2^EE w.length R=B*2^(CC u.length R0 w.length R+(R0+CC u.length R0 w.length R+GG w.length R)+EE w.length R):=by
   rw[Nat.mul_assoc,Nat.mul_assoc,<-Nat.pow_add,<-Nat.pow_add];congr 2;omega
  rw[e,<-Nat.mul_add];refine Nat.mul_le_mul_left B ?_;have e2:CC (r::u).length R0 w.length R=CC u.length R0 w.length R+(R0+CC u.length R0 w.length R+GG w.length R)+EE w.length R+1:=by rw[List.length_cons,CC];omega
  have h3:2^CC u.length R0 w.length R<=2^(CC u.length R0 w.length R+(R0+CC u.length R0 w.length R+GG w.length R)+EE w.length R):=CQ;rw[e2,Nat.pow_succ];omega
theorem El.CE {w u:List (List Rat)} {R R0 s:Nat} {x:Re} (hw:AZ w) (r:TB R w) (hu:AZ u) (g:TB R0 u) (f:Ba u w) (a:El u s x):El w (s+CC u.length R0 w.length R) x:=by
 obtain⟨K,o,c,hb⟩:=VX hw r hu g f;obtain⟨D,h,j,h3,m⟩:=a.bd;refine⟨f _ a.mem,D*K,Nat.mul_pos h o,?_,(hb (B:=0) a.mem).1 h3,?_⟩
 ·rw[Nat.pow_add];exact Nat.mul_le_mul j c
 rw[Nat.pow_add];exact (hb (D:=0) a.mem).2 m
inductive Tf (P:List (List Rat)->Prop):List (List Rat)->Prop
 | nil:Tf P []
 | BK {u:List (List Rat)} {r0:List Rat} {u0:List (List Rat)}:Tf P u->P (r0::u0)->Ba u0 u->Tf P (BK u (AL u0 r0))
structure CU (P:List (List Rat)->Prop) (R0:Nat):Prop where
 red:∀{u},P u->AZ u
 tb:∀{u},P u->TB R0 u
 sub:∀{r u},P (r::u)->P u
section
variable {P:List (List Rat)->Prop} {R0:Nat}
theorem Tf.red (I:CU P R0) {u:List (List Rat)} (h:Tf P u):AZ u:=by
 induction h with
 | nil=>trivial
 | BK _ a c f=>exact Sb f (c _ (B8 (I.red a))) (I.red a).2.2.1
theorem eu {u:List (List Rat)} {r:List Rat} (h:AZ (r::u)):BK u (AL u r)=r::u:=by rw[Dc h.2.2.2,Es h]
theorem Tf.of (I:CU P R0):∀{u:List (List Rat)},P u->Tf P u
 | [],_=> .nil
 | r::u,h=>by
  have:=Tf.BK (Tf.of I (I.sub h)) h (Ba.refl u);rwa [eu (I.red h)] at this
theorem Tf.gen (I:CU P R0) {w:List (List Rat)} (h:Tf P w):∀{r:List Rat} {u:List (List Rat)},w=r::u->Tf P u/\∃c a,P (c::a)/\AL a c=AL u r/\Ba a u:=by
 induction h with
 | nil=>intro r u e;cases e
 | @BK o c a ht g f m=>
  intro r u e
  by_cases j:Sq o (AL a c)
  ·rw[D3 j] at e;exact m e
  rw[Dc j] at e;obtain⟨rfl,rfl⟩:=List.cons.inj e;exact⟨ht,c,a,g,(EB (f _ (B8 (I.red g)))).symm,f⟩
theorem Tf.sub (I:CU P R0) {r:List Rat} {u:List (List Rat)} (h:Tf P (r::u)):Tf P u:=(h.gen I rfl).1
theorem Tf.QF (I:CU P R0) {t u:List (List Rat)} {r:List Rat} (ht:Tf P t) (h:Tf P (r::u)) (c:Ba u t):Tf P (Go.Abs.BK t (AL u r)):=by
 obtain⟨_,g,j,f,e,a⟩:=h.gen I rfl;rw[<-e];exact .BK ht f (a.trans c)
theorem Sc:∀{u:List (List Rat)},AZ u->Ba u []->u=[]
 | [],_,_=>rfl
 | r::u,h,a=>by
  have hu:=Sc h.1 a.tail;subst hu;exact absurd ⟨_,a.root,Cq h⟩ h.2.2.2
theorem ZF {r q:List Rat} {s:List Rat} (h:AZ [q,r]) (D:AZ [s]) (F:Ba [q,r] [s]):False:=by
 have v:=h.1;obtain⟨a,b,ha,hb,e⟩:=CV.1 F.tail.root;have H:=Cq v;have w:=Cq D;have g:AZ ([]:List (List Rat)):=trivial
 by_cases o:b=0
 ·exact v.2.2.2 ⟨a,ha,by rw[<-H,e,o];grind⟩
 obtain⟨d,G,J⟩:=EC g hb o
 by_cases m:a=0
 ·have j:In [r] (rt [] s):=by
   have:rt [] s=d*rt [] r:=by rw[e,m];grind
   rw[this];exact Aj v (FZ G) (Iq [] r)
  have B:Ba [s] [r]:=JM v (Ks _) j;exact h.2.2.2 ⟨_,B _ F.root,Cq h⟩
 obtain⟨c,hc,I⟩:=EC g ha m
 have L:Re.ofRat (1/2)*(1+1)=1:=by
  rw[show (1:Re)=Re.ofRat 1 from rfl,<-Re.ofRat_add,<-Re.ofRat_mul,show (1/2:Rat)*(1+1)=1 by decide +kernel]
 have K:=B8 v;have hw:=B8 D
 have key:rt [] s=(AL [] r-a*a-b*b*AL [] s)*(c*d*Re.ofRat (1/2)):=by
  rw[<-H,<-w,e];generalize rt [] s=t at *;generalize Re.ofRat (1/2)=f at *;grind
 have j:In [] (rt [] s):=by
  rw[key];exact Aj g (FY (FY K (Aj g ha ha)) (Aj g (Aj g hb hb) hw)) (Aj g (Aj g hc G) (Hj _ []))
 exact D.2.2.2 ⟨_,j,w⟩
def RR (R0:Nat):Nat->Nat
 | 0=>R0
 | h+1=>max (RR R0 h) (R0+CC (min h 2) R0 h (RR R0 h))
theorem UO {R0 h h':Nat} (a:h<=h'):RR R0 h<=RR R0 h':=by
 induction a with
 | refl=>exact Nat.le_refl _
 | step _ c=>exact Nat.le_trans c (Nat.le_max_left _ _)
theorem TB.mono {R R':Nat} {u:List (List Rat)} (h:TB R u) (hR:R<=R'):TB R' u:=fun r a=>(h r a).mono hR
theorem Tf.tb (I:CU P R0) (hm:∀{u},Tf P u->u.length<=3) {u:List (List Rat)} (h:Tf P u):TB (RR R0 u.length) u:=by
 induction h with
 | nil=>intro r g;simp at g
 | @BK u D c ht f j v=>
  by_cases B:Sq u (AL c D)
  ·rw[D3 B];exact v
  have w:=hm (Tf.BK ht f j);have o:=hm (Tf.of I f);rw[Dc B] at w ⊢;rw[List.length_cons] at w o;intro r g;rcases List.mem_cons.1 g with rfl | g
  ·have a:=I.red f;have m:El c R0 (AL c D):=⟨B8 a,by rw[Es a];exact (I.tb f).head⟩;have:=(m.CE (ht.red I) v a.1 (I.tb f).tail j).bd;refine this.mono ?_;rw[List.length_cons,RR]
   have G:c.length<=min u.length 2:=by
    have F:c.length<=2:=by omega
    cases u with
    | nil=>rw[Sc a.1 j];exact Nat.zero_le _
    | cons s H=>
     cases H with
     | nil=>
      cases c with
      | nil=>exact Nat.zero_le _
      | cons q J=>
       cases J with
       | nil=>exact Nat.le_refl 1
       | cons r K=>
        have:K=[]:=List.eq_nil_of_length_eq_zero (by simp only[List.length_cons] at F;omega);subst this;exact (ZF a.1 (ht.red I) j).elim
     | cons _ _=>simp only[List.length_cons];omega
   have:=Jp (k:=c.length) (k':=min u.length 2) (R0:=R0) (IZ:=R0) (h:=u.length) (h':=u.length) (R:=RR R0 u.length) (R':=RR R0 u.length) G (Nat.le_refl _) (Nat.le_refl _) (Nat.le_refl _);omega
  exact (v r g).mono (UO (by rw[List.length_cons];omega))
theorem Tf.Q3 (I:CU P R0) (hm:∀{u},Tf P u->u.length<=3) {R C S:Nat} (hR:RR R0 3<=R) (f:R<=S) (m:CC 3 R 3 R<=C) (g:∀h,h<=3->Fit h R (S+C)) (o:2*(S+C)+EE 3 R<=60000000000000):Gam (Tf P) R C S:=by
 have a:∀{u},Tf P u->TB R u:=fun {u} h=>(h.tb I hm).mono (Nat.le_trans (UO (hm h)) hR)
 refine⟨fun {u} h=>⟨h.red I,a h,by omega,by have:=hm h;omega⟩,fun {u} h=>by have:=hm h;omega,.nil,fun {r u} h=>h.sub I,fun {t r u} ht h c=>ht.QF I h c,fun {u w s x} hu hw c j=>?_,fun {u} h=>g _ (hm h),fun {u} h=>?_,f⟩
 ·refine (j.CE (hw.red I) (a hw) (hu.red I) (a hu) c).mono ?_;have:=Jp (k:=u.length) (k':=3) (R0:=R) (IZ:=R) (h:=w.length) (h':=3) (R:=R) (R':=R) (hm hu) (Nat.le_refl _) (hm hw) (Nat.le_refl _);omega
 have:=H0 (h:=u.length) (h':=3) (R:=R) (R':=R) (hm h) (Nat.le_refl _);omega
def BF:List (List Rat)->List Re
 | []=>[]
 | r::u=>AL u r::BF u
theorem Jn:∀u:List (List Rat),(BF u).length=u.length
 | []=>rfl
 | r::u=>by rw[BF,List.length_cons,List.length_cons,Jn u]
theorem Lp:∀{u:List (List Rat)} {v:Re},v∈BF u->In u (Re.sqrt v)
 | [],v,h=>by simp[BF] at h
 | r::u,v,h=>by
  rcases List.mem_cons.1 h with rfl | h
  ·exact Iq u r
  exact FZ (Lp h)
theorem HU:∀{u:List (List Rat)},AZ u->(BF u).Nodup
 | [],_=>List.nodup_nil
 | r::u,h=>by
  rw[BF,List.nodup_cons];refine⟨fun hm=>h.2.2.2 ⟨_,Lp hm,Re.HR (by have:=h.2.2.1;grind)⟩,HU h.1⟩
theorem Tf.BF (I:CU P R0) {V:List Re} (hV:∀{u},P u->∀v∈BF u,v∈V) {u:List (List Rat)} (h:Tf P u):∀v∈Go.Abs.BF u,v∈V:=by
 induction h with
 | nil=>intro v a;simp[Go.Abs.BF] at a
 | @BK u m o ht c j g=>
  by_cases f:Sq u (AL o m)
  ·rw[D3 f];exact g
  rw[Dc f];intro v a;rcases List.mem_cons.1 a with rfl | a
  ·rw[EB (j _ (B8 (I.red c)))];exact hV c _ List.mem_cons_self
  exact g v a
theorem JW {α:Type}:∀{l m:List α},l.Nodup->(∀x∈l,x∈m)->l.length<=m.length
 | [],_,_,_=>Nat.zero_le _
 | x::l,m,h,hm=>by
  rw[List.nodup_cons] at h;obtain⟨a,b,rfl⟩:=List.append_of_mem (hm x List.mem_cons_self)
  have:=JW (l:=l) (m:=a++b) h.2 (fun y f=>by
   have g:=hm y (List.mem_cons_of_mem _ f);rcases List.mem_append.1 g with c | c
   ·exact List.mem_append_left _ c
   rcases List.mem_cons.1 c with rfl | c
   ·exact absurd f h.1
   exact List.mem_append_right _ c)
  rw[List.length_cons,List.length_append,List.length_cons];rw[List.length_append] at this;omega
theorem Tf.len (I:CU P R0) {V:List Re} (hV:∀{u},P u->∀v∈Go.Abs.BF u,v∈V) {u:List (List Rat)} (h:Tf P u):u.length<=V.length:=by
 rw[<-Jn];exact JW (HU (h.red I)) (h.BF I hV)
end
end Go.Abs
