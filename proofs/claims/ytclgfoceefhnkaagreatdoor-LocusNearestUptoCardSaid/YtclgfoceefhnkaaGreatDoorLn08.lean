/- Part 9 of a proof. Conditions: each theorem's own. -/
import Derived.Test.YtclgfoceefhnkaaGreatDoorLn07
set_option linter.all false
set_option maxHeartbeats 80000000
set_option maxRecDepth 20000
namespace Go.Abs
section
variable {A R V b i n q s:Nat} {u:List UInt32}
theorem pI {D M:Nat} (f:L5 R V D) (hV:0<V) (hR:R<M) (c:V<=M):∃(b:Bool) (S:Nat),S+V*D=R+M*b.toNat/\S<M:=by
 have g:=Nat.div_add_mod R V;have a:V*D<=V*(R/V+1):=Nat.mul_le_mul_left _ f.low;rw[Nat.mul_add] at a
 by_cases h:V*D<=R
 ·exact⟨false,R-V*D,by simp;omega,by omega⟩
 refine⟨true,R+M-V*D,?_,by omega⟩;simp
 generalize V*(R/V)=T at*
 omega
theorem pV {x y w:UInt32} (a:u[i+n]? =some x) (h:u[i+n-1]? =some y) (hw:u[i+n-2]? =some w) (m:2<=n) (f:AD (u.drop (i+n+1))=0):
  AD (u.drop i)=(4294967296*(y.toNat+4294967296*x.toNat)+w.toNat)*2^(32*(n-2))+AD ((u.drop i).take (n-2)):=by
 have g:i+n<u.length:=by
  apply Classical.byContradiction;intro j;rw[List.getElem?_eq_none (by omega)] at a;exact absurd a (by simp)
 have c:=GB (u.drop i) (n-2) (by rw[List.length_drop];omega);rw[List.drop_drop,show i+(n-2)=i+n-2 by omega,Ds hw,show i+n-2+1=i+n-1 by omega,Ds h,show i+n-1+1=i+n by omega,Ds a,f] at c;rw[c]
 generalize 2^(32*(n-2))=P
 grind
theorem pU {v:List UInt32} {y w:UInt32} (hlen:v.length=n) (f:v[n-1]? =some y) (hw:v[n-2]? =some w) (g:2<=n):
  AD v=(4294967296*y.toNat+w.toNat)*2^(32*(n-2))+AD (v.take (n-2))/\AD v=y.toNat*2^(32*(n-1))+AD (v.take (n-1)):=by
 have a:=GB v (n-2) (by omega);rw[Ds hw,show n-2+1=n-1 by omega,Ds f,show n-1+1=n by omega,List.drop_eq_nil_of_le (by omega)] at a;have c:=GB v (n-1) (by omega);rw[Ds f,show n-1+1=n by omega,List.drop_eq_nil_of_le (by omega)] at c
 constructor
 ·rw[a];simp only[AD];generalize 2^(32*(n-2))=P;grind
 rw[c];simp only[AD];generalize 2^(32*(n-1))=P;grind
theorem Lp {l:List UInt32}:AD (l.take n)<2^(32*n):=
 Nat.lt_of_lt_of_le (Cv _) (Nat.pow_le_pow_right (by decide) (by rw[List.length_take];omega))
theorem R3 {l:List UInt32} (h:AD l<2^(32*n)) (a:n<=l.length):AD (l.drop n)=0:=by
 have c:=GB l n a;apply Classical.byContradiction;intro f;have:2^(32*n)*1<=2^(32*n)*AD (l.drop n):=Nat.mul_le_mul_left _ (by omega);omega
theorem Zq {z:List UInt32} {Q:Nat} (v:z.length=u.length) (a:z.take i=u.take i) (c:z.drop (i+(n+1))=u.drop (i+(n+1))) (hlen:i+(n+1)<=u.length) (h:AD (u.drop (i+n+1))=0)
  (r:q=AD (u.drop i)/V) (o:AD ((z.drop i).take (n+1))=AD (u.drop i)%V) (m:A=AD u+2^(32*(i+1))*Q*V):
  AD (z.drop i)=AD (u.drop i)%V/\A=AD z+2^(32*i)*(q+4294967296*Q)*V:=by
 have f:AD (z.drop i)=AD (u.drop i)%V:=by
  have:=GB (z.drop i) (n+1) (by rw[List.length_drop];omega);rw[List.drop_drop,c,show i+(n+1)=i+n+1 by omega,h,o] at this;simpa using this
 refine⟨f,?_⟩;have j:=GB u i (by omega);have h3:=GB z i (by omega);rw[a,f] at h3;have g:=Nat.div_add_mod (AD (u.drop i)) V;rw[<-r] at g;rw[m,j,h3,EG,<-g]
 generalize 2^(32*i)=P
 grind
theorem Z9 (h:i+n<=u.length) (a:AD (u.drop (i+n))=0):AD ((u.drop i).take n)=AD (u.drop i):=by
 have:=GB (u.drop i) n (by rw[List.length_drop];omega);rw[List.drop_drop,a] at this;simpa using this.symm
theorem MU {x:UInt32} (h:(AP b)[i]? =some x) (a:i+1=(AP b).length):x.toNat≠0:=by
 intro c;have hb:b≠0:=fun e=>by subst e;simp[F8] at a
 have f:=YI hb;have g:=Cq h;rw[a,List.take_length,BS,c] at g;have h3:=Cv ((AP b).take i);rw[List.length_take,Nat.min_eq_left (by omega)] at h3;rw[<-a,Nat.add_sub_cancel] at f;omega
theorem aS {k:Nat} {x:UInt32} (a:(AP b).length=n) (g:1<=n) (v:(AP b)[n-1]? =some x) (f:2^(k-1)<=x.toNat) (h:x.toNat<2^k) (H:1<=k) (o:k<=32) (I:s=32-k):
  (AP (b*2^s)).length=n/\2147483648*2^(32*(n-1))<=b*2^s:=by
 have e1:2^(k-1)*2^s=2147483648:=by rw[<-Nat.pow_add,show k-1+s=31 by omega]
 have c:2^k*2^s=4294967296:=by rw[<-Nat.pow_add,show k+s=32 by omega]
 have h3:=Cq v;rw[show n-1+1=n by omega,<-a,List.take_length,BS,a] at h3;have j:=Cv ((AP b).take (n-1));rw[List.length_take,Nat.min_eq_left (by omega)] at j;have r:2^(32*n)=4294967296*2^(32*(n-1)):=by rw[<-EG,show n-1+1=n by omega]
 generalize m:2^(32*(n-1))=P at*
 have low:2147483648*P<=b*2^s:=by
  rw[<-e1,h3];have:2^(k-1)*2^s*P<=x.toNat*2^s*P:=Nat.mul_le_mul_right _ (Nat.mul_le_mul_right _ f);have:(AD (List.take (n-1) (AP b))+P*x.toNat)*2^s=AD (List.take (n-1) (AP b))*2^s+x.toNat*2^s*P:=by grind
  omega
 refine⟨?_,low⟩
 have up:b*2^s<2^(32*n):=by
  rw[r,<-c];have w:b<(x.toNat+1)*P:=by rw[h3,Nat.add_mul,Nat.mul_comm P];omega
  have B:(x.toNat+1)*P<=2^k*P:=Nat.mul_le_mul_right _ h;have D:b*2^s<2^k*P*2^s:=(Nat.mul_lt_mul_right (Nat.two_pow_pos s)).2 (by omega);have:2^k*2^s*P=2^k*P*2^s:=by grind
  omega
 have F:=Fq up;have G:=YC (n:=b*2^s) (k:=n-1) (by rw[m];omega);omega
theorem Pz (l:List UInt32) (h:s<=31:=by omega):AD l*2^s<2^(32*(l.length+1)):=by
 rw[EG,Nat.mul_comm 4294967296];exact Nat.mul_lt_mul_of_lt_of_le (Cv l) (Nat.le_trans (Nat.pow_le_pow_right (by decide) h:2^s<=2^31) (by decide)) (by decide)
theorem jw {a rest:Nat} (h:2147483648*2^(32*(n-1))<=V) (hV:V=a*2^(32*(n-1))+rest) (f:rest<2^(32*(n-1))):2147483648<=a:=by
 generalize 2^(32*(n-1))=P at*
 apply Classical.byContradiction;intro c;have:(a+1)*P<=2147483648*P:=Nat.mul_le_mul_right _ (by omega);rw[Nat.add_mul] at this;omega
theorem bE {l:List UInt32} {m:Nat} (hu:AD u=AD l*2^s) (h:s<=31) (hlen:u.length=l.length+1) (hm:m+n=l.length+1) (v:1<=n) (hV:2147483648*2^(32*(n-1))<=V):AD (u.drop m)<V:=by
 have a:=GB u m (by omega);have c:=Cv l;have h3:2^(32*l.length)=2^(32*m)*2^(32*(n-1)):=by rw[<-Nat.pow_add,show 32*m+32*(n-1)=32*l.length by omega]
 have f:2^s<=2147483648:=Nat.le_trans (Nat.pow_le_pow_right (by decide) h:2^s<=2^31) (by decide);have g:AD l*2^s<2^(32*l.length)*2147483648:=Nat.mul_lt_mul_of_lt_of_le c f (by decide);rw[hu,] at a;rw[h3] at g;have w:=Nat.two_pow_pos (32*m)
 generalize 2^(32*m)=P at*
 generalize 2^(32*(n-1))=N at*
 apply Classical.byContradiction;intro r;have j:P*(2147483648*N)<=P*AD (u.drop m):=Nat.mul_le_mul_left _ (by omega);have o:P*N*2147483648=P*(2147483648*N):=by grind
 omega
theorem pW {x y:UInt32} (a:u[i+n]? =some x) (h:u[i+n-1]? =some y) (m:1<=n) (f:AD (u.drop (i+n+1))=0):
  AD (u.drop i)=(y.toNat+4294967296*x.toNat)*2^(32*(n-1))+AD ((u.drop i).take (n-1)):=by
 have g:i+n<u.length:=by
  apply Classical.byContradiction;intro j;rw[List.getElem?_eq_none (by omega)] at a;exact absurd a (by simp)
 have c:=GB (u.drop i) (n-1) (by rw[List.length_drop];omega);rw[List.drop_drop,show i+(n-1)=i+n-1 by omega,Ds h,show i+n-1+1=i+n by omega,Ds a,f] at c;rw[c]
 generalize 2^(32*(n-1))=P
 grind
theorem pT {top high P c a:Nat} (hR:R=top*P+c) (hV:V=high*P+a) (f:a<P) (h:R<4294967296*V):top<4294967296*(high+1):=by
 apply Classical.byContradiction;intro m;have g:4294967296*(high+1)*P<=top*P:=Nat.mul_le_mul_right _ (by omega);have j:4294967296*(high+1)*P=4294967296*(high*P)+4294967296*P:=by grind
 omega
theorem W9 {a r:Nat} (g:A=a*2^s) (hV:V=b*2^s) (h:A=r+q*V) (D:r<V) (hb:0<b):q=a/b/\r/2^s=a%b:=by
 have j:=Nat.two_pow_pos s;have w:=Nat.div_add_mod a b;have B:=Nat.mod_lt a hb
 have e:a*2^s=(a%b)*2^s+(a/b)*V:=by rw[hV];conv=>lhs;rw[<-w]
                                    grind
 have f:(a%b)*2^s<V:=by rw[hV];exact (Nat.mul_lt_mul_right j).2 B
 have c:0<V:=by omega
 have m:q=a/b:=by
  have o:A/V=q:=by rw[h,Nat.add_mul_div_right _ _ c,Nat.div_eq_of_lt D,Nat.zero_add]
  have v:A/V=a/b:=by rw[g,e,Nat.add_mul_div_right _ _ c,Nat.div_eq_of_lt f,Nat.zero_add]
  rw[<-o,v]
 refine⟨m,?_⟩;have:r=(a%b)*2^s:=by rw[g,e,m] at h;omega
 rw[this,Nat.mul_div_cancel _ j]
end
section
def Ch (x y:Int):Int:=if 0<=y then x/y else (-x)/(-y)
variable {N X:Nat} {b:Bool} {x y:Int}
theorem Kv {a b q r:Int} (hb:0<b) (h:a=b*q+r) (c:0<=r) (f:r<b):a/b=q:=((Int.ediv_emod_unique hb).2 ⟨by omega,c,f⟩).1
theorem W5 (j:y≠0) (c:decide (x<0)=decide (y<0)):Ch x y=((x.natAbs/y.natAbs:Nat):Int):=by
 have f:=Nat.div_add_mod x.natAbs y.natAbs;have hm:=Nat.mod_lt x.natAbs (by omega:0<y.natAbs)
 generalize x.natAbs/y.natAbs=q at*
 generalize x.natAbs%y.natAbs=r at*
 have a:(y.natAbs:Int)*q+r=x.natAbs:=by rw[<-f];simp
 unfold Ch
 by_cases h:0<=y
 ·rw[if_pos h]
  have:¬x<0:=by intro g;have:y<0:=by simpa [g] using c
                omega
  rw[show (y.natAbs:Int)=y by omega,show (x.natAbs:Int)=x by omega] at a;exact Kv (r:=r) (by omega) a.symm (by omega) (by omega)
 rw[if_neg h]
 have:x<0:=by have:y<0:=by omega
              simpa [this] using c
 rw[show (y.natAbs:Int)= -y by omega,show (x.natAbs:Int)= -x by omega] at a;exact Kv (r:=r) (by omega) a.symm (by omega) (by omega)
theorem W1 (m:y≠0) (g:decide (x<0)≠decide (y<0)) (j:x.natAbs%y.natAbs=0):Ch x y= -((x.natAbs/y.natAbs:Nat):Int):=by
 have f:=Nat.div_add_mod x.natAbs y.natAbs;rw[j] at f
 generalize x.natAbs/y.natAbs=q at*
 have a:(y.natAbs:Int)*q=x.natAbs:=by rw[<-f];simp
 unfold Ch
 by_cases h:0<=y
 ·rw[if_pos h]
  have c:x<0:=by
   apply Classical.byContradiction;intro c;exact g (by rw[decide_eq_false c,decide_eq_false (by omega)])
  rw[show (y.natAbs:Int)=y by omega,show (x.natAbs:Int)= -x by omega] at a;exact Kv (r:=0) (by omega) (by rw[Int.mul_neg,a];omega) (by omega) (by omega)
 rw[if_neg h]
 have c:¬x<0:=by
  intro c;exact g (by rw[decide_eq_true c,decide_eq_true (by omega)])
 rw[show (y.natAbs:Int)= -y by omega,show (x.natAbs:Int)=x by omega] at a;exact Kv (r:=0) (by omega) (by rw[Int.mul_neg,a];omega) (by omega) (by omega)
theorem W2 (m:y≠0) (f:decide (x<0)≠decide (y<0)) (j:x.natAbs%y.natAbs≠0):Ch x y= -((x.natAbs/y.natAbs+1:Nat):Int):=by
 have g:=Nat.div_add_mod x.natAbs y.natAbs;have hm:=Nat.mod_lt x.natAbs (by omega:0<y.natAbs)
 generalize x.natAbs/y.natAbs=q at*
 generalize x.natAbs%y.natAbs=r at*
 have a:(y.natAbs:Int)*q+r=x.natAbs:=by rw[<-g];simp
 unfold Ch
 by_cases h:0<=y
 ·rw[if_pos h]
  have c:x<0:=by
   apply Classical.byContradiction;intro c;exact f (by rw[decide_eq_false c,decide_eq_false (by omega)])
  rw[show (y.natAbs:Int)=y by omega,show (x.natAbs:Int)= -x by omega] at a;refine Kv (r:=y-r) (by omega) ?_ (by omega) (by omega);rw[Int.natCast_add,Int.mul_neg,Int.mul_add];omega
 rw[if_neg h]
 have c:¬x<0:=by
  intro c;exact f (by rw[decide_eq_true c,decide_eq_true (by omega)])
 rw[show (y.natAbs:Int)= -y by omega,show (x.natAbs:Int)=x by omega] at a;refine Kv (r:= -y-r) (by omega) ?_ (by omega) (by omega);rw[Int.natCast_add,Int.mul_neg,Int.mul_add];omega
def HP (x y:Int):Int:=x-y*Ch x y
theorem SZ:(y.natAbs:Int)*((x.natAbs/y.natAbs:Nat):Int)+((x.natAbs%y.natAbs:Nat):Int)=x.natAbs:=by
 rw[<-Int.natCast_mul,<-Int.natCast_add,Nat.div_add_mod]
theorem lN (hb:b=decide (y<0)) (g:y≠0) (a:decide (x<0)=decide (y<0)):HP x y=if b=true then -((x.natAbs%y.natAbs:Nat):Int) else ((x.natAbs%y.natAbs:Nat):Int):=by
 have f:= @SZ x y;unfold HP;rw[W5 g a]
 generalize x.natAbs/y.natAbs=q at*
 generalize x.natAbs%y.natAbs=r at*
 by_cases h:y<0
 ·have c:x<0:=by simpa [h] using a
  rw[hb,decide_eq_true h,if_pos rfl];rw[show (y.natAbs:Int)= -y by omega,show (x.natAbs:Int)= -x by omega,Int.neg_mul] at f;omega
 have c:¬x<0:=by intro c;simp[c,h] at a
 rw[hb,decide_eq_false h,if_neg (by simp)];rw[show (y.natAbs:Int)=y by omega,show (x.natAbs:Int)=x by omega] at f;omega
theorem lL (j:y≠0) (f:decide (x<0)≠decide (y<0)) (g:x.natAbs%y.natAbs=0):HP x y=if b=true then -((x.natAbs%y.natAbs:Nat):Int) else ((x.natAbs%y.natAbs:Nat):Int):=by
 have c:= @SZ x y;unfold HP;rw[W1 j f g];rw[g] at c ⊢
 generalize x.natAbs/y.natAbs=q at*
 have e:x-y* -(q:Int)=0:=by
  by_cases h:y<0
  ·have a:¬x<0:=by intro a;exact f (by rw[decide_eq_true a,decide_eq_true h])
   rw[show (y.natAbs:Int)= -y by omega,show (x.natAbs:Int)=x by omega,Int.neg_mul] at c;rw[Int.mul_neg];omega
  have a:x<0:=by apply Classical.byContradiction;intro a;exact f (by rw[decide_eq_false a,decide_eq_false h])
  rw[show (y.natAbs:Int)=y by omega,show (x.natAbs:Int)= -x by omega] at c;rw[Int.mul_neg];omega
 rw[e];cases b <;> rfl
theorem lM (hb:b=decide (y<0)) (j:y≠0) (c:decide (x<0)≠decide (y<0)) (g:x.natAbs%y.natAbs≠0):
  HP x y=if b=true then -((y.natAbs-x.natAbs%y.natAbs:Nat):Int) else ((y.natAbs-x.natAbs%y.natAbs:Nat):Int):=by
 have f:= @SZ x y;have hm:=Nat.mod_lt x.natAbs (by omega:0<y.natAbs);unfold HP;rw[W2 j c g]
 generalize x.natAbs/y.natAbs=q at*
 generalize x.natAbs%y.natAbs=r at*
 rw[Int.natCast_add,Int.mul_neg,Int.mul_add]
 by_cases h:y<0
 ·have a:¬x<0:=by intro a;exact c (by rw[decide_eq_true a,decide_eq_true h])
  rw[hb,decide_eq_true h,if_pos rfl];rw[show (y.natAbs:Int)= -y by omega,show (x.natAbs:Int)=x by omega,Int.neg_mul] at f;omega
 have a:x<0:=by apply Classical.byContradiction;intro a;exact c (by rw[decide_eq_false a,decide_eq_false h])
 rw[hb,decide_eq_false h,if_neg (by simp)];rw[show (y.natAbs:Int)=y by omega,show (x.natAbs:Int)= -x by omega] at f;omega
theorem bD (r:Bt N<=X) (a:0<X):Bt N<=(X+N/X)/2:=by
 have h:=Mw N
 generalize Bt N=s at*
 have j:X*(N/X)+N%X=N:=Nat.div_add_mod N X;have h3:=Nat.mod_lt N a
 generalize N/X=q at*
 rw[Nat.le_div_iff_mul_le (by decide)];apply Classical.byContradiction;intro v;have m:X+q+1<=2*s:=by omega
 obtain⟨d,rfl⟩:∃d,X=s+d:=⟨X-s,by omega⟩
 have c:q+1<=s-d:=by omega
 have f:(s+d)*(q+1)<=(s+d)*(s-d):=Nat.mul_le_mul_left _ c
 have o:(s+d)*(s-d)<=s*s:=by
  by_cases g:d<=s
  ·obtain⟨e,rfl⟩:∃e,s=e+d:=⟨s-d,by omega⟩
   have:(e+d)*(e+d)=(e+d+d)*e+d*d:=by grind
   rw[Nat.add_sub_cancel];omega
  rw[show s-d=0 by omega];simp
 rw[Nat.mul_add] at f;omega
theorem pD (j:Bt N<=X) (a:0<X) (h:X<=(X+N/X)/2):Bt N=X:=by
 have c:X<=N/X:=by omega
 have f:X*X<=N:=by
  have:=(Nat.le_div_iff_mul_le a).1 c;exact this
 have h3:=PR N;have g:X<Bt N+1:=Nat.mul_self_lt_mul_self_iff.1 (by omega);omega
theorem pE (h:N≠0):Bt N<=2^((Nat.log2 N+1)/2+1):=by
 apply Classical.byContradiction;intro g;have a:=Mw N;have c:N<2^(Nat.log2 N+1):=(Nat.log2_lt h).1 (Nat.lt_succ_self _);have h3:2^((Nat.log2 N+1)/2+1)*2^((Nat.log2 N+1)/2+1)<=Bt N*Bt N:=Nat.mul_le_mul (by omega) (by omega);rw[<-Nat.pow_add] at h3;have f:2^(Nat.log2 N+1)<=2^((Nat.log2 N+1)/2+1+((Nat.log2 N+1)/2+1)):=Nat.pow_le_pow_right (by decide) (by omega);omega
end
section
structure BY (q:Rat) (b1:Bool) (l1:List UInt32) (b2:Bool) (l2:List UInt32):Prop where
 num:BA q.num b1 l1
 den:BA (q.den:Int) b2 l2
variable {b' V6 b1 b2:Bool} {d y z:Int} {k:Nat} {l l' PF l1 l2:List UInt32}
theorem CA (q:Rat):∃b1 l1 b2 l2,BY q b1 l1 b2 l2:=⟨_,_,_,_,⟨rfl,rfl⟩,⟨rfl,rfl⟩⟩
theorem BY.uniq {p q:Rat} {c1 c2:Bool} {m1 m2:List UInt32} (h:BY p b1 l1 b2 l2) (h':BY q c1 m1 c2 m2) (e:p=q):(b1=c1/\l1=m1)/\(b2=c2/\l2=m2):=by
 subst e;exact⟨h.num.uniq h'.num rfl,h.den.uniq h'.den rfl⟩
structure CR (q:Rat):Prop where
 num:(AP q.num.natAbs).length<=4000000000000
 den:(AP q.den).length<=4000000000000
theorem BY.small {q:Rat} (h:BY q b1 l1 b2 l2) (s:CR q):l1.length<=4000000000000/\l2.length<=4000000000000:=by
 rw[h.num.Bb,h.den.Bb];exact⟨s.num,by simpa using s.den⟩
theorem W4 (x:Int):Ch x 1=x:=by unfold Ch;simp
theorem PO {n:Int} (f:d≠0):(Rat.divInt n d).num=Ch n (if d<0 then -((Nat.gcd n.natAbs d.natAbs:Nat):Int) else ((Nat.gcd n.natAbs d.natAbs:Nat):Int)):=by
 rw[Rat.num_divInt];have c:Int.gcd d n=Nat.gcd n.natAbs d.natAbs:=by rw[Int.gcd_comm];rfl
 have a:0<Nat.gcd n.natAbs d.natAbs:=Nat.gcd_pos_of_pos_right _ (by omega);rw[c];unfold Ch
 by_cases h:d<0
 ·rw[if_pos h,if_neg (by omega),Int.sign_eq_neg_one_of_neg h,Int.neg_neg,Int.neg_one_mul]
 rw[if_neg h,if_pos (by omega),Int.sign_eq_one_of_pos (by omega),Int.one_mul]
theorem PM {n:Int} (c:d≠0):((Rat.divInt n d).den:Int)=Ch d (if d<0 then -((Nat.gcd n.natAbs d.natAbs:Nat):Int) else ((Nat.gcd n.natAbs d.natAbs:Nat):Int)):=by
 rw[Rat.den_divInt,if_neg c];have f:Int.gcd d n=Nat.gcd n.natAbs d.natAbs:=by rw[Int.gcd_comm];rfl
 have a:0<Nat.gcd n.natAbs d.natAbs:=Nat.gcd_pos_of_pos_right _ (by omega);rw[f,Int.natCast_ediv];unfold Ch
 by_cases h:d<0
 ·rw[if_pos h,if_neg (by omega),Int.neg_neg,show (d.natAbs:Int)= -d by omega]
 rw[if_neg h,if_pos (by omega),show (d.natAbs:Int)=d by omega]
theorem lE:AP 1=[1]:=by decide +kernel
theorem Sr {x:Int} {b:Bool} (h:BA x b l) (e:b=true):false=decide (x=1):=by
 have:=h.neg;rw[e] at this;have a:x<0:=by simpa using this.symm
 simp;omega
theorem Y2 {x:Int} {b:Bool} (h:BA x b l) (e:¬l.length=1):false=decide (x=1):=by
 have a:x≠1:=by
  intro c;subst c;apply e;rw[h.Bb];exact congrArg List.length lE
 simp[a]
theorem Su {x:Int} {b:Bool} {w:UInt32} (h:BA x b l) (hb:b=false) (e:l.length=1) (hw:l[0]? =some w):decide (w.toNat=1)=decide (x=1):=by
 have g:l=[w]:=by
  match l,e,hw with
  | [a],_,hw=>simp at hw;rw[hw]
 have c:=h.nat;rw[g] at c;have f:AD [w]=w.toNat:=by simp[AD]
 rw[f] at c;have h3:=h.neg;rw[hb] at h3;have j:¬x<0:=by simpa using h3.symm
 rw[Bool.eq_iff_iff];simp;omega
theorem PS (n:Nat):n<2^(32*(AP n).length):=by
 have h:=Cv (AP n);rwa [BS] at h
theorem lD (a b:Nat):(AP (a*b)).length<=(AP a).length+(AP b).length:=by
 apply Fq;rw[Nat.mul_add,Nat.pow_add];exact Nat.mul_lt_mul_of_lt_of_le (PS a) (Nat.le_of_lt (PS b)) (Nat.pow_pos (by decide))
theorem lC {a b:Nat} (ha:(AP a).length<=k) (hb:(AP b).length<=k):(AP (a+b)).length<=k+1:=by
 apply Fq;have c:=Nat.lt_of_lt_of_le (PS a) (Nat.pow_le_pow_right (n:=2) (by decide) (Nat.mul_le_mul_left 32 ha));have f:=Nat.lt_of_lt_of_le (PS b) (Nat.pow_le_pow_right (n:=2) (by decide) (Nat.mul_le_mul_left 32 hb));rw[Nat.mul_add,Nat.pow_add];have h3:2^(32*k)*2<=2^(32*k)*2^(32*1):=Nat.mul_le_mul_left _ (by decide);omega
theorem BA.Dh {x:Int} {b:Bool} (h:BA x b l) (h':BA y b' l') (a:BA z V6 PF) (e:z=x*y):PF.length<=l.length+l'.length:=by
 rw[h.Bb,h'.Bb,a.Bb,e,Int.natAbs_mul];exact lD _ _
theorem BA.OE {x:Int} {b:Bool} (h:BA x b l) (h':BA y b' l') (c:BA z V6 PF) (e:z=x+y) (f:l.length<=k) (a:l'.length<=k):PF.length<=k+1:=by
 rw[h.Bb] at f;rw[h'.Bb] at a;rw[c.Bb,e];exact Nat.le_trans (EF (Int.natAbs_add_le x y)) (lC f a)
theorem HH (q:Rat):(q.den:Int)≠0:=by have:=q.den_nz;omega
theorem Qu (p q:Rat):p+q=Rat.divInt (p.num*q.den+q.num*p.den) ((p.den:Int)*q.den):=by
 have h:=Rat.divInt_add_divInt p.num q.num (HH p) (HH q);rwa [Rat.num_divInt_den,Rat.num_divInt_den] at h
theorem PW (p q:Rat):p*q=Rat.divInt (p.num*q.num) ((p.den:Int)*q.den):=by
 have h:=Rat.divInt_mul_divInt p.num q.num (d₁:=p.den) (d₂:=q.den);rwa [Rat.num_divInt_den,Rat.num_divInt_den] at h
theorem iw (p q:Rat):p/q=Rat.divInt (p.num*q.den) ((p.den:Int)*q.num):=by
 have h:=Rat.divInt_mul_divInt p.num q.den (d₁:=p.den) (d₂:=q.num);rw[<-Rat.inv_divInt q.num q.den,Rat.num_divInt_den,Rat.num_divInt_den] at h;rw[Rat.div_def,h]
theorem W6 (x:Int):Rat.divInt x 1=(x:Rat):=Rat.num_divInt_den (x:Rat)
theorem W8 (x:Int):(Rat.divInt x 1).num=x:=by rw[W6];rfl
theorem W7 (x:Int):(Rat.divInt x 1).den=1:=by rw[W6];rfl
theorem Iz {p q:Rat} (a:(p.den:Int)=1) (c:(q.den:Int)=1):(p+q).num=p.num+q.num/\(p+q).den=1:=by
 rw[Qu,a,c];simp only[Int.mul_one];exact⟨W8 _,W7 _⟩
theorem mul_ones {p q:Rat} (a:(p.den:Int)=1) (c:(q.den:Int)=1):(p*q).num=p.num*q.num/\(p*q).den=1:=by
 rw[PW,a,c];simp only[Int.mul_one];exact⟨W8 _,W7 _⟩
theorem au (r:Rat):(r*r).num=r.num*r.num/\(r*r).den=r.den*r.den:=by
 have a:(r.num*r.num).natAbs.Coprime (r.den*r.den):=by
  rw[Int.natAbs_mul];have h:=r.reduced;exact Nat.Coprime.mul_right (Nat.Coprime.mul_left h h) (Nat.Coprime.mul_left h h)
 have c:r.den*r.den≠0:=Nat.mul_ne_zero r.den_nz r.den_nz;have h:=Rat.num_divInt_den (⟨r.num*r.num,r.den*r.den,c,a⟩:Rat);have f:=PW r r
 have h3:(⟨r.num*r.num,r.den*r.den,c,a⟩:Rat)=r*r:=by
  rw[f,<-h];exact congrArg _ (Int.natCast_mul _ _)
 rw[<-h3];exact⟨rfl,rfl⟩
theorem Xy (n:Nat):Bt (n*n)=n:=Xz (Nat.le_refl _) (by rw[Nat.add_mul,Nat.mul_add];omega)
theorem bC {r q:Rat} (c:0<=r) (h:r*r=q):((Bt q.num.toNat:Nat):Int)=r.num/\r.num*r.num=q.num:=by
 have a:=(au r).1;rw[h] at a;have g:0<=r.num:=Rat.num_nonneg.2 c;refine⟨?_,a.symm⟩;obtain⟨k,f⟩:=Int.eq_ofNat_of_zero_le g;rw[a,f];rw[show ((k:Int)*k).toNat=k*k by rw[<-Int.natCast_mul];rfl,Xy]
theorem bB {r q:Rat} (c:0<=r) (h:r*r=q):((Bt (q.den:Int).toNat:Nat):Int)=(r.den:Int)/\(r.den:Int)*r.den=(q.den:Int):=by
 have a:=(au r).2;rw[h] at a;refine⟨?_,by rw[a];exact (Int.natCast_mul _ _).symm⟩;rw[a,Int.toNat_natCast,Xy]
theorem bA {q:Rat} (c:((Bt q.num.toNat:Nat):Int)*((Bt q.num.toNat:Nat):Int)=q.num) (a:((Bt (q.den:Int).toNat:Nat):Int)*((Bt (q.den:Int).toNat:Nat):Int)=(q.den:Int)):∃r:Rat,0<=r/\r*r=q:=by
 refine⟨Rat.divInt ((Bt q.num.toNat:Nat):Int) ((Bt (q.den:Int).toNat:Nat):Int),?_,?_⟩
 ·exact Rat.divInt_nonneg (Int.natCast_nonneg _) (Int.natCast_nonneg _)
 rw[Rat.divInt_mul_divInt,c,a,Rat.num_divInt_den]
def Ez (b1:Bool) (l1:List UInt32) (b2:Bool) (l2:List UInt32):Bool:=FZ b1 l1&&(FZ b2 l2&&(!b2&&(decide (l2≠[])&&decide (Nat.gcd (AD l1) (AD l2)=1))))
theorem Lv:Ez b1 l1 b2 l2=true↔∃q,BY q b1 l1 b2 l2:=by
 unfold Ez;simp only[Bool.and_eq_true,Bool.not_eq_true',decide_eq_true_eq]
 constructor
 ·rintro⟨j,m,h3,o,c⟩
  obtain⟨x,g⟩:=JY.1 j;obtain⟨y,a⟩:=JY.1 m;have r:y≠0:=fun e=>o (a.nil.2 e)
  have f:=a.neg;rw[h3] at f;have v:¬y<0:=by simpa using f.symm
  rw[g.nat,a.nat] at c;refine⟨⟨x,y.natAbs,by omega,c⟩,g,?_⟩
  show BA ((y.natAbs:Nat):Int) b2 l2
  rw[show ((y.natAbs:Nat):Int)=y by omega];exact a
 rintro⟨q,h⟩
 refine⟨JY.2 ⟨_,h.num⟩,JY.2 ⟨_,h.den⟩,?_,fun e=>q.den_nz (by have:=h.den.nil.1 e;omega),?_⟩
 ·rw[h.den.neg];simp
 rw[h.num.nat,h.den.nat,Int.natAbs_natCast];exact q.reduced
def D1 (q:Rat):Int:=Cg q.num
def Gu (p q:Rat):Int:=if p<q then -1 else if q<p then 1 else 0
end
section
open Go.RowKit
def rp (q:Rat):el AA:=((decide (q.num<0),AP q.num.natAbs),(decide ((q.den:Int)<0),AP q.den))
theorem Gx (q:Rat):BY q (rp q).1.1 (rp q).1.2 (rp q).2.1 (rp q).2.2:=⟨⟨rfl,rfl⟩,⟨rfl,rfl⟩⟩
theorem BY.rp {q:Rat} {b1 b2:Bool} {l1 l2:List UInt32} (h:BY q b1 l1 b2 l2):rp q=((b1,l1),(b2,l2)):=by
 have u:=h.uniq (Gx q) rfl;rw[u.1.1,u.1.2,u.2.1,u.2.2]
abbrev BI (X:List Rat):List (el AA):=X.map rp
def D8 (X:List Rat):Prop:=∀q∈X,CR q
structure N2 (ts:List (List Rat)):Prop where
 small:∀x∈ts,D8 x
 Rz:ts.length<=16
 form:∀i x,ts[i]? =some x->x.length=2^i
end
section
open Go.RowKit
noncomputable def em (u:List (List Rat)) (x:Re):List (el AA):=BI (co u x)
def tw (u:List (List Rat)):List (List (el AA)):=u.reverse.map BI
structure BF (R:Nat) (u:List (List Rat)):Prop where
 red:AU u
 tb:TB R u
 hR:R<=60000000000000
 ht:u.length<=16
structure El (u:List (List Rat)) (s:Nat) (x:Re):Prop where
 mem:In u x
 bd:Bd s (co u x)
variable {R k n s t:Nat} {p x y:Re}
theorem YH (h:n<=2^(2*k)) (c:k<=60000000000000):(AP n).length<=4000000000000:=by
 obtain⟨m,hm⟩:=xN 3999999999999;have a:n<2^(32*m):=Nat.lt_of_le_of_lt h (Nat.pow_lt_pow_right (by decide) (by omega));have:=Fq a;omega
theorem iS {q:Rat} {D:Nat} {n:Int} (h:q*D=n) (g:0<D):q.den<=D:=by
 have a:=Le q
 have c:((q.num*D:Int):Rat)=((n*q.den:Int):Rat):=by
  rw[Rat.intCast_mul,Rat.intCast_mul,<-h,<-a];have e1:((D:Int):Rat)=(D:Rat):=rfl;have j:((q.den:Int):Rat)=(q.den:Rat):=rfl
  grind
 have h3:q.num*D=n*q.den:=Rat.intCast_inj.1 c
 have f:q.den∣q.num.natAbs*D:=by
  refine⟨n.natAbs,?_⟩;have:=congrArg Int.natAbs h3;rw[Int.natAbs_mul,Int.natAbs_mul,Int.natAbs_natCast,Int.natAbs_natCast] at this;rw[this,Nat.mul_comm]
 exact Nat.le_of_dvd g ((Nat.Coprime.symm q.reduced).dvd_of_dvd_mul_left f)
theorem Bd.CT {a:List Rat} (h:Bd k a) (g:k<=60000000000000):D8 a:=by
 obtain⟨D,o,r,v,h3⟩:=h;intro q j;obtain⟨n,w⟩:=v q j;have f:q.den<=2^k:=Nat.le_trans (iS w o) r;have hb:=h3 q j
 have c:q.num.natAbs<=2^(2*k):=by
  have e1:=SX (C:=q.den) hb (q:=(q.den:Rat)) ⟨by have:(0:Rat)<=q.den:=Rat.natCast_nonneg;grind,by grind⟩;rw[Le] at e1
  have m:q.num.natAbs<=2^k*q.den:=by
   have B: -((2^k*q.den:Nat):Int)<=q.num:=by
    apply Rat.intCast_le_intCast.1;rw[Rat.intCast_neg];exact e1.1
   have F:q.num<=((2^k*q.den:Nat):Int):=Rat.intCast_le_intCast.1 e1.2;omega
  have:=Nat.mul_le_mul_left (2^k) f;rw[<-Nat.pow_add] at this;exact Nat.le_trans m (Nat.le_trans this (Cb))
 exact⟨YH c g,YH (Nat.le_trans f (Cb)) g⟩
theorem El.CT {u:List (List Rat)} (h:El u s x) (a:s<=60000000000000):D8 (co u x):=h.bd.CT a
theorem El.len {u:List (List Rat)} (h:El u s x):(co u x).length=2^u.length:=C0 h.mem
theorem Bn {u:List (List Rat)} (h:In u x):(em u x).length=2^u.length:=by rw[em,List.length_map,C0 h]
theorem CG (u:List (List Rat)):(tw u).length=u.length:=by rw[tw,List.length_map,List.length_reverse]
theorem DX (h:n<=16:=by omega):2^n<=65536:=Nat.le_trans (Cb h) (by decide)
theorem Nc (r:List Rat) (u:List (List Rat)):tw (r::u)=tw u++[BI r]:=by rw[tw,List.reverse_cons,List.map_append];rfl
theorem Dn (r:List Rat) (u:List (List Rat)):(tw (r::u)).take ((tw (r::u)).length-1)=tw u:=by
 rw[Nc,List.length_append,CG];simp[List.take_left' (CG u)]
theorem FW (r:List Rat) (u:List (List Rat)):(tw (r::u))[(tw (r::u)).length-1]? =some (BI r):=by
 rw[Nc,List.length_append,CG];simp[List.getElem?_append_right (Nat.le_of_eq (CG u))];rw[CG,Nat.sub_self];rfl
theorem Ea {r:List Rat} {u:List (List Rat)} (h:AU (r::u)):BI r=em u (AM u r):=by rw[em,EP h]
theorem Cs {u:List (List Rat)} {r:List Rat} {q:Re} (h:AU (r::u)) (c:In u p) (f:In u q) (g:x=p+q*rt u r):(em (r::u) x).take ((em (r::u) x).length/2)=em u p:=by
 have a:In (r::u) x:=Cd.2 ⟨p,q,c,f,g⟩;rw[Bn a,B8,show (2^u.length+2^u.length)/2=2^u.length by omega,em,em,BI,BI,<-List.map_take,iM h c f g]
theorem Ca {u:List (List Rat)} {r:List Rat} {q:Re} (h:AU (r::u)) (c:In u p) (f:In u q) (g:x=p+q*rt u r):(em (r::u) x).drop ((em (r::u) x).length/2)=em u q:=by
 have a:In (r::u) x:=Cd.2 ⟨p,q,c,f,g⟩;rw[Bn a,B8,show (2^u.length+2^u.length)/2=2^u.length by omega,em,em,BI,BI,<-List.map_drop,iL h c f g]
theorem FC {u:List (List Rat)} {r:List Rat} {q:Re} (h:AU (r::u)) (a:In u p) (c:In u q) (f:x=p+q*rt u r):em (r::u) x=em u p++em u q:=by
 rw[em,DB h a c f,BI,List.map_append];rfl
theorem XE {u:List (List Rat)} (h:AU u) (a:In u x) (c:In u y):em u (x+y)=BI (List.zipWith (· + ·) (co u x) (co u y)):=by rw[em,MW h a c]
theorem XF {u:List (List Rat)} (h:AU u) (a:In u x):em u (-x)=BI ((co u x).map (- ·)):=by rw[em,Kp h a]
theorem EB (q:Rat):em [] (Re.ofRat q)=[rp q]:=by rw[em,Dg];rfl
theorem Rd {u:List (List Rat)} (h:AU u):em u 0=BI (List.replicate (2^u.length) 0):=by rw[em,RQ h]
theorem BF.tail {r:List Rat} {u:List (List Rat)} (h:BF R (r::u)):BF R u:=⟨h.red.1,h.tb.tail,h.hR,by have:=h.ht;rw[List.length_cons] at this;omega⟩
theorem C6 {α:Type} {l:List α} {i:Nat} {x:α} (h:l[i]? =some x):i<l.length:=by
 apply Classical.byContradiction;intro a;rw[List.getElem?_eq_none (by omega)] at h;exact absurd h (by simp)
theorem Lf:∀{u:List (List Rat)},AU u->∀(i:Nat) (x:List Rat),u.reverse[i]? =some x->x.length=2^i
 | [],_,i,x,h=>by simp at h
 | r::u,a,i,x,h=>by
  rw[List.reverse_cons] at h
  by_cases f:i<u.length
  ·rw[List.getElem?_append_left (by rw[List.length_reverse];exact f)] at h;exact Lf a.1 i x h
  rw[List.getElem?_append_right (by rw[List.length_reverse];omega),List.length_reverse] at h
  have c:i-u.length=0:=by
   have:=C6 h;simp at this;omega
  rw[c] at h;have:r=x:=by simpa using h
  rw[<-this,a.2.1]
  congr 1;omega
theorem BF.Gk {u:List (List Rat)} (h:BF R u):N2 u.reverse:=
 ⟨fun x a=>(h.tb x (List.mem_reverse.1 a)).CT h.hR,by rw[List.length_reverse];exact h.ht,Lf h.red⟩
theorem El.Cz {r:List Rat} {u:List (List Rat)} (h:BF R (r::u)):El u R (AM u r):=⟨B9 h.red,Q8 h.red h.tb⟩
theorem El.parts {u:List (List Rat)} {r:List Rat} (h:AU (r::u)) (f:El (r::u) s x):∃p q,x=p+q*rt u r/\El u s p/\El u s q:=by
 obtain⟨p,q,a,c,rfl⟩:=Cd.1 f.mem;have:=WC h a c f.bd;exact⟨p,q,rfl,⟨a,this.1⟩,⟨c,this.2⟩⟩
theorem El.mono {u:List (List Rat)} (h:El u s x) (a:s<=t):El u t x:=⟨h.mem,h.bd.mono a⟩
theorem El.add {u:List (List Rat)} (h:AU u) (a:El u s x) (c:El u t y):El u (s+t+1) (x+y):=⟨DR a.mem c.mem,WA h a.mem c.mem a.bd c.bd⟩
theorem El.sub {u:List (List Rat)} (h:AU u) (a:El u s x) (c:El u t y):El u (s+t+1) (x-y):=⟨E5 a.mem c.mem,gZ h a.mem c.mem a.bd c.bd⟩
theorem El.neg {u:List (List Rat)} (h:AU u) (a:El u s x):El u s (-x):=⟨F5 a.mem,WD h a.mem a.bd⟩
theorem El.mul {u:List (List Rat)} (h:BF R u) (a:El u s x) (c:El u t y):El u (s+t+EE u.length R) (x*y):=⟨Ag h.red a.mem c.mem,gW h.red h.tb a.mem c.mem a.bd c.bd⟩
theorem El.norm {u:List (List Rat)} {r:List Rat} {q:Re} (h:BF R (r::u)) (a:In u p) (c:In u q) (f:El (r::u) s (p+q*rt u r)):El u (2*s+2*EE u.length R+R+1) (p*p-q*q*AM u r):=
 ⟨E5 (Ag h.red.1 a a) (Ag h.red.1 (Ag h.red.1 c c) (B9 h.red)),WE h.red h.tb a c f.bd⟩
theorem El.inv {u:List (List Rat)} (h:BF R u) (a:El u s x) (c:In u y) (e:x*y=1):El u (II u.length R s) y:=⟨c,GP h.red h.tb a.mem c e a.bd⟩
theorem El.sqrt {u:List (List Rat)} {w:Re} (h:BF R u) (a:El u s x) (hw:In u w) (e:w*w=x):El u (s+GG u.length R) w:=⟨hw,OQ h.red h.tb hw e a.bd⟩
theorem El.rat {u:List (List Rat)} {q:Rat} (h:AU u) (a:Bd s [q]):El u s (Re.ofRat q):=⟨HN q u,gX h a⟩
theorem Ek:∀(h R s:Nat),2*s<=II h R s
 | 0,_,_=>Nat.le_refl _
 | h+1,R,s=>by
  have:=Ek h R (2*s+2*EE h R+R+1);rw[II];omega
theorem Ym {u:List (List Rat)} {r:List Rat} {q:Re} (h:AU (r::u)) (f:In u p) (g:In u q) (c:p+q*rt u r≠0):p*p-q*q*AM u r≠0:=by
 intro j;have v:=Cu h;have e1:(p+q*rt u r)*(p-q*rt u r)=0:=by grind
 rcases Re.F3 e1 with a | a
 ·exact c a
 obtain⟨m,o⟩:=indep h f (F5 g) (CN u) (CN u) (show p+ -q*rt u r=0+0*rt u r by grind);exact c (by grind)
theorem MM:Bd 1 [(1/2:Rat)]:=by
 refine⟨2,by decide,by decide,fun q a=>⟨1,?_⟩,fun q a=>?_⟩
 ·rw[List.mem_singleton.1 a];decide +kernel
 rw[List.mem_singleton.1 a];decide +kernel
theorem GO:Bd 0 [(0:Rat)]:=⟨1,by decide,by decide,fun q a=>⟨0,by rw[List.mem_singleton.1 a];decide +kernel⟩,fun q a=>by rw[List.mem_singleton.1 a];decide +kernel⟩
theorem gU:Bd 0 [(1:Rat)]:=⟨1,by decide,by decide,fun q a=>⟨1,by rw[List.mem_singleton.1 a];decide +kernel⟩,fun q a=>by rw[List.mem_singleton.1 a];decide +kernel⟩
end
section
noncomputable def Bm (x:Re):Int:=by
 classical
 exact if x<0 then -1 else if x=0 then 0 else 1
theorem Ew (x:Re):(x<0/\Bm x= -1)\/(x=0/\Bm x=0)\/(0<x/\Bm x=1):=by
 unfold Bm
 by_cases h:x<0
 ·rw[if_pos h];exact .inl ⟨h,rfl⟩
 rw[if_neg h]
 by_cases a:x=0
 ·rw[if_pos a];exact .inr (.inl ⟨a,rfl⟩)
 rw[if_neg a];exact .inr (.inr ⟨by grind,rfl⟩)
theorem G1 {x:Re} (h:0<x):Bm x=1:=by rcases Ew x with⟨a,b⟩ |⟨a,b⟩ |⟨a,b⟩ <;> grind
theorem JU {x:Re} (h:x<0):Bm x= -1:=by rcases Ew x with⟨a,b⟩ |⟨a,b⟩ |⟨a,b⟩ <;> grind
theorem GK:Bm 0=0:=by rcases Ew 0 with⟨a,b⟩ |⟨a,b⟩ |⟨a,b⟩ <;> grind
theorem Gh {x:Re}:Bm x=0↔x=0:=by
 rcases Ew x with⟨a,b⟩ |⟨a,b⟩ |⟨a,b⟩ <;> rw[b]
 ·constructor
  ·intro h;omega
  intro h;grind
 ·exact⟨fun _=>a,fun _=>rfl⟩
 constructor
 ·intro h;omega
 intro h;grind
theorem aH (x y:Re):Bm (x*y)=Bm x*Bm y:=by
 rcases Ew x with⟨a,b⟩ |⟨a,b⟩ |⟨a,b⟩ <;> rcases Ew y with⟨c,d⟩ |⟨c,d⟩ |⟨c,d⟩ <;> rw[b,d]
 ·have:=Re.mul_pos (x:= -x) (y:= -y) (by grind) (by grind);exact G1 (by grind)
 ·rw[c,show x*0=0 by grind];exact GK
 ·have:=Re.mul_pos (x:= -x) (y:=y) (by grind) (by grind);exact JU (by grind)
 ·rw[a,show 0*y=0 by grind];exact GK
 ·rw[a,show 0*y=0 by grind];exact GK
 ·rw[a,show 0*y=0 by grind];exact GK
 ·have:=Re.mul_pos (x:=x) (y:= -y) (by grind) (by grind);exact JU (by grind)
 ·rw[c,show x*0=0 by grind];exact GK
 exact G1 (Re.mul_pos a c)
theorem aG (x y:Re): -9223372036854775808<=Bm x*Bm y/\Bm x*Bm y<9223372036854775808:=by
 rcases Ew x with⟨a,b⟩ |⟨a,b⟩ |⟨a,b⟩ <;> rcases Ew y with⟨c,d⟩ |⟨c,d⟩ |⟨c,d⟩ <;> rw[b,d] <;> decide
section
variable {p q s ρ:Re}
theorem Px (f:0<s) (h:q=0\/Bm p=Bm q):Bm (p+q*s)=Bm p:=by
 rcases h with h | h
 ·rw[h,show p+0*s=p by grind]
 rcases Ew p with⟨a,b⟩ |⟨a,b⟩ |⟨a,b⟩ <;> rcases Ew q with⟨c,d⟩ |⟨c,d⟩ |⟨c,d⟩ <;> rw[b,d] at h <;> try omega
 ·have:=Re.mul_pos (x:= -q) (y:=s) (by grind) f;rw[b];exact JU (by grind)
 ·rw[b,a,c,show (0:Re)+0*s=0 by grind];exact GK
 have:=Re.mul_pos (x:=q) (y:=s) c f;rw[b];exact G1 (by grind)
theorem aN (a:0<s) (h:p=0):Bm (p+q*s)=Bm q:=by
 rw[h,show 0+q*s=q*s by grind,aH,G1 a,Int.mul_one]
theorem aM (f:0<s) (m:s*s=ρ) (g:p≠0) (j:q≠0) (h:Bm p≠Bm q):Bm (p+q*s)=Bm p*Bm (p*p-q*q*ρ):=by
 have e:p*p-q*q*ρ=(p-q*s)*(p+q*s):=by rw[<-m];grind
 rw[e,aH];rcases Ew p with⟨a,b⟩ |⟨a,b⟩ |⟨a,b⟩ <;> rcases Ew q with⟨c,d⟩ |⟨c,d⟩ |⟨c,d⟩ <;> rw[b,d] at h <;> first | (exact absurd rfl h) | (exact absurd a g) | (exact absurd c j) | skip
 ·have:=Re.mul_pos (x:=q) (y:=s) c f;rw[b,JU (x:=p-q*s) (by grind)];omega
 have:=Re.mul_pos (x:= -q) (y:=s) (by grind) f;rw[b,G1 (x:=p-q*s) (by grind)];omega
end
theorem aI (q:Rat):Bm (Re.ofRat q)=D1 q:=by
 have c:(0:Re)=Re.ofRat 0:=rfl;have f:D1 q=Cg q.num:=rfl;rw[f];rcases Fs q.num with⟨a,b⟩ |⟨a,b⟩ |⟨a,b⟩ <;> rw[b]
 ·exact JU (by rw[c,Re.HT];rw[Rat.lt_iff];simp;exact a)
 ·rw[Rat.num_eq_zero.1 a];exact GK
 exact G1 (by rw[c,Re.HT];rw[Rat.lt_iff];simp;exact a)
def VV:Nat->Nat->Nat->Nat
 | 0,_,s=>s
 | h+1,R,s=>VV h R (2*s+2*EE h R+R+1)
theorem H9:∀(h R:Nat) {s t:Nat},s<=t->VV h R s<=VV h R t
 | 0,_,_,_,h=>h
 | h+1,R,_,_,a=>H9 h R (by omega)
theorem Fw:∀(h R s:Nat),s<=VV h R s
 | 0,_,_=>Nat.le_refl _
 | h+1,R,s=>Nat.le_trans (by omega) (Fw h R (2*s+2*EE h R+R+1))
theorem U6 (h R s:Nat):VV h R s<=VV (h+1) R s:=H9 h R (by omega)
theorem MB {i h:Nat} (c:i<=h) (R s:Nat):VV i R s<=VV h R s:=by
 induction h with
 | zero=>rw[Nat.le_zero.1 c];exact Nat.le_refl _
 | succ h f=>
  rcases Nat.lt_or_ge i (h+1) with a | a
  ·exact Nat.le_trans (f (by omega)) (U6 h R s)
  rw[show i=h+1 by omega];exact Nat.le_refl _
def pre (u:List (List Rat)) (i:Nat):List (List Rat):=u.drop (u.length-i)
theorem JM {u:List (List Rat)} {i:Nat} (h:i<=u.length):(pre u i).length=i:=by rw[pre,List.length_drop];omega
theorem Ie {u:List (List Rat)} {i:Nat}:(tw u).take i=tw (pre u i):=by
 rw[tw,tw,pre,<-List.map_take,List.reverse_drop]
 by_cases h:i<=u.length
 ·rw[show u.length-(u.length-i)=i by omega]
 rw[show u.length-i=0 by omega,Nat.sub_zero,List.take_of_length_le (by rw[List.length_reverse];omega),List.take_of_length_le (by rw[List.length_reverse];omega)]
theorem ZQ (u:List (List Rat)):pre u u.length=u:=by rw[pre,Nat.sub_self,List.drop_zero]
theorem KI {u:List (List Rat)} {i:Nat} (h:i<u.length):∃r,pre u (i+1)=r::pre u i/\(tw u)[i]? =some (BI r):=by
 refine⟨u[u.length-(i+1)]'(by omega),?_,?_⟩
 ·rw[pre,pre,List.drop_eq_getElem_cons (by omega),show u.length-(i+1)+1=u.length-i by omega]
 rw[tw,List.getElem?_map,List.getElem?_reverse h,show u.length-1-i=u.length-(i+1) by omega,List.getElem?_eq_getElem (by omega)];rfl
theorem Zd:∀{u:List (List Rat)} (n:Nat),AU u->AU (u.drop n)
 |u,0,h|[],_+1,h=>h
 | _::u,n+1,h=>Zd n h.1
theorem BF.pre {R:Nat} {u:List (List Rat)} (h:BF R u) (i:Nat):BF R (pre u i):=
 ⟨Zd _ h.red,fun r a=>h.tb r (List.mem_of_mem_drop a),h.hR,by have:=h.ht;rw[Go.Abs.pre,List.length_drop];omega⟩
def QQ:Nat->Nat->Nat->Nat
 | 0,_,s=>s
 | h+1,R,s=>max (QQ h R (3*s+3*EE h R+R+GG h R+3+II h R R)) (s+II h R (2*(3*s+3*EE h R+R+GG h R+3+II h R R+GG h R)+1)+EE h R)
theorem Jd:∀(h R:Nat) {s t:Nat},s<=t->II h R s<=II h R t
 | 0,_,_,_,h=>by rw[II,II];omega
 | h+1,R,s,t,a=>by
  have:=Jd h R (s:=2*s+2*EE h R+R+1) (t:=2*t+2*EE h R+R+1) (by omega);rw[II,II];omega
theorem Nx:∀(h R:Nat) {s t:Nat},s<=t->QQ h R s<=QQ h R t
 | 0,_,_,_,h=>h
 | h+1,R,s,t,f=>by
  have a:=Nx h R (s:=3*s+3*EE h R+R+GG h R+3+II h R R) (t:=3*t+3*EE h R+R+GG h R+3+II h R R) (by omega);have c:=Jd h R (s:=2*(3*s+3*EE h R+R+GG h R+3+II h R R+GG h R)+1) (t:=2*(3*t+3*EE h R+R+GG h R+3+II h R R+GG h R)+1) (by omega);rw[QQ,QQ];omega
theorem H6:∀(h R s:Nat),s<=QQ h R s
 | 0,_,_=>Nat.le_refl _
 | h+1,R,s=>by have:=H6 h R (3*s+3*EE h R+R+GG h R+3+II h R R);rw[QQ];omega
theorem dV (h R s:Nat):QQ h R s<=QQ (h+1) R s:=by
 have:=Nx h R (s:=s) (t:=3*s+3*EE h R+R+GG h R+3+II h R R) (by omega);rw[QQ];omega
theorem dU {i h:Nat} (c:i<=h) (R s:Nat):QQ i R s<=QQ h R s:=by
 induction h with
 | zero=>rw[Nat.le_zero.1 c];exact Nat.le_refl _
 | succ h f=>
  rcases Nat.lt_or_ge i (h+1) with a | a
  ·exact Nat.le_trans (f (by omega)) (dV h R s)
  rw[show i=h+1 by omega];exact Nat.le_refl _
structure Fit (h R s:Nat):Prop where
 q:QQ h R s<=60000000000000
 v:VV h R (s+GG h R)<=60000000000000
 qR:QQ h R R<=60000000000000
 vR:VV h R R<=60000000000000
theorem Fit.v0 {h R s:Nat} (f:Fit h R s):VV h R s<=60000000000000:=Nat.le_trans (H9 h R (by omega)) f.v
theorem Fit.s {h R s:Nat} (f:Fit h R s):s<=60000000000000:=Nat.le_trans (H6 h R s) f.q
theorem Fit.mono {h R s t:Nat} (f:Fit h R s) (ht:t<=s):Fit h R t:=⟨Nat.le_trans (Nx h R ht) f.q,Nat.le_trans (H9 h R (by omega)) f.v,f.qR,f.vR⟩
end
section
def BT (u w:List (List Rat)):Prop:=∀x,In u x->In w x
theorem BT.refl (u:List (List Rat)):BT u u:=fun _ h=>h
theorem BT.trans {u v w:List (List Rat)} (h:BT u v) (k:BT v w):BT u w:=fun x a=>k x (h x a)
theorem Mk:∀(v:List (List Rat)) {u:List (List Rat)},BT u (v++u)
 | [],u=>BT.refl u
 | _::v,_=>fun x a=>E6 (Mk v x a)
theorem Mm {u w:List (List Rat)} (h:u<:+w):BT u w:=by
 obtain⟨v,rfl⟩:=h;exact Mk v
theorem BT.tail {u w:List (List Rat)} {r:List Rat} (h:BT (r::u) w):BT u w:=fun x a=>h x (E6 a)
theorem BT.root {u w:List (List Rat)} {r:List Rat} (h:BT (r::u) w):In w (rt u r):=h _ (IU u r)
theorem I6 {u w:List (List Rat)} {r:List Rat} (hw:AU w) (h:BT u w) (f:In w (rt u r)):BT (r::u) w:=fun x g=>by
 obtain⟨p,q,a,c,rfl⟩:=Cd.1 g;exact DR (h p a) (Ag hw (h q c) f)
theorem Kz (w:List (List Rat)):BT [] w:=fun x a=>by
 obtain⟨q,rfl⟩:=Ct.1 a;exact HN q w
noncomputable def BC (u:List (List Rat)) (v:Re):List (List Rat):=by
 classical
 exact if Sq u v then u else co u v::u
theorem Df {u:List (List Rat)} {v:Re} (h:Sq u v):BC u v=u:=by unfold BC;rw[if_pos h]
theorem DG {u:List (List Rat)} {v:Re} (h:¬Sq u v):BC u v=co u v::u:=by unfold BC;rw[if_neg h]
theorem OJ (u:List (List Rat)) (v:Re):u<:+BC u v:=by
 by_cases h:Sq u v
 ·rw[Df h];exact List.suffix_refl u
 rw[DG h];exact List.suffix_cons _ _
theorem JQ {u:List (List Rat)} {v:Re} (h:AU u) (a:In u v) (c:0<v) (f:¬Sq u v):AU (co u v::u):=
 ⟨h,C0 a,by rw[EC a];exact c,by rw[EC a];exact f⟩
theorem TE {u:List (List Rat)} {v:Re} (h:AU u) (f:In u v) (c:0<v):AU (BC u v):=by
 by_cases a:Sq u v
 ·rw[Df a];exact h
 rw[DG a];exact JQ h f c a
theorem Ik {u:List (List Rat)} {v:Re} (a:In u v):rt u (co u v)=Re.sqrt v:=by rw[rt,EC a]
theorem KQ {u:List (List Rat)} {v:Re} (a:0<=v):Sq u v↔In u (Re.sqrt v):=by
 constructor
 ·rintro⟨w,hw,e⟩
  have f:=Re.G5 a;have c:=Re.Ll v
  by_cases h:0<=w
  ·rw[<-Re.Lk h c (by rw[e,f])];exact hw
  rw[<-Re.Lk (x:= -w) (by grind) c (by rw[f,<-e];grind)];exact F5 hw
 intro h;exact⟨_,h,Re.G5 a⟩
theorem Qv {u:List (List Rat)} {v:Re} (f:In u v) (c:0<=v):In (BC u v) (Re.sqrt v):=by
 by_cases a:Sq u v
 ·rw[Df a];exact (KQ c).1 a
 rw[DG a,<-Ik f];exact IU u _
noncomputable def ext (t:List (List Rat)):List (List Rat)->List (List Rat)
 | []=>t
 | r::u=>BC (ext t u) (AM u r)
theorem Oy (t:List (List Rat)):∀u,t<:+ext t u
 | []=>List.suffix_refl t
 | r::u=>List.IsSuffix.trans (Oy t u) (OJ _ _)
theorem Ii {t:List (List Rat)} (ht:AU t):∀{u:List (List Rat)},AU u->AU (ext t u)/\BT u (ext t u)
 | [],_=>⟨ht,Kz _⟩
 | r::u,hu=>by
  obtain⟨g,a⟩:=Ii ht hu.1;have c:=a _ (B9 hu);have f:=hu.2.2.1;have h3:=TE g c f;exact⟨h3,I6 h3 (a.trans (Mm (OJ _ _))) (Qv c (by grind))⟩
open Classical in
noncomputable def Eb (t u:List (List Rat)):List (List Rat):=if u<:+t then t else if t<:+u then u else ext t u
theorem nO {t u:List (List Rat)} (ht:AU t) (hu:AU u):AU (Eb t u)/\BT t (Eb t u)/\BT u (Eb t u):=by
 unfold Eb
 split
 ·rename_i h;exact⟨ht,BT.refl t,Mm h⟩
 split
 ·rename_i h;exact⟨hu,Mm h,BT.refl u⟩
 obtain⟨a,c⟩:=Ii ht hu;exact⟨a,Mm (Oy t u),c⟩
theorem XG:∀(v:List (List Rat)) {u:List (List Rat)} {x:Re},AU (v++u)->In u x->em (v++u) x=em u x++List.replicate (2^(v++u).length-2^u.length) (rp 0)
 | [],u,x,h,c=>by simp
 | r::v,u,x,h,c=>by
  have f:=Mk v x c;have w:=XG v h.1 c;have j:2^u.length<=2^(v++u).length:=Cb (by simp);have e:em (r::v++u) x=em (v++u) x++em (v++u) 0:=FC h f (CN _) (by grind);have o:em (v++u) 0=BI (List.replicate (2^(v++u).length) 0):=Rd h.1;rw[e,w,o,BI,List.map_replicate,List.append_assoc,List.replicate_append_replicate];have m:2^(r::v++u).length=2^(v++u).length+2^(v++u).length:=B8 r (v++u);have g:∀a b:Nat,b<=a->a-b+a=a+a-b:=fun a b h=>by omega
  rw[m,<-g _ _ j]
theorem XJ {u w:List (List Rat)} {x:Re} (h:u<:+w) (hw:AU w) (a:In u x):em w x=em u x++List.replicate (2^w.length-2^u.length) (rp 0):=by
 obtain⟨v,rfl⟩:=h;exact XG v hw a
theorem TG {u w:List (List Rat)} (h:u<:+w) (hw:AU w):AU u:=by
 obtain⟨v,rfl⟩:=h
 induction v with
 | nil=>exact hw
 | cons r v a=>exact a hw.1
structure Gam (T:List (List Rat)->Prop) (R C S:Nat):Prop where
 BG:∀{u},T u->BF R u
 ht:∀{u},T u->u.length<=8
 nil:T []
 sub:∀{r u},T (r::u)->T u
 BC:∀{t r u},T t->T (r::u)->BT u t->T (BC t (AM u r))
 CL:∀{u w s x},T u->T w->BT u w->El u s x->El w (s+C) x
 fit:∀{u},T u->Fit u.length R (S+C)
 mul:∀{u},T u->2*(S+C)+EE u.length R<=60000000000000
 RS:R<=S
section
variable {T:List (List Rat)->Prop} {R C S:Nat}
theorem Gam.Io (G:Gam T R C S) {u w:List (List Rat)} (h:u<:+w) (hw:T w):T u:=by
 obtain⟨v,rfl⟩:=h
 induction v with
 | nil=>exact hw
 | cons r v a=>exact a (G.sub hw)
theorem Gam.ext (G:Gam T R C S) {t:List (List Rat)} (ht:T t):∀{u:List (List Rat)},T u->T (ext t u)
 | [],_=>ht
 | r::u,hu=>G.BC (G.ext ht (G.sub hu)) hu (Ii (G.BG ht).red (G.BG (G.sub hu)).red).2
theorem Gam.join (G:Gam T R C S) {t u:List (List Rat)} (ht:T t) (hu:T u):T (Eb t u):=by
 unfold Eb
 split
 ·exact ht
 split
 ·exact hu
 exact G.ext ht hu
end
theorem IL {u:List (List Rat)} {r:List Rat} (h:AU (r::u)):El (r::u) 0 (rt u r):=by
 have a:El u 0 0:=El.rat h.1 GO;have c:El u 0 1:=El.rat h.1 gU;have:=MN h a.mem c.mem a.bd c.bd;rw[show (0:Re)+1*rt u r=rt u r by grind] at this;exact⟨IU u r,this⟩
end
section
theorem Fv:∀{h h' R R':Nat},h<=h'->R<=R'->EE h R<=EE h' R'
 | 0,h',R,R',_,_=>Nat.zero_le _
 | h+1,0,R,R',a,_=>absurd a (by omega)
 | h+1,h'+1,R,R',a,hR=>by
  have:=Fv (h:=h) (h':=h') (by omega) hR;rw[EE,EE];omega
theorem FL:∀{h h' R R' s s':Nat},h<=h'->R<=R'->s<=s'->II h R s<=II h' R' s'
 | 0,0,R,R',s,s',_,_,c=>by rw[II,II];omega
 | 0,h'+1,R,R',s,s',_,_,c=>by
  have:=Ek h' R' (2*s'+2*EE h' R'+R'+1);rw[II,II];omega
 | h+1,0,R,R',s,s',a,_,_=>absurd a (by omega)
 | h+1,h'+1,R,R',s,s',a,hR,c=>by
  have f:=Fv (h:=h) (h':=h') (by omega) hR;have g:=FL (h:=h) (h':=h') (s:=2*s+2*EE h R+R+1) (s':=2*s'+2*EE h' R'+R'+1) (by omega) hR (by omega);rw[II,II];omega
theorem Nt:∀{h h' R R':Nat},h<=h'->R<=R'->GG h R<=GG h' R'
 | 0,h',R,R',_,_=>by rw[GG];exact Nat.zero_le _
 | h+1,0,R,R',a,_=>absurd a (by omega)
 | h+1,h'+1,R,R',a,hR=>by
  have c:=Fv (h:=h) (h':=h') (by omega) hR;have f:=Nt (h:=h) (h':=h') (by omega) hR;have h3:=FL (h:=h) (h':=h') (s:=R) (s':=R') (by omega) hR hR;rw[GG,GG];omega
def CC:Nat->Nat->Nat->Nat->Nat
 | 0,_,_,_=>0
 | k+1,R0,h,R=>2*CC k R0 h R+R0+GG h R+EE h R+1
theorem Jb:∀{k k' R0 H7 h h' R R':Nat},k<=k'->R0<=H7->h<=h'->R<=R'->CC k R0 h R<=CC k' H7 h' R'
 | 0,k',_,_,_,_,_,_,_,_,_,_=>by rw[CC];exact Nat.zero_le _
 | k+1,0,_,_,_,_,_,_,c,_,_,_=>absurd c (by omega)
 | k+1,k'+1,R0,H7,h,h',R,R',c,f,a,hR=>by
  have g:=Jb (k:=k) (k':=k') (by omega) f a hR;have j:=Fv a hR;have h3:=Nt a hR;rw[CC,CC];omega
theorem Ra {D:Nat} {q:Rat} {n:Nat} (h:DN D [q]):DN D (q::List.replicate n 0):=fun z a=>by
 rcases List.mem_cons.1 a with rfl | a
 ·exact h _ List.mem_cons_self
 rw[List.eq_of_mem_replicate a];exact⟨0,by simp⟩
theorem SY {B:Nat} {q:Rat} {n:Nat} (h:MX B [q]):MX B (q::List.replicate n 0):=fun z a=>by
 rcases List.mem_cons.1 a with rfl | a
 ·exact h _ List.mem_cons_self
 rw[List.eq_of_mem_replicate a];have:(0:Rat)<=B:=Rat.natCast_nonneg
 constructor <;> grind
theorem WB {w:List (List Rat)} {R:Nat} (hw:AU w) (o:TB R w):∀{u:List (List Rat)} {R0:Nat},AU u->TB R0 u->BT u w->∃K:Nat,0<K/\K<=2^CC u.length R0 w.length R/\
  ∀{x:Re} {D B:Nat},In u x->(DN D (co u x)->DN (D*K) (co w x))/\(MX B (co u x)->MX (B*2^CC u.length R0 w.length R) (co w x))
 | [],R0,_,_,_=>⟨1,by decide,by simp[CC],fun {x D B} Z=>by
  obtain⟨q,rfl⟩:=Ct.1 Z;rw[Dg,Hj q hw,Nat.mul_one];refine⟨Ra,fun h=>?_⟩;rw[show B*2^CC ([]:List (List Rat)).length R0 w.length R=B by simp[CC]];exact SY h⟩
 | r::u,R0,h,h0,m=>by
  obtain⟨K,hK,f,hb⟩:=WB hw o h.1 h0.tail m.tail;obtain⟨E,L,M,hm⟩:=Ju hw o;obtain⟨D0,H,I,J,W⟩:=h0.head;have hr:=Cu h;have Y:=B9 h;have a:=m.root;have b1:=hb (D:=D0) (B:=2^R0) Y;rw[EP h] at b1
  have hv:Bd (R0+CC u.length R0 w.length R) (co w (AM u r)):=by
   refine⟨D0*K,Nat.mul_pos H hK,?_,b1.1 J,?_⟩
   ·rw[Nat.pow_add];exact Nat.mul_le_mul I f
   rw[Nat.pow_add];exact b1.2 W
  obtain⟨F,hF,Q,O,U⟩:=OQ hw o a hr hv;refine⟨K*(F*E),Nat.mul_pos hK (Nat.mul_pos hF L),?_,fun {x D B} Z=>?_⟩
  ·have h1:=Nat.mul_le_mul f (Nat.mul_le_mul Q M);simp only[<-Nat.pow_add] at h1;exact Nat.le_trans h1 (Cb (by rw[List.length_cons,CC];omega))
  obtain⟨p,q,v,G,rfl⟩:=Cd.1 Z;rw[DB h v G rfl,DN.app,MX.app];have j:=m.tail _ v;have c:=m.tail _ G;refine⟨fun g=>?_,fun g=>?_⟩
  ·have k1:=(hb (B:=0) v).1 g.1;have k2:=(hb (B:=0) G).1 g.2;have k3:=hm c a k2 O;exact DN.FH hw j (Ag hw c a) (k1.dvd ⟨F*E,by grind⟩) (k3.dvd ⟨1,by grind⟩)
  have k1:=(hb (D:=0) v).2 g.1;have k2:=(hb (D:=0) G).2 g.2;have k3:=Hs hw o c a k2 U;refine (MX.FH hw j (Ag hw c a) k1 k3).mono ?_
  have e:B*2^CC u.length R0 w.length R*2^(R0+CC u.length R0 w.length R+GG w.length R)*2^EE w.length R=B*2^(CC u.length R0 w.length R+(R0+CC u.length R0 w.length R+GG w.length R)+EE w.length R):=by
   rw[Nat.mul_assoc,Nat.mul_assoc,<-Nat.pow_add,<-Nat.pow_add];congr 2;omega
  rw[e,<-Nat.mul_add];refine Nat.mul_le_mul_left B ?_;have e2:CC (r::u).length R0 w.length R=CC u.length R0 w.length R+(R0+CC u.length R0 w.length R+GG w.length R)+EE w.length R+1:=by rw[List.length_cons,CC];omega
  have h3:2^CC u.length R0 w.length R<=2^(CC u.length R0 w.length R+(R0+CC u.length R0 w.length R+GG w.length R)+EE w.length R):=Cb;rw[e2,Nat.pow_succ];omega
theorem El.CL {w u:List (List Rat)} {R R0 s:Nat} {x:Re} (hw:AU w) (r:TB R w) (hu:AU u) (g:TB R0 u) (f:BT u w) (a:El u s x):El w (s+CC u.length R0 w.length R) x:=by
 obtain⟨K,o,c,hb⟩:=WB hw r hu g f;obtain⟨D,h,j,h3,m⟩:=a.bd;refine⟨f _ a.mem,D*K,Nat.mul_pos h o,?_,(hb (B:=0) a.mem).1 h3,?_⟩
 ·rw[Nat.pow_add];exact Nat.mul_le_mul j c
 rw[Nat.pow_add];exact (hb (D:=0) a.mem).2 m
inductive Tf (P:List (List Rat)->Prop):List (List Rat)->Prop
 | nil:Tf P []
 | BC {u:List (List Rat)} {r0:List Rat} {u0:List (List Rat)}:Tf P u->P (r0::u0)->BT u0 u->Tf P (BC u (AM u0 r0))
structure CD (P:List (List Rat)->Prop) (R0:Nat):Prop where
 red:∀{u},P u->AU u
 tb:∀{u},P u->TB R0 u
 sub:∀{r u},P (r::u)->P u
section
variable {P:List (List Rat)->Prop} {R0:Nat}
theorem Tf.red (I:CD P R0) {u:List (List Rat)} (h:Tf P u):AU u:=by
 induction h with
 | nil=>trivial
 | BC _ a c f=>exact TE f (c _ (B9 (I.red a))) (I.red a).2.2.1
theorem gH {u:List (List Rat)} {r:List Rat} (h:AU (r::u)):BC u (AM u r)=r::u:=by rw[DG h.2.2.2,EP h]
theorem Tf.of (I:CD P R0):∀{u:List (List Rat)},P u->Tf P u
 | [],_=> .nil
 | r::u,h=>by
  have:=Tf.BC (Tf.of I (I.sub h)) h (BT.refl u);rwa [gH (I.red h)] at this
theorem Tf.gen (I:CD P R0) {w:List (List Rat)} (h:Tf P w):∀{r:List Rat} {u:List (List Rat)},w=r::u->Tf P u/\∃c a,P (c::a)/\AM a c=AM u r/\BT a u:=by
 induction h with
 | nil=>intro r u e;cases e
 | @BC o c a ht g f m=>
  intro r u e
  by_cases j:Sq o (AM a c)
  ·rw[Df j] at e;exact m e
  rw[DG j] at e;obtain⟨rfl,rfl⟩:=List.cons.inj e;exact⟨ht,c,a,g,(EC (f _ (B9 (I.red g)))).symm,f⟩
theorem Tf.sub (I:CD P R0) {r:List Rat} {u:List (List Rat)} (h:Tf P (r::u)):Tf P u:=(h.gen I rfl).1
theorem Tf.OI (I:CD P R0) {t u:List (List Rat)} {r:List Rat} (ht:Tf P t) (h:Tf P (r::u)) (c:BT u t):Tf P (Go.Abs.BC t (AM u r)):=by
 obtain⟨_,g,j,f,e,a⟩:=h.gen I rfl;rw[<-e];exact .BC ht f (a.trans c)
theorem TF:∀{u:List (List Rat)},AU u->BT u []->u=[]
 | [],_,_=>rfl
 | r::u,h,a=>by
  have hu:=TF h.1 a.tail;subst hu;exact absurd ⟨_,a.root,Cu h⟩ h.2.2.2
theorem Ze {r q:List Rat} {s:List Rat} (h:AU [q,r]) (D:AU [s]) (F:BT [q,r] [s]):False:=by
 have v:=h.1;obtain⟨a,b,ha,hb,e⟩:=Cd.1 F.tail.root;have H:=Cu v;have w:=Cu D;have g:AU ([]:List (List Rat)):=trivial
 by_cases o:b=0
 ·exact v.2.2.2 ⟨a,ha,by rw[<-H,e,o];grind⟩
 obtain⟨d,G,J⟩:=Dv g hb o
 by_cases m:a=0
 ·have j:In [r] (rt [] s):=by
   have:rt [] s=d*rt [] r:=by rw[e,m];grind
   rw[this];exact Ag v (E6 G) (IU [] r)
  have B:BT [s] [r]:=I6 v (Kz _) j;exact h.2.2.2 ⟨_,B _ F.root,Cu h⟩
 obtain⟨c,K,I⟩:=Dv g ha m
 have M:Re.ofRat (1/2)*(1+1)=1:=by
  rw[show (1:Re)=Re.ofRat 1 from rfl,<-Re.ofRat_add,<-Re.ofRat_mul,show (1/2:Rat)*(1+1)=1 by decide +kernel]
 have L:=B9 v;have hw:=B9 D
 have key:rt [] s=(AM [] r-a*a-b*b*AM [] s)*(c*d*Re.ofRat (1/2)):=by
  rw[<-H,<-w,e];generalize rt [] s=t at *;generalize Re.ofRat (1/2)=f at *;grind
 have j:In [] (rt [] s):=by
  rw[key];exact Ag g (E5 (E5 L (Ag g ha ha)) (Ag g (Ag g hb hb) hw)) (Ag g (Ag g K G) (HN _ []))
 exact D.2.2.2 ⟨_,j,w⟩
def RR (R0:Nat):Nat->Nat
 | 0=>R0
 | h+1=>max (RR R0 h) (R0+CC (min h 2) R0 h (RR R0 h))
theorem Us {R0 h h':Nat} (a:h<=h'):RR R0 h<=RR R0 h':=by
 induction a with
 | refl=>exact Nat.le_refl _
 | step _ c=>exact Nat.le_trans c (Nat.le_max_left _ _)
theorem TB.mono {R R':Nat} {u:List (List Rat)} (h:TB R u) (hR:R<=R'):TB R' u:=fun r a=>(h r a).mono hR
theorem Tf.tb (I:CD P R0) (hm:∀{u},Tf P u->u.length<=3) {u:List (List Rat)} (h:Tf P u):TB (RR R0 u.length) u:=by
 induction h with
 | nil=>intro r g;simp at g
 | @BC u D c ht f j v=>
  by_cases B:Sq u (AM c D)
  ·rw[Df B];exact v
  have w:=hm (Tf.BC ht f j);have o:=hm (Tf.of I f);rw[DG B] at w ⊢;rw[List.length_cons] at w o;intro r g;rcases List.mem_cons.1 g with rfl | g
  ·have a:=I.red f;have m:El c R0 (AM c D):=⟨B9 a,by rw[EP a];exact (I.tb f).head⟩;have:=(m.CL (ht.red I) v a.1 (I.tb f).tail j).bd;refine this.mono ?_;rw[List.length_cons,RR]
   have G:c.length<=min u.length 2:=by
    have F:c.length<=2:=by omega
    cases u with
    | nil=>rw[TF a.1 j];exact Nat.zero_le _
    | cons s H=>
     cases H with
     | nil=>
      cases c with
      | nil=>exact Nat.zero_le _
      | cons q J=>
       cases J with
       | nil=>exact Nat.le_refl 1
       | cons r K=>
        have:K=[]:=List.eq_nil_of_length_eq_zero (by simp only[List.length_cons] at F;omega);subst this;exact (Ze a.1 (ht.red I) j).elim
     | cons _ _=>simp only[List.length_cons];omega
   have:=Jb (k:=c.length) (k':=min u.length 2) (R0:=R0) (H7:=R0) (h:=u.length) (h':=u.length) (R:=RR R0 u.length) (R':=RR R0 u.length) G (Nat.le_refl _) (Nat.le_refl _) (Nat.le_refl _);omega
  exact (v r g).mono (Us (by rw[List.length_cons];omega))
theorem Tf.Rw (I:CD P R0) (hm:∀{u},Tf P u->u.length<=3) {R C S:Nat} (hR:RR R0 3<=R) (f:R<=S) (m:CC 3 R 3 R<=C) (g:∀h,h<=3->Fit h R (S+C)) (o:2*(S+C)+EE 3 R<=60000000000000):Gam (Tf P) R C S:=by
 have a:∀{u},Tf P u->TB R u:=fun {u} h=>(h.tb I hm).mono (Nat.le_trans (Us (hm h)) hR)
 refine⟨fun {u} h=>⟨h.red I,a h,by omega,by have:=hm h;omega⟩,fun {u} h=>by have:=hm h;omega,.nil,fun {r u} h=>h.sub I,fun {t r u} ht h c=>ht.OI I h c,fun {u w s x} hu hw c j=>?_,fun {u} h=>g _ (hm h),fun {u} h=>?_,f⟩
 ·refine (j.CL (hw.red I) (a hw) (hu.red I) (a hu) c).mono ?_;have:=Jb (k:=u.length) (k':=3) (R0:=R) (H7:=R) (h:=w.length) (h':=3) (R:=R) (R':=R) (hm hu) (Nat.le_refl _) (hm hw) (Nat.le_refl _);omega
 have:=Fv (h:=u.length) (h':=3) (R:=R) (R':=R) (hm h) (Nat.le_refl _);omega
def BB:List (List Rat)->List Re
 | []=>[]
 | r::u=>AM u r::BB u
theorem Ip:∀u:List (List Rat),(BB u).length=u.length
 | []=>rfl
 | r::u=>by rw[BB,List.length_cons,List.length_cons,Ip u]
theorem Lw:∀{u:List (List Rat)} {v:Re},v∈BB u->In u (Re.sqrt v)
 | [],v,h=>by simp[BB] at h
 | r::u,v,h=>by
  rcases List.mem_cons.1 h with rfl | h
  ·exact IU u r
  exact E6 (Lw h)
theorem Gl:∀{u:List (List Rat)},AU u->(BB u).Nodup
 | [],_=>List.nodup_nil
 | r::u,h=>by
  rw[BB,List.nodup_cons];refine⟨fun hm=>h.2.2.2 ⟨_,Lw hm,Re.G5 (by have:=h.2.2.1;grind)⟩,Gl h.1⟩
theorem Tf.BB (I:CD P R0) {V:List Re} (hV:∀{u},P u->∀v∈BB u,v∈V) {u:List (List Rat)} (h:Tf P u):∀v∈Go.Abs.BB u,v∈V:=by
 induction h with
 | nil=>intro v a;simp[Go.Abs.BB] at a
 | @BC u m o ht c j g=>
  by_cases f:Sq u (AM o m)
  ·rw[Df f];exact g
  rw[DG f];intro v a;rcases List.mem_cons.1 a with rfl | a
  ·rw[EC (j _ (B9 (I.red c)))];exact hV c _ List.mem_cons_self
  exact g v a
theorem IZ {α:Type}:∀{l m:List α},l.Nodup->(∀x∈l,x∈m)->l.length<=m.length
 | [],_,_,_=>Nat.zero_le _
 | x::l,m,h,hm=>by
  rw[List.nodup_cons] at h;obtain⟨a,b,rfl⟩:=List.append_of_mem (hm x List.mem_cons_self)
  have:=IZ (l:=l) (m:=a++b) h.2 (fun y f=>by
   have g:=hm y (List.mem_cons_of_mem _ f);rcases List.mem_append.1 g with c | c
   ·exact List.mem_append_left _ c
   rcases List.mem_cons.1 c with rfl | c
   ·exact absurd f h.1
   exact List.mem_append_right _ c)
  rw[List.length_cons,List.length_append,List.length_cons];rw[List.length_append] at this;omega
theorem Tf.len (I:CD P R0) {V:List Re} (hV:∀{u},P u->∀v∈Go.Abs.BB u,v∈V) {u:List (List Rat)} (h:Tf P u):u.length<=V.length:=by
 rw[<-Ip];exact IZ (Gl (h.red I)) (h.BB I hV)
end
end
end Go.Abs
