/- Part 15 of a proof. Conditions: each theorem's own. -/
import Derived.Test.YtoonaidhfikkeaaGreatPk13
set_option linter.all false
set_option maxHeartbeats 8000000
namespace Go.Abs
variable {D P R R0 R2 S V V0 V2 high next r top u3:Nat}
theorem SZ {u:List UInt32} {off len:Nat} (c:S<2^(32*len)) (g:off+len<=u.length):
  ∃z:List UInt32,z.length=u.length/\z.take off=u.take off/\z.drop (off+len)=u.drop (off+len)/\AB ((z.drop off).take len)=S:=by
 obtain⟨y,h,a⟩:=Gu c;have f:(u.take off).length=off:=by rw[List.length_take];omega
 refine⟨u.take off++(y++u.drop (off+len)),?_,?_,?_,?_⟩
 ·simp;omega
 ·rw[List.take_append_of_le_length (by omega),List.take_of_length_le (by omega)]
 ·rw[<-List.drop_drop,List.drop_append_of_le_length (by omega),List.drop_eq_nil_of_le (by omega:(u.take off).length<=off),List.nil_append,List.drop_append_of_le_length (by omega),List.drop_eq_nil_of_le (by omega:y.length<=len),List.nil_append]
 rw[List.drop_append_of_le_length (by omega),List.drop_eq_nil_of_le (by omega:(u.take off).length<=off),List.nil_append,List.take_append_of_le_length (by omega),List.take_of_length_le (by omega),a]
theorem P0 (hR:R=R2*P+R0) (a:R0<P) (c:V=V2*P+V0) (h:R2<D*V2):R/V<D:=by
 have o:0<P:=by omega
 have f:0<V2:=by
  apply Nat.pos_of_ne_zero;intro e;subst e;simp at h
 apply Nat.div_lt_of_lt_mul;have g:(R2+1)*P<=D*V2*P:=Nat.mul_le_mul_right _ h;have j:V*D=D*V2*P+V0*D:=by rw[c];grind
 have m:(R2+1)*P=R2*P+P:=by grind
 omega
theorem P1 (hR:R=R2*P+R0) (f:V=V2*P+V0) (g:V0<P) (h:D*V2<=R2) (B:D<=V2+1):D<=R/V+1:=by
 cases D with
 | zero=>exact Nat.zero_le _
 | succ D=>
  have a:0<V\/V=0:=by omega
  rcases a with a | a
  ·have:D<=R/V:=by
    rw[Nat.le_div_iff_mul_le a];have j:(D+1)*V2*P<=R2*P:=Nat.mul_le_mul_right _ h;have m:D*V=D*V2*P+D*V0:=by rw[f];grind
    have o:(D+1)*V2*P=D*V2*P+V2*P:=by grind
    have v:D*V0<=D*P:=Nat.mul_le_mul_left _ (by omega);have w:D*P<=V2*P:=Nat.mul_le_mul_right _ (by omega);omega
   exact Nat.succ_le_succ this
  have c:V2*P=0:=by omega
  have C:0<P:=by omega
  have:V2=0:=by
   rcases Nat.mul_eq_zero.1 c with e | e
   ·exact e
   omega
  exact Nat.le_trans (by omega:D+1<=1) (Nat.le_add_left _ _)
structure Fz (R V top high D r:Nat):Prop where
 sum:r+D*high=top
 up:R/V<=D
 KP:D<=4294967297
 rest:r<4294967296
theorem Wz (hR:R=top*P+R0) (a:R0<P) (h:V=high*P+V0) (o:2147483648<=high) (j:high<4294967296) (ht:top<4294967296*(high+1)):Fz R V top high (top/high) (top%high):=by
 have hm:=Nat.div_add_mod top high;have m:=Nat.mod_lt top (by omega:0<high);refine⟨by rw[Nat.mul_comm] at hm;omega,?_,?_,by omega⟩
 ·have c:top<(top/high+1)*high:=by rw[Nat.add_mul,Nat.mul_comm];omega
  exact Nat.le_of_lt_succ (P0 hR a h c)
 have f:top<4294967298*high:=by omega
 have g:top/high<4294967298:=(Nat.div_lt_iff_lt_mul (by omega)).2 f;exact Nat.le_of_lt_succ g
theorem QY (g:Fz R V top high D r) (a:R/V<4294967296) (h:4294967296<=D):R/V<=D-1:=by
 have:=g.up;exact Nat.le_sub_one_of_lt (Nat.lt_of_lt_of_le a h)
theorem QZ (g:Fz R V top high D r) (hR:R=(4294967296*top+u3)*P+R0) (a:R0<P) (c:V=(4294967296*high+next)*P+V0) (h:4294967296*r+u3<D*next):R/V<=D-1:=by
 have m:4294967296*top+u3<D*(4294967296*high+next):=by
  have e:=g.sum
  clear g hR c
  rw[<-e];have f:D*(4294967296*high+next)=4294967296*(D*high)+D*next:=by grind
  have j:4294967296*(r+D*high)=4294967296*r+4294967296*(D*high):=by grind
  rw[f,j]
  generalize D*high=Q at*
  generalize D*next=T at*
  omega
 exact Nat.le_sub_one_of_lt (P0 hR a c m)
theorem Qa (g:Fz R V top high D r) (a:R/V<=D-1) (f:0<D) (c:r+high<4294967296):Fz R V top high (D-1) (r+high):=by
 refine⟨?_,a,by have:=g.KP;omega,c⟩;have:=g.sum;obtain⟨D,rfl⟩:∃k,D=k+1:=⟨D-1,by omega⟩
 simp only[Nat.add_sub_cancel];rw[Nat.add_mul] at this;omega
structure H3 (R V D:Nat):Prop where
 up:R/V<=D
 low:D<=R/V+1
 word:D<4294967296
theorem Mr (g:Fz R V top high D r) (hR:R=(4294967296*top+u3)*P+R0) (f:V=(4294967296*high+next)*P+V0) (a:V0<P) (j:2147483648<=high)
  (c:D<4294967296) (h:D*next<=4294967296*r+u3):H3 R V D:=by
 refine⟨g.up,P1 hR f a ?_ (by omega),c⟩;have e:=g.sum;rw[<-e];have:D*(4294967296*high+next)=4294967296*(D*high)+D*next:=by grind
 have:4294967296*(r+D*high)=4294967296*r+4294967296*(D*high):=by grind
 omega
theorem Mq (g:Fz R V top high D r) (f:R/V<=D-1) (C:0<D) (hR:R=(4294967296*top+u3)*P+R0) (h:V=(4294967296*high+next)*P+V0) (c:V0<P) (G:2147483648<=high) (H:next<4294967296)
  (ht:top<4294967296*(high+1)) (j:4294967296<=r+high):H3 R V (D-1):=by
 obtain⟨D,rfl⟩:∃k,D=k+1:=⟨D-1,by omega⟩
 simp only[Nat.add_sub_cancel] at f ⊢;have e:=g.sum;have hm:=g.KP;have m:(r+high)+D*high=top:=by rw[Nat.add_mul] at e;omega
 have a:D<4294967296:=by
  apply Classical.byContradiction;intro F;have:4294967296*high<=D*high:=Nat.mul_le_mul_right _ (by omega);omega
 refine⟨f,P1 hR h c ?_ (by omega),a⟩;rw[<-m];have o:D*(4294967296*high+next)=4294967296*(D*high)+D*next:=by grind
 have v:4294967296*(r+high+D*high)=4294967296*(r+high)+4294967296*(D*high):=by grind
 have w:D*next<=4294967296*4294967296:=Nat.mul_le_mul (by omega) (by omega);have B:4294967296*4294967296<=4294967296*(r+high):=Nat.mul_le_mul_left _ j;omega
theorem RB {M:Nat} {b:Bool} (g:H3 R V D) (c:0<V) (h:S+V*D=R+M*b.toNat) (o:S<M):
  (b=false->D=R/V/\S=R%V)/\(b=true->D-1=R/V/\0<D/\(R%V<M->(S+V)%M=R%V)):=by
 have v:=Nat.div_add_mod R V;have w:=Nat.mod_lt R c;obtain⟨j,m,_⟩:=g
 generalize R/V=Q at*
 generalize R%V=T at*
 constructor
 ·rintro rfl;simp at h
  have a:D=Q:=by
   apply Classical.byContradiction;intro f;have:D=Q+1:=by omega
   rw[this,Nat.mul_add] at h;omega
  exact⟨a,by rw[a] at h;omega⟩
 rintro rfl;simp at h
 have a:D=Q+1:=by
  apply Classical.byContradiction;intro f;have:D=Q:=by omega
  rw[this] at h;omega
 refine⟨by omega,by omega,fun hM=>?_⟩;rw[a,Nat.mul_add] at h;have:S+V=T+M*1:=by omega
 rw[this,Nat.add_mul_mod_self_left,Nat.mod_eq_of_lt hM]
end Go.Abs
namespace Go.Abs
variable {A R V b i n q s:Nat} {u:List UInt32}
theorem Zs {D M:Nat} (f:H3 R V D) (g:0<V) (hR:R<M) (c:V<=M):∃(b:Bool) (S:Nat),S+V*D=R+M*b.toNat/\S<M:=by
 have j:=Nat.div_add_mod R V;have a:V*D<=V*(R/V+1):=Nat.mul_le_mul_left _ f.low;rw[Nat.mul_add] at a
 by_cases h:V*D<=R
 ·exact⟨false,R-V*D,by simp;omega,by omega⟩
 refine⟨true,R+M-V*D,?_,by omega⟩;simp
 generalize V*(R/V)=T at*
 omega
theorem Z5 {x y w:UInt32} (a:u[i+n]? =some x) (h:u[i+n-1]? =some y) (hw:u[i+n-2]? =some w) (m:2<=n) (f:AB (u.drop (i+n+1))=0):
  AB (u.drop i)=(4294967296*(y.toNat+4294967296*x.toNat)+w.toNat)*2^(32*(n-2))+AB ((u.drop i).take (n-2)):=by
 have g:i+n<u.length:=by
  apply Classical.byContradiction;intro j;rw[List.getElem?_eq_none (by omega)] at a;exact absurd a (by simp)
 have c:=D2 (u.drop i) (n-2) (by rw[List.length_drop];omega);rw[List.drop_drop,show i+(n-2)=i+n-2 by omega,CZ hw,show i+n-2+1=i+n-1 by omega,CZ h,show i+n-1+1=i+n by omega,CZ a,f] at c;rw[c]
 generalize 2^(32*(n-2))=P
 grind
theorem Z4 {v:List UInt32} {y w:UInt32} (hlen:v.length=n) (f:v[n-1]? =some y) (hw:v[n-2]? =some w) (g:2<=n):
  AB v=(4294967296*y.toNat+w.toNat)*2^(32*(n-2))+AB (v.take (n-2))/\AB v=y.toNat*2^(32*(n-1))+AB (v.take (n-1)):=by
 have a:=D2 v (n-2) (by omega);rw[CZ hw,show n-2+1=n-1 by omega,CZ f,show n-1+1=n by omega,List.drop_eq_nil_of_le (by omega)] at a;have c:=D2 v (n-1) (by omega);rw[CZ f,show n-1+1=n by omega,List.drop_eq_nil_of_le (by omega)] at c
 constructor
 ·rw[a];simp only[AB];generalize 2^(32*(n-2))=P;grind
 rw[c];simp only[AB];generalize 2^(32*(n-1))=P;grind
theorem Hw {l:List UInt32}:AB (l.take n)<2^(32*n):=
 Nat.lt_of_lt_of_le (Bk _) (Nat.pow_le_pow_right (by decide) (by rw[List.length_take];omega))
theorem MR {l:List UInt32} (h:AB l<2^(32*n)) (a:n<=l.length):AB (l.drop n)=0:=by
 have c:=D2 l n a;apply Classical.byContradiction;intro f;have:2^(32*n)*1<=2^(32*n)*AB (l.drop n):=Nat.mul_le_mul_left _ (by omega);omega
theorem SH {z:List UInt32} {Q:Nat} (B:z.length=u.length) (a:z.take i=u.take i) (c:z.drop (i+(n+1))=u.drop (i+(n+1))) (hlen:i+(n+1)<=u.length) (j:AB (u.drop (i+n+1))=0)
  (w:q=AB (u.drop i)/V) (v:AB ((z.drop i).take (n+1))=AB (u.drop i)%V) (o:A=AB u+2^(32*(i+1))*Q*V):
  AB (z.drop i)=AB (u.drop i)%V/\A=AB z+2^(32*i)*(q+4294967296*Q)*V:=by
 have f:AB (z.drop i)=AB (u.drop i)%V:=by
  have:=D2 (z.drop i) (n+1) (by rw[List.length_drop];omega);rw[List.drop_drop,c,show i+(n+1)=i+n+1 by omega,j,v] at this;simpa using this
 refine⟨f,?_⟩;have m:=D2 u i (by omega);have g:=D2 z i (by omega);rw[a,f] at g;have h:=Nat.div_add_mod (AB (u.drop i)) V;rw[<-w] at h;rw[o,m,g,Cj,<-h]
 generalize 2^(32*i)=P
 grind
theorem Sa (h:i+n<=u.length) (a:AB (u.drop (i+n))=0):AB ((u.drop i).take n)=AB (u.drop i):=by
 have:=D2 (u.drop i) n (by rw[List.length_drop];omega);rw[List.drop_drop,a] at this;simpa using this.symm
theorem IN {x:UInt32} (j:(AJ b)[i]? =some x) (a:i+1=(AJ b).length):x.toNat≠0:=by
 intro c;have hb:b≠0:=fun e=>by subst e;simp[ED] at a
 have f:=Qw hb;have g:=Ba j;rw[a,List.take_length,Af,c] at g;have h:=Bk ((AJ b).take i);rw[List.length_take,Nat.min_eq_left (by omega)] at h;rw[<-a,Nat.add_sub_cancel] at f;omega
theorem Sn {k:Nat} {x:UInt32} (c:(AJ b).length=n) (j:1<=n) (C:(AJ b)[n-1]? =some x) (h:2^(k-1)<=x.toNat) (m:x.toNat<2^k) (K:1<=k) (w:k<=32) (L:s=32-k):
  (AJ (b*2^s)).length=n/\2147483648*2^(32*(n-1))<=b*2^s:=by
 have f:2^(k-1)*2^s=2147483648:=by rw[<-Nat.pow_add,show k-1+s=31 by omega]
 have g:2^k*2^s=4294967296:=by rw[<-Nat.pow_add,show k+s=32 by omega]
 have a:=Ba C;rw[show n-1+1=n by omega,<-c,List.take_length,Af,c] at a;have o:=Bk ((AJ b).take (n-1));rw[List.length_take,Nat.min_eq_left (by omega)] at o;have B:2^(32*n)=4294967296*2^(32*(n-1)):=by rw[<-Cj,show n-1+1=n by omega]
 generalize v:2^(32*(n-1))=P at*
 have low:2147483648*P<=b*2^s:=by
  rw[<-f,a];have:2^(k-1)*2^s*P<=x.toNat*2^s*P:=Nat.mul_le_mul_right _ (Nat.mul_le_mul_right _ h);have:(AB (List.take (n-1) (AJ b))+P*x.toNat)*2^s=AB (List.take (n-1) (AJ b))*2^s+x.toNat*2^s*P:=by grind
  omega
 refine⟨?_,low⟩
 have up:b*2^s<2^(32*n):=by
  rw[B,<-g];have F:b<(x.toNat+1)*P:=by rw[a,Nat.add_mul,Nat.mul_comm P];omega
  have G:(x.toNat+1)*P<=2^k*P:=Nat.mul_le_mul_right _ m;have H:b*2^s<2^k*P*2^s:=(Nat.mul_lt_mul_right (Nat.two_pow_pos s)).2 (by omega);have:2^k*2^s*P=2^k*P*2^s:=by grind
  omega
 have I:=EC up;have J:=Qq (n:=b*2^s) (k:=n-1) (by rw[v];omega);omega
theorem Kv (l:List UInt32) (h:s<=31):AB l*2^s<2^(32*(l.length+1)):=by
 rw[Cj,Nat.mul_comm 4294967296];exact Nat.mul_lt_mul_of_lt_of_le (Bk l) (Nat.le_trans (Nat.pow_le_pow_right (by decide) h:2^s<=2^31) (by decide)) (by decide)
theorem W2 {a rest:Nat} (h:2147483648*2^(32*(n-1))<=V) (c:V=a*2^(32*(n-1))+rest) (g:rest<2^(32*(n-1))):2147483648<=a:=by
 generalize 2^(32*(n-1))=P at*
 apply Classical.byContradiction;intro f;have:(a+1)*P<=2147483648*P:=Nat.mul_le_mul_right _ (by omega);rw[Nat.add_mul] at this;omega
theorem TE {l:List UInt32} {m:Nat} (hu:AB u=AB l*2^s) (j:s<=31) (hlen:u.length=l.length+1) (hm:m+n=l.length+1) (C:1<=n) (w:2147483648*2^(32*(n-1))<=V):AB (u.drop m)<V:=by
 have a:=D2 u m (by omega);have c:=Bk l;have f:2^(32*l.length)=2^(32*m)*2^(32*(n-1)):=by rw[<-Nat.pow_add,show 32*m+32*(n-1)=32*l.length by omega]
 have g:2^s<=2147483648:=Nat.le_trans (Nat.pow_le_pow_right (by decide) j:2^s<=2^31) (by decide);have h:AB l*2^s<2^(32*l.length)*2147483648:=Nat.mul_lt_mul_of_lt_of_le c g (by decide);rw[hu,] at a;rw[f] at h;have F:=Nat.two_pow_pos (32*m)
 generalize 2^(32*m)=P at*
 generalize 2^(32*(n-1))=N at*
 apply Classical.byContradiction;intro B;have o:P*(2147483648*N)<=P*AB (u.drop m):=Nat.mul_le_mul_left _ (by omega);have v:P*N*2147483648=P*(2147483648*N):=by grind
 omega
theorem Z6 {x y:UInt32} (a:u[i+n]? =some x) (h:u[i+n-1]? =some y) (m:1<=n) (f:AB (u.drop (i+n+1))=0):
  AB (u.drop i)=(y.toNat+4294967296*x.toNat)*2^(32*(n-1))+AB ((u.drop i).take (n-1)):=by
 have g:i+n<u.length:=by
  apply Classical.byContradiction;intro j;rw[List.getElem?_eq_none (by omega)] at a;exact absurd a (by simp)
 have c:=D2 (u.drop i) (n-1) (by rw[List.length_drop];omega);rw[List.drop_drop,show i+(n-1)=i+n-1 by omega,CZ h,show i+n-1+1=i+n by omega,CZ a,f] at c;rw[c]
 generalize 2^(32*(n-1))=P
 grind
theorem Z3 {top high P c a:Nat} (hR:R=top*P+c) (m:V=high*P+a) (f:a<P) (h:R<4294967296*V):top<4294967296*(high+1):=by
 apply Classical.byContradiction;intro o;have g:4294967296*(high+1)*P<=top*P:=Nat.mul_le_mul_right _ (by omega);have j:4294967296*(high+1)*P=4294967296*(high*P)+4294967296*P:=by grind
 omega
theorem P9 {a r:Nat} (g:A=a*2^s) (j:V=b*2^s) (h:A=r+q*V) (F:r<V) (hb:0<b):q=a/b/\r/2^s=a%b:=by
 have m:=Nat.two_pow_pos s;have B:=Nat.div_add_mod a b;have C:=Nat.mod_lt a hb
 have e:a*2^s=(a%b)*2^s+(a/b)*V:=by rw[j];conv=>lhs;rw[<-B]
                                    grind
 have f:(a%b)*2^s<V:=by rw[j];exact (Nat.mul_lt_mul_right m).2 C
 have c:0<V:=by omega
 have o:q=a/b:=by
  have v:A/V=q:=by rw[h,Nat.add_mul_div_right _ _ c,Nat.div_eq_of_lt F,Nat.zero_add]
  have w:A/V=a/b:=by rw[g,e,Nat.add_mul_div_right _ _ c,Nat.div_eq_of_lt f,Nat.zero_add]
  rw[<-v,w]
 refine⟨o,?_⟩;have:r=(a%b)*2^s:=by rw[g,e,o] at h;omega
 rw[this,Nat.mul_div_cancel _ m]
end Go.Abs
namespace Go.Abs
def BQ (x y:Int):Int:=if 0<=y then x/y else (-x)/(-y)
variable {N X:Nat} {b:Bool} {x y:Int}
theorem HN {a b q r:Int} (hb:0<b) (h:a=b*q+r) (c:0<=r) (f:r<b):a/b=q:=((Int.ediv_emod_unique hb).2 ⟨by omega,c,f⟩).1
theorem P5 (j:y≠0) (c:decide (x<0)=decide (y<0)):BQ x y=((x.natAbs/y.natAbs:Nat):Int):=by
 have f:=Nat.div_add_mod x.natAbs y.natAbs;have hm:=Nat.mod_lt x.natAbs (by omega:0<y.natAbs)
 generalize x.natAbs/y.natAbs=q at*
 generalize x.natAbs%y.natAbs=r at*
 have a:(y.natAbs:Int)*q+r=x.natAbs:=by rw[<-f];simp
 unfold BQ
 by_cases h:0<=y
 ·rw[if_pos h]
  have:¬x<0:=by intro g;have:y<0:=by simpa [g] using c
                omega
  rw[show (y.natAbs:Int)=y by omega,show (x.natAbs:Int)=x by omega] at a;exact HN (r:=r) (by omega) a.symm (by omega) (by omega)
 rw[if_neg h]
 have:x<0:=by have:y<0:=by omega
              simpa [this] using c
 rw[show (y.natAbs:Int)= -y by omega,show (x.natAbs:Int)= -x by omega] at a;exact HN (r:=r) (by omega) a.symm (by omega) (by omega)
theorem P2 (m:y≠0) (g:decide (x<0)≠decide (y<0)) (j:x.natAbs%y.natAbs=0):BQ x y= -((x.natAbs/y.natAbs:Nat):Int):=by
 have f:=Nat.div_add_mod x.natAbs y.natAbs;rw[j] at f
 generalize x.natAbs/y.natAbs=q at*
 have a:(y.natAbs:Int)*q=x.natAbs:=by rw[<-f];simp
 unfold BQ
 by_cases h:0<=y
 ·rw[if_pos h]
  have c:x<0:=by
   apply Classical.byContradiction;intro c;exact g (by rw[decide_eq_false c,decide_eq_false (by omega)])
  rw[show (y.natAbs:Int)=y by omega,show (x.natAbs:Int)= -x by omega] at a;exact HN (r:=0) (by omega) (by rw[Int.mul_neg,a];omega) (by omega) (by omega)
 rw[if_neg h]
 have c:¬x<0:=by
  intro c;exact g (by rw[decide_eq_true c,decide_eq_true (by omega)])
 rw[show (y.natAbs:Int)= -y by omega,show (x.natAbs:Int)=x by omega] at a;exact HN (r:=0) (by omega) (by rw[Int.mul_neg,a];omega) (by omega) (by omega)
theorem P3 (m:y≠0) (f:decide (x<0)≠decide (y<0)) (j:x.natAbs%y.natAbs≠0):BQ x y= -((x.natAbs/y.natAbs+1:Nat):Int):=by
 have g:=Nat.div_add_mod x.natAbs y.natAbs;have hm:=Nat.mod_lt x.natAbs (by omega:0<y.natAbs)
 generalize x.natAbs/y.natAbs=q at*
 generalize x.natAbs%y.natAbs=r at*
 have a:(y.natAbs:Int)*q+r=x.natAbs:=by rw[<-g];simp
 unfold BQ
 by_cases h:0<=y
 ·rw[if_pos h]
  have c:x<0:=by
   apply Classical.byContradiction;intro c;exact f (by rw[decide_eq_false c,decide_eq_false (by omega)])
  rw[show (y.natAbs:Int)=y by omega,show (x.natAbs:Int)= -x by omega] at a;refine HN (r:=y-r) (by omega) ?_ (by omega) (by omega);rw[Int.natCast_add,Int.mul_neg,Int.mul_add];omega
 rw[if_neg h]
 have c:¬x<0:=by
  intro c;exact f (by rw[decide_eq_true c,decide_eq_true (by omega)])
 rw[show (y.natAbs:Int)= -y by omega,show (x.natAbs:Int)=x by omega] at a;refine HN (r:= -y-r) (by omega) ?_ (by omega) (by omega);rw[Int.natCast_add,Int.mul_neg,Int.mul_add];omega
def Er (x y:Int):Int:=x-y*BQ x y
theorem Mo:(y.natAbs:Int)*((x.natAbs/y.natAbs:Nat):Int)+((x.natAbs%y.natAbs:Nat):Int)=x.natAbs:=by
 rw[<-Int.natCast_mul,<-Int.natCast_add,Nat.div_add_mod]
theorem Xo (hb:b=decide (y<0)) (g:y≠0) (a:decide (x<0)=decide (y<0)):Er x y=if b=true then -((x.natAbs%y.natAbs:Nat):Int) else ((x.natAbs%y.natAbs:Nat):Int):=by
 have f:= @Mo x y;unfold Er;rw[P5 g a]
 generalize x.natAbs/y.natAbs=q at*
 generalize x.natAbs%y.natAbs=r at*
 by_cases h:y<0
 ·have c:x<0:=by simpa [h] using a
  rw[hb,decide_eq_true h,if_pos rfl];rw[show (y.natAbs:Int)= -y by omega,show (x.natAbs:Int)= -x by omega,Int.neg_mul] at f;omega
 have c:¬x<0:=by intro c;simp[c,h] at a
 rw[hb,decide_eq_false h,if_neg (by simp)];rw[show (y.natAbs:Int)=y by omega,show (x.natAbs:Int)=x by omega] at f;omega
theorem Xm (j:y≠0) (f:decide (x<0)≠decide (y<0)) (g:x.natAbs%y.natAbs=0):Er x y=if b=true then -((x.natAbs%y.natAbs:Nat):Int) else ((x.natAbs%y.natAbs:Nat):Int):=by
 have c:= @Mo x y;unfold Er;rw[P2 j f g];rw[g] at c ⊢
 generalize x.natAbs/y.natAbs=q at*
 have e:x-y* -(q:Int)=0:=by
  by_cases h:y<0
  ·have a:¬x<0:=by intro a;exact f (by rw[decide_eq_true a,decide_eq_true h])
   rw[show (y.natAbs:Int)= -y by omega,show (x.natAbs:Int)=x by omega,Int.neg_mul] at c;rw[Int.mul_neg];omega
  have a:x<0:=by apply Classical.byContradiction;intro a;exact f (by rw[decide_eq_false a,decide_eq_false h])
  rw[show (y.natAbs:Int)=y by omega,show (x.natAbs:Int)= -x by omega] at c;rw[Int.mul_neg];omega
 rw[e];cases b <;> rfl
theorem Xn (hb:b=decide (y<0)) (j:y≠0) (c:decide (x<0)≠decide (y<0)) (g:x.natAbs%y.natAbs≠0):
  Er x y=if b=true then -((y.natAbs-x.natAbs%y.natAbs:Nat):Int) else ((y.natAbs-x.natAbs%y.natAbs:Nat):Int):=by
 have f:= @Mo x y;have hm:=Nat.mod_lt x.natAbs (by omega:0<y.natAbs);unfold Er;rw[P3 j c g]
 generalize x.natAbs/y.natAbs=q at*
 generalize x.natAbs%y.natAbs=r at*
 rw[Int.natCast_add,Int.mul_neg,Int.mul_add]
 by_cases h:y<0
 ·have a:¬x<0:=by intro a;exact c (by rw[decide_eq_true a,decide_eq_true h])
  rw[hb,decide_eq_true h,if_pos rfl];rw[show (y.natAbs:Int)= -y by omega,show (x.natAbs:Int)=x by omega,Int.neg_mul] at f;omega
 have a:x<0:=by apply Classical.byContradiction;intro a;exact c (by rw[decide_eq_false a,decide_eq_false h])
 rw[hb,decide_eq_false h,if_neg (by simp)];rw[show (y.natAbs:Int)=y by omega,show (x.natAbs:Int)= -x by omega] at f;omega
theorem TD (w:Ar N<=X) (a:0<X):Ar N<=(X+N/X)/2:=by
 have h:=Ie N
 generalize Ar N=s at*
 have j:X*(N/X)+N%X=N:=Nat.div_add_mod N X;have m:=Nat.mod_lt N a
 generalize N/X=q at*
 rw[Nat.le_div_iff_mul_le (by decide)];apply Classical.byContradiction;intro B;have o:X+q+1<=2*s:=by omega
 obtain⟨d,rfl⟩:∃d,X=s+d:=⟨X-s,by omega⟩
 have c:q+1<=s-d:=by omega
 have f:(s+d)*(q+1)<=(s+d)*(s-d):=Nat.mul_le_mul_left _ c
 have v:(s+d)*(s-d)<=s*s:=by
  by_cases g:d<=s
  ·obtain⟨e,rfl⟩:∃e,s=e+d:=⟨s-d,by omega⟩
   have:(e+d)*(e+d)=(e+d+d)*e+d*d:=by grind
   rw[Nat.add_sub_cancel];omega
  rw[show s-d=0 by omega];simp
 rw[Nat.mul_add] at f;omega
theorem Zo (m:Ar N<=X) (a:0<X) (h:X<=(X+N/X)/2):Ar N=X:=by
 have c:X<=N/X:=by omega
 have f:X*X<=N:=by
  have:=(Nat.le_div_iff_mul_le a).1 c;exact this
 have g:=KM N;have j:X<Ar N+1:=Nat.mul_self_lt_mul_self_iff.1 (by omega);omega
theorem Zp (h:N≠0):Ar N<=2^((Nat.log2 N+1)/2+1):=by
 apply Classical.byContradiction;intro j;have c:=Ie N;have f:N<2^(Nat.log2 N+1):=(Nat.log2_lt h).1 (Nat.lt_succ_self _);have a:2^((Nat.log2 N+1)/2+1)*2^((Nat.log2 N+1)/2+1)<=Ar N*Ar N:=Nat.mul_le_mul (by omega) (by omega);rw[<-Nat.pow_add] at a;have g:2^(Nat.log2 N+1)<=2^((Nat.log2 N+1)/2+1+((Nat.log2 N+1)/2+1)):=Nat.pow_le_pow_right (by decide) (by omega);omega
end Go.Abs
namespace Go.Abs
structure Ap (q:Rat) (b1:Bool) (l1:List UInt32) (b2:Bool) (l2:List UInt32):Prop where
 num:AT q.num b1 l1
 den:AT (q.den:Int) b2 l2
variable {b' PJ b1 b2:Bool} {d y z:Int} {k:Nat} {l l' KE l1 l2:List UInt32}
theorem BD (q:Rat):∃b1 l1 b2 l2,Ap q b1 l1 b2 l2:=⟨_,_,_,_,⟨rfl,rfl⟩,⟨rfl,rfl⟩⟩
theorem Ap.uniq {p q:Rat} {c1 c2:Bool} {m1 m2:List UInt32} (h:Ap p b1 l1 b2 l2) (h':Ap q c1 m1 c2 m2) (e:p=q):(b1=c1/\l1=m1)/\(b2=c2/\l2=m2):=by
 subst e;exact⟨h.num.uniq h'.num rfl,h.den.uniq h'.den rfl⟩
structure BK (q:Rat):Prop where
 num:(AJ q.num.natAbs).length<=4000000000000
 den:(AJ q.den).length<=4000000000000
theorem Ap.small {q:Rat} (h:Ap q b1 l1 b2 l2) (s:BK q):l1.length<=4000000000000/\l2.length<=4000000000000:=by
 rw[h.num.An,h.den.An];exact⟨s.num,by simpa using s.den⟩
theorem P4 (x:Int):BQ x 1=x:=by unfold BQ;simp
theorem KK {n:Int} (f:d≠0):(Rat.divInt n d).num=BQ n (if d<0 then -((Nat.gcd n.natAbs d.natAbs:Nat):Int) else ((Nat.gcd n.natAbs d.natAbs:Nat):Int)):=by
 rw[Rat.num_divInt];have c:Int.gcd d n=Nat.gcd n.natAbs d.natAbs:=by rw[Int.gcd_comm];rfl
 have a:0<Nat.gcd n.natAbs d.natAbs:=Nat.gcd_pos_of_pos_right _ (by omega);rw[c];unfold BQ
 by_cases h:d<0
 ·rw[if_pos h,if_neg (by omega),Int.sign_eq_neg_one_of_neg h,Int.neg_neg,Int.neg_one_mul]
 rw[if_neg h,if_pos (by omega),Int.sign_eq_one_of_pos (by omega),Int.one_mul]
theorem KJ {n:Int} (c:d≠0):((Rat.divInt n d).den:Int)=BQ d (if d<0 then -((Nat.gcd n.natAbs d.natAbs:Nat):Int) else ((Nat.gcd n.natAbs d.natAbs:Nat):Int)):=by
 rw[Rat.den_divInt,if_neg c];have f:Int.gcd d n=Nat.gcd n.natAbs d.natAbs:=by rw[Int.gcd_comm];rfl
 have a:0<Nat.gcd n.natAbs d.natAbs:=Nat.gcd_pos_of_pos_right _ (by omega);rw[f,Int.natCast_ediv];unfold BQ
 by_cases h:d<0
 ·rw[if_pos h,if_neg (by omega),Int.neg_neg,show (d.natAbs:Int)= -d by omega]
 rw[if_neg h,if_pos (by omega),show (d.natAbs:Int)=d by omega]
theorem Xh:AJ 1=[1]:=by decide +kernel
theorem M4 {x:Int} {b:Bool} (h:AT x b l) (e:b=true):false=decide (x=1):=by
 have:=h.neg;rw[e] at this;have a:x<0:=by simpa using this.symm
 simp;omega
theorem RZ {x:Int} {b:Bool} (h:AT x b l) (e:¬l.length=1):false=decide (x=1):=by
 have a:x≠1:=by
  intro c;subst c;apply e;rw[h.An];exact congrArg List.length Xh
 simp[a]
theorem M6 {x:Int} {b:Bool} {w:UInt32} (h:AT x b l) (hb:b=false) (e:l.length=1) (hw:l[0]? =some w):decide (w.toNat=1)=decide (x=1):=by
 have j:l=[w]:=by
  match l,e,hw with
  | [a],_,hw=>simp at hw;rw[hw]
 have c:=h.nat;rw[j] at c;have g:AB [w]=w.toNat:=by simp[AB]
 rw[g] at c;have f:=h.neg;rw[hb] at f;have m:¬x<0:=by simpa using f.symm
 rw[Bool.eq_iff_iff];simp;omega
theorem KN (n:Nat):n<2^(32*(AJ n).length):=by
 have h:=Bk (AJ n);rwa [Af] at h
theorem Xg (a b:Nat):(AJ (a*b)).length<=(AJ a).length+(AJ b).length:=by
 apply EC;rw[Nat.mul_add,Nat.pow_add];exact Nat.mul_lt_mul_of_lt_of_le (KN a) (Nat.le_of_lt (KN b)) (Nat.pow_pos (by decide))
theorem Xf {a b:Nat} (c:(AJ a).length<=k) (hb:(AJ b).length<=k):(AJ (a+b)).length<=k+1:=by
 apply EC;have f:=Nat.lt_of_lt_of_le (KN a) (Nat.pow_le_pow_right (n:=2) (by decide) (Nat.mul_le_mul_left 32 c));have g:=Nat.lt_of_lt_of_le (KN b) (Nat.pow_le_pow_right (n:=2) (by decide) (Nat.mul_le_mul_left 32 hb));rw[Nat.mul_add,Nat.pow_add];have h:2^(32*k)*2<=2^(32*k)*2^(32*1):=Nat.mul_le_mul_left _ (by decide);omega
theorem AT.CK {x:Int} {b:Bool} (h:AT x b l) (h':AT y b' l') (a:AT z PJ KE) (e:z=x*y):KE.length<=l.length+l'.length:=by
 rw[h.An,h'.An,a.An,e,Int.natAbs_mul];exact Xg _ _
theorem AT.JU {x:Int} {b:Bool} (h:AT x b l) (h':AT y b' l') (c:AT z PJ KE) (e:z=x+y) (f:l.length<=k) (a:l'.length<=k):KE.length<=k+1:=by
 rw[h.An] at f;rw[h'.An] at a;rw[c.An,e];exact Nat.le_trans (Cp (Int.natAbs_add_le x y)) (Xf f a)
theorem Ef (q:Rat):(q.den:Int)≠0:=by have:=q.den_nz;omega
theorem Ll (p q:Rat):p+q=Rat.divInt (p.num*q.den+q.num*p.den) ((p.den:Int)*q.den):=by
 have h:=Rat.divInt_add_divInt p.num q.num (Ef p) (Ef q);rwa [Rat.num_divInt_den,Rat.num_divInt_den] at h
theorem KQ (p q:Rat):p*q=Rat.divInt (p.num*q.num) ((p.den:Int)*q.den):=by
 have h:=Rat.divInt_mul_divInt p.num q.num (d₁:=p.den) (d₂:=q.den);rwa [Rat.num_divInt_den,Rat.num_divInt_den] at h
theorem Wd (p q:Rat):p/q=Rat.divInt (p.num*q.den) ((p.den:Int)*q.num):=by
 have h:=Rat.divInt_mul_divInt p.num q.den (d₁:=p.den) (d₂:=q.num);rw[<-Rat.inv_divInt q.num q.den,Rat.num_divInt_den,Rat.num_divInt_den] at h;rw[Rat.div_def,h]
theorem P6 (x:Int):Rat.divInt x 1=(x:Rat):=Rat.num_divInt_den (x:Rat)
theorem P8 (x:Int):(Rat.divInt x 1).num=x:=by rw[P6];rfl
theorem P7 (x:Int):(Rat.divInt x 1).den=1:=by rw[P6];rfl
theorem F4 {p q:Rat} (a:(p.den:Int)=1) (c:(q.den:Int)=1):(p+q).num=p.num+q.num/\(p+q).den=1:=by
 rw[Ll,a,c];simp only[Int.mul_one];exact⟨P8 _,P7 _⟩
theorem mul_ones {p q:Rat} (a:(p.den:Int)=1) (c:(q.den:Int)=1):(p*q).num=p.num*q.num/\(p*q).den=1:=by
 rw[KQ,a,c];simp only[Int.mul_one];exact⟨P8 _,P7 _⟩
theorem S3 (r:Rat):(r*r).num=r.num*r.num/\(r*r).den=r.den*r.den:=by
 have a:(r.num*r.num).natAbs.Coprime (r.den*r.den):=by
  rw[Int.natAbs_mul];have h:=r.reduced;exact Nat.Coprime.mul_right (Nat.Coprime.mul_left h h) (Nat.Coprime.mul_left h h)
 have c:r.den*r.den≠0:=Nat.mul_ne_zero r.den_nz r.den_nz;have h:=Rat.num_divInt_den (⟨r.num*r.num,r.den*r.den,c,a⟩:Rat);have f:=KQ r r
 have g:(⟨r.num*r.num,r.den*r.den,c,a⟩:Rat)=r*r:=by
  rw[f,<-h];exact congrArg _ (Int.natCast_mul _ _)
 rw[<-g];exact⟨rfl,rfl⟩
theorem Qn (n:Nat):Ar (n*n)=n:=Qo (Nat.le_refl _) (by rw[Nat.add_mul,Nat.mul_add];omega)
theorem TA {r q:Rat} (c:0<=r) (h:r*r=q):((Ar q.num.toNat:Nat):Int)=r.num/\r.num*r.num=q.num:=by
 have a:=(S3 r).1;rw[h] at a;have g:0<=r.num:=Rat.num_nonneg.2 c;refine⟨?_,a.symm⟩;obtain⟨k,f⟩:=Int.eq_ofNat_of_zero_le g;rw[a,f];rw[show ((k:Int)*k).toNat=k*k by rw[<-Int.natCast_mul];rfl,Qn]
theorem S9 {r q:Rat} (c:0<=r) (h:r*r=q):((Ar (q.den:Int).toNat:Nat):Int)=(r.den:Int)/\(r.den:Int)*r.den=(q.den:Int):=by
 have a:=(S3 r).2;rw[h] at a;refine⟨?_,by rw[a];exact (Int.natCast_mul _ _).symm⟩;rw[a,Int.toNat_natCast,Qn]
theorem S8 {q:Rat} (c:((Ar q.num.toNat:Nat):Int)*((Ar q.num.toNat:Nat):Int)=q.num) (a:((Ar (q.den:Int).toNat:Nat):Int)*((Ar (q.den:Int).toNat:Nat):Int)=(q.den:Int)):∃r:Rat,0<=r/\r*r=q:=by
 refine⟨Rat.divInt ((Ar q.num.toNat:Nat):Int) ((Ar (q.den:Int).toNat:Nat):Int),?_,?_⟩
 ·exact Rat.divInt_nonneg (Int.natCast_nonneg _) (Int.natCast_nonneg _)
 rw[Rat.divInt_mul_divInt,c,a,Rat.num_divInt_den]
def FT (b1:Bool) (l1:List UInt32) (b2:Bool) (l2:List UInt32):Bool:=E6 b1 l1&&(E6 b2 l2&&(!b2&&(decide (l2≠[])&&decide (Nat.gcd (AB l1) (AB l2)=1))))
theorem Nt:FT b1 l1 b2 l2=true↔∃q,Ap q b1 l1 b2 l2:=by
 unfold FT;simp only[Bool.and_eq_true,Bool.not_eq_true',decide_eq_true_eq]
 constructor
 ·rintro⟨j,m,o,v,c⟩
  obtain⟨x,g⟩:=H2.1 j;obtain⟨y,a⟩:=H2.1 m;have w:y≠0:=fun e=>v (a.nil.2 e)
  have f:=a.neg;rw[o] at f;have B:¬y<0:=by simpa using f.symm
  rw[g.nat,a.nat] at c;refine⟨⟨x,y.natAbs,by omega,c⟩,g,?_⟩
  show AT ((y.natAbs:Nat):Int) b2 l2
  rw[show ((y.natAbs:Nat):Int)=y by omega];exact a
 rintro⟨q,h⟩
 refine⟨H2.2 ⟨_,h.num⟩,H2.2 ⟨_,h.den⟩,?_,fun e=>q.den_nz (by have:=h.den.nil.1 e;omega),?_⟩
 ·rw[h.den.neg];simp
 rw[h.num.nat,h.den.nat,Int.natAbs_natCast];exact q.reduced
def C0 (q:Rat):Int:=BR q.num
def EO (p q:Rat):Int:=if p<q then -1 else if q<p then 1 else 0
end Go.Abs
namespace Go.Abs
open Go.RowKit
def rp (q:Rat):el AA:=((decide (q.num<0),AJ q.num.natAbs),(decide ((q.den:Int)<0),AJ q.den))
theorem EB (q:Rat):Ap q (rp q).1.1 (rp q).1.2 (rp q).2.1 (rp q).2.2:=⟨⟨rfl,rfl⟩,⟨rfl,rfl⟩⟩
theorem Ap.rp {q:Rat} {b1 b2:Bool} {l1 l2:List UInt32} (h:Ap q b1 l1 b2 l2):rp q=((b1,l1),(b2,l2)):=by
 have u:=h.uniq (EB q) rfl;rw[u.1.1,u.1.2,u.2.1,u.2.2]
abbrev AW (X:List Rat):List (el AA):=X.map rp
def Cf (X:List Rat):Prop:=∀q∈X,BK q
structure JK (ts:List (List Rat)):Prop where
 small:∀x∈ts,Cf x
 MQ:ts.length<=16
 form:∀i x,ts[i]? =some x->x.length=2^i
end Go.Abs
namespace Go.Abs
open Go.RowKit
noncomputable def em (u:List (List Rat)) (x:Re):List (el AA):=AW (co u x)
def tw (u:List (List Rat)):List (List (el AA)):=u.reverse.map AW
structure AU (R:Nat) (u:List (List Rat)):Prop where
 red:AQ u
 tb:TB R u
 hR:R<=60000000000000
 ht:u.length<=16
structure El (u:List (List Rat)) (s:Nat) (x:Re):Prop where
 mem:In u x
 bd:Bd s (co u x)
variable {R k n s t:Nat} {p x y:Re}
theorem Qv (h:n<=2^(2*k)) (c:k<=60000000000000):(AJ n).length<=4000000000000:=by
 obtain⟨m,hm⟩:=xN 3999999999999;have a:n<2^(32*m):=Nat.lt_of_le_of_lt h (Nat.pow_lt_pow_right (by decide) (by omega));have:=EC a;omega
theorem Wc {q:Rat} {D:Nat} {n:Int} (h:q*D=n) (j:0<D):q.den<=D:=by
 have a:=Hp q
 have c:((q.num*D:Int):Rat)=((n*q.den:Int):Rat):=by
  rw[Rat.intCast_mul,Rat.intCast_mul,<-h,<-a];have m:((D:Int):Rat)=(D:Rat):=rfl;have o:((q.den:Int):Rat)=(q.den:Rat):=rfl
  grind
 have f:q.num*D=n*q.den:=Rat.intCast_inj.1 c
 have g:q.den∣q.num.natAbs*D:=by
  refine⟨n.natAbs,?_⟩;have:=congrArg Int.natAbs f;rw[Int.natAbs_mul,Int.natAbs_mul,Int.natAbs_natCast,Int.natAbs_natCast] at this;rw[this,Nat.mul_comm]
 exact Nat.le_of_dvd j ((Nat.Coprime.symm q.reduced).dvd_of_dvd_mul_left g)
theorem Bd.BE {a:List Rat} (h:Bd k a) (j:k<=60000000000000):Cf a:=by
 obtain⟨D,v,w,B,F⟩:=h;intro q m;obtain⟨n,G⟩:=B q m;have g:q.den<=2^k:=Nat.le_trans (Wc G v) w;have hb:=F q m
 have c:q.num.natAbs<=2^(2*k):=by
  have f:=Mn (C:=q.den) hb (q:=(q.den:Rat)) ⟨by have:(0:Rat)<=q.den:=Rat.natCast_nonneg;grind,by grind⟩;rw[Hp] at f
  have o:q.num.natAbs<=2^k*q.den:=by
   have H: -((2^k*q.den:Nat):Int)<=q.num:=by
    apply Rat.intCast_le_intCast.1;rw[Rat.intCast_neg];exact f.1
   have I:q.num<=((2^k*q.den:Nat):Int):=Rat.intCast_le_intCast.1 f.2;omega
  have:=Nat.mul_le_mul_left (2^k) g;rw[<-Nat.pow_add] at this;exact Nat.le_trans o (Nat.le_trans this (Bn (by omega)))
 exact⟨Qv c j,Qv (Nat.le_trans g (Bn (by omega))) j⟩
theorem El.BE {u:List (List Rat)} (h:El u s x) (a:s<=60000000000000):Cf (co u x):=h.bd.BE a
theorem El.len {u:List (List Rat)} (h:El u s x):(co u x).length=2^u.length:=CB h.mem
theorem Ao {u:List (List Rat)} (h:In u x):(em u x).length=2^u.length:=by rw[em,List.length_map,CB h]
theorem Ay (u:List (List Rat)):(tw u).length=u.length:=by rw[tw,List.length_map,List.length_reverse]
theorem CA (h:n<=16):2^n<=65536:=Nat.le_trans (Bn h) (by decide)
theorem JA (r:List Rat) (u:List (List Rat)):tw (r::u)=tw u++[AW r]:=by rw[tw,List.reverse_cons,List.map_append];rfl
theorem CV (r:List Rat) (u:List (List Rat)):(tw (r::u)).take ((tw (r::u)).length-1)=tw u:=by
 rw[JA,List.length_append,Ay];simp[List.take_left' (Ay u)]
theorem Da (r:List Rat) (u:List (List Rat)):(tw (r::u))[(tw (r::u)).length-1]? =some (AW r):=by
 rw[JA,List.length_append,Ay];simp[List.getElem?_append_right (Nat.le_of_eq (Ay u))];rw[Ay,Nat.sub_self];rfl
theorem Cn {r:List Rat} {u:List (List Rat)} (h:AQ (r::u)):AW r=em u (AI u r):=by rw[em,EP h]
theorem Bb {u:List (List Rat)} {r:List Rat} {q:Re} (h:AQ (r::u)) (c:In u p) (f:In u q) (g:x=p+q*rt u r):(em (r::u) x).take ((em (r::u) x).length/2)=em u p:=by
 have a:In (r::u) x:=Bt.2 ⟨p,q,c,f,g⟩;rw[Ao a,BI,show (2^u.length+2^u.length)/2=2^u.length by omega,em,em,AW,AW,<-List.map_take,WZ h c f g]
theorem BO {u:List (List Rat)} {r:List Rat} {q:Re} (h:AQ (r::u)) (c:In u p) (f:In u q) (g:x=p+q*rt u r):(em (r::u) x).drop ((em (r::u) x).length/2)=em u q:=by
 have a:In (r::u) x:=Bt.2 ⟨p,q,c,f,g⟩;rw[Ao a,BI,show (2^u.length+2^u.length)/2=2^u.length by omega,em,em,AW,AW,<-List.map_drop,WY h c f g]
theorem DL {u:List (List Rat)} {r:List Rat} {q:Re} (h:AQ (r::u)) (a:In u p) (c:In u q) (f:x=p+q*rt u r):em (r::u) x=em u p++em u q:=by
 rw[em,CO h a c f,AW,List.map_append];rfl
theorem QE {u:List (List Rat)} (h:AQ u) (a:In u x) (c:In u y):em u (x+y)=AW (List.zipWith (· + ·) (co u x) (co u y)):=by rw[em,Jg h a c]
theorem QF {u:List (List Rat)} (h:AQ u) (a:In u x):em u (-x)=AW ((co u x).map (- ·)):=by rw[em,IS h a]
theorem Ci (q:Rat):em [] (Re.ofRat q)=[rp q]:=by rw[em,Bv];rfl
theorem MF {u:List (List Rat)} (h:AQ u):em u 0=AW (List.replicate (2^u.length) 0):=by rw[em,L8 h]
theorem AU.tail {r:List Rat} {u:List (List Rat)} (h:AU R (r::u)):AU R u:=⟨h.red.1,h.tb.tail,h.hR,by have:=h.ht;rw[List.length_cons] at this;omega⟩
theorem Fg {α:Type} {l:List α} {i:Nat} {x:α} (h:l[i]? =some x):i<l.length:=by
 apply Classical.byContradiction;intro a;rw[List.getElem?_eq_none (by omega)] at h;exact absurd h (by simp)
theorem Hq:∀{u:List (List Rat)},AQ u->∀(i:Nat) (x:List Rat),u.reverse[i]? =some x->x.length=2^i
 | [],_,i,x,h=>by simp at h
 | r::u,a,i,x,h=>by
  rw[List.reverse_cons] at h
  by_cases f:i<u.length
  ·rw[List.getElem?_append_left (by rw[List.length_reverse];exact f)] at h;exact Hq a.1 i x h
  rw[List.getElem?_append_right (by rw[List.length_reverse];omega),List.length_reverse] at h
  have c:i-u.length=0:=by
   have:=Fg h;simp at this;omega
  rw[c] at h;have:r=x:=by simpa using h
  rw[<-this,a.2.1]
  congr 1;omega
theorem AU.Ds {u:List (List Rat)} (h:AU R u):JK u.reverse:=
 ⟨fun x a=>(h.tb x (List.mem_reverse.1 a)).BE h.hR,by rw[List.length_reverse];exact h.ht,Hq h.red⟩
theorem El.Bz {r:List Rat} {u:List (List Rat)} (h:AU R (r::u)):El u R (AI u r):=⟨Bh h.red,Lv h.red h.tb⟩
theorem El.parts {u:List (List Rat)} {r:List Rat} (h:AQ (r::u)) (f:El (r::u) s x):∃p q,x=p+q*rt u r/\El u s p/\El u s q:=by
 obtain⟨p,q,a,c,rfl⟩:=Bt.1 f.mem;have:=PQ h a c f.bd;exact⟨p,q,rfl,⟨a,this.1⟩,⟨c,this.2⟩⟩
theorem El.mono {u:List (List Rat)} (h:El u s x) (a:s<=t):El u t x:=⟨h.mem,h.bd.mono a⟩
theorem El.add {u:List (List Rat)} (h:AQ u) (a:El u s x) (c:El u t y):El u (s+t+1) (x+y):=⟨B6 a.mem c.mem,PL h a.mem c.mem a.bd c.bd⟩
theorem El.sub {u:List (List Rat)} (h:AQ u) (a:El u s x) (c:El u t y):El u (s+t+1) (x-y):=⟨DQ a.mem c.mem,WE h a.mem c.mem a.bd c.bd⟩
theorem El.neg {u:List (List Rat)} (h:AQ u) (a:El u s x):El u s (-x):=⟨Em a.mem,PR h a.mem a.bd⟩
theorem El.mul {u:List (List Rat)} (h:AU R u) (a:El u s x) (c:El u t y):El u (s+t+EE u.length R) (x*y):=⟨Aa h.red a.mem c.mem,WC h.red h.tb a.mem c.mem a.bd c.bd⟩
theorem El.norm {u:List (List Rat)} {r:List Rat} {q:Re} (h:AU R (r::u)) (a:In u p) (c:In u q) (f:El (r::u) s (p+q*rt u r)):El u (2*s+2*EE u.length R+R+1) (p*p-q*q*AI u r):=
 ⟨DQ (Aa h.red.1 a a) (Aa h.red.1 (Aa h.red.1 c c) (Bh h.red)),PS h.red h.tb a c f.bd⟩
theorem El.inv {u:List (List Rat)} (h:AU R u) (a:El u s x) (c:In u y) (e:x*y=1):El u (II u.length R s) y:=⟨c,Ja h.red h.tb a.mem c e a.bd⟩
theorem El.sqrt {u:List (List Rat)} {w:Re} (h:AU R u) (a:El u s x) (hw:In u w) (e:w*w=x):El u (s+GG u.length R) w:=⟨hw,PT h.red h.tb hw e a.bd⟩
theorem El.rat {u:List (List Rat)} {q:Rat} (h:AQ u) (a:Bd s [q]):El u s (Re.ofRat q):=⟨En q u,WD h a⟩
theorem C4:∀(h R s:Nat),2*s<=II h R s
 | 0,_,_=>Nat.le_refl _
 | h+1,R,s=>by
  have:=C4 h R (2*s+2*EE h R+R+1);rw[II];omega
theorem RH {u:List (List Rat)} {r:List Rat} {q:Re} (h:AQ (r::u)) (g:In u p) (j:In u q) (c:p+q*rt u r≠0):p*p-q*q*AI u r≠0:=by
 intro m;have w:=Bg h;have f:(p+q*rt u r)*(p-q*rt u r)=0:=by grind
 rcases Re.ER f with a | a
 ·exact c a
 obtain⟨o,v⟩:=indep h g (Em j) (BP u) (BP u) (show p+ -q*rt u r=0+0*rt u r by grind);exact c (by grind)
theorem IJ:Bd 1 [(1/2:Rat)]:=by
 refine⟨2,by decide,by decide,fun q a=>⟨1,?_⟩,fun q a=>?_⟩
 ·rw[List.mem_singleton.1 a];decide +kernel
 rw[List.mem_singleton.1 a];decide +kernel
theorem EM:Bd 0 [(0:Rat)]:=⟨1,by decide,by decide,fun q a=>⟨0,by rw[List.mem_singleton.1 a];decide +kernel⟩,fun q a=>by rw[List.mem_singleton.1 a];decide +kernel⟩
theorem WA:Bd 0 [(1:Rat)]:=⟨1,by decide,by decide,fun q a=>⟨1,by rw[List.mem_singleton.1 a];decide +kernel⟩,fun q a=>by rw[List.mem_singleton.1 a];decide +kernel⟩
end Go.Abs
