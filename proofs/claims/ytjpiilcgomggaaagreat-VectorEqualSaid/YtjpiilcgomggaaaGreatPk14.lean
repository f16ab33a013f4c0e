/- Part 15 of a proof. Conditions: each theorem's own. -/
import Derived.Test.YtjpiilcgomggaaaGreatPk13
set_option linter.all false
set_option maxHeartbeats 8000000
namespace Go.Abs
variable {D P R R0 R2 S V V0 V2 high next r top u3:Nat}
theorem SR {u:List UInt32} {off len:Nat} (c:S<2^(32*len)) (g:off+len<=u.length):
  ∃z:List UInt32,z.length=u.length/\z.take off=u.take off/\z.drop (off+len)=u.drop (off+len)/\AB ((z.drop off).take len)=S:=by
 obtain⟨y,h,a⟩:=Gr c;have f:(u.take off).length=off:=by rw[List.length_take];omega
 refine⟨u.take off++(y++u.drop (off+len)),?_,?_,?_,?_⟩
 ·simp;omega
 ·rw[List.take_append_of_le_length (by omega),List.take_of_length_le (by omega)]
 ·rw[<-List.drop_drop,List.drop_append_of_le_length (by omega),List.drop_eq_nil_of_le (by omega:(u.take off).length<=off),List.nil_append,List.drop_append_of_le_length (by omega),List.drop_eq_nil_of_le (by omega:y.length<=len),List.nil_append]
 rw[List.drop_append_of_le_length (by omega),List.drop_eq_nil_of_le (by omega:(u.take off).length<=off),List.nil_append,List.take_append_of_le_length (by omega),List.take_of_length_le (by omega),a]
theorem Pr (hR:R=R2*P+R0) (a:R0<P) (c:V=V2*P+V0) (h:R2<D*V2):R/V<D:=by
 have o:0<P:=by omega
 have f:0<V2:=by
  apply Nat.pos_of_ne_zero;intro e;subst e;simp at h
 apply Nat.div_lt_of_lt_mul;have g:(R2+1)*P<=D*V2*P:=Nat.mul_le_mul_right _ h;have j:V*D=D*V2*P+V0*D:=by rw[c];grind
 have m:(R2+1)*P=R2*P+P:=by grind
 omega
theorem Ps (hR:R=R2*P+R0) (f:V=V2*P+V0) (g:V0<P) (h:D*V2<=R2) (B:D<=V2+1):D<=R/V+1:=by
 cases D with
 | zero=>exact Nat.zero_le _
 | succ D=>
  have a:0<V\/V=0:=by omega
  rcases a with a | a
  ·have:D<=R/V:=by
    rw[Nat.le_div_iff_mul_le a];have j:(D+1)*V2*P<=R2*P:=Nat.mul_le_mul_right _ h;have m:D*V=D*V2*P+D*V0:=by rw[f];grind
    have o:(D+1)*V2*P=D*V2*P+V2*P:=by grind
    have v:D*V0<=D*P:=Nat.mul_le_mul_left _ (by omega);have w:D*P<=V2*P:=Nat.mul_le_mul_right _ (by omega);omega
   exact Nat.succ_le_succ this
  have c:V2*P=0:=by omega
  have C:0<P:=by omega
  have:V2=0:=by
   rcases Nat.mul_eq_zero.1 c with e | e
   ·exact e
   omega
  exact Nat.le_trans (by omega:D+1<=1) (Nat.le_add_left _ _)
structure Fu (R V top high D r:Nat):Prop where
 sum:r+D*high=top
 up:R/V<=D
 KS:D<=4294967297
 rest:r<4294967296
theorem W0 (hR:R=top*P+R0) (a:R0<P) (h:V=high*P+V0) (o:2147483648<=high) (j:high<4294967296) (ht:top<4294967296*(high+1)):Fu R V top high (top/high) (top%high):=by
 have hm:=Nat.div_add_mod top high;have m:=Nat.mod_lt top (by omega:0<high);refine⟨by rw[Nat.mul_comm] at hm;omega,?_,?_,by omega⟩
 ·have c:top<(top/high+1)*high:=by rw[Nat.add_mul,Nat.mul_comm];omega
  exact Nat.le_of_lt_succ (Pr hR a h c)
 have f:top<4294967298*high:=by omega
 have g:top/high<4294967298:=(Nat.div_lt_iff_lt_mul (by omega)).2 f;exact Nat.le_of_lt_succ g
theorem QU (g:Fu R V top high D r) (a:R/V<4294967296) (h:4294967296<=D):R/V<=D-1:=by
 have:=g.up;exact Nat.le_sub_one_of_lt (Nat.lt_of_lt_of_le a h)
theorem QV (g:Fu R V top high D r) (hR:R=(4294967296*top+u3)*P+R0) (a:R0<P) (c:V=(4294967296*high+next)*P+V0) (h:4294967296*r+u3<D*next):R/V<=D-1:=by
 have m:4294967296*top+u3<D*(4294967296*high+next):=by
  have e:=g.sum
  clear g hR c
  rw[<-e];have f:D*(4294967296*high+next)=4294967296*(D*high)+D*next:=by grind
  have j:4294967296*(r+D*high)=4294967296*r+4294967296*(D*high):=by grind
  rw[f,j]
  generalize D*high=Q at*
  generalize D*next=T at*
  omega
 exact Nat.le_sub_one_of_lt (Pr hR a c m)
theorem QW (g:Fu R V top high D r) (a:R/V<=D-1) (f:0<D) (c:r+high<4294967296):Fu R V top high (D-1) (r+high):=by
 refine⟨?_,a,by have:=g.KS;omega,c⟩;have:=g.sum;obtain⟨D,rfl⟩:∃k,D=k+1:=⟨D-1,by omega⟩
 simp only[Nat.add_sub_cancel];rw[Nat.add_mul] at this;omega
structure H4 (R V D:Nat):Prop where
 up:R/V<=D
 low:D<=R/V+1
 word:D<4294967296
theorem Mo (g:Fu R V top high D r) (hR:R=(4294967296*top+u3)*P+R0) (f:V=(4294967296*high+next)*P+V0) (a:V0<P) (j:2147483648<=high)
  (c:D<4294967296) (h:D*next<=4294967296*r+u3):H4 R V D:=by
 refine⟨g.up,Ps hR f a ?_ (by omega),c⟩;have e:=g.sum;rw[<-e];have:D*(4294967296*high+next)=4294967296*(D*high)+D*next:=by grind
 have:4294967296*(r+D*high)=4294967296*r+4294967296*(D*high):=by grind
 omega
theorem Mn (g:Fu R V top high D r) (f:R/V<=D-1) (C:0<D) (hR:R=(4294967296*top+u3)*P+R0) (h:V=(4294967296*high+next)*P+V0) (c:V0<P) (G:2147483648<=high) (H:next<4294967296)
  (ht:top<4294967296*(high+1)) (j:4294967296<=r+high):H4 R V (D-1):=by
 obtain⟨D,rfl⟩:∃k,D=k+1:=⟨D-1,by omega⟩
 simp only[Nat.add_sub_cancel] at f ⊢;have e:=g.sum;have hm:=g.KS;have m:(r+high)+D*high=top:=by rw[Nat.add_mul] at e;omega
 have a:D<4294967296:=by
  apply Classical.byContradiction;intro F;have:4294967296*high<=D*high:=Nat.mul_le_mul_right _ (by omega);omega
 refine⟨f,Ps hR h c ?_ (by omega),a⟩;rw[<-m];have o:D*(4294967296*high+next)=4294967296*(D*high)+D*next:=by grind
 have v:4294967296*(r+high+D*high)=4294967296*(r+high)+4294967296*(D*high):=by grind
 have w:D*next<=4294967296*4294967296:=Nat.mul_le_mul (by omega) (by omega);have B:4294967296*4294967296<=4294967296*(r+high):=Nat.mul_le_mul_left _ j;omega
theorem RD {M:Nat} {b:Bool} (j:H4 R V D) (f:0<V) (h:S+V*D=R+M*b.toNat) (v:S<M):
  (b=false->D=R/V/\S=R%V)/\(b=true->D-1=R/V/\0<D/\(R%V<M->(S+V)%M=R%V)):=by
 have w:=Nat.div_add_mod R V;have B:=Nat.mod_lt R f;obtain⟨m,o,_⟩:=j
 generalize R/V=Q at*
 generalize R%V=T at*
 constructor
 ·rintro rfl;simp at h
  have a:D=Q:=by
   apply Classical.byContradiction;intro g;have:D=Q+1:=by omega
   rw[this,Nat.mul_add] at h;omega
  exact⟨a,by rw[a] at h;omega⟩
 rintro rfl;simp at h
 have a:D=Q+1:=by
  apply Classical.byContradiction;intro g;have:D=Q:=by omega
  rw[this] at h;omega
 refine⟨by omega,by omega,fun c=>?_⟩;rw[a,Nat.mul_add] at h;have:S+V=T+M*1:=by omega
 rw[this,Nat.add_mul_mod_self_left,Nat.mod_eq_of_lt c]
end Go.Abs
namespace Go.Abs
variable {A R V b i n q s:Nat} {u:List UInt32}
theorem Zm {D M:Nat} (f:H4 R V D) (g:0<V) (hR:R<M) (c:V<=M):∃(b:Bool) (S:Nat),S+V*D=R+M*b.toNat/\S<M:=by
 have j:=Nat.div_add_mod R V;have a:V*D<=V*(R/V+1):=Nat.mul_le_mul_left _ f.low;rw[Nat.mul_add] at a
 by_cases h:V*D<=R
 ·exact⟨false,R-V*D,by simp;omega,by omega⟩
 refine⟨true,R+M-V*D,?_,by omega⟩;simp
 generalize V*(R/V)=T at*
 omega
theorem Zz {x y w:UInt32} (hx:u[i+n]? =some x) (g:u[i+n-1]? =some y) (hw:u[i+n-2]? =some w) (j:2<=n) (c:AB (u.drop (i+n+1))=0):
  AB (u.drop i)=(4294967296*(y.toNat+4294967296*x.toNat)+w.toNat)*2^(32*(n-2))+AB ((u.drop i).take (n-2)):=by
 have f:i+n<u.length:=by
  apply Classical.byContradiction;intro h;rw[List.getElem?_eq_none (by omega)] at hx;exact absurd hx (by simp)
 have a:=Dy (u.drop i) (n-2) (by rw[List.length_drop];omega);rw[List.drop_drop,show i+(n-2)=i+n-2 by omega,CU hw,show i+n-2+1=i+n-1 by omega,CU g,show i+n-1+1=i+n by omega,CU hx,c] at a;rw[a]
 generalize 2^(32*(n-2))=P
 grind
theorem Zy {v:List UInt32} {y w:UInt32} (hlen:v.length=n) (f:v[n-1]? =some y) (hw:v[n-2]? =some w) (g:2<=n):
  AB v=(4294967296*y.toNat+w.toNat)*2^(32*(n-2))+AB (v.take (n-2))/\AB v=y.toNat*2^(32*(n-1))+AB (v.take (n-1)):=by
 have a:=Dy v (n-2) (by omega);rw[CU hw,show n-2+1=n-1 by omega,CU f,show n-1+1=n by omega,List.drop_eq_nil_of_le (by omega)] at a;have c:=Dy v (n-1) (by omega);rw[CU f,show n-1+1=n by omega,List.drop_eq_nil_of_le (by omega)] at c
 constructor
 ·rw[a];simp only[AB];generalize 2^(32*(n-2))=P;grind
 rw[c];simp only[AB];generalize 2^(32*(n-1))=P;grind
theorem Hx {l:List UInt32}:AB (l.take n)<2^(32*n):=
 Nat.lt_of_lt_of_le (Bc _) (Nat.pow_le_pow_right (by decide) (by rw[List.length_take];omega))
theorem MO {l:List UInt32} (h:AB l<2^(32*n)) (a:n<=l.length):AB (l.drop n)=0:=by
 have c:=Dy l n a;apply Classical.byContradiction;intro f;have:2^(32*n)*1<=2^(32*n)*AB (l.drop n):=Nat.mul_le_mul_left _ (by omega);omega
theorem SB {z:List UInt32} {Q:Nat} (w:z.length=u.length) (a:z.take i=u.take i) (c:z.drop (i+(n+1))=u.drop (i+(n+1))) (hlen:i+(n+1)<=u.length) (j:AB (u.drop (i+n+1))=0)
  (v:q=AB (u.drop i)/V) (o:AB ((z.drop i).take (n+1))=AB (u.drop i)%V) (hA:A=AB u+2^(32*(i+1))*Q*V):
  AB (z.drop i)=AB (u.drop i)%V/\A=AB z+2^(32*i)*(q+4294967296*Q)*V:=by
 have f:AB (z.drop i)=AB (u.drop i)%V:=by
  have:=Dy (z.drop i) (n+1) (by rw[List.length_drop];omega);rw[List.drop_drop,c,show i+(n+1)=i+n+1 by omega,j,o] at this;simpa using this
 refine⟨f,?_⟩;have m:=Dy u i (by omega);have g:=Dy z i (by omega);rw[a,f] at g;have h:=Nat.div_add_mod (AB (u.drop i)) V;rw[<-v] at h;rw[hA,m,g,Ch,<-h]
 generalize 2^(32*i)=P
 grind
theorem SU (h:i+n<=u.length) (a:AB (u.drop (i+n))=0):AB ((u.drop i).take n)=AB (u.drop i):=by
 have:=Dy (u.drop i) n (by rw[List.length_drop];omega);rw[List.drop_drop,a] at this;simpa using this.symm
theorem IN {x:UInt32} (hx:(AJ b)[i]? =some x) (a:i+1=(AJ b).length):x.toNat≠0:=by
 intro c;have j:b≠0:=fun e=>by subst e;simp[EA] at a
 have f:=Qy j;have g:=BX hx;rw[a,List.take_length,Ag,c] at g;have h:=Bc ((AJ b).take i);rw[List.length_take,Nat.min_eq_left (by omega)] at h;rw[<-a,Nat.add_sub_cancel] at f;omega
theorem Sk {k:Nat} {x:UInt32} (c:(AJ b).length=n) (j:1<=n) (hx:(AJ b)[n-1]? =some x) (h:2^(k-1)<=x.toNat) (m:x.toNat<2^k) (J:1<=k) (w:k<=32) (K:s=32-k):
  (AJ (b*2^s)).length=n/\2147483648*2^(32*(n-1))<=b*2^s:=by
 have f:2^(k-1)*2^s=2147483648:=by rw[<-Nat.pow_add,show k-1+s=31 by omega]
 have g:2^k*2^s=4294967296:=by rw[<-Nat.pow_add,show k+s=32 by omega]
 have a:=BX hx;rw[show n-1+1=n by omega,<-c,List.take_length,Ag,c] at a;have o:=Bc ((AJ b).take (n-1));rw[List.length_take,Nat.min_eq_left (by omega)] at o;have B:2^(32*n)=4294967296*2^(32*(n-1)):=by rw[<-Ch,show n-1+1=n by omega]
 generalize v:2^(32*(n-1))=P at*
 have low:2147483648*P<=b*2^s:=by
  rw[<-f,a];have:2^(k-1)*2^s*P<=x.toNat*2^s*P:=Nat.mul_le_mul_right _ (Nat.mul_le_mul_right _ h);have:(AB (List.take (n-1) (AJ b))+P*x.toNat)*2^s=AB (List.take (n-1) (AJ b))*2^s+x.toNat*2^s*P:=by grind
  omega
 refine⟨?_,low⟩
 have up:b*2^s<2^(32*n):=by
  rw[B,<-g];have C:b<(x.toNat+1)*P:=by rw[a,Nat.add_mul,Nat.mul_comm P];omega
  have F:(x.toNat+1)*P<=2^k*P:=Nat.mul_le_mul_right _ m;have G:b*2^s<2^k*P*2^s:=(Nat.mul_lt_mul_right (Nat.two_pow_pos s)).2 (by omega);have:2^k*2^s*P=2^k*P*2^s:=by grind
  omega
 have H:=D9 up;have I:=Qr (n:=b*2^s) (k:=n-1) (by rw[v];omega);omega
theorem Kx (l:List UInt32) (h:s<=31):AB l*2^s<2^(32*(l.length+1)):=by
 rw[Ch,Nat.mul_comm 4294967296];exact Nat.mul_lt_mul_of_lt_of_le (Bc l) (Nat.le_trans (Nat.pow_le_pow_right (by decide) h:2^s<=2^31) (by decide)) (by decide)
theorem W5 {a rest:Nat} (h:2147483648*2^(32*(n-1))<=V) (c:V=a*2^(32*(n-1))+rest) (g:rest<2^(32*(n-1))):2147483648<=a:=by
 generalize 2^(32*(n-1))=P at*
 apply Classical.byContradiction;intro f;have:(a+1)*P<=2147483648*P:=Nat.mul_le_mul_right _ (by omega);rw[Nat.add_mul] at this;omega
theorem TA {l:List UInt32} {m:Nat} (hu:AB u=AB l*2^s) (j:s<=31) (hlen:u.length=l.length+1) (hm:m+n=l.length+1) (C:1<=n) (w:2147483648*2^(32*(n-1))<=V):AB (u.drop m)<V:=by
 have a:=Dy u m (by omega);have c:=Bc l;have f:2^(32*l.length)=2^(32*m)*2^(32*(n-1)):=by rw[<-Nat.pow_add,show 32*m+32*(n-1)=32*l.length by omega]
 have g:2^s<=2147483648:=Nat.le_trans (Nat.pow_le_pow_right (by decide) j:2^s<=2^31) (by decide);have h:AB l*2^s<2^(32*l.length)*2147483648:=Nat.mul_lt_mul_of_lt_of_le c g (by decide);rw[hu,] at a;rw[f] at h;have F:=Nat.two_pow_pos (32*m)
 generalize 2^(32*m)=P at*
 generalize 2^(32*(n-1))=N at*
 apply Classical.byContradiction;intro B;have o:P*(2147483648*N)<=P*AB (u.drop m):=Nat.mul_le_mul_left _ (by omega);have v:P*N*2147483648=P*(2147483648*N):=by grind
 omega
theorem Z0 {x y:UInt32} (hx:u[i+n]? =some x) (g:u[i+n-1]? =some y) (j:1<=n) (c:AB (u.drop (i+n+1))=0):
  AB (u.drop i)=(y.toNat+4294967296*x.toNat)*2^(32*(n-1))+AB ((u.drop i).take (n-1)):=by
 have f:i+n<u.length:=by
  apply Classical.byContradiction;intro h;rw[List.getElem?_eq_none (by omega)] at hx;exact absurd hx (by simp)
 have a:=Dy (u.drop i) (n-1) (by rw[List.length_drop];omega);rw[List.drop_drop,show i+(n-1)=i+n-1 by omega,CU g,show i+n-1+1=i+n by omega,CU hx,c] at a;rw[a]
 generalize 2^(32*(n-1))=P
 grind
theorem Zx {top high P c a:Nat} (hR:R=top*P+c) (m:V=high*P+a) (f:a<P) (h:R<4294967296*V):top<4294967296*(high+1):=by
 apply Classical.byContradiction;intro o;have g:4294967296*(high+1)*P<=top*P:=Nat.mul_le_mul_right _ (by omega);have j:4294967296*(high+1)*P=4294967296*(high*P)+4294967296*P:=by grind
 omega
theorem P0 {a r:Nat} (hA:A=a*2^s) (g:V=b*2^s) (h:A=r+q*V) (F:r<V) (w:0<b):q=a/b/\r/2^s=a%b:=by
 have j:=Nat.two_pow_pos s;have B:=Nat.div_add_mod a b;have C:=Nat.mod_lt a w
 have e:a*2^s=(a%b)*2^s+(a/b)*V:=by rw[g];conv=>lhs;rw[<-B]
                                    grind
 have f:(a%b)*2^s<V:=by rw[g];exact (Nat.mul_lt_mul_right j).2 C
 have c:0<V:=by omega
 have m:q=a/b:=by
  have o:A/V=q:=by rw[h,Nat.add_mul_div_right _ _ c,Nat.div_eq_of_lt F,Nat.zero_add]
  have v:A/V=a/b:=by rw[hA,e,Nat.add_mul_div_right _ _ c,Nat.div_eq_of_lt f,Nat.zero_add]
  rw[<-o,v]
 refine⟨m,?_⟩;have:r=(a%b)*2^s:=by rw[hA,e,m] at h;omega
 rw[this,Nat.mul_div_cancel _ j]
end Go.Abs
namespace Go.Abs
def BN (x y:Int):Int:=if 0<=y then x/y else (-x)/(-y)
variable {N X:Nat} {b:Bool} {x y:Int}
theorem HO {a b q r:Int} (g:0<b) (h:a=b*q+r) (c:0<=r) (f:r<b):a/b=q:=((Int.ediv_emod_unique g).2 ⟨by omega,c,f⟩).1
theorem Pw (g:y≠0) (c:decide (x<0)=decide (y<0)):BN x y=((x.natAbs/y.natAbs:Nat):Int):=by
 have f:=Nat.div_add_mod x.natAbs y.natAbs;have hm:=Nat.mod_lt x.natAbs (by omega:0<y.natAbs)
 generalize x.natAbs/y.natAbs=q at*
 generalize x.natAbs%y.natAbs=r at*
 have a:(y.natAbs:Int)*q+r=x.natAbs:=by rw[<-f];simp
 unfold BN
 by_cases h:0<=y
 ·rw[if_pos h]
  have:¬x<0:=by intro hx;have:y<0:=by simpa [hx] using c
                omega
  rw[show (y.natAbs:Int)=y by omega,show (x.natAbs:Int)=x by omega] at a;exact HO (r:=r) (by omega) a.symm (by omega) (by omega)
 rw[if_neg h]
 have:x<0:=by have:y<0:=by omega
              simpa [this] using c
 rw[show (y.natAbs:Int)= -y by omega,show (x.natAbs:Int)= -x by omega] at a;exact HO (r:=r) (by omega) a.symm (by omega) (by omega)
theorem Pt (j:y≠0) (f:decide (x<0)≠decide (y<0)) (g:x.natAbs%y.natAbs=0):BN x y= -((x.natAbs/y.natAbs:Nat):Int):=by
 have c:=Nat.div_add_mod x.natAbs y.natAbs;rw[g] at c
 generalize x.natAbs/y.natAbs=q at*
 have a:(y.natAbs:Int)*q=x.natAbs:=by rw[<-c];simp
 unfold BN
 by_cases h:0<=y
 ·rw[if_pos h]
  have hx:x<0:=by
   apply Classical.byContradiction;intro hx;exact f (by rw[decide_eq_false hx,decide_eq_false (by omega)])
  rw[show (y.natAbs:Int)=y by omega,show (x.natAbs:Int)= -x by omega] at a;exact HO (r:=0) (by omega) (by rw[Int.mul_neg,a];omega) (by omega) (by omega)
 rw[if_neg h]
 have hx:¬x<0:=by
  intro hx;exact f (by rw[decide_eq_true hx,decide_eq_true (by omega)])
 rw[show (y.natAbs:Int)= -y by omega,show (x.natAbs:Int)=x by omega] at a;exact HO (r:=0) (by omega) (by rw[Int.mul_neg,a];omega) (by omega) (by omega)
theorem Pu (j:y≠0) (c:decide (x<0)≠decide (y<0)) (g:x.natAbs%y.natAbs≠0):BN x y= -((x.natAbs/y.natAbs+1:Nat):Int):=by
 have f:=Nat.div_add_mod x.natAbs y.natAbs;have hm:=Nat.mod_lt x.natAbs (by omega:0<y.natAbs)
 generalize x.natAbs/y.natAbs=q at*
 generalize x.natAbs%y.natAbs=r at*
 have a:(y.natAbs:Int)*q+r=x.natAbs:=by rw[<-f];simp
 unfold BN
 by_cases h:0<=y
 ·rw[if_pos h]
  have hx:x<0:=by
   apply Classical.byContradiction;intro hx;exact c (by rw[decide_eq_false hx,decide_eq_false (by omega)])
  rw[show (y.natAbs:Int)=y by omega,show (x.natAbs:Int)= -x by omega] at a;refine HO (r:=y-r) (by omega) ?_ (by omega) (by omega);rw[Int.natCast_add,Int.mul_neg,Int.mul_add];omega
 rw[if_neg h]
 have hx:¬x<0:=by
  intro hx;exact c (by rw[decide_eq_true hx,decide_eq_true (by omega)])
 rw[show (y.natAbs:Int)= -y by omega,show (x.natAbs:Int)=x by omega] at a;refine HO (r:= -y-r) (by omega) ?_ (by omega) (by omega);rw[Int.natCast_add,Int.mul_neg,Int.mul_add];omega
def Ep (x y:Int):Int:=x-y*BN x y
theorem Ml:(y.natAbs:Int)*((x.natAbs/y.natAbs:Nat):Int)+((x.natAbs%y.natAbs:Nat):Int)=x.natAbs:=by
 rw[<-Int.natCast_mul,<-Int.natCast_add,Nat.div_add_mod]
theorem Xk (c:b=decide (y<0)) (g:y≠0) (a:decide (x<0)=decide (y<0)):Ep x y=if b=true then -((x.natAbs%y.natAbs:Nat):Int) else ((x.natAbs%y.natAbs:Nat):Int):=by
 have f:= @Ml x y;unfold Ep;rw[Pw g a]
 generalize x.natAbs/y.natAbs=q at*
 generalize x.natAbs%y.natAbs=r at*
 by_cases h:y<0
 ·have hx:x<0:=by simpa [h] using a
  rw[c,decide_eq_true h,if_pos rfl];rw[show (y.natAbs:Int)= -y by omega,show (x.natAbs:Int)= -x by omega,Int.neg_mul] at f;omega
 have hx:¬x<0:=by intro hx;simp[hx,h] at a
 rw[c,decide_eq_false h,if_neg (by simp)];rw[show (y.natAbs:Int)=y by omega,show (x.natAbs:Int)=x by omega] at f;omega
theorem Xi (g:y≠0) (c:decide (x<0)≠decide (y<0)) (f:x.natAbs%y.natAbs=0):Ep x y=if b=true then -((x.natAbs%y.natAbs:Nat):Int) else ((x.natAbs%y.natAbs:Nat):Int):=by
 have a:= @Ml x y;unfold Ep;rw[Pt g c f];rw[f] at a ⊢
 generalize x.natAbs/y.natAbs=q at*
 have e:x-y* -(q:Int)=0:=by
  by_cases h:y<0
  ·have hx:¬x<0:=by intro hx;exact c (by rw[decide_eq_true hx,decide_eq_true h])
   rw[show (y.natAbs:Int)= -y by omega,show (x.natAbs:Int)=x by omega,Int.neg_mul] at a;rw[Int.mul_neg];omega
  have hx:x<0:=by apply Classical.byContradiction;intro hx;exact c (by rw[decide_eq_false hx,decide_eq_false h])
  rw[show (y.natAbs:Int)=y by omega,show (x.natAbs:Int)= -x by omega] at a;rw[Int.mul_neg];omega
 rw[e];cases b <;> rfl
theorem Xj (c:b=decide (y<0)) (j:y≠0) (a:decide (x<0)≠decide (y<0)) (g:x.natAbs%y.natAbs≠0):
  Ep x y=if b=true then -((y.natAbs-x.natAbs%y.natAbs:Nat):Int) else ((y.natAbs-x.natAbs%y.natAbs:Nat):Int):=by
 have f:= @Ml x y;have hm:=Nat.mod_lt x.natAbs (by omega:0<y.natAbs);unfold Ep;rw[Pu j a g]
 generalize x.natAbs/y.natAbs=q at*
 generalize x.natAbs%y.natAbs=r at*
 rw[Int.natCast_add,Int.mul_neg,Int.mul_add]
 by_cases h:y<0
 ·have hx:¬x<0:=by intro hx;exact a (by rw[decide_eq_true hx,decide_eq_true h])
  rw[c,decide_eq_true h,if_pos rfl];rw[show (y.natAbs:Int)= -y by omega,show (x.natAbs:Int)=x by omega,Int.neg_mul] at f;omega
 have hx:x<0:=by apply Classical.byContradiction;intro hx;exact a (by rw[decide_eq_false hx,decide_eq_false h])
 rw[c,decide_eq_false h,if_neg (by simp)];rw[show (y.natAbs:Int)=y by omega,show (x.natAbs:Int)= -x by omega] at f;omega
theorem S9 (w:Ar N<=X) (a:0<X):Ar N<=(X+N/X)/2:=by
 have h:=Ib N
 generalize Ar N=s at*
 have j:X*(N/X)+N%X=N:=Nat.div_add_mod N X;have m:=Nat.mod_lt N a
 generalize N/X=q at*
 rw[Nat.le_div_iff_mul_le (by decide)];apply Classical.byContradiction;intro B;have o:X+q+1<=2*s:=by omega
 obtain⟨d,rfl⟩:∃d,X=s+d:=⟨X-s,by omega⟩
 have c:q+1<=s-d:=by omega
 have f:(s+d)*(q+1)<=(s+d)*(s-d):=Nat.mul_le_mul_left _ c
 have v:(s+d)*(s-d)<=s*s:=by
  by_cases g:d<=s
  ·obtain⟨e,rfl⟩:∃e,s=e+d:=⟨s-d,by omega⟩
   have:(e+d)*(e+d)=(e+d+d)*e+d*d:=by grind
   rw[Nat.add_sub_cancel];omega
  rw[show s-d=0 by omega];simp
 rw[Nat.mul_add] at f;omega
theorem Zi (m:Ar N<=X) (a:0<X) (h:X<=(X+N/X)/2):Ar N=X:=by
 have c:X<=N/X:=by omega
 have f:X*X<=N:=by
  have:=(Nat.le_div_iff_mul_le a).1 c;exact this
 have g:=KP N;have j:X<Ar N+1:=Nat.mul_self_lt_mul_self_iff.1 (by omega);omega
theorem Zj (h:N≠0):Ar N<=2^((Nat.log2 N+1)/2+1):=by
 apply Classical.byContradiction;intro j;have c:=Ib N;have f:N<2^(Nat.log2 N+1):=(Nat.log2_lt h).1 (Nat.lt_succ_self _);have a:2^((Nat.log2 N+1)/2+1)*2^((Nat.log2 N+1)/2+1)<=Ar N*Ar N:=Nat.mul_le_mul (by omega) (by omega);rw[<-Nat.pow_add] at a;have g:2^(Nat.log2 N+1)<=2^((Nat.log2 N+1)/2+1+((Nat.log2 N+1)/2+1)):=Nat.pow_le_pow_right (by decide) (by omega);omega
end Go.Abs
namespace Go.Abs
structure Aq (q:Rat) (b1:Bool) (l1:List UInt32) (b2:Bool) (l2:List UInt32):Prop where
 num:AT q.num b1 l1
 den:AT (q.den:Int) b2 l2
variable {b' PB b1 b2:Bool} {d y z:Int} {k:Nat} {l l' KH l1 l2:List UInt32}
theorem A9 (q:Rat):∃b1 l1 b2 l2,Aq q b1 l1 b2 l2:=⟨_,_,_,_,⟨rfl,rfl⟩,⟨rfl,rfl⟩⟩
theorem Aq.uniq {p q:Rat} {c1 c2:Bool} {m1 m2:List UInt32} (h:Aq p b1 l1 b2 l2) (h':Aq q c1 m1 c2 m2) (e:p=q):(b1=c1/\l1=m1)/\(b2=c2/\l2=m2):=by
 subst e;exact⟨h.num.uniq h'.num rfl,h.den.uniq h'.den rfl⟩
structure BF (q:Rat):Prop where
 num:(AJ q.num.natAbs).length<=4000000000000
 den:(AJ q.den).length<=4000000000000
theorem Aq.small {q:Rat} (h:Aq q b1 l1 b2 l2) (s:BF q):l1.length<=4000000000000/\l2.length<=4000000000000:=by
 rw[h.num.Am,h.den.Am];exact⟨s.num,by simpa using s.den⟩
theorem Pv (x:Int):BN x 1=x:=by unfold BN;simp
theorem KN {n:Int} (f:d≠0):(Rat.divInt n d).num=BN n (if d<0 then -((Nat.gcd n.natAbs d.natAbs:Nat):Int) else ((Nat.gcd n.natAbs d.natAbs:Nat):Int)):=by
 rw[Rat.num_divInt];have c:Int.gcd d n=Nat.gcd n.natAbs d.natAbs:=by rw[Int.gcd_comm];rfl
 have a:0<Nat.gcd n.natAbs d.natAbs:=Nat.gcd_pos_of_pos_right _ (by omega);rw[c];unfold BN
 by_cases h:d<0
 ·rw[if_pos h,if_neg (by omega),Int.sign_eq_neg_one_of_neg h,Int.neg_neg,Int.neg_one_mul]
 rw[if_neg h,if_pos (by omega),Int.sign_eq_one_of_pos (by omega),Int.one_mul]
theorem KM {n:Int} (c:d≠0):((Rat.divInt n d).den:Int)=BN d (if d<0 then -((Nat.gcd n.natAbs d.natAbs:Nat):Int) else ((Nat.gcd n.natAbs d.natAbs:Nat):Int)):=by
 rw[Rat.den_divInt,if_neg c];have f:Int.gcd d n=Nat.gcd n.natAbs d.natAbs:=by rw[Int.gcd_comm];rfl
 have a:0<Nat.gcd n.natAbs d.natAbs:=Nat.gcd_pos_of_pos_right _ (by omega);rw[f,Int.natCast_ediv];unfold BN
 by_cases h:d<0
 ·rw[if_pos h,if_neg (by omega),Int.neg_neg,show (d.natAbs:Int)= -d by omega]
 rw[if_neg h,if_pos (by omega),show (d.natAbs:Int)=d by omega]
theorem Xe:AJ 1=[1]:=by decide +kernel
theorem Mz {x:Int} {b:Bool} (h:AT x b l) (e:b=true):false=decide (x=1):=by
 have:=h.neg;rw[e] at this;have a:x<0:=by simpa using this.symm
 simp;omega
theorem RZ {x:Int} {b:Bool} (h:AT x b l) (e:¬l.length=1):false=decide (x=1):=by
 have a:x≠1:=by
  intro hx;subst hx;apply e;rw[h.Am];exact congrArg List.length Xe
 simp[a]
theorem M1 {x:Int} {b:Bool} {w:UInt32} (h:AT x b l) (j:b=false) (e:l.length=1) (hw:l[0]? =some w):decide (w.toNat=1)=decide (x=1):=by
 have m:l=[w]:=by
  match l,e,hw with
  | [a],_,hw=>simp at hw;rw[hw]
 have c:=h.nat;rw[m] at c;have g:AB [w]=w.toNat:=by simp[AB]
 rw[g] at c;have f:=h.neg;rw[j] at f;have o:¬x<0:=by simpa using f.symm
 rw[Bool.eq_iff_iff];simp;omega
theorem KQ (n:Nat):n<2^(32*(AJ n).length):=by
 have h:=Bc (AJ n);rwa [Ag] at h
theorem Xd (a b:Nat):(AJ (a*b)).length<=(AJ a).length+(AJ b).length:=by
 apply D9;rw[Nat.mul_add,Nat.pow_add];exact Nat.mul_lt_mul_of_lt_of_le (KQ a) (Nat.le_of_lt (KQ b)) (Nat.pow_pos (by decide))
theorem Xc {a b:Nat} (c:(AJ a).length<=k) (f:(AJ b).length<=k):(AJ (a+b)).length<=k+1:=by
 apply D9;have g:=Nat.lt_of_lt_of_le (KQ a) (Nat.pow_le_pow_right (n:=2) (by decide) (Nat.mul_le_mul_left 32 c));have h:=Nat.lt_of_lt_of_le (KQ b) (Nat.pow_le_pow_right (n:=2) (by decide) (Nat.mul_le_mul_left 32 f));rw[Nat.mul_add,Nat.pow_add];have j:2^(32*k)*2<=2^(32*k)*2^(32*1):=Nat.mul_le_mul_left _ (by decide);omega
theorem AT.CG {x:Int} {b:Bool} (h:AT x b l) (h':AT y b' l') (a:AT z PB KH) (e:z=x*y):KH.length<=l.length+l'.length:=by
 rw[h.Am,h'.Am,a.Am,e,Int.natAbs_mul];exact Xd _ _
theorem AT.JV {x:Int} {b:Bool} (h:AT x b l) (h':AT y b' l') (c:AT z PB KH) (e:z=x+y) (f:l.length<=k) (a:l'.length<=k):KH.length<=k+1:=by
 rw[h.Am] at f;rw[h'.Am] at a;rw[c.Am,e];exact Nat.le_trans (Cl (Int.natAbs_add_le x y)) (Xc f a)
theorem Eg (q:Rat):(q.den:Int)≠0:=by have:=q.den_nz;omega
theorem Lj (p q:Rat):p+q=Rat.divInt (p.num*q.den+q.num*p.den) ((p.den:Int)*q.den):=by
 have h:=Rat.divInt_add_divInt p.num q.num (Eg p) (Eg q);rwa [Rat.num_divInt_den,Rat.num_divInt_den] at h
theorem KT (p q:Rat):p*q=Rat.divInt (p.num*q.num) ((p.den:Int)*q.den):=by
 have h:=Rat.divInt_mul_divInt p.num q.num (d₁:=p.den) (d₂:=q.den);rwa [Rat.num_divInt_den,Rat.num_divInt_den] at h
theorem WV (p q:Rat):p/q=Rat.divInt (p.num*q.den) ((p.den:Int)*q.num):=by
 have h:=Rat.divInt_mul_divInt p.num q.den (d₁:=p.den) (d₂:=q.num);rw[<-Rat.inv_divInt q.num q.den,Rat.num_divInt_den,Rat.num_divInt_den] at h;rw[Rat.div_def,h]
theorem Px (x:Int):Rat.divInt x 1=(x:Rat):=Rat.num_divInt_den (x:Rat)
theorem Pz (x:Int):(Rat.divInt x 1).num=x:=by rw[Px];rfl
theorem Py (x:Int):(Rat.divInt x 1).den=1:=by rw[Px];rfl
theorem Fz {p q:Rat} (a:(p.den:Int)=1) (c:(q.den:Int)=1):(p+q).num=p.num+q.num/\(p+q).den=1:=by
 rw[Lj,a,c];simp only[Int.mul_one];exact⟨Pz _,Py _⟩
theorem mul_ones {p q:Rat} (a:(p.den:Int)=1) (c:(q.den:Int)=1):(p*q).num=p.num*q.num/\(p*q).den=1:=by
 rw[KT,a,c];simp only[Int.mul_one];exact⟨Pz _,Py _⟩
theorem Sy (r:Rat):(r*r).num=r.num*r.num/\(r*r).den=r.den*r.den:=by
 have a:(r.num*r.num).natAbs.Coprime (r.den*r.den):=by
  rw[Int.natAbs_mul];have h:=r.reduced;exact Nat.Coprime.mul_right (Nat.Coprime.mul_left h h) (Nat.Coprime.mul_left h h)
 have c:r.den*r.den≠0:=Nat.mul_ne_zero r.den_nz r.den_nz;have h:=Rat.num_divInt_den (⟨r.num*r.num,r.den*r.den,c,a⟩:Rat);have f:=KT r r
 have g:(⟨r.num*r.num,r.den*r.den,c,a⟩:Rat)=r*r:=by
  rw[f,<-h];exact congrArg _ (Int.natCast_mul _ _)
 rw[<-g];exact⟨rfl,rfl⟩
theorem Ql (n:Nat):Ar (n*n)=n:=Qm (Nat.le_refl _) (by rw[Nat.add_mul,Nat.mul_add];omega)
theorem S8 {r q:Rat} (c:0<=r) (h:r*r=q):((Ar q.num.toNat:Nat):Int)=r.num/\r.num*r.num=q.num:=by
 have a:=(Sy r).1;rw[h] at a;have g:0<=r.num:=Rat.num_nonneg.2 c;refine⟨?_,a.symm⟩;obtain⟨k,f⟩:=Int.eq_ofNat_of_zero_le g;rw[a,f];rw[show ((k:Int)*k).toNat=k*k by rw[<-Int.natCast_mul];rfl,Ql]
theorem S7 {r q:Rat} (c:0<=r) (h:r*r=q):((Ar (q.den:Int).toNat:Nat):Int)=(r.den:Int)/\(r.den:Int)*r.den=(q.den:Int):=by
 have a:=(Sy r).2;rw[h] at a;refine⟨?_,by rw[a];exact (Int.natCast_mul _ _).symm⟩;rw[a,Int.toNat_natCast,Ql]
theorem S6 {q:Rat} (c:((Ar q.num.toNat:Nat):Int)*((Ar q.num.toNat:Nat):Int)=q.num) (a:((Ar (q.den:Int).toNat:Nat):Int)*((Ar (q.den:Int).toNat:Nat):Int)=(q.den:Int)):∃r:Rat,0<=r/\r*r=q:=by
 refine⟨Rat.divInt ((Ar q.num.toNat:Nat):Int) ((Ar (q.den:Int).toNat:Nat):Int),?_,?_⟩
 ·exact Rat.divInt_nonneg (Int.natCast_nonneg _) (Int.natCast_nonneg _)
 rw[Rat.divInt_mul_divInt,c,a,Rat.num_divInt_den]
def FM (b1:Bool) (l1:List UInt32) (b2:Bool) (l2:List UInt32):Bool:=E2 b1 l1&&(E2 b2 l2&&(!b2&&(decide (l2≠[])&&decide (Nat.gcd (AB l1) (AB l2)=1))))
theorem Nm:FM b1 l1 b2 l2=true↔∃q,Aq q b1 l1 b2 l2:=by
 unfold FM;simp only[Bool.and_eq_true,Bool.not_eq_true',decide_eq_true_eq]
 constructor
 ·rintro⟨g,j,m,o,c⟩
  obtain⟨x,hx⟩:=H3.1 g;obtain⟨y,a⟩:=H3.1 j;have v:y≠0:=fun e=>o (a.nil.2 e)
  have f:=a.neg;rw[m] at f;have w:¬y<0:=by simpa using f.symm
  rw[hx.nat,a.nat] at c;refine⟨⟨x,y.natAbs,by omega,c⟩,hx,?_⟩
  show AT ((y.natAbs:Nat):Int) b2 l2
  rw[show ((y.natAbs:Nat):Int)=y by omega];exact a
 rintro⟨q,h⟩
 refine⟨H3.2 ⟨_,h.num⟩,H3.2 ⟨_,h.den⟩,?_,fun e=>q.den_nz (by have:=h.den.nil.1 e;omega),?_⟩
 ·rw[h.den.neg];simp
 rw[h.num.nat,h.den.nat,Int.natAbs_natCast];exact q.reduced
def C1 (q:Rat):Int:=BO q.num
def D5 (p q:Rat):Int:=if p<q then -1 else if q<p then 1 else 0
end Go.Abs
namespace Go.Abs
open Go.RowKit
def rp (q:Rat):el AA:=((decide (q.num<0),AJ q.num.natAbs),(decide ((q.den:Int)<0),AJ q.den))
theorem D8 (q:Rat):Aq q (rp q).1.1 (rp q).1.2 (rp q).2.1 (rp q).2.2:=⟨⟨rfl,rfl⟩,⟨rfl,rfl⟩⟩
theorem Aq.rp {q:Rat} {b1 b2:Bool} {l1 l2:List UInt32} (h:Aq q b1 l1 b2 l2):rp q=((b1,l1),(b2,l2)):=by
 have u:=h.uniq (D8 q) rfl;rw[u.1.1,u.1.2,u.2.1,u.2.2]
abbrev AW (X:List Rat):List (el AA):=X.map rp
def Cd (X:List Rat):Prop:=∀q∈X,BF q
structure JL (ts:List (List Rat)):Prop where
 small:∀x∈ts,Cd x
 MN:ts.length<=16
 form:∀i x,ts[i]? =some x->x.length=2^i
end Go.Abs
namespace Go.Abs
open Go.RowKit
noncomputable def em (u:List (List Rat)) (x:Re):List (el AA):=AW (co u x)
def tw (u:List (List Rat)):List (List (el AA)):=u.reverse.map AW
structure AU (R:Nat) (u:List (List Rat)):Prop where
 red:AQ u
 tb:TB R u
 hR:R<=60000000000000
 ht:u.length<=16
structure El (u:List (List Rat)) (s:Nat) (x:Re):Prop where
 mem:In u x
 bd:Bd s (co u x)
variable {R k n s t:Nat} {p x y:Re}
theorem Qx (h:n<=2^(2*k)) (c:k<=60000000000000):(AJ n).length<=4000000000000:=by
 obtain⟨m,hm⟩:=xN 3999999999999;have a:n<2^(32*m):=Nat.lt_of_le_of_lt h (Nat.pow_lt_pow_right (by decide) (by omega));have:=D9 a;omega
theorem WU {q:Rat} {D:Nat} {n:Int} (h:q*D=n) (j:0<D):q.den<=D:=by
 have a:=Ho q
 have c:((q.num*D:Int):Rat)=((n*q.den:Int):Rat):=by
  rw[Rat.intCast_mul,Rat.intCast_mul,<-h,<-a];have m:((D:Int):Rat)=(D:Rat):=rfl;have o:((q.den:Int):Rat)=(q.den:Rat):=rfl
  grind
 have f:q.num*D=n*q.den:=Rat.intCast_inj.1 c
 have g:q.den∣q.num.natAbs*D:=by
  refine⟨n.natAbs,?_⟩;have:=congrArg Int.natAbs f;rw[Int.natAbs_mul,Int.natAbs_mul,Int.natAbs_natCast,Int.natAbs_natCast] at this;rw[this,Nat.mul_comm]
 exact Nat.le_of_dvd j ((Nat.Coprime.symm q.reduced).dvd_of_dvd_mul_left g)
theorem Bd.BC {a:List Rat} (h:Bd k a) (j:k<=60000000000000):Cd a:=by
 obtain⟨D,v,w,B,F⟩:=h;intro q m;obtain⟨n,H⟩:=B q m;have g:q.den<=2^k:=Nat.le_trans (WU H v) w;have G:=F q m
 have c:q.num.natAbs<=2^(2*k):=by
  have f:=Mk (C:=q.den) G (q:=(q.den:Rat)) ⟨by have:(0:Rat)<=q.den:=Rat.natCast_nonneg;grind,by grind⟩;rw[Ho] at f
  have o:q.num.natAbs<=2^k*q.den:=by
   have I: -((2^k*q.den:Nat):Int)<=q.num:=by
    apply Rat.intCast_le_intCast.1;rw[Rat.intCast_neg];exact f.1
   have J:q.num<=((2^k*q.den:Nat):Int):=Rat.intCast_le_intCast.1 f.2;omega
  have:=Nat.mul_le_mul_left (2^k) g;rw[<-Nat.pow_add] at this;exact Nat.le_trans o (Nat.le_trans this (Bh (by omega)))
 exact⟨Qx c j,Qx (Nat.le_trans g (Bh (by omega))) j⟩
theorem El.BC {u:List (List Rat)} (h:El u s x) (a:s<=60000000000000):Cd (co u x):=h.bd.BC a
theorem El.len {u:List (List Rat)} (h:El u s x):(co u x).length=2^u.length:=B6 h.mem
theorem Ap {u:List (List Rat)} (h:In u x):(em u x).length=2^u.length:=by rw[em,List.length_map,B6 h]
theorem Au (u:List (List Rat)):(tw u).length=u.length:=by rw[tw,List.length_map,List.length_reverse]
theorem B5 (h:n<=16):2^n<=65536:=Nat.le_trans (Bh h) (by decide)
theorem I9 (r:List Rat) (u:List (List Rat)):tw (r::u)=tw u++[AW r]:=by rw[tw,List.reverse_cons,List.map_append];rfl
theorem CO (r:List Rat) (u:List (List Rat)):(tw (r::u)).take ((tw (r::u)).length-1)=tw u:=by
 rw[I9,List.length_append,Au];simp[List.take_left' (Au u)]
theorem DY (r:List Rat) (u:List (List Rat)):(tw (r::u))[(tw (r::u)).length-1]? =some (AW r):=by
 rw[I9,List.length_append,Au];simp[List.getElem?_append_right (Nat.le_of_eq (Au u))];rw[Au,Nat.sub_self];rfl
theorem Cj {r:List Rat} {u:List (List Rat)} (h:AQ (r::u)):AW r=em u (AI u r):=by rw[em,EM h]
theorem BY {u:List (List Rat)} {r:List Rat} {q:Re} (h:AQ (r::u)) (c:In u p) (f:In u q) (hx:x=p+q*rt u r):(em (r::u) x).take ((em (r::u) x).length/2)=em u p:=by
 have a:In (r::u) x:=Bo.2 ⟨p,q,c,f,hx⟩;rw[Ap a,BE,show (2^u.length+2^u.length)/2=2^u.length by omega,em,em,AW,AW,<-List.map_take,WR h c f hx]
theorem BL {u:List (List Rat)} {r:List Rat} {q:Re} (h:AQ (r::u)) (c:In u p) (f:In u q) (hx:x=p+q*rt u r):(em (r::u) x).drop ((em (r::u) x).length/2)=em u q:=by
 have a:In (r::u) x:=Bo.2 ⟨p,q,c,f,hx⟩;rw[Ap a,BE,show (2^u.length+2^u.length)/2=2^u.length by omega,em,em,AW,AW,<-List.map_drop,WQ h c f hx]
theorem DI {u:List (List Rat)} {r:List Rat} {q:Re} (h:AQ (r::u)) (a:In u p) (c:In u q) (hx:x=p+q*rt u r):em (r::u) x=em u p++em u q:=by
 rw[em,CT h a c hx,AW,List.map_append];rfl
theorem P8 {u:List (List Rat)} (h:AQ u) (hx:In u x) (a:In u y):em u (x+y)=AW (List.zipWith (· + ·) (co u x) (co u y)):=by rw[em,Jh h hx a]
theorem P9 {u:List (List Rat)} (h:AQ u) (hx:In u x):em u (-x)=AW ((co u x).map (- ·)):=by rw[em,IS h hx]
theorem Cg (q:Rat):em [] (Re.ofRat q)=[rp q]:=by rw[em,Bn];rfl
theorem MD {u:List (List Rat)} (h:AQ u):em u 0=AW (List.replicate (2^u.length) 0):=by rw[em,L5 h]
theorem AU.tail {r:List Rat} {u:List (List Rat)} (h:AU R (r::u)):AU R u:=⟨h.red.1,h.tb.tail,h.hR,by have:=h.ht;rw[List.length_cons] at this;omega⟩
theorem GA {α:Type} {l:List α} {i:Nat} {x:α} (h:l[i]? =some x):i<l.length:=by
 apply Classical.byContradiction;intro a;rw[List.getElem?_eq_none (by omega)] at h;exact absurd h (by simp)
theorem Hp:∀{u:List (List Rat)},AQ u->∀(i:Nat) (x:List Rat),u.reverse[i]? =some x->x.length=2^i
 | [],_,i,x,h=>by simp at h
 | r::u,a,i,x,h=>by
  rw[List.reverse_cons] at h
  by_cases f:i<u.length
  ·rw[List.getElem?_append_left (by rw[List.length_reverse];exact f)] at h;exact Hp a.1 i x h
  rw[List.getElem?_append_right (by rw[List.length_reverse];omega),List.length_reverse] at h
  have c:i-u.length=0:=by
   have:=GA h;simp at this;omega
  rw[c] at h;have:r=x:=by simpa using h
  rw[<-this,a.2.1]
  congr 1;omega
theorem AU.Dl {u:List (List Rat)} (h:AU R u):JL u.reverse:=
 ⟨fun x hx=>(h.tb x (List.mem_reverse.1 hx)).BC h.hR,by rw[List.length_reverse];exact h.ht,Hp h.red⟩
theorem El.Br {r:List Rat} {u:List (List Rat)} (h:AU R (r::u)):El u R (AI u r):=⟨Bg h.red,Lu h.red h.tb⟩
theorem El.parts {u:List (List Rat)} {r:List Rat} (h:AQ (r::u)) (hx:El (r::u) s x):∃p q,x=p+q*rt u r/\El u s p/\El u s q:=by
 obtain⟨p,q,a,c,rfl⟩:=Bo.1 hx.mem;have:=PG h a c hx.bd;exact⟨p,q,rfl,⟨a,this.1⟩,⟨c,this.2⟩⟩
theorem El.mono {u:List (List Rat)} (h:El u s x) (a:s<=t):El u t x:=⟨h.mem,h.bd.mono a⟩
theorem El.add {u:List (List Rat)} (h:AQ u) (hx:El u s x) (a:El u t y):El u (s+t+1) (x+y):=⟨B3 hx.mem a.mem,PD h hx.mem a.mem hx.bd a.bd⟩
theorem El.sub {u:List (List Rat)} (h:AQ u) (hx:El u s x) (a:El u t y):El u (s+t+1) (x-y):=⟨Dv hx.mem a.mem,V3 h hx.mem a.mem hx.bd a.bd⟩
theorem El.neg {u:List (List Rat)} (h:AQ u) (hx:El u s x):El u s (-x):=⟨FD hx.mem,PH h hx.mem hx.bd⟩
theorem El.mul {u:List (List Rat)} (h:AU R u) (hx:El u s x) (a:El u t y):El u (s+t+EE u.length R) (x*y):=⟨Ab h.red hx.mem a.mem,Vy h.red h.tb hx.mem a.mem hx.bd a.bd⟩
theorem El.norm {u:List (List Rat)} {r:List Rat} {q:Re} (h:AU R (r::u)) (a:In u p) (c:In u q) (hx:El (r::u) s (p+q*rt u r)):El u (2*s+2*EE u.length R+R+1) (p*p-q*q*AI u r):=
 ⟨Dv (Ab h.red.1 a a) (Ab h.red.1 (Ab h.red.1 c c) (Bg h.red)),PI h.red h.tb a c hx.bd⟩
theorem El.inv {u:List (List Rat)} (h:AU R u) (hx:El u s x) (a:In u y) (e:x*y=1):El u (II u.length R s) y:=⟨a,Jb h.red h.tb hx.mem a e hx.bd⟩
theorem El.sqrt {u:List (List Rat)} {w:Re} (h:AU R u) (hx:El u s x) (hw:In u w) (e:w*w=x):El u (s+GG u.length R) w:=⟨hw,PJ h.red h.tb hw e hx.bd⟩
theorem El.rat {u:List (List Rat)} {q:Rat} (h:AQ u) (a:Bd s [q]):El u s (Re.ofRat q):=⟨FY q u,Vz h a⟩
theorem C3:∀(h R s:Nat),2*s<=II h R s
 | 0,_,_=>Nat.le_refl _
 | h+1,R,s=>by
  have:=C3 h R (2*s+2*EE h R+R+1);rw[II];omega
theorem RK {u:List (List Rat)} {r:List Rat} {q:Re} (h:AQ (r::u)) (g:In u p) (j:In u q) (c:p+q*rt u r≠0):p*p-q*q*AI u r≠0:=by
 intro m;have w:=Bk h;have f:(p+q*rt u r)*(p-q*rt u r)=0:=by grind
 rcases Re.EN f with a | a
 ·exact c a
 obtain⟨o,v⟩:=indep h g (FD j) (BM u) (BM u) (show p+ -q*rt u r=0+0*rt u r by grind);exact c (by grind)
theorem IJ:Bd 1 [(1/2:Rat)]:=by
 refine⟨2,by decide,by decide,fun q a=>⟨1,?_⟩,fun q a=>?_⟩
 ·rw[List.mem_singleton.1 a];decide +kernel
 rw[List.mem_singleton.1 a];decide +kernel
theorem EK:Bd 0 [(0:Rat)]:=⟨1,by decide,by decide,fun q a=>⟨0,by rw[List.mem_singleton.1 a];decide +kernel⟩,fun q a=>by rw[List.mem_singleton.1 a];decide +kernel⟩
theorem Vw:Bd 0 [(1:Rat)]:=⟨1,by decide,by decide,fun q a=>⟨1,by rw[List.mem_singleton.1 a];decide +kernel⟩,fun q a=>by rw[List.mem_singleton.1 a];decide +kernel⟩
end Go.Abs
