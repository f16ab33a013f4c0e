/- Part 16 of a proof. Conditions: each theorem's own. -/
import Derived.Test.YtfilemenbchajaaGreatPk14
set_option linter.all false
set_option maxHeartbeats 8000000
set_option maxRecDepth 20000
namespace Go.Abs
variable {D P R R0 R2 S V V0 V2 high next r top u3:Nat}
theorem VU {u:List UInt32} {off len:Nat} (c:S<2^(32*len)) (g:off+len<=u.length):
  ∃z:List UInt32,z.length=u.length/\z.take off=u.take off/\z.drop (off+len)=u.drop (off+len)/\AB ((z.drop off).take len)=S:=by
 obtain⟨y,h,a⟩:=H9 c;have f:(u.take off).length=off:=by rw[List.length_take];omega
 refine⟨u.take off++(y++u.drop (off+len)),?_,?_,?_,?_⟩
 ·simp;omega
 ·rw[List.take_append_of_le_length (by omega),List.take_of_length_le (by omega)]
 ·rw[<-List.drop_drop,List.drop_append_of_le_length (by omega),List.drop_eq_nil_of_le (by omega:(u.take off).length<=off),List.nil_append,List.drop_append_of_le_length (by omega),List.drop_eq_nil_of_le (by omega:y.length<=len),List.nil_append]
 rw[List.drop_append_of_le_length (by omega),List.drop_eq_nil_of_le (by omega:(u.take off).length<=off),List.nil_append,List.take_append_of_le_length (by omega),List.take_of_length_le (by omega),a]
theorem SO (hR:R=R2*P+R0) (a:R0<P) (hV:V=V2*P+V0) (h:R2<D*V2):R/V<D:=by
 have j:0<P:=by omega
 have c:0<V2:=by
  apply Nat.pos_of_ne_zero;intro e;subst e;simp at h
 apply Nat.div_lt_of_lt_mul;have f:(R2+1)*P<=D*V2*P:=Nat.mul_le_mul_right _ h;have g:V*D=D*V2*P+V0*D:=by rw[hV];grind
 have h3:(R2+1)*P=R2*P+P:=by grind
 omega
theorem SP (hR:R=R2*P+R0) (hV:V=V2*P+V0) (f:V0<P) (h:D*V2<=R2) (v:D<=V2+1):D<=R/V+1:=by
 cases D with
 | zero=>exact Nat.zero_le _
 | succ D=>
  have a:0<V\/V=0:=by omega
  rcases a with a | a
  ·have:D<=R/V:=by
    rw[Nat.le_div_iff_mul_le a];have g:(D+1)*V2*P<=R2*P:=Nat.mul_le_mul_right _ h;have j:D*V=D*V2*P+D*V0:=by rw[hV];grind
    have h3:(D+1)*V2*P=D*V2*P+V2*P:=by grind
    have m:D*V0<=D*P:=Nat.mul_le_mul_left _ (by omega);have o:D*P<=V2*P:=Nat.mul_le_mul_right _ (by omega);omega
   exact Nat.succ_le_succ this
  have c:V2*P=0:=by omega
  have w:0<P:=by omega
  have:V2=0:=by
   rcases Nat.mul_eq_zero.1 c with e | e
   ·exact e
   omega
  exact Nat.le_trans (by omega:D+1<=1) (Nat.le_add_left _ _)
structure Gu (R V top high D r:Nat):Prop where
 sum:r+D*high=top
 up:R/V<=D
 MH:D<=4294967297
 rest:r<4294967296
theorem aC (hR:R=top*P+R0) (a:R0<P) (hV:V=high*P+V0) (j:2147483648<=high) (g:high<4294967296) (ht:top<4294967296*(high+1)):Gu R V top high (top/high) (top%high):=by
 have hm:=Nat.div_add_mod top high;have h:=Nat.mod_lt top (by omega:0<high);refine⟨by rw[Nat.mul_comm] at hm;omega,?_,?_,by omega⟩
 ·have c:top<(top/high+1)*high:=by rw[Nat.add_mul,Nat.mul_comm];omega
  exact Nat.le_of_lt_succ (SO hR a hV c)
 have f:top<4294967298*high:=by omega
 have h3:top/high<4294967298:=(Nat.div_lt_iff_lt_mul (by omega)).2 f;exact Nat.le_of_lt_succ h3
theorem S4 (g:Gu R V top high D r) (a:R/V<4294967296) (h:4294967296<=D):R/V<=D-1:=by
 have:=g.up;exact Nat.le_sub_one_of_lt (Nat.lt_of_lt_of_le a h)
theorem S5 (g:Gu R V top high D r) (hR:R=(4294967296*top+u3)*P+R0) (a:R0<P) (hV:V=(4294967296*high+next)*P+V0) (h:4294967296*r+u3<D*next):R/V<=D-1:=by
 have j:4294967296*top+u3<D*(4294967296*high+next):=by
  have e:=g.sum
  clear g hR hV
  rw[<-e];have c:D*(4294967296*high+next)=4294967296*(D*high)+D*next:=by grind
  have f:4294967296*(r+D*high)=4294967296*r+4294967296*(D*high):=by grind
  rw[c,f]
  generalize D*high=Q at*
  generalize D*next=T at*
  omega
 exact Nat.le_sub_one_of_lt (SO hR a hV j)
theorem S6 (g:Gu R V top high D r) (a:R/V<=D-1) (f:0<D) (c:r+high<4294967296):Gu R V top high (D-1) (r+high):=by
 refine⟨?_,a,by have:=g.MH;omega,c⟩;have:=g.sum;obtain⟨D,rfl⟩:∃k,D=k+1:=⟨D-1,by omega⟩
 simp only[Nat.add_sub_cancel];rw[Nat.add_mul] at this;omega
structure JW (R V D:Nat):Prop where
 up:R/V<=D
 low:D<=R/V+1
 word:D<4294967296
theorem Ol (g:Gu R V top high D r) (hR:R=(4294967296*top+u3)*P+R0) (hV:V=(4294967296*high+next)*P+V0) (a:V0<P) (f:2147483648<=high)
  (c:D<4294967296) (h:D*next<=4294967296*r+u3):JW R V D:=by
 refine⟨g.up,SP hR hV a ?_ (by omega),c⟩;have e:=g.sum;rw[<-e];have:D*(4294967296*high+next)=4294967296*(D*high)+D*next:=by grind
 have:4294967296*(r+D*high)=4294967296*r+4294967296*(D*high):=by grind
 omega
theorem Ok (g:Gu R V top high D r) (f:R/V<=D-1) (w:0<D) (hR:R=(4294967296*top+u3)*P+R0) (hV:V=(4294967296*high+next)*P+V0) (c:V0<P) (C:2147483648<=high) (F:next<4294967296)
  (ht:top<4294967296*(high+1)) (h:4294967296<=r+high):JW R V (D-1):=by
 obtain⟨D,rfl⟩:∃k,D=k+1:=⟨D-1,by omega⟩
 simp only[Nat.add_sub_cancel] at f ⊢;have e:=g.sum;have hm:=g.MH;have j:(r+high)+D*high=top:=by rw[Nat.add_mul] at e;omega
 have a:D<4294967296:=by
  apply Classical.byContradiction;intro B;have:4294967296*high<=D*high:=Nat.mul_le_mul_right _ (by omega);omega
 refine⟨f,SP hR hV c ?_ (by omega),a⟩;rw[<-j];have m:D*(4294967296*high+next)=4294967296*(D*high)+D*next:=by grind
 have o:4294967296*(r+high+D*high)=4294967296*(r+high)+4294967296*(D*high):=by grind
 have h3:D*next<=4294967296*4294967296:=Nat.mul_le_mul (by omega) (by omega);have v:4294967296*4294967296<=4294967296*(r+high):=Nat.mul_le_mul_left _ h;omega
theorem Tv {M:Nat} {b:Bool} (g:JW R V D) (hV:0<V) (h:S+V*D=R+M*b.toNat) (o:S<M):
  (b=false->D=R/V/\S=R%V)/\(b=true->D-1=R/V/\0<D/\(R%V<M->(S+V)%M=R%V)):=by
 have v:=Nat.div_add_mod R V;have w:=Nat.mod_lt R hV;obtain⟨j,m,_⟩:=g
 generalize R/V=Q at*
 generalize R%V=T at*
 constructor
 ·rintro rfl;simp at h
  have a:D=Q:=by
   apply Classical.byContradiction;intro f;have:D=Q+1:=by omega
   rw[this,Nat.mul_add] at h;omega
  exact⟨a,by rw[a] at h;omega⟩
 rintro rfl;simp at h
 have a:D=Q+1:=by
  apply Classical.byContradiction;intro f;have:D=Q:=by omega
  rw[this] at h;omega
 refine⟨by omega,by omega,fun c=>?_⟩;rw[a,Nat.mul_add] at h;have:S+V=T+M*1:=by omega
 rw[this,Nat.add_mul_mod_self_left,Nat.mod_eq_of_lt c]
end Go.Abs
namespace Go.Abs
variable {A R V b i n q s:Nat} {u:List UInt32}
theorem gB {D M:Nat} (f:JW R V D) (hV:0<V) (hR:R<M) (c:V<=M):∃(b:Bool) (S:Nat),S+V*D=R+M*b.toNat/\S<M:=by
 have g:=Nat.div_add_mod R V;have a:V*D<=V*(R/V+1):=Nat.mul_le_mul_left _ f.low;rw[Nat.mul_add] at a
 by_cases h:V*D<=R
 ·exact⟨false,R-V*D,by simp;omega,by omega⟩
 refine⟨true,R+M-V*D,?_,by omega⟩;simp
 generalize V*(R/V)=T at*
 omega
theorem gR {x y w:UInt32} (a:u[i+n]? =some x) (h:u[i+n-1]? =some y) (hw:u[i+n-2]? =some w) (m:2<=n) (f:AB (u.drop (i+n+1))=0):
  AB (u.drop i)=(4294967296*(y.toNat+4294967296*x.toNat)+w.toNat)*2^(32*(n-2))+AB ((u.drop i).take (n-2)):=by
 have g:i+n<u.length:=by
  apply Classical.byContradiction;intro j;rw[List.getElem?_eq_none (by omega)] at a;exact absurd a (by simp)
 have c:=Es (u.drop i) (n-2) (by rw[List.length_drop];omega);rw[List.drop_drop,show i+(n-2)=i+n-2 by omega,DE hw,show i+n-2+1=i+n-1 by omega,DE h,show i+n-1+1=i+n by omega,DE a,f] at c;rw[c]
 generalize 2^(32*(n-2))=P
 grind
theorem gQ {v:List UInt32} {y w:UInt32} (hlen:v.length=n) (f:v[n-1]? =some y) (hw:v[n-2]? =some w) (g:2<=n):
  AB v=(4294967296*y.toNat+w.toNat)*2^(32*(n-2))+AB (v.take (n-2))/\AB v=y.toNat*2^(32*(n-1))+AB (v.take (n-1)):=by
 have a:=Es v (n-2) (by omega);rw[DE hw,show n-2+1=n-1 by omega,DE f,show n-1+1=n by omega,List.drop_eq_nil_of_le (by omega)] at a;have c:=Es v (n-1) (by omega);rw[DE f,show n-1+1=n by omega,List.drop_eq_nil_of_le (by omega)] at c
 constructor
 ·rw[a];simp only[AB];generalize 2^(32*(n-2))=P;grind
 rw[c];simp only[AB];generalize 2^(32*(n-1))=P;grind
theorem JK {l:List UInt32}:AB (l.take n)<2^(32*n):=
 Nat.lt_of_lt_of_le (CL _) (Nat.pow_le_pow_right (by decide) (by rw[List.length_take];omega))
theorem ON {l:List UInt32} (h:AB l<2^(32*n)) (a:n<=l.length):AB (l.drop n)=0:=by
 have c:=Es l n a;apply Classical.byContradiction;intro f;have:2^(32*n)*1<=2^(32*n)*AB (l.drop n):=Nat.mul_le_mul_left _ (by omega);omega
theorem VF {z:List UInt32} {Q:Nat} (w:z.length=u.length) (a:z.take i=u.take i) (c:z.drop (i+(n+1))=u.drop (i+(n+1))) (hlen:i+(n+1)<=u.length) (h:AB (u.drop (i+n+1))=0)
  (v:q=AB (u.drop i)/V) (o:AB ((z.drop i).take (n+1))=AB (u.drop i)%V) (m:A=AB u+2^(32*(i+1))*Q*V):
  AB (z.drop i)=AB (u.drop i)%V/\A=AB z+2^(32*i)*(q+4294967296*Q)*V:=by
 have f:AB (z.drop i)=AB (u.drop i)%V:=by
  have:=Es (z.drop i) (n+1) (by rw[List.length_drop];omega);rw[List.drop_drop,c,show i+(n+1)=i+n+1 by omega,h,o] at this;simpa using this
 refine⟨f,?_⟩;have j:=Es u i (by omega);have h3:=Es z i (by omega);rw[a,f] at h3;have g:=Nat.div_add_mod (AB (u.drop i)) V;rw[<-v] at g;rw[m,j,h3,DR,<-g]
 generalize 2^(32*i)=P
 grind
theorem VW (h:i+n<=u.length) (a:AB (u.drop (i+n))=0):AB ((u.drop i).take n)=AB (u.drop i):=by
 have:=Es (u.drop i) n (by rw[List.length_drop];omega);rw[List.drop_drop,a] at this;simpa using this.symm
theorem Jp {x:UInt32} (h:(AR b)[i]? =some x) (a:i+1=(AR b).length):x.toNat≠0:=by
 intro c;have hb:b≠0:=fun e=>by subst e;simp[E3] at a
 have f:=TV hb;have g:=B6 h;rw[a,List.take_length,BB,c] at g;have h3:=CL ((AR b).take i);rw[List.length_take,Nat.min_eq_left (by omega)] at h3;rw[<-a,Nat.add_sub_cancel] at f;omega
theorem Vk {k:Nat} {x:UInt32} (a:(AR b).length=n) (h:1<=n) (B:(AR b)[n-1]? =some x) (g:2^(k-1)<=x.toNat) (j:x.toNat<2^k) (J:1<=k) (v:k<=32) (K:s=32-k):
  (AR (b*2^s)).length=n/\2147483648*2^(32*(n-1))<=b*2^s:=by
 have c:2^(k-1)*2^s=2147483648:=by rw[<-Nat.pow_add,show k-1+s=31 by omega]
 have f:2^k*2^s=4294967296:=by rw[<-Nat.pow_add,show k+s=32 by omega]
 have h3:=B6 B;rw[show n-1+1=n by omega,<-a,List.take_length,BB,a] at h3;have m:=CL ((AR b).take (n-1));rw[List.length_take,Nat.min_eq_left (by omega)] at m;have w:2^(32*n)=4294967296*2^(32*(n-1)):=by rw[<-DR,show n-1+1=n by omega]
 generalize o:2^(32*(n-1))=P at*
 have low:2147483648*P<=b*2^s:=by
  rw[<-c,h3];have:2^(k-1)*2^s*P<=x.toNat*2^s*P:=Nat.mul_le_mul_right _ (Nat.mul_le_mul_right _ g);have:(AB (List.take (n-1) (AR b))+P*x.toNat)*2^s=AB (List.take (n-1) (AR b))*2^s+x.toNat*2^s*P:=by grind
  omega
 refine⟨?_,low⟩
 have up:b*2^s<2^(32*n):=by
  rw[w,<-f];have C:b<(x.toNat+1)*P:=by rw[h3,Nat.add_mul,Nat.mul_comm P];omega
  have F:(x.toNat+1)*P<=2^k*P:=Nat.mul_le_mul_right _ j;have G:b*2^s<2^k*P*2^s:=(Nat.mul_lt_mul_right (Nat.two_pow_pos s)).2 (by omega);have:2^k*2^s*P=2^k*P*2^s:=by grind
  omega
 have H:=E2 up;have I:=TN (n:=b*2^s) (k:=n-1) (by rw[o];omega);omega
theorem Mq (l:List UInt32) (h:s<=31):AB l*2^s<2^(32*(l.length+1)):=by
 rw[DR,Nat.mul_comm 4294967296];exact Nat.mul_lt_mul_of_lt_of_le (CL l) (Nat.le_trans (Nat.pow_le_pow_right (by decide) h:2^s<=2^31) (by decide)) (by decide)
theorem aF {a rest:Nat} (h:2147483648*2^(32*(n-1))<=V) (hV:V=a*2^(32*(n-1))+rest) (f:rest<2^(32*(n-1))):2147483648<=a:=by
 generalize 2^(32*(n-1))=P at*
 apply Classical.byContradiction;intro c;have:(a+1)*P<=2147483648*P:=Nat.mul_le_mul_right _ (by omega);rw[Nat.add_mul] at this;omega
theorem WC {l:List UInt32} {m:Nat} (hu:AB u=AB l*2^s) (h:s<=31) (hlen:u.length=l.length+1) (hm:m+n=l.length+1) (w:1<=n) (hV:2147483648*2^(32*(n-1))<=V):AB (u.drop m)<V:=by
 have a:=Es u m (by omega);have c:=CL l;have h3:2^(32*l.length)=2^(32*m)*2^(32*(n-1)):=by rw[<-Nat.pow_add,show 32*m+32*(n-1)=32*l.length by omega]
 have f:2^s<=2147483648:=Nat.le_trans (Nat.pow_le_pow_right (by decide) h:2^s<=2^31) (by decide);have g:AB l*2^s<2^(32*l.length)*2147483648:=Nat.mul_lt_mul_of_lt_of_le c f (by decide);rw[hu,] at a;rw[h3] at g;have B:=Nat.two_pow_pos (32*m)
 generalize 2^(32*m)=P at*
 generalize 2^(32*(n-1))=N at*
 apply Classical.byContradiction;intro v;have j:P*(2147483648*N)<=P*AB (u.drop m):=Nat.mul_le_mul_left _ (by omega);have o:P*N*2147483648=P*(2147483648*N):=by grind
 omega
theorem gS {x y:UInt32} (a:u[i+n]? =some x) (h:u[i+n-1]? =some y) (m:1<=n) (f:AB (u.drop (i+n+1))=0):
  AB (u.drop i)=(y.toNat+4294967296*x.toNat)*2^(32*(n-1))+AB ((u.drop i).take (n-1)):=by
 have g:i+n<u.length:=by
  apply Classical.byContradiction;intro j;rw[List.getElem?_eq_none (by omega)] at a;exact absurd a (by simp)
 have c:=Es (u.drop i) (n-1) (by rw[List.length_drop];omega);rw[List.drop_drop,show i+(n-1)=i+n-1 by omega,DE h,show i+n-1+1=i+n by omega,DE a,f] at c;rw[c]
 generalize 2^(32*(n-1))=P
 grind
theorem gP {top high P c a:Nat} (hR:R=top*P+c) (hV:V=high*P+a) (f:a<P) (h:R<4294967296*V):top<4294967296*(high+1):=by
 apply Classical.byContradiction;intro m;have g:4294967296*(high+1)*P<=top*P:=Nat.mul_le_mul_right _ (by omega);have j:4294967296*(high+1)*P=4294967296*(high*P)+4294967296*P:=by grind
 omega
theorem SZ {a r:Nat} (g:A=a*2^s) (hV:V=b*2^s) (h:A=r+q*V) (C:r<V) (hb:0<b):q=a/b/\r/2^s=a%b:=by
 have j:=Nat.two_pow_pos s;have w:=Nat.div_add_mod a b;have B:=Nat.mod_lt a hb
 have e:a*2^s=(a%b)*2^s+(a/b)*V:=by rw[hV];conv=>lhs;rw[<-w]
                                    grind
 have f:(a%b)*2^s<V:=by rw[hV];exact (Nat.mul_lt_mul_right j).2 B
 have c:0<V:=by omega
 have m:q=a/b:=by
  have o:A/V=q:=by rw[h,Nat.add_mul_div_right _ _ c,Nat.div_eq_of_lt C,Nat.zero_add]
  have v:A/V=a/b:=by rw[g,e,Nat.add_mul_div_right _ _ c,Nat.div_eq_of_lt f,Nat.zero_add]
  rw[<-o,v]
 refine⟨m,?_⟩;have:r=(a%b)*2^s:=by rw[g,e,m] at h;omega
 rw[this,Nat.mul_div_cancel _ j]
end Go.Abs
namespace Go.Abs
def Br (x y:Int):Int:=if 0<=y then x/y else (-x)/(-y)
variable {N X:Nat} {b:Bool} {x y:Int}
theorem Ij {a b q r:Int} (hb:0<b) (h:a=b*q+r) (c:0<=r) (f:r<b):a/b=q:=((Int.ediv_emod_unique hb).2 ⟨by omega,c,f⟩).1
theorem SV (j:y≠0) (c:decide (x<0)=decide (y<0)):Br x y=((x.natAbs/y.natAbs:Nat):Int):=by
 have f:=Nat.div_add_mod x.natAbs y.natAbs;have hm:=Nat.mod_lt x.natAbs (by omega:0<y.natAbs)
 generalize x.natAbs/y.natAbs=q at*
 generalize x.natAbs%y.natAbs=r at*
 have a:(y.natAbs:Int)*q+r=x.natAbs:=by rw[<-f];simp
 unfold Br
 by_cases h:0<=y
 ·rw[if_pos h]
  have:¬x<0:=by intro g;have:y<0:=by simpa [g] using c
                omega
  rw[show (y.natAbs:Int)=y by omega,show (x.natAbs:Int)=x by omega] at a;exact Ij (r:=r) (by omega) a.symm (by omega) (by omega)
 rw[if_neg h]
 have:x<0:=by have:y<0:=by omega
              simpa [this] using c
 rw[show (y.natAbs:Int)= -y by omega,show (x.natAbs:Int)= -x by omega] at a;exact Ij (r:=r) (by omega) a.symm (by omega) (by omega)
theorem SQ (m:y≠0) (g:decide (x<0)≠decide (y<0)) (j:x.natAbs%y.natAbs=0):Br x y= -((x.natAbs/y.natAbs:Nat):Int):=by
 have f:=Nat.div_add_mod x.natAbs y.natAbs;rw[j] at f
 generalize x.natAbs/y.natAbs=q at*
 have a:(y.natAbs:Int)*q=x.natAbs:=by rw[<-f];simp
 unfold Br
 by_cases h:0<=y
 ·rw[if_pos h]
  have c:x<0:=by
   apply Classical.byContradiction;intro c;exact g (by rw[decide_eq_false c,decide_eq_false (by omega)])
  rw[show (y.natAbs:Int)=y by omega,show (x.natAbs:Int)= -x by omega] at a;exact Ij (r:=0) (by omega) (by rw[Int.mul_neg,a];omega) (by omega) (by omega)
 rw[if_neg h]
 have c:¬x<0:=by
  intro c;exact g (by rw[decide_eq_true c,decide_eq_true (by omega)])
 rw[show (y.natAbs:Int)= -y by omega,show (x.natAbs:Int)=x by omega] at a;exact Ij (r:=0) (by omega) (by rw[Int.mul_neg,a];omega) (by omega) (by omega)
theorem SR (m:y≠0) (f:decide (x<0)≠decide (y<0)) (j:x.natAbs%y.natAbs≠0):Br x y= -((x.natAbs/y.natAbs+1:Nat):Int):=by
 have g:=Nat.div_add_mod x.natAbs y.natAbs;have hm:=Nat.mod_lt x.natAbs (by omega:0<y.natAbs)
 generalize x.natAbs/y.natAbs=q at*
 generalize x.natAbs%y.natAbs=r at*
 have a:(y.natAbs:Int)*q+r=x.natAbs:=by rw[<-g];simp
 unfold Br
 by_cases h:0<=y
 ·rw[if_pos h]
  have c:x<0:=by
   apply Classical.byContradiction;intro c;exact f (by rw[decide_eq_false c,decide_eq_false (by omega)])
  rw[show (y.natAbs:Int)=y by omega,show (x.natAbs:Int)= -x by omega] at a;refine Ij (r:=y-r) (by omega) ?_ (by omega) (by omega);rw[Int.natCast_add,Int.mul_neg,Int.mul_add];omega
 rw[if_neg h]
 have c:¬x<0:=by
  intro c;exact f (by rw[decide_eq_true c,decide_eq_true (by omega)])
 rw[show (y.natAbs:Int)= -y by omega,show (x.natAbs:Int)=x by omega] at a;refine Ij (r:= -y-r) (by omega) ?_ (by omega) (by omega);rw[Int.natCast_add,Int.mul_neg,Int.mul_add];omega
def Fh (x y:Int):Int:=x-y*Br x y
theorem Oi:(y.natAbs:Int)*((x.natAbs/y.natAbs:Nat):Int)+((x.natAbs%y.natAbs:Nat):Int)=x.natAbs:=by
 rw[<-Int.natCast_mul,<-Int.natCast_add,Nat.div_add_mod]
theorem bm (hb:b=decide (y<0)) (g:y≠0) (a:decide (x<0)=decide (y<0)):Fh x y=if b=true then -((x.natAbs%y.natAbs:Nat):Int) else ((x.natAbs%y.natAbs:Nat):Int):=by
 have f:= @Oi x y;unfold Fh;rw[SV g a]
 generalize x.natAbs/y.natAbs=q at*
 generalize x.natAbs%y.natAbs=r at*
 by_cases h:y<0
 ·have c:x<0:=by simpa [h] using a
  rw[hb,decide_eq_true h,if_pos rfl];rw[show (y.natAbs:Int)= -y by omega,show (x.natAbs:Int)= -x by omega,Int.neg_mul] at f;omega
 have c:¬x<0:=by intro c;simp[c,h] at a
 rw[hb,decide_eq_false h,if_neg (by simp)];rw[show (y.natAbs:Int)=y by omega,show (x.natAbs:Int)=x by omega] at f;omega
theorem bh (j:y≠0) (f:decide (x<0)≠decide (y<0)) (g:x.natAbs%y.natAbs=0):Fh x y=if b=true then -((x.natAbs%y.natAbs:Nat):Int) else ((x.natAbs%y.natAbs:Nat):Int):=by
 have c:= @Oi x y;unfold Fh;rw[SQ j f g];rw[g] at c ⊢
 generalize x.natAbs/y.natAbs=q at*
 have e:x-y* -(q:Int)=0:=by
  by_cases h:y<0
  ·have a:¬x<0:=by intro a;exact f (by rw[decide_eq_true a,decide_eq_true h])
   rw[show (y.natAbs:Int)= -y by omega,show (x.natAbs:Int)=x by omega,Int.neg_mul] at c;rw[Int.mul_neg];omega
  have a:x<0:=by apply Classical.byContradiction;intro a;exact f (by rw[decide_eq_false a,decide_eq_false h])
  rw[show (y.natAbs:Int)=y by omega,show (x.natAbs:Int)= -x by omega] at c;rw[Int.mul_neg];omega
 rw[e];cases b <;> rfl
theorem bj (hb:b=decide (y<0)) (j:y≠0) (c:decide (x<0)≠decide (y<0)) (g:x.natAbs%y.natAbs≠0):
  Fh x y=if b=true then -((y.natAbs-x.natAbs%y.natAbs:Nat):Int) else ((y.natAbs-x.natAbs%y.natAbs:Nat):Int):=by
 have f:= @Oi x y;have hm:=Nat.mod_lt x.natAbs (by omega:0<y.natAbs);unfold Fh;rw[SR j c g]
 generalize x.natAbs/y.natAbs=q at*
 generalize x.natAbs%y.natAbs=r at*
 rw[Int.natCast_add,Int.mul_neg,Int.mul_add]
 by_cases h:y<0
 ·have a:¬x<0:=by intro a;exact c (by rw[decide_eq_true a,decide_eq_true h])
  rw[hb,decide_eq_true h,if_pos rfl];rw[show (y.natAbs:Int)= -y by omega,show (x.natAbs:Int)=x by omega,Int.neg_mul] at f;omega
 have a:x<0:=by apply Classical.byContradiction;intro a;exact c (by rw[decide_eq_false a,decide_eq_false h])
 rw[hb,decide_eq_false h,if_neg (by simp)];rw[show (y.natAbs:Int)=y by omega,show (x.natAbs:Int)= -x by omega] at f;omega
theorem WB (v:BN N<=X) (a:0<X):BN N<=(X+N/X)/2:=by
 have h:=J6 N
 generalize BN N=s at*
 have j:X*(N/X)+N%X=N:=Nat.div_add_mod N X;have h3:=Nat.mod_lt N a
 generalize N/X=q at*
 rw[Nat.le_div_iff_mul_le (by decide)];apply Classical.byContradiction;intro w;have m:X+q+1<=2*s:=by omega
 obtain⟨d,rfl⟩:∃d,X=s+d:=⟨X-s,by omega⟩
 have c:q+1<=s-d:=by omega
 have f:(s+d)*(q+1)<=(s+d)*(s-d):=Nat.mul_le_mul_left _ c
 have o:(s+d)*(s-d)<=s*s:=by
  by_cases g:d<=s
  ·obtain⟨e,rfl⟩:∃e,s=e+d:=⟨s-d,by omega⟩
   have:(e+d)*(e+d)=(e+d+d)*e+d*d:=by grind
   rw[Nat.add_sub_cancel];omega
  rw[show s-d=0 by omega];simp
 rw[Nat.mul_add] at f;omega
theorem fw (j:BN N<=X) (a:0<X) (h:X<=(X+N/X)/2):BN N=X:=by
 have c:X<=N/X:=by omega
 have f:X*X<=N:=by
  have:=(Nat.le_div_iff_mul_le a).1 c;exact this
 have h3:=MC N;have g:X<BN N+1:=Nat.mul_self_lt_mul_self_iff.1 (by omega);omega
theorem fy (h:N≠0):BN N<=2^((Nat.log2 N+1)/2+1):=by
 apply Classical.byContradiction;intro g;have a:=J6 N;have c:N<2^(Nat.log2 N+1):=(Nat.log2_lt h).1 (Nat.lt_succ_self _);have h3:2^((Nat.log2 N+1)/2+1)*2^((Nat.log2 N+1)/2+1)<=BN N*BN N:=Nat.mul_le_mul (by omega) (by omega);rw[<-Nat.pow_add] at h3;have f:2^(Nat.log2 N+1)<=2^((Nat.log2 N+1)/2+1+((Nat.log2 N+1)/2+1)):=Nat.pow_le_pow_right (by decide) (by omega);omega
end Go.Abs
namespace Go.Abs
structure BM (q:Rat) (b1:Bool) (l1:List UInt32) (b2:Bool) (l2:List UInt32):Prop where
 num:Ag q.num b1 l1
 den:Ag (q.den:Int) b2 l2
variable {b' RX b1 b2:Bool} {d y z:Int} {k:Nat} {l l' L2 l1 l2:List UInt32}
theorem Bb (q:Rat):∃b1 l1 b2 l2,BM q b1 l1 b2 l2:=⟨_,_,_,_,⟨rfl,rfl⟩,⟨rfl,rfl⟩⟩
theorem BM.uniq {p q:Rat} {c1 c2:Bool} {m1 m2:List UInt32} (h:BM p b1 l1 b2 l2) (h':BM q c1 m1 c2 m2) (e:p=q):(b1=c1/\l1=m1)/\(b2=c2/\l2=m2):=by
 subst e;exact⟨h.num.uniq h'.num rfl,h.den.uniq h'.den rfl⟩
structure Bj (q:Rat):Prop where
 num:(AR q.num.natAbs).length<=4000000000000
 den:(AR q.den).length<=4000000000000
theorem BM.small {q:Rat} (h:BM q b1 l1 b2 l2) (s:Bj q):l1.length<=4000000000000/\l2.length<=4000000000000:=by
 rw[h.num.BI,h.den.BI];exact⟨s.num,by simpa using s.den⟩
theorem SU (x:Int):Br x 1=x:=by unfold Br;simp
theorem MA {n:Int} (f:d≠0):(Rat.divInt n d).num=Br n (if d<0 then -((Nat.gcd n.natAbs d.natAbs:Nat):Int) else ((Nat.gcd n.natAbs d.natAbs:Nat):Int)):=by
 rw[Rat.num_divInt];have c:Int.gcd d n=Nat.gcd n.natAbs d.natAbs:=by rw[Int.gcd_comm];rfl
 have a:0<Nat.gcd n.natAbs d.natAbs:=Nat.gcd_pos_of_pos_right _ (by omega);rw[c];unfold Br
 by_cases h:d<0
 ·rw[if_pos h,if_neg (by omega),Int.sign_eq_neg_one_of_neg h,Int.neg_neg,Int.neg_one_mul]
 rw[if_neg h,if_pos (by omega),Int.sign_eq_one_of_pos (by omega),Int.one_mul]
theorem L8 {n:Int} (c:d≠0):((Rat.divInt n d).den:Int)=Br d (if d<0 then -((Nat.gcd n.natAbs d.natAbs:Nat):Int) else ((Nat.gcd n.natAbs d.natAbs:Nat):Int)):=by
 rw[Rat.den_divInt,if_neg c];have f:Int.gcd d n=Nat.gcd n.natAbs d.natAbs:=by rw[Int.gcd_comm];rfl
 have a:0<Nat.gcd n.natAbs d.natAbs:=Nat.gcd_pos_of_pos_right _ (by omega);rw[f,Int.natCast_ediv];unfold Br
 by_cases h:d<0
 ·rw[if_pos h,if_neg (by omega),Int.neg_neg,show (d.natAbs:Int)= -d by omega]
 rw[if_neg h,if_pos (by omega),show (d.natAbs:Int)=d by omega]
theorem bJ:AR 1=[1]:=by decide +kernel
theorem O0 {x:Int} {b:Bool} (h:Ag x b l) (e:b=true):false=decide (x=1):=by
 have:=h.neg;rw[e] at this;have a:x<0:=by simpa using this.symm
 simp;omega
theorem UR {x:Int} {b:Bool} (h:Ag x b l) (e:¬l.length=1):false=decide (x=1):=by
 have a:x≠1:=by
  intro c;subst c;apply e;rw[h.BI];exact congrArg List.length bJ
 simp[a]
theorem O3 {x:Int} {b:Bool} {w:UInt32} (h:Ag x b l) (hb:b=false) (e:l.length=1) (hw:l[0]? =some w):decide (w.toNat=1)=decide (x=1):=by
 have g:l=[w]:=by
  match l,e,hw with
  | [a],_,hw=>simp at hw;rw[hw]
 have c:=h.nat;rw[g] at c;have f:AB [w]=w.toNat:=by simp[AB]
 rw[f] at c;have h3:=h.neg;rw[hb] at h3;have j:¬x<0:=by simpa using h3.symm
 rw[Bool.eq_iff_iff];simp;omega
theorem MD (n:Nat):n<2^(32*(AR n).length):=by
 have h:=CL (AR n);rwa [BB] at h
theorem bI (a b:Nat):(AR (a*b)).length<=(AR a).length+(AR b).length:=by
 apply E2;rw[Nat.mul_add,Nat.pow_add];exact Nat.mul_lt_mul_of_lt_of_le (MD a) (Nat.le_of_lt (MD b)) (Nat.pow_pos (by decide))
theorem bH {a b:Nat} (ha:(AR a).length<=k) (hb:(AR b).length<=k):(AR (a+b)).length<=k+1:=by
 apply E2;have c:=Nat.lt_of_lt_of_le (MD a) (Nat.pow_le_pow_right (n:=2) (by decide) (Nat.mul_le_mul_left 32 ha));have f:=Nat.lt_of_lt_of_le (MD b) (Nat.pow_le_pow_right (n:=2) (by decide) (Nat.mul_le_mul_left 32 hb));rw[Nat.mul_add,Nat.pow_add];have h3:2^(32*k)*2<=2^(32*k)*2^(32*1):=Nat.mul_le_mul_left _ (by decide);omega
theorem Ag.C0 {x:Int} {b:Bool} (h:Ag x b l) (h':Ag y b' l') (a:Ag z RX L2) (e:z=x*y):L2.length<=l.length+l'.length:=by
 rw[h.BI,h'.BI,a.BI,e,Int.natAbs_mul];exact bI _ _
theorem Ag.LF {x:Int} {b:Bool} (h:Ag x b l) (h':Ag y b' l') (c:Ag z RX L2) (e:z=x+y) (f:l.length<=k) (a:l'.length<=k):L2.length<=k+1:=by
 rw[h.BI] at f;rw[h'.BI] at a;rw[c.BI,e];exact Nat.le_trans (DW (Int.natAbs_add_le x y)) (bH f a)
theorem FW (q:Rat):(q.den:Int)≠0:=by have:=q.den_nz;omega
theorem NZ (p q:Rat):p+q=Rat.divInt (p.num*q.den+q.num*p.den) ((p.den:Int)*q.den):=by
 have h:=Rat.divInt_add_divInt p.num q.num (FW p) (FW q);rwa [Rat.num_divInt_den,Rat.num_divInt_den] at h
theorem MI (p q:Rat):p*q=Rat.divInt (p.num*q.num) ((p.den:Int)*q.den):=by
 have h:=Rat.divInt_mul_divInt p.num q.num (d₁:=p.den) (d₂:=q.den);rwa [Rat.num_divInt_den,Rat.num_divInt_den] at h
theorem Zj (p q:Rat):p/q=Rat.divInt (p.num*q.den) ((p.den:Int)*q.num):=by
 have h:=Rat.divInt_mul_divInt p.num q.den (d₁:=p.den) (d₂:=q.num);rw[<-Rat.inv_divInt q.num q.den,Rat.num_divInt_den,Rat.num_divInt_den] at h;rw[Rat.div_def,h]
theorem SW (x:Int):Rat.divInt x 1=(x:Rat):=Rat.num_divInt_den (x:Rat)
theorem SY (x:Int):(Rat.divInt x 1).num=x:=by rw[SW];rfl
theorem SX (x:Int):(Rat.divInt x 1).den=1:=by rw[SW];rfl
theorem G1 {p q:Rat} (a:(p.den:Int)=1) (c:(q.den:Int)=1):(p+q).num=p.num+q.num/\(p+q).den=1:=by
 rw[NZ,a,c];simp only[Int.mul_one];exact⟨SY _,SX _⟩
theorem mul_ones {p q:Rat} (a:(p.den:Int)=1) (c:(q.den:Int)=1):(p*q).num=p.num*q.num/\(p*q).den=1:=by
 rw[MI,a,c];simp only[Int.mul_one];exact⟨SY _,SX _⟩
theorem Vz (r:Rat):(r*r).num=r.num*r.num/\(r*r).den=r.den*r.den:=by
 have a:(r.num*r.num).natAbs.Coprime (r.den*r.den):=by
  rw[Int.natAbs_mul];have h:=r.reduced;exact Nat.Coprime.mul_right (Nat.Coprime.mul_left h h) (Nat.Coprime.mul_left h h)
 have c:r.den*r.den≠0:=Nat.mul_ne_zero r.den_nz r.den_nz;have h:=Rat.num_divInt_den (⟨r.num*r.num,r.den*r.den,c,a⟩:Rat);have f:=MI r r
 have h3:(⟨r.num*r.num,r.den*r.den,c,a⟩:Rat)=r*r:=by
  rw[f,<-h];exact congrArg _ (Int.natCast_mul _ _)
 rw[<-h3];exact⟨rfl,rfl⟩
theorem TK (n:Nat):BN (n*n)=n:=TL (Nat.le_refl _) (by rw[Nat.add_mul,Nat.mul_add];omega)
theorem WA {r q:Rat} (c:0<=r) (h:r*r=q):((BN q.num.toNat:Nat):Int)=r.num/\r.num*r.num=q.num:=by
 have a:=(Vz r).1;rw[h] at a;have g:0<=r.num:=Rat.num_nonneg.2 c;refine⟨?_,a.symm⟩;obtain⟨k,f⟩:=Int.eq_ofNat_of_zero_le g;rw[a,f];rw[show ((k:Int)*k).toNat=k*k by rw[<-Int.natCast_mul];rfl,TK]
theorem V9 {r q:Rat} (c:0<=r) (h:r*r=q):((BN (q.den:Int).toNat:Nat):Int)=(r.den:Int)/\(r.den:Int)*r.den=(q.den:Int):=by
 have a:=(Vz r).2;rw[h] at a;refine⟨?_,by rw[a];exact (Int.natCast_mul _ _).symm⟩;rw[a,Int.toNat_natCast,TK]
theorem V8 {q:Rat} (c:((BN q.num.toNat:Nat):Int)*((BN q.num.toNat:Nat):Int)=q.num) (a:((BN (q.den:Int).toNat:Nat):Int)*((BN (q.den:Int).toNat:Nat):Int)=(q.den:Int)):∃r:Rat,0<=r/\r*r=q:=by
 refine⟨Rat.divInt ((BN q.num.toNat:Nat):Int) ((BN (q.den:Int).toNat:Nat):Int),?_,?_⟩
 ·exact Rat.divInt_nonneg (Int.natCast_nonneg _) (Int.natCast_nonneg _)
 rw[Rat.divInt_mul_divInt,c,a,Rat.num_divInt_den]
def GP (b1:Bool) (l1:List UInt32) (b2:Bool) (l2:List UInt32):Bool:=Fw b1 l1&&(Fw b2 l2&&(!b2&&(decide (l2≠[])&&decide (Nat.gcd (AB l1) (AB l2)=1))))
theorem P6:GP b1 l1 b2 l2=true↔∃q,BM q b1 l1 b2 l2:=by
 unfold GP;simp only[Bool.and_eq_true,Bool.not_eq_true',decide_eq_true_eq]
 constructor
 ·rintro⟨j,m,h3,o,c⟩
  obtain⟨x,g⟩:=JS.1 j;obtain⟨y,a⟩:=JS.1 m;have v:y≠0:=fun e=>o (a.nil.2 e)
  have f:=a.neg;rw[h3] at f;have w:¬y<0:=by simpa using f.symm
  rw[g.nat,a.nat] at c;refine⟨⟨x,y.natAbs,by omega,c⟩,g,?_⟩
  show Ag ((y.natAbs:Nat):Int) b2 l2
  rw[show ((y.natAbs:Nat):Int)=y by omega];exact a
 rintro⟨q,h⟩
 refine⟨JS.2 ⟨_,h.num⟩,JS.2 ⟨_,h.den⟩,?_,fun e=>q.den_nz (by have:=h.den.nil.1 e;omega),?_⟩
 ·rw[h.den.neg];simp
 rw[h.num.nat,h.den.nat,Int.natAbs_natCast];exact q.reduced
def Dk (q:Rat):Int:=Bu q.num
def FG (p q:Rat):Int:=if p<q then -1 else if q<p then 1 else 0
end Go.Abs
namespace Go.Abs
open Go.RowKit
def rp (q:Rat):el AA:=((decide (q.num<0),AR q.num.natAbs),(decide ((q.den:Int)<0),AR q.den))
theorem E1 (q:Rat):BM q (rp q).1.1 (rp q).1.2 (rp q).2.1 (rp q).2.2:=⟨⟨rfl,rfl⟩,⟨rfl,rfl⟩⟩
theorem BM.rp {q:Rat} {b1 b2:Bool} {l1 l2:List UInt32} (h:BM q b1 l1 b2 l2):rp q=((b1,l1),(b2,l2)):=by
 have u:=h.uniq (E1 q) rfl;rw[u.1.1,u.1.2,u.2.1,u.2.2]
abbrev Ao (X:List Rat):List (el AA):=X.map rp
def DL (X:List Rat):Prop:=∀q∈X,Bj q
structure Kz (ts:List (List Rat)):Prop where
 small:∀x∈ts,DL x
 OM:ts.length<=16
 form:∀i x,ts[i]? =some x->x.length=2^i
end Go.Abs
namespace Go.Abs
open Go.RowKit
noncomputable def em (u:List (List Rat)) (x:Re):List (el AA):=Ao (co u x)
def tw (u:List (List Rat)):List (List (el AA)):=u.reverse.map Ao
structure Al (R:Nat) (u:List (List Rat)):Prop where
 red:Ab u
 tb:TB R u
 hR:R<=60000000000000
 ht:u.length<=16
structure El (u:List (List Rat)) (s:Nat) (x:Re):Prop where
 mem:In u x
 bd:Bd s (co u x)
variable {R k n s t:Nat} {p x y:Re}
theorem TU (h:n<=2^(2*k)) (c:k<=60000000000000):(AR n).length<=4000000000000:=by
 obtain⟨m,hm⟩:=xN 3999999999999;have a:n<2^(32*m):=Nat.lt_of_le_of_lt h (Nat.pow_lt_pow_right (by decide) (by omega));have:=E2 a;omega
theorem Zf {q:Rat} {D:Nat} {n:Int} (h:q*D=n) (g:0<D):q.den<=D:=by
 have a:=JD q
 have c:((q.num*D:Int):Rat)=((n*q.den:Int):Rat):=by
  rw[Rat.intCast_mul,Rat.intCast_mul,<-h,<-a];have j:((D:Int):Rat)=(D:Rat):=rfl;have m:((q.den:Int):Rat)=(q.den:Rat):=rfl
  grind
 have h3:q.num*D=n*q.den:=Rat.intCast_inj.1 c
 have f:q.den∣q.num.natAbs*D:=by
  refine⟨n.natAbs,?_⟩;have:=congrArg Int.natAbs h3;rw[Int.natAbs_mul,Int.natAbs_mul,Int.natAbs_natCast,Int.natAbs_natCast] at this;rw[this,Nat.mul_comm]
 exact Nat.le_of_dvd g ((Nat.Coprime.symm q.reduced).dvd_of_dvd_mul_left f)
theorem Bd.Bh {a:List Rat} (h:Bd k a) (j:k<=60000000000000):DL a:=by
 obtain⟨D,v,w,B,h3⟩:=h;intro q m;obtain⟨n,F⟩:=B q m;have g:q.den<=2^k:=Nat.le_trans (Zf F v) w;have hb:=h3 q m
 have c:q.num.natAbs<=2^(2*k):=by
  have f:=Oh (C:=q.den) hb (q:=(q.den:Rat)) ⟨by have:(0:Rat)<=q.den:=Rat.natCast_nonneg;grind,by grind⟩;rw[JD] at f
  have o:q.num.natAbs<=2^k*q.den:=by
   have G: -((2^k*q.den:Nat):Int)<=q.num:=by
    apply Rat.intCast_le_intCast.1;rw[Rat.intCast_neg];exact f.1
   have H:q.num<=((2^k*q.den:Nat):Int):=Rat.intCast_le_intCast.1 f.2;omega
  have:=Nat.mul_le_mul_left (2^k) g;rw[<-Nat.pow_add] at this;exact Nat.le_trans o (Nat.le_trans this (CX (by omega)))
 exact⟨TU c j,TU (Nat.le_trans g (CX (by omega))) j⟩
theorem El.Bh {u:List (List Rat)} (h:El u s x) (a:s<=60000000000000):DL (co u x):=h.bd.Bh a
theorem El.len {u:List (List Rat)} (h:El u s x):(co u x).length=2^u.length:=CQ h.mem
theorem BL {u:List (List Rat)} (h:In u x):(em u x).length=2^u.length:=by rw[em,List.length_map,CQ h]
theorem BU (u:List (List Rat)):(tw u).length=u.length:=by rw[tw,List.length_map,List.length_reverse]
theorem Cq (h:n<=16):2^n<=65536:=Nat.le_trans (CX h) (by decide)
theorem Km (r:List Rat) (u:List (List Rat)):tw (r::u)=tw u++[Ao r]:=by rw[tw,List.reverse_cons,List.map_append];rfl
theorem DA (r:List Rat) (u:List (List Rat)):(tw (r::u)).take ((tw (r::u)).length-1)=tw u:=by
 rw[Km,List.length_append,BU];simp[List.take_left' (BU u)]
theorem ES (r:List Rat) (u:List (List Rat)):(tw (r::u))[(tw (r::u)).length-1]? =some (Ao r):=by
 rw[Km,List.length_append,BU];simp[List.getElem?_append_right (Nat.le_of_eq (BU u))];rw[BU,Nat.sub_self];rfl
theorem DU {r:List Rat} {u:List (List Rat)} (h:Ab (r::u)):Ao r=em u (AN u r):=by rw[em,Ez h]
theorem B9 {u:List (List Rat)} {r:List Rat} {q:Re} (h:Ab (r::u)) (c:In u p) (f:In u q) (g:x=p+q*rt u r):(em (r::u) x).take ((em (r::u) x).length/2)=em u p:=by
 have a:In (r::u) x:=CM.2 ⟨p,q,c,f,g⟩;rw[BL a,Bc,show (2^u.length+2^u.length)/2=2^u.length by omega,em,em,Ao,Ao,<-List.map_take,Zb h c f g]
theorem Bo {u:List (List Rat)} {r:List Rat} {q:Re} (h:Ab (r::u)) (c:In u p) (f:In u q) (g:x=p+q*rt u r):(em (r::u) x).drop ((em (r::u) x).length/2)=em u q:=by
 have a:In (r::u) x:=CM.2 ⟨p,q,c,f,g⟩;rw[BL a,Bc,show (2^u.length+2^u.length)/2=2^u.length by omega,em,em,Ao,Ao,<-List.map_drop,Za h c f g]
theorem EA {u:List (List Rat)} {r:List Rat} {q:Re} (h:Ab (r::u)) (a:In u p) (c:In u q) (f:x=p+q*rt u r):em (r::u) x=em u p++em u q:=by
 rw[em,Cr h a c f,Ao,List.map_append];rfl
theorem Se {u:List (List Rat)} (h:Ab u) (a:In u x) (c:In u y):em u (x+y)=Ao (List.zipWith (· + ·) (co u x) (co u y)):=by rw[em,Jt h a c]
theorem Sf {u:List (List Rat)} (h:Ab u) (a:In u x):em u (-x)=Ao ((co u x).map (- ·)):=by rw[em,Jv h a]
theorem DT (q:Rat):em [] (Re.ofRat q)=[rp q]:=by rw[em,Co];rfl
theorem N9 {u:List (List Rat)} (h:Ab u):em u 0=Ao (List.replicate (2^u.length) 0):=by rw[em,N3 h]
theorem Al.tail {r:List Rat} {u:List (List Rat)} (h:Al R (r::u)):Al R u:=⟨h.red.1,h.tb.tail,h.hR,by have:=h.ht;rw[List.length_cons] at this;omega⟩
theorem Gd {α:Type} {l:List α} {i:Nat} {x:α} (h:l[i]? =some x):i<l.length:=by
 apply Classical.byContradiction;intro a;rw[List.getElem?_eq_none (by omega)] at h;exact absurd h (by simp)
theorem JE:∀{u:List (List Rat)},Ab u->∀(i:Nat) (x:List Rat),u.reverse[i]? =some x->x.length=2^i
 | [],_,i,x,h=>by simp at h
 | r::u,a,i,x,h=>by
  rw[List.reverse_cons] at h
  by_cases f:i<u.length
  ·rw[List.getElem?_append_left (by rw[List.length_reverse];exact f)] at h;exact JE a.1 i x h
  rw[List.getElem?_append_right (by rw[List.length_reverse];omega),List.length_reverse] at h
  have c:i-u.length=0:=by
   have:=Gd h;simp at this;omega
  rw[c] at h;have:r=x:=by simpa using h
  rw[<-this,a.2.1]
  congr 1;omega
theorem Al.FA {u:List (List Rat)} (h:Al R u):Kz u.reverse:=
 ⟨fun x a=>(h.tb x (List.mem_reverse.1 a)).Bh h.hR,by rw[List.length_reverse];exact h.ht,JE h.red⟩
theorem El.Ca {r:List Rat} {u:List (List Rat)} (h:Al R (r::u)):El u R (AN u r):=⟨CG h.red,Nk h.red h.tb⟩
theorem El.parts {u:List (List Rat)} {r:List Rat} (h:Ab (r::u)) (f:El (r::u) s x):∃p q,x=p+q*rt u r/\El u s p/\El u s q:=by
 obtain⟨p,q,a,c,rfl⟩:=CM.1 f.mem;have:=Rc h a c f.bd;exact⟨p,q,rfl,⟨a,this.1⟩,⟨c,this.2⟩⟩
theorem El.mono {u:List (List Rat)} (h:El u s x) (a:s<=t):El u t x:=⟨h.mem,h.bd.mono a⟩
theorem El.add {u:List (List Rat)} (h:Ab u) (a:El u s x) (c:El u t y):El u (s+t+1) (x+y):=⟨Cp a.mem c.mem,RZ h a.mem c.mem a.bd c.bd⟩
theorem El.sub {u:List (List Rat)} (h:Ab u) (a:El u s x) (c:El u t y):El u (s+t+1) (x-y):=⟨EG a.mem c.mem,Y9 h a.mem c.mem a.bd c.bd⟩
theorem El.neg {u:List (List Rat)} (h:Ab u) (a:El u s x):El u s (-x):=⟨Fc a.mem,Rd h a.mem a.bd⟩
theorem El.mul {u:List (List Rat)} (h:Al R u) (a:El u s x) (c:El u t y):El u (s+t+EE u.length R) (x*y):=⟨Ar h.red a.mem c.mem,Y7 h.red h.tb a.mem c.mem a.bd c.bd⟩
theorem El.norm {u:List (List Rat)} {r:List Rat} {q:Re} (h:Al R (r::u)) (a:In u p) (c:In u q) (f:El (r::u) s (p+q*rt u r)):El u (2*s+2*EE u.length R+R+1) (p*p-q*q*AN u r):=
 ⟨EG (Ar h.red.1 a a) (Ar h.red.1 (Ar h.red.1 c c) (CG h.red)),Rg h.red h.tb a c f.bd⟩
theorem El.inv {u:List (List Rat)} (h:Al R u) (a:El u s x) (c:In u y) (e:x*y=1):El u (II u.length R s) y:=⟨c,LM h.red h.tb a.mem c e a.bd⟩
theorem El.sqrt {u:List (List Rat)} {w:Re} (h:Al R u) (a:El u s x) (hw:In u w) (e:w*w=x):El u (s+GG u.length R) w:=⟨hw,Ri h.red h.tb hw e a.bd⟩
theorem El.rat {u:List (List Rat)} {q:Rat} (h:Ab u) (a:Bd s [q]):El u s (Re.ofRat q):=⟨Ds q u,Y8 h a⟩
theorem Dn:∀(h R s:Nat),2*s<=II h R s
 | 0,_,_=>Nat.le_refl _
 | h+1,R,s=>by
  have:=Dn h R (2*s+2*EE h R+R+1);rw[II];omega
theorem UB {u:List (List Rat)} {r:List Rat} {q:Re} (h:Ab (r::u)) (g:In u p) (j:In u q) (c:p+q*rt u r≠0):p*p-q*q*AN u r≠0:=by
 intro m;have w:=CO h;have f:(p+q*rt u r)*(p-q*rt u r)=0:=by grind
 rcases Re.FH f with a | a
 ·exact c a
 obtain⟨o,v⟩:=indep h g (Fc j) (Bp u) (Bp u) (show p+ -q*rt u r=0+0*rt u r by grind);exact c (by grind)
theorem Jl:Bd 1 [(1/2:Rat)]:=by
 refine⟨2,by decide,by decide,fun q a=>⟨1,?_⟩,fun q a=>?_⟩
 ·rw[List.mem_singleton.1 a];decide +kernel
 rw[List.mem_singleton.1 a];decide +kernel
theorem Gb:Bd 0 [(0:Rat)]:=⟨1,by decide,by decide,fun q a=>⟨0,by rw[List.mem_singleton.1 a];decide +kernel⟩,fun q a=>by rw[List.mem_singleton.1 a];decide +kernel⟩
theorem Y5:Bd 0 [(1:Rat)]:=⟨1,by decide,by decide,fun q a=>⟨1,by rw[List.mem_singleton.1 a];decide +kernel⟩,fun q a=>by rw[List.mem_singleton.1 a];decide +kernel⟩
end Go.Abs
