/- Part 18 of a proof. Conditions: each theorem's own. -/
import Derived.Test.YtpccjlcpbehglaaGreatPk16
set_option linter.all false
set_option maxHeartbeats 8000000
namespace Go.Abs
variable {D P R R0 R2 S V V0 V2 high next r top u3:Nat}
theorem seg_ex {u:List UInt32} {off len:Nat} (hs:S<2^(32*len)) (hl:off+len≤u.length):
  ∃z:List UInt32,z.length=u.length∧z.take off=u.take off∧z.drop (off+len)=u.drop (off+len)∧natL ((z.drop off).take len)=S:=by
 obtain⟨y,hy,hS⟩:=pad_ex hs
 have h1:(u.take off).length=off:=by rw[List.length_take];omega
 refine⟨u.take off++(y++u.drop (off+len)),?_,?_,?_,?_⟩
 ·simp;omega
 ·rw[List.take_append_of_le_length (by omega),List.take_of_length_le (by omega)]
 ·rw[←List.drop_drop,List.drop_append_of_le_length (by omega),List.drop_eq_nil_of_le (by omega:(u.take off).length≤off),List.nil_append,List.drop_append_of_le_length (by omega),List.drop_eq_nil_of_le (by omega:y.length≤len),List.nil_append]
 ·rw[List.drop_append_of_le_length (by omega),List.drop_eq_nil_of_le (by omega:(u.take off).length≤off),List.nil_append,List.take_append_of_le_length (by omega),List.take_of_length_le (by omega),hS]
theorem digit_big (hR:R=R2*P+R0) (hR0:R0<P) (hV:V=V2*P+V0) (h:R2<D*V2):R/V<D:=by
 have hP:0<P:=by omega
 have hV2:0<V2:=by
  apply Nat.pos_of_ne_zero;intro e;subst e;simp at h
 apply Nat.div_lt_of_lt_mul
 have h1:(R2+1)*P≤D*V2*P:=Nat.mul_le_mul_right _ h
 have h2:V*D=D*V2*P+V0*D:=by rw[hV];grind
 have h3:(R2+1)*P=R2*P+P:=by grind
 omega
theorem digit_near (hR:R=R2*P+R0) (hV:V=V2*P+V0) (hV0:V0<P) (h:D*V2≤R2) (hD:D≤V2+1):D≤R/V+1:=by
 cases D with
 | zero=>exact Nat.zero_le _
 | succ D=>
  have hVp:0<V∨V=0:=by omega
  rcases hVp with hVp | hVp
  ·have:D≤R/V:=by
    rw[Nat.le_div_iff_mul_le hVp]
    have h1:(D+1)*V2*P≤R2*P:=Nat.mul_le_mul_right _ h
    have h2:D*V=D*V2*P+D*V0:=by rw[hV];grind
    have h3:(D+1)*V2*P=D*V2*P+V2*P:=by grind
    have h4:D*V0≤D*P:=Nat.mul_le_mul_left _ (by omega)
    have h5:D*P≤V2*P:=Nat.mul_le_mul_right _ (by omega)
    omega
   exact Nat.succ_le_succ this
  ·have h0:V2*P=0:=by omega
   have hP:0<P:=by omega
   have:V2=0:=by
    rcases Nat.mul_eq_zero.1 h0 with e | e
    ·exact e
    ·omega
   exact Nat.le_trans (by omega:D+1≤1) (Nat.le_add_left _ _)
structure Guess (R V top high D r:Nat):Prop where
 sum:r+D*high=top
 up:R/V≤D
 most:D≤4294967297
 rest:r<4294967296
theorem guess_start (hR:R=top*P+R0) (hR0:R0<P) (hV:V=high*P+V0) (hh:2147483648≤high) (hh2:high<4294967296) (ht:top<4294967296*(high+1)):Guess R V top high (top/high) (top%high):=by
 have hm:=Nat.div_add_mod top high
 have hlt:=Nat.mod_lt top (by omega:0<high)
 refine⟨by rw[Nat.mul_comm] at hm;omega,?_,?_,by omega⟩
 ·have h1:top<(top/high+1)*high:=by rw[Nat.add_mul,Nat.mul_comm];omega
  exact Nat.le_of_lt_succ (digit_big hR hR0 hV h1)
 ·have h2:top<4294967298*high:=by omega
  have h3:top/high<4294967298:=(Nat.div_lt_iff_lt_mul (by omega)).2 h2
  exact Nat.le_of_lt_succ h3
theorem guess_big (g:Guess R V top high D r) (hq:R/V<4294967296) (h:4294967296≤D):R/V≤D-1:=by
 have:=g.up
 exact Nat.le_sub_one_of_lt (Nat.lt_of_lt_of_le hq h)
theorem guess_next (g:Guess R V top high D r) (hR:R=(4294967296*top+u3)*P+R0) (hR0:R0<P) (hV:V=(4294967296*high+next)*P+V0) (h:4294967296*r+u3<D*next):R/V≤D-1:=by
 have h1:4294967296*top+u3<D*(4294967296*high+next):=by
  have e:=g.sum
  clear g hR hV
  rw[←e]
  have e1:D*(4294967296*high+next)=4294967296*(D*high)+D*next:=by grind
  have e2:4294967296*(r+D*high)=4294967296*r+4294967296*(D*high):=by grind
  rw[e1,e2]
  generalize D*high=Q at*
  generalize D*next=T at*
  omega
 exact Nat.le_sub_one_of_lt (digit_big hR hR0 hV h1)
theorem guess_step (g:Guess R V top high D r) (hq:R/V≤D-1) (hD:0<D) (hr:r+high<4294967296):Guess R V top high (D-1) (r+high):=by
 refine⟨?_,hq,by have:=g.most;omega,hr⟩
 have:=g.sum
 obtain⟨D,rfl⟩:∃k,D=k+1:=⟨D-1,by omega⟩
 simp only[Nat.add_sub_cancel]
 rw[Nat.add_mul] at this
 omega
structure Near (R V D:Nat):Prop where
 up:R/V≤D
 low:D≤R/V+1
 word:D<4294967296
theorem near_done (g:Guess R V top high D r) (hR:R=(4294967296*top+u3)*P+R0) (hV:V=(4294967296*high+next)*P+V0) (hV0:V0<P) (hh:2147483648≤high)
  (hD:D<4294967296) (h:D*next≤4294967296*r+u3):Near R V D:=by
 refine⟨g.up,digit_near hR hV hV0 ?_ (by omega),hD⟩
 have e:=g.sum
 rw[←e]
 have:D*(4294967296*high+next)=4294967296*(D*high)+D*next:=by grind
 have:4294967296*(r+D*high)=4294967296*r+4294967296*(D*high):=by grind
 omega
theorem near_break (g:Guess R V top high D r) (hq:R/V≤D-1) (hD:0<D) (hR:R=(4294967296*top+u3)*P+R0) (hV:V=(4294967296*high+next)*P+V0) (hV0:V0<P) (hh:2147483648≤high) (hn:next<4294967296)
  (ht:top<4294967296*(high+1)) (hr:4294967296≤r+high):Near R V (D-1):=by
 obtain⟨D,rfl⟩:∃k,D=k+1:=⟨D-1,by omega⟩
 simp only[Nat.add_sub_cancel] at hq ⊢
 have e:=g.sum
 have hm:=g.most
 have hs:(r+high)+D*high=top:=by rw[Nat.add_mul] at e;omega
 have hD2:D<4294967296:=by
  apply Classical.byContradiction
  intro hc
  have:4294967296*high≤D*high:=Nat.mul_le_mul_right _ (by omega)
  omega
 refine⟨hq,digit_near hR hV hV0 ?_ (by omega),hD2⟩
 rw[←hs]
 have h1:D*(4294967296*high+next)=4294967296*(D*high)+D*next:=by grind
 have h2:4294967296*(r+high+D*high)=4294967296*(r+high)+4294967296*(D*high):=by grind
 have h3:D*next≤4294967296*4294967296:=Nat.mul_le_mul (by omega) (by omega)
 have h4:4294967296*4294967296≤4294967296*(r+high):=Nat.mul_le_mul_left _ hr
 omega
theorem near_sub {M:Nat} {b:Bool} (hn:Near R V D) (hV:0<V) (h:S+V*D=R+M*b.toNat) (hS:S<M):
  (b=false→D=R/V∧S=R%V)∧(b=true→D-1=R/V∧0<D∧(R%V<M→(S+V)%M=R%V)):=by
 have hd:=Nat.div_add_mod R V
 have hl:=Nat.mod_lt R hV
 obtain⟨h1,h2,_⟩:=hn
 generalize R/V=Q at*
 generalize R%V=T at*
 constructor
 ·rintro rfl
  simp at h
  have hDq:D=Q:=by
   apply Classical.byContradiction
   intro hc
   have:D=Q+1:=by omega
   rw[this,Nat.mul_add] at h
   omega
  exact⟨hDq,by rw[hDq] at h;omega⟩
 ·rintro rfl
  simp at h
  have hDq:D=Q+1:=by
   apply Classical.byContradiction
   intro hc
   have:D=Q:=by omega
   rw[this] at h
   omega
  refine⟨by omega,by omega,fun hM=>?_⟩
  rw[hDq,Nat.mul_add] at h
  have:S+V=T+M*1:=by omega
  rw[this,Nat.add_mul_mod_self_left,Nat.mod_eq_of_lt hM]
end Go.Abs
namespace Go.Abs
variable {A R V b i n q s:Nat} {u:List UInt32}
theorem sub_val_ex {D M:Nat} (hn:Near R V D) (hV:0<V) (hR:R<M) (hVM:V≤M):∃(b:Bool) (S:Nat),S+V*D=R+M*b.toNat∧S<M:=by
 have hd:=Nat.div_add_mod R V
 have h1:V*D≤V*(R/V+1):=Nat.mul_le_mul_left _ hn.low
 rw[Nat.mul_add] at h1
 by_cases h:V*D≤R
 ·exact⟨false,R-V*D,by simp;omega,by omega⟩
 ·refine⟨true,R+M-V*D,?_,by omega⟩
  simp
  generalize V*(R/V)=T at*
  omega
theorem top_words {x y w:UInt32} (hx:u[i+n]? =some x) (hy:u[i+n-1]? =some y) (hw:u[i+n-2]? =some w) (hn:2≤n) (h0:natL (u.drop (i+n+1))=0):
  natL (u.drop i)=(4294967296*(y.toNat+4294967296*x.toNat)+w.toNat)*2^(32*(n-2))+natL ((u.drop i).take (n-2)):=by
 have hlt:i+n<u.length:=by
  apply Classical.byContradiction;intro hc;rw[List.getElem?_eq_none (by omega)] at hx;exact absurd hx (by simp)
 have h1:=natL_take_add_drop (u.drop i) (n-2) (by rw[List.length_drop];omega)
 rw[List.drop_drop,show i+(n-2)=i+n-2 by omega,drop_word hw,show i+n-2+1=i+n-1 by omega,drop_word hy,show i+n-1+1=i+n by omega,drop_word hx,h0] at h1
 rw[h1]
 generalize 2^(32*(n-2))=P
 grind
theorem top_two {v:List UInt32} {y w:UInt32} (hlen:v.length=n) (hy:v[n-1]? =some y) (hw:v[n-2]? =some w) (hn:2≤n):
  natL v=(4294967296*y.toNat+w.toNat)*2^(32*(n-2))+natL (v.take (n-2))∧natL v=y.toNat*2^(32*(n-1))+natL (v.take (n-1)):=by
 have h1:=natL_take_add_drop v (n-2) (by omega)
 rw[drop_word hw,show n-2+1=n-1 by omega,drop_word hy,show n-1+1=n by omega,List.drop_eq_nil_of_le (by omega)] at h1
 have h2:=natL_take_add_drop v (n-1) (by omega)
 rw[drop_word hy,show n-1+1=n by omega,List.drop_eq_nil_of_le (by omega)] at h2
 constructor
 ·rw[h1];simp only[natL];generalize 2^(32*(n-2))=P;grind
 ·rw[h2];simp only[natL];generalize 2^(32*(n-1))=P;grind
theorem take_lt {l:List UInt32}:natL (l.take n)<2^(32*n):=
 Nat.lt_of_lt_of_le (natL_lt _) (Nat.pow_le_pow_right (by decide) (by rw[List.length_take];omega))
theorem high_zero {l:List UInt32} (h:natL l<2^(32*n)) (hn:n≤l.length):natL (l.drop n)=0:=by
 have h1:=natL_take_add_drop l n hn
 apply Classical.byContradiction
 intro hc
 have:2^(32*n)*1≤2^(32*n)*natL (l.drop n):=Nat.mul_le_mul_left _ (by omega)
 omega
theorem round_step {z:List UInt32} {Q:Nat} (hz1:z.length=u.length) (hz2:z.take i=u.take i) (hz3:z.drop (i+(n+1))=u.drop (i+(n+1))) (hlen:i+(n+1)≤u.length) (h0:natL (u.drop (i+n+1))=0)
  (hq:q=natL (u.drop i)/V) (hS:natL ((z.drop i).take (n+1))=natL (u.drop i)%V) (hA:A=natL u+2^(32*(i+1))*Q*V):
  natL (z.drop i)=natL (u.drop i)%V∧A=natL z+2^(32*i)*(q+4294967296*Q)*V:=by
 have h1:natL (z.drop i)=natL (u.drop i)%V:=by
  have:=natL_take_add_drop (z.drop i) (n+1) (by rw[List.length_drop];omega)
  rw[List.drop_drop,hz3,show i+(n+1)=i+n+1 by omega,h0,hS] at this
  simpa using this
 refine⟨h1,?_⟩
 have h2:=natL_take_add_drop u i (by omega)
 have h3:=natL_take_add_drop z i (by omega)
 rw[hz2,h1] at h3
 have hd:=Nat.div_add_mod (natL (u.drop i)) V
 rw[←hq] at hd
 rw[hA,h2,h3,pow32,←hd]
 generalize 2^(32*i)=P
 grind
theorem seg_take (h:i+n≤u.length) (h0:natL (u.drop (i+n))=0):natL ((u.drop i).take n)=natL (u.drop i):=by
 have:=natL_take_add_drop (u.drop i) n (by rw[List.length_drop];omega)
 rw[List.drop_drop,h0] at this
 simpa using this.symm
theorem canon_last {x:UInt32} (hx:(limbs b)[i]? =some x) (hi:i+1=(limbs b).length):x.toNat≠0:=by
 intro h0
 have hb:b≠0:=fun e=>by subst e;simp[limbs_zero] at hi
 have h1:=limbs_top hb
 have h2:=natL_take_succ hx
 rw[hi,List.take_length,natL_limbs,h0] at h2
 have h3:=natL_lt ((limbs b).take i)
 rw[List.length_take,Nat.min_eq_left (by omega)] at h3
 rw[←hi,Nat.add_sub_cancel] at h1
 omega
theorem shift_len {k:Nat} {x:UInt32} (hn:(limbs b).length=n) (h1n:1≤n) (hx:(limbs b)[n-1]? =some x) (h1:2^(k-1)≤x.toNat) (h2:x.toNat<2^k) (hk:1≤k) (hk2:k≤32) (hs:s=32-k):
  (limbs (b*2^s)).length=n∧2147483648*2^(32*(n-1))≤b*2^s:=by
 have e1:2^(k-1)*2^s=2147483648:=by rw[←Nat.pow_add,show k-1+s=31 by omega]
 have e2:2^k*2^s=4294967296:=by rw[←Nat.pow_add,show k+s=32 by omega]
 have h3:=natL_take_succ hx
 rw[show n-1+1=n by omega,←hn,List.take_length,natL_limbs,hn] at h3
 have h4:=natL_lt ((limbs b).take (n-1))
 rw[List.length_take,Nat.min_eq_left (by omega)] at h4
 have hp:2^(32*n)=4294967296*2^(32*(n-1)):=by rw[←pow32,show n-1+1=n by omega]
 generalize hP:2^(32*(n-1))=P at*
 have low:2147483648*P≤b*2^s:=by
  rw[←e1,h3]
  have:2^(k-1)*2^s*P≤x.toNat*2^s*P:=Nat.mul_le_mul_right _ (Nat.mul_le_mul_right _ h1)
  have:(natL (List.take (n-1) (limbs b))+P*x.toNat)*2^s=natL (List.take (n-1) (limbs b))*2^s+x.toNat*2^s*P:=by grind
  omega
 refine⟨?_,low⟩
 have up:b*2^s<2^(32*n):=by
  rw[hp,←e2]
  have h5:b<(x.toNat+1)*P:=by rw[h3,Nat.add_mul,Nat.mul_comm P];omega
  have h6:(x.toNat+1)*P≤2^k*P:=Nat.mul_le_mul_right _ h2
  have h7:b*2^s<2^k*P*2^s:=(Nat.mul_lt_mul_right (Nat.two_pow_pos s)).2 (by omega)
  have:2^k*2^s*P=2^k*P*2^s:=by grind
  omega
 have h8:=limbs_len_le up
 have h9:=le_limbs_len (n:=b*2^s) (k:=n-1) (by rw[hP];omega)
 omega
theorem shl_lt (l:List UInt32) (h:s≤31):natL l*2^s<2^(32*(l.length+1)):=by
 rw[pow32,Nat.mul_comm 4294967296]
 exact Nat.mul_lt_mul_of_lt_of_le (natL_lt l) (Nat.le_trans (Nat.pow_le_pow_right (by decide) h:2^s≤2^31) (by decide)) (by decide)
theorem high_big {hi rest:Nat} (h:2147483648*2^(32*(n-1))≤V) (hV:V=hi*2^(32*(n-1))+rest) (hr:rest<2^(32*(n-1))):2147483648≤hi:=by
 generalize 2^(32*(n-1))=P at*
 apply Classical.byContradiction
 intro hc
 have:(hi+1)*P≤2147483648*P:=Nat.mul_le_mul_right _ (by omega)
 rw[Nat.add_mul] at this
 omega
theorem start_small {l:List UInt32} {m:Nat} (hu:natL u=natL l*2^s) (hs:s≤31) (hlen:u.length=l.length+1) (hm:m+n=l.length+1) (hn:1≤n) (hV:2147483648*2^(32*(n-1))≤V):natL (u.drop m)<V:=by
 have h1:=natL_take_add_drop u m (by omega)
 have h2:=natL_lt l
 have h3:2^(32*l.length)=2^(32*m)*2^(32*(n-1)):=by rw[←Nat.pow_add,show 32*m+32*(n-1)=32*l.length by omega]
 have h4:2^s≤2147483648:=Nat.le_trans (Nat.pow_le_pow_right (by decide) hs:2^s≤2^31) (by decide)
 have h5:natL l*2^s<2^(32*l.length)*2147483648:=Nat.mul_lt_mul_of_lt_of_le h2 h4 (by decide)
 rw[hu,] at h1
 rw[h3] at h5
 have hp:=Nat.two_pow_pos (32*m)
 generalize 2^(32*m)=P at*
 generalize 2^(32*(n-1))=N at*
 apply Classical.byContradiction
 intro hc
 have h6:P*(2147483648*N)≤P*natL (u.drop m):=Nat.mul_le_mul_left _ (by omega)
 have h7:P*N*2147483648=P*(2147483648*N):=by grind
 omega
theorem top_words2 {x y:UInt32} (hx:u[i+n]? =some x) (hy:u[i+n-1]? =some y) (hn:1≤n) (h0:natL (u.drop (i+n+1))=0):
  natL (u.drop i)=(y.toNat+4294967296*x.toNat)*2^(32*(n-1))+natL ((u.drop i).take (n-1)):=by
 have hlt:i+n<u.length:=by
  apply Classical.byContradiction;intro hc;rw[List.getElem?_eq_none (by omega)] at hx;exact absurd hx (by simp)
 have h1:=natL_take_add_drop (u.drop i) (n-1) (by rw[List.length_drop];omega)
 rw[List.drop_drop,show i+(n-1)=i+n-1 by omega,drop_word hy,show i+n-1+1=i+n by omega,drop_word hx,h0] at h1
 rw[h1]
 generalize 2^(32*(n-1))=P
 grind
theorem top_small {top high P R1 V1:Nat} (hR:R=top*P+R1) (hV:V=high*P+V1) (hV1:V1<P) (h:R<4294967296*V):top<4294967296*(high+1):=by
 apply Classical.byContradiction
 intro hc
 have h1:4294967296*(high+1)*P≤top*P:=Nat.mul_le_mul_right _ (by omega)
 have h2:4294967296*(high+1)*P=4294967296*(high*P)+4294967296*P:=by grind
 omega
theorem divide_end {a r:Nat} (hA:A=a*2^s) (hV:V=b*2^s) (h:A=r+q*V) (hr:r<V) (hb:0<b):q=a/b∧r/2^s=a%b:=by
 have hp:=Nat.two_pow_pos s
 have hd:=Nat.div_add_mod a b
 have hl:=Nat.mod_lt a hb
 have e:a*2^s=(a%b)*2^s+(a/b)*V:=by rw[hV];conv=>lhs;rw[←hd]
                                    grind
 have hl2:(a%b)*2^s<V:=by rw[hV];exact (Nat.mul_lt_mul_right hp).2 hl
 have hVp:0<V:=by omega
 have hq:q=a/b:=by
  have h1:A/V=q:=by rw[h,Nat.add_mul_div_right _ _ hVp,Nat.div_eq_of_lt hr,Nat.zero_add]
  have h2:A/V=a/b:=by rw[hA,e,Nat.add_mul_div_right _ _ hVp,Nat.div_eq_of_lt hl2,Nat.zero_add]
  rw[←h1,h2]
 refine⟨hq,?_⟩
 have:r=(a%b)*2^s:=by rw[hA,e,hq] at h;omega
 rw[this,Nat.mul_div_cancel _ hp]
end Go.Abs
namespace Go.Abs
def divI (x y:Int):Int:=if 0≤y then x/y else (-x)/(-y)
variable {N X:Nat} {b:Bool} {x y:Int}
theorem div_unique {a b q r:Int} (hb:0<b) (h:a=b*q+r) (h0:0≤r) (h1:r<b):a/b=q:=((Int.ediv_emod_unique hb).2 ⟨by omega,h0,h1⟩).1
theorem divI_same (hy:y≠0) (hs:decide (x<0)=decide (y<0)):divI x y=((x.natAbs/y.natAbs:Nat):Int):=by
 have hd:=Nat.div_add_mod x.natAbs y.natAbs
 have hm:=Nat.mod_lt x.natAbs (by omega:0<y.natAbs)
 generalize x.natAbs/y.natAbs=q at*
 generalize x.natAbs%y.natAbs=r at*
 have hd2:(y.natAbs:Int)*q+r=x.natAbs:=by rw[←hd];simp
 unfold divI
 by_cases h:0≤y
 ·rw[if_pos h]
  have:¬x<0:=by intro hx;have:y<0:=by simpa [hx] using hs
                omega
  rw[show (y.natAbs:Int)=y by omega,show (x.natAbs:Int)=x by omega] at hd2
  exact div_unique (r:=r) (by omega) hd2.symm (by omega) (by omega)
 ·rw[if_neg h]
  have:x<0:=by have:y<0:=by omega
               simpa [this] using hs
  rw[show (y.natAbs:Int)= -y by omega,show (x.natAbs:Int)= -x by omega] at hd2
  exact div_unique (r:=r) (by omega) hd2.symm (by omega) (by omega)
theorem divI_diff0 (hy:y≠0) (hs:decide (x<0)≠decide (y<0)) (h0:x.natAbs%y.natAbs=0):divI x y= -((x.natAbs/y.natAbs:Nat):Int):=by
 have hd:=Nat.div_add_mod x.natAbs y.natAbs
 rw[h0] at hd
 generalize x.natAbs/y.natAbs=q at*
 have hd2:(y.natAbs:Int)*q=x.natAbs:=by rw[←hd];simp
 unfold divI
 by_cases h:0≤y
 ·rw[if_pos h]
  have hx:x<0:=by
   apply Classical.byContradiction;intro hx
   exact hs (by rw[decide_eq_false hx,decide_eq_false (by omega)])
  rw[show (y.natAbs:Int)=y by omega,show (x.natAbs:Int)= -x by omega] at hd2
  exact div_unique (r:=0) (by omega) (by rw[Int.mul_neg,hd2];omega) (by omega) (by omega)
 ·rw[if_neg h]
  have hx:¬x<0:=by
   intro hx
   exact hs (by rw[decide_eq_true hx,decide_eq_true (by omega)])
  rw[show (y.natAbs:Int)= -y by omega,show (x.natAbs:Int)=x by omega] at hd2
  exact div_unique (r:=0) (by omega) (by rw[Int.mul_neg,hd2];omega) (by omega) (by omega)
theorem divI_diff1 (hy:y≠0) (hs:decide (x<0)≠decide (y<0)) (h0:x.natAbs%y.natAbs≠0):divI x y= -((x.natAbs/y.natAbs+1:Nat):Int):=by
 have hd:=Nat.div_add_mod x.natAbs y.natAbs
 have hm:=Nat.mod_lt x.natAbs (by omega:0<y.natAbs)
 generalize x.natAbs/y.natAbs=q at*
 generalize x.natAbs%y.natAbs=r at*
 have hd2:(y.natAbs:Int)*q+r=x.natAbs:=by rw[←hd];simp
 unfold divI
 by_cases h:0≤y
 ·rw[if_pos h]
  have hx:x<0:=by
   apply Classical.byContradiction;intro hx
   exact hs (by rw[decide_eq_false hx,decide_eq_false (by omega)])
  rw[show (y.natAbs:Int)=y by omega,show (x.natAbs:Int)= -x by omega] at hd2
  refine div_unique (r:=y-r) (by omega) ?_ (by omega) (by omega)
  rw[Int.natCast_add,Int.mul_neg,Int.mul_add]
  omega
 ·rw[if_neg h]
  have hx:¬x<0:=by
   intro hx
   exact hs (by rw[decide_eq_true hx,decide_eq_true (by omega)])
  rw[show (y.natAbs:Int)= -y by omega,show (x.natAbs:Int)=x by omega] at hd2
  refine div_unique (r:= -y-r) (by omega) ?_ (by omega) (by omega)
  rw[Int.natCast_add,Int.mul_neg,Int.mul_add]
  omega
def modI (x y:Int):Int:=x-y*divI x y
theorem natAbs_split:(y.natAbs:Int)*((x.natAbs/y.natAbs:Nat):Int)+((x.natAbs%y.natAbs:Nat):Int)=x.natAbs:=by
 rw[←Int.natCast_mul,←Int.natCast_add,Nat.div_add_mod]
theorem modI_same (hb:b=decide (y<0)) (hy:y≠0) (hs:decide (x<0)=decide (y<0)):modI x y=if b=true then -((x.natAbs%y.natAbs:Nat):Int) else ((x.natAbs%y.natAbs:Nat):Int):=by
 have hd:= @natAbs_split x y
 unfold modI
 rw[divI_same hy hs]
 generalize x.natAbs/y.natAbs=q at*
 generalize x.natAbs%y.natAbs=r at*
 by_cases h:y<0
 ·have hx:x<0:=by simpa [h] using hs
  rw[hb,decide_eq_true h,if_pos rfl]
  rw[show (y.natAbs:Int)= -y by omega,show (x.natAbs:Int)= -x by omega,Int.neg_mul] at hd
  omega
 ·have hx:¬x<0:=by intro hx;simp[hx,h] at hs
  rw[hb,decide_eq_false h,if_neg (by simp)]
  rw[show (y.natAbs:Int)=y by omega,show (x.natAbs:Int)=x by omega] at hd
  omega
theorem modI_diff0 (hy:y≠0) (hs:decide (x<0)≠decide (y<0)) (h0:x.natAbs%y.natAbs=0):modI x y=if b=true then -((x.natAbs%y.natAbs:Nat):Int) else ((x.natAbs%y.natAbs:Nat):Int):=by
 have hd:= @natAbs_split x y
 unfold modI
 rw[divI_diff0 hy hs h0]
 rw[h0] at hd ⊢
 generalize x.natAbs/y.natAbs=q at*
 have e:x-y* -(q:Int)=0:=by
  by_cases h:y<0
  ·have hx:¬x<0:=by intro hx;exact hs (by rw[decide_eq_true hx,decide_eq_true h])
   rw[show (y.natAbs:Int)= -y by omega,show (x.natAbs:Int)=x by omega,Int.neg_mul] at hd
   rw[Int.mul_neg];omega
  ·have hx:x<0:=by apply Classical.byContradiction;intro hx;exact hs (by rw[decide_eq_false hx,decide_eq_false h])
   rw[show (y.natAbs:Int)=y by omega,show (x.natAbs:Int)= -x by omega] at hd
   rw[Int.mul_neg];omega
 rw[e];cases b <;> rfl
theorem modI_diff1 (hb:b=decide (y<0)) (hy:y≠0) (hs:decide (x<0)≠decide (y<0)) (h0:x.natAbs%y.natAbs≠0):
  modI x y=if b=true then -((y.natAbs-x.natAbs%y.natAbs:Nat):Int) else ((y.natAbs-x.natAbs%y.natAbs:Nat):Int):=by
 have hd:= @natAbs_split x y
 have hm:=Nat.mod_lt x.natAbs (by omega:0<y.natAbs)
 unfold modI
 rw[divI_diff1 hy hs h0]
 generalize x.natAbs/y.natAbs=q at*
 generalize x.natAbs%y.natAbs=r at*
 rw[Int.natCast_add,Int.mul_neg,Int.mul_add]
 by_cases h:y<0
 ·have hx:¬x<0:=by intro hx;exact hs (by rw[decide_eq_true hx,decide_eq_true h])
  rw[hb,decide_eq_true h,if_pos rfl]
  rw[show (y.natAbs:Int)= -y by omega,show (x.natAbs:Int)=x by omega,Int.neg_mul] at hd
  omega
 ·have hx:x<0:=by apply Classical.byContradiction;intro hx;exact hs (by rw[decide_eq_false hx,decide_eq_false h])
  rw[hb,decide_eq_false h,if_neg (by simp)]
  rw[show (y.natAbs:Int)=y by omega,show (x.natAbs:Int)= -x by omega] at hd
  omega
theorem sqrt_round (hX:isqrt N≤X) (h0:0<X):isqrt N≤(X+N/X)/2:=by
 have h1:=isqrt_le N
 generalize isqrt N=s at*
 have h2:X*(N/X)+N%X=N:=Nat.div_add_mod N X
 have h3:=Nat.mod_lt N h0
 generalize N/X=q at*
 rw[Nat.le_div_iff_mul_le (by decide)]
 apply Classical.byContradiction
 intro hc
 have h4:X+q+1≤2*s:=by omega
 obtain⟨d,rfl⟩:∃d,X=s+d:=⟨X-s,by omega⟩
 have h5:q+1≤s-d:=by omega
 have h6:(s+d)*(q+1)≤(s+d)*(s-d):=Nat.mul_le_mul_left _ h5
 have h7:(s+d)*(s-d)≤s*s:=by
  by_cases hds:d≤s
  ·obtain⟨e,rfl⟩:∃e,s=e+d:=⟨s-d,by omega⟩
   have:(e+d)*(e+d)=(e+d+d)*e+d*d:=by grind
   rw[Nat.add_sub_cancel]
   omega
  ·rw[show s-d=0 by omega];simp
 rw[Nat.mul_add] at h6
 omega
theorem sqrt_done (hX:isqrt N≤X) (h0:0<X) (h:X≤(X+N/X)/2):isqrt N=X:=by
 have h1:X≤N/X:=by omega
 have h2:X*X≤N:=by
  have:=(Nat.le_div_iff_mul_le h0).1 h1
  exact this
 have h3:=lt_isqrt N
 have h4:X<isqrt N+1:=Nat.mul_self_lt_mul_self_iff.1 (by omega)
 omega
theorem sqrt_start (h:N≠0):isqrt N≤2^((Nat.log2 N+1)/2+1):=by
 apply Classical.byContradiction
 intro hc
 have h1:=isqrt_le N
 have h2:N<2^(Nat.log2 N+1):=(Nat.log2_lt h).1 (Nat.lt_succ_self _)
 have h3:2^((Nat.log2 N+1)/2+1)*2^((Nat.log2 N+1)/2+1)≤isqrt N*isqrt N:=Nat.mul_le_mul (by omega) (by omega)
 rw[←Nat.pow_add] at h3
 have h4:2^(Nat.log2 N+1)≤2^((Nat.log2 N+1)/2+1+((Nat.log2 N+1)/2+1)):=Nat.pow_le_pow_right (by decide) (by omega)
 omega
end Go.Abs
namespace Go.Abs
structure IsR (q:Rat) (b1:Bool) (l1:List UInt32) (b2:Bool) (l2:List UInt32):Prop where
 num:IsI q.num b1 l1
 den:IsI (q.den:Int) b2 l2
variable {b' b'' b1 b2:Bool} {d y z:Int} {k:Nat} {l l' l'' l1 l2:List UInt32}
theorem isR_ex (q:Rat):∃b1 l1 b2 l2,IsR q b1 l1 b2 l2:=⟨_,_,_,_,⟨rfl,rfl⟩,⟨rfl,rfl⟩⟩
theorem IsR.uniq {p q:Rat} {c1 c2:Bool} {m1 m2:List UInt32} (h:IsR p b1 l1 b2 l2) (h':IsR q c1 m1 c2 m2) (e:p=q):(b1=c1∧l1=m1)∧(b2=c2∧l2=m2):=by
 subst e;exact⟨h.num.uniq h'.num rfl,h.den.uniq h'.den rfl⟩
structure SmallQ (q:Rat):Prop where
 num:(limbs q.num.natAbs).length≤4000000000000
 den:(limbs q.den).length≤4000000000000
theorem IsR.small {q:Rat} (h:IsR q b1 l1 b2 l2) (s:SmallQ q):l1.length≤4000000000000∧l2.length≤4000000000000:=by
 rw[h.num.mag,h.den.mag];exact⟨s.num,by simpa using s.den⟩
theorem divI_one (x:Int):divI x 1=x:=by unfold divI;simp
theorem lowest_num {n:Int} (hd:d≠0):(Rat.divInt n d).num=divI n (if d<0 then -((Nat.gcd n.natAbs d.natAbs:Nat):Int) else ((Nat.gcd n.natAbs d.natAbs:Nat):Int)):=by
 rw[Rat.num_divInt]
 have hg:Int.gcd d n=Nat.gcd n.natAbs d.natAbs:=by rw[Int.gcd_comm];rfl
 have hpos:0<Nat.gcd n.natAbs d.natAbs:=Nat.gcd_pos_of_pos_right _ (by omega)
 rw[hg]
 unfold divI
 by_cases h:d<0
 ·rw[if_pos h,if_neg (by omega),Int.sign_eq_neg_one_of_neg h,Int.neg_neg,Int.neg_one_mul]
 ·rw[if_neg h,if_pos (by omega),Int.sign_eq_one_of_pos (by omega),Int.one_mul]
theorem lowest_den {n:Int} (hd:d≠0):((Rat.divInt n d).den:Int)=divI d (if d<0 then -((Nat.gcd n.natAbs d.natAbs:Nat):Int) else ((Nat.gcd n.natAbs d.natAbs:Nat):Int)):=by
 rw[Rat.den_divInt,if_neg hd]
 have hg:Int.gcd d n=Nat.gcd n.natAbs d.natAbs:=by rw[Int.gcd_comm];rfl
 have hpos:0<Nat.gcd n.natAbs d.natAbs:=Nat.gcd_pos_of_pos_right _ (by omega)
 rw[hg,Int.natCast_ediv]
 unfold divI
 by_cases h:d<0
 ·rw[if_pos h,if_neg (by omega),Int.neg_neg,show (d.natAbs:Int)= -d by omega]
 ·rw[if_neg h,if_pos (by omega),show (d.natAbs:Int)=d by omega]
theorem limbs_one:limbs 1=[1]:=by decide +kernel
theorem one_neg {x:Int} {b:Bool} (h:IsI x b l) (e:b=true):false=decide (x=1):=by
 have:=h.neg;rw[e] at this
 have h0:x<0:=by simpa using this.symm
 simp;omega
theorem one_len {x:Int} {b:Bool} (h:IsI x b l) (e:¬l.length=1):false=decide (x=1):=by
 have hne:x≠1:=by
  intro hx;subst hx;apply e;rw[h.mag];exact congrArg List.length limbs_one
 simp[hne]
theorem one_word {x:Int} {b:Bool} {w:UInt32} (h:IsI x b l) (hb:b=false) (e:l.length=1) (hw:l[0]? =some w):decide (w.toNat=1)=decide (x=1):=by
 have hl:l=[w]:=by
  match l,e,hw with
  | [a],_,hw=>simp at hw;rw[hw]
 have h1:=h.nat
 rw[hl] at h1
 have h2:natL [w]=w.toNat:=by simp[natL]
 rw[h2] at h1
 have h3:=h.neg;rw[hb] at h3
 have h0:¬x<0:=by simpa using h3.symm
 rw[Bool.eq_iff_iff];simp;omega
theorem lt_two_pow_limbs (n:Nat):n<2^(32*(limbs n).length):=by
 have h:=natL_lt (limbs n);rwa [natL_limbs] at h
theorem limbs_mul_len (a b:Nat):(limbs (a*b)).length≤(limbs a).length+(limbs b).length:=by
 apply limbs_len_le
 rw[Nat.mul_add,Nat.pow_add]
 exact Nat.mul_lt_mul_of_lt_of_le (lt_two_pow_limbs a) (Nat.le_of_lt (lt_two_pow_limbs b)) (Nat.pow_pos (by decide))
theorem limbs_add_len {a b:Nat} (ha:(limbs a).length≤k) (hb:(limbs b).length≤k):(limbs (a+b)).length≤k+1:=by
 apply limbs_len_le
 have h1:=Nat.lt_of_lt_of_le (lt_two_pow_limbs a) (Nat.pow_le_pow_right (n:=2) (by decide) (Nat.mul_le_mul_left 32 ha))
 have h2:=Nat.lt_of_lt_of_le (lt_two_pow_limbs b) (Nat.pow_le_pow_right (n:=2) (by decide) (Nat.mul_le_mul_left 32 hb))
 rw[Nat.mul_add,Nat.pow_add]
 have h3:2^(32*k)*2≤2^(32*k)*2^(32*1):=Nat.mul_le_mul_left _ (by decide)
 omega
theorem IsI.mul_len {x:Int} {b:Bool} (h:IsI x b l) (h':IsI y b' l') (h'':IsI z b'' l'') (e:z=x*y):l''.length≤l.length+l'.length:=by
 rw[h.mag,h'.mag,h''.mag,e,Int.natAbs_mul];exact limbs_mul_len _ _
theorem IsI.add_len {x:Int} {b:Bool} (h:IsI x b l) (h':IsI y b' l') (h'':IsI z b'' l'') (e:z=x+y) (hk:l.length≤k) (hk':l'.length≤k):l''.length≤k+1:=by
 rw[h.mag] at hk;rw[h'.mag] at hk';rw[h''.mag,e]
 exact Nat.le_trans (limbs_len_mono (Int.natAbs_add_le x y)) (limbs_add_len hk hk')
theorem den_ne (q:Rat):(q.den:Int)≠0:=by have:=q.den_nz;omega
theorem addQ (p q:Rat):p+q=Rat.divInt (p.num*q.den+q.num*p.den) ((p.den:Int)*q.den):=by
 have h:=Rat.divInt_add_divInt p.num q.num (den_ne p) (den_ne q)
 rwa [Rat.num_divInt_den,Rat.num_divInt_den] at h
theorem mulQ (p q:Rat):p*q=Rat.divInt (p.num*q.num) ((p.den:Int)*q.den):=by
 have h:=Rat.divInt_mul_divInt p.num q.num (d₁:=p.den) (d₂:=q.den)
 rwa [Rat.num_divInt_den,Rat.num_divInt_den] at h
theorem divQ (p q:Rat):p/q=Rat.divInt (p.num*q.den) ((p.den:Int)*q.num):=by
 have h:=Rat.divInt_mul_divInt p.num q.den (d₁:=p.den) (d₂:=q.num)
 rw[←Rat.inv_divInt q.num q.den,Rat.num_divInt_den,Rat.num_divInt_den] at h
 rw[Rat.div_def,h]
theorem divInt_1 (x:Int):Rat.divInt x 1=(x:Rat):=Rat.num_divInt_den (x:Rat)
theorem divInt_one_num (x:Int):(Rat.divInt x 1).num=x:=by rw[divInt_1];rfl
theorem divInt_one_den (x:Int):(Rat.divInt x 1).den=1:=by rw[divInt_1];rfl
theorem add_ones {p q:Rat} (hp:(p.den:Int)=1) (hq:(q.den:Int)=1):(p+q).num=p.num+q.num∧(p+q).den=1:=by
 rw[addQ,hp,hq];simp only[Int.mul_one];exact⟨divInt_one_num _,divInt_one_den _⟩
theorem mul_ones {p q:Rat} (hp:(p.den:Int)=1) (hq:(q.den:Int)=1):(p*q).num=p.num*q.num∧(p*q).den=1:=by
 rw[mulQ,hp,hq];simp only[Int.mul_one];exact⟨divInt_one_num _,divInt_one_den _⟩
theorem sq_mk (r:Rat):(r*r).num=r.num*r.num∧(r*r).den=r.den*r.den:=by
 have hc:(r.num*r.num).natAbs.Coprime (r.den*r.den):=by
  rw[Int.natAbs_mul]
  have h:=r.reduced
  exact Nat.Coprime.mul_right (Nat.Coprime.mul_left h h) (Nat.Coprime.mul_left h h)
 have hz:r.den*r.den≠0:=Nat.mul_ne_zero r.den_nz r.den_nz
 have h:=Rat.num_divInt_den (⟨r.num*r.num,r.den*r.den,hz,hc⟩:Rat)
 have h2:=mulQ r r
 have h3:(⟨r.num*r.num,r.den*r.den,hz,hc⟩:Rat)=r*r:=by
  rw[h2,←h];exact congrArg _ (Int.natCast_mul _ _)
 rw[←h3];exact⟨rfl,rfl⟩
theorem isqrt_sq (n:Nat):isqrt (n*n)=n:=isqrt_unique (Nat.le_refl _) (by rw[Nat.add_mul,Nat.mul_add];omega)
theorem sqrt_num {r q:Rat} (h0:0≤r) (h:r*r=q):((isqrt q.num.toNat:Nat):Int)=r.num∧r.num*r.num=q.num:=by
 have h1:=(sq_mk r).1;rw[h] at h1
 have hn:0≤r.num:=Rat.num_nonneg.2 h0
 refine⟨?_,h1.symm⟩
 obtain⟨k,hk⟩:=Int.eq_ofNat_of_zero_le hn
 rw[h1,hk]
 rw[show ((k:Int)*k).toNat=k*k by rw[←Int.natCast_mul];rfl,isqrt_sq]
theorem sqrt_den {r q:Rat} (_h0:0≤r) (h:r*r=q):((isqrt (q.den:Int).toNat:Nat):Int)=(r.den:Int)∧(r.den:Int)*r.den=(q.den:Int):=by
 have h1:=(sq_mk r).2;rw[h] at h1
 refine⟨?_,by rw[h1];exact (Int.natCast_mul _ _).symm⟩
 rw[h1,Int.toNat_natCast,isqrt_sq]
theorem sqrt_both {q:Rat} (hn:((isqrt q.num.toNat:Nat):Int)*((isqrt q.num.toNat:Nat):Int)=q.num) (hd:((isqrt (q.den:Int).toNat:Nat):Int)*((isqrt (q.den:Int).toNat:Nat):Int)=(q.den:Int)):∃r:Rat,0≤r∧r*r=q:=by
 refine⟨Rat.divInt ((isqrt q.num.toNat:Nat):Int) ((isqrt (q.den:Int).toNat:Nat):Int),?_,?_⟩
 ·exact Rat.divInt_nonneg (Int.natCast_nonneg _) (Int.natCast_nonneg _)
 ·rw[Rat.divInt_mul_divInt,hn,hd,Rat.num_divInt_den]
def validQ (b1:Bool) (l1:List UInt32) (b2:Bool) (l2:List UInt32):Bool:=validI b1 l1&&(validI b2 l2&&(!b2&&(decide (l2≠[])&&decide (Nat.gcd (natL l1) (natL l2)=1))))
theorem validQ_iff:validQ b1 l1 b2 l2=true↔∃q,IsR q b1 l1 b2 l2:=by
 unfold validQ
 simp only[Bool.and_eq_true,Bool.not_eq_true',decide_eq_true_eq]
 constructor
 ·rintro⟨h1,h2,h3,h4,h5⟩
  obtain⟨x,hx⟩:=validI_iff.1 h1
  obtain⟨y,hy⟩:=validI_iff.1 h2
  have hy0:y≠0:=fun e=>h4 (hy.nil.2 e)
  have hn:=hy.neg;rw[h3] at hn
  have hy1:¬y<0:=by simpa using hn.symm
  rw[hx.nat,hy.nat] at h5
  refine⟨⟨x,y.natAbs,by omega,h5⟩,hx,?_⟩
  show IsI ((y.natAbs:Nat):Int) b2 l2
  rw[show ((y.natAbs:Nat):Int)=y by omega];exact hy
 ·rintro⟨q,h⟩
  refine⟨validI_iff.2 ⟨_,h.num⟩,validI_iff.2 ⟨_,h.den⟩,?_,fun e=>q.den_nz (by have:=h.den.nil.1 e;omega),?_⟩
  ·rw[h.den.neg];simp
  ·rw[h.num.nat,h.den.nat,Int.natAbs_natCast];exact q.reduced
def sgnQ (q:Rat):Int:=sgnI q.num
def cmpQ (p q:Rat):Int:=if p<q then -1 else if q<p then 1 else 0
end Go.Abs
namespace Go.Abs
open Go.RowKit
def rp (q:Rat):el tRat:=((decide (q.num<0),limbs q.num.natAbs),(decide ((q.den:Int)<0),limbs q.den))
theorem isR_rp (q:Rat):IsR q (rp q).1.1 (rp q).1.2 (rp q).2.1 (rp q).2.2:=⟨⟨rfl,rfl⟩,⟨rfl,rfl⟩⟩
theorem IsR.rp {q:Rat} {b1 b2:Bool} {l1 l2:List UInt32} (h:IsR q b1 l1 b2 l2):rp q=((b1,l1),(b2,l2)):=by
 have u:=h.uniq (isR_rp q) rfl
 rw[u.1.1,u.1.2,u.2.1,u.2.2]
abbrev rps (X:List Rat):List (el tRat):=X.map rp
def Smalls (X:List Rat):Prop:=∀q∈X,SmallQ q
structure Tow (ts:List (List Rat)):Prop where
 small:∀x∈ts,Smalls x
 height:ts.length≤16
 form:∀i x,ts[i]? =some x→x.length=2^i
end Go.Abs
