/- Part 15 of a proof. Conditions: each theorem's own. -/
import Derived.Test.YtpccjlcpbehglaaGreatPk13
set_option linter.all false
set_option maxHeartbeats 8000000
namespace Go.Abs
def natL:List UInt32→Nat
 | []=>0
 | x::l=>x.toNat+4294967296*natL l
def limbsF:Nat→Nat→List UInt32
 | 0,_=>[]
 | f+1,n=>if n=0 then [] else UInt32.ofNat n::limbsF f (n/4294967296)
def limbs (n:Nat):List UInt32:=limbsF n n
variable {k:Nat} {o:List UInt32}
theorem limbsF_eq:∀(f n:Nat),n≤f→limbsF f n=limbsF n n
 | 0,n,h=>by rw[show n=0 by omega]
 | f+1,n,h=>by
  cases n with
  | zero=>simp[limbsF]
  | succ n=>
   simp only[limbsF]
   rw[limbsF_eq f _ (by omega),limbsF_eq n _ (by omega)]
theorem limbs_zero:limbs 0=[]:=rfl
theorem limbs_pos {n:Nat} (h:n≠0):limbs n=UInt32.ofNat n::limbs (n/4294967296):=by
 cases n with
 | zero=>exact (h rfl).elim
 | succ n=>
  show limbsF (n+1) (n+1)=_
  rw[limbsF,if_neg (by omega),limbsF_eq n _ (by omega)]
  rfl
theorem natL_limbs (n:Nat):natL (limbs n)=n:=by
 induction n using Nat.strongRecOn with
 | ind n ih=>
  by_cases h:n=0
  ·subst h;rfl
  ·rw[limbs_pos h,natL,ih _ (by omega)]
   simp[UInt32.toNat_ofNat']
   omega
theorem pow32 (n:Nat):2^(32*(n+1))=4294967296*2^(32*n):=by
 rw[Nat.mul_add,Nat.pow_add,Nat.mul_comm]
theorem natL_append (a b:List UInt32):natL (a++b)=natL a+2^(32*a.length)*natL b:=by
 induction a with
 | nil=>simp[natL]
 | cons x a ih=>
  rw[List.cons_append,natL,natL,ih,List.length_cons,pow32]
  generalize 2^(32*a.length)=p
  grind
theorem natL_lt (l:List UInt32):natL l<2^(32*l.length):=by
 induction l with
 | nil=>simp[natL]
 | cons x l ih=>
  rw[natL,List.length_cons,pow32]
  generalize 2^(32*l.length)=p at*
  have:=x.toNat_lt
  omega
theorem limbs_len_le {n:Nat} (h:n<2^(32*k)):(limbs n).length≤k:=by
 induction k generalizing n with
 | zero=>have:n=0:=by simpa using h
         subst this;simp[limbs_zero]
 | succ k ih=>
  by_cases hn:n=0
  ·subst hn;simp[limbs_zero]
  ·rw[limbs_pos hn,List.length_cons]
   rw[pow32] at h
   have:=ih (n:=n/4294967296) (by omega)
   omega
theorem le_limbs_len {n:Nat} (h:2^(32*k)≤n):k+1≤(limbs n).length:=by
 have h1:=natL_lt (limbs n)
 rw[natL_limbs] at h1
 have h2:2^(32*k)<2^(32*(limbs n).length):=Nat.lt_of_le_of_lt h h1
 have:=(Nat.pow_lt_pow_iff_right (by decide:1<2)).1 h2
 omega
theorem natL_inj {a b:List UInt32} (hl:a.length=b.length) (h:natL a=natL b):a=b:=by
 induction a generalizing b with
 | nil=>cases b with
  | nil=>rfl
  | cons _ _=>simp at hl
 | cons x a ih=>cases b with
  | nil=>simp at hl
  | cons y b=>
   simp only[natL] at h
   have hx:=x.toNat_lt
   have hy:=y.toNat_lt
   have h1:x.toNat=y.toNat:=by omega
   have h2:natL a=natL b:=by omega
   rw[UInt32.toNat_inj.1 h1,ih (by simpa using hl) h2]
theorem limbs_natL {l:List UInt32} (h:l=[]∨2^(32*(l.length-1))≤natL l):limbs (natL l)=l:=by
 rcases h with rfl | h
 ·rfl
 ·apply natL_inj _ (natL_limbs _)
  have h1:=limbs_len_le (natL_lt l)
  have h2:=le_limbs_len h
  omega
theorem limbs_len_mono {a b:Nat} (h:a≤b):(limbs a).length≤(limbs b).length:=by
 apply limbs_len_le
 have:=natL_lt (limbs b)
 rw[natL_limbs] at this
 omega
theorem limbs_eq_nil {n:Nat}:limbs n=[]↔n=0:=by
 constructor
 ·intro h
  have:=natL_limbs n
  rw[h] at this
  exact this.symm
 ·rintro rfl;rfl
theorem limbs_top {n:Nat} (h:n≠0):2^(32*((limbs n).length-1))≤n:=by
 apply Classical.byContradiction
 intro hn
 have:=limbs_len_le (n:=n) (k:=(limbs n).length-1) (by omega)
 have:limbs n≠[]:=fun e=>h (limbs_eq_nil.1 e)
 have:(limbs n).length≠0:=by simpa using this
 omega
theorem natL_snoc (l:List UInt32) (x:UInt32):natL (l++[x])=natL l+2^(32*l.length)*x.toNat:=by
 rw[natL_append];simp[natL]
theorem natL_take_succ {l:List UInt32} {i:Nat} {x:UInt32} (h:l[i]? =some x):natL (l.take (i+1))=natL (l.take i)+2^(32*i)*x.toNat:=by
 have hi:i<l.length:=by
  apply Classical.byContradiction;intro hn;rw[List.getElem?_eq_none (by omega)] at h;exact absurd h (by simp)
 rw[List.take_succ_eq_append_getElem hi,natL_snoc]
 have:l[i]=x:=by simpa [List.getElem?_eq_getElem hi] using h
 rw[this,List.length_take,Nat.min_eq_left (by omega)]
theorem natL_take_add_drop (l:List UInt32) (i:Nat) (h:i≤l.length):natL l=natL (l.take i)+2^(32*i)*natL (l.drop i):=by
 conv=>lhs;rw[←List.take_append_drop i l,natL_append,List.length_take,Nat.min_eq_left h]
def trimL:List UInt32→List UInt32
 | []=>[]
 | x::l=>match trimL l with
  | []=>if x=0 then [] else [x]
  | y::r=>x::y::r
theorem trimL_zero:∀(l:List UInt32),trimL (l++[0])=trimL l
 | []=>rfl
 | x::l=>by simp[trimL,trimL_zero l]
theorem trimL_ne {x:UInt32} (hx:x≠0):∀(l:List UInt32),trimL (l++[x])=l++[x]
 | []=>by simp[trimL,hx]
 | y::l=>by
  rw[List.cons_append,trimL,trimL_ne hx l]
  cases l <;> rfl
theorem trimL_eq (l:List UInt32):trimL l=limbs (natL l):=by
 induction l with
 | nil=>rfl
 | cons x l ih=>
  rw[trimL,ih,natL]
  have hx:=x.toNat_lt
  by_cases h:natL l=0
  ·rw[h,limbs_zero]
   by_cases h0:x=0
   ·subst h0;simp[limbs_zero]
   ·have:x.toNat≠0:=fun e=>h0 (UInt32.toNat_inj.1 e)
    rw[if_neg h0,limbs_pos (by omega),show (x.toNat+4294967296*0)/4294967296=0 by omega,limbs_zero]
    simp
  ·rw[limbs_pos (n:=x.toNat+_) (by omega),show (x.toNat+4294967296*natL l)/4294967296=natL l by omega]
   rw[limbs_pos h]
   show x::_=_
   congr 1
   apply UInt32.toNat_inj.1
   rw[UInt32.toNat_ofNat']
   omega
def isqrtF:Nat→Nat→Nat
 | 0,_=>0
 | f+1,n=>if n=0 then 0 else
  let r:=2*isqrtF f (n/4)
  if (r+1)*(r+1)≤n then r+1 else r
def isqrt (n:Nat):Nat:=isqrtF n n
theorem isqrtF_ok:∀(f n:Nat),n≤f→isqrtF f n*isqrtF f n≤n∧n<(isqrtF f n+1)*(isqrtF f n+1)
 | 0,n,h=>by rw[show n=0 by omega];decide
 | f+1,n,h=>by
  rw[isqrtF]
  by_cases h0:n=0
  ·rw[if_pos h0,h0];decide
  ·rw[if_neg h0]
   have:=isqrtF_ok f (n/4) (by omega)
   generalize isqrtF f (n/4)=r at*
   simp only
   have e1:(2*r)*(2*r)=4*(r*r):=by grind
   have e2:(2*r+1+1)*(2*r+1+1)=4*((r+1)*(r+1)):=by grind
   split
   ·refine⟨by assumption,?_⟩
    rw[e2];omega
   ·refine⟨?_,by omega⟩
    rw[e1];omega
theorem isqrt_le (n:Nat):isqrt n*isqrt n≤n:=(isqrtF_ok n n (Nat.le_refl _)).1
theorem lt_isqrt (n:Nat):n<(isqrt n+1)*(isqrt n+1):=(isqrtF_ok n n (Nat.le_refl _)).2
theorem isqrt_unique {n r:Nat} (h1:r*r≤n) (h2:n<(r+1)*(r+1)):isqrt n=r:=by
 have h3:=isqrt_le n
 have h4:=lt_isqrt n
 generalize isqrt n=s at*
 have a:s<r+1:=Nat.mul_self_lt_mul_self_iff.1 (by omega)
 have b:r<s+1:=Nat.mul_self_lt_mul_self_iff.1 (by omega)
 omega
theorem natL_take_ge {l:List UInt32} {i:Nat} (h:l.length≤i):natL (l.take i)=natL l:=by rw[List.take_of_length_le h]
theorem carry_step {A B c xi yi i s:Nat} {w:UInt32} (ho:o.length=i) (h:natL o+2^(32*i)*c=A+B) (hs:s=c+xi+yi) (hw:w.toNat=s%4294967296):
  natL (o++[w])+2^(32*(i+1))*(s/4294967296)=(A+2^(32*i)*xi)+(B+2^(32*i)*yi):=by
 rw[natL_snoc,pow32,ho,hw]
 generalize 2^(32*i)=P at*
 have:s%4294967296+4294967296*(s/4294967296)=s:=by omega
 have e:P*(s%4294967296)+4294967296*P*(s/4294967296)=P*s:=by rw[←this];grind
 subst hs
 grind
theorem canon_snoc {w:UInt32} (hw:w.toNat≠0):limbs (natL (o++[w]))=o++[w]:=by
 apply limbs_natL
 right
 rw[natL_snoc,List.length_append]
 have:2^(32*o.length)*1≤2^(32*o.length)*w.toNat:=Nat.mul_le_mul_left _ (by omega)
 simp
 omega
theorem canon_len {p q:Nat} (h:natL o=p+q) (hl:o.length=(limbs p).length):o=limbs (p+q):=by
 rw[←h]
 refine (limbs_natL ?_).symm
 by_cases hp:p=0
 ·left
  subst hp
  simpa [limbs_zero] using hl
 ·right
  have:=limbs_top hp
  rw[hl]
  omega
theorem natL_replicate (n:Nat):natL (List.replicate n 0)=0:=by
 induction n with
 | zero=>rfl
 | succ n ih=>rw[List.replicate_succ,natL,ih];rfl
theorem trimL_prefix:∀(l:List UInt32),l.take (trimL l).length=trimL l
 | []=>rfl
 | x::l=>by
  have ih:=trimL_prefix l
  rw[trimL]
  cases h:trimL l with
  | nil=>
   by_cases hx:x=0
   ·simp[hx]
   ·simp[hx]
  | cons y r=>
   rw[h] at ih
   simpa using ih
theorem trimL_len (l:List UInt32):(trimL l).length≤l.length:=by
 rw[←trimL_prefix,List.length_take];omega
theorem trim_take {l:List UInt32} {n m:Nat} (hn:n≤l.length) (hm:m=(trimL (l.take n)).length):m≤n∧l.take m=limbs (natL (l.take n)):=by
 have h1:=trimL_len (l.take n)
 rw[List.length_take] at h1
 have h2:=trimL_prefix (l.take n)
 rw[←hm,List.take_take,Nat.min_eq_left (by omega)] at h2
 exact⟨by omega,by rw[h2,trimL_eq]⟩
end Go.Abs
namespace Go.Abs
variable {B d:Rat}
theorem rat_eq_div (e:Rat):e=e.num/e.den:=by
 have h:=Rat.mkRat_self e
 rw[Rat.mkRat_eq_div] at h
 exact h.symm
theorem rat_mul_den (e:Rat):e*e.den=e.num:=by
 have h:(e.den:Rat)≠0:=by
  intro h
  exact e.den_nz (Rat.natCast_eq_zero_iff.1 h)
 have:=rat_eq_div e
 grind
theorem rat_num_pos {e:Rat} (h:0<e):0<e.num:=by
 have:=(Rat.lt_iff 0 e).1 h
 simpa using this
theorem mul_bd {a e:Rat} (h1:a≤B) (h2: -B≤a) (h3:d≤e) (h4: -e≤d):a*d≤B*e:=by
 have p:=Rat.mul_nonneg (a:=B-a) (b:=e+d) (by grind) (by grind)
 have q:=Rat.mul_nonneg (a:=B+a) (b:=e-d) (by grind) (by grind)
 grind
theorem mul_bd' {a e:Rat} (h1:a≤B) (h2: -B≤a) (h3:d≤e) (h4: -e≤d): -(B*e)≤a*d:=by
 have:=mul_bd (a:= -a) (d:=d) (B:=B) (e:=e) (by grind) (by grind) h3 h4
 grind
structure CS where
 f:Nat→Rat
 cau:∀e:Rat,0<e→∃N,∀n m,N≤n→N≤m→f n-f m<e
namespace CS
def eqv (a b:CS):Prop:=∀e:Rat,0<e→∃N,∀n,N≤n→a.f n-b.f n<e∧b.f n-a.f n<e
theorem eqv_refl (a:CS):eqv a a:=fun e he=>⟨0,fun n _=>by grind⟩
theorem eqv_symm {a b:CS} (h:eqv a b):eqv b a:=fun e he=>by
 obtain⟨N,hN⟩:=h e he
 exact⟨N,fun n hn=>⟨(hN n hn).2,(hN n hn).1⟩⟩
theorem eqv_trans {a b c:CS} (h:eqv a b) (k:eqv b c):eqv a c:=fun e he=>by
 obtain⟨N,hN⟩:=h (e/2) (by grind)
 obtain⟨M,hM⟩:=k (e/2) (by grind)
 refine⟨max N M,fun n hn=>?_⟩
 have:=hN n (by omega)
 have:=hM n (by omega)
 grind
instance st:Setoid CS:=⟨eqv,eqv_refl,eqv_symm,eqv_trans⟩
theorem eqv_of_eq {a b:CS} (h:∀n,a.f n=b.f n):a ≈ b:=fun e he=>⟨0,fun n _=>by have:=h n;grind⟩
theorem bdd (a:CS):∃B:Rat,0<B∧∃N,∀n,N≤n→a.f n≤B∧ -B≤a.f n:=by
 obtain⟨N,hN⟩:=a.cau 1 (by decide)
 have h0:0≤max (a.f N) (-(a.f N)):=by
  rcases Rat.le_total (a:=a.f N) (b:= -(a.f N)) with h | h
  ·rw[Rat.max_def,if_pos h];grind
  ·by_cases h':a.f N≤ -(a.f N)
   ·rw[Rat.max_def,if_pos h'];grind
   ·rw[Rat.max_def,if_neg h'];grind
 have h1:a.f N≤max (a.f N) (-(a.f N)):=by rw[Rat.max_def];split <;> grind
 have h2: -(a.f N)≤max (a.f N) (-(a.f N)):=by rw[Rat.max_def];split <;> grind
 refine⟨max (a.f N) (-(a.f N))+1,by grind,N,fun n hn=>?_⟩
 have:=hN n N hn (Nat.le_refl _)
 have:=hN N n (Nat.le_refl _) hn
 grind
def const (q:Rat):CS:=⟨fun _=>q,fun e he=>⟨0,fun n m _ _=>by grind⟩⟩
def add (a b:CS):CS:=⟨fun n=>a.f n+b.f n,fun e he=>by
 obtain⟨N,hN⟩:=a.cau (e/2) (by grind)
 obtain⟨M,hM⟩:=b.cau (e/2) (by grind)
 refine⟨max N M,fun n m hn hm=>?_⟩
 have:=hN n m (by omega) (by omega)
 have:=hM n m (by omega) (by omega)
 grind⟩
def neg (a:CS):CS:=⟨fun n=> -a.f n,fun e he=>by
 obtain⟨N,hN⟩:=a.cau e he
 refine⟨N,fun n m hn hm=>?_⟩
 have:=hN m n hm hn
 grind⟩
theorem mul_close {x y u v A e:Rat} (hA:0<A) (hB:0<B) (he:0<e) (hx:x≤A) (hx': -A≤x) (hv:v≤B) (hv': -B≤v)
  (h1:x-u<e/(2*B)) (h2:u-x<e/(2*B)) (h3:y-v<e/(2*A)) (h4:v-y<e/(2*A)):x*y-u*v≤e:=by
 have p:=mul_bd (a:=x) (d:=y-v) (B:=A) (e:=e/(2*A)) hx hx' (by grind) (by grind)
 have q:=mul_bd (a:=v) (d:=x-u) (B:=B) (e:=e/(2*B)) hv hv' (by grind) (by grind)
 have e1:A*(e/(2*A))=e/2:=by grind
 have e2:B*(e/(2*B))=e/2:=by grind
 grind
def mul (a b:CS):CS:=⟨fun n=>a.f n*b.f n,fun e he=>by
 obtain⟨A,hA,N,hN⟩:=a.bdd
 obtain⟨B,hB,M,hM⟩:=b.bdd
 have p1:0<(e/2)/(2*B):=by rw[Rat.div_def];exact Rat.mul_pos (by grind) (Rat.inv_pos.2 (by grind))
 have p2:0<(e/2)/(2*A):=by rw[Rat.div_def];exact Rat.mul_pos (by grind) (Rat.inv_pos.2 (by grind))
 obtain⟨P,hP⟩:=a.cau _ p1
 obtain⟨Q,hQ⟩:=b.cau _ p2
 refine⟨max (max N M) (max P Q),fun n m hn hm=>?_⟩
 have hn1:=hN n (by omega)
 have hm1:=hM m (by omega)
 have:=mul_close (e:=e/2) hA hB (by grind) hn1.1 hn1.2 hm1.1 hm1.2 (hP n m (by omega) (by omega)) (hP m n (by omega) (by omega)) (hQ n m (by omega) (by omega)) (hQ m n (by omega) (by omega))
 grind⟩
theorem add_congr {a b c d:CS} (h:a ≈ c) (k:b ≈ d):add a b ≈ add c d:=fun e he=>by
 obtain⟨N,hN⟩:=h (e/2) (by grind)
 obtain⟨M,hM⟩:=k (e/2) (by grind)
 refine⟨max N M,fun n hn=>?_⟩
 have:=hN n (by omega)
 have:=hM n (by omega)
 show a.f n+b.f n-(c.f n+d.f n)<e∧c.f n+d.f n-(a.f n+b.f n)<e
 grind
theorem neg_congr {a c:CS} (h:a ≈ c):neg a ≈ neg c:=fun e he=>by
 obtain⟨N,hN⟩:=h e he
 refine⟨N,fun n hn=>?_⟩
 have:=hN n hn
 show -a.f n- -c.f n<e∧ -c.f n- -a.f n<e
 grind
theorem mul_congr {a b c d:CS} (h:a ≈ c) (k:b ≈ d):mul a b ≈ mul c d:=fun e he=>by
 obtain⟨A,hA,N,hN⟩:=a.bdd
 obtain⟨B,hB,M,hM⟩:=d.bdd
 have p1:0<(e/2)/(2*B):=by rw[Rat.div_def];exact Rat.mul_pos (by grind) (Rat.inv_pos.2 (by grind))
 have p2:0<(e/2)/(2*A):=by rw[Rat.div_def];exact Rat.mul_pos (by grind) (Rat.inv_pos.2 (by grind))
 obtain⟨P,hP⟩:=h _ p1
 obtain⟨Q,hQ⟩:=k _ p2
 refine⟨max (max N M) (max P Q),fun n hn=>?_⟩
 have hn1:=hN n (by omega)
 have hm1:=hM n (by omega)
 have h1:=hP n (by omega)
 have h2:=hQ n (by omega)
 have t1:=mul_close (e:=e/2) hA hB (by grind) hn1.1 hn1.2 hm1.1 hm1.2 h1.1 h1.2 h2.1 h2.2
 have p:=mul_bd (a:=a.f n) (d:=d.f n-b.f n) (B:=A) (e:=(e/2)/(2*A)) hn1.1 hn1.2 (by grind) (by grind)
 have q:=mul_bd (a:=d.f n) (d:=c.f n-a.f n) (B:=B) (e:=(e/2)/(2*B)) hm1.1 hm1.2 (by grind) (by grind)
 have e1:A*((e/2)/(2*A))=e/4:=by grind
 have e2:B*((e/2)/(2*B))=e/4:=by grind
 show a.f n*b.f n-c.f n*d.f n<e∧c.f n*d.f n-a.f n*b.f n<e
 grind
def pos (a:CS):Prop:=∃e:Rat,0<e∧∃N,∀n,N≤n→e<a.f n
theorem pos_of_eqv {a b:CS} (h:a ≈ b) (k:pos a):pos b:=by
 obtain⟨e,he,N,hN⟩:=k
 obtain⟨M,hM⟩:=h (e/2) (by grind)
 refine⟨e/2,by grind,max N M,fun n hn=>?_⟩
 have:=hN n (by omega)
 have:=hM n (by omega)
 grind
theorem pos_congr {a b:CS} (h:a ≈ b):pos a=pos b:=propext ⟨pos_of_eqv h,pos_of_eqv (eqv_symm h)⟩
theorem tri (a:CS):a ≈ const 0∨pos a∨pos (neg a):=by
 apply Classical.byContradiction
 intro h
 apply h
 refine .inl fun e he=>?_
 obtain⟨N,hN⟩:=a.cau (e/2) (by grind)
 refine⟨N,fun n hn=>?_⟩
 show a.f n-0<e∧0-a.f n<e
 constructor
 ·apply Classical.byContradiction
  intro hc
  refine h (.inr (.inl ⟨e/4,by grind,N,fun m hm=>?_⟩))
  have:=hN n m hn hm
  grind
 ·apply Classical.byContradiction
  intro hc
  refine h (.inr (.inr ⟨e/4,by grind,N,fun m hm=>?_⟩))
  have:=hN m n hm hn
  show e/4< -a.f m
  grind
theorem inv_diff {x y c e:Rat} (hc:0<c) (hx:c<x) (hy:c<y) (he:0<e) (h:x-y<e*(c*c)):y⁻¹-x⁻¹<e:=by
 have hxy:0<x*y:=Rat.mul_pos (by grind) (by grind)
 have e1:y⁻¹-x⁻¹=(x-y)*(x*y)⁻¹:=by grind
 have e2:e=e*(x*y)*(x*y)⁻¹:=by grind
 have p:=Rat.mul_nonneg (a:=x-c) (b:=y) (by grind) (by grind)
 have p':=Rat.mul_nonneg (a:=c) (b:=y-c) (by grind) (by grind)
 have q:=Rat.mul_nonneg (a:=e) (b:=x*y-c*c) (by grind) (by grind)
 have r:=Rat.mul_pos (a:=e*(x*y)-(x-y)) (b:=(x*y)⁻¹) (by grind) (Rat.inv_pos.2 hxy)
 grind
theorem inv_ex {a:CS} (h:pos a):∃b:CS,mul a b ≈ const 1:=by
 obtain⟨c,hc,N,hN⟩:=h
 refine⟨⟨fun n=>(a.f (max N n))⁻¹,fun e he=>?_⟩,?_⟩
 ·have hcc:0<c*c:=Rat.mul_pos hc hc
  obtain⟨M,hM⟩:=a.cau (e*(c*c)) (Rat.mul_pos he hcc)
  refine⟨M,fun n m hn hm=>?_⟩
  exact inv_diff hc (hN _ (by omega)) (hN _ (by omega)) he (hM _ _ (by omega) (by omega))
 ·intro e he
  refine⟨N,fun n hn=>?_⟩
  have:=hN n hn
  have h1:a.f n*(a.f (max N n))⁻¹=1:=by rw[Nat.max_eq_right hn];grind
  show a.f n*(a.f (max N n))⁻¹-1<e∧1-a.f n*(a.f (max N n))⁻¹<e
  grind
theorem mul_pos {a b:CS} (h:pos a) (k:pos b):pos (mul a b):=by
 obtain⟨c,hc,N,hN⟩:=h
 obtain⟨d,hd,M,hM⟩:=k
 refine⟨c*d,Rat.mul_pos hc hd,max N M,fun n hn=>?_⟩
 have h1:=hN n (by omega)
 have h2:=hM n (by omega)
 have p:=Rat.mul_pos (a:=a.f n-c) (b:=d) (by grind) hd
 have q:=Rat.mul_pos (a:=a.f n) (b:=b.f n-d) (by grind) (by grind)
 show c*d<a.f n*b.f n
 grind
theorem add_pos {a b:CS} (h:pos a) (k:pos b):pos (add a b):=by
 obtain⟨c,hc,N,hN⟩:=h
 obtain⟨d,hd,M,hM⟩:=k
 refine⟨c+d,by grind,max N M,fun n hn=>?_⟩
 have h1:=hN n (by omega)
 have h2:=hM n (by omega)
 show c+d<a.f n+b.f n
 grind
theorem not_pos_neg {a:CS} (h:pos a):¬pos (neg a):=by
 rintro⟨d,hd,M,hM⟩
 obtain⟨c,hc,N,hN⟩:=h
 have h1:=hN (max N M) (by omega)
 have h2:d< -a.f (max N M):=hM (max N M) (by omega)
 grind
theorem not_pos_zero:¬pos (const 0):=by
 rintro⟨d,hd,M,hM⟩
 have h2:d<0:=hM M (by omega)
 grind
theorem pow2_pos (k:Nat):(0:Rat)<2^k:=Rat.pow_pos (by decide)
theorem pow2_inv (k:Nat):(0:Rat)<(2^k)⁻¹:=Rat.inv_pos.2 (pow2_pos k)
theorem nat_lt_pow2 (k:Nat):(k:Rat)<2^k:=by
 have:=Nat.lt_two_pow_self (n:=k)
 have h:((k:Nat):Rat)<((2^k:Nat):Rat):=Rat.natCast_lt_natCast.2 this
 simpa using h
theorem small (e:Rat) (he:0<e):∃N:Nat,∀n:Nat,N≤n→((2:Rat)^n)⁻¹<e:=by
 refine⟨e.den,fun n hn=>?_⟩
 have h1:=nat_lt_pow2 n
 have h2:(e.den:Rat)≤(n:Rat):=Rat.natCast_le_natCast.2 hn
 have h3:1≤e*e.den:=by
  have:e*e.den=e.num:=rat_mul_den e
  rw[this]
  have h5:0<e.num:=rat_num_pos he
  have h4:((1:Int):Rat)≤e.num:=Rat.intCast_le_intCast.2 h5
  exact h4
 have h4:=pow2_pos n
 have h5:=Rat.mul_lt_mul_of_pos_left (a:=(e.den:Rat)) (b:=2^n) (c:=e) (by grind) he
 have h6:((2:Rat)^n)⁻¹*2^n=1:=by grind
 have h7:=pow2_inv n
 have h8:=Rat.mul_pos (a:=e*2^n-1) (b:=(2^n)⁻¹) (by grind) h7
 have h9:(e*2^n-1)*((2:Rat)^n)⁻¹=e-((2:Rat)^n)⁻¹:=by grind
 grind
def rootQ (q:Rat) (k:Nat):Rat:=(isqrt (q*(2^k*2^k)).floor.toNat:Rat)*(2^k)⁻¹
theorem rootQ_nn (q:Rat) (k:Nat):0≤rootQ q k:=
 Rat.mul_nonneg (by exact Rat.natCast_nonneg) (Rat.le_of_lt (pow2_inv k))
theorem rootQ_neg {q:Rat} (k:Nat) (h:q≤0):rootQ q k=0:=by
 have h1:q*(2^k*2^k)≤0:=by
  have:=Rat.mul_nonneg (a:= -q) (b:=2^k*2^k) (by grind) (Rat.le_of_lt (Rat.mul_pos (pow2_pos k) (pow2_pos k)))
  generalize (2:Rat)^k=x at*
  grind
 have h2:(q*(2^k*2^k)).floor≤0:=by
  have:=Rat.floor_le (q*(2^k*2^k))
  have h3:((q*(2^k*2^k)).floor:Rat)≤((0:Int):Rat):=Rat.le_trans this h1
  exact Rat.intCast_le_intCast.1 h3
 rw[rootQ,Int.toNat_of_nonpos h2]
 have:isqrt 0=0:=rfl
 rw[this];simp
theorem rootQ_le {q:Rat} (k:Nat) (h:0≤q):rootQ q k*rootQ q k≤q:=by
 have hp:=pow2_pos k
 have hi:=pow2_inv k
 have h1:0≤q*(2^k*2^k):=Rat.mul_nonneg h (Rat.le_of_lt (Rat.mul_pos hp hp))
 have h2:=Rat.floor_le (q*(2^k*2^k))
 have h3:0≤(q*(2^k*2^k)).floor:=Rat.le_floor_iff.2 (by simpa using h1)
 have h4:=isqrt_le (q*(2^k*2^k)).floor.toNat
 rw[rootQ]
 generalize hr:isqrt (q*(2^k*2^k)).floor.toNat=r at*
 have h5:((r*r:Nat):Rat)≤((q*(2^k*2^k)).floor.toNat:Rat):=Rat.natCast_le_natCast.2 h4
 have h6:((q*(2^k*2^k)).floor.toNat:Rat)=((q*(2^k*2^k)).floor:Rat):=by
  have:=Int.toNat_of_nonneg h3
  have h7:(((q*(2^k*2^k)).floor.toNat:Int):Rat)=((q*(2^k*2^k)).floor:Rat):=by rw[this]
  exact h7
 rw[h6] at h5
 have h8:(r:Rat)*r≤q*(2^k*2^k):=by
  have:((r*r:Nat):Rat)=(r:Rat)*r:=by simp
  grind
 have h9:=Rat.mul_nonneg (a:=q*(2^k*2^k)-(r:Rat)*r) (b:=(2^k)⁻¹*(2^k)⁻¹) (by grind) (Rat.le_of_lt (Rat.mul_pos hi hi))
 have e:(2:Rat)^k*(2^k)⁻¹=1:=by grind
 clear h1 h2 h3 h4 h5 h6 hr
 generalize ((2:Rat)^k)⁻¹=y at*
 generalize (2:Rat)^k=x at*
 have e2:(q*(x*x)-(r:Rat)*r)*(y*y)=q-r*y*(r*y):=by grind
 grind
theorem lt_rootQ (q:Rat) (k:Nat):q<(rootQ q k+(2^k)⁻¹)*(rootQ q k+(2^k)⁻¹):=by
 have hp:=pow2_pos k
 have hi:=pow2_inv k
 have h4:=lt_isqrt (q*(2^k*2^k)).floor.toNat
 rw[rootQ]
 generalize hr:isqrt (q*(2^k*2^k)).floor.toNat=r at*
 have h2:q*(2^k*2^k)<(q*(2^k*2^k)).floor+1:=by
  have:=Rat.lt_floor_add_one (q*(2^k*2^k))
  rwa [Rat.intCast_add] at this
 have h3:(q*(2^k*2^k)).floor≤((q*(2^k*2^k)).floor.toNat:Int):=Int.self_le_toNat _
 have h3':((q*(2^k*2^k)).floor:Rat)≤((q*(2^k*2^k)).floor.toNat:Rat):=by
  exact Rat.intCast_le_intCast.2 h3
 have h5:((q*(2^k*2^k)).floor.toNat:Rat)+1≤((r:Rat)+1)*(r+1):=by
  have h6:(q*(2^k*2^k)).floor.toNat+1≤(r+1)*(r+1):=h4
  have:=Rat.natCast_le_natCast.2 h6
  simpa using this
 have h9:=Rat.mul_pos (a:=((r:Rat)+1)*(r+1)-q*(2^k*2^k)) (b:=(2^k)⁻¹*(2^k)⁻¹) (by grind) (Rat.mul_pos hi hi)
 have e:(2:Rat)^k*(2^k)⁻¹=1:=by grind
 clear h2 h3 h4 h5 h3' hr
 generalize ((2:Rat)^k)⁻¹=y at*
 generalize (2:Rat)^k=x at*
 have e2:(((r:Rat)+1)*(r+1)-q*(x*x))*(y*y)=(r*y+y)*(r*y+y)-q:=by grind
 grind
theorem root_near {p q e:Rat} {k l:Nat} (he:0<e) (hl:((2:Rat)^l)⁻¹<e/2) (h:p-q<e*e/2):rootQ p k-rootQ q l<e:=by
 apply Classical.byContradiction
 intro hn
 have h1:=rootQ_nn q l
 have h2:=lt_rootQ q l
 have hp:0≤p:=by
  apply Classical.byContradiction
  intro hc
  have:=rootQ_neg (q:=p) k (by grind)
  grind
 have h3:=rootQ_le k hp
 have h4:=pow2_inv l
 generalize rootQ p k=s at*
 generalize rootQ q l=t at*
 generalize ((2:Rat)^l)⁻¹=d at*
 have p1:=Rat.mul_nonneg (a:=s-(t+d)-e/2) (b:=s+(t+d)) (by grind) (by grind)
 have p2:=Rat.mul_nonneg (a:=e/2) (b:=s+t+d-e) (by grind) (by grind)
 grind
def sqrt (a:CS):CS:=⟨fun n=>rootQ (a.f n) n,fun e he=>by
 obtain⟨N,hN⟩:=small (e/2) (by grind)
 obtain⟨M,hM⟩:=a.cau (e*e/2) (by have:=Rat.mul_pos he he;grind)
 refine⟨max N M,fun n m hn hm=>?_⟩
 exact root_near he (hN m (by omega)) (hM n m (by omega) (by omega))⟩
theorem sqrt_congr {a b:CS} (h:a ≈ b):sqrt a ≈ sqrt b:=fun e he=>by
 obtain⟨N,hN⟩:=small (e/2) (by grind)
 obtain⟨M,hM⟩:=h (e*e/2) (by have:=Rat.mul_pos he he;grind)
 refine⟨max N M,fun n hn=>?_⟩
 have:=hM n (by omega)
 exact⟨root_near he (hN n (by omega)) this.1,root_near he (hN n (by omega)) this.2⟩
theorem sqrt_sq {a:CS} (h:¬pos (neg a)):mul (sqrt a) (sqrt a) ≈ a:=fun e he=>by
 obtain⟨B,hB,P,hP⟩:=(sqrt a).bdd
 have p1:0<e/(2*B+1):=by rw[Rat.div_def];exact Rat.mul_pos (by grind) (Rat.inv_pos.2 (by grind))
 obtain⟨N,hN⟩:=small _ p1
 obtain⟨N1,hN1⟩:=small 1 (by decide)
 obtain⟨M,hM⟩:=a.cau (e/2) (by grind)
 have hneg:∃n,M≤n∧ -(e/2)<a.f n:=by
  apply Classical.byContradiction
  intro hc
  apply h
  refine⟨e/4,by grind,M,fun n hn=>?_⟩
  have:¬(-(e/2)<a.f n):=fun hh=>hc ⟨n,hn,hh⟩
  show e/4< -a.f n
  grind
 obtain⟨n0,hn0,hneg⟩:=hneg
 refine⟨max (max N N1) (max M P),fun n hn=>?_⟩
 have h1:=hP n (by omega)
 have h2:=hN n (by omega)
 have h3:=hM n0 n hn0 (by omega)
 have h4:=lt_rootQ (a.f n) n
 have h5:=rootQ_nn (a.f n) n
 have h6:=pow2_inv n
 have h7:=hN1 n (by omega)
 show rootQ (a.f n) n*rootQ (a.f n) n-a.f n<e∧a.f n-rootQ (a.f n) n*rootQ (a.f n) n<e
 have h1':rootQ (a.f n) n≤B:=h1.1
 constructor
 ·by_cases hp:0≤a.f n
  ·have:=rootQ_le n hp
   grind
  ·rw[rootQ_neg n (by grind)]
   grind
 ·generalize rootQ (a.f n) n=s at*
  generalize ((2:Rat)^n)⁻¹=d at*
  have q1:=Rat.mul_nonneg (a:=B-s) (b:=d) (by grind) (by grind)
  have q2:=Rat.mul_nonneg (a:=1-d) (b:=d) (by grind) (by grind)
  have q3:=Rat.mul_pos (a:=e/(2*B+1)-d) (b:=2*B+1) (by grind) (by grind)
  have q4:e/(2*B+1)*(2*B+1)=e:=by grind
  grind
theorem sqrt_nn (a:CS):¬pos (neg (sqrt a)):=by
 rintro⟨e,he,N,hN⟩
 have h1:e< -rootQ (a.f N) N:=hN N (Nat.le_refl _)
 have:=rootQ_nn (a.f N) N
 grind
end CS
def Re:Type:=Quotient CS.st
namespace Re
def mk (a:CS):Re:=Quotient.mk _ a
def ofRat (q:Rat):Re:=mk (CS.const q)
def add (x y:Re):Re:=Quotient.liftOn₂ x y (fun a b=>mk (CS.add a b)) fun _ _ _ _ h k=>Quotient.sound (CS.add_congr h k)
def mul (x y:Re):Re:=Quotient.liftOn₂ x y (fun a b=>mk (CS.mul a b)) fun _ _ _ _ h k=>Quotient.sound (CS.mul_congr h k)
def neg (x:Re):Re:=Quotient.liftOn x (fun a=>mk (CS.neg a)) fun _ _ h=>Quotient.sound (CS.neg_congr h)
def sqrt (x:Re):Re:=Quotient.liftOn x (fun a=>mk (CS.sqrt a)) fun _ _ h=>Quotient.sound (CS.sqrt_congr h)
def pos (x:Re):Prop:=Quotient.liftOn x CS.pos fun _ _ h=>CS.pos_congr h
def pow (x:Re):Nat→Re
 | 0=>ofRat 1
 | n+1=>mul (pow x n) x
instance:Add Re:=⟨add⟩
instance:Mul Re:=⟨mul⟩
instance:Neg Re:=⟨neg⟩
instance:Sub Re:=⟨fun a b=>add a (neg b)⟩
instance (n:Nat):OfNat Re n:=⟨ofRat n⟩
instance:NatCast Re:=⟨fun n=>ofRat n⟩
instance:IntCast Re:=⟨fun n=>ofRat n⟩
instance:Pow Re Nat:=⟨pow⟩
instance:SMul Nat Re:=⟨fun n a=>mul (ofRat n) a⟩
instance:SMul Int Re:=⟨fun n a=>mul (ofRat n) a⟩
instance:LT Re:=⟨fun a b=>pos (add b (neg a))⟩
instance:LE Re:=⟨fun a b=>¬pos (add a (neg b))⟩
theorem sound {a b:CS} (h:∀n,a.f n=b.f n):mk a=mk b:=Quotient.sound (CS.eqv_of_eq h)
theorem ind1 {p:Re→Prop} (h:∀a,p (mk a)) (x:Re):p x:=Quotient.ind h x
theorem add_assoc (x y z:Re):x+y+z=x+(y+z):=by
 induction x using ind1;induction y using ind1;induction z using ind1
 exact sound fun n=>Rat.add_assoc _ _ _
theorem add_comm (x y:Re):x+y=y+x:=by
 induction x using ind1;induction y using ind1
 exact sound fun n=>Rat.add_comm _ _
theorem add_zero (x:Re):x+0=x:=by
 induction x using ind1
 exact sound fun n=>Rat.add_zero _
theorem neg_add_cancel (x:Re): -x+x=0:=by
 induction x using ind1
 exact sound fun n=>Rat.neg_add_cancel _
theorem mul_assoc (x y z:Re):x*y*z=x*(y*z):=by
 induction x using ind1;induction y using ind1;induction z using ind1
 exact sound fun n=>Rat.mul_assoc _ _ _
theorem mul_comm (x y:Re):x*y=y*x:=by
 induction x using ind1;induction y using ind1
 exact sound fun n=>Rat.mul_comm _ _
theorem mul_one (x:Re):x*1=x:=by
 induction x using ind1
 exact sound fun n=>Rat.mul_one _
theorem left_distrib (x y z:Re):x*(y+z)=x*y+x*z:=by
 induction x using ind1;induction y using ind1;induction z using ind1
 exact sound fun n=>Rat.mul_add _ _ _
theorem zero_mul (x:Re):0*x=0:=by
 induction x using ind1
 exact sound fun n=>Rat.zero_mul _
theorem ofRat_add (p q:Rat):ofRat (p+q)=ofRat p+ofRat q:=rfl
theorem ofRat_mul (p q:Rat):ofRat (p*q)=ofRat p*ofRat q:=rfl
theorem ofRat_neg (p:Rat):ofRat (-p)= -ofRat p:=rfl
abbrev Cls {C:Type→Type} {α:Type} (_:C α):Type→Type:=C
abbrev RingC:Type→Type:=Cls Dyadic.instCommRing
abbrev SemiC:Type→Type:=Cls Dyadic.instCommRing.toRing.toSemiring
instance:RingC Re where
 add_assoc:=add_assoc
 add_comm:=add_comm
 add_zero:=add_zero
 neg_add_cancel:=neg_add_cancel
 mul_assoc:=mul_assoc
 mul_comm:=mul_comm
 mul_one:=mul_one
 one_mul:=fun x=>by rw[mul_comm,mul_one]
 left_distrib:=left_distrib
 right_distrib:=fun x y z=>by rw[mul_comm,left_distrib,mul_comm z x,mul_comm z y]
 zero_mul:=zero_mul
 mul_zero:=fun x=>by rw[mul_comm,zero_mul]
 pow_zero:=fun _=>rfl
 pow_succ:=fun _ _=>rfl
 sub_eq_add_neg:=fun _ _=>rfl
 neg_zsmul:=fun i x=>by
  show mul (ofRat ((-i:Int):Rat)) x=neg (mul (ofRat (i:Rat)) x)
  rw[Rat.intCast_neg]
  induction x using ind1
  exact sound fun n=>Rat.neg_mul _ _
 zsmul_natCast_eq_nsmul:=fun _ _=>rfl
 nsmul_eq_natCast_mul:=fun _ _=>rfl
 ofNat_succ:=fun n=>by
  show ofRat ((n+1:Nat):Rat)=ofRat (n:Rat)+ofRat 1
  rw[Rat.natCast_add,ofRat_add]
  rfl
 ofNat_eq_natCast:=fun _=>rfl
 intCast_ofNat:=fun _=>rfl
 intCast_neg:=fun i=>by
  show ofRat ((-i:Int):Rat)=neg (ofRat (i:Rat))
  rw[Rat.intCast_neg]
  rfl
theorem lt_def (x y:Re):x<y↔pos (y-x):=Iff.rfl
theorem le_def (x y:Re):x≤y↔¬pos (x-y):=Iff.rfl
theorem pos_mul {x y:Re}:pos x→pos y→pos (x*y):=by
 induction x using ind1;induction y using ind1
 exact CS.mul_pos
theorem pos_add {x y:Re}:pos x→pos y→pos (x+y):=by
 induction x using ind1;induction y using ind1
 exact CS.add_pos
theorem pos_neg {x:Re}:pos x→¬pos (-x):=by
 induction x using ind1
 exact CS.not_pos_neg
theorem pos_zero:¬pos 0:=CS.not_pos_zero
theorem pos_tri (x:Re):x=0∨pos x∨pos (-x):=by
 induction x using ind1
 rcases CS.tri _ with h | h | h
 ·exact .inl (Quotient.sound h)
 ·exact .inr (.inl h)
 ·exact .inr (.inr h)
theorem pos_ofRat {q:Rat}:pos (ofRat q)↔0<q:=by
 constructor
 ·rintro⟨e,he,N,hN⟩
  have:e<q:=hN N (Nat.le_refl _)
  grind
 ·intro h
  exact⟨q/2,by grind,0,fun n _=>by show q/2<q;grind⟩
theorem le_trans' {x y z:Re} (h:x≤y) (k:y≤z):x≤z:=by
 rw[le_def] at*
 intro hp
 rcases pos_tri (x-y) with e | e | e
 ·rw[show x-z=(x-y)+(y-z) by grind,e,show 0+(y-z)=y-z by grind] at hp
  exact k hp
 ·exact h e
 ·have:=pos_add hp e
  rw[show x-z+ -(x-y)=y-z by grind] at this
  exact k this
theorem le_total' (x y:Re):x≤y∨y≤x:=by
 rw[le_def,le_def]
 by_cases h:pos (x-y)
 ·right
  have:=pos_neg h
  rwa [show -(x-y)=y-x by grind] at this
 ·exact .inl h
theorem le_antisymm' {x y:Re} (h:x≤y) (k:y≤x):x=y:=by
 rw[le_def] at*
 rcases pos_tri (x-y) with e | e | e
 ·grind
 ·exact (h e).elim
 ·rw[show -(x-y)=y-x by grind] at e
  exact (k e).elim
theorem lt_iff' (x y:Re):x<y↔x≤y∧¬y≤x:=by
 rw[lt_def,le_def,le_def]
 constructor
 ·intro h
  refine⟨?_,fun k=>k h⟩
  have:=pos_neg h
  rwa [show -(y-x)=x-y by grind] at this
 ·rintro⟨_,h⟩
  exact Classical.not_not.1 h
instance:Std.IsLinearOrder Re where
 le_refl:=fun x=>by
  rw[le_def,show x-x=0 by grind]
  exact pos_zero
 le_trans:=fun _ _ _=>le_trans'
 le_antisymm:=fun _ _=>le_antisymm'
 le_total:=le_total'
instance:Std.LawfulOrderLT Re where
 lt_iff:=lt_iff'
abbrev OrdC {C:(β:Type)→(s:SemiC β)→(l:LE β)→(t:LT β)→Std.IsPreorder β→Prop} {α:Type} {s:SemiC α} {l:LE α} {t:LT α} {p:Std.IsPreorder α} (_:C α s l t p):(β:Type)→(s:SemiC β)→(l:LE β)→(t:LT β)→Std.IsPreorder β→Prop:=C
theorem mul_lt_left {a b c:Re} (h:a<b) (hc:0<c):c*a<c*b:=by
 rw[lt_def] at*
 rw[show c*b-c*a=(c-0)*(b-a) by grind]
 exact pos_mul hc h
instance:OrdC Dyadic.instOrderedRing Re inferInstance inferInstance inferInstance inferInstance where
 add_le_left_iff:=fun c=>by
  rename_i a b
  rw[le_def,le_def,show a+c-(b+c)=a-b by grind]
 zero_lt_one:=by
  rw[lt_def]
  show pos (ofRat 1-ofRat 0)
  have:ofRat 1-ofRat 0=ofRat 1:=by
   show (1:Re)-0=1
   grind
  rw[this,pos_ofRat]
  decide
 mul_lt_mul_of_pos_left:=fun h hc=>mul_lt_left h hc
 mul_lt_mul_of_pos_right:=fun h hc=>by
  rename_i a b c
  rw[mul_comm a c,mul_comm b c]
  exact mul_lt_left h hc
theorem mul_pos {x y:Re} (h:0<x) (k:0<y):0<x*y:=by
 have:=mul_lt_left k h
 grind
theorem mul_nn {x y:Re} (h:0≤x) (k:0≤y):0≤x*y:=by
 by_cases h':0<x
 ·by_cases k':0<y
  ·have:=mul_pos h' k'
   grind
  ·have:y=0:=by grind
   subst this
   grind
 ·have:x=0:=by grind
  subst this
  grind
theorem ofRat_lt {p q:Rat}:ofRat p<ofRat q↔p<q:=by
 rw[lt_def]
 have:ofRat q-ofRat p=ofRat (q-p):=by
  rw[show q-p=q+ -p by grind,ofRat_add,ofRat_neg];grind
 rw[this,pos_ofRat]
 grind
theorem ofRat_le {p q:Rat}:ofRat p≤ofRat q↔p≤q:=by
 have:= @ofRat_lt q p
 grind
theorem ofRat_inj {p q:Rat}:ofRat p=ofRat q↔p=q:=by
 constructor
 ·intro h
  have h1:=(@ofRat_le p q).1 (by grind)
  have h2:=(@ofRat_le q p).1 (by grind)
  grind
 ·rintro rfl;rfl
theorem inv_pos_ex {x:Re} (h:0<x):∃y,x*y=1:=by
 rw[lt_def,show x-0=x by grind] at h
 induction x using ind1
 obtain⟨b,hb⟩:=CS.inv_ex h
 exact⟨mk b,Quotient.sound hb⟩
theorem inv_ex {x:Re} (h:x≠0):∃y,x*y=1:=by
 by_cases hx:0<x
 ·exact inv_pos_ex hx
 ·obtain⟨y,hy⟩:=inv_pos_ex (x:= -x) (by grind)
  exact⟨-y,by grind⟩
theorem sqrt_nn (x:Re):0≤sqrt x:=by
 rw[le_def,show 0-sqrt x= -sqrt x by grind]
 induction x using ind1
 exact CS.sqrt_nn _
theorem sqrt_sq {x:Re} (h:0≤x):sqrt x*sqrt x=x:=by
 rw[le_def,show 0-x= -x by grind] at h
 induction x using ind1
 exact Quotient.sound (CS.sqrt_sq h)
theorem eq_zero_or {x y:Re} (h:x*y=0):x=0∨y=0:=by
 by_cases hx:x=0
 ·exact .inl hx
 ·obtain⟨z,hz⟩:=inv_ex hx
  right
  have:y=(x*z)*y:=by rw[hz];grind
  grind
theorem sq_nn (x:Re):0≤x*x:=by
 by_cases h:0≤x
 ·exact mul_nn h h
 ·have:=mul_nn (x:= -x) (y:= -x) (by grind) (by grind)
  grind
theorem sq_inj {x y:Re} (hx:0≤x) (hy:0≤y) (h:x*x=y*y):x=y:=by
 have:(x-y)*(x+y)=0:=by grind
 rcases eq_zero_or this with e | e
 ·grind
 ·grind
end Re
end Go.Abs
