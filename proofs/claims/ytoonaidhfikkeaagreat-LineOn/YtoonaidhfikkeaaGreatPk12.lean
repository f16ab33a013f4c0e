/- Part 13 of a proof. Conditions: each theorem's own. -/
import Derived.Test.YtoonaidhfikkeaaGreatPk11
set_option linter.all false
set_option maxHeartbeats 8000000
namespace Go.Abs
variable {B d:Rat}
theorem Yf (e:Rat):e=e.num/e.den:=by
 have h:=Rat.mkRat_self e;rw[Rat.mkRat_eq_div] at h;exact h.symm
theorem Hp (e:Rat):e*e.den=e.num:=by
 have h:(e.den:Rat)≠0:=by
  intro h;exact e.den_nz (Rat.natCast_eq_zero_iff.1 h)
 have:=Yf e
 grind
theorem Yg {e:Rat} (h:0<e):0<e.num:=by
 have:=(Rat.lt_iff 0 e).1 h;simpa using this
theorem Hh {a e:Rat} (c:a<=B) (f: -B<=a) (g:d<=e) (h: -e<=d):a*d<=B*e:=by
 have p:=Rat.mul_nonneg (a:=B-a) (b:=e+d) (by grind) (by grind);have q:=Rat.mul_nonneg (a:=B+a) (b:=e-d) (by grind) (by grind)
 grind
theorem Xq {a e:Rat} (g:a<=B) (h: -B<=a) (c:d<=e) (f: -e<=d): -(B*e)<=a*d:=by
 have:=Hh (a:= -a) (d:=d) (B:=B) (e:=e) (by grind) (by grind) c f
 grind
structure CS where
 f:Nat->Rat
 FF:∀e:Rat,0<e->∃N,∀n m,N<=n->N<=m->f n-f m<e
namespace CS
def eqv (a b:CS):Prop:=∀e:Rat,0<e->∃N,∀n,N<=n->a.f n-b.f n<e/\b.f n-a.f n<e
theorem Wk (a:CS):eqv a a:=fun e he=>⟨0,fun n _=>by grind⟩
theorem QK {a b:CS} (h:eqv a b):eqv b a:=fun e he=>by
 obtain⟨N,c⟩:=h e he;exact⟨N,fun n f=>⟨(c n f).2,(c n f).1⟩⟩
theorem Wl {a b c:CS} (h:eqv a b) (k:eqv b c):eqv a c:=fun e he=>by
 obtain⟨N,f⟩:=h (e/2) (by grind);obtain⟨M,hM⟩:=k (e/2) (by grind);refine⟨max N M,fun n g=>?_⟩;have:=f n (by omega);have:=hM n (by omega)
 grind
instance st:Setoid CS:=⟨eqv,Wk,QK,Wl⟩
theorem Wj {a b:CS} (h:∀n,a.f n=b.f n):a ≈ b:=fun e he=>⟨0,fun n _=>by have:=h n;grind⟩
theorem IK (a:CS):∃B:Rat,0<B/\∃N,∀n,N<=n->a.f n<=B/\ -B<=a.f n:=by
 obtain⟨N,c⟩:=a.FF 1 (by decide)
 have i:0<=max (a.f N) (-(a.f N)):=by
  rcases Rat.le_total (a:=a.f N) (b:= -(a.f N)) with h | h
  ·rw[Rat.max_def,if_pos h];grind
  by_cases h':a.f N<= -(a.f N)
  ·rw[Rat.max_def,if_pos h'];grind
  rw[Rat.max_def,if_neg h'];grind
 have j:a.f N<=max (a.f N) (-(a.f N)):=by rw[Rat.max_def];split <;> grind
 have k: -(a.f N)<=max (a.f N) (-(a.f N)):=by rw[Rat.max_def];split <;> grind
 refine⟨max (a.f N) (-(a.f N))+1,by grind,N,fun n g=>?_⟩;have:=c n N g (Nat.le_refl _);have:=c N n (Nat.le_refl _) g
 grind
def const (q:Rat):CS:=⟨fun _=>q,fun e he=>⟨0,fun n m _ _=>by grind⟩⟩
def add (a b:CS):CS:=⟨fun n=>a.f n+b.f n,fun e he=>by
 obtain⟨N,hN⟩:=a.FF (e/2) (by grind);obtain⟨M,hM⟩:=b.FF (e/2) (by grind);refine⟨max N M,fun n m hn hm=>?_⟩;have:=hN n m (by omega) (by omega);have:=hM n m (by omega) (by omega)
 grind⟩
def neg (a:CS):CS:=⟨fun n=> -a.f n,fun e he=>by
 obtain⟨N,hN⟩:=a.FF e he;refine⟨N,fun n m hn hm=>?_⟩;have:=hN m n hm hn
 grind⟩
theorem Q4 {x y u v A e:Rat} (s:0<A) (z:0<B) (he:0<e) (h:x<=A) (f: -A<=x) (g:v<=B) (c: -B<=v)
  (k:x-u<e/(2*B)) (l:u-x<e/(2*B)) (m:y-v<e/(2*A)) (o:v-y<e/(2*A)):x*y-u*v<=e:=by
 have p:=Hh (a:=x) (d:=y-v) (B:=A) (e:=e/(2*A)) h f (by grind) (by grind);have q:=Hh (a:=v) (d:=x-u) (B:=B) (e:=e/(2*B)) g c (by grind) (by grind);have i:A*(e/(2*A))=e/2:=by grind
 have j:B*(e/(2*B))=e/2:=by grind
 grind
def mul (a b:CS):CS:=⟨fun n=>a.f n*b.f n,fun e he=>by
 obtain⟨A,hA,N,hN⟩:=a.IK;obtain⟨B,hB,M,hM⟩:=b.IK;have p1:0<(e/2)/(2*B):=by rw[Rat.div_def];exact Rat.mul_pos (by grind) (Rat.inv_pos.2 (by grind))
 have p2:0<(e/2)/(2*A):=by rw[Rat.div_def];exact Rat.mul_pos (by grind) (Rat.inv_pos.2 (by grind))
 obtain⟨P,hP⟩:=a.FF _ p1;obtain⟨Q,hQ⟩:=b.FF _ p2;refine⟨max (max N M) (max P Q),fun n m hn hm=>?_⟩;have hn1:=hN n (by omega);have hm1:=hM m (by omega);have:=Q4 (e:=e/2) hA hB (by grind) hn1.1 hn1.2 hm1.1 hm1.2 (hP n m (by omega) (by omega)) (hP m n (by omega) (by omega)) (hQ n m (by omega) (by omega)) (hQ m n (by omega) (by omega))
 grind⟩
theorem add_congr {a b c d:CS} (h:a ≈ c) (k:b ≈ d):add a b ≈ add c d:=fun e he=>by
 obtain⟨N,g⟩:=h (e/2) (by grind);obtain⟨M,hM⟩:=k (e/2) (by grind);refine⟨max N M,fun n i=>?_⟩;have:=g n (by omega);have:=hM n (by omega)
 show a.f n+b.f n-(c.f n+d.f n)<e/\c.f n+d.f n-(a.f n+b.f n)<e
 grind
theorem neg_congr {a c:CS} (h:a ≈ c):neg a ≈ neg c:=fun e he=>by
 obtain⟨N,g⟩:=h e he;refine⟨N,fun n i=>?_⟩;have:=g n i
 show -a.f n- -c.f n<e/\ -c.f n- -a.f n<e
 grind
theorem mul_congr {a b c d:CS} (h:a ≈ c) (k:b ≈ d):mul a b ≈ mul c d:=fun e he=>by
 obtain⟨A,m,N,s⟩:=a.IK;obtain⟨B,o,M,hM⟩:=d.IK;have C:0<(e/2)/(2*B):=by rw[Rat.div_def];exact Rat.mul_pos (by grind) (Rat.inv_pos.2 (by grind))
 have D:0<(e/2)/(2*A):=by rw[Rat.div_def];exact Rat.mul_pos (by grind) (Rat.inv_pos.2 (by grind))
 obtain⟨P,v⟩:=h _ C;obtain⟨Q,z⟩:=k _ D;refine⟨max (max N M) (max P Q),fun n H=>?_⟩;have i:=s n (by omega);have g:=hM n (by omega);have j:=v n (by omega);have l:=z n (by omega);have t1:=Q4 (e:=e/2) m o (by grind) i.1 i.2 g.1 g.2 j.1 j.2 l.1 l.2;have p:=Hh (a:=a.f n) (d:=d.f n-b.f n) (B:=A) (e:=(e/2)/(2*A)) i.1 i.2 (by grind) (by grind);have q:=Hh (a:=d.f n) (d:=c.f n-a.f n) (B:=B) (e:=(e/2)/(2*B)) g.1 g.2 (by grind) (by grind);have F:A*((e/2)/(2*A))=e/4:=by grind
 have G:B*((e/2)/(2*B))=e/4:=by grind
 show a.f n*b.f n-c.f n*d.f n<e/\c.f n*d.f n-a.f n*b.f n<e
 grind
def pos (a:CS):Prop:=∃e:Rat,0<e/\∃N,∀n,N<=n->e<a.f n
theorem Rn {a b:CS} (h:a ≈ b) (k:pos a):pos b:=by
 obtain⟨e,he,N,c⟩:=k;obtain⟨M,hM⟩:=h (e/2) (by grind);refine⟨e/2,by grind,max N M,fun n f=>?_⟩;have:=c n (by omega);have:=hM n (by omega)
 grind
theorem YS {a b:CS} (h:a ≈ b):pos a=pos b:=propext ⟨Rn h,Rn (QK h)⟩
theorem tri (a:CS):a ≈ const 0\/pos a\/pos (neg a):=by
 apply Classical.byContradiction;intro h;apply h;refine .inl fun e he=>?_
 obtain⟨N,c⟩:=a.FF (e/2) (by grind);refine⟨N,fun n g=>?_⟩
 show a.f n-0<e/\0-a.f n<e
 constructor
 ·apply Classical.byContradiction;intro i;refine h (.inr (.inl ⟨e/4,by grind,N,fun m hm=>?_⟩));have:=c n m g hm
  grind
 apply Classical.byContradiction;intro i;refine h (.inr (.inr ⟨e/4,by grind,N,fun m hm=>?_⟩));have:=c m n hm g
 show e/4< -a.f m
 grind
theorem XL {x y c e:Rat} (j:0<c) (k:c<x) (l:c<y) (he:0<e) (h:x-y<e*(c*c)):y⁻¹-x⁻¹<e:=by
 have f:0<x*y:=Rat.mul_pos (by grind) (by grind);have g:y⁻¹-x⁻¹=(x-y)*(x*y)⁻¹:=by grind
 have i:e=e*(x*y)*(x*y)⁻¹:=by grind
 have p:=Rat.mul_nonneg (a:=x-c) (b:=y) (by grind) (by grind);have m:=Rat.mul_nonneg (a:=c) (b:=y-c) (by grind) (by grind);have q:=Rat.mul_nonneg (a:=e) (b:=x*y-c*c) (by grind) (by grind);have r:=Rat.mul_pos (a:=e*(x*y)-(x-y)) (b:=(x*y)⁻¹) (by grind) (Rat.inv_pos.2 f)
 grind
theorem Ic {a:CS} (h:pos a):∃b:CS,mul a b ≈ const 1:=by
 obtain⟨c,i,N,g⟩:=h;refine⟨⟨fun n=>(a.f (max N n))⁻¹,fun e he=>?_⟩,?_⟩
 ·have j:0<c*c:=Rat.mul_pos i i;obtain⟨M,hM⟩:=a.FF (e*(c*c)) (Rat.mul_pos he j);refine⟨M,fun n m k hm=>?_⟩;exact XL i (g _ (by omega)) (g _ (by omega)) he (hM _ _ (by omega) (by omega))
 intro e he;refine⟨N,fun n k=>?_⟩;have:=g n k;have l:a.f n*(a.f (max N n))⁻¹=1:=by rw[Nat.max_eq_right k];grind
 show a.f n*(a.f (max N n))⁻¹-1<e/\1-a.f n*(a.f (max N n))⁻¹<e
 grind
theorem mul_pos {a b:CS} (h:pos a) (k:pos b):pos (mul a b):=by
 obtain⟨c,j,N,i⟩:=h;obtain⟨d,g,M,hM⟩:=k;refine⟨c*d,Rat.mul_pos j g,max N M,fun n o=>?_⟩;have l:=i n (by omega);have m:=hM n (by omega);have p:=Rat.mul_pos (a:=a.f n-c) (b:=d) (by grind) g;have q:=Rat.mul_pos (a:=a.f n) (b:=b.f n-d) (by grind) (by grind)
 show c*d<a.f n*b.f n
 grind
theorem add_pos {a b:CS} (h:pos a) (k:pos b):pos (add a b):=by
 obtain⟨c,l,N,g⟩:=h;obtain⟨d,m,M,hM⟩:=k;refine⟨c+d,by grind,max N M,fun n o=>?_⟩;have i:=g n (by omega);have j:=hM n (by omega)
 show c+d<a.f n+b.f n
 grind
theorem YB {a:CS} (h:pos a):¬pos (neg a):=by
 rintro⟨d,l,M,hM⟩
 obtain⟨c,k,N,g⟩:=h;have i:=g (max N M) (by omega);have j:d< -a.f (max N M):=hM (max N M) (by omega)
 grind
theorem YC:¬pos (const 0):=by
 rintro⟨d,f,M,hM⟩
 have c:d<0:=hM M (by omega)
 grind
theorem Hn (k:Nat):(0:Rat)<2^k:=Rat.pow_pos (by decide)
theorem Hm (k:Nat):(0:Rat)<(2^k)⁻¹:=Rat.inv_pos.2 (Hn k)
theorem Xx (k:Nat):(k:Rat)<2^k:=by
 have:=Nat.lt_two_pow_self (n:=k);have h:((k:Nat):Rat)<((2^k:Nat):Rat):=Rat.natCast_lt_natCast.2 this;simpa using h
theorem small (e:Rat) (he:0<e):∃N:Nat,∀n:Nat,N<=n->((2:Rat)^n)⁻¹<e:=by
 refine⟨e.den,fun n i=>?_⟩;have j:=Xx n;have k:(e.den:Rat)<=(n:Rat):=Rat.natCast_le_natCast.2 i
 have l:1<=e*e.den:=by
  have:e*e.den=e.num:=Hp e;rw[this];have g:0<e.num:=Yg he;have f:((1:Int):Rat)<=e.num:=Rat.intCast_le_intCast.2 g;exact f
 have f:=Hn n;have g:=Rat.mul_lt_mul_of_pos_left (a:=(e.den:Rat)) (b:=2^n) (c:=e) (by grind) he;have m:((2:Rat)^n)⁻¹*2^n=1:=by grind
 have h:=Hm n;have o:=Rat.mul_pos (a:=e*2^n-1) (b:=(2^n)⁻¹) (by grind) h;have q:(e*2^n-1)*((2:Rat)^n)⁻¹=e-((2:Rat)^n)⁻¹:=by grind
 grind
def Cu (q:Rat) (k:Nat):Rat:=(Ar (q*(2^k*2^k)).floor.toNat:Rat)*(2^k)⁻¹
theorem NN (q:Rat) (k:Nat):0<=Cu q k:=
 Rat.mul_nonneg (by exact Rat.natCast_nonneg) (Rat.le_of_lt (Hm k))
theorem SF {q:Rat} (k:Nat) (h:q<=0):Cu q k=0:=by
 have c:q*(2^k*2^k)<=0:=by
  have:=Rat.mul_nonneg (a:= -q) (b:=2^k*2^k) (by grind) (Rat.le_of_lt (Rat.mul_pos (Hn k) (Hn k)))
  generalize (2:Rat)^k=x at*
  grind
 have f:(q*(2^k*2^k)).floor<=0:=by
  have:=Rat.floor_le (q*(2^k*2^k));have g:((q*(2^k*2^k)).floor:Rat)<=((0:Int):Rat):=Rat.le_trans this c;exact Rat.intCast_le_intCast.1 g
 rw[Cu,Int.toNat_of_nonpos f];have:Ar 0=0:=rfl;rw[this];simp
theorem SE {q:Rat} (k:Nat) (h:0<=q):Cu q k*Cu q k<=q:=by
 have m:=Hn k;have l:=Hm k;have c:0<=q*(2^k*2^k):=Rat.mul_nonneg h (Rat.le_of_lt (Rat.mul_pos m m));have o:=Rat.floor_le (q*(2^k*2^k));have f:0<=(q*(2^k*2^k)).floor:=Rat.le_floor_iff.2 (by simpa using c);have g:=Ie (q*(2^k*2^k)).floor.toNat;rw[Cu]
 generalize v:Ar (q*(2^k*2^k)).floor.toNat=r at*
 have i:((r*r:Nat):Rat)<=((q*(2^k*2^k)).floor.toNat:Rat):=Rat.natCast_le_natCast.2 g
 have j:((q*(2^k*2^k)).floor.toNat:Rat)=((q*(2^k*2^k)).floor:Rat):=by
  have:=Int.toNat_of_nonneg f;have s:(((q*(2^k*2^k)).floor.toNat:Int):Rat)=((q*(2^k*2^k)).floor:Rat):=by rw[this]
  exact s
 rw[j] at i
 have A:(r:Rat)*r<=q*(2^k*2^k):=by
  have:((r*r:Nat):Rat)=(r:Rat)*r:=by simp
  grind
 have C:=Rat.mul_nonneg (a:=q*(2^k*2^k)-(r:Rat)*r) (b:=(2^k)⁻¹*(2^k)⁻¹) (by grind) (Rat.le_of_lt (Rat.mul_pos l l));have e:(2:Rat)^k*(2^k)⁻¹=1:=by grind
 clear c o f g i j v
 generalize ((2:Rat)^k)⁻¹=y at*
 generalize (2:Rat)^k=x at*
 have z:(q*(x*x)-(r:Rat)*r)*(y*y)=q-r*y*(r*y):=by grind
 grind
theorem Qz (q:Rat) (k:Nat):q<(Cu q k+(2^k)⁻¹)*(Cu q k+(2^k)⁻¹):=by
 have v:=Hn k;have h:=Hm k;have g:=KM (q*(2^k*2^k)).floor.toNat;rw[Cu]
 generalize m:Ar (q*(2^k*2^k)).floor.toNat=r at*
 have i:q*(2^k*2^k)<(q*(2^k*2^k)).floor+1:=by
  have:=Rat.lt_floor_add_one (q*(2^k*2^k));rwa [Rat.intCast_add] at this
 have f:(q*(2^k*2^k)).floor<=((q*(2^k*2^k)).floor.toNat:Int):=Int.self_le_toNat _
 have c:((q*(2^k*2^k)).floor:Rat)<=((q*(2^k*2^k)).floor.toNat:Rat):=by
  exact Rat.intCast_le_intCast.2 f
 have j:((q*(2^k*2^k)).floor.toNat:Rat)+1<=((r:Rat)+1)*(r+1):=by
  have l:(q*(2^k*2^k)).floor.toNat+1<=(r+1)*(r+1):=g;have:=Rat.natCast_le_natCast.2 l;simpa using this
 have s:=Rat.mul_pos (a:=((r:Rat)+1)*(r+1)-q*(2^k*2^k)) (b:=(2^k)⁻¹*(2^k)⁻¹) (by grind) (Rat.mul_pos h h);have e:(2:Rat)^k*(2^k)⁻¹=1:=by grind
 clear i f g j c m
 generalize ((2:Rat)^k)⁻¹=y at*
 generalize (2:Rat)^k=x at*
 have o:(((r:Rat)+1)*(r+1)-q*(x*x))*(y*y)=(r*y+y)*(r*y+y)-q:=by grind
 grind
theorem NO {p q e:Rat} {k l:Nat} (he:0<e) (o:((2:Rat)^l)⁻¹<e/2) (h:p-q<e*e/2):Cu p k-Cu q l<e:=by
 apply Classical.byContradiction;intro v;have f:=NN q l;have g:=Qz q l
 have c:0<=p:=by
  apply Classical.byContradiction;intro m;have:=SF (q:=p) k (by grind)
  grind
 have i:=SE k c;have j:=Hm l
 generalize Cu p k=s at*
 generalize Cu q l=t at*
 generalize ((2:Rat)^l)⁻¹=d at*
 have z:=Rat.mul_nonneg (a:=s-(t+d)-e/2) (b:=s+(t+d)) (by grind) (by grind);have A:=Rat.mul_nonneg (a:=e/2) (b:=s+t+d-e) (by grind) (by grind)
 grind
def sqrt (a:CS):CS:=⟨fun n=>Cu (a.f n) n,fun e he=>by
 obtain⟨N,hN⟩:=small (e/2) (by grind);obtain⟨M,hM⟩:=a.FF (e*e/2) (by have:=Rat.mul_pos he he;grind);refine⟨max N M,fun n m hn hm=>?_⟩;exact NO he (hN m (by omega)) (hM n m (by omega) (by omega))⟩
theorem Zn {a b:CS} (h:a ≈ b):sqrt a ≈ sqrt b:=fun e he=>by
 obtain⟨N,c⟩:=small (e/2) (by grind);obtain⟨M,hM⟩:=h (e*e/2) (by have:=Rat.mul_pos he he;grind);refine⟨max N M,fun n f=>?_⟩;have:=hM n (by omega);exact⟨NO he (c n (by omega)) this.1,NO he (c n (by omega)) this.2⟩
theorem C1 {a:CS} (h:¬pos (neg a)):mul (sqrt a) (sqrt a) ≈ a:=fun e he=>by
 obtain⟨B,L,P,q⟩:=(sqrt a).IK;have D:0<e/(2*B+1):=by rw[Rat.div_def];exact Rat.mul_pos (by grind) (Rat.inv_pos.2 (by grind))
 obtain⟨N,o⟩:=small _ D;obtain⟨k,g⟩:=small 1 (by decide);obtain⟨M,hM⟩:=a.FF (e/2) (by grind)
 have c:∃n,M<=n/\ -(e/2)<a.f n:=by
  apply Classical.byContradiction;intro v;apply h;refine⟨e/4,by grind,M,fun n j=>?_⟩;have:¬(-(e/2)<a.f n):=fun z=>v ⟨n,j,z⟩
  show e/4< -a.f n
  grind
 obtain⟨C,i,c⟩:=c;refine⟨max (max N k) (max M P),fun n j=>?_⟩;have l:=q n (by omega);have F:=o n (by omega);have G:=hM C n i (by omega);have H:=Qz (a.f n) n;have I:=NN (a.f n) n;have J:=Hm n;have K:=g n (by omega)
 show Cu (a.f n) n*Cu (a.f n) n-a.f n<e/\a.f n-Cu (a.f n) n*Cu (a.f n) n<e
 have m:Cu (a.f n) n<=B:=l.1
 constructor
 ·by_cases A:0<=a.f n
  ·have:=SE n A
   grind
  rw[SF n (by grind)]
  grind
 generalize Cu (a.f n) n=s at*
 generalize ((2:Rat)^n)⁻¹=d at*
 have O:=Rat.mul_nonneg (a:=B-s) (b:=d) (by grind) (by grind);have Q:=Rat.mul_nonneg (a:=1-d) (b:=d) (by grind) (by grind);have R:=Rat.mul_pos (a:=e/(2*B+1)-d) (b:=2*B+1) (by grind) (by grind);have S:e/(2*B+1)*(2*B+1)=e:=by grind
 grind
theorem D6 (a:CS):¬pos (neg (sqrt a)):=by
 rintro⟨e,he,N,c⟩
 have g:e< -Cu (a.f N) N:=c N (Nat.le_refl _);have:=NN (a.f N) N
 grind
end CS
def Re:Type:=Quotient CS.st
namespace Re
def mk (a:CS):Re:=Quotient.mk _ a
def ofRat (q:Rat):Re:=mk (CS.const q)
def add (x y:Re):Re:=Quotient.liftOn₂ x y (fun a b=>mk (CS.add a b)) fun _ _ _ _ h k=>Quotient.sound (CS.add_congr h k)
def mul (x y:Re):Re:=Quotient.liftOn₂ x y (fun a b=>mk (CS.mul a b)) fun _ _ _ _ h k=>Quotient.sound (CS.mul_congr h k)
def neg (x:Re):Re:=Quotient.liftOn x (fun a=>mk (CS.neg a)) fun _ _ h=>Quotient.sound (CS.neg_congr h)
def sqrt (x:Re):Re:=Quotient.liftOn x (fun a=>mk (CS.sqrt a)) fun _ _ h=>Quotient.sound (CS.Zn h)
def pos (x:Re):Prop:=Quotient.liftOn x CS.pos fun _ _ h=>CS.YS h
def pow (x:Re):Nat->Re
 | 0=>ofRat 1
 | n+1=>mul (pow x n) x
instance:Add Re:=⟨add⟩
instance:Mul Re:=⟨mul⟩
instance:Neg Re:=⟨neg⟩
instance:Sub Re:=⟨fun a b=>add a (neg b)⟩
instance (n:Nat):OfNat Re n:=⟨ofRat n⟩
instance:NatCast Re:=⟨fun n=>ofRat n⟩
instance:IntCast Re:=⟨fun n=>ofRat n⟩
instance:Pow Re Nat:=⟨pow⟩
instance:SMul Nat Re:=⟨fun n a=>mul (ofRat n) a⟩
instance:SMul Int Re:=⟨fun n a=>mul (ofRat n) a⟩
instance:LT Re:=⟨fun a b=>pos (add b (neg a))⟩
instance:LE Re:=⟨fun a b=>¬pos (add a (neg b))⟩
theorem sound {a b:CS} (h:∀n,a.f n=b.f n):mk a=mk b:=Quotient.sound (CS.Wj h)
theorem CE {p:Re->Prop} (h:∀a,p (mk a)) (x:Re):p x:=Quotient.ind h x
theorem add_assoc (x y z:Re):x+y+z=x+(y+z):=by
 induction x using CE;induction y using CE;induction z using CE
 exact sound fun n=>Rat.add_assoc _ _ _
theorem add_comm (x y:Re):x+y=y+x:=by
 induction x using CE;induction y using CE
 exact sound fun n=>Rat.add_comm _ _
theorem add_zero (x:Re):x+0=x:=by
 induction x using CE
 exact sound fun n=>Rat.add_zero _
theorem neg_add_cancel (x:Re): -x+x=0:=by
 induction x using CE
 exact sound fun n=>Rat.neg_add_cancel _
theorem mul_assoc (x y z:Re):x*y*z=x*(y*z):=by
 induction x using CE;induction y using CE;induction z using CE
 exact sound fun n=>Rat.mul_assoc _ _ _
theorem mul_comm (x y:Re):x*y=y*x:=by
 induction x using CE;induction y using CE
 exact sound fun n=>Rat.mul_comm _ _
theorem mul_one (x:Re):x*1=x:=by
 induction x using CE
 exact sound fun n=>Rat.mul_one _
theorem left_distrib (x y z:Re):x*(y+z)=x*y+x*z:=by
 induction x using CE;induction y using CE;induction z using CE
 exact sound fun n=>Rat.mul_add _ _ _
theorem zero_mul (x:Re):0*x=0:=by
 induction x using CE
 exact sound fun n=>Rat.zero_mul _
theorem ofRat_add (p q:Rat):ofRat (p+q)=ofRat p+ofRat q:=rfl
theorem ofRat_mul (p q:Rat):ofRat (p*q)=ofRat p*ofRat q:=rfl
theorem ofRat_neg (p:Rat):ofRat (-p)= -ofRat p:=rfl
abbrev N4 {C:Type->Type} {α:Type} (_:C α):Type->Type:=C
abbrev UR:Type->Type:=N4 Dyadic.instCommRing
abbrev LQ:Type->Type:=N4 Dyadic.instCommRing.toRing.toSemiring
instance:UR Re where
 add_assoc:=add_assoc
 add_comm:=add_comm
 add_zero:=add_zero
 neg_add_cancel:=neg_add_cancel
 mul_assoc:=mul_assoc
 mul_comm:=mul_comm
 mul_one:=mul_one
 one_mul:=fun x=>by rw[mul_comm,mul_one]
 left_distrib:=left_distrib
 right_distrib:=fun x y z=>by rw[mul_comm,left_distrib,mul_comm z x,mul_comm z y]
 zero_mul:=zero_mul
 mul_zero:=fun x=>by rw[mul_comm,zero_mul]
 pow_zero:=fun _=>rfl
 pow_succ:=fun _ _=>rfl
 sub_eq_add_neg:=fun _ _=>rfl
 neg_zsmul:=fun i x=>by
  show mul (ofRat ((-i:Int):Rat)) x=neg (mul (ofRat (i:Rat)) x)
  rw[Rat.intCast_neg]
  induction x using CE
  exact sound fun n=>Rat.neg_mul _ _
 zsmul_natCast_eq_nsmul:=fun _ _=>rfl
 nsmul_eq_natCast_mul:=fun _ _=>rfl
 ofNat_succ:=fun n=>by
  show ofRat ((n+1:Nat):Rat)=ofRat (n:Rat)+ofRat 1
  rw[Rat.natCast_add,ofRat_add]
  rfl
 ofNat_eq_natCast:=fun _=>rfl
 intCast_ofNat:=fun _=>rfl
 intCast_neg:=fun i=>by
  show ofRat ((-i:Int):Rat)=neg (ofRat (i:Rat))
  rw[Rat.intCast_neg]
  rfl
theorem lt_def (x y:Re):x<y↔pos (y-x):=Iff.rfl
theorem le_def (x y:Re):x<=y↔¬pos (x-y):=Iff.rfl
theorem YT {x y:Re}:pos x->pos y->pos (x*y):=by
 induction x using CE;induction y using CE
 exact CS.mul_pos
theorem YR {x y:Re}:pos x->pos y->pos (x+y):=by
 induction x using CE;induction y using CE
 exact CS.add_pos
theorem Rk {x:Re}:pos x->¬pos (-x):=by
 induction x using CE
 exact CS.YB
theorem YY:¬pos 0:=CS.YC
theorem Ro (x:Re):x=0\/pos x\/pos (-x):=by
 induction x using CE
 rcases CS.tri _ with h | h | h
 ·exact .inl (Quotient.sound h)
 ·exact .inr (.inl h)
 exact .inr (.inr h)
theorem Rl {q:Rat}:pos (ofRat q)↔0<q:=by
 constructor
 ·rintro⟨e,he,N,c⟩
  have:e<q:=c N (Nat.le_refl _)
  grind
 intro h;exact⟨q/2,by grind,0,fun n _=>by show q/2<q;grind⟩
theorem le_trans' {x y z:Re} (h:x<=y) (k:y<=z):x<=z:=by
 rw[le_def] at*;intro c;rcases Ro (x-y) with e | e | e
 ·rw[show x-z=(x-y)+(y-z) by grind,e,show 0+(y-z)=y-z by grind] at c;exact k c
 ·exact h e
 have:=YR c e;rw[show x-z+ -(x-y)=y-z by grind] at this;exact k this
theorem Xc (x y:Re):x<=y\/y<=x:=by
 rw[le_def,le_def]
 by_cases h:pos (x-y)
 ·right
  have:=Rk h;rwa [show -(x-y)=y-x by grind] at this
 exact .inl h
theorem Xa {x y:Re} (h:x<=y) (k:y<=x):x=y:=by
 rw[le_def] at*;rcases Ro (x-y) with e | e | e
 ·grind
 ·exact (h e).elim
 rw[show -(x-y)=y-x by grind] at e;exact (k e).elim
theorem Xi (x y:Re):x<y↔x<=y/\¬y<=x:=by
 rw[lt_def,le_def,le_def]
 constructor
 ·intro h;refine⟨?_,fun k=>k h⟩;have:=Rk h;rwa [show -(y-x)=x-y by grind] at this
 rintro⟨_,h⟩
 exact Classical.not_not.1 h
instance:Std.IsLinearOrder Re where
 le_refl:=fun x=>by
  rw[le_def,show x-x=0 by grind];exact YY
 le_trans:=fun _ _ _=>le_trans'
 le_antisymm:=fun _ _=>Xa
 le_total:=Xc
instance:Std.LawfulOrderLT Re where
 lt_iff:=Xi
abbrev UF {C:(β:Type)->(s:LQ β)->(l:LE β)->(t:LT β)->Std.IsPreorder β->Prop} {α:Type} {s:LQ α} {l:LE α} {t:LT α} {p:Std.IsPreorder α} (_:C α s l t p):(β:Type)->(s:LQ β)->(l:LE β)->(t:LT β)->Std.IsPreorder β->Prop:=C
theorem Mm {a b c:Re} (h:a<b) (f:0<c):c*a<c*b:=by
 rw[lt_def] at*;rw[show c*b-c*a=(c-0)*(b-a) by grind];exact YT f h
instance:UF Dyadic.instOrderedRing Re inferInstance inferInstance inferInstance inferInstance where
 add_le_left_iff:=fun c=>by
  rename_i a b
  rw[le_def,le_def,show a+c-(b+c)=a-b by grind]
 zero_lt_one:=by
  rw[lt_def]
  show pos (ofRat 1-ofRat 0)
  have:ofRat 1-ofRat 0=ofRat 1:=by
   show (1:Re)-0=1
   grind
  rw[this,Rl]
  decide
 mul_lt_mul_of_pos_left:=fun h hc=>Mm h hc
 mul_lt_mul_of_pos_right:=fun h hc=>by
  rename_i a b c
  rw[mul_comm a c,mul_comm b c];exact Mm h hc
theorem mul_pos {x y:Re} (h:0<x) (k:0<y):0<x*y:=by
 have:=Mm k h
 grind
theorem Im {x y:Re} (h:0<=x) (k:0<=y):0<=x*y:=by
 by_cases h':0<x
 ·by_cases k':0<y
  ·have:=mul_pos h' k'
   grind
  have:y=0:=by grind
  subst this
  grind
 have:x=0:=by grind
 subst this
 grind
theorem bA:ofRat 0=0:=rfl
theorem a8:ofRat 1=1:=rfl
theorem GN {p q:Rat}:ofRat p<ofRat q↔p<q:=by
 rw[lt_def]
 have:ofRat q-ofRat p=ofRat (q-p):=by
  rw[show q-p=q+ -p by grind,ofRat_add,ofRat_neg];grind
 rw[this,Rl]
 grind
theorem M1 {p q:Rat}:ofRat p<=ofRat q↔p<=q:=by
 have:= @GN q p
 grind
theorem GM {p q:Rat}:ofRat p=ofRat q↔p=q:=by
 constructor
 ·intro h;have c:=(@M1 p q).1 (by grind);have f:=(@M1 q p).1 (by grind)
  grind
 rintro rfl;rfl
theorem Qk {x:Re} (h:0<x):∃y,x*y=1:=by
 rw[lt_def,show x-0=x by grind] at h
 induction x using CE
 obtain⟨b,hb⟩:=CS.Ic h;exact⟨mk b,Quotient.sound hb⟩
theorem Ic {x:Re} (h:x≠0):∃y,x*y=1:=by
 by_cases c:0<x
 ·exact Qk c
 obtain⟨y,f⟩:=Qk (x:= -x) (by grind);exact⟨-y,by grind⟩
theorem D6 (x:Re):0<=sqrt x:=by
 rw[le_def,show 0-sqrt x= -sqrt x by grind]
 induction x using CE
 exact CS.D6 _
theorem C1 {x:Re} (h:0<=x):sqrt x*sqrt x=x:=by
 rw[le_def,show 0-x= -x by grind] at h
 induction x using CE
 exact Quotient.sound (CS.C1 h)
theorem ER {x y:Re} (h:x*y=0):x=0\/y=0:=by
 by_cases c:x=0
 ·exact .inl c
 obtain⟨z,f⟩:=Ic c
 right
 have:y=(x*z)*y:=by rw[f];grind
 grind
theorem Ng (x:Re):0<=x*x:=by
 by_cases h:0<=x
 ·exact Im h h
 have:=Im (x:= -x) (y:= -x) (by grind) (by grind)
 grind
theorem Fx {x y:Re} (c:0<=x) (f:0<=y) (h:x*x=y*y):x=y:=by
 have:(x-y)*(x+y)=0:=by grind
 rcases ER this with e | e
 ·grind
 grind
end Re
end Go.Abs
namespace Go.Abs
def AI:List (List Rat)->List Rat->Re
 | [],a=>Re.ofRat (a.headD 0)
 | r::u,a=>AI u (a.take (2^u.length))+AI u (a.drop (2^u.length))*Re.sqrt (AI u r)
def rt (u:List (List Rat)) (r:List Rat):Re:=Re.sqrt (AI u r)
def In (u:List (List Rat)) (x:Re):Prop:=∃a:List Rat,a.length=2^u.length/\AI u a=x
def AQ:List (List Rat)->Prop
 | []=>True
 | r::u=>AQ u/\r.length=2^u.length/\0<AI u r/\¬∃w,In u w/\w*w=AI u r
noncomputable def co (u:List (List Rat)) (x:Re):List Rat:=by
 classical
 exact if h:In u x then Classical.choose h else []
variable {a:List Rat} {p x y:Re}
theorem BI (r:List Rat) (u:List (List Rat)):2^(r::u).length=2^u.length+2^u.length:=by
 rw[List.length_cons,Nat.pow_succ];omega
theorem Bj:In [] x↔∃q,x=Re.ofRat q:=by
 constructor
 ·rintro⟨a,_,rfl⟩;exact⟨_,rfl⟩
 rintro⟨q,rfl⟩;exact⟨[q],rfl,rfl⟩
theorem Bt {r:List Rat} {u:List (List Rat)}:In (r::u) x↔∃p q,In u p/\In u q/\x=p+q*rt u r:=by
 constructor
 ·rintro⟨a,c,rfl⟩
  rw[BI] at c;exact⟨_,_,⟨a.take (2^u.length),by rw[List.length_take];omega,rfl⟩,⟨a.drop (2^u.length),by rw[List.length_drop];omega,rfl⟩,rfl⟩
 rintro⟨p,q,⟨a,c,rfl⟩,⟨b,hb,rfl⟩,rfl⟩
 refine⟨a++b,by rw[BI,List.length_append];omega,?_⟩;rw[AI,<-c,List.take_left,List.drop_left];rfl
theorem Jt:∀(u:List (List Rat)) (a b:List Rat),a.length=2^u.length->b.length=2^u.length->AI u (List.zipWith (· + ·) a b)=AI u a+AI u b
 | [],a,b,c,hb=>by
  match a,b,c,hb with
  | [p],[q],_,_=>exact Re.ofRat_add p q
 | r::u,a,b,c,hb=>by
  rw[BI] at c hb;rw[AI,AI,AI,List.take_zipWith,List.drop_zipWith,Jt u _ _ (by rw[List.length_take];omega) (by rw[List.length_take];omega),Jt u _ _ (by rw[List.length_drop];omega) (by rw[List.length_drop];omega)]
  grind
theorem Ju:∀(u:List (List Rat)) (a:List Rat),a.length=2^u.length->AI u (a.map (- ·))= -AI u a
 | [],a,c=>by
  match a,c with
  | [p],_=>exact Re.ofRat_neg p
 | r::u,a,c=>by
  rw[BI] at c;rw[AI,AI,<-List.map_take,<-List.map_drop,Ju u _ (by rw[List.length_take];omega),Ju u _ (by rw[List.length_drop];omega)]
  grind
theorem IZ:∀(u:List (List Rat)) (n:Nat),AI u (List.replicate n 0)=0
 |[],0|[],n+1=>rfl
 | r::u,n=>by rw[AI,List.take_replicate,List.drop_replicate,IZ,IZ];grind
theorem En (q:Rat):∀u,In u (Re.ofRat q)
 | []=>Bj.2 ⟨q,rfl⟩
 | r::u=>Bt.2 ⟨_,_,En q u,⟨List.replicate (2^u.length) 0,List.length_replicate,IZ u _⟩,by grind⟩
theorem BP (u:List (List Rat)):In u 0:=En 0 u
theorem MU (u:List (List Rat)):In u 1:=En 1 u
theorem B6 {u:List (List Rat)}:In u x->In u y->In u (x+y)
 |⟨a,g,c⟩,⟨b,hb,f⟩=>⟨List.zipWith (· + ·) a b,by rw[List.length_zipWith];omega,by rw[Jt u a b g hb,c,f]⟩
theorem Em {u:List (List Rat)}:In u x->In u (-x)
 |⟨a,c,f⟩=>⟨a.map (- ·),by rw[List.length_map,c],by rw[Ju u a c,f]⟩
theorem DQ {u:List (List Rat)} (h:In u x) (k:In u y):In u (x-y):=by
 have:=B6 h (Em k);rwa [show x+ -y=x-y by grind] at this
theorem Bg {u:List (List Rat)} {r:List Rat} (h:AQ (r::u)):rt u r*rt u r=AI u r:=Re.C1 (by have:=h.2.2.1;grind)
theorem Yy (u:List (List Rat)) (r:List Rat):0<=rt u r:=Re.D6 _
theorem Bh {u:List (List Rat)} {r:List Rat} (h:AQ (r::u)):In u (AI u r):=⟨r,h.2.1,rfl⟩
theorem FJ {u:List (List Rat)} {r:List Rat} (h:In u x):In (r::u) x:=Bt.2 ⟨x,0,h,BP u,by grind⟩
theorem FI (u:List (List Rat)) (r:List Rat):In (r::u) (rt u r):=Bt.2 ⟨0,1,BP u,MU u,by grind⟩
theorem Aa:∀{u:List (List Rat)} {x y:Re},AQ u->In u x->In u y->In u (x*y)
 | [],x,y,_,f,g=>by
  obtain⟨p,rfl⟩:=Bj.1 f;obtain⟨q,rfl⟩:=Bj.1 g;exact Bj.2 ⟨p*q,(Re.ofRat_mul p q).symm⟩
 | r::u,x,y,h,f,g=>by
  obtain⟨a,b,i,hb,rfl⟩:=Bt.1 f;obtain⟨c,d,j,k,rfl⟩:=Bt.1 g;have l:=Bg h;refine Bt.2 ⟨a*c+b*d*AI u r,a*d+b*c,B6 (Aa h.1 i j) (Aa h.1 (Aa h.1 hb k) (Bh h)),B6 (Aa h.1 i k) (Aa h.1 hb j),?_⟩
  grind
theorem RF {u:List (List Rat)} {r:List Rat} (h:AQ (r::u)) {w:Re} (hw:In u w):w*w≠AI u r:=fun e=>h.2.2.2 ⟨w,hw,e⟩
theorem DE:∀{u:List (List Rat)} {x:Re},AQ u->In u x->x≠0->∃y,In u y/\x*y=1
 | [],x,_,k,g=>by
  obtain⟨p,rfl⟩:=Bj.1 k;have A:p≠0:=fun e=>g (by rw[e];rfl)
  refine⟨Re.ofRat p⁻¹,Bj.2 ⟨_,rfl⟩,?_⟩;rw[<-Re.ofRat_mul,show p*p⁻¹=1 by grind];rfl
 | r::u,x,h,k,g=>by
  obtain⟨a,b,f,hb,rfl⟩:=Bt.1 k;have C:=Bg h
  have s:a*a-b*b*AI u r≠0:=by
   intro e
   by_cases i:b=0
   ·have o:a=0:=by
     have:a*a=0:=by grind
     rcases Re.ER this with e | e <;> exact e
    exact g (by grind)
   obtain⟨c,q,j⟩:=DE h.1 hb i
   exact RF h (Aa h.1 f q) (by
    have z:a*a=b*b*AI u r:=by grind
    have m:a*c*(a*c)=(b*c)*(b*c)*AI u r:=by grind
    rw[m,j];grind)
  obtain⟨y,l,v⟩:=DE h.1 (DQ (Aa h.1 f f) (Aa h.1 (Aa h.1 hb hb) (Bh h))) s;refine⟨a*y+ -(b*y)*rt u r,Bt.2 ⟨_,_,Aa h.1 f l,Em (Aa h.1 hb l),rfl⟩,?_⟩
  grind
theorem indep {u:List (List Rat)} {r:List Rat} (h:AQ (r::u)) {q g f:Re} (s:In u p) (v:In u q) (i:In u g) (j:In u f) (e:p+q*rt u r=g+f*rt u r):p=g/\q=f:=by
 have A:=Bg h
 by_cases m:q-f=0
 ·have:q=f:=by grind
  subst this;exact⟨by grind,rfl⟩
 exfalso
 obtain⟨c,o,k⟩:=DE h.1 (DQ v j) m;refine RF h (Aa h.1 (DQ i s) o) ?_;have z:(q-f)*rt u r=g-p:=by grind
 have l:(g-p)*c=rt u r*((q-f)*c):=by grind
 rw[l,k];grind
theorem MI:∀{u:List (List Rat)} {a b:List Rat},AQ u->a.length=2^u.length->b.length=2^u.length->AI u a=AI u b->a=b
 | [],a,b,_,c,hb,e=>by
  match a,b,c,hb with
  | [p],[q],_,_=>exact congrArg (fun x=>[x]) (Re.GM.1 e)
 | r::u,a,b,h,c,hb,e=>by
  rw[BI] at c hb;have l1:(a.take (2^u.length)).length=2^u.length:=by rw[List.length_take];omega
  have l2:(a.drop (2^u.length)).length=2^u.length:=by rw[List.length_drop];omega
  have l3:(b.take (2^u.length)).length=2^u.length:=by rw[List.length_take];omega
  have f:(b.drop (2^u.length)).length=2^u.length:=by rw[List.length_drop];omega
  obtain⟨g,i⟩:=indep h ⟨_,l1,rfl⟩ ⟨_,l2,rfl⟩ ⟨_,l3,rfl⟩ ⟨_,f,rfl⟩ e;rw[<-List.take_append_drop (2^u.length) a,<-List.take_append_drop (2^u.length) b,MI h.1 l1 l3 g,MI h.1 l2 f i]
theorem Pu {u:List (List Rat)} (h:In u x):(co u x).length=2^u.length/\AI u (co u x)=x:=by
 unfold co;rw[dif_pos h];exact Classical.choose_spec h
theorem CB {u:List (List Rat)} (h:In u x):(co u x).length=2^u.length:=(Pu h).1
theorem DC {u:List (List Rat)} (h:In u x):AI u (co u x)=x:=(Pu h).2
theorem Gj {u:List (List Rat)} (h:AQ u) (c:a.length=2^u.length) (e:AI u a=x):co u x=a:=by
 have f:In u x:=⟨a,c,e⟩;exact MI h (CB f) c ((DC f).trans e.symm)
theorem WW {u:List (List Rat)} (h:AQ u) (c:a.length=2^u.length):co u (AI u a)=a:=Gj h c rfl
theorem Jg {u:List (List Rat)} (h:AQ u) (c:In u x) (f:In u y):co u (x+y)=List.zipWith (· + ·) (co u x) (co u y):=
 Gj h (by rw[List.length_zipWith,CB c,CB f];omega) (by rw[Jt u _ _ (CB c) (CB f),DC c,DC f])
theorem IS {u:List (List Rat)} (h:AQ u) (c:In u x):co u (-x)=(co u x).map (- ·):=
 Gj h (by rw[List.length_map,CB c]) (by rw[Ju u _ (CB c),DC c])
theorem L8 {u:List (List Rat)} (h:AQ u):co u 0=List.replicate (2^u.length) 0:=Gj h List.length_replicate (IZ u _)
theorem CO {u:List (List Rat)} {r:List Rat} {q:Re} (h:AQ (r::u)) (c:In u p) (f:In u q) (g:x=p+q*rt u r):co (r::u) x=co u p++co u q:=by
 refine Gj h (by rw[List.length_append,CB c,CB f,BI]) ?_;rw[AI,<-CB c,List.take_left,List.drop_left,DC c,DC f,g];rfl
theorem Bv (q:Rat):co [] (Re.ofRat q)=[q]:=Gj (u:=[]) trivial rfl rfl
theorem IT (q:Rat):∀{u:List (List Rat)},AQ u->co u (Re.ofRat q)=q::List.replicate (2^u.length-1) 0
 | [],_=>Bv q
 | r::u,h=>by
  rw[CO h (En q u) (BP u) (by grind),IT q h.1,L8 h.1,List.cons_append,List.replicate_append_replicate];have:1<=2^u.length:=Nat.one_le_two_pow;have:2^(r::u).length-1=2^u.length-1+2^u.length:=by rw[BI];omega
  rw[this]
theorem WZ {u:List (List Rat)} {r:List Rat} {q:Re} (h:AQ (r::u)) (c:In u p) (f:In u q) (g:x=p+q*rt u r):(co (r::u) x).take (2^u.length)=co u p:=by
 rw[CO h c f g,<-CB c,List.take_left]
theorem WY {u:List (List Rat)} {r:List Rat} {q:Re} (h:AQ (r::u)) (c:In u p) (f:In u q) (g:x=p+q*rt u r):(co (r::u) x).drop (2^u.length)=co u q:=by
 rw[CO h c f g,<-CB c,List.drop_left]
theorem IQ {u:List (List Rat)} (h:AQ u) (g:In u x):(∀c∈co u x,c=0)↔x=0:=by
 constructor
 ·intro f;have:co u x=List.replicate (2^u.length) 0:=List.eq_replicate_iff.2 ⟨CB g,f⟩;rw[<-DC g,this,IZ]
 rintro rfl c f;rw[L8 h] at f;exact (List.mem_replicate.1 f).2
theorem Yx {u:List (List Rat)} {r:List Rat} (h:AQ (r::u)):rt u r≠0:=by
 intro e;have c:=Bg h;have:=h.2.2.1;rw[e] at c
 grind
theorem SN {u:List (List Rat)} {r:List Rat} (h:AQ (r::u)):0<rt u r:=by
 have:=Yx h;have:=Yy u r
 grind
end Go.Abs
namespace Go.Abs
def Sq (u:List (List Rat)) (x:Re):Prop:=∃w,In u w/\w*w=x
variable {a b n t w x:Re} {r:List Rat} {u:List (List Rat)}
theorem K6:(2:Re)≠0:=by
 intro h
 have c:(0:Re)<1:=by
  have:=Re.GN.2 (show (0:Rat)<1 by decide);exact this
 grind
theorem Q5 {y:Re} (c:x≠0) (f:y≠0):x*y≠0:=fun h=>by rcases Re.ER h with e | e;exact c e;exact f e
theorem S7 (h:x*x=0):x=0:=by rcases Re.ER h with e | e <;> exact e
theorem Sz (h:AQ (r::u)) (v:In u a):Sq (r::u) a↔Sq u a\/∃i,In u i/\AI u r*i=1/\Sq u (a*i):=by
 have A:=Bg h
 constructor
 ·rintro⟨w,hw,e⟩
  obtain⟨c,d,g,k,rfl⟩:=Bt.1 hw;have o:(c*c+d*d*AI u r)+(2*c*d)*rt u r=a+0*rt u r:=by grind
  have s:In u (2*c*d):=by
   have:=B6 (Aa h.1 g k) (Aa h.1 g k);rwa [show c*d+c*d=2*c*d by grind] at this
  obtain⟨z,q⟩:=indep h (B6 (Aa h.1 g g) (Aa h.1 (Aa h.1 k k) (Bh h))) s v (BP u) o
  by_cases l:d=0
  ·left;exact⟨c,g,by grind⟩
  right
  have j:c=0:=by
   apply Classical.byContradiction;intro j;exact Q5 (Q5 K6 j) l q
  obtain⟨i,m,f⟩:=DE h.1 (Bh h) (by have:=h.2.2.1;grind);exact⟨i,m,f,d,k,by grind⟩
 rintro (⟨w,hw,e⟩ |⟨i,m,f,w,hw,e⟩)
 ·exact⟨w,FJ hw,e⟩
 refine⟨0+w*rt u r,Bt.2 ⟨0,w,BP u,hw,rfl⟩,?_⟩;have:a=a*(AI u r*i):=by rw[f];grind
 grind
theorem S4 (h:AQ (r::u)) (m:In u a) (hb:In u b) (hw:Sq (r::u) (a+b*rt u r)):∃c d,In u c/\In u d/\c*c+d*d*AI u r=a/\2*c*d=b:=by
 have o:=Bg h;obtain⟨w,hw,e⟩:=hw;obtain⟨c,d,f,g,rfl⟩:=Bt.1 hw;have i:(c*c+d*d*AI u r)+(2*c*d)*rt u r=a+b*rt u r:=by grind
 have l:In u (2*c*d):=by
  have:=B6 (Aa h.1 f g) (Aa h.1 f g);rwa [show c*d+c*d=2*c*d by grind] at this
 obtain⟨j,k⟩:=indep h (B6 (Aa h.1 f f) (Aa h.1 (Aa h.1 g g) (Bh h))) l m hb i;exact⟨c,d,f,g,j,k⟩
theorem S5 (h:AQ (r::u)) (i:In u a) (hb:In u b) (hw:Sq (r::u) (a+b*rt u r)):Sq u (a*a-b*b*AI u r):=by
 obtain⟨c,d,f,g,j,k⟩:=S4 h i hb hw;exact⟨c*c-d*d*AI u r,DQ (Aa h.1 f f) (Aa h.1 (Aa h.1 g g) (Bh h)),by grind⟩
theorem S6 (h:AQ (r::u)) (m:In u a) (hb:In u b) (hw:Sq (r::u) (a+b*rt u r)) (g:n*n=a*a-b*b*AI u r) (ht:2*t=1):
  Sq u (t*(a+n))\/Sq u (t*(a-n)):=by
 obtain⟨c,d,l,o,j,k⟩:=S4 h m hb hw;have hm:(n-(c*c-d*d*AI u r))*(n+(c*c-d*d*AI u r))=0:=by grind
 rcases Re.ER hm with e | e
 ·left
  have f:a+n=2*(c*c):=by clear g hm;grind
  have i:t*(2*(c*c))=2*t*(c*c):=by clear g hm j k f e;grind
  exact⟨c,l,by rw[f,i,ht];grind⟩
 right
 have f:a-n=2*(c*c):=by clear g hm;grind
 have i:t*(2*(c*c))=2*t*(c*c):=by clear g hm j k f e;grind
 exact⟨c,l,by rw[f,i,ht];grind⟩
theorem Sx {c i ρ s:Re} (C:n*n=a*a-b*b*ρ) (ht:2*t=1) (D:s*s=ρ) (hw:w*w=t*(a+n)) (g:(w+w)*i=1) (k:c=w+b*i*s):c*c=a+b*s:=by
 have f:w≠0:=by intro e;subst e;grind
 have l:2*(w*w)=a+n:=by rw[hw];grind
 have m:(a+n)*(a-n)=b*b*ρ:=by grind
 have o:2*(w*w)*(b*i*(b*i)*ρ)*2=b*b*ρ:=by
  have:2*(w*w)*(b*i*(b*i)*ρ)*2=b*b*ρ*(((w+w)*i)*((w+w)*i)):=by grind
  rw[this,g];grind
 have h:(a+n)*(2*(b*i*(b*i)*ρ)-(a-n))=0:=by grind
 have q:2*(b*i*(b*i)*ρ)-(a-n)=0:=by
  rcases Re.ER h with e | e
  ·exfalso
   have:2*(w*w)=0:=by grind
   rcases Re.ER this with e | e
   ·exact K6 e
   exact f (S7 e)
  exact e
 have v:2*w*(b*i)=b:=by
  have:2*w*(b*i)=b*((w+w)*i):=by grind
  rw[this,g];grind
 have z:c*c=w*w+b*i*(b*i)*ρ+2*w*(b*i)*s:=by rw[k];grind
 have j:2*(w*w+b*i*(b*i)*ρ-a)=0:=by grind
 have A:w*w+b*i*(b*i)*ρ-a=0:=by
  rcases Re.ER j with e | e
  ·exact absurd e K6
  exact e
 grind
theorem Sy (h:AQ (r::u)) (c:b≠0) (j:n*n=a*a-b*b*AI u r) (ht:2*t=1) (hw:w*w=t*(a+n)):w≠0:=by
 intro e;subst e;have g:a+n=0:=by grind
 have f:b*b*AI u r=0:=by grind
 have i:=h.2.2.1;rcases Re.ER f with e | e
 ·exact c (S7 e)
 grind
theorem Nf {q:Rat}:Sq [] (Re.ofRat q)↔∃r:Rat,0<=r/\r*r=q:=by
 constructor
 ·rintro⟨w,hw,e⟩
  obtain⟨r,rfl⟩:=Bj.1 hw;rw[<-Re.ofRat_mul,Re.GM] at e;rcases Rat.le_total (a:=0) (b:=r) with h | h
  ·exact⟨r,h,e⟩
  exact⟨-r,by grind,by grind⟩
 rintro⟨r,_,e⟩
 exact⟨Re.ofRat r,Bj.2 ⟨r,rfl⟩,by rw[<-Re.ofRat_mul,e]⟩
end Go.Abs
