/- Part 13 of a proof. Conditions: each theorem's own. -/
import Derived.Test.YtjpiilcgomggaaaGreatPk11
set_option linter.all false
set_option maxHeartbeats 8000000
namespace Go.Abs
variable {B d:Rat}
theorem YY (e:Rat):e=e.num/e.den:=by
 have h:=Rat.mkRat_self e;rw[Rat.mkRat_eq_div] at h;exact h.symm
theorem Ho (e:Rat):e*e.den=e.num:=by
 have h:(e.den:Rat)≠0:=by
  intro h;exact e.den_nz (Rat.natCast_eq_zero_iff.1 h)
 have:=YY e
 grind
theorem YZ {e:Rat} (h:0<e):0<e.num:=by
 have:=(Rat.lt_iff 0 e).1 h;simpa using this
theorem Hi {a e:Rat} (c:a<=B) (f: -B<=a) (g:d<=e) (h: -e<=d):a*d<=B*e:=by
 have p:=Rat.mul_nonneg (a:=B-a) (b:=e+d) (by grind) (by grind);have q:=Rat.mul_nonneg (a:=B+a) (b:=e-d) (by grind) (by grind)
 grind
theorem Xm {a e:Rat} (g:a<=B) (h: -B<=a) (c:d<=e) (f: -e<=d): -(B*e)<=a*d:=by
 have:=Hi (a:= -a) (d:=d) (B:=B) (e:=e) (by grind) (by grind) c f
 grind
structure CS where
 f:Nat->Rat
 FA:∀e:Rat,0<e->∃N,∀n m,N<=n->N<=m->f n-f m<e
namespace CS
def eqv (a b:CS):Prop:=∀e:Rat,0<e->∃N,∀n,N<=n->a.f n-b.f n<e/\b.f n-a.f n<e
theorem Wi (a:CS):eqv a a:=fun e he=>⟨0,fun n _=>by grind⟩
theorem QF {a b:CS} (h:eqv a b):eqv b a:=fun e he=>by
 obtain⟨N,c⟩:=h e he;exact⟨N,fun n f=>⟨(c n f).2,(c n f).1⟩⟩
theorem Wj {a b c:CS} (h:eqv a b) (k:eqv b c):eqv a c:=fun e he=>by
 obtain⟨N,g⟩:=h (e/2) (by grind);obtain⟨M,f⟩:=k (e/2) (by grind);refine⟨max N M,fun n i=>?_⟩;have:=g n (by omega);have:=f n (by omega)
 grind
instance st:Setoid CS:=⟨eqv,Wi,QF,Wj⟩
theorem Wh {a b:CS} (h:∀n,a.f n=b.f n):a ≈ b:=fun e he=>⟨0,fun n _=>by have:=h n;grind⟩
theorem IK (a:CS):∃B:Rat,0<B/\∃N,∀n,N<=n->a.f n<=B/\ -B<=a.f n:=by
 obtain⟨N,c⟩:=a.FA 1 (by decide)
 have i:0<=max (a.f N) (-(a.f N)):=by
  rcases Rat.le_total (a:=a.f N) (b:= -(a.f N)) with h | h
  ·rw[Rat.max_def,if_pos h];grind
  by_cases h':a.f N<= -(a.f N)
  ·rw[Rat.max_def,if_pos h'];grind
  rw[Rat.max_def,if_neg h'];grind
 have j:a.f N<=max (a.f N) (-(a.f N)):=by rw[Rat.max_def];split <;> grind
 have k: -(a.f N)<=max (a.f N) (-(a.f N)):=by rw[Rat.max_def];split <;> grind
 refine⟨max (a.f N) (-(a.f N))+1,by grind,N,fun n g=>?_⟩;have:=c n N g (Nat.le_refl _);have:=c N n (Nat.le_refl _) g
 grind
def const (q:Rat):CS:=⟨fun _=>q,fun e he=>⟨0,fun n m _ _=>by grind⟩⟩
def add (a b:CS):CS:=⟨fun n=>a.f n+b.f n,fun e he=>by
 obtain⟨N,hN⟩:=a.FA (e/2) (by grind);obtain⟨M,hM⟩:=b.FA (e/2) (by grind);refine⟨max N M,fun n m hn hm=>?_⟩;have:=hN n m (by omega) (by omega);have:=hM n m (by omega) (by omega)
 grind⟩
def neg (a:CS):CS:=⟨fun n=> -a.f n,fun e he=>by
 obtain⟨N,hN⟩:=a.FA e he;refine⟨N,fun n m hn hm=>?_⟩;have:=hN m n hm hn
 grind⟩
theorem Q7 {x y u v A e:Rat} (hA:0<A) (o:0<B) (he:0<e) (hx:x<=A) (f: -A<=x) (g:v<=B) (c: -B<=v)
  (j:x-u<e/(2*B)) (k:u-x<e/(2*B)) (l:y-v<e/(2*A)) (m:v-y<e/(2*A)):x*y-u*v<=e:=by
 have p:=Hi (a:=x) (d:=y-v) (B:=A) (e:=e/(2*A)) hx f (by grind) (by grind);have q:=Hi (a:=v) (d:=x-u) (B:=B) (e:=e/(2*B)) g c (by grind) (by grind);have h:A*(e/(2*A))=e/2:=by grind
 have i:B*(e/(2*B))=e/2:=by grind
 grind
def mul (a b:CS):CS:=⟨fun n=>a.f n*b.f n,fun e he=>by
 obtain⟨A,hA,N,hN⟩:=a.IK;obtain⟨B,hB,M,hM⟩:=b.IK;have p1:0<(e/2)/(2*B):=by rw[Rat.div_def];exact Rat.mul_pos (by grind) (Rat.inv_pos.2 (by grind))
 have p2:0<(e/2)/(2*A):=by rw[Rat.div_def];exact Rat.mul_pos (by grind) (Rat.inv_pos.2 (by grind))
 obtain⟨P,hP⟩:=a.FA _ p1;obtain⟨Q,hQ⟩:=b.FA _ p2;refine⟨max (max N M) (max P Q),fun n m hn hm=>?_⟩;have hn1:=hN n (by omega);have hm1:=hM m (by omega);have:=Q7 (e:=e/2) hA hB (by grind) hn1.1 hn1.2 hm1.1 hm1.2 (hP n m (by omega) (by omega)) (hP m n (by omega) (by omega)) (hQ n m (by omega) (by omega)) (hQ m n (by omega) (by omega))
 grind⟩
theorem add_congr {a b c d:CS} (h:a ≈ c) (k:b ≈ d):add a b ≈ add c d:=fun e he=>by
 obtain⟨N,i⟩:=h (e/2) (by grind);obtain⟨M,g⟩:=k (e/2) (by grind);refine⟨max N M,fun n j=>?_⟩;have:=i n (by omega);have:=g n (by omega)
 show a.f n+b.f n-(c.f n+d.f n)<e/\c.f n+d.f n-(a.f n+b.f n)<e
 grind
theorem neg_congr {a c:CS} (h:a ≈ c):neg a ≈ neg c:=fun e he=>by
 obtain⟨N,g⟩:=h e he;refine⟨N,fun n i=>?_⟩;have:=g n i
 show -a.f n- -c.f n<e/\ -c.f n- -a.f n<e
 grind
theorem mul_congr {a b c d:CS} (h:a ≈ c) (k:b ≈ d):mul a b ≈ mul c d:=fun e he=>by
 obtain⟨A,hA,N,s⟩:=a.IK;obtain⟨B,m,M,o⟩:=d.IK;have C:0<(e/2)/(2*B):=by rw[Rat.div_def];exact Rat.mul_pos (by grind) (Rat.inv_pos.2 (by grind))
 have D:0<(e/2)/(2*A):=by rw[Rat.div_def];exact Rat.mul_pos (by grind) (Rat.inv_pos.2 (by grind))
 obtain⟨P,v⟩:=h _ C;obtain⟨Q,z⟩:=k _ D;refine⟨max (max N M) (max P Q),fun n H=>?_⟩;have i:=s n (by omega);have g:=o n (by omega);have j:=v n (by omega);have l:=z n (by omega);have t1:=Q7 (e:=e/2) hA m (by grind) i.1 i.2 g.1 g.2 j.1 j.2 l.1 l.2;have p:=Hi (a:=a.f n) (d:=d.f n-b.f n) (B:=A) (e:=(e/2)/(2*A)) i.1 i.2 (by grind) (by grind);have q:=Hi (a:=d.f n) (d:=c.f n-a.f n) (B:=B) (e:=(e/2)/(2*B)) g.1 g.2 (by grind) (by grind);have F:A*((e/2)/(2*A))=e/4:=by grind
 have G:B*((e/2)/(2*B))=e/4:=by grind
 show a.f n*b.f n-c.f n*d.f n<e/\c.f n*d.f n-a.f n*b.f n<e
 grind
def pos (a:CS):Prop:=∃e:Rat,0<e/\∃N,∀n,N<=n->e<a.f n
theorem Rl {a b:CS} (h:a ≈ b) (k:pos a):pos b:=by
 obtain⟨e,he,N,f⟩:=k;obtain⟨M,c⟩:=h (e/2) (by grind);refine⟨e/2,by grind,max N M,fun n g=>?_⟩;have:=f n (by omega);have:=c n (by omega)
 grind
theorem YO {a b:CS} (h:a ≈ b):pos a=pos b:=propext ⟨Rl h,Rl (QF h)⟩
theorem tri (a:CS):a ≈ const 0\/pos a\/pos (neg a):=by
 apply Classical.byContradiction;intro h;apply h;refine .inl fun e he=>?_
 obtain⟨N,c⟩:=a.FA (e/2) (by grind);refine⟨N,fun n g=>?_⟩
 show a.f n-0<e/\0-a.f n<e
 constructor
 ·apply Classical.byContradiction;intro i;refine h (.inr (.inl ⟨e/4,by grind,N,fun m hm=>?_⟩));have:=c n m g hm
  grind
 apply Classical.byContradiction;intro i;refine h (.inr (.inr ⟨e/4,by grind,N,fun m hm=>?_⟩));have:=c m n hm g
 show e/4< -a.f m
 grind
theorem XL {x y c e:Rat} (j:0<c) (hx:c<x) (k:c<y) (he:0<e) (h:x-y<e*(c*c)):y⁻¹-x⁻¹<e:=by
 have f:0<x*y:=Rat.mul_pos (by grind) (by grind);have g:y⁻¹-x⁻¹=(x-y)*(x*y)⁻¹:=by grind
 have i:e=e*(x*y)*(x*y)⁻¹:=by grind
 have p:=Rat.mul_nonneg (a:=x-c) (b:=y) (by grind) (by grind);have l:=Rat.mul_nonneg (a:=c) (b:=y-c) (by grind) (by grind);have q:=Rat.mul_nonneg (a:=e) (b:=x*y-c*c) (by grind) (by grind);have r:=Rat.mul_pos (a:=e*(x*y)-(x-y)) (b:=(x*y)⁻¹) (by grind) (Rat.inv_pos.2 f)
 grind
theorem Ia {a:CS} (h:pos a):∃b:CS,mul a b ≈ const 1:=by
 obtain⟨c,i,N,g⟩:=h;refine⟨⟨fun n=>(a.f (max N n))⁻¹,fun e he=>?_⟩,?_⟩
 ·have j:0<c*c:=Rat.mul_pos i i;obtain⟨M,l⟩:=a.FA (e*(c*c)) (Rat.mul_pos he j);refine⟨M,fun n m k hm=>?_⟩;exact XL i (g _ (by omega)) (g _ (by omega)) he (l _ _ (by omega) (by omega))
 intro e he;refine⟨N,fun n k=>?_⟩;have:=g n k;have o:a.f n*(a.f (max N n))⁻¹=1:=by rw[Nat.max_eq_right k];grind
 show a.f n*(a.f (max N n))⁻¹-1<e/\1-a.f n*(a.f (max N n))⁻¹<e
 grind
theorem mul_pos {a b:CS} (h:pos a) (k:pos b):pos (mul a b):=by
 obtain⟨c,l,N,j⟩:=h;obtain⟨d,g,M,i⟩:=k;refine⟨c*d,Rat.mul_pos l g,max N M,fun n s=>?_⟩;have m:=j n (by omega);have o:=i n (by omega);have p:=Rat.mul_pos (a:=a.f n-c) (b:=d) (by grind) g;have q:=Rat.mul_pos (a:=a.f n) (b:=b.f n-d) (by grind) (by grind)
 show c*d<a.f n*b.f n
 grind
theorem add_pos {a b:CS} (h:pos a) (k:pos b):pos (add a b):=by
 obtain⟨c,m,N,i⟩:=h;obtain⟨d,o,M,g⟩:=k;refine⟨c+d,by grind,max N M,fun n q=>?_⟩;have j:=i n (by omega);have l:=g n (by omega)
 show c+d<a.f n+b.f n
 grind
theorem X6 {a:CS} (h:pos a):¬pos (neg a):=by
 rintro⟨d,m,M,g⟩
 obtain⟨c,l,N,i⟩:=h;have j:=i (max N M) (by omega);have k:d< -a.f (max N M):=g (max N M) (by omega)
 grind
theorem X7:¬pos (const 0):=by
 rintro⟨d,g,M,c⟩
 have f:d<0:=c M (by omega)
 grind
theorem Hm (k:Nat):(0:Rat)<2^k:=Rat.pow_pos (by decide)
theorem Hl (k:Nat):(0:Rat)<(2^k)⁻¹:=Rat.inv_pos.2 (Hm k)
theorem Xu (k:Nat):(k:Rat)<2^k:=by
 have:=Nat.lt_two_pow_self (n:=k);have h:((k:Nat):Rat)<((2^k:Nat):Rat):=Rat.natCast_lt_natCast.2 this;simpa using h
theorem small (e:Rat) (he:0<e):∃N:Nat,∀n:Nat,N<=n->((2:Rat)^n)⁻¹<e:=by
 refine⟨e.den,fun n i=>?_⟩;have j:=Xu n;have k:(e.den:Rat)<=(n:Rat):=Rat.natCast_le_natCast.2 i
 have l:1<=e*e.den:=by
  have:e*e.den=e.num:=Ho e;rw[this];have g:0<e.num:=YZ he;have f:((1:Int):Rat)<=e.num:=Rat.intCast_le_intCast.2 g;exact f
 have f:=Hm n;have g:=Rat.mul_lt_mul_of_pos_left (a:=(e.den:Rat)) (b:=2^n) (c:=e) (by grind) he;have m:((2:Rat)^n)⁻¹*2^n=1:=by grind
 have h:=Hl n;have o:=Rat.mul_pos (a:=e*2^n-1) (b:=(2^n)⁻¹) (by grind) h;have q:(e*2^n-1)*((2:Rat)^n)⁻¹=e-((2:Rat)^n)⁻¹:=by grind
 grind
def Cr (q:Rat) (k:Nat):Rat:=(Ar (q*(2^k*2^k)).floor.toNat:Rat)*(2^k)⁻¹
theorem NJ (q:Rat) (k:Nat):0<=Cr q k:=
 Rat.mul_nonneg (by exact Rat.natCast_nonneg) (Rat.le_of_lt (Hl k))
theorem SA {q:Rat} (k:Nat) (h:q<=0):Cr q k=0:=by
 have c:q*(2^k*2^k)<=0:=by
  have:=Rat.mul_nonneg (a:= -q) (b:=2^k*2^k) (by grind) (Rat.le_of_lt (Rat.mul_pos (Hm k) (Hm k)))
  generalize (2:Rat)^k=x at*
  grind
 have f:(q*(2^k*2^k)).floor<=0:=by
  have:=Rat.floor_le (q*(2^k*2^k));have g:((q*(2^k*2^k)).floor:Rat)<=((0:Int):Rat):=Rat.le_trans this c;exact Rat.intCast_le_intCast.1 g
 rw[Cr,Int.toNat_of_nonpos f];have:Ar 0=0:=rfl;rw[this];simp
theorem R9 {q:Rat} (k:Nat) (h:0<=q):Cr q k*Cr q k<=q:=by
 have m:=Hm k;have l:=Hl k;have c:0<=q*(2^k*2^k):=Rat.mul_nonneg h (Rat.le_of_lt (Rat.mul_pos m m));have o:=Rat.floor_le (q*(2^k*2^k));have f:0<=(q*(2^k*2^k)).floor:=Rat.le_floor_iff.2 (by simpa using c);have g:=Ib (q*(2^k*2^k)).floor.toNat;rw[Cr]
 generalize v:Ar (q*(2^k*2^k)).floor.toNat=r at*
 have i:((r*r:Nat):Rat)<=((q*(2^k*2^k)).floor.toNat:Rat):=Rat.natCast_le_natCast.2 g
 have j:((q*(2^k*2^k)).floor.toNat:Rat)=((q*(2^k*2^k)).floor:Rat):=by
  have:=Int.toNat_of_nonneg f;have s:(((q*(2^k*2^k)).floor.toNat:Int):Rat)=((q*(2^k*2^k)).floor:Rat):=by rw[this]
  exact s
 rw[j] at i
 have A:(r:Rat)*r<=q*(2^k*2^k):=by
  have:((r*r:Nat):Rat)=(r:Rat)*r:=by simp
  grind
 have C:=Rat.mul_nonneg (a:=q*(2^k*2^k)-(r:Rat)*r) (b:=(2^k)⁻¹*(2^k)⁻¹) (by grind) (Rat.le_of_lt (Rat.mul_pos l l));have e:(2:Rat)^k*(2^k)⁻¹=1:=by grind
 clear c o f g i j v
 generalize ((2:Rat)^k)⁻¹=y at*
 generalize (2:Rat)^k=x at*
 have z:(q*(x*x)-(r:Rat)*r)*(y*y)=q-r*y*(r*y):=by grind
 grind
theorem Q2 (q:Rat) (k:Nat):q<(Cr q k+(2^k)⁻¹)*(Cr q k+(2^k)⁻¹):=by
 have v:=Hm k;have h:=Hl k;have g:=KP (q*(2^k*2^k)).floor.toNat;rw[Cr]
 generalize m:Ar (q*(2^k*2^k)).floor.toNat=r at*
 have i:q*(2^k*2^k)<(q*(2^k*2^k)).floor+1:=by
  have:=Rat.lt_floor_add_one (q*(2^k*2^k));rwa [Rat.intCast_add] at this
 have f:(q*(2^k*2^k)).floor<=((q*(2^k*2^k)).floor.toNat:Int):=Int.self_le_toNat _
 have c:((q*(2^k*2^k)).floor:Rat)<=((q*(2^k*2^k)).floor.toNat:Rat):=by
  exact Rat.intCast_le_intCast.2 f
 have j:((q*(2^k*2^k)).floor.toNat:Rat)+1<=((r:Rat)+1)*(r+1):=by
  have l:(q*(2^k*2^k)).floor.toNat+1<=(r+1)*(r+1):=g;have:=Rat.natCast_le_natCast.2 l;simpa using this
 have s:=Rat.mul_pos (a:=((r:Rat)+1)*(r+1)-q*(2^k*2^k)) (b:=(2^k)⁻¹*(2^k)⁻¹) (by grind) (Rat.mul_pos h h);have e:(2:Rat)^k*(2^k)⁻¹=1:=by grind
 clear i f g j c m
 generalize ((2:Rat)^k)⁻¹=y at*
 generalize (2:Rat)^k=x at*
 have o:(((r:Rat)+1)*(r+1)-q*(x*x))*(y*y)=(r*y+y)*(r*y+y)-q:=by grind
 grind
theorem NK {p q e:Rat} {k l:Nat} (he:0<e) (o:((2:Rat)^l)⁻¹<e/2) (h:p-q<e*e/2):Cr p k-Cr q l<e:=by
 apply Classical.byContradiction;intro v;have f:=NJ q l;have g:=Q2 q l
 have c:0<=p:=by
  apply Classical.byContradiction;intro m;have:=SA (q:=p) k (by grind)
  grind
 have i:=R9 k c;have j:=Hl l
 generalize Cr p k=s at*
 generalize Cr q l=t at*
 generalize ((2:Rat)^l)⁻¹=d at*
 have z:=Rat.mul_nonneg (a:=s-(t+d)-e/2) (b:=s+(t+d)) (by grind) (by grind);have A:=Rat.mul_nonneg (a:=e/2) (b:=s+t+d-e) (by grind) (by grind)
 grind
def sqrt (a:CS):CS:=⟨fun n=>Cr (a.f n) n,fun e he=>by
 obtain⟨N,hN⟩:=small (e/2) (by grind);obtain⟨M,hM⟩:=a.FA (e*e/2) (by have:=Rat.mul_pos he he;grind);refine⟨max N M,fun n m hn hm=>?_⟩;exact NK he (hN m (by omega)) (hM n m (by omega) (by omega))⟩
theorem Zh {a b:CS} (h:a ≈ b):sqrt a ≈ sqrt b:=fun e he=>by
 obtain⟨N,c⟩:=small (e/2) (by grind);obtain⟨M,f⟩:=h (e*e/2) (by have:=Rat.mul_pos he he;grind);refine⟨max N M,fun n g=>?_⟩;have:=f n (by omega);exact⟨NK he (c n (by omega)) this.1,NK he (c n (by omega)) this.2⟩
theorem CB {a:CS} (h:¬pos (neg a)):mul (sqrt a) (sqrt a) ≈ a:=fun e he=>by
 obtain⟨B,O,P,v⟩:=(sqrt a).IK;have F:0<e/(2*B+1):=by rw[Rat.div_def];exact Rat.mul_pos (by grind) (Rat.inv_pos.2 (by grind))
 obtain⟨N,q⟩:=small _ F;obtain⟨k,g⟩:=small 1 (by decide);obtain⟨M,o⟩:=a.FA (e/2) (by grind)
 have c:∃n,M<=n/\ -(e/2)<a.f n:=by
  apply Classical.byContradiction;intro z;apply h;refine⟨e/4,by grind,M,fun n j=>?_⟩;have:¬(-(e/2)<a.f n):=fun A=>z ⟨n,j,A⟩
  show e/4< -a.f n
  grind
 obtain⟨D,i,c⟩:=c;refine⟨max (max N k) (max M P),fun n j=>?_⟩;have l:=v n (by omega);have G:=q n (by omega);have H:=o D n i (by omega);have I:=Q2 (a.f n) n;have J:=NJ (a.f n) n;have K:=Hl n;have L:=g n (by omega)
 show Cr (a.f n) n*Cr (a.f n) n-a.f n<e/\a.f n-Cr (a.f n) n*Cr (a.f n) n<e
 have m:Cr (a.f n) n<=B:=l.1
 constructor
 ·by_cases C:0<=a.f n
  ·have:=R9 n C
   grind
  rw[SA n (by grind)]
  grind
 generalize Cr (a.f n) n=s at*
 generalize ((2:Rat)^n)⁻¹=d at*
 have Q:=Rat.mul_nonneg (a:=B-s) (b:=d) (by grind) (by grind);have R:=Rat.mul_nonneg (a:=1-d) (b:=d) (by grind) (by grind);have S:=Rat.mul_pos (a:=e/(2*B+1)-d) (b:=2*B+1) (by grind) (by grind);have T:e/(2*B+1)*(2*B+1)=e:=by grind
 grind
theorem DO (a:CS):¬pos (neg (sqrt a)):=by
 rintro⟨e,he,N,c⟩
 have g:e< -Cr (a.f N) N:=c N (Nat.le_refl _);have:=NJ (a.f N) N
 grind
end CS
def Re:Type:=Quotient CS.st
namespace Re
def mk (a:CS):Re:=Quotient.mk _ a
def ofRat (q:Rat):Re:=mk (CS.const q)
def add (x y:Re):Re:=Quotient.liftOn₂ x y (fun a b=>mk (CS.add a b)) fun _ _ _ _ h k=>Quotient.sound (CS.add_congr h k)
def mul (x y:Re):Re:=Quotient.liftOn₂ x y (fun a b=>mk (CS.mul a b)) fun _ _ _ _ h k=>Quotient.sound (CS.mul_congr h k)
def neg (x:Re):Re:=Quotient.liftOn x (fun a=>mk (CS.neg a)) fun _ _ h=>Quotient.sound (CS.neg_congr h)
def sqrt (x:Re):Re:=Quotient.liftOn x (fun a=>mk (CS.sqrt a)) fun _ _ h=>Quotient.sound (CS.Zh h)
def pos (x:Re):Prop:=Quotient.liftOn x CS.pos fun _ _ h=>CS.YO h
def pow (x:Re):Nat->Re
 | 0=>ofRat 1
 | n+1=>mul (pow x n) x
instance:Add Re:=⟨add⟩
instance:Mul Re:=⟨mul⟩
instance:Neg Re:=⟨neg⟩
instance:Sub Re:=⟨fun a b=>add a (neg b)⟩
instance (n:Nat):OfNat Re n:=⟨ofRat n⟩
instance:NatCast Re:=⟨fun n=>ofRat n⟩
instance:IntCast Re:=⟨fun n=>ofRat n⟩
instance:Pow Re Nat:=⟨pow⟩
instance:SMul Nat Re:=⟨fun n a=>mul (ofRat n) a⟩
instance:SMul Int Re:=⟨fun n a=>mul (ofRat n) a⟩
instance:LT Re:=⟨fun a b=>pos (add b (neg a))⟩
instance:LE Re:=⟨fun a b=>¬pos (add a (neg b))⟩
theorem sound {a b:CS} (h:∀n,a.f n=b.f n):mk a=mk b:=Quotient.sound (CS.Wh h)
theorem B8 {p:Re->Prop} (h:∀a,p (mk a)) (x:Re):p x:=Quotient.ind h x
theorem add_assoc (x y z:Re):x+y+z=x+(y+z):=by
 induction x using B8;induction y using B8;induction z using B8
 exact sound fun n=>Rat.add_assoc _ _ _
theorem add_comm (x y:Re):x+y=y+x:=by
 induction x using B8;induction y using B8
 exact sound fun n=>Rat.add_comm _ _
theorem add_zero (x:Re):x+0=x:=by
 induction x using B8
 exact sound fun n=>Rat.add_zero _
theorem neg_add_cancel (x:Re): -x+x=0:=by
 induction x using B8
 exact sound fun n=>Rat.neg_add_cancel _
theorem mul_assoc (x y z:Re):x*y*z=x*(y*z):=by
 induction x using B8;induction y using B8;induction z using B8
 exact sound fun n=>Rat.mul_assoc _ _ _
theorem mul_comm (x y:Re):x*y=y*x:=by
 induction x using B8;induction y using B8
 exact sound fun n=>Rat.mul_comm _ _
theorem mul_one (x:Re):x*1=x:=by
 induction x using B8
 exact sound fun n=>Rat.mul_one _
theorem left_distrib (x y z:Re):x*(y+z)=x*y+x*z:=by
 induction x using B8;induction y using B8;induction z using B8
 exact sound fun n=>Rat.mul_add _ _ _
theorem zero_mul (x:Re):0*x=0:=by
 induction x using B8
 exact sound fun n=>Rat.zero_mul _
theorem ofRat_add (p q:Rat):ofRat (p+q)=ofRat p+ofRat q:=rfl
theorem ofRat_mul (p q:Rat):ofRat (p*q)=ofRat p*ofRat q:=rfl
theorem ofRat_neg (p:Rat):ofRat (-p)= -ofRat p:=rfl
abbrev Nw {C:Type->Type} {α:Type} (_:C α):Type->Type:=C
abbrev UH:Type->Type:=Nw Dyadic.instCommRing
abbrev LX:Type->Type:=Nw Dyadic.instCommRing.toRing.toSemiring
instance:UH Re where
 add_assoc:=add_assoc
 add_comm:=add_comm
 add_zero:=add_zero
 neg_add_cancel:=neg_add_cancel
 mul_assoc:=mul_assoc
 mul_comm:=mul_comm
 mul_one:=mul_one
 one_mul:=fun x=>by rw[mul_comm,mul_one]
 left_distrib:=left_distrib
 right_distrib:=fun x y z=>by rw[mul_comm,left_distrib,mul_comm z x,mul_comm z y]
 zero_mul:=zero_mul
 mul_zero:=fun x=>by rw[mul_comm,zero_mul]
 pow_zero:=fun _=>rfl
 pow_succ:=fun _ _=>rfl
 sub_eq_add_neg:=fun _ _=>rfl
 neg_zsmul:=fun i x=>by
  show mul (ofRat ((-i:Int):Rat)) x=neg (mul (ofRat (i:Rat)) x)
  rw[Rat.intCast_neg]
  induction x using B8
  exact sound fun n=>Rat.neg_mul _ _
 zsmul_natCast_eq_nsmul:=fun _ _=>rfl
 nsmul_eq_natCast_mul:=fun _ _=>rfl
 ofNat_succ:=fun n=>by
  show ofRat ((n+1:Nat):Rat)=ofRat (n:Rat)+ofRat 1
  rw[Rat.natCast_add,ofRat_add]
  rfl
 ofNat_eq_natCast:=fun _=>rfl
 intCast_ofNat:=fun _=>rfl
 intCast_neg:=fun i=>by
  show ofRat ((-i:Int):Rat)=neg (ofRat (i:Rat))
  rw[Rat.intCast_neg]
  rfl
theorem lt_def (x y:Re):x<y↔pos (y-x):=Iff.rfl
theorem le_def (x y:Re):x<=y↔¬pos (x-y):=Iff.rfl
theorem YP {x y:Re}:pos x->pos y->pos (x*y):=by
 induction x using B8;induction y using B8
 exact CS.mul_pos
theorem YN {x y:Re}:pos x->pos y->pos (x+y):=by
 induction x using B8;induction y using B8
 exact CS.add_pos
theorem Rj {x:Re}:pos x->¬pos (-x):=by
 induction x using B8
 exact CS.X6
theorem YU:¬pos 0:=CS.X7
theorem Rn (x:Re):x=0\/pos x\/pos (-x):=by
 induction x using B8
 rcases CS.tri _ with h | h | h
 ·exact .inl (Quotient.sound h)
 ·exact .inr (.inl h)
 exact .inr (.inr h)
theorem Rk {q:Rat}:pos (ofRat q)↔0<q:=by
 constructor
 ·rintro⟨e,he,N,c⟩
  have:e<q:=c N (Nat.le_refl _)
  grind
 intro h;exact⟨q/2,by grind,0,fun n _=>by show q/2<q;grind⟩
theorem le_trans' {x y z:Re} (h:x<=y) (k:y<=z):x<=z:=by
 rw[le_def] at*;intro c;rcases Rn (x-y) with e | e | e
 ·rw[show x-z=(x-y)+(y-z) by grind,e,show 0+(y-z)=y-z by grind] at c;exact k c
 ·exact h e
 have:=YN c e;rw[show x-z+ -(x-y)=y-z by grind] at this;exact k this
theorem XZ (x y:Re):x<=y\/y<=x:=by
 rw[le_def,le_def]
 by_cases h:pos (x-y)
 ·right
  have:=Rj h;rwa [show -(x-y)=y-x by grind] at this
 exact .inl h
theorem XX {x y:Re} (h:x<=y) (k:y<=x):x=y:=by
 rw[le_def] at*;rcases Rn (x-y) with e | e | e
 ·grind
 ·exact (h e).elim
 rw[show -(x-y)=y-x by grind] at e;exact (k e).elim
theorem Xf (x y:Re):x<y↔x<=y/\¬y<=x:=by
 rw[lt_def,le_def,le_def]
 constructor
 ·intro h;refine⟨?_,fun k=>k h⟩;have:=Rj h;rwa [show -(y-x)=x-y by grind] at this
 rintro⟨_,h⟩
 exact Classical.not_not.1 h
instance:Std.IsLinearOrder Re where
 le_refl:=fun x=>by
  rw[le_def,show x-x=0 by grind];exact YU
 le_trans:=fun _ _ _=>le_trans'
 le_antisymm:=fun _ _=>XX
 le_total:=XZ
instance:Std.LawfulOrderLT Re where
 lt_iff:=Xf
abbrev T3 {C:(β:Type)->(s:LX β)->(l:LE β)->(t:LT β)->Std.IsPreorder β->Prop} {α:Type} {s:LX α} {l:LE α} {t:LT α} {p:Std.IsPreorder α} (_:C α s l t p):(β:Type)->(s:LX β)->(l:LE β)->(t:LT β)->Std.IsPreorder β->Prop:=C
theorem Mj {a b c:Re} (h:a<b) (f:0<c):c*a<c*b:=by
 rw[lt_def] at*;rw[show c*b-c*a=(c-0)*(b-a) by grind];exact YP f h
instance:T3 Dyadic.instOrderedRing Re inferInstance inferInstance inferInstance inferInstance where
 add_le_left_iff:=fun c=>by
  rename_i a b
  rw[le_def,le_def,show a+c-(b+c)=a-b by grind]
 zero_lt_one:=by
  rw[lt_def]
  show pos (ofRat 1-ofRat 0)
  have:ofRat 1-ofRat 0=ofRat 1:=by
   show (1:Re)-0=1
   grind
  rw[this,Rk]
  decide
 mul_lt_mul_of_pos_left:=fun h hc=>Mj h hc
 mul_lt_mul_of_pos_right:=fun h hc=>by
  rename_i a b c
  rw[mul_comm a c,mul_comm b c];exact Mj h hc
theorem mul_pos {x y:Re} (h:0<x) (k:0<y):0<x*y:=by
 have:=Mj k h
 grind
theorem Hj {x y:Re} (h:0<=x) (k:0<=y):0<=x*y:=by
 by_cases h':0<x
 ·by_cases k':0<y
  ·have:=mul_pos h' k'
   grind
  have:y=0:=by grind
  subst this
  grind
 have:x=0:=by grind
 subst this
 grind
theorem FH {p q:Rat}:ofRat p<ofRat q↔p<q:=by
 rw[lt_def]
 have:ofRat q-ofRat p=ofRat (q-p):=by
  rw[show q-p=q+ -p by grind,ofRat_add,ofRat_neg];grind
 rw[this,Rk]
 grind
theorem Ip {p q:Rat}:ofRat p<=ofRat q↔p<=q:=by
 have:= @FH q p
 grind
theorem Ff {p q:Rat}:ofRat p=ofRat q↔p=q:=by
 constructor
 ·intro h;have c:=(@Ip p q).1 (by grind);have f:=(@Ip q p).1 (by grind)
  grind
 rintro rfl;rfl
theorem Qi {x:Re} (h:0<x):∃y,x*y=1:=by
 rw[lt_def,show x-0=x by grind] at h
 induction x using B8
 obtain⟨b,c⟩:=CS.Ia h;exact⟨mk b,Quotient.sound c⟩
theorem Ia {x:Re} (h:x≠0):∃y,x*y=1:=by
 by_cases hx:0<x
 ·exact Qi hx
 obtain⟨y,c⟩:=Qi (x:= -x) (by grind);exact⟨-y,by grind⟩
theorem DO (x:Re):0<=sqrt x:=by
 rw[le_def,show 0-sqrt x= -sqrt x by grind]
 induction x using B8
 exact CS.DO _
theorem CB {x:Re} (h:0<=x):sqrt x*sqrt x=x:=by
 rw[le_def,show 0-x= -x by grind] at h
 induction x using B8
 exact Quotient.sound (CS.CB h)
theorem EN {x y:Re} (h:x*y=0):x=0\/y=0:=by
 by_cases hx:x=0
 ·exact .inl hx
 obtain⟨z,c⟩:=Ia hx
 right
 have:y=(x*z)*y:=by rw[c];grind
 grind
theorem Na (x:Re):0<=x*x:=by
 by_cases h:0<=x
 ·exact Hj h h
 have:=Hj (x:= -x) (y:= -x) (by grind) (by grind)
 grind
theorem Fq {x y:Re} (hx:0<=x) (c:0<=y) (h:x*x=y*y):x=y:=by
 have:(x-y)*(x+y)=0:=by grind
 rcases EN this with e | e
 ·grind
 grind
end Re
end Go.Abs
namespace Go.Abs
def AI:List (List Rat)->List Rat->Re
 | [],a=>Re.ofRat (a.headD 0)
 | r::u,a=>AI u (a.take (2^u.length))+AI u (a.drop (2^u.length))*Re.sqrt (AI u r)
def rt (u:List (List Rat)) (r:List Rat):Re:=Re.sqrt (AI u r)
def In (u:List (List Rat)) (x:Re):Prop:=∃a:List Rat,a.length=2^u.length/\AI u a=x
def AQ:List (List Rat)->Prop
 | []=>True
 | r::u=>AQ u/\r.length=2^u.length/\0<AI u r/\¬∃w,In u w/\w*w=AI u r
noncomputable def co (u:List (List Rat)) (x:Re):List Rat:=by
 classical
 exact if h:In u x then Classical.choose h else []
variable {a:List Rat} {p x y:Re}
theorem BE (r:List Rat) (u:List (List Rat)):2^(r::u).length=2^u.length+2^u.length:=by
 rw[List.length_cons,Nat.pow_succ];omega
theorem Bb:In [] x↔∃q,x=Re.ofRat q:=by
 constructor
 ·rintro⟨a,_,rfl⟩;exact⟨_,rfl⟩
 rintro⟨q,rfl⟩;exact⟨[q],rfl,rfl⟩
theorem Bo {r:List Rat} {u:List (List Rat)}:In (r::u) x↔∃p q,In u p/\In u q/\x=p+q*rt u r:=by
 constructor
 ·rintro⟨a,c,rfl⟩
  rw[BE] at c;exact⟨_,_,⟨a.take (2^u.length),by rw[List.length_take];omega,rfl⟩,⟨a.drop (2^u.length),by rw[List.length_drop];omega,rfl⟩,rfl⟩
 rintro⟨p,q,⟨a,c,rfl⟩,⟨b,f,rfl⟩,rfl⟩
 refine⟨a++b,by rw[BE,List.length_append];omega,?_⟩;rw[AI,<-c,List.take_left,List.drop_left];rfl
theorem Jv:∀(u:List (List Rat)) (a b:List Rat),a.length=2^u.length->b.length=2^u.length->AI u (List.zipWith (· + ·) a b)=AI u a+AI u b
 | [],a,b,c,f=>by
  match a,b,c,f with
  | [p],[q],_,_=>exact Re.ofRat_add p q
 | r::u,a,b,c,f=>by
  rw[BE] at c f;rw[AI,AI,AI,List.take_zipWith,List.drop_zipWith,Jv u _ _ (by rw[List.length_take];omega) (by rw[List.length_take];omega),Jv u _ _ (by rw[List.length_drop];omega) (by rw[List.length_drop];omega)]
  grind
theorem Jw:∀(u:List (List Rat)) (a:List Rat),a.length=2^u.length->AI u (a.map (- ·))= -AI u a
 | [],a,c=>by
  match a,c with
  | [p],_=>exact Re.ofRat_neg p
 | r::u,a,c=>by
  rw[BE] at c;rw[AI,AI,<-List.map_take,<-List.map_drop,Jw u _ (by rw[List.length_take];omega),Jw u _ (by rw[List.length_drop];omega)]
  grind
theorem IW:∀(u:List (List Rat)) (n:Nat),AI u (List.replicate n 0)=0
 |[],0|[],n+1=>rfl
 | r::u,n=>by rw[AI,List.take_replicate,List.drop_replicate,IW,IW];grind
theorem FY (q:Rat):∀u,In u (Re.ofRat q)
 | []=>Bb.2 ⟨q,rfl⟩
 | r::u=>Bo.2 ⟨_,_,FY q u,⟨List.replicate (2^u.length) 0,List.length_replicate,IW u _⟩,by grind⟩
theorem BM (u:List (List Rat)):In u 0:=FY 0 u
theorem MR (u:List (List Rat)):In u 1:=FY 1 u
theorem B3 {u:List (List Rat)}:In u x->In u y->In u (x+y)
 |⟨a,g,c⟩,⟨b,h,f⟩=>⟨List.zipWith (· + ·) a b,by rw[List.length_zipWith];omega,by rw[Jv u a b g h,c,f]⟩
theorem FD {u:List (List Rat)}:In u x->In u (-x)
 |⟨a,c,f⟩=>⟨a.map (- ·),by rw[List.length_map,c],by rw[Jw u a c,f]⟩
theorem Dv {u:List (List Rat)} (h:In u x) (k:In u y):In u (x-y):=by
 have:=B3 h (FD k);rwa [show x+ -y=x-y by grind] at this
theorem Bk {u:List (List Rat)} {r:List Rat} (h:AQ (r::u)):rt u r*rt u r=AI u r:=Re.CB (by have:=h.2.2.1;grind)
theorem Yr (u:List (List Rat)) (r:List Rat):0<=rt u r:=Re.DO _
theorem Bg {u:List (List Rat)} {r:List Rat} (h:AQ (r::u)):In u (AI u r):=⟨r,h.2.1,rfl⟩
theorem FZ {u:List (List Rat)} {r:List Rat} (h:In u x):In (r::u) x:=Bo.2 ⟨x,0,h,BM u,by grind⟩
theorem GD (u:List (List Rat)) (r:List Rat):In (r::u) (rt u r):=Bo.2 ⟨0,1,BM u,MR u,by grind⟩
theorem Ab:∀{u:List (List Rat)} {x y:Re},AQ u->In u x->In u y->In u (x*y)
 | [],x,y,_,hx,f=>by
  obtain⟨p,rfl⟩:=Bb.1 hx;obtain⟨q,rfl⟩:=Bb.1 f;exact Bb.2 ⟨p*q,(Re.ofRat_mul p q).symm⟩
 | r::u,x,y,h,hx,f=>by
  obtain⟨a,b,g,i,rfl⟩:=Bo.1 hx;obtain⟨c,d,j,k,rfl⟩:=Bo.1 f;have l:=Bk h;refine Bo.2 ⟨a*c+b*d*AI u r,a*d+b*c,B3 (Ab h.1 g j) (Ab h.1 (Ab h.1 i k) (Bg h)),B3 (Ab h.1 g k) (Ab h.1 i j),?_⟩
  grind
theorem RI {u:List (List Rat)} {r:List Rat} (h:AQ (r::u)) {w:Re} (hw:In u w):w*w≠AI u r:=fun e=>h.2.2.2 ⟨w,hw,e⟩
theorem DR:∀{u:List (List Rat)} {x:Re},AQ u->In u x->x≠0->∃y,In u y/\x*y=1
 | [],x,_,hx,i=>by
  obtain⟨p,rfl⟩:=Bb.1 hx;have A:p≠0:=fun e=>i (by rw[e];rfl)
  refine⟨Re.ofRat p⁻¹,Bb.2 ⟨_,rfl⟩,?_⟩;rw[<-Re.ofRat_mul,show p*p⁻¹=1 by grind];rfl
 | r::u,x,h,hx,i=>by
  obtain⟨a,b,f,g,rfl⟩:=Bo.1 hx;have C:=Bk h
  have s:a*a-b*b*AI u r≠0:=by
   intro e
   by_cases j:b=0
   ·have o:a=0:=by
     have:a*a=0:=by grind
     rcases Re.EN this with e | e <;> exact e
    exact i (by grind)
   obtain⟨c,q,k⟩:=DR h.1 g j
   exact RI h (Ab h.1 f q) (by
    have z:a*a=b*b*AI u r:=by grind
    have m:a*c*(a*c)=(b*c)*(b*c)*AI u r:=by grind
    rw[m,k];grind)
  obtain⟨y,l,v⟩:=DR h.1 (Dv (Ab h.1 f f) (Ab h.1 (Ab h.1 g g) (Bg h))) s;refine⟨a*y+ -(b*y)*rt u r,Bo.2 ⟨_,_,Ab h.1 f l,FD (Ab h.1 g l),rfl⟩,?_⟩
  grind
theorem indep {u:List (List Rat)} {r:List Rat} (h:AQ (r::u)) {q g f:Re} (s:In u p) (v:In u q) (i:In u g) (j:In u f) (e:p+q*rt u r=g+f*rt u r):p=g/\q=f:=by
 have A:=Bk h
 by_cases m:q-f=0
 ·have:q=f:=by grind
  subst this;exact⟨by grind,rfl⟩
 exfalso
 obtain⟨c,o,k⟩:=DR h.1 (Dv v j) m;refine RI h (Ab h.1 (Dv i s) o) ?_;have z:(q-f)*rt u r=g-p:=by grind
 have l:(g-p)*c=rt u r*((q-f)*c):=by grind
 rw[l,k];grind
theorem MG:∀{u:List (List Rat)} {a b:List Rat},AQ u->a.length=2^u.length->b.length=2^u.length->AI u a=AI u b->a=b
 | [],a,b,_,c,f,e=>by
  match a,b,c,f with
  | [p],[q],_,_=>exact congrArg (fun x=>[x]) (Re.Ff.1 e)
 | r::u,a,b,h,c,f,e=>by
  rw[BE] at c f;have l1:(a.take (2^u.length)).length=2^u.length:=by rw[List.length_take];omega
  have l2:(a.drop (2^u.length)).length=2^u.length:=by rw[List.length_drop];omega
  have l3:(b.take (2^u.length)).length=2^u.length:=by rw[List.length_take];omega
  have g:(b.drop (2^u.length)).length=2^u.length:=by rw[List.length_drop];omega
  obtain⟨i,j⟩:=indep h ⟨_,l1,rfl⟩ ⟨_,l2,rfl⟩ ⟨_,l3,rfl⟩ ⟨_,g,rfl⟩ e;rw[<-List.take_append_drop (2^u.length) a,<-List.take_append_drop (2^u.length) b,MG h.1 l1 l3 i,MG h.1 l2 g j]
theorem Pm {u:List (List Rat)} (h:In u x):(co u x).length=2^u.length/\AI u (co u x)=x:=by
 unfold co;rw[dif_pos h];exact Classical.choose_spec h
theorem B6 {u:List (List Rat)} (h:In u x):(co u x).length=2^u.length:=(Pm h).1
theorem DA {u:List (List Rat)} (h:In u x):AI u (co u x)=x:=(Pm h).2
theorem Gi {u:List (List Rat)} (h:AQ u) (c:a.length=2^u.length) (e:AI u a=x):co u x=a:=by
 have hx:In u x:=⟨a,c,e⟩;exact MG h (B6 hx) c ((DA hx).trans e.symm)
theorem WO {u:List (List Rat)} (h:AQ u) (c:a.length=2^u.length):co u (AI u a)=a:=Gi h c rfl
theorem Jh {u:List (List Rat)} (h:AQ u) (hx:In u x) (c:In u y):co u (x+y)=List.zipWith (· + ·) (co u x) (co u y):=
 Gi h (by rw[List.length_zipWith,B6 hx,B6 c];omega) (by rw[Jv u _ _ (B6 hx) (B6 c),DA hx,DA c])
theorem IS {u:List (List Rat)} (h:AQ u) (hx:In u x):co u (-x)=(co u x).map (- ·):=
 Gi h (by rw[List.length_map,B6 hx]) (by rw[Jw u _ (B6 hx),DA hx])
theorem L5 {u:List (List Rat)} (h:AQ u):co u 0=List.replicate (2^u.length) 0:=Gi h List.length_replicate (IW u _)
theorem CT {u:List (List Rat)} {r:List Rat} {q:Re} (h:AQ (r::u)) (c:In u p) (f:In u q) (hx:x=p+q*rt u r):co (r::u) x=co u p++co u q:=by
 refine Gi h (by rw[List.length_append,B6 c,B6 f,BE]) ?_;rw[AI,<-B6 c,List.take_left,List.drop_left,DA c,DA f,hx];rfl
theorem Bn (q:Rat):co [] (Re.ofRat q)=[q]:=Gi (u:=[]) trivial rfl rfl
theorem HK (q:Rat):∀{u:List (List Rat)},AQ u->co u (Re.ofRat q)=q::List.replicate (2^u.length-1) 0
 | [],_=>Bn q
 | r::u,h=>by
  rw[CT h (FY q u) (BM u) (by grind),HK q h.1,L5 h.1,List.cons_append,List.replicate_append_replicate];have:1<=2^u.length:=Nat.one_le_two_pow;have:2^(r::u).length-1=2^u.length-1+2^u.length:=by rw[BE];omega
  rw[this]
theorem WR {u:List (List Rat)} {r:List Rat} {q:Re} (h:AQ (r::u)) (c:In u p) (f:In u q) (hx:x=p+q*rt u r):(co (r::u) x).take (2^u.length)=co u p:=by
 rw[CT h c f hx,<-B6 c,List.take_left]
theorem WQ {u:List (List Rat)} {r:List Rat} {q:Re} (h:AQ (r::u)) (c:In u p) (f:In u q) (hx:x=p+q*rt u r):(co (r::u) x).drop (2^u.length)=co u q:=by
 rw[CT h c f hx,<-B6 c,List.drop_left]
theorem IQ {u:List (List Rat)} (h:AQ u) (hx:In u x):(∀c∈co u x,c=0)↔x=0:=by
 constructor
 ·intro f;have:co u x=List.replicate (2^u.length) 0:=List.eq_replicate_iff.2 ⟨B6 hx,f⟩;rw[<-DA hx,this,IW]
 rintro rfl c f;rw[L5 h] at f;exact (List.mem_replicate.1 f).2
theorem Yq {u:List (List Rat)} {r:List Rat} (h:AQ (r::u)):rt u r≠0:=by
 intro e;have c:=Bk h;have:=h.2.2.1;rw[e] at c
 grind
theorem SH {u:List (List Rat)} {r:List Rat} (h:AQ (r::u)):0<rt u r:=by
 have:=Yq h;have:=Yr u r
 grind
end Go.Abs
namespace Go.Abs
def Sq (u:List (List Rat)) (x:Re):Prop:=∃w,In u w/\w*w=x
variable {a b n t w x:Re} {r:List Rat} {u:List (List Rat)}
theorem K9:(2:Re)≠0:=by
 intro h
 have c:(0:Re)<1:=by
  have:=Re.FH.2 (show (0:Rat)<1 by decide);exact this
 grind
theorem Q8 {y:Re} (hx:x≠0) (c:y≠0):x*y≠0:=fun h=>by rcases Re.EN h with e | e;exact hx e;exact c e
theorem S5 (h:x*x=0):x=0:=by rcases Re.EN h with e | e <;> exact e
theorem Sx (h:AQ (r::u)) (v:In u a):Sq (r::u) a↔Sq u a\/∃i,In u i/\AI u r*i=1/\Sq u (a*i):=by
 have A:=Bk h
 constructor
 ·rintro⟨w,hw,e⟩
  obtain⟨c,d,g,k,rfl⟩:=Bo.1 hw;have o:(c*c+d*d*AI u r)+(2*c*d)*rt u r=a+0*rt u r:=by grind
  have s:In u (2*c*d):=by
   have:=B3 (Ab h.1 g k) (Ab h.1 g k);rwa [show c*d+c*d=2*c*d by grind] at this
  obtain⟨z,q⟩:=indep h (B3 (Ab h.1 g g) (Ab h.1 (Ab h.1 k k) (Bg h))) s v (BM u) o
  by_cases l:d=0
  ·left;exact⟨c,g,by grind⟩
  right
  have j:c=0:=by
   apply Classical.byContradiction;intro j;exact Q8 (Q8 K9 j) l q
  obtain⟨i,m,f⟩:=DR h.1 (Bg h) (by have:=h.2.2.1;grind);exact⟨i,m,f,d,k,by grind⟩
 rintro (⟨w,hw,e⟩ |⟨i,m,f,w,hw,e⟩)
 ·exact⟨w,FZ hw,e⟩
 refine⟨0+w*rt u r,Bo.2 ⟨0,w,BM u,hw,rfl⟩,?_⟩;have:a=a*(AI u r*i):=by rw[f];grind
 grind
theorem Sz (h:AQ (r::u)) (m:In u a) (o:In u b) (hw:Sq (r::u) (a+b*rt u r)):∃c d,In u c/\In u d/\c*c+d*d*AI u r=a/\2*c*d=b:=by
 have q:=Bk h;obtain⟨w,hw,e⟩:=hw;obtain⟨c,d,f,g,rfl⟩:=Bo.1 hw;have i:(c*c+d*d*AI u r)+(2*c*d)*rt u r=a+b*rt u r:=by grind
 have l:In u (2*c*d):=by
  have:=B3 (Ab h.1 f g) (Ab h.1 f g);rwa [show c*d+c*d=2*c*d by grind] at this
 obtain⟨j,k⟩:=indep h (B3 (Ab h.1 f f) (Ab h.1 (Ab h.1 g g) (Bg h))) l m o i;exact⟨c,d,f,g,j,k⟩
theorem S3 (h:AQ (r::u)) (i:In u a) (j:In u b) (hw:Sq (r::u) (a+b*rt u r)):Sq u (a*a-b*b*AI u r):=by
 obtain⟨c,d,f,g,k,l⟩:=Sz h i j hw;exact⟨c*c-d*d*AI u r,Dv (Ab h.1 f f) (Ab h.1 (Ab h.1 g g) (Bg h)),by grind⟩
theorem S4 (h:AQ (r::u)) (m:In u a) (o:In u b) (hw:Sq (r::u) (a+b*rt u r)) (g:n*n=a*a-b*b*AI u r) (ht:2*t=1):
  Sq u (t*(a+n))\/Sq u (t*(a-n)):=by
 obtain⟨c,d,l,q,j,k⟩:=Sz h m o hw;have hm:(n-(c*c-d*d*AI u r))*(n+(c*c-d*d*AI u r))=0:=by grind
 rcases Re.EN hm with e | e
 ·left
  have f:a+n=2*(c*c):=by clear g hm;grind
  have i:t*(2*(c*c))=2*t*(c*c):=by clear g hm j k f e;grind
  exact⟨c,l,by rw[f,i,ht];grind⟩
 right
 have f:a-n=2*(c*c):=by clear g hm;grind
 have i:t*(2*(c*c))=2*t*(c*c):=by clear g hm j k f e;grind
 exact⟨c,l,by rw[f,i,ht];grind⟩
theorem Sv {c i ρ s:Re} (C:n*n=a*a-b*b*ρ) (ht:2*t=1) (D:s*s=ρ) (hw:w*w=t*(a+n)) (g:(w+w)*i=1) (k:c=w+b*i*s):c*c=a+b*s:=by
 have f:w≠0:=by intro e;subst e;grind
 have l:2*(w*w)=a+n:=by rw[hw];grind
 have m:(a+n)*(a-n)=b*b*ρ:=by grind
 have o:2*(w*w)*(b*i*(b*i)*ρ)*2=b*b*ρ:=by
  have:2*(w*w)*(b*i*(b*i)*ρ)*2=b*b*ρ*(((w+w)*i)*((w+w)*i)):=by grind
  rw[this,g];grind
 have h:(a+n)*(2*(b*i*(b*i)*ρ)-(a-n))=0:=by grind
 have q:2*(b*i*(b*i)*ρ)-(a-n)=0:=by
  rcases Re.EN h with e | e
  ·exfalso
   have:2*(w*w)=0:=by grind
   rcases Re.EN this with e | e
   ·exact K9 e
   exact f (S5 e)
  exact e
 have v:2*w*(b*i)=b:=by
  have:2*w*(b*i)=b*((w+w)*i):=by grind
  rw[this,g];grind
 have z:c*c=w*w+b*i*(b*i)*ρ+2*w*(b*i)*s:=by rw[k];grind
 have j:2*(w*w+b*i*(b*i)*ρ-a)=0:=by grind
 have A:w*w+b*i*(b*i)*ρ-a=0:=by
  rcases Re.EN j with e | e
  ·exact absurd e K9
  exact e
 grind
theorem Sw (h:AQ (r::u)) (c:b≠0) (j:n*n=a*a-b*b*AI u r) (ht:2*t=1) (hw:w*w=t*(a+n)):w≠0:=by
 intro e;subst e;have g:a+n=0:=by grind
 have f:b*b*AI u r=0:=by grind
 have i:=h.2.2.1;rcases Re.EN f with e | e
 ·exact c (S5 e)
 grind
theorem NZ {q:Rat}:Sq [] (Re.ofRat q)↔∃r:Rat,0<=r/\r*r=q:=by
 constructor
 ·rintro⟨w,hw,e⟩
  obtain⟨r,rfl⟩:=Bb.1 hw;rw[<-Re.ofRat_mul,Re.Ff] at e;rcases Rat.le_total (a:=0) (b:=r) with h | h
  ·exact⟨r,h,e⟩
  exact⟨-r,by grind,by grind⟩
 rintro⟨r,_,e⟩
 exact⟨Re.ofRat r,Bb.2 ⟨r,rfl⟩,by rw[<-Re.ofRat_mul,e]⟩
end Go.Abs
