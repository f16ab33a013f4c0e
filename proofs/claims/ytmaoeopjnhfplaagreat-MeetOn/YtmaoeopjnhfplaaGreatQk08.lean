/- Part 9 of a proof. Conditions: each theorem's own. -/
import Derived.Test.YtmaoeopjnhfplaaGreatQk07
set_option linter.all false
set_option maxHeartbeats 8000000
set_option maxRecDepth 20000
namespace Go.Abs
variable {B d:Rat}
theorem lY (e:Rat):e=e.num/e.den:=by
 have h:=Rat.mkRat_self e;rw[Rat.mkRat_eq_div] at h;exact h.symm
theorem LU (e:Rat):e*e.den=e.num:=by
 have h:(e.den:Rat)≠0:=by
  intro h;exact e.den_nz (Rat.natCast_eq_zero_iff.1 h)
 have:=lY e
 grind
theorem lZ {e:Rat} (h:0<e):0<e.num:=by
 have:=(Rat.lt_iff 0 e).1 h;simpa using this
theorem LB {a e:Rat} (c:a<=B) (f: -B<=a) (h3:d<=e) (g: -e<=d):a*d<=B*e:=by
 have p:=Rat.mul_nonneg (a:=B-a) (b:=e+d) (by grind) (by grind);have q:=Rat.mul_nonneg (a:=B+a) (b:=e-d) (by grind) (by grind)
 grind
theorem j6 {a e:Rat} (f:a<=B) (g: -B<=a) (h3:d<=e) (c: -e<=d): -(B*e)<=a*d:=by
 have:=LB (a:= -a) (d:=d) (B:=B) (e:=e) (by grind) (by grind) h3 c
 grind
structure CS where
 f:Nat->Rat
 Hr:∀e:Rat,0<e->∃N,∀n m,N<=n->N<=m->f n-f m<e
namespace CS
def eqv (a b:CS):Prop:=∀e:Rat,0<e->∃N,∀n,N<=n->a.f n-b.f n<e/\b.f n-a.f n<e
theorem gh (a:CS):eqv a a:=fun e he=>⟨0,fun n _=>by grind⟩
theorem XG {a b:CS} (h:eqv a b):eqv b a:=fun e he=>by
 obtain⟨N,c⟩:=h e he;exact⟨N,fun n f=>⟨(c n f).2,(c n f).1⟩⟩
theorem gi {a b c:CS} (h:eqv a b) (k:eqv b c):eqv a c:=fun e he=>by
 obtain⟨N,g⟩:=h (e/2) (by grind);obtain⟨M,f⟩:=k (e/2) (by grind);refine⟨max N M,fun n i=>?_⟩;have:=g n (by omega);have:=f n (by omega)
 grind
instance st:Setoid CS:=⟨eqv,gh,XG,gi⟩
theorem gg {a b:CS} (h:∀n,a.f n=b.f n):a ≈ b:=fun e he=>⟨0,fun n _=>by have:=h n;grind⟩
theorem L8 (a:CS):∃B:Rat,0<B/\∃N,∀n,N<=n->a.f n<=B/\ -B<=a.f n:=by
 obtain⟨N,c⟩:=a.Hr 1 (by decide)
 have i:0<=max (a.f N) (-(a.f N)):=by
  rcases Rat.le_total (a:=a.f N) (b:= -(a.f N)) with h | h
  ·rw[Rat.max_def,if_pos h];grind
  by_cases h':a.f N<= -(a.f N)
  ·rw[Rat.max_def,if_pos h'];grind
  rw[Rat.max_def,if_neg h'];grind
 have j:a.f N<=max (a.f N) (-(a.f N)):=by rw[Rat.max_def];split <;> grind
 have k: -(a.f N)<=max (a.f N) (-(a.f N)):=by rw[Rat.max_def];split <;> grind
 refine⟨max (a.f N) (-(a.f N))+1,by grind,N,fun n g=>?_⟩;have:=c n N g (Nat.le_refl _);have:=c N n (Nat.le_refl _) g
 grind
def const (q:Rat):CS:=⟨fun _=>q,fun e he=>⟨0,fun n m _ _=>by grind⟩⟩
def add (a b:CS):CS:=⟨fun n=>a.f n+b.f n,fun e he=>by
 obtain⟨N,hN⟩:=a.Hr (e/2) (by grind);obtain⟨M,hM⟩:=b.Hr (e/2) (by grind);refine⟨max N M,fun n m hn hm=>?_⟩;have:=hN n m (by omega) (by omega);have:=hM n m (by omega) (by omega)
 grind⟩
def neg (a:CS):CS:=⟨fun n=> -a.f n,fun e he=>by
 obtain⟨N,hN⟩:=a.Hr e he;refine⟨N,fun n m hn hm=>?_⟩;have:=hN m n hm hn
 grind⟩
theorem YR {x y u v A e:Rat} (m:0<A) (o:0<B) (he:0<e) (h:x<=A) (f: -A<=x) (g:v<=B) (c: -B<=v)
  (j:x-u<e/(2*B)) (k:u-x<e/(2*B)) (h3:y-v<e/(2*A)) (l:v-y<e/(2*A)):x*y-u*v<=e:=by
 have p:=LB (a:=x) (d:=y-v) (B:=A) (e:=e/(2*A)) h f (by grind) (by grind);have q:=LB (a:=v) (d:=x-u) (B:=B) (e:=e/(2*B)) g c (by grind) (by grind);have i:A*(e/(2*A))=e/2:=by grind
 have e2:B*(e/(2*B))=e/2:=by grind
 grind
def mul (a b:CS):CS:=⟨fun n=>a.f n*b.f n,fun e he=>by
 obtain⟨A,hA,N,hN⟩:=a.L8;obtain⟨B,hB,M,hM⟩:=b.L8;have p1:0<(e/2)/(2*B):=by rw[Rat.div_def];exact Rat.mul_pos (by grind) (Rat.inv_pos.2 (by grind))
 have p2:0<(e/2)/(2*A):=by rw[Rat.div_def];exact Rat.mul_pos (by grind) (Rat.inv_pos.2 (by grind))
 obtain⟨P,hP⟩:=a.Hr _ p1;obtain⟨Q,hQ⟩:=b.Hr _ p2;refine⟨max (max N M) (max P Q),fun n m hn hm=>?_⟩;have hn1:=hN n (by omega);have hm1:=hM m (by omega);have:=YR (e:=e/2) hA hB (by grind) hn1.1 hn1.2 hm1.1 hm1.2 (hP n m (by omega) (by omega)) (hP m n (by omega) (by omega)) (hQ n m (by omega) (by omega)) (hQ m n (by omega) (by omega))
 grind⟩
theorem add_congr {a b c d:CS} (h:a ≈ c) (k:b ≈ d):add a b ≈ add c d:=fun e he=>by
 obtain⟨N,i⟩:=h (e/2) (by grind);obtain⟨M,g⟩:=k (e/2) (by grind);refine⟨max N M,fun n j=>?_⟩;have:=i n (by omega);have:=g n (by omega)
 show a.f n+b.f n-(c.f n+d.f n)<e/\c.f n+d.f n-(a.f n+b.f n)<e
 grind
theorem neg_congr {a c:CS} (h:a ≈ c):neg a ≈ neg c:=fun e he=>by
 obtain⟨N,g⟩:=h e he;refine⟨N,fun n i=>?_⟩;have:=g n i
 show -a.f n- -c.f n<e/\ -c.f n- -a.f n<e
 grind
theorem mul_congr {a b c d:CS} (h:a ≈ c) (k:b ≈ d):mul a b ≈ mul c d:=fun e he=>by
 obtain⟨A,m,N,z⟩:=a.L8;obtain⟨B,o,M,v⟩:=d.L8;have F:0<(e/2)/(2*B):=by rw[Rat.div_def];exact Rat.mul_pos (by grind) (Rat.inv_pos.2 (by grind))
 have G:0<(e/2)/(2*A):=by rw[Rat.div_def];exact Rat.mul_pos (by grind) (Rat.inv_pos.2 (by grind))
 obtain⟨P,C⟩:=h _ F;obtain⟨Q,D⟩:=k _ G;refine⟨max (max N M) (max P Q),fun n I=>?_⟩;have i:=z n (by omega);have g:=v n (by omega);have j:=C n (by omega);have l:=D n (by omega);have t1:=YR (e:=e/2) m o (by grind) i.1 i.2 g.1 g.2 j.1 j.2 l.1 l.2;have p:=LB (a:=a.f n) (d:=d.f n-b.f n) (B:=A) (e:=(e/2)/(2*A)) i.1 i.2 (by grind) (by grind);have q:=LB (a:=d.f n) (d:=c.f n-a.f n) (B:=B) (e:=(e/2)/(2*B)) g.1 g.2 (by grind) (by grind);have H:A*((e/2)/(2*A))=e/4:=by grind
 have e2:B*((e/2)/(2*B))=e/4:=by grind
 show a.f n*b.f n-c.f n*d.f n<e/\c.f n*d.f n-a.f n*b.f n<e
 grind
def pos (a:CS):Prop:=∃e:Rat,0<e/\∃N,∀n,N<=n->e<a.f n
theorem ZD {a b:CS} (h:a ≈ b) (k:pos a):pos b:=by
 obtain⟨e,he,N,f⟩:=k;obtain⟨M,c⟩:=h (e/2) (by grind);refine⟨e/2,by grind,max N M,fun n g=>?_⟩;have:=f n (by omega);have:=c n (by omega)
 grind
theorem kz {a b:CS} (h:a ≈ b):pos a=pos b:=propext ⟨ZD h,ZD (XG h)⟩
theorem tri (a:CS):a ≈ const 0\/pos a\/pos (neg a):=by
 apply Classical.byContradiction;intro h;apply h;refine .inl fun e he=>?_
 obtain⟨N,c⟩:=a.Hr (e/2) (by grind);refine⟨N,fun n g=>?_⟩
 show a.f n-0<e/\0-a.f n<e
 constructor
 ·apply Classical.byContradiction;intro hc;refine h (.inr (.inl ⟨e/4,by grind,N,fun m hm=>?_⟩));have:=c n m g hm
  grind
 apply Classical.byContradiction;intro hc;refine h (.inr (.inr ⟨e/4,by grind,N,fun m hm=>?_⟩));have:=c m n hm g
 show e/4< -a.f m
 grind
theorem iq {x y c e:Rat} (hc:0<c) (i:c<x) (j:c<y) (he:0<e) (h:x-y<e*(c*c)):y⁻¹-x⁻¹<e:=by
 have f:0<x*y:=Rat.mul_pos (by grind) (by grind);have g:y⁻¹-x⁻¹=(x-y)*(x*y)⁻¹:=by grind
 have e2:e=e*(x*y)*(x*y)⁻¹:=by grind
 have p:=Rat.mul_nonneg (a:=x-c) (b:=y) (by grind) (by grind);have k:=Rat.mul_nonneg (a:=c) (b:=y-c) (by grind) (by grind);have q:=Rat.mul_nonneg (a:=e) (b:=x*y-c*c) (by grind) (by grind);have r:=Rat.mul_pos (a:=e*(x*y)-(x-y)) (b:=(x*y)⁻¹) (by grind) (Rat.inv_pos.2 f)
 grind
theorem MU {a:CS} (h:pos a):∃b:CS,mul a b ≈ const 1:=by
 obtain⟨c,hc,N,g⟩:=h;refine⟨⟨fun n=>(a.f (max N n))⁻¹,fun e he=>?_⟩,?_⟩
 ·have i:0<c*c:=Rat.mul_pos hc hc;obtain⟨M,k⟩:=a.Hr (e*(c*c)) (Rat.mul_pos he i);refine⟨M,fun n m j hm=>?_⟩;exact iq hc (g _ (by omega)) (g _ (by omega)) he (k _ _ (by omega) (by omega))
 intro e he;refine⟨N,fun n j=>?_⟩;have:=g n j;have l:a.f n*(a.f (max N n))⁻¹=1:=by rw[Nat.max_eq_right j];grind
 show a.f n*(a.f (max N n))⁻¹-1<e/\1-a.f n*(a.f (max N n))⁻¹<e
 grind
theorem mul_pos {a b:CS} (h:pos a) (k:pos b):pos (mul a b):=by
 obtain⟨c,hc,N,j⟩:=h;obtain⟨d,g,M,i⟩:=k;refine⟨c*d,Rat.mul_pos hc g,max N M,fun n o=>?_⟩;have l:=j n (by omega);have m:=i n (by omega);have p:=Rat.mul_pos (a:=a.f n-c) (b:=d) (by grind) g;have q:=Rat.mul_pos (a:=a.f n) (b:=b.f n-d) (by grind) (by grind)
 show c*d<a.f n*b.f n
 grind
theorem add_pos {a b:CS} (h:pos a) (k:pos b):pos (add a b):=by
 obtain⟨c,hc,N,i⟩:=h;obtain⟨d,m,M,g⟩:=k;refine⟨c+d,by grind,max N M,fun n o=>?_⟩;have j:=i n (by omega);have l:=g n (by omega)
 show c+d<a.f n+b.f n
 grind
theorem kP {a:CS} (h:pos a):¬pos (neg a):=by
 rintro⟨d,l,M,g⟩
 obtain⟨c,hc,N,i⟩:=h;have j:=i (max N M) (by omega);have k:d< -a.f (max N M):=g (max N M) (by omega)
 grind
theorem kQ:¬pos (const 0):=by
 rintro⟨d,g,M,c⟩
 have f:d<0:=c M (by omega)
 grind
theorem LJ (k:Nat):(0:Rat)<2^k:=Rat.pow_pos (by decide)
theorem LI (k:Nat):(0:Rat)<(2^k)⁻¹:=Rat.inv_pos.2 (LJ k)
theorem kD (k:Nat):(k:Rat)<2^k:=by
 have:=Nat.lt_two_pow_self (n:=k);have h:((k:Nat):Rat)<((2^k:Nat):Rat):=Rat.natCast_lt_natCast.2 this;simpa using h
theorem small (e:Rat) (he:0<e):∃N:Nat,∀n:Nat,N<=n->((2:Rat)^n)⁻¹<e:=by
 refine⟨e.den,fun n i=>?_⟩;have j:=kD n;have k:(e.den:Rat)<=(n:Rat):=Rat.natCast_le_natCast.2 i
 have h3:1<=e*e.den:=by
  have:e*e.den=e.num:=LU e;rw[this];have g:0<e.num:=lZ he;have f:((1:Int):Rat)<=e.num:=Rat.intCast_le_intCast.2 g;exact f
 have f:=LJ n;have g:=Rat.mul_lt_mul_of_pos_left (a:=(e.den:Rat)) (b:=2^n) (c:=e) (by grind) he;have l:((2:Rat)^n)⁻¹*2^n=1:=by grind
 have h:=LI n;have m:=Rat.mul_pos (a:=e*2^n-1) (b:=(2^n)⁻¹) (by grind) h;have o:(e*2^n-1)*((2:Rat)^n)⁻¹=e-((2:Rat)^n)⁻¹:=by grind
 grind
def FF (q:Rat) (k:Nat):Rat:=(Br (q*(2^k*2^k)).floor.toNat:Rat)*(2^k)⁻¹
theorem TG (q:Rat) (k:Nat):0<=FF q k:=
 Rat.mul_nonneg (by exact Rat.natCast_nonneg) (Rat.le_of_lt (LI k))
theorem Zm {q:Rat} (k:Nat) (h:q<=0):FF q k=0:=by
 have c:q*(2^k*2^k)<=0:=by
  have:=Rat.mul_nonneg (a:= -q) (b:=2^k*2^k) (by grind) (Rat.le_of_lt (Rat.mul_pos (LJ k) (LJ k)))
  generalize (2:Rat)^k=x at*
  grind
 have f:(q*(2^k*2^k)).floor<=0:=by
  have:=Rat.floor_le (q*(2^k*2^k));have h3:((q*(2^k*2^k)).floor:Rat)<=((0:Int):Rat):=Rat.le_trans this c;exact Rat.intCast_le_intCast.1 h3
 rw[FF,Int.toNat_of_nonpos f];have:Br 0=0:=rfl;rw[this];simp
theorem Zl {q:Rat} (k:Nat) (h:0<=q):FF q k*FF q k<=q:=by
 have l:=LJ k;have j:=LI k;have c:0<=q*(2^k*2^k):=Rat.mul_nonneg h (Rat.le_of_lt (Rat.mul_pos l l));have m:=Rat.floor_le (q*(2^k*2^k));have h3:0<=(q*(2^k*2^k)).floor:=Rat.le_floor_iff.2 (by simpa using c);have f:=MV (q*(2^k*2^k)).floor.toNat;rw[FF]
 generalize v:Br (q*(2^k*2^k)).floor.toNat=r at*
 have g:((r*r:Nat):Rat)<=((q*(2^k*2^k)).floor.toNat:Rat):=Rat.natCast_le_natCast.2 f
 have i:((q*(2^k*2^k)).floor.toNat:Rat)=((q*(2^k*2^k)).floor:Rat):=by
  have:=Int.toNat_of_nonneg h3;have o:(((q*(2^k*2^k)).floor.toNat:Int):Rat)=((q*(2^k*2^k)).floor:Rat):=by rw[this]
  exact o
 rw[i] at g
 have z:(r:Rat)*r<=q*(2^k*2^k):=by
  have:((r*r:Nat):Rat)=(r:Rat)*r:=by simp
  grind
 have A:=Rat.mul_nonneg (a:=q*(2^k*2^k)-(r:Rat)*r) (b:=(2^k)⁻¹*(2^k)⁻¹) (by grind) (Rat.le_of_lt (Rat.mul_pos j j));have e:(2:Rat)^k*(2^k)⁻¹=1:=by grind
 clear c m h3 f g i v
 generalize ((2:Rat)^k)⁻¹=y at*
 generalize (2:Rat)^k=x at*
 have e2:(q*(x*x)-(r:Rat)*r)*(y*y)=q-r*y*(r*y):=by grind
 grind
theorem YG (q:Rat) (k:Nat):q<(FF q k+(2^k)⁻¹)*(FF q k+(2^k)⁻¹):=by
 have o:=LJ k;have g:=LI k;have f:=Oe (q*(2^k*2^k)).floor.toNat;rw[FF]
 generalize l:Br (q*(2^k*2^k)).floor.toNat=r at*
 have h:q*(2^k*2^k)<(q*(2^k*2^k)).floor+1:=by
  have:=Rat.lt_floor_add_one (q*(2^k*2^k));rwa [Rat.intCast_add] at this
 have h3:(q*(2^k*2^k)).floor<=((q*(2^k*2^k)).floor.toNat:Int):=Int.self_le_toNat _
 have c:((q*(2^k*2^k)).floor:Rat)<=((q*(2^k*2^k)).floor.toNat:Rat):=by
  exact Rat.intCast_le_intCast.2 h3
 have i:((q*(2^k*2^k)).floor.toNat:Rat)+1<=((r:Rat)+1)*(r+1):=by
  have j:(q*(2^k*2^k)).floor.toNat+1<=(r+1)*(r+1):=f;have:=Rat.natCast_le_natCast.2 j;simpa using this
 have m:=Rat.mul_pos (a:=((r:Rat)+1)*(r+1)-q*(2^k*2^k)) (b:=(2^k)⁻¹*(2^k)⁻¹) (by grind) (Rat.mul_pos g g);have e:(2:Rat)^k*(2^k)⁻¹=1:=by grind
 clear h h3 f i c l
 generalize ((2:Rat)^k)⁻¹=y at*
 generalize (2:Rat)^k=x at*
 have e2:(((r:Rat)+1)*(r+1)-q*(x*x))*(y*y)=(r*y+y)*(r*y+y)-q:=by grind
 grind
theorem TH {p q e:Rat} {k l:Nat} (he:0<e) (j:((2:Rat)^l)⁻¹<e/2) (h:p-q<e*e/2):FF p k-FF q l<e:=by
 apply Classical.byContradiction;intro m;have f:=TG q l;have g:=YG q l
 have c:0<=p:=by
  apply Classical.byContradiction;intro hc;have:=Zm (q:=p) k (by grind)
  grind
 have h3:=Zl k c;have i:=LI l
 generalize FF p k=s at*
 generalize FF q l=t at*
 generalize ((2:Rat)^l)⁻¹=d at*
 have o:=Rat.mul_nonneg (a:=s-(t+d)-e/2) (b:=s+(t+d)) (by grind) (by grind);have v:=Rat.mul_nonneg (a:=e/2) (b:=s+t+d-e) (by grind) (by grind)
 grind
def sqrt (a:CS):CS:=⟨fun n=>FF (a.f n) n,fun e he=>by
 obtain⟨N,hN⟩:=small (e/2) (by grind);obtain⟨M,hM⟩:=a.Hr (e*e/2) (by have:=Rat.mul_pos he he;grind);refine⟨max N M,fun n m hn hm=>?_⟩;exact TH he (hN m (by omega)) (hM n m (by omega) (by omega))⟩
theorem nF {a b:CS} (h:a ≈ b):sqrt a ≈ sqrt b:=fun e he=>by
 obtain⟨N,c⟩:=small (e/2) (by grind);obtain⟨M,f⟩:=h (e*e/2) (by have:=Rat.mul_pos he he;grind);refine⟨max N M,fun n g=>?_⟩;have:=f n (by omega);exact⟨TH he (c n (by omega)) this.1,TH he (c n (by omega)) this.2⟩
theorem GZ {a:CS} (h:¬pos (neg a)):mul (sqrt a) (sqrt a) ≈ a:=fun e he=>by
 obtain⟨B,L,P,z⟩:=(sqrt a).L8;have F:0<e/(2*B+1):=by rw[Rat.div_def];exact Rat.mul_pos (by grind) (Rat.inv_pos.2 (by grind))
 obtain⟨N,v⟩:=small _ F;obtain⟨k,g⟩:=small 1 (by decide);obtain⟨M,o⟩:=a.Hr (e/2) (by grind)
 have c:∃n,M<=n/\ -(e/2)<a.f n:=by
  apply Classical.byContradiction;intro hc;apply h;refine⟨e/4,by grind,M,fun n j=>?_⟩;have:¬(-(e/2)<a.f n):=fun A=>hc ⟨n,j,A⟩
  show e/4< -a.f n
  grind
 obtain⟨D,i,c⟩:=c;refine⟨max (max N k) (max M P),fun n j=>?_⟩;have l:=z n (by omega);have G:=v n (by omega);have h3:=o D n i (by omega);have H:=YG (a.f n) n;have I:=TG (a.f n) n;have J:=LI n;have K:=g n (by omega)
 show FF (a.f n) n*FF (a.f n) n-a.f n<e/\a.f n-FF (a.f n) n*FF (a.f n) n<e
 have m:FF (a.f n) n<=B:=l.1
 constructor
 ·by_cases C:0<=a.f n
  ·have:=Zl n C
   grind
  rw[Zm n (by grind)]
  grind
 generalize FF (a.f n) n=s at*
 generalize ((2:Rat)^n)⁻¹=d at*
 have O:=Rat.mul_nonneg (a:=B-s) (b:=d) (by grind) (by grind);have Q:=Rat.mul_nonneg (a:=1-d) (b:=d) (by grind) (by grind);have S:=Rat.mul_pos (a:=e/(2*B+1)-d) (b:=2*B+1) (by grind) (by grind);have T:e/(2*B+1)*(2*B+1)=e:=by grind
 grind
theorem H8 (a:CS):¬pos (neg (sqrt a)):=by
 rintro⟨e,he,N,c⟩
 have g:e< -FF (a.f N) N:=c N (Nat.le_refl _);have:=TG (a.f N) N
 grind
end CS
def Re:Type:=Quotient CS.st
namespace Re
def mk (a:CS):Re:=Quotient.mk _ a
def ofRat (q:Rat):Re:=mk (CS.const q)
def add (x y:Re):Re:=Quotient.liftOn₂ x y (fun a b=>mk (CS.add a b)) fun _ _ _ _ h k=>Quotient.sound (CS.add_congr h k)
def mul (x y:Re):Re:=Quotient.liftOn₂ x y (fun a b=>mk (CS.mul a b)) fun _ _ _ _ h k=>Quotient.sound (CS.mul_congr h k)
def neg (x:Re):Re:=Quotient.liftOn x (fun a=>mk (CS.neg a)) fun _ _ h=>Quotient.sound (CS.neg_congr h)
def sqrt (x:Re):Re:=Quotient.liftOn x (fun a=>mk (CS.sqrt a)) fun _ _ h=>Quotient.sound (CS.nF h)
def pos (x:Re):Prop:=Quotient.liftOn x CS.pos fun _ _ h=>CS.kz h
def pow (x:Re):Nat->Re
 | 0=>ofRat 1
 | n+1=>mul (pow x n) x
instance:Add Re:=⟨add⟩
instance:Mul Re:=⟨mul⟩
instance:Neg Re:=⟨neg⟩
instance:Sub Re:=⟨fun a b=>add a (neg b)⟩
instance (n:Nat):OfNat Re n:=⟨ofRat n⟩
instance:NatCast Re:=⟨fun n=>ofRat n⟩
instance:IntCast Re:=⟨fun n=>ofRat n⟩
instance:Pow Re Nat:=⟨pow⟩
instance:SMul Nat Re:=⟨fun n a=>mul (ofRat n) a⟩
instance:SMul Int Re:=⟨fun n a=>mul (ofRat n) a⟩
instance:LT Re:=⟨fun a b=>pos (add b (neg a))⟩
instance:LE Re:=⟨fun a b=>¬pos (add a (neg b))⟩
theorem sound {a b:CS} (h:∀n,a.f n=b.f n):mk a=mk b:=Quotient.sound (CS.gg h)
theorem Dg {p:Re->Prop} (h:∀a,p (mk a)) (x:Re):p x:=Quotient.ind h x
theorem add_assoc (x y z:Re):x+y+z=x+(y+z):=by
 induction x using Dg;induction y using Dg;induction z using Dg
 exact sound fun n=>Rat.add_assoc _ _ _
theorem add_comm (x y:Re):x+y=y+x:=by
 induction x using Dg;induction y using Dg
 exact sound fun n=>Rat.add_comm _ _
theorem add_zero (x:Re):x+0=x:=by
 induction x using Dg
 exact sound fun n=>Rat.add_zero _
theorem neg_add_cancel (x:Re): -x+x=0:=by
 induction x using Dg
 exact sound fun n=>Rat.neg_add_cancel _
theorem mul_assoc (x y z:Re):x*y*z=x*(y*z):=by
 induction x using Dg;induction y using Dg;induction z using Dg
 exact sound fun n=>Rat.mul_assoc _ _ _
theorem mul_comm (x y:Re):x*y=y*x:=by
 induction x using Dg;induction y using Dg
 exact sound fun n=>Rat.mul_comm _ _
theorem mul_one (x:Re):x*1=x:=by
 induction x using Dg
 exact sound fun n=>Rat.mul_one _
theorem left_distrib (x y z:Re):x*(y+z)=x*y+x*z:=by
 induction x using Dg;induction y using Dg;induction z using Dg
 exact sound fun n=>Rat.mul_add _ _ _
theorem zero_mul (x:Re):0*x=0:=by
 induction x using Dg
 exact sound fun n=>Rat.zero_mul _
theorem ofRat_add (p q:Rat):ofRat (p+q)=ofRat p+ofRat q:=rfl
theorem ofRat_mul (p q:Rat):ofRat (p*q)=ofRat p*ofRat q:=rfl
theorem ofRat_neg (p:Rat):ofRat (-p)= -ofRat p:=rfl
abbrev Uh {C:Type->Type} {α:Type} (_:C α):Type->Type:=C
abbrev cj:Type->Type:=Uh Dyadic.instCommRing
abbrev Pq:Type->Type:=Uh Dyadic.instCommRing.toRing.toSemiring
instance:cj Re where
 add_assoc:=add_assoc
 add_comm:=add_comm
 add_zero:=add_zero
 neg_add_cancel:=neg_add_cancel
 mul_assoc:=mul_assoc
 mul_comm:=mul_comm
 mul_one:=mul_one
 one_mul:=fun x=>by rw[mul_comm,mul_one]
 left_distrib:=left_distrib
 right_distrib:=fun x y z=>by rw[mul_comm,left_distrib,mul_comm z x,mul_comm z y]
 zero_mul:=zero_mul
 mul_zero:=fun x=>by rw[mul_comm,zero_mul]
 pow_zero:=fun _=>rfl
 pow_succ:=fun _ _=>rfl
 sub_eq_add_neg:=fun _ _=>rfl
 neg_zsmul:=fun i x=>by
  show mul (ofRat ((-i:Int):Rat)) x=neg (mul (ofRat (i:Rat)) x)
  rw[Rat.intCast_neg]
  induction x using Dg
  exact sound fun n=>Rat.neg_mul _ _
 zsmul_natCast_eq_nsmul:=fun _ _=>rfl
 nsmul_eq_natCast_mul:=fun _ _=>rfl
 ofNat_succ:=fun n=>by
  show ofRat ((n+1:Nat):Rat)=ofRat (n:Rat)+ofRat 1
  rw[Rat.natCast_add,ofRat_add]
  rfl
 ofNat_eq_natCast:=fun _=>rfl
 intCast_ofNat:=fun _=>rfl
 intCast_neg:=fun i=>by
  show ofRat ((-i:Int):Rat)=neg (ofRat (i:Rat))
  rw[Rat.intCast_neg]
  rfl
theorem lt_def (x y:Re):x<y↔pos (y-x):=Iff.rfl
theorem le_def (x y:Re):x<=y↔¬pos (x-y):=Iff.rfl
theorem lA {x y:Re}:pos x->pos y->pos (x*y):=by
 induction x using Dg;induction y using Dg
 exact CS.mul_pos
theorem ky {x y:Re}:pos x->pos y->pos (x+y):=by
 induction x using Dg;induction y using Dg
 exact CS.add_pos
theorem ZB {x:Re}:pos x->¬pos (-x):=by
 induction x using Dg
 exact CS.kP
theorem lF:¬pos 0:=CS.kQ
theorem ZE (x:Re):x=0\/pos x\/pos (-x):=by
 induction x using Dg
 rcases CS.tri _ with h | h | h
 ·exact .inl (Quotient.sound h)
 ·exact .inr (.inl h)
 exact .inr (.inr h)
theorem ZC {q:Rat}:pos (ofRat q)↔0<q:=by
 constructor
 ·rintro⟨e,he,N,c⟩
  have:e<q:=c N (Nat.le_refl _)
  grind
 intro h;exact⟨q/2,by grind,0,fun n _=>by show q/2<q;grind⟩
theorem le_trans' {x y z:Re} (h:x<=y) (k:y<=z):x<=z:=by
 rw[le_def] at*;intro c;rcases ZE (x-y) with e | e | e
 ·rw[show x-z=(x-y)+(y-z) by grind,e,show 0+(y-z)=y-z by grind] at c;exact k c
 ·exact h e
 have:=ky c e;rw[show x-z+ -(x-y)=y-z by grind] at this;exact k this
theorem jQ (x y:Re):x<=y\/y<=x:=by
 rw[le_def,le_def]
 by_cases h:pos (x-y)
 ·right
  have:=ZB h;rwa [show -(x-y)=y-x by grind] at this
 exact .inl h
theorem jO {x y:Re} (h:x<=y) (k:y<=x):x=y:=by
 rw[le_def] at*;rcases ZE (x-y) with e | e | e
 ·grind
 ·exact (h e).elim
 rw[show -(x-y)=y-x by grind] at e;exact (k e).elim
theorem jX (x y:Re):x<y↔x<=y/\¬y<=x:=by
 rw[lt_def,le_def,le_def]
 constructor
 ·intro h;refine⟨?_,fun k=>k h⟩;have:=ZB h;rwa [show -(y-x)=x-y by grind] at this
 rintro⟨_,h⟩
 exact Classical.not_not.1 h
instance:Std.IsLinearOrder Re where
 le_refl:=fun x=>by
  rw[le_def,show x-x=0 by grind];exact lF
 le_trans:=fun _ _ _=>le_trans'
 le_antisymm:=fun _ _=>jO
 le_total:=jQ
instance:Std.LawfulOrderLT Re where
 lt_iff:=jX
abbrev cP {C:(β:Type)->(s:Pq β)->(l:LE β)->(t:LT β)->Std.IsPreorder β->Prop} {α:Type} {s:Pq α} {l:LE α} {t:LT α} {p:Std.IsPreorder α} (_:C α s l t p):(β:Type)->(s:Pq β)->(l:LE β)->(t:LT β)->Std.IsPreorder β->Prop:=C
theorem Rz {a b c:Re} (h:a<b) (hc:0<c):c*a<c*b:=by
 rw[lt_def] at*;rw[show c*b-c*a=(c-0)*(b-a) by grind];exact lA hc h
instance:cP Dyadic.instOrderedRing Re inferInstance inferInstance inferInstance inferInstance where
 add_le_left_iff:=fun c=>by
  rename_i a b
  rw[le_def,le_def,show a+c-(b+c)=a-b by grind]
 zero_lt_one:=by
  rw[lt_def]
  show pos (ofRat 1-ofRat 0)
  have:ofRat 1-ofRat 0=ofRat 1:=by
   show (1:Re)-0=1
   grind
  rw[this,ZC]
  decide
 mul_lt_mul_of_pos_left:=fun h hc=>Rz h hc
 mul_lt_mul_of_pos_right:=fun h hc=>by
  rename_i a b c
  rw[mul_comm a c,mul_comm b c];exact Rz h hc
theorem mul_pos {x y:Re} (h:0<x) (k:0<y):0<x*y:=by
 have:=Rz k h
 grind
theorem YS {x y:Re} (h:0<=x) (k:0<=y):0<=x*y:=by
 by_cases h':0<x
 ·by_cases k':0<y
  ·have:=mul_pos h' k'
   grind
  have:y=0:=by grind
  subst this
  grind
 have:x=0:=by grind
 subst this
 grind
theorem Ot:ofRat 0=0:=rfl
theorem GC {p q:Rat}:ofRat p<ofRat q↔p<q:=by
 rw[lt_def]
 have:ofRat q-ofRat p=ofRat (q-p):=by
  rw[show q-p=q+ -p by grind,ofRat_add,ofRat_neg];grind
 rw[this,ZC]
 grind
theorem SK {p q:Rat}:ofRat p<=ofRat q↔p<=q:=by
 have:= @GC q p
 grind
theorem Ds {p q:Rat}:ofRat p=ofRat q↔p=q:=by
 constructor
 ·intro h;have c:=(@SK p q).1 (by grind);have f:=(@SK q p).1 (by grind)
  grind
 rintro rfl;rfl
theorem Xp {x:Re} (h:0<x):∃y,x*y=1:=by
 rw[lt_def,show x-0=x by grind] at h
 induction x using Dg
 obtain⟨b,hb⟩:=CS.MU h;exact⟨mk b,Quotient.sound hb⟩
theorem MU {x:Re} (h:x≠0):∃y,x*y=1:=by
 by_cases c:0<x
 ·exact Xp c
 obtain⟨y,f⟩:=Xp (x:= -x) (by grind);exact⟨-y,by grind⟩
theorem H8 (x:Re):0<=sqrt x:=by
 rw[le_def,show 0-sqrt x= -sqrt x by grind]
 induction x using Dg
 exact CS.H8 _
theorem GZ {x:Re} (h:0<=x):sqrt x*sqrt x=x:=by
 rw[le_def,show 0-x= -x by grind] at h
 induction x using Dg
 exact Quotient.sound (CS.GZ h)
theorem Gf {x y:Re} (h:x*y=0):x=0\/y=0:=by
 by_cases c:x=0
 ·exact .inl c
 obtain⟨z,f⟩:=MU c
 right
 have:y=(x*z)*y:=by rw[f];grind
 grind
theorem It (x:Re):0<=x*x:=by
 by_cases h:0<=x
 ·exact YS h h
 have:=YS (x:= -x) (y:= -x) (by grind) (by grind)
 grind
theorem KP {x y:Re} (c:0<=x) (f:0<=y) (h:x*x=y*y):x=y:=by
 have:(x-y)*(x+y)=0:=by grind
 rcases Gf this with e | e
 ·grind
 grind
end Re
end Go.Abs
namespace Go.Abs
def AP:List (List Rat)->List Rat->Re
 | [],a=>Re.ofRat (a.headD 0)
 | r::u,a=>AP u (a.take (2^u.length))+AP u (a.drop (2^u.length))*Re.sqrt (AP u r)
def rt (u:List (List Rat)) (r:List Rat):Re:=Re.sqrt (AP u r)
def In (u:List (List Rat)) (x:Re):Prop:=∃a:List Rat,a.length=2^u.length/\AP u a=x
def Al:List (List Rat)->Prop
 | []=>True
 | r::u=>Al u/\r.length=2^u.length/\0<AP u r/\¬∃w,In u w/\w*w=AP u r
noncomputable def co (u:List (List Rat)) (x:Re):List Rat:=by
 classical
 exact if h:In u x then Classical.choose h else []
variable {a:List Rat} {p x y:Re}
theorem B3 (r:List Rat) (u:List (List Rat)):2^(r::u).length=2^u.length+2^u.length:=by
 rw[List.length_cons,Nat.pow_succ];omega
theorem Cs:In [] x↔∃q,x=Re.ofRat q:=by
 constructor
 ·rintro⟨a,_,rfl⟩;exact⟨_,rfl⟩
 rintro⟨q,rfl⟩;exact⟨[q],rfl,rfl⟩
theorem CZ {r:List Rat} {u:List (List Rat)}:In (r::u) x↔∃p q,In u p/\In u q/\x=p+q*rt u r:=by
 constructor
 ·rintro⟨a,ha,rfl⟩
  rw[B3] at ha;exact⟨_,_,⟨a.take (2^u.length),by rw[List.length_take];omega,rfl⟩,⟨a.drop (2^u.length),by rw[List.length_drop];omega,rfl⟩,rfl⟩
 rintro⟨p,q,⟨a,ha,rfl⟩,⟨b,hb,rfl⟩,rfl⟩
 refine⟨a++b,by rw[B3,List.length_append];omega,?_⟩;rw[AP,<-ha,List.take_left,List.drop_left];rfl
theorem OH:∀(u:List (List Rat)) (a b:List Rat),a.length=2^u.length->b.length=2^u.length->AP u (List.zipWith (· + ·) a b)=AP u a+AP u b
 | [],a,b,ha,hb=>by
  match a,b,ha,hb with
  | [p],[q],_,_=>exact Re.ofRat_add p q
 | r::u,a,b,ha,hb=>by
  rw[B3] at ha hb;rw[AP,AP,AP,List.take_zipWith,List.drop_zipWith,OH u _ _ (by rw[List.length_take];omega) (by rw[List.length_take];omega),OH u _ _ (by rw[List.length_drop];omega) (by rw[List.length_drop];omega)]
  grind
theorem OI:∀(u:List (List Rat)) (a:List Rat),a.length=2^u.length->AP u (a.map (- ·))= -AP u a
 | [],a,ha=>by
  match a,ha with
  | [p],_=>exact Re.ofRat_neg p
 | r::u,a,ha=>by
  rw[B3] at ha;rw[AP,AP,<-List.map_take,<-List.map_drop,OI u _ (by rw[List.length_take];omega),OI u _ (by rw[List.length_drop];omega)]
  grind
theorem MQ:∀(u:List (List Rat)) (n:Nat),AP u (List.replicate n 0)=0
 |[],0|[],n+1=>rfl
 | r::u,n=>by rw[AP,List.take_replicate,List.drop_replicate,MQ,MQ];grind
theorem HS (q:Rat):∀u,In u (Re.ofRat q)
 | []=>Cs.2 ⟨q,rfl⟩
 | r::u=>CZ.2 ⟨_,_,HS q u,⟨List.replicate (2^u.length) 0,List.length_replicate,MQ u _⟩,by grind⟩
theorem CK (u:List (List Rat)):In u 0:=HS 0 u
theorem Jy (u:List (List Rat)):In u 1:=HS 1 u
theorem DP {u:List (List Rat)}:In u x->In u y->In u (x+y)
 |⟨a,ha,c⟩,⟨b,hb,f⟩=>⟨List.zipWith (· + ·) a b,by rw[List.length_zipWith];omega,by rw[OH u a b ha hb,c,f]⟩
theorem Gu {u:List (List Rat)}:In u x->In u (-x)
 |⟨a,ha,c⟩=>⟨a.map (- ·),by rw[List.length_map,ha],by rw[OI u a ha,c]⟩
theorem Fi {u:List (List Rat)} (h:In u x) (k:In u y):In u (x-y):=by
 have:=DP h (Gu k);rwa [show x+ -y=x-y by grind] at this
theorem Ct {u:List (List Rat)} {r:List Rat} (h:Al (r::u)):rt u r*rt u r=AP u r:=Re.GZ (by have:=h.2.2.1;grind)
theorem mA (u:List (List Rat)) (r:List Rat):0<=rt u r:=Re.H8 _
theorem B6 {u:List (List Rat)} {r:List Rat} (h:Al (r::u)):In u (AP u r):=⟨r,h.2.1,rfl⟩
theorem Fj {u:List (List Rat)} {r:List Rat} (h:In u x):In (r::u) x:=CZ.2 ⟨x,0,h,CK u,by grind⟩
theorem IY (u:List (List Rat)) (r:List Rat):In (r::u) (rt u r):=CZ.2 ⟨0,1,CK u,Jy u,by grind⟩
theorem BD:∀{u:List (List Rat)} {x y:Re},Al u->In u x->In u y->In u (x*y)
 | [],x,y,_,f,g=>by
  obtain⟨p,rfl⟩:=Cs.1 f;obtain⟨q,rfl⟩:=Cs.1 g;exact Cs.2 ⟨p*q,(Re.ofRat_mul p q).symm⟩
 | r::u,x,y,h,f,g=>by
  obtain⟨a,b,ha,hb,rfl⟩:=CZ.1 f;obtain⟨c,d,hc,i,rfl⟩:=CZ.1 g;have j:=Ct h;refine CZ.2 ⟨a*c+b*d*AP u r,a*d+b*c,DP (BD h.1 ha hc) (BD h.1 (BD h.1 hb i) (B6 h)),DP (BD h.1 ha i) (BD h.1 hb hc),?_⟩
  grind
theorem Yk {u:List (List Rat)} {r:List Rat} (h:Al (r::u)) {w:Re} (hw:In u w):w*w≠AP u r:=fun e=>h.2.2.2 ⟨w,hw,e⟩
theorem E1:∀{u:List (List Rat)} {x:Re},Al u->In u x->x≠0->∃y,In u y/\x*y=1
 | [],x,_,j,f=>by
  obtain⟨p,rfl⟩:=Cs.1 j;have z:p≠0:=fun e=>f (by rw[e];rfl)
  refine⟨Re.ofRat p⁻¹,Cs.2 ⟨_,rfl⟩,?_⟩;rw[<-Re.ofRat_mul,show p*p⁻¹=1 by grind];rfl
 | r::u,x,h,j,f=>by
  obtain⟨a,b,ha,hb,rfl⟩:=CZ.1 j;have A:=Ct h
  have m:a*a-b*b*AP u r≠0:=by
   intro e
   by_cases g:b=0
   ·have l:a=0:=by
     have:a*a=0:=by grind
     rcases Re.Gf this with e | e <;> exact e
    exact f (by grind)
   obtain⟨c,hc,i⟩:=E1 h.1 hb g
   exact Yk h (BD h.1 ha hc) (by
    have v:a*a=b*b*AP u r:=by grind
    have e2:a*c*(a*c)=(b*c)*(b*c)*AP u r:=by grind
    rw[e2,i];grind)
  obtain⟨y,k,o⟩:=E1 h.1 (Fi (BD h.1 ha ha) (BD h.1 (BD h.1 hb hb) (B6 h))) m;refine⟨a*y+ -(b*y)*rt u r,CZ.2 ⟨_,_,BD h.1 ha k,Gu (BD h.1 hb k),rfl⟩,?_⟩
  grind
theorem indep {u:List (List Rat)} {r:List Rat} (h:Al (r::u)) {q g f:Re} (m:In u p) (o:In u q) (i:In u g) (j:In u f) (e:p+q*rt u r=g+f*rt u r):p=g/\q=f:=by
 have z:=Ct h
 by_cases l:q-f=0
 ·have:q=f:=by grind
  subst this;exact⟨by grind,rfl⟩
 exfalso
 obtain⟨c,hc,k⟩:=E1 h.1 (Fi o j) l;refine Yk h (BD h.1 (Fi i m) hc) ?_;have v:(q-f)*rt u r=g-p:=by grind
 have e2:(g-p)*c=rt u r*((q-f)*c):=by grind
 rw[e2,k];grind
theorem Q1:∀{u:List (List Rat)} {a b:List Rat},Al u->a.length=2^u.length->b.length=2^u.length->AP u a=AP u b->a=b
 | [],a,b,_,ha,hb,e=>by
  match a,b,ha,hb with
  | [p],[q],_,_=>exact congrArg (fun x=>[x]) (Re.Ds.1 e)
 | r::u,a,b,h,ha,hb,e=>by
  rw[B3] at ha hb;have l1:(a.take (2^u.length)).length=2^u.length:=by rw[List.length_take];omega
  have l2:(a.drop (2^u.length)).length=2^u.length:=by rw[List.length_drop];omega
  have l3:(b.take (2^u.length)).length=2^u.length:=by rw[List.length_take];omega
  have c:(b.drop (2^u.length)).length=2^u.length:=by rw[List.length_drop];omega
  obtain⟨f,e2⟩:=indep h ⟨_,l1,rfl⟩ ⟨_,l2,rfl⟩ ⟨_,l3,rfl⟩ ⟨_,c,rfl⟩ e;rw[<-List.take_append_drop (2^u.length) a,<-List.take_append_drop (2^u.length) b,Q1 h.1 l1 l3 f,Q1 h.1 l2 c e2]
theorem Wf {u:List (List Rat)} (h:In u x):(co u x).length=2^u.length/\AP u (co u x)=x:=by
 unfold co;rw[dif_pos h];exact Classical.choose_spec h
theorem Cv {u:List (List Rat)} (h:In u x):(co u x).length=2^u.length:=(Wf h).1
theorem E0 {u:List (List Rat)} (h:In u x):AP u (co u x)=x:=(Wf h).2
theorem Jr {u:List (List Rat)} (h:Al u) (ha:a.length=2^u.length) (e:AP u a=x):co u x=a:=by
 have c:In u x:=⟨a,ha,e⟩;exact Q1 h (Cv c) ha ((E0 c).trans e.symm)
theorem gO {u:List (List Rat)} (h:Al u) (ha:a.length=2^u.length):co u (AP u a)=a:=Jr h ha rfl
theorem MJ {u:List (List Rat)} (h:Al u) (c:In u x) (f:In u y):co u (x+y)=List.zipWith (· + ·) (co u x) (co u y):=
 Jr h (by rw[List.length_zipWith,Cv c,Cv f];omega) (by rw[OH u _ _ (Cv c) (Cv f),E0 c,E0 f])
theorem Ki {u:List (List Rat)} (h:Al u) (c:In u x):co u (-x)=(co u x).map (- ·):=
 Jr h (by rw[List.length_map,Cv c]) (by rw[OI u _ (Cv c),E0 c])
theorem Qo {u:List (List Rat)} (h:Al u):co u 0=List.replicate (2^u.length) 0:=Jr h List.length_replicate (MQ u _)
theorem C4 {u:List (List Rat)} {r:List Rat} {q:Re} (h:Al (r::u)) (c:In u p) (f:In u q) (g:x=p+q*rt u r):co (r::u) x=co u p++co u q:=by
 refine Jr h (by rw[List.length_append,Cv c,Cv f,B3]) ?_;rw[AP,<-Cv c,List.take_left,List.drop_left,E0 c,E0 f,g];rfl
theorem Dl (q:Rat):co [] (Re.ofRat q)=[q]:=Jr (u:=[]) trivial rfl rfl
theorem Hs (q:Rat):∀{u:List (List Rat)},Al u->co u (Re.ofRat q)=q::List.replicate (2^u.length-1) 0
 | [],_=>Dl q
 | r::u,h=>by
  rw[C4 h (HS q u) (CK u) (by grind),Hs q h.1,Qo h.1,List.cons_append,List.replicate_append_replicate];have:1<=2^u.length:=Nat.one_le_two_pow;have:2^(r::u).length-1=2^u.length-1+2^u.length:=by rw[B3];omega
  rw[this]
theorem gQ {u:List (List Rat)} {r:List Rat} {q:Re} (h:Al (r::u)) (c:In u p) (f:In u q) (g:x=p+q*rt u r):(co (r::u) x).take (2^u.length)=co u p:=by
 rw[C4 h c f g,<-Cv c,List.take_left]
theorem gP {u:List (List Rat)} {r:List Rat} {q:Re} (h:Al (r::u)) (c:In u p) (f:In u q) (g:x=p+q*rt u r):(co (r::u) x).drop (2^u.length)=co u q:=by
 rw[C4 h c f g,<-Cv c,List.drop_left]
theorem MK {u:List (List Rat)} (h:Al u) (f:In u x):(∀c∈co u x,c=0)↔x=0:=by
 constructor
 ·intro hc;have:co u x=List.replicate (2^u.length) 0:=List.eq_replicate_iff.2 ⟨Cv f,hc⟩;rw[<-E0 f,this,MQ]
 rintro rfl c hc;rw[Qo h] at hc;exact (List.mem_replicate.1 hc).2
theorem l5 {u:List (List Rat)} {r:List Rat} (h:Al (r::u)):rt u r≠0:=by
 intro e;have c:=Ct h;have:=h.2.2.1;rw[e] at c
 grind
theorem Zu {u:List (List Rat)} {r:List Rat} (h:Al (r::u)):0<rt u r:=by
 have:=l5 h;have:=mA u r
 grind
end Go.Abs
namespace Go.Abs
def Sq (u:List (List Rat)) (x:Re):Prop:=∃w,In u w/\w*w=x
variable {a b n t w x:Re} {r:List Rat} {u:List (List Rat)}
theorem PT:(2:Re)≠0:=by
 intro h
 have c:(0:Re)<1:=by
  have:=Re.GC.2 (show (0:Rat)<1 by decide);exact this
 grind
theorem R3 {y:Re} (c:x≠0) (f:y≠0):x*y≠0:=fun h=>by rcases Re.Gf h with e | e;exact c e;exact f e
theorem aa (h:x*x=0):x=0:=by rcases Re.Gf h with e | e <;> exact e
theorem aT (h:Al (r::u)) (ha:In u a):Sq (r::u) a↔Sq u a\/∃i,In u i/\AP u r*i=1/\Sq u (a*i):=by
 have z:=Ct h
 constructor
 ·rintro⟨w,hw,e⟩
  obtain⟨c,d,hc,j,rfl⟩:=CZ.1 hw;have e2:(c*c+d*d*AP u r)+(2*c*d)*rt u r=a+0*rt u r:=by grind
  have o:In u (2*c*d):=by
   have:=DP (BD h.1 hc j) (BD h.1 hc j);rwa [show c*d+c*d=2*c*d by grind] at this
  obtain⟨v,m⟩:=indep h (DP (BD h.1 hc hc) (BD h.1 (BD h.1 j j) (B6 h))) o ha (CK u) e2
  by_cases k:d=0
  ·left;exact⟨c,hc,by grind⟩
  right
  have g:c=0:=by
   apply Classical.byContradiction;intro g;exact R3 (R3 PT g) k m
  obtain⟨i,l,f⟩:=E1 h.1 (B6 h) (by have:=h.2.2.1;grind);exact⟨i,l,f,d,j,by grind⟩
 rintro (⟨w,hw,e⟩ |⟨i,l,f,w,hw,e⟩)
 ·exact⟨w,Fj hw,e⟩
 refine⟨0+w*rt u r,CZ.2 ⟨0,w,CK u,hw,rfl⟩,?_⟩;have:a=a*(AP u r*i):=by rw[f];grind
 grind
theorem aW (h:Al (r::u)) (ha:In u a) (hb:In u b) (hw:Sq (r::u) (a+b*rt u r)):∃c d,In u c/\In u d/\c*c+d*d*AP u r=a/\2*c*d=b:=by
 have k:=Ct h;obtain⟨w,hw,e⟩:=hw;obtain⟨c,d,hc,f,rfl⟩:=CZ.1 hw;have e2:(c*c+d*d*AP u r)+(2*c*d)*rt u r=a+b*rt u r:=by grind
 have j:In u (2*c*d):=by
  have:=DP (BD h.1 hc f) (BD h.1 hc f);rwa [show c*d+c*d=2*c*d by grind] at this
 obtain⟨g,i⟩:=indep h (DP (BD h.1 hc hc) (BD h.1 (BD h.1 f f) (B6 h))) j ha hb e2;exact⟨c,d,hc,f,g,i⟩
theorem aX (h:Al (r::u)) (ha:In u a) (hb:In u b) (hw:Sq (r::u) (a+b*rt u r)):Sq u (a*a-b*b*AP u r):=by
 obtain⟨c,d,hc,f,g,i⟩:=aW h ha hb hw;exact⟨c*c-d*d*AP u r,Fi (BD h.1 hc hc) (BD h.1 (BD h.1 f f) (B6 h)),by grind⟩
theorem aY (h:Al (r::u)) (ha:In u a) (hb:In u b) (hw:Sq (r::u) (a+b*rt u r)) (g:n*n=a*a-b*b*AP u r) (ht:2*t=1):
  Sq u (t*(a+n))\/Sq u (t*(a-n)):=by
 obtain⟨c,d,hc,l,j,k⟩:=aW h ha hb hw;have hm:(n-(c*c-d*d*AP u r))*(n+(c*c-d*d*AP u r))=0:=by grind
 rcases Re.Gf hm with e | e
 ·left
  have f:a+n=2*(c*c):=by clear g hm;grind
  have i:t*(2*(c*c))=2*t*(c*c):=by clear g hm j k f e;grind
  exact⟨c,hc,by rw[f,i,ht];grind⟩
 right
 have f:a-n=2*(c*c):=by clear g hm;grind
 have i:t*(2*(c*c))=2*t*(c*c):=by clear g hm j k f e;grind
 exact⟨c,hc,by rw[f,i,ht];grind⟩
theorem aR {c i ρ s:Re} (C:n*n=a*a-b*b*ρ) (ht:2*t=1) (D:s*s=ρ) (hw:w*w=t*(a+n)) (g:(w+w)*i=1) (k:c=w+b*i*s):c*c=a+b*s:=by
 have f:w≠0:=by intro e;subst e;grind
 have l:2*(w*w)=a+n:=by rw[hw];grind
 have m:(a+n)*(a-n)=b*b*ρ:=by grind
 have h3:2*(w*w)*(b*i*(b*i)*ρ)*2=b*b*ρ:=by
  have:2*(w*w)*(b*i*(b*i)*ρ)*2=b*b*ρ*(((w+w)*i)*((w+w)*i)):=by grind
  rw[this,g];grind
 have h:(a+n)*(2*(b*i*(b*i)*ρ)-(a-n))=0:=by grind
 have o:2*(b*i*(b*i)*ρ)-(a-n)=0:=by
  rcases Re.Gf h with e | e
  ·exfalso
   have:2*(w*w)=0:=by grind
   rcases Re.Gf this with e | e
   ·exact PT e
   exact f (aa e)
  exact e
 have v:2*w*(b*i)=b:=by
  have:2*w*(b*i)=b*((w+w)*i):=by grind
  rw[this,g];grind
 have z:c*c=w*w+b*i*(b*i)*ρ+2*w*(b*i)*s:=by rw[k];grind
 have j:2*(w*w+b*i*(b*i)*ρ-a)=0:=by grind
 have A:w*w+b*i*(b*i)*ρ-a=0:=by
  rcases Re.Gf j with e | e
  ·exact absurd e PT
  exact e
 grind
theorem aS (h:Al (r::u)) (c:b≠0) (i:n*n=a*a-b*b*AP u r) (ht:2*t=1) (hw:w*w=t*(a+n)):w≠0:=by
 intro e;subst e;have g:a+n=0:=by grind
 have f:b*b*AP u r=0:=by grind
 have h3:=h.2.2.1;rcases Re.Gf f with e | e
 ·exact c (aa e)
 grind
theorem aV {q:Rat}:Sq [] (Re.ofRat q)↔∃r:Rat,0<=r/\r*r=q:=by
 constructor
 ·rintro⟨w,hw,e⟩
  obtain⟨r,rfl⟩:=Cs.1 hw;rw[<-Re.ofRat_mul,Re.Ds] at e;rcases Rat.le_total (a:=0) (b:=r) with h | h
  ·exact⟨r,h,e⟩
  exact⟨-r,by grind,by grind⟩
 rintro⟨r,_,e⟩
 exact⟨Re.ofRat r,Cs.2 ⟨r,rfl⟩,by rw[<-Re.ofRat_mul,e]⟩
end Go.Abs
namespace Go.Abs
def DN (D:Nat) (a:List Rat):Prop:=∀q∈a,∃n:Int,q*D=n
def MX (B:Nat) (a:List Rat):Prop:=∀q∈a,-(B:Rat)<=q/\q<=B
def Bd (k:Nat) (a:List Rat):Prop:=∃D:Nat,0<D/\D<=2^k/\DN D a/\MX (2^k) a
def TB (R:Nat) (u:List (List Rat)):Prop:=∀r∈u,Bd R r
def EE:Nat->Nat->Nat
 | 0,_=>0
 | h+1,R=>2*EE h R+R+2
def II:Nat->Nat->Nat->Nat
 | 0,_,s=>2*s
 | h+1,R,s=>s+EE h R+II h R (2*s+2*EE h R+R+1)
def GG:Nat->Nat->Nat
 | 0,_=>0
 | h+1,R=>3*EE h R+R+1+2*GG h R+II h R R
theorem ie {p q:Rat} (h:∃n:Int,p=n) (k:∃n:Int,q=n):∃n:Int,p+q=n:=by
 obtain⟨a,rfl⟩:=h;obtain⟨b,rfl⟩:=k;exact⟨a+b,by rw[Rat.intCast_add]⟩
theorem Xo {p q:Rat} (h:∃n:Int,p=n) (k:∃n:Int,q=n):∃n:Int,p*q=n:=by
 obtain⟨a,rfl⟩:=h;obtain⟨b,rfl⟩:=k;exact⟨a*b,by rw[Rat.intCast_mul]⟩
theorem ig (k:Nat):∃n:Int,(k:Rat)=n:=⟨k,rfl⟩
theorem HN (a b:Nat):((a*b:Nat):Rat)=(a:Rat)*b:=Rat.natCast_mul a b
theorem DN.mul_right {D:Nat} {a:List Rat} (h:DN D a) (c:Nat):DN (D*c) a:=fun q f=>by
 have:=Xo (h q f) (ig c);rwa [Rat.mul_assoc,<-HN] at this
theorem DN.dvd {D E:Nat} {a:List Rat} (h:DN D a) (f:D∣E):DN E a:=by
 obtain⟨c,rfl⟩:=f;exact h.mul_right c
theorem bY {a b:List Rat} {q:Rat} (h:q∈List.zipWith (· + ·) a b):∃x∈a,∃y∈b,q=x+y:=by
 obtain⟨i,c⟩:=List.mem_iff_getElem?.1 h;rw[List.getElem?_zipWith] at c;cases ha:a[i]? with
 | none=>rw[ha] at c;simp at c
 | some x=>
  cases hb:b[i]? with
  | none=>rw[ha,hb] at c;simp at c
  | some y=>
   rw[ha,hb] at c;exact⟨x,List.mem_of_getElem? ha,y,List.mem_of_getElem? hb,(Option.some.inj c).symm⟩
theorem DN.add {D:Nat} {a b:List Rat} (h:DN D a) (k:DN D b):DN D (List.zipWith (· + ·) a b):=fun q c=>by
 obtain⟨x,f,y,g,rfl⟩:=bY c;have:=ie (h x f) (k y g);rwa [<-Rat.add_mul] at this
theorem DN.neg {D:Nat} {a:List Rat} (h:DN D a):DN D (a.map (- ·)):=fun q f=>by
 obtain⟨x,g,rfl⟩:=List.mem_map.1 f;obtain⟨n,c⟩:=h x g;exact⟨-n,by rw[Rat.intCast_neg,<-c,Rat.neg_mul]⟩
theorem MX.add {B C:Nat} {a b:List Rat} (h:MX B a) (k:MX C b):MX (B+C) (List.zipWith (· + ·) a b):=fun q c=>by
 obtain⟨x,f,y,g,rfl⟩:=bY c;have:=h x f;have:=k y g;rw[Rat.natCast_add]
 grind
theorem MX.neg {B:Nat} {a:List Rat} (h:MX B a):MX B (a.map (- ·)):=fun q c=>by
 obtain⟨x,f,rfl⟩:=List.mem_map.1 c;have:=h x f
 grind
theorem MX.mono {B C:Nat} {a:List Rat} (h:MX B a) (hc:B<=C):MX C a:=fun q f=>by
 have:=h q f;have c:(B:Rat)<=C:=Rat.natCast_le_natCast.2 hc
 grind
theorem DN.app {D:Nat} {a b:List Rat}:DN D (a++b)↔DN D a/\DN D b:=
 ⟨fun h=>⟨fun q c=>h q (List.mem_append_left _ c),fun q c=>h q (List.mem_append_right _ c)⟩,fun h q c=>(List.mem_append.1 c).elim (h.1 q) (h.2 q)⟩
theorem MX.app {B:Nat} {a b:List Rat}:MX B (a++b)↔MX B a/\MX B b:=
 ⟨fun h=>⟨fun q c=>h q (List.mem_append_left _ c),fun q c=>h q (List.mem_append_right _ c)⟩,fun h q c=>(List.mem_append.1 c).elim (h.1 q) (h.2 q)⟩
section
variable {u:List (List Rat)} {x y:Re}
theorem Wg (h:Al u) (f:In u x) (c:In u y):co u (x-y)=List.zipWith (· + ·) (co u x) ((co u y).map (- ·)):=by
 rw[show x-y=x+ -y by grind,MJ h f (Gu c),Ki h c]
theorem DN.F5 {D:Nat} (h:Al u) (c:In u x) (f:In u y) (a:DN D (co u x)) (b:DN D (co u y)):DN D (co u (x+y)):=by rw[MJ h c f];exact a.add b
theorem DN.Iy {D:Nat} (h:Al u) (c:In u x) (f:In u y) (a:DN D (co u x)) (b:DN D (co u y)):DN D (co u (x-y)):=by rw[Wg h c f];exact a.add b.neg
theorem MX.F5 {B C:Nat} (h:Al u) (c:In u x) (f:In u y) (a:MX B (co u x)) (b:MX C (co u y)):MX (B+C) (co u (x+y)):=by rw[MJ h c f];exact a.add b
theorem MX.Iy {B C:Nat} (h:Al u) (c:In u x) (f:In u y) (a:MX B (co u x)) (b:MX C (co u y)):MX (B+C) (co u (x-y)):=by rw[Wg h c f];exact a.add b.neg
end
theorem OJ:∀(u:List (List Rat)) (c:Rat) (a:List Rat),a.length=2^u.length->AP u (a.map (c* ·))=Re.ofRat c*AP u a
 | [],c,a,ha=>by
  match a,ha with
  | [p],_=>exact Re.ofRat_mul c p
 | r::u,c,a,ha=>by
  rw[B3] at ha;rw[AP,AP,<-List.map_take,<-List.map_drop,OJ u _ _ (by rw[List.length_take];omega),OJ u _ _ (by rw[List.length_drop];omega)]
  grind
theorem Qn {u:List (List Rat)} {x:Re} (h:Al u) (f:In u x) (c:Rat):co u (Re.ofRat c*x)=(co u x).map (c* ·):=
 Jr h (by rw[List.length_map,Cv f]) (by rw[OJ u c _ (Cv f),E0 f])
theorem MT {u:List (List Rat)} {x:Re} (f:In u x) (c:Rat):In u (Re.ofRat c*x):=
 ⟨(co u x).map (c* ·),by rw[List.length_map,Cv f],by rw[OJ u c _ (Cv f),E0 f]⟩
theorem Kn {u:List (List Rat)} {x:Re} (h:Al u) (j:In u x) {D c:Nat}:DN (D*c) (co u x)↔DN D (co u (Re.ofRat c*x)):=by
 rw[Qn h j]
 constructor
 ·intro k q g;obtain⟨p,i,rfl⟩:=List.mem_map.1 g;obtain⟨n,f⟩:=k p i;exact⟨n,by rw[<-f,HN];grind⟩
 intro k q g;obtain⟨n,f⟩:=k _ (List.mem_map.2 ⟨q,g,rfl⟩);exact⟨n,by rw[<-f,HN];grind⟩
theorem DB (k:Nat):0<2^k:=Nat.two_pow_pos k
theorem CW {a b:Nat} (h:a<=b:=by omega):2^a<=2^b:=Nat.pow_le_pow_right (by decide) h
theorem TB.tail {R:Nat} {r:List Rat} {u:List (List Rat)} (h:TB R (r::u)):TB R u:=fun x c=>h x (List.mem_cons_of_mem _ c)
theorem TB.head {R:Nat} {r:List Rat} {u:List (List Rat)} (h:TB R (r::u)):Bd R r:=h r List.mem_cons_self
theorem FL {r:List Rat} {u:List (List Rat)} (h:Al (r::u)):co u (AP u r)=r:=gO h.1 h.2.1
theorem N3 {r:List Rat} {u:List (List Rat)} {a b c d x y:Re} (h:Al (r::u)) (ha:In u a) (hb:In u b) (hc:In u c) (f:In u d) (g:x=a+b*rt u r) (i:y=c+d*rt u r):
  co (r::u) (x*y)=co u (a*c+b*d*AP u r)++co u (a*d+b*c):=by
 have j:=Ct h;exact C4 h (DP (BD h.1 ha hc) (BD h.1 (BD h.1 hb f) (B6 h))) (DP (BD h.1 ha f) (BD h.1 hb hc)) (by subst g;subst i;grind)
theorem Js:∀{u:List (List Rat)} {R:Nat},Al u->TB R u->∃K:Nat,0<K/\K<=2^EE u.length R/\∀{x y:Re} {D j:Nat},In u x->In u y->DN D (co u x)->DN j (co u y)->DN (D*j*K) (co u (x*y))
 | [],R,_,_=>⟨1,by decide,by simp[EE],fun {x y D j} v A h k=>by
  obtain⟨p,rfl⟩:=Cs.1 v;obtain⟨q,rfl⟩:=Cs.1 A;rw[Dl] at h k;rw[<-Re.ofRat_mul,Dl];intro z J;rw[List.mem_singleton.1 J];have:=Xo (h p List.mem_cons_self) (k q List.mem_cons_self);rw[HN,HN];rwa [show p*(D:Rat)*(q*(j:Rat))=p*q*(D*j*(1:Nat)) by have:((1:Nat):Rat)=1:=rfl;grind] at this⟩
 | r::u,R,h,G=>by
  obtain⟨K,F,l,hm⟩:=Js h.1 G.tail;obtain⟨E,H,o,m,_⟩:=G.head;refine⟨K*K*E,Nat.mul_pos (Nat.mul_pos F F) H,?_,fun {x y D j} v A f g=>?_⟩
  ·have C:K*K*E<=2^EE u.length R*2^EE u.length R*2^R:=Nat.mul_le_mul (Nat.mul_le_mul l l) o;rw[<-Nat.pow_add,<-Nat.pow_add] at C;exact Nat.le_trans C (CW (by rw[List.length_cons,EE];omega))
  obtain⟨a,b,ha,hb,rfl⟩:=CZ.1 v;obtain⟨c,d,hc,i,rfl⟩:=CZ.1 A;rw[C4 h ha hb rfl,DN.app] at f;rw[C4 h hc i rfl,DN.app] at g;rw[N3 h ha hb hc i rfl rfl,DN.app];have I:DN E (co u (AP u r)):=by rw[FL h];exact m
  refine⟨DN.F5 h.1 (BD h.1 ha hc) (BD h.1 (BD h.1 hb i) (B6 h)) ((hm ha hc f.1 g.1).dvd ⟨K*E,by grind⟩) ((hm (BD h.1 hb i) (B6 h) (hm hb i f.2 g.2) I).dvd ⟨1,by grind⟩),
   DN.F5 h.1 (BD h.1 ha i) (BD h.1 hb hc) ((hm ha i f.1 g.2).dvd ⟨K*E,by grind⟩) ((hm hb hc f.2 g.1).dvd ⟨K*E,by grind⟩)⟩
theorem R6 {p q:Rat} {B C:Nat} (h: -(B:Rat)<=p/\p<=B) (k: -(C:Rat)<=q/\q<=C): -((B*C:Nat):Rat)<=p*q/\p*q<=((B*C:Nat):Rat):=by
 rw[HN];exact⟨j6 h.2 h.1 k.2 k.1,LB h.2 h.1 k.2 k.1⟩
theorem H2:∀{u:List (List Rat)} {R:Nat},Al u->TB R u->∀{x y:Re} {B C:Nat},In u x->In u y->MX B (co u x)->MX C (co u y)->MX (B*C*2^EE u.length R) (co u (x*y))
 | [],R,_,_,x,y,B,C,m,o,h,k=>by
  obtain⟨p,rfl⟩:=Cs.1 m;obtain⟨q,rfl⟩:=Cs.1 o;rw[Dl] at h k;rw[<-Re.ofRat_mul,Dl];intro z H;rw[List.mem_singleton.1 H];have:=R6 (h p List.mem_cons_self) (k q List.mem_cons_self);rwa [show B*C*2^EE ([]:List (List Rat)).length R=B*C by simp[EE]]
 | r::u,R,h,v,x,y,B,C,m,o,f,g=>by
  obtain⟨E,I,F,_,l⟩:=v.head;have j:=fun {x y:Re} {B C:Nat}=>H2 (R:=R) (x:=x) (y:=y) (B:=B) (C:=C) h.1 v.tail
  obtain⟨a,b,ha,hb,rfl⟩:=CZ.1 m;obtain⟨c,d,hc,i,rfl⟩:=CZ.1 o;rw[C4 h ha hb rfl,MX.app] at f;rw[C4 h hc i rfl,MX.app] at g;rw[N3 h ha hb hc i rfl rfl,MX.app];have G:MX (2^R) (co u (AP u r)):=by rw[FL h];exact l
  have e:EE (r::u).length R=EE u.length R+EE u.length R+R+2:=by rw[List.length_cons,EE];omega
  rw[e,Nat.pow_add,Nat.pow_add,Nat.pow_add];have A:=DB (EE u.length R);have D:=DB R
  generalize 2^EE u.length R=K at*
  generalize 2^R=S at*
  have k1:B*C*K<=B*C*(K*K*S):=Nat.mul_le_mul_left _ (by
   have:K*1<=K*(K*S):=Nat.mul_le_mul_left _ (Nat.mul_pos A D);rw[Nat.mul_assoc];omega)
  have k2:B*C*K*S*K=B*C*(K*K*S):=by grind
  refine⟨(MX.F5 h.1 (BD h.1 ha hc) (BD h.1 (BD h.1 hb i) (B6 h)) (j ha hc f.1 g.1) (j (BD h.1 hb i) (B6 h) (j hb i f.2 g.2) G)).mono ?_,
   (MX.F5 h.1 (BD h.1 ha i) (BD h.1 hb hc) (j ha i f.1 g.2) (j hb hc f.2 g.1)).mono ?_⟩
  ·rw[k2];grind
  grind
end Go.Abs
namespace Go.Abs
variable {R s t:Nat} {p q x y:Re} {r:List Rat} {u:List (List Rat)}
theorem Bd.mono {k l:Nat} {a:List Rat} (h:Bd k a) (c:k<=l):Bd l a:=by
 obtain⟨D,f,g,i,h3⟩:=h;exact⟨D,f,Nat.le_trans g (CW c),i,h3.mono (CW c)⟩
theorem Vz (h:Al u) (c:In u x) (f:In u y) (a:Bd s (co u x)) (b:Bd t (co u y)):Bd (s+t+1) (co u (x+y)):=by
 obtain⟨D,g,i,j,h3⟩:=a;obtain⟨E,k0,k1,k2,k⟩:=b;refine⟨D*E,Nat.mul_pos g k0,?_,DN.F5 h c f (j.dvd ⟨E,rfl⟩) (k2.dvd ⟨D,Nat.mul_comm _ _⟩),(MX.F5 h c f h3 k).mono ?_⟩
 ·have:=Nat.mul_le_mul i k1;rw[<-Nat.pow_add] at this;exact Nat.le_trans this (CW)
 have l:2^s<=2^(s+t):=CW;have m:2^t<=2^(s+t):=CW;rw[Nat.pow_succ];omega
theorem V7 (h:Al u) (i:In u x) (a:Bd s (co u x)):Bd s (co u (-x)):=by
 obtain⟨D,c,f,g,h3⟩:=a;rw[Ki h i];exact⟨D,c,f,g.neg,h3.neg⟩
theorem fh (h:Al u) (f:In u x) (c:In u y) (a:Bd s (co u x)) (b:Bd t (co u y)):Bd (s+t+1) (co u (x-y)):=by
 rw[show x-y=x+ -y by grind];exact Vz h f (Gu c) a (V7 h c b)
theorem fe (h:Al u) (f:TB R u) (g:In u x) (i:In u y) (a:Bd s (co u x)) (b:Bd t (co u y)):Bd (s+t+EE u.length R) (co u (x*y)):=by
 obtain⟨D,j,k,l,h3⟩:=a;obtain⟨E,k0,k1,k2,o⟩:=b;obtain⟨K,m,c,hm⟩:=Js h f;refine⟨D*E*K,Nat.mul_pos (Nat.mul_pos j k0) m,?_,hm g i l k2,(H2 h f g i h3 o).mono ?_⟩
 ·have:=Nat.mul_le_mul (Nat.mul_le_mul k k1) c;rwa [<-Nat.pow_add,<-Nat.pow_add] at this
 rw[<-Nat.pow_add,<-Nat.pow_add];exact Nat.le_refl _
theorem ff {q:Rat} (h:Al u) (a:Bd s [q]):Bd s (co u (Re.ofRat q)):=by
 obtain⟨D,f,g,i,h3⟩:=a;rw[Hs q h];refine⟨D,f,g,fun z c=>?_,fun z c=>?_⟩
 ·rcases List.mem_cons.1 c with rfl | c
  ·exact i z List.mem_cons_self
  rw[(List.mem_replicate.1 c).2];exact⟨0,by rw[Rat.zero_mul];rfl⟩
 rcases List.mem_cons.1 c with rfl | c
 ·exact h3 z List.mem_cons_self
 rw[(List.mem_replicate.1 c).2];have:(0:Rat)<=((2^s:Nat):Rat):=Rat.natCast_nonneg
 grind
theorem V6 (h:Al (r::u)) (i:In u p) (j:In u q) (a:Bd s (co (r::u) (p+q*rt u r))):Bd s (co u p)/\Bd s (co u q):=by
 obtain⟨D,f,g,c,h3⟩:=a;rw[C4 h i j rfl] at c h3;exact⟨⟨D,f,g,(DN.app.1 c).1,(MX.app.1 h3).1⟩,⟨D,f,g,(DN.app.1 c).2,(MX.app.1 h3).2⟩⟩
theorem Ns (h:Al (r::u)) (i:In u p) (j:In u q) (a:Bd s (co u p)) (b:Bd t (co u q)):Bd (s+t) (co (r::u) (p+q*rt u r)):=by
 obtain⟨D,c,f,g,h3⟩:=a;obtain⟨E,k0,k1,k2,k⟩:=b;rw[C4 h i j rfl];refine⟨D*E,Nat.mul_pos c k0,?_,DN.app.2 ⟨g.dvd ⟨E,rfl⟩,k2.dvd ⟨D,Nat.mul_comm _ _⟩⟩,MX.app.2 ⟨h3.mono (CW),k.mono (CW)⟩⟩;have:=Nat.mul_le_mul f k1;rwa [<-Nat.pow_add] at this
theorem QS (h:Al (r::u)) (c:TB R (r::u)):Bd R (co u (AP u r)):=by rw[FL h];exact c.head
theorem V8 (h:Al (r::u)) (i:TB R (r::u)) (f:In u p) (c:In u q) (a:Bd s (co (r::u) (p+q*rt u r))):
  Bd (2*s+2*EE u.length R+R+1) (co u (p*p-q*q*AP u r)):=by
 obtain⟨D,m,o,v,h3⟩:=a;rw[C4 h f c rfl] at v h3;obtain⟨k,l⟩:=DN.app.1 v;obtain⟨mp,A⟩:=MX.app.1 h3;obtain⟨K,z,g,hm⟩:=Js h.1 i.tail;obtain⟨E,k0,k1,k2,F⟩:=i.head;have C:DN E (co u (AP u r)):=by rw[FL h];exact k2
 have j:MX (2^R) (co u (AP u r)):=by rw[FL h];exact F
 refine⟨D*D*K*E*K,Nat.mul_pos (Nat.mul_pos (Nat.mul_pos (Nat.mul_pos m m) z) k0) z,?_,DN.Iy h.1 (BD h.1 f f) (BD h.1 (BD h.1 c c) (B6 h)) ((hm f f k k).dvd ⟨E*K,by grind⟩) (hm (BD h.1 c c) (B6 h) (hm c c l l) C),
  (MX.Iy h.1 (BD h.1 f f) (BD h.1 (BD h.1 c c) (B6 h)) (H2 h.1 i.tail f f mp mp) (H2 h.1 i.tail (BD h.1 c c) (B6 h) (H2 h.1 i.tail c c A A) j)).mono ?_⟩
 ·have:=Nat.mul_le_mul (Nat.mul_le_mul (Nat.mul_le_mul (Nat.mul_le_mul o o) g) k1) g;rw[<-Nat.pow_add,<-Nat.pow_add,<-Nat.pow_add,<-Nat.pow_add] at this;exact Nat.le_trans this (CW)
 rw[<-Nat.pow_add,<-Nat.pow_add,<-Nat.pow_add,<-Nat.pow_add,Nat.pow_succ];have G:2^(s+s+EE u.length R)<=2^(2*s+2*EE u.length R+R):=CW;have e2:2^(s+s+EE u.length R+R+EE u.length R)<=2^(2*s+2*EE u.length R+R):=CW;omega
theorem YW {a b:Nat} (h:a<=b):(a:Rat)<=b:=Rat.natCast_le_natCast.2 h
theorem fZ {q p:Rat} (h:Bd s [q]) (G:q*p=1):Bd (2*s) [p]:=by
 obtain⟨D,k,l,v,h3⟩:=h;obtain⟨n,g⟩:=v q List.mem_cons_self;have hb:=h3 q List.mem_cons_self;have K:(0:Rat)<D:=Rat.natCast_pos.2 k
 have A:n≠0:=by
  intro e;subst e;have:(D:Rat)=q*D*p:=by grind
  rw[g] at this;have k:((0:Int):Rat)=0:=rfl
  grind
 have f:p*(n:Rat)=D:=by rw[<-g];grind
 have c:(n.natAbs:Rat)=n\/(n.natAbs:Rat)= -n:=by
  rcases Int.natAbs_eq n with e | e
  ·left
   have:((n.natAbs:Int):Rat)=(n:Rat):=congrArg _ e.symm;exact this
  right
  have:((n.natAbs:Int):Rat)=((-n:Int):Rat):=congrArg _ (by omega);rw[Rat.intCast_neg] at this;exact this
 have F:(1:Rat)<=n.natAbs:=by
  have:1<=n.natAbs:=by omega
  exact YW this
 have i:n.natAbs<=D*2^s:=by
  have o:=R6 (C:=D) hb (q:=(D:Rat)) ⟨by grind,by grind⟩;rw[g,Nat.mul_comm] at o;apply Rat.natCast_le_natCast.1;rcases c with e | e <;> rw[e] <;> grind
 refine⟨n.natAbs,by omega,?_,fun z j=>?_,fun z j=>?_⟩
 ·have:=Nat.mul_le_mul_right (2^s) l;rw[<-Nat.pow_add] at this;exact Nat.le_trans i (Nat.le_trans this (CW))
 ·rw[List.mem_singleton.1 j];rcases c with e | e <;> rw[e]
  ·exact⟨D,f⟩
  exact⟨-D,by rw[Rat.intCast_neg,Rat.mul_neg,f];rfl⟩
 rw[List.mem_singleton.1 j];have H:(D:Rat)<=((2^(2*s):Nat):Rat):=YW (Nat.le_trans l (CW));have I:p=D\/True:= .inr trivial;have J:p*(n.natAbs:Rat)=D\/p*(n.natAbs:Rat)= -D:=by rcases c with e | e <;> rw[e] <;> grind
 generalize (n.natAbs:Rat)=m at*
 generalize ((2^(2*s):Nat):Rat)=S at*
 have L:p<=D:=by
  apply Classical.byContradiction;intro hc;have:=Rat.mul_pos (a:=p-D) (b:=m) (by grind) (by grind);have:=Rat.mul_nonneg (a:=(D:Rat)) (b:=m-1) (by grind) (by grind)
  grind
 have M: -D<=p:=by
  apply Classical.byContradiction;intro hc;have:=Rat.mul_pos (a:= -D-p) (b:=m) (by grind) (by grind);have:=Rat.mul_nonneg (a:=(D:Rat)) (b:=m-1) (by grind) (by grind)
  grind
 grind
theorem IS:∀{u:List (List Rat)} {R:Nat} {x y:Re} {s:Nat},Al u->TB R u->In u x->In u y->x*y=1->Bd s (co u x)->Bd (II u.length R s) (co u y)
 | [],R,x,y,s,_,_,A,C,e,h=>by
  obtain⟨p,rfl⟩:=Cs.1 A;obtain⟨q,rfl⟩:=Cs.1 C;rw[Dl] at h ⊢;rw[<-Re.ofRat_mul] at e;exact fZ h (Re.Ds.1 e)
 | r::u,R,x,y,s,h,k,A,C,e,hb=>by
  obtain⟨a,b,ha,c,rfl⟩:=CZ.1 A;have P:=Ct h;have L:=V8 h k ha c hb;have f:=Fi (BD h.1 ha ha) (BD h.1 (BD h.1 c c) (B6 h))
  have v:a*a-b*b*AP u r≠0:=by
   intro M;have G:(a+b*rt u r)*(a-b*rt u r)=0:=by grind
   rcases Re.Gf G with e2 | e2
   ·rw[e2] at e;have l:(0:Re)<1:=Re.GC.2 (show (0:Rat)<1 by decide)
    grind
   obtain⟨N,O⟩:=indep h ha (Gu c) (CK u) (CK u) (show a+ -b*rt u r=0+0*rt u r by grind);have:a+b*rt u r=0:=by grind
   rw[this] at e;have l:(0:Re)<1:=Re.GC.2 (show (0:Rat)<1 by decide)
   grind
  obtain⟨i,g,j⟩:=E1 h.1 f v;have z:=IS h.1 k.tail f g j L
  have H:y=a*i+ -(b*i)*rt u r:=by
   have:y=(a+b*rt u r)*y*((a-b*rt u r)*i):=by
    have:(a+b*rt u r)*y*((a-b*rt u r)*i)=y*((a*a-b*b*AP u r)*i):=by grind
    rw[this,j];grind
   rw[e] at this
   grind
  obtain⟨D,I,l,m,h3⟩:=hb;rw[C4 h ha c rfl] at m h3;obtain⟨E,k0,k1,k2,F⟩:=z;obtain⟨K,J,o,hm⟩:=Js h.1 k.tail;rw[H,C4 h (BD h.1 ha g) (Gu (BD h.1 c g)) rfl,Ki h.1 (BD h.1 c g),List.length_cons,II];have m1:=H2 h.1 k.tail ha g (MX.app.1 h3).1 F;have m2:=H2 h.1 k.tail c g (MX.app.1 h3).2 F;rw[<-Nat.pow_add,<-Nat.pow_add] at m1 m2;refine⟨D*E*K,Nat.mul_pos (Nat.mul_pos I k0) J,?_,DN.app.2 ⟨hm ha g (DN.app.1 m).1 k2,(hm c g (DN.app.1 m).2 k2).neg⟩,MX.app.2 ⟨m1.mono (CW),(m2.mono (CW)).neg⟩⟩;have:=Nat.mul_le_mul (Nat.mul_le_mul l k1) o;rw[<-Nat.pow_add,<-Nat.pow_add] at this;exact Nat.le_trans this (CW)
end Go.Abs
