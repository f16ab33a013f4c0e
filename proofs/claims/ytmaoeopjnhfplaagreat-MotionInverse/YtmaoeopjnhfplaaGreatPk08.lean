/- Part 9 of a proof. Conditions: each theorem's own. -/
import Derived.Test.YtmaoeopjnhfplaaGreatPk07
set_option linter.all false
set_option maxHeartbeats 8000000
set_option maxRecDepth 20000
namespace Go.Abs
variable {B d:Rat}
theorem qa (e:Rat):e=e.num/e.den:=by
 have h:=Rat.mkRat_self e;rw[Rat.mkRat_eq_div] at h;exact h.symm
theorem NG (e:Rat):e*e.den=e.num:=by
 have h:(e.den:Rat)≠0:=by
  intro h;exact e.den_nz (Rat.natCast_eq_zero_iff.1 h)
 have:=qa e
 grind
theorem qb {e:Rat} (h:0<e):0<e.num:=by
 have:=(Rat.lt_iff 0 e).1 h;simpa using this
theorem Mx {a e:Rat} (c:a<=B) (f: -B<=a) (h3:d<=e) (g: -e<=d):a*d<=B*e:=by
 have p:=Rat.mul_nonneg (a:=B-a) (b:=e+d) (by grind) (by grind);have q:=Rat.mul_nonneg (a:=B+a) (b:=e-d) (by grind) (by grind)
 grind
theorem od {a e:Rat} (f:a<=B) (g: -B<=a) (h3:d<=e) (c: -e<=d): -(B*e)<=a*d:=by
 have:=Mx (a:= -a) (d:=d) (B:=B) (e:=e) (by grind) (by grind) h3 c
 grind
structure CS where
 f:Nat->Rat
 JN:∀e:Rat,0<e->∃N,∀n m,N<=n->N<=m->f n-f m<e
namespace CS
def eqv (a b:CS):Prop:=∀e:Rat,0<e->∃N,∀n,N<=n->a.f n-b.f n<e/\b.f n-a.f n<e
theorem lR (a:CS):eqv a a:=fun e he=>⟨0,fun n _=>by grind⟩
theorem ZO {a b:CS} (h:eqv a b):eqv b a:=fun e he=>by
 obtain⟨N,c⟩:=h e he;exact⟨N,fun n f=>⟨(c n f).2,(c n f).1⟩⟩
theorem lS {a b c:CS} (h:eqv a b) (k:eqv b c):eqv a c:=fun e he=>by
 obtain⟨N,g⟩:=h (e/2) (by grind);obtain⟨M,f⟩:=k (e/2) (by grind);refine⟨max N M,fun n i=>?_⟩;have:=g n (by omega);have:=f n (by omega)
 grind
instance st:Setoid CS:=⟨eqv,lR,ZO,lS⟩
theorem lQ {a b:CS} (h:∀n,a.f n=b.f n):a ≈ b:=fun e he=>⟨0,fun n _=>by have:=h n;grind⟩
theorem N5 (a:CS):∃B:Rat,0<B/\∃N,∀n,N<=n->a.f n<=B/\ -B<=a.f n:=by
 obtain⟨N,c⟩:=a.JN 1 (by decide)
 have i:0<=max (a.f N) (-(a.f N)):=by
  rcases Rat.le_total (a:=a.f N) (b:= -(a.f N)) with h | h
  ·rw[Rat.max_def,if_pos h];grind
  by_cases h':a.f N<= -(a.f N)
  ·rw[Rat.max_def,if_pos h'];grind
  rw[Rat.max_def,if_neg h'];grind
 have j:a.f N<=max (a.f N) (-(a.f N)):=by rw[Rat.max_def];split <;> grind
 have k: -(a.f N)<=max (a.f N) (-(a.f N)):=by rw[Rat.max_def];split <;> grind
 refine⟨max (a.f N) (-(a.f N))+1,by grind,N,fun n g=>?_⟩;have:=c n N g (Nat.le_refl _);have:=c N n (Nat.le_refl _) g
 grind
def const (q:Rat):CS:=⟨fun _=>q,fun e he=>⟨0,fun n m _ _=>by grind⟩⟩
def add (a b:CS):CS:=⟨fun n=>a.f n+b.f n,fun e he=>by
 obtain⟨N,hN⟩:=a.JN (e/2) (by grind);obtain⟨M,hM⟩:=b.JN (e/2) (by grind);refine⟨max N M,fun n m hn hm=>?_⟩;have:=hN n m (by omega) (by omega);have:=hM n m (by omega) (by omega)
 grind⟩
def neg (a:CS):CS:=⟨fun n=> -a.f n,fun e he=>by
 obtain⟨N,hN⟩:=a.JN e he;refine⟨N,fun n m hn hm=>?_⟩;have:=hN m n hm hn
 grind⟩
theorem aj {x y u v A e:Rat} (l:0<A) (m:0<B) (he:0<e) (h:x<=A) (f: -A<=x) (g:v<=B) (c: -B<=v)
  (i:x-u<e/(2*B)) (j:u-x<e/(2*B)) (h3:y-v<e/(2*A)) (k:v-y<e/(2*A)):x*y-u*v<=e:=by
 have p:=Mx (a:=x) (d:=y-v) (B:=A) (e:=e/(2*A)) h f (by grind) (by grind);have q:=Mx (a:=v) (d:=x-u) (B:=B) (e:=e/(2*B)) g c (by grind) (by grind);have e1:A*(e/(2*A))=e/2:=by grind
 have e2:B*(e/(2*B))=e/2:=by grind
 grind
def mul (a b:CS):CS:=⟨fun n=>a.f n*b.f n,fun e he=>by
 obtain⟨A,hA,N,hN⟩:=a.N5;obtain⟨B,hB,M,hM⟩:=b.N5;have p1:0<(e/2)/(2*B):=by rw[Rat.div_def];exact Rat.mul_pos (by grind) (Rat.inv_pos.2 (by grind))
 have p2:0<(e/2)/(2*A):=by rw[Rat.div_def];exact Rat.mul_pos (by grind) (Rat.inv_pos.2 (by grind))
 obtain⟨P,hP⟩:=a.JN _ p1;obtain⟨Q,hQ⟩:=b.JN _ p2;refine⟨max (max N M) (max P Q),fun n m hn hm=>?_⟩;have hn1:=hN n (by omega);have hm1:=hM m (by omega);have:=aj (e:=e/2) hA hB (by grind) hn1.1 hn1.2 hm1.1 hm1.2 (hP n m (by omega) (by omega)) (hP m n (by omega) (by omega)) (hQ n m (by omega) (by omega)) (hQ m n (by omega) (by omega))
 grind⟩
theorem add_congr {a b c d:CS} (h:a ≈ c) (k:b ≈ d):add a b ≈ add c d:=fun e he=>by
 obtain⟨N,i⟩:=h (e/2) (by grind);obtain⟨M,g⟩:=k (e/2) (by grind);refine⟨max N M,fun n j=>?_⟩;have:=i n (by omega);have:=g n (by omega)
 show a.f n+b.f n-(c.f n+d.f n)<e/\c.f n+d.f n-(a.f n+b.f n)<e
 grind
theorem neg_congr {a c:CS} (h:a ≈ c):neg a ≈ neg c:=fun e he=>by
 obtain⟨N,g⟩:=h e he;refine⟨N,fun n i=>?_⟩;have:=g n i
 show -a.f n- -c.f n<e/\ -c.f n- -a.f n<e
 grind
theorem mul_congr {a b c d:CS} (h:a ≈ c) (k:b ≈ d):mul a b ≈ mul c d:=fun e he=>by
 obtain⟨A,m,N,z⟩:=a.N5;obtain⟨B,o,M,v⟩:=d.N5;have F:0<(e/2)/(2*B):=by rw[Rat.div_def];exact Rat.mul_pos (by grind) (Rat.inv_pos.2 (by grind))
 have G:0<(e/2)/(2*A):=by rw[Rat.div_def];exact Rat.mul_pos (by grind) (Rat.inv_pos.2 (by grind))
 obtain⟨P,C⟩:=h _ F;obtain⟨Q,D⟩:=k _ G;refine⟨max (max N M) (max P Q),fun n H=>?_⟩;have i:=z n (by omega);have g:=v n (by omega);have j:=C n (by omega);have l:=D n (by omega);have t1:=aj (e:=e/2) m o (by grind) i.1 i.2 g.1 g.2 j.1 j.2 l.1 l.2;have p:=Mx (a:=a.f n) (d:=d.f n-b.f n) (B:=A) (e:=(e/2)/(2*A)) i.1 i.2 (by grind) (by grind);have q:=Mx (a:=d.f n) (d:=c.f n-a.f n) (B:=B) (e:=(e/2)/(2*B)) g.1 g.2 (by grind) (by grind);have e1:A*((e/2)/(2*A))=e/4:=by grind
 have e2:B*((e/2)/(2*B))=e/4:=by grind
 show a.f n*b.f n-c.f n*d.f n<e/\c.f n*d.f n-a.f n*b.f n<e
 grind
def pos (a:CS):Prop:=∃e:Rat,0<e/\∃N,∀n,N<=n->e<a.f n
theorem bn {a b:CS} (h:a ≈ b) (k:pos a):pos b:=by
 obtain⟨e,he,N,f⟩:=k;obtain⟨M,c⟩:=h (e/2) (by grind);refine⟨e/2,by grind,max N M,fun n g=>?_⟩;have:=f n (by omega);have:=c n (by omega)
 grind
theorem pT {a b:CS} (h:a ≈ b):pos a=pos b:=propext ⟨bn h,bn (ZO h)⟩
theorem tri (a:CS):a ≈ const 0\/pos a\/pos (neg a):=by
 apply Classical.byContradiction;intro h;apply h;refine .inl fun e he=>?_
 obtain⟨N,c⟩:=a.JN (e/2) (by grind);refine⟨N,fun n g=>?_⟩
 show a.f n-0<e/\0-a.f n<e
 constructor
 ·apply Classical.byContradiction;intro hc;refine h (.inr (.inl ⟨e/4,by grind,N,fun m hm=>?_⟩));have:=c n m g hm
  grind
 apply Classical.byContradiction;intro hc;refine h (.inr (.inr ⟨e/4,by grind,N,fun m hm=>?_⟩));have:=c m n hm g
 show e/4< -a.f m
 grind
theorem mj {x y c e:Rat} (hc:0<c) (g:c<x) (i:c<y) (he:0<e) (h:x-y<e*(c*c)):y⁻¹-x⁻¹<e:=by
 have f:0<x*y:=Rat.mul_pos (by grind) (by grind);have e1:y⁻¹-x⁻¹=(x-y)*(x*y)⁻¹:=by grind
 have e2:e=e*(x*y)*(x*y)⁻¹:=by grind
 have p:=Rat.mul_nonneg (a:=x-c) (b:=y) (by grind) (by grind);have j:=Rat.mul_nonneg (a:=c) (b:=y-c) (by grind) (by grind);have q:=Rat.mul_nonneg (a:=e) (b:=x*y-c*c) (by grind) (by grind);have r:=Rat.mul_pos (a:=e*(x*y)-(x-y)) (b:=(x*y)⁻¹) (by grind) (Rat.inv_pos.2 f)
 grind
theorem ON {a:CS} (h:pos a):∃b:CS,mul a b ≈ const 1:=by
 obtain⟨c,hc,N,g⟩:=h;refine⟨⟨fun n=>(a.f (max N n))⁻¹,fun e he=>?_⟩,?_⟩
 ·have i:0<c*c:=Rat.mul_pos hc hc;obtain⟨M,k⟩:=a.JN (e*(c*c)) (Rat.mul_pos he i);refine⟨M,fun n m j hm=>?_⟩;exact mj hc (g _ (by omega)) (g _ (by omega)) he (k _ _ (by omega) (by omega))
 intro e he;refine⟨N,fun n j=>?_⟩;have:=g n j;have l:a.f n*(a.f (max N n))⁻¹=1:=by rw[Nat.max_eq_right j];grind
 show a.f n*(a.f (max N n))⁻¹-1<e/\1-a.f n*(a.f (max N n))⁻¹<e
 grind
theorem mul_pos {a b:CS} (h:pos a) (k:pos b):pos (mul a b):=by
 obtain⟨c,hc,N,j⟩:=h;obtain⟨d,g,M,i⟩:=k;refine⟨c*d,Rat.mul_pos hc g,max N M,fun n o=>?_⟩;have l:=j n (by omega);have m:=i n (by omega);have p:=Rat.mul_pos (a:=a.f n-c) (b:=d) (by grind) g;have q:=Rat.mul_pos (a:=a.f n) (b:=b.f n-d) (by grind) (by grind)
 show c*d<a.f n*b.f n
 grind
theorem add_pos {a b:CS} (h:pos a) (k:pos b):pos (add a b):=by
 obtain⟨c,hc,N,i⟩:=h;obtain⟨d,m,M,g⟩:=k;refine⟨c+d,by grind,max N M,fun n o=>?_⟩;have j:=i n (by omega);have l:=g n (by omega)
 show c+d<a.f n+b.f n
 grind
theorem o9 {a:CS} (h:pos a):¬pos (neg a):=by
 rintro⟨d,l,M,g⟩
 obtain⟨c,hc,N,i⟩:=h;have j:=i (max N M) (by omega);have k:d< -a.f (max N M):=g (max N M) (by omega)
 grind
theorem pA:¬pos (const 0):=by
 rintro⟨d,g,M,c⟩
 have f:d<0:=c M (by omega)
 grind
theorem M7 (k:Nat):(0:Rat)<2^k:=Rat.pow_pos (by decide)
theorem M6 (k:Nat):(0:Rat)<(2^k)⁻¹:=Rat.inv_pos.2 (M7 k)
theorem ov (k:Nat):(k:Rat)<2^k:=by
 have:=Nat.lt_two_pow_self (n:=k);have h:((k:Nat):Rat)<((2^k:Nat):Rat):=Rat.natCast_lt_natCast.2 this;simpa using h
theorem small (e:Rat) (he:0<e):∃N:Nat,∀n:Nat,N<=n->((2:Rat)^n)⁻¹<e:=by
 refine⟨e.den,fun n i=>?_⟩;have j:=ov n;have k:(e.den:Rat)<=(n:Rat):=Rat.natCast_le_natCast.2 i
 have h3:1<=e*e.den:=by
  have:e*e.den=e.num:=NG e;rw[this];have g:0<e.num:=qb he;have f:((1:Int):Rat)<=e.num:=Rat.intCast_le_intCast.2 g;exact f
 have f:=M7 n;have g:=Rat.mul_lt_mul_of_pos_left (a:=(e.den:Rat)) (b:=2^n) (c:=e) (by grind) he;have l:((2:Rat)^n)⁻¹*2^n=1:=by grind
 have h:=M6 n;have m:=Rat.mul_pos (a:=e*2^n-1) (b:=(2^n)⁻¹) (by grind) h;have o:(e*2^n-1)*((2:Rat)^n)⁻¹=e-((2:Rat)^n)⁻¹:=by grind
 grind
def Ft (q:Rat) (k:Nat):Rat:=(B7 (q*(2^k*2^k)).floor.toNat:Rat)*(2^k)⁻¹
theorem Vw (q:Rat) (k:Nat):0<=Ft q k:=
 Rat.mul_nonneg (by exact Rat.natCast_nonneg) (Rat.le_of_lt (M6 k))
theorem dI {q:Rat} (k:Nat) (h:q<=0):Ft q k=0:=by
 have c:q*(2^k*2^k)<=0:=by
  have:=Rat.mul_nonneg (a:= -q) (b:=2^k*2^k) (by grind) (Rat.le_of_lt (Rat.mul_pos (M7 k) (M7 k)))
  generalize (2:Rat)^k=x at*
  grind
 have f:(q*(2^k*2^k)).floor<=0:=by
  have:=Rat.floor_le (q*(2^k*2^k));have h3:((q*(2^k*2^k)).floor:Rat)<=((0:Int):Rat):=Rat.le_trans this c;exact Rat.intCast_le_intCast.1 h3
 rw[Ft,Int.toNat_of_nonpos f];have:B7 0=0:=rfl;rw[this];simp
theorem dH {q:Rat} (k:Nat) (h:0<=q):Ft q k*Ft q k<=q:=by
 have l:=M7 k;have j:=M6 k;have c:0<=q*(2^k*2^k):=Rat.mul_nonneg h (Rat.le_of_lt (Rat.mul_pos l l));have m:=Rat.floor_le (q*(2^k*2^k));have h3:0<=(q*(2^k*2^k)).floor:=Rat.le_floor_iff.2 (by simpa using c);have f:=OO (q*(2^k*2^k)).floor.toNat;rw[Ft]
 generalize v:B7 (q*(2^k*2^k)).floor.toNat=r at*
 have g:((r*r:Nat):Rat)<=((q*(2^k*2^k)).floor.toNat:Rat):=Rat.natCast_le_natCast.2 f
 have i:((q*(2^k*2^k)).floor.toNat:Rat)=((q*(2^k*2^k)).floor:Rat):=by
  have:=Int.toNat_of_nonneg h3;have o:(((q*(2^k*2^k)).floor.toNat:Int):Rat)=((q*(2^k*2^k)).floor:Rat):=by rw[this]
  exact o
 rw[i] at g
 have z:(r:Rat)*r<=q*(2^k*2^k):=by
  have:((r*r:Nat):Rat)=(r:Rat)*r:=by simp
  grind
 have A:=Rat.mul_nonneg (a:=q*(2^k*2^k)-(r:Rat)*r) (b:=(2^k)⁻¹*(2^k)⁻¹) (by grind) (Rat.le_of_lt (Rat.mul_pos j j));have e:(2:Rat)^k*(2^k)⁻¹=1:=by grind
 clear c m h3 f g i v
 generalize ((2:Rat)^k)⁻¹=y at*
 generalize (2:Rat)^k=x at*
 have e2:(q*(x*x)-(r:Rat)*r)*(y*y)=q-r*y*(r*y):=by grind
 grind
theorem aK (q:Rat) (k:Nat):q<(Ft q k+(2^k)⁻¹)*(Ft q k+(2^k)⁻¹):=by
 have o:=M7 k;have g:=M6 k;have f:=RB (q*(2^k*2^k)).floor.toNat;rw[Ft]
 generalize l:B7 (q*(2^k*2^k)).floor.toNat=r at*
 have h:q*(2^k*2^k)<(q*(2^k*2^k)).floor+1:=by
  have:=Rat.lt_floor_add_one (q*(2^k*2^k));rwa [Rat.intCast_add] at this
 have h3:(q*(2^k*2^k)).floor<=((q*(2^k*2^k)).floor.toNat:Int):=Int.self_le_toNat _
 have c:((q*(2^k*2^k)).floor:Rat)<=((q*(2^k*2^k)).floor.toNat:Rat):=by
  exact Rat.intCast_le_intCast.2 h3
 have i:((q*(2^k*2^k)).floor.toNat:Rat)+1<=((r:Rat)+1)*(r+1):=by
  have j:(q*(2^k*2^k)).floor.toNat+1<=(r+1)*(r+1):=f;have:=Rat.natCast_le_natCast.2 j;simpa using this
 have m:=Rat.mul_pos (a:=((r:Rat)+1)*(r+1)-q*(2^k*2^k)) (b:=(2^k)⁻¹*(2^k)⁻¹) (by grind) (Rat.mul_pos g g);have e:(2:Rat)^k*(2^k)⁻¹=1:=by grind
 clear h h3 f i c l
 generalize ((2:Rat)^k)⁻¹=y at*
 generalize (2:Rat)^k=x at*
 have e2:(((r:Rat)+1)*(r+1)-q*(x*x))*(y*y)=(r*y+y)*(r*y+y)-q:=by grind
 grind
theorem Vx {p q e:Rat} {k l:Nat} (he:0<e) (j:((2:Rat)^l)⁻¹<e/2) (h:p-q<e*e/2):Ft p k-Ft q l<e:=by
 apply Classical.byContradiction;intro m;have f:=Vw q l;have g:=aK q l
 have c:0<=p:=by
  apply Classical.byContradiction;intro hc;have:=dI (q:=p) k (by grind)
  grind
 have h3:=dH k c;have i:=M6 l
 generalize Ft p k=s at*
 generalize Ft q l=t at*
 generalize ((2:Rat)^l)⁻¹=d at*
 have o:=Rat.mul_nonneg (a:=s-(t+d)-e/2) (b:=s+(t+d)) (by grind) (by grind);have v:=Rat.mul_nonneg (a:=e/2) (b:=s+t+d-e) (by grind) (by grind)
 grind
def sqrt (a:CS):CS:=⟨fun n=>Ft (a.f n) n,fun e he=>by
 obtain⟨N,hN⟩:=small (e/2) (by grind);obtain⟨M,hM⟩:=a.JN (e*e/2) (by have:=Rat.mul_pos he he;grind);refine⟨max N M,fun n m hn hm=>?_⟩;exact Vx he (hN m (by omega)) (hM n m (by omega) (by omega))⟩
theorem sC {a b:CS} (h:a ≈ b):sqrt a ≈ sqrt b:=fun e he=>by
 obtain⟨N,c⟩:=small (e/2) (by grind);obtain⟨M,f⟩:=h (e*e/2) (by have:=Rat.mul_pos he he;grind);refine⟨max N M,fun n g=>?_⟩;have:=f n (by omega);exact⟨Vx he (c n (by omega)) this.1,Vx he (c n (by omega)) this.2⟩
theorem Ev {a:CS} (h:¬pos (neg a)):mul (sqrt a) (sqrt a) ≈ a:=fun e he=>by
 obtain⟨B,L,P,z⟩:=(sqrt a).N5;have F:0<e/(2*B+1):=by rw[Rat.div_def];exact Rat.mul_pos (by grind) (Rat.inv_pos.2 (by grind))
 obtain⟨N,v⟩:=small _ F;obtain⟨k,g⟩:=small 1 (by decide);obtain⟨M,o⟩:=a.JN (e/2) (by grind)
 have c:∃n,M<=n/\ -(e/2)<a.f n:=by
  apply Classical.byContradiction;intro hc;apply h;refine⟨e/4,by grind,M,fun n j=>?_⟩;have:¬(-(e/2)<a.f n):=fun A=>hc ⟨n,j,A⟩
  show e/4< -a.f n
  grind
 obtain⟨D,i,c⟩:=c;refine⟨max (max N k) (max M P),fun n j=>?_⟩;have l:=z n (by omega);have G:=v n (by omega);have h3:=o D n i (by omega);have H:=aK (a.f n) n;have I:=Vw (a.f n) n;have J:=M6 n;have K:=g n (by omega)
 show Ft (a.f n) n*Ft (a.f n) n-a.f n<e/\a.f n-Ft (a.f n) n*Ft (a.f n) n<e
 have m:Ft (a.f n) n<=B:=l.1
 constructor
 ·by_cases C:0<=a.f n
  ·have:=dH n C
   grind
  rw[dI n (by grind)]
  grind
 generalize Ft (a.f n) n=s at*
 generalize ((2:Rat)^n)⁻¹=d at*
 have O:=Rat.mul_nonneg (a:=B-s) (b:=d) (by grind) (by grind);have Q:=Rat.mul_nonneg (a:=1-d) (b:=d) (by grind) (by grind);have S:=Rat.mul_pos (a:=e/(2*B+1)-d) (b:=2*B+1) (by grind) (by grind);have T:e/(2*B+1)*(2*B+1)=e:=by grind
 grind
theorem Gg (a:CS):¬pos (neg (sqrt a)):=by
 rintro⟨e,he,N,c⟩
 have g:e< -Ft (a.f N) N:=c N (Nat.le_refl _);have:=Vw (a.f N) N
 grind
end CS
def Re:Type:=Quotient CS.st
namespace Re
def mk (a:CS):Re:=Quotient.mk _ a
def ofRat (q:Rat):Re:=mk (CS.const q)
def add (x y:Re):Re:=Quotient.liftOn₂ x y (fun a b=>mk (CS.add a b)) fun _ _ _ _ h k=>Quotient.sound (CS.add_congr h k)
def mul (x y:Re):Re:=Quotient.liftOn₂ x y (fun a b=>mk (CS.mul a b)) fun _ _ _ _ h k=>Quotient.sound (CS.mul_congr h k)
def neg (x:Re):Re:=Quotient.liftOn x (fun a=>mk (CS.neg a)) fun _ _ h=>Quotient.sound (CS.neg_congr h)
def sqrt (x:Re):Re:=Quotient.liftOn x (fun a=>mk (CS.sqrt a)) fun _ _ h=>Quotient.sound (CS.sC h)
def pos (x:Re):Prop:=Quotient.liftOn x CS.pos fun _ _ h=>CS.pT h
def pow (x:Re):Nat->Re
 | 0=>ofRat 1
 | n+1=>mul (pow x n) x
instance:Add Re:=⟨add⟩
instance:Mul Re:=⟨mul⟩
instance:Neg Re:=⟨neg⟩
instance:Sub Re:=⟨fun a b=>add a (neg b)⟩
instance (n:Nat):OfNat Re n:=⟨ofRat n⟩
instance:NatCast Re:=⟨fun n=>ofRat n⟩
instance:IntCast Re:=⟨fun n=>ofRat n⟩
instance:Pow Re Nat:=⟨pow⟩
instance:SMul Nat Re:=⟨fun n a=>mul (ofRat n) a⟩
instance:SMul Int Re:=⟨fun n a=>mul (ofRat n) a⟩
instance:LT Re:=⟨fun a b=>pos (add b (neg a))⟩
instance:LE Re:=⟨fun a b=>¬pos (add a (neg b))⟩
theorem sound {a b:CS} (h:∀n,a.f n=b.f n):mk a=mk b:=Quotient.sound (CS.lQ h)
theorem Er {p:Re->Prop} (h:∀a,p (mk a)) (x:Re):p x:=Quotient.ind h x
theorem add_assoc (x y z:Re):x+y+z=x+(y+z):=by
 induction x using Er;induction y using Er;induction z using Er
 exact sound fun n=>Rat.add_assoc _ _ _
theorem add_comm (x y:Re):x+y=y+x:=by
 induction x using Er;induction y using Er
 exact sound fun n=>Rat.add_comm _ _
theorem add_zero (x:Re):x+0=x:=by
 induction x using Er
 exact sound fun n=>Rat.add_zero _
theorem neg_add_cancel (x:Re): -x+x=0:=by
 induction x using Er
 exact sound fun n=>Rat.neg_add_cancel _
theorem mul_assoc (x y z:Re):x*y*z=x*(y*z):=by
 induction x using Er;induction y using Er;induction z using Er
 exact sound fun n=>Rat.mul_assoc _ _ _
theorem mul_comm (x y:Re):x*y=y*x:=by
 induction x using Er;induction y using Er
 exact sound fun n=>Rat.mul_comm _ _
theorem mul_one (x:Re):x*1=x:=by
 induction x using Er
 exact sound fun n=>Rat.mul_one _
theorem left_distrib (x y z:Re):x*(y+z)=x*y+x*z:=by
 induction x using Er;induction y using Er;induction z using Er
 exact sound fun n=>Rat.mul_add _ _ _
theorem zero_mul (x:Re):0*x=0:=by
 induction x using Er
 exact sound fun n=>Rat.zero_mul _
theorem ofRat_add (p q:Rat):ofRat (p+q)=ofRat p+ofRat q:=rfl
theorem ofRat_mul (p q:Rat):ofRat (p*q)=ofRat p*ofRat q:=rfl
theorem ofRat_neg (p:Rat):ofRat (-p)= -ofRat p:=rfl
abbrev Wo {C:Type->Type} {α:Type} (_:C α):Type->Type:=C
abbrev gq:Type->Type:=Wo Dyadic.instCommRing
abbrev Sd:Type->Type:=Wo Dyadic.instCommRing.toRing.toSemiring
instance:gq Re where
 add_assoc:=add_assoc
 add_comm:=add_comm
 add_zero:=add_zero
 neg_add_cancel:=neg_add_cancel
 mul_assoc:=mul_assoc
 mul_comm:=mul_comm
 mul_one:=mul_one
 one_mul:=fun x=>by rw[mul_comm,mul_one]
 left_distrib:=left_distrib
 right_distrib:=fun x y z=>by rw[mul_comm,left_distrib,mul_comm z x,mul_comm z y]
 zero_mul:=zero_mul
 mul_zero:=fun x=>by rw[mul_comm,zero_mul]
 pow_zero:=fun _=>rfl
 pow_succ:=fun _ _=>rfl
 sub_eq_add_neg:=fun _ _=>rfl
 neg_zsmul:=fun i x=>by
  show mul (ofRat ((-i:Int):Rat)) x=neg (mul (ofRat (i:Rat)) x)
  rw[Rat.intCast_neg]
  induction x using Er
  exact sound fun n=>Rat.neg_mul _ _
 zsmul_natCast_eq_nsmul:=fun _ _=>rfl
 nsmul_eq_natCast_mul:=fun _ _=>rfl
 ofNat_succ:=fun n=>by
  show ofRat ((n+1:Nat):Rat)=ofRat (n:Rat)+ofRat 1
  rw[Rat.natCast_add,ofRat_add]
  rfl
 ofNat_eq_natCast:=fun _=>rfl
 intCast_ofNat:=fun _=>rfl
 intCast_neg:=fun i=>by
  show ofRat ((-i:Int):Rat)=neg (ofRat (i:Rat))
  rw[Rat.intCast_neg]
  rfl
theorem lt_def (x y:Re):x<y↔pos (y-x):=Iff.rfl
theorem le_def (x y:Re):x<=y↔¬pos (x-y):=Iff.rfl
theorem pU {x y:Re}:pos x->pos y->pos (x*y):=by
 induction x using Er;induction y using Er
 exact CS.mul_pos
theorem pS {x y:Re}:pos x->pos y->pos (x+y):=by
 induction x using Er;induction y using Er
 exact CS.add_pos
theorem bj {x:Re}:pos x->¬pos (-x):=by
 induction x using Er
 exact CS.o9
theorem pZ:¬pos 0:=CS.pA
theorem bu (x:Re):x=0\/pos x\/pos (-x):=by
 induction x using Er
 rcases CS.tri _ with h | h | h
 ·exact .inl (Quotient.sound h)
 ·exact .inr (.inl h)
 exact .inr (.inr h)
theorem bm {q:Rat}:pos (ofRat q)↔0<q:=by
 constructor
 ·rintro⟨e,he,N,c⟩
  have:e<q:=c N (Nat.le_refl _)
  grind
 intro h;exact⟨q/2,by grind,0,fun n _=>by show q/2<q;grind⟩
theorem le_trans' {x y z:Re} (h:x<=y) (k:y<=z):x<=z:=by
 rw[le_def] at*;intro c;rcases bu (x-y) with e | e | e
 ·rw[show x-z=(x-y)+(y-z) by grind,e,show 0+(y-z)=y-z by grind] at c;exact k c
 ·exact h e
 have:=pS c e;rw[show x-z+ -(x-y)=y-z by grind] at this;exact k this
theorem nN (x y:Re):x<=y\/y<=x:=by
 rw[le_def,le_def]
 by_cases h:pos (x-y)
 ·right
  have:=bj h;rwa [show -(x-y)=y-x by grind] at this
 exact .inl h
theorem nL {x y:Re} (h:x<=y) (k:y<=x):x=y:=by
 rw[le_def] at*;rcases bu (x-y) with e | e | e
 ·grind
 ·exact (h e).elim
 rw[show -(x-y)=y-x by grind] at e;exact (k e).elim
theorem nU (x y:Re):x<y↔x<=y/\¬y<=x:=by
 rw[lt_def,le_def,le_def]
 constructor
 ·intro h;refine⟨?_,fun k=>k h⟩;have:=bj h;rwa [show -(y-x)=x-y by grind] at this
 rintro⟨_,h⟩
 exact Classical.not_not.1 h
instance:Std.IsLinearOrder Re where
 le_refl:=fun x=>by
  rw[le_def,show x-x=0 by grind];exact pZ
 le_trans:=fun _ _ _=>le_trans'
 le_antisymm:=fun _ _=>nL
 le_total:=nN
instance:Std.LawfulOrderLT Re where
 lt_iff:=nU
abbrev gX {C:(β:Type)->(s:Sd β)->(l:LE β)->(t:LT β)->Std.IsPreorder β->Prop} {α:Type} {s:Sd α} {l:LE α} {t:LT α} {p:Std.IsPreorder α} (_:C α s l t p):(β:Type)->(s:Sd β)->(l:LE β)->(t:LT β)->Std.IsPreorder β->Prop:=C
theorem Uu {a b c:Re} (h:a<b) (hc:0<c):c*a<c*b:=by
 rw[lt_def] at*;rw[show c*b-c*a=(c-0)*(b-a) by grind];exact pU hc h
instance:gX Dyadic.instOrderedRing Re inferInstance inferInstance inferInstance inferInstance where
 add_le_left_iff:=fun c=>by
  rename_i a b
  rw[le_def,le_def,show a+c-(b+c)=a-b by grind]
 zero_lt_one:=by
  rw[lt_def]
  show pos (ofRat 1-ofRat 0)
  have:ofRat 1-ofRat 0=ofRat 1:=by
   show (1:Re)-0=1
   grind
  rw[this,bm]
  decide
 mul_lt_mul_of_pos_left:=fun h hc=>Uu h hc
 mul_lt_mul_of_pos_right:=fun h hc=>by
  rename_i a b c
  rw[mul_comm a c,mul_comm b c];exact Uu h hc
theorem mul_pos {x y:Re} (h:0<x) (k:0<y):0<x*y:=by
 have:=Uu k h
 grind
theorem ak {x y:Re} (h:0<=x) (k:0<=y):0<=x*y:=by
 by_cases h':0<x
 ·by_cases k':0<y
  ·have:=mul_pos h' k'
   grind
  have:y=0:=by grind
  subst this
  grind
 have:x=0:=by grind
 subst this
 grind
theorem Hj:ofRat 0=0:=rfl
theorem GP {p q:Rat}:ofRat p<ofRat q↔p<q:=by
 rw[lt_def]
 have:ofRat q-ofRat p=ofRat (q-p):=by
  rw[show q-p=q+ -p by grind,ofRat_add,ofRat_neg];grind
 rw[this,bm]
 grind
theorem Ra {p q:Rat}:ofRat p<=ofRat q↔p<=q:=by
 have:= @GP q p
 grind
theorem Cj {p q:Rat}:ofRat p=ofRat q↔p=q:=by
 constructor
 ·intro h;have c:=(@Ra p q).1 (by grind);have f:=(@Ra q p).1 (by grind)
  grind
 rintro rfl;rfl
theorem Zt {x:Re} (h:0<x):∃y,x*y=1:=by
 rw[lt_def,show x-0=x by grind] at h
 induction x using Er
 obtain⟨b,hb⟩:=CS.ON h;exact⟨mk b,Quotient.sound hb⟩
theorem ON {x:Re} (h:x≠0):∃y,x*y=1:=by
 by_cases c:0<x
 ·exact Zt c
 obtain⟨y,f⟩:=Zt (x:= -x) (by grind);exact⟨-y,by grind⟩
theorem Gg (x:Re):0<=sqrt x:=by
 rw[le_def,show 0-sqrt x= -sqrt x by grind]
 induction x using Er
 exact CS.Gg _
theorem Ev {x:Re} (h:0<=x):sqrt x*sqrt x=x:=by
 rw[le_def,show 0-x= -x by grind] at h
 induction x using Er
 exact Quotient.sound (CS.Ev h)
theorem HN {x y:Re} (h:x*y=0):x=0\/y=0:=by
 by_cases c:x=0
 ·exact .inl c
 obtain⟨z,f⟩:=ON c
 right
 have:y=(x*z)*y:=by rw[f];grind
 grind
theorem Ji (x:Re):0<=x*x:=by
 by_cases h:0<=x
 ·exact ak h h
 have:=ak (x:= -x) (y:= -x) (by grind) (by grind)
 grind
theorem LQ {x y:Re} (c:0<=x) (f:0<=y) (h:x*x=y*y):x=y:=by
 have:(x-y)*(x+y)=0:=by grind
 rcases HN this with e | e
 ·grind
 grind
end Re
end Go.Abs
namespace Go.Abs
def Al:List (List Rat)->List Rat->Re
 | [],a=>Re.ofRat (a.headD 0)
 | r::u,a=>Al u (a.take (2^u.length))+Al u (a.drop (2^u.length))*Re.sqrt (Al u r)
def rt (u:List (List Rat)) (r:List Rat):Re:=Re.sqrt (Al u r)
def In (u:List (List Rat)) (x:Re):Prop:=∃a:List Rat,a.length=2^u.length/\Al u a=x
def BF:List (List Rat)->Prop
 | []=>True
 | r::u=>BF u/\r.length=2^u.length/\0<Al u r/\¬∃w,In u w/\w*w=Al u r
noncomputable def co (u:List (List Rat)) (x:Re):List Rat:=by
 classical
 exact if h:In u x then Classical.choose h else []
variable {a:List Rat} {p x y:Re}
theorem CW (r:List Rat) (u:List (List Rat)):2^(r::u).length=2^u.length+2^u.length:=by
 rw[List.length_cons,Nat.pow_succ];omega
theorem Dl:In [] x↔∃q,x=Re.ofRat q:=by
 constructor
 ·rintro⟨a,_,rfl⟩;exact⟨_,rfl⟩
 rintro⟨q,rfl⟩;exact⟨[q],rfl,rfl⟩
theorem Cq {r:List Rat} {u:List (List Rat)}:In (r::u) x↔∃p q,In u p/\In u q/\x=p+q*rt u r:=by
 constructor
 ·rintro⟨a,ha,rfl⟩
  rw[CW] at ha;exact⟨_,_,⟨a.take (2^u.length),by rw[List.length_take];omega,rfl⟩,⟨a.drop (2^u.length),by rw[List.length_drop];omega,rfl⟩,rfl⟩
 rintro⟨p,q,⟨a,ha,rfl⟩,⟨b,hb,rfl⟩,rfl⟩
 refine⟨a++b,by rw[CW,List.length_append];omega,?_⟩;rw[Al,<-ha,List.take_left,List.drop_left];rfl
theorem Qh:∀(u:List (List Rat)) (a b:List Rat),a.length=2^u.length->b.length=2^u.length->Al u (List.zipWith (· + ·) a b)=Al u a+Al u b
 | [],a,b,ha,hb=>by
  match a,b,ha,hb with
  | [p],[q],_,_=>exact Re.ofRat_add p q
 | r::u,a,b,ha,hb=>by
  rw[CW] at ha hb;rw[Al,Al,Al,List.take_zipWith,List.drop_zipWith,Qh u _ _ (by rw[List.length_take];omega) (by rw[List.length_take];omega),Qh u _ _ (by rw[List.length_drop];omega) (by rw[List.length_drop];omega)]
  grind
theorem Qi:∀(u:List (List Rat)) (a:List Rat),a.length=2^u.length->Al u (a.map (- ·))= -Al u a
 | [],a,ha=>by
  match a,ha with
  | [p],_=>exact Re.ofRat_neg p
 | r::u,a,ha=>by
  rw[CW] at ha;rw[Al,Al,<-List.map_take,<-List.map_drop,Qi u _ (by rw[List.length_take];omega),Qi u _ (by rw[List.length_drop];omega)]
  grind
theorem OJ:∀(u:List (List Rat)) (n:Nat),Al u (List.replicate n 0)=0
 |[],0|[],n+1=>rfl
 | r::u,n=>by rw[Al,List.take_replicate,List.drop_replicate,OJ,OJ];grind
theorem He (q:Rat):∀u,In u (Re.ofRat q)
 | []=>Dl.2 ⟨q,rfl⟩
 | r::u=>Cq.2 ⟨_,_,He q u,⟨List.replicate (2^u.length) 0,List.length_replicate,OJ u _⟩,by grind⟩
theorem CZ (u:List (List Rat)):In u 0:=He 0 u
theorem Ls (u:List (List Rat)):In u 1:=He 1 u
theorem ES {u:List (List Rat)}:In u x->In u y->In u (x+y)
 |⟨a,ha,c⟩,⟨b,hb,f⟩=>⟨List.zipWith (· + ·) a b,by rw[List.length_zipWith];omega,by rw[Qh u a b ha hb,c,f]⟩
theorem Hw {u:List (List Rat)}:In u x->In u (-x)
 |⟨a,ha,c⟩=>⟨a.map (- ·),by rw[List.length_map,ha],by rw[Qi u a ha,c]⟩
theorem GM {u:List (List Rat)} (h:In u x) (k:In u y):In u (x-y):=by
 have:=ES h (Hw k);rwa [show x+ -y=x-y by grind] at this
theorem DO {u:List (List Rat)} {r:List Rat} (h:BF (r::u)):rt u r*rt u r=Al u r:=Re.Ev (by have:=h.2.2.1;grind)
theorem qx (u:List (List Rat)) (r:List Rat):0<=rt u r:=Re.Gg _
theorem CO {u:List (List Rat)} {r:List Rat} (h:BF (r::u)):In u (Al u r):=⟨r,h.2.1,rfl⟩
theorem Fh {u:List (List Rat)} {r:List Rat} (h:In u x):In (r::u) x:=Cq.2 ⟨x,0,h,CZ u,by grind⟩
theorem J7 (u:List (List Rat)) (r:List Rat):In (r::u) (rt u r):=Cq.2 ⟨0,1,CZ u,Ls u,by grind⟩
theorem BN:∀{u:List (List Rat)} {x y:Re},BF u->In u x->In u y->In u (x*y)
 | [],x,y,_,f,g=>by
  obtain⟨p,rfl⟩:=Dl.1 f;obtain⟨q,rfl⟩:=Dl.1 g;exact Dl.2 ⟨p*q,(Re.ofRat_mul p q).symm⟩
 | r::u,x,y,h,f,g=>by
  obtain⟨a,b,ha,hb,rfl⟩:=Cq.1 f;obtain⟨c,d,hc,i,rfl⟩:=Cq.1 g;have j:=DO h;refine Cq.2 ⟨a*c+b*d*Al u r,a*d+b*c,ES (BN h.1 ha hc) (BN h.1 (BN h.1 hb i) (CO h)),ES (BN h.1 ha i) (BN h.1 hb hc),?_⟩
  grind
theorem bC {u:List (List Rat)} {r:List Rat} (h:BF (r::u)) {w:Re} (hw:In u w):w*w≠Al u r:=fun e=>h.2.2.2 ⟨w,hw,e⟩
theorem Em:∀{u:List (List Rat)} {x:Re},BF u->In u x->x≠0->∃y,In u y/\x*y=1
 | [],x,_,j,f=>by
  obtain⟨p,rfl⟩:=Dl.1 j;have v:p≠0:=fun e=>f (by rw[e];rfl)
  refine⟨Re.ofRat p⁻¹,Dl.2 ⟨_,rfl⟩,?_⟩;rw[<-Re.ofRat_mul,show p*p⁻¹=1 by grind];rfl
 | r::u,x,h,j,f=>by
  obtain⟨a,b,ha,hb,rfl⟩:=Cq.1 j;have z:=DO h
  have m:a*a-b*b*Al u r≠0:=by
   intro e
   by_cases g:b=0
   ·have l:a=0:=by
     have:a*a=0:=by grind
     rcases Re.HN this with e | e <;> exact e
    exact f (by grind)
   obtain⟨c,hc,i⟩:=Em h.1 hb g
   exact bC h (BN h.1 ha hc) (by
    have e1:a*a=b*b*Al u r:=by grind
    have e2:a*c*(a*c)=(b*c)*(b*c)*Al u r:=by grind
    rw[e2,i];grind)
  obtain⟨y,k,o⟩:=Em h.1 (GM (BN h.1 ha ha) (BN h.1 (BN h.1 hb hb) (CO h))) m;refine⟨a*y+ -(b*y)*rt u r,Cq.2 ⟨_,_,BN h.1 ha k,Hw (BN h.1 hb k),rfl⟩,?_⟩
  grind
theorem indep {u:List (List Rat)} {r:List Rat} (h:BF (r::u)) {q g f:Re} (m:In u p) (o:In u q) (i:In u g) (j:In u f) (e:p+q*rt u r=g+f*rt u r):p=g/\q=f:=by
 have v:=DO h
 by_cases l:q-f=0
 ·have:q=f:=by grind
  subst this;exact⟨by grind,rfl⟩
 exfalso
 obtain⟨c,hc,k⟩:=Em h.1 (GM o j) l;refine bC h (BN h.1 (GM i m) hc) ?_;have e1:(q-f)*rt u r=g-p:=by grind
 have e2:(g-p)*c=rt u r*((q-f)*c):=by grind
 rw[e2,k];grind
theorem UC:∀{u:List (List Rat)} {a b:List Rat},BF u->a.length=2^u.length->b.length=2^u.length->Al u a=Al u b->a=b
 | [],a,b,_,ha,hb,e=>by
  match a,b,ha,hb with
  | [p],[q],_,_=>exact congrArg (fun x=>[x]) (Re.Cj.1 e)
 | r::u,a,b,h,ha,hb,e=>by
  rw[CW] at ha hb;have l1:(a.take (2^u.length)).length=2^u.length:=by rw[List.length_take];omega
  have l2:(a.drop (2^u.length)).length=2^u.length:=by rw[List.length_drop];omega
  have l3:(b.take (2^u.length)).length=2^u.length:=by rw[List.length_take];omega
  have c:(b.drop (2^u.length)).length=2^u.length:=by rw[List.length_drop];omega
  obtain⟨e1,e2⟩:=indep h ⟨_,l1,rfl⟩ ⟨_,l2,rfl⟩ ⟨_,l3,rfl⟩ ⟨_,c,rfl⟩ e;rw[<-List.take_append_drop (2^u.length) a,<-List.take_append_drop (2^u.length) b,UC h.1 l1 l3 e1,UC h.1 l2 c e2]
theorem Yo {u:List (List Rat)} (h:In u x):(co u x).length=2^u.length/\Al u (co u x)=x:=by
 unfold co;rw[dif_pos h];exact Classical.choose_spec h
theorem EF {u:List (List Rat)} (h:In u x):(co u x).length=2^u.length:=(Yo h).1
theorem FR {u:List (List Rat)} (h:In u x):Al u (co u x)=x:=(Yo h).2
theorem Lm {u:List (List Rat)} (h:BF u) (ha:a.length=2^u.length) (e:Al u a=x):co u x=a:=by
 have c:In u x:=⟨a,ha,e⟩;exact UC h (EF c) ha ((FR c).trans e.symm)
theorem lA {u:List (List Rat)} (h:BF u) (ha:a.length=2^u.length):co u (Al u a)=a:=Lm h ha rfl
theorem OC {u:List (List Rat)} (h:BF u) (c:In u x) (f:In u y):co u (x+y)=List.zipWith (· + ·) (co u x) (co u y):=
 Lm h (by rw[List.length_zipWith,EF c,EF f];omega) (by rw[Qh u _ _ (EF c) (EF f),FR c,FR f])
theorem MT {u:List (List Rat)} (h:BF u) (c:In u x):co u (-x)=(co u x).map (- ·):=
 Lm h (by rw[List.length_map,EF c]) (by rw[Qi u _ (EF c),FR c])
theorem Tg {u:List (List Rat)} (h:BF u):co u 0=List.replicate (2^u.length) 0:=Lm h List.length_replicate (OJ u _)
theorem EJ {u:List (List Rat)} {r:List Rat} {q:Re} (h:BF (r::u)) (c:In u p) (f:In u q) (g:x=p+q*rt u r):co (r::u) x=co u p++co u q:=by
 refine Lm h (by rw[List.length_append,EF c,EF f,CW]) ?_;rw[Al,<-EF c,List.take_left,List.drop_left,FR c,FR f,g];rfl
theorem Ew (q:Rat):co [] (Re.ofRat q)=[q]:=Lm (u:=[]) trivial rfl rfl
theorem JO (q:Rat):∀{u:List (List Rat)},BF u->co u (Re.ofRat q)=q::List.replicate (2^u.length-1) 0
 | [],_=>Ew q
 | r::u,h=>by
  rw[EJ h (He q u) (CZ u) (by grind),JO q h.1,Tg h.1,List.cons_append,List.replicate_append_replicate];have:1<=2^u.length:=Nat.one_le_two_pow;have:2^(r::u).length-1=2^u.length-1+2^u.length:=by rw[CW];omega
  rw[this]
theorem lC {u:List (List Rat)} {r:List Rat} {q:Re} (h:BF (r::u)) (c:In u p) (f:In u q) (g:x=p+q*rt u r):(co (r::u) x).take (2^u.length)=co u p:=by
 rw[EJ h c f g,<-EF c,List.take_left]
theorem lB {u:List (List Rat)} {r:List Rat} {q:Re} (h:BF (r::u)) (c:In u p) (f:In u q) (g:x=p+q*rt u r):(co (r::u) x).drop (2^u.length)=co u q:=by
 rw[EJ h c f g,<-EF c,List.drop_left]
theorem OD {u:List (List Rat)} (h:BF u) (f:In u x):(∀c∈co u x,c=0)↔x=0:=by
 constructor
 ·intro hc;have:co u x=List.replicate (2^u.length) 0:=List.eq_replicate_iff.2 ⟨EF f,hc⟩;rw[<-FR f,this,OJ]
 rintro rfl c hc;rw[Tg h] at hc;exact (List.mem_replicate.1 hc).2
theorem qw {u:List (List Rat)} {r:List Rat} (h:BF (r::u)):rt u r≠0:=by
 intro e;have c:=DO h;have:=h.2.2.1;rw[e] at c
 grind
theorem dQ {u:List (List Rat)} {r:List Rat} (h:BF (r::u)):0<rt u r:=by
 have:=qw h;have:=qx u r
 grind
end Go.Abs
namespace Go.Abs
def Sq (u:List (List Rat)) (x:Re):Prop:=∃w,In u w/\w*w=x
variable {a b n t w x:Re} {r:List Rat} {u:List (List Rat)}
theorem SM:(2:Re)≠0:=by
 intro h
 have c:(0:Re)<1:=by
  have:=Re.GP.2 (show (0:Rat)<1 by decide);exact this
 grind
theorem RV {y:Re} (c:x≠0) (f:y≠0):x*y≠0:=fun h=>by rcases Re.HN h with e | e;exact c e;exact f e
theorem eO (h:x*x=0):x=0:=by rcases Re.HN h with e | e <;> exact e
theorem eE (h:BF (r::u)) (ha:In u a):Sq (r::u) a↔Sq u a\/∃i,In u i/\Al u r*i=1/\Sq u (a*i):=by
 have z:=DO h
 constructor
 ·rintro⟨w,hw,e⟩
  obtain⟨c,d,hc,j,rfl⟩:=Cq.1 hw;have e2:(c*c+d*d*Al u r)+(2*c*d)*rt u r=a+0*rt u r:=by grind
  have o:In u (2*c*d):=by
   have:=ES (BN h.1 hc j) (BN h.1 hc j);rwa [show c*d+c*d=2*c*d by grind] at this
  obtain⟨v,m⟩:=indep h (ES (BN h.1 hc hc) (BN h.1 (BN h.1 j j) (CO h))) o ha (CZ u) e2
  by_cases k:d=0
  ·left;exact⟨c,hc,by grind⟩
  right
  have g:c=0:=by
   apply Classical.byContradiction;intro g;exact RV (RV SM g) k m
  obtain⟨i,l,f⟩:=Em h.1 (CO h) (by have:=h.2.2.1;grind);exact⟨i,l,f,d,j,by grind⟩
 rintro (⟨w,hw,e⟩ |⟨i,l,f,w,hw,e⟩)
 ·exact⟨w,Fh hw,e⟩
 refine⟨0+w*rt u r,Cq.2 ⟨0,w,CZ u,hw,rfl⟩,?_⟩;have:a=a*(Al u r*i):=by rw[f];grind
 grind
theorem eI (h:BF (r::u)) (ha:In u a) (hb:In u b) (hw:Sq (r::u) (a+b*rt u r)):∃c d,In u c/\In u d/\c*c+d*d*Al u r=a/\2*c*d=b:=by
 have k:=DO h;obtain⟨w,hw,e⟩:=hw;obtain⟨c,d,hc,f,rfl⟩:=Cq.1 hw;have e2:(c*c+d*d*Al u r)+(2*c*d)*rt u r=a+b*rt u r:=by grind
 have j:In u (2*c*d):=by
  have:=ES (BN h.1 hc f) (BN h.1 hc f);rwa [show c*d+c*d=2*c*d by grind] at this
 obtain⟨g,i⟩:=indep h (ES (BN h.1 hc hc) (BN h.1 (BN h.1 f f) (CO h))) j ha hb e2;exact⟨c,d,hc,f,g,i⟩
theorem eJ (h:BF (r::u)) (ha:In u a) (hb:In u b) (hw:Sq (r::u) (a+b*rt u r)):Sq u (a*a-b*b*Al u r):=by
 obtain⟨c,d,hc,f,g,i⟩:=eI h ha hb hw;exact⟨c*c-d*d*Al u r,GM (BN h.1 hc hc) (BN h.1 (BN h.1 f f) (CO h)),by grind⟩
theorem eK (h:BF (r::u)) (ha:In u a) (hb:In u b) (hw:Sq (r::u) (a+b*rt u r)) (g:n*n=a*a-b*b*Al u r) (ht:2*t=1):
  Sq u (t*(a+n))\/Sq u (t*(a-n)):=by
 obtain⟨c,d,hc,l,j,k⟩:=eI h ha hb hw;have hm:(n-(c*c-d*d*Al u r))*(n+(c*c-d*d*Al u r))=0:=by grind
 rcases Re.HN hm with e | e
 ·left
  have f:a+n=2*(c*c):=by clear g hm;grind
  have i:t*(2*(c*c))=2*t*(c*c):=by clear g hm j k f e;grind
  exact⟨c,hc,by rw[f,i,ht];grind⟩
 right
 have f:a-n=2*(c*c):=by clear g hm;grind
 have i:t*(2*(c*c))=2*t*(c*c):=by clear g hm j k f e;grind
 exact⟨c,hc,by rw[f,i,ht];grind⟩
theorem eC {c i ρ s:Re} (C:n*n=a*a-b*b*ρ) (ht:2*t=1) (D:s*s=ρ) (hw:w*w=t*(a+n)) (g:(w+w)*i=1) (k:c=w+b*i*s):c*c=a+b*s:=by
 have f:w≠0:=by intro e;subst e;grind
 have l:2*(w*w)=a+n:=by rw[hw];grind
 have m:(a+n)*(a-n)=b*b*ρ:=by grind
 have h3:2*(w*w)*(b*i*(b*i)*ρ)*2=b*b*ρ:=by
  have:2*(w*w)*(b*i*(b*i)*ρ)*2=b*b*ρ*(((w+w)*i)*((w+w)*i)):=by grind
  rw[this,g];grind
 have h:(a+n)*(2*(b*i*(b*i)*ρ)-(a-n))=0:=by grind
 have o:2*(b*i*(b*i)*ρ)-(a-n)=0:=by
  rcases Re.HN h with e | e
  ·exfalso
   have:2*(w*w)=0:=by grind
   rcases Re.HN this with e | e
   ·exact SM e
   exact f (eO e)
  exact e
 have v:2*w*(b*i)=b:=by
  have:2*w*(b*i)=b*((w+w)*i):=by grind
  rw[this,g];grind
 have z:c*c=w*w+b*i*(b*i)*ρ+2*w*(b*i)*s:=by rw[k];grind
 have j:2*(w*w+b*i*(b*i)*ρ-a)=0:=by grind
 have A:w*w+b*i*(b*i)*ρ-a=0:=by
  rcases Re.HN j with e | e
  ·exact absurd e SM
  exact e
 grind
theorem eD (h:BF (r::u)) (c:b≠0) (i:n*n=a*a-b*b*Al u r) (ht:2*t=1) (hw:w*w=t*(a+n)):w≠0:=by
 intro e;subst e;have g:a+n=0:=by grind
 have f:b*b*Al u r=0:=by grind
 have h3:=h.2.2.1;rcases Re.HN f with e | e
 ·exact c (eO e)
 grind
theorem eH {q:Rat}:Sq [] (Re.ofRat q)↔∃r:Rat,0<=r/\r*r=q:=by
 constructor
 ·rintro⟨w,hw,e⟩
  obtain⟨r,rfl⟩:=Dl.1 hw;rw[<-Re.ofRat_mul,Re.Cj] at e;rcases Rat.le_total (a:=0) (b:=r) with h | h
  ·exact⟨r,h,e⟩
  exact⟨-r,by grind,by grind⟩
 rintro⟨r,_,e⟩
 exact⟨Re.ofRat r,Dl.2 ⟨r,rfl⟩,by rw[<-Re.ofRat_mul,e]⟩
end Go.Abs
namespace Go.Abs
def DN (D:Nat) (a:List Rat):Prop:=∀q∈a,∃n:Int,q*D=n
def MX (B:Nat) (a:List Rat):Prop:=∀q∈a,-(B:Rat)<=q/\q<=B
def Bd (k:Nat) (a:List Rat):Prop:=∃D:Nat,0<D/\D<=2^k/\DN D a/\MX (2^k) a
def TB (R:Nat) (u:List (List Rat)):Prop:=∀r∈u,Bd R r
def EE:Nat->Nat->Nat
 | 0,_=>0
 | h+1,R=>2*EE h R+R+2
def II:Nat->Nat->Nat->Nat
 | 0,_,s=>2*s
 | h+1,R,s=>s+EE h R+II h R (2*s+2*EE h R+R+1)
def GG:Nat->Nat->Nat
 | 0,_=>0
 | h+1,R=>3*EE h R+R+1+2*GG h R+II h R R
theorem mc {p q:Rat} (h:∃n:Int,p=n) (k:∃n:Int,q=n):∃n:Int,p+q=n:=by
 obtain⟨a,rfl⟩:=h;obtain⟨b,rfl⟩:=k;exact⟨a+b,by rw[Rat.intCast_add]⟩
theorem Zs {p q:Rat} (h:∃n:Int,p=n) (k:∃n:Int,q=n):∃n:Int,p*q=n:=by
 obtain⟨a,rfl⟩:=h;obtain⟨b,rfl⟩:=k;exact⟨a*b,by rw[Rat.intCast_mul]⟩
theorem me (k:Nat):∃n:Int,(k:Rat)=n:=⟨k,rfl⟩
theorem Ih (a b:Nat):((a*b:Nat):Rat)=(a:Rat)*b:=Rat.natCast_mul a b
theorem DN.mul_right {D:Nat} {a:List Rat} (h:DN D a) (c:Nat):DN (D*c) a:=fun q f=>by
 have:=Zs (h q f) (me c);rwa [Rat.mul_assoc,<-Ih] at this
theorem DN.dvd {D E:Nat} {a:List Rat} (h:DN D a) (f:D∣E):DN E a:=by
 obtain⟨c,rfl⟩:=f;exact h.mul_right c
theorem fU {a b:List Rat} {q:Rat} (h:q∈List.zipWith (· + ·) a b):∃x∈a,∃y∈b,q=x+y:=by
 obtain⟨i,c⟩:=List.mem_iff_getElem?.1 h;rw[List.getElem?_zipWith] at c;cases ha:a[i]? with
 | none=>rw[ha] at c;simp at c
 | some x=>
  cases hb:b[i]? with
  | none=>rw[ha,hb] at c;simp at c
  | some y=>
   rw[ha,hb] at c;exact⟨x,List.mem_of_getElem? ha,y,List.mem_of_getElem? hb,(Option.some.inj c).symm⟩
theorem DN.add {D:Nat} {a b:List Rat} (h:DN D a) (k:DN D b):DN D (List.zipWith (· + ·) a b):=fun q c=>by
 obtain⟨x,f,y,g,rfl⟩:=fU c;have:=mc (h x f) (k y g);rwa [<-Rat.add_mul] at this
theorem DN.neg {D:Nat} {a:List Rat} (h:DN D a):DN D (a.map (- ·)):=fun q f=>by
 obtain⟨x,g,rfl⟩:=List.mem_map.1 f;obtain⟨n,c⟩:=h x g;exact⟨-n,by rw[Rat.intCast_neg,<-c,Rat.neg_mul]⟩
theorem MX.add {B C:Nat} {a b:List Rat} (h:MX B a) (k:MX C b):MX (B+C) (List.zipWith (· + ·) a b):=fun q c=>by
 obtain⟨x,f,y,g,rfl⟩:=fU c;have:=h x f;have:=k y g;rw[Rat.natCast_add]
 grind
theorem MX.neg {B:Nat} {a:List Rat} (h:MX B a):MX B (a.map (- ·)):=fun q c=>by
 obtain⟨x,f,rfl⟩:=List.mem_map.1 c;have:=h x f
 grind
theorem MX.mono {B C:Nat} {a:List Rat} (h:MX B a) (hc:B<=C):MX C a:=fun q f=>by
 have:=h q f;have c:(B:Rat)<=C:=Rat.natCast_le_natCast.2 hc
 grind
theorem DN.app {D:Nat} {a b:List Rat}:DN D (a++b)↔DN D a/\DN D b:=
 ⟨fun h=>⟨fun q c=>h q (List.mem_append_left _ c),fun q c=>h q (List.mem_append_right _ c)⟩,fun h q c=>(List.mem_append.1 c).elim (h.1 q) (h.2 q)⟩
theorem MX.app {B:Nat} {a b:List Rat}:MX B (a++b)↔MX B a/\MX B b:=
 ⟨fun h=>⟨fun q c=>h q (List.mem_append_left _ c),fun q c=>h q (List.mem_append_right _ c)⟩,fun h q c=>(List.mem_append.1 c).elim (h.1 q) (h.2 q)⟩
section
variable {u:List (List Rat)} {x y:Re}
theorem Yp (h:BF u) (f:In u x) (c:In u y):co u (x-y)=List.zipWith (· + ·) (co u x) ((co u y).map (- ·)):=by
 rw[show x-y=x+ -y by grind,OC h f (Hw c),MT h c]
theorem DN.Gu {D:Nat} (h:BF u) (c:In u x) (f:In u y) (a:DN D (co u x)) (b:DN D (co u y)):DN D (co u (x+y)):=by rw[OC h c f];exact a.add b
theorem DN.KW {D:Nat} (h:BF u) (c:In u x) (f:In u y) (a:DN D (co u x)) (b:DN D (co u y)):DN D (co u (x-y)):=by rw[Yp h c f];exact a.add b.neg
theorem MX.Gu {B C:Nat} (h:BF u) (c:In u x) (f:In u y) (a:MX B (co u x)) (b:MX C (co u y)):MX (B+C) (co u (x+y)):=by rw[OC h c f];exact a.add b
theorem MX.KW {B C:Nat} (h:BF u) (c:In u x) (f:In u y) (a:MX B (co u x)) (b:MX C (co u y)):MX (B+C) (co u (x-y)):=by rw[Yp h c f];exact a.add b.neg
end
theorem Qj:∀(u:List (List Rat)) (c:Rat) (a:List Rat),a.length=2^u.length->Al u (a.map (c* ·))=Re.ofRat c*Al u a
 | [],c,a,ha=>by
  match a,ha with
  | [p],_=>exact Re.ofRat_mul c p
 | r::u,c,a,ha=>by
  rw[CW] at ha;rw[Al,Al,<-List.map_take,<-List.map_drop,Qj u _ _ (by rw[List.length_take];omega),Qj u _ _ (by rw[List.length_drop];omega)]
  grind
theorem TZ {u:List (List Rat)} {x:Re} (h:BF u) (f:In u x) (c:Rat):co u (Re.ofRat c*x)=(co u x).map (c* ·):=
 Lm h (by rw[List.length_map,EF f]) (by rw[Qj u c _ (EF f),FR f])
theorem OM {u:List (List Rat)} {x:Re} (f:In u x) (c:Rat):In u (Re.ofRat c*x):=
 ⟨(co u x).map (c* ·),by rw[List.length_map,EF f],by rw[Qj u c _ (EF f),FR f]⟩
theorem MY {u:List (List Rat)} {x:Re} (h:BF u) (j:In u x) {D c:Nat}:DN (D*c) (co u x)↔DN D (co u (Re.ofRat c*x)):=by
 rw[TZ h j]
 constructor
 ·intro k q g;obtain⟨p,i,rfl⟩:=List.mem_map.1 g;obtain⟨n,f⟩:=k p i;exact⟨n,by rw[<-f,Ih];grind⟩
 intro k q g;obtain⟨n,f⟩:=k _ (List.mem_map.2 ⟨q,g,rfl⟩);exact⟨n,by rw[<-f,Ih];grind⟩
theorem ER (k:Nat):0<2^k:=Nat.two_pow_pos k
theorem C0 {a b:Nat} (h:a<=b:=by omega):2^a<=2^b:=Nat.pow_le_pow_right (by decide) h
theorem TB.tail {R:Nat} {r:List Rat} {u:List (List Rat)} (h:TB R (r::u)):TB R u:=fun x c=>h x (List.mem_cons_of_mem _ c)
theorem TB.head {R:Nat} {r:List Rat} {u:List (List Rat)} (h:TB R (r::u)):Bd R r:=h r List.mem_cons_self
theorem FQ {r:List Rat} {u:List (List Rat)} (h:BF (r::u)):co u (Al u r)=r:=lA h.1 h.2.1
theorem QP {r:List Rat} {u:List (List Rat)} {a b c d x y:Re} (h:BF (r::u)) (ha:In u a) (hb:In u b) (hc:In u c) (f:In u d) (g:x=a+b*rt u r) (i:y=c+d*rt u r):
  co (r::u) (x*y)=co u (a*c+b*d*Al u r)++co u (a*d+b*c):=by
 have j:=DO h;exact EJ h (ES (BN h.1 ha hc) (BN h.1 (BN h.1 hb f) (CO h))) (ES (BN h.1 ha f) (BN h.1 hb hc)) (by subst g;subst i;grind)
theorem Ln:∀{u:List (List Rat)} {R:Nat},BF u->TB R u->∃K:Nat,0<K/\K<=2^EE u.length R/\∀{x y:Re} {D j:Nat},In u x->In u y->DN D (co u x)->DN j (co u y)->DN (D*j*K) (co u (x*y))
 | [],R,_,_=>⟨1,by decide,by simp[EE],fun {x y D j} v A h k=>by
  obtain⟨p,rfl⟩:=Dl.1 v;obtain⟨q,rfl⟩:=Dl.1 A;rw[Ew] at h k;rw[<-Re.ofRat_mul,Ew];intro z J;rw[List.mem_singleton.1 J];have:=Zs (h p List.mem_cons_self) (k q List.mem_cons_self);rw[Ih,Ih];rwa [show p*(D:Rat)*(q*(j:Rat))=p*q*(D*j*(1:Nat)) by have:((1:Nat):Rat)=1:=rfl;grind] at this⟩
 | r::u,R,h,G=>by
  obtain⟨K,F,l,hm⟩:=Ln h.1 G.tail;obtain⟨E,H,o,m,_⟩:=G.head;refine⟨K*K*E,Nat.mul_pos (Nat.mul_pos F F) H,?_,fun {x y D j} v A f g=>?_⟩
  ·have C:K*K*E<=2^EE u.length R*2^EE u.length R*2^R:=Nat.mul_le_mul (Nat.mul_le_mul l l) o;rw[<-Nat.pow_add,<-Nat.pow_add] at C;exact Nat.le_trans C (C0 (by rw[List.length_cons,EE];omega))
  obtain⟨a,b,ha,hb,rfl⟩:=Cq.1 v;obtain⟨c,d,hc,i,rfl⟩:=Cq.1 A;rw[EJ h ha hb rfl,DN.app] at f;rw[EJ h hc i rfl,DN.app] at g;rw[QP h ha hb hc i rfl rfl,DN.app];have I:DN E (co u (Al u r)):=by rw[FQ h];exact m
  refine⟨DN.Gu h.1 (BN h.1 ha hc) (BN h.1 (BN h.1 hb i) (CO h)) ((hm ha hc f.1 g.1).dvd ⟨K*E,by grind⟩) ((hm (BN h.1 hb i) (CO h) (hm hb i f.2 g.2) I).dvd ⟨1,by grind⟩),
   DN.Gu h.1 (BN h.1 ha i) (BN h.1 hb hc) ((hm ha i f.1 g.2).dvd ⟨K*E,by grind⟩) ((hm hb hc f.2 g.1).dvd ⟨K*E,by grind⟩)⟩
theorem Uw {p q:Rat} {B C:Nat} (h: -(B:Rat)<=p/\p<=B) (k: -(C:Rat)<=q/\q<=C): -((B*C:Nat):Rat)<=p*q/\p*q<=((B*C:Nat):Rat):=by
 rw[Ih];exact⟨od h.2 h.1 k.2 k.1,Mx h.2 h.1 k.2 k.1⟩
theorem JZ:∀{u:List (List Rat)} {R:Nat},BF u->TB R u->∀{x y:Re} {B C:Nat},In u x->In u y->MX B (co u x)->MX C (co u y)->MX (B*C*2^EE u.length R) (co u (x*y))
 | [],R,_,_,x,y,B,C,m,o,h,k=>by
  obtain⟨p,rfl⟩:=Dl.1 m;obtain⟨q,rfl⟩:=Dl.1 o;rw[Ew] at h k;rw[<-Re.ofRat_mul,Ew];intro z H;rw[List.mem_singleton.1 H];have:=Uw (h p List.mem_cons_self) (k q List.mem_cons_self);rwa [show B*C*2^EE ([]:List (List Rat)).length R=B*C by simp[EE]]
 | r::u,R,h,v,x,y,B,C,m,o,f,g=>by
  obtain⟨E,I,F,_,l⟩:=v.head;have j:=fun {x y:Re} {B C:Nat}=>JZ (R:=R) (x:=x) (y:=y) (B:=B) (C:=C) h.1 v.tail
  obtain⟨a,b,ha,hb,rfl⟩:=Cq.1 m;obtain⟨c,d,hc,i,rfl⟩:=Cq.1 o;rw[EJ h ha hb rfl,MX.app] at f;rw[EJ h hc i rfl,MX.app] at g;rw[QP h ha hb hc i rfl rfl,MX.app];have G:MX (2^R) (co u (Al u r)):=by rw[FQ h];exact l
  have e:EE (r::u).length R=EE u.length R+EE u.length R+R+2:=by rw[List.length_cons,EE];omega
  rw[e,Nat.pow_add,Nat.pow_add,Nat.pow_add];have A:=ER (EE u.length R);have D:=ER R
  generalize 2^EE u.length R=K at*
  generalize 2^R=S at*
  have k1:B*C*K<=B*C*(K*K*S):=Nat.mul_le_mul_left _ (by
   have:K*1<=K*(K*S):=Nat.mul_le_mul_left _ (Nat.mul_pos A D);rw[Nat.mul_assoc];omega)
  have k2:B*C*K*S*K=B*C*(K*K*S):=by grind
  refine⟨(MX.Gu h.1 (BN h.1 ha hc) (BN h.1 (BN h.1 hb i) (CO h)) (j ha hc f.1 g.1) (j (BN h.1 hb i) (CO h) (j hb i f.2 g.2) G)).mono ?_,
   (MX.Gu h.1 (BN h.1 ha i) (BN h.1 hb hc) (j ha i f.1 g.2) (j hb hc f.2 g.1)).mono ?_⟩
  ·rw[k2];grind
  grind
end Go.Abs
namespace Go.Abs
variable {R s t:Nat} {p q x y:Re} {r:List Rat} {u:List (List Rat)}
theorem Bd.mono {k l:Nat} {a:List Rat} (h:Bd k a) (c:k<=l):Bd l a:=by
 obtain⟨D,f,g,i,h3⟩:=h;exact⟨D,f,Nat.le_trans g (C0 c),i,h3.mono (C0 c)⟩
theorem YF (h:BF u) (c:In u x) (f:In u y) (a:Bd s (co u x)) (b:Bd t (co u y)):Bd (s+t+1) (co u (x+y)):=by
 obtain⟨D,g,i,j,h3⟩:=a;obtain⟨E,k0,k1,k2,k⟩:=b;refine⟨D*E,Nat.mul_pos g k0,?_,DN.Gu h c f (j.dvd ⟨E,rfl⟩) (k2.dvd ⟨D,Nat.mul_comm _ _⟩),(MX.Gu h c f h3 k).mono ?_⟩
 ·have:=Nat.mul_le_mul i k1;rw[<-Nat.pow_add] at this;exact Nat.le_trans this (C0)
 have l:2^s<=2^(s+t):=C0;have m:2^t<=2^(s+t):=C0;rw[Nat.pow_succ];omega
theorem YI (h:BF u) (i:In u x) (a:Bd s (co u x)):Bd s (co u (-x)):=by
 obtain⟨D,c,f,g,h3⟩:=a;rw[MT h i];exact⟨D,c,f,g.neg,h3.neg⟩
theorem kI (h:BF u) (f:In u x) (c:In u y) (a:Bd s (co u x)) (b:Bd t (co u y)):Bd (s+t+1) (co u (x-y)):=by
 rw[show x-y=x+ -y by grind];exact YF h f (Hw c) a (YI h c b)
theorem kF (h:BF u) (f:TB R u) (g:In u x) (i:In u y) (a:Bd s (co u x)) (b:Bd t (co u y)):Bd (s+t+EE u.length R) (co u (x*y)):=by
 obtain⟨D,j,k,l,h3⟩:=a;obtain⟨E,k0,k1,k2,o⟩:=b;obtain⟨K,m,c,hm⟩:=Ln h f;refine⟨D*E*K,Nat.mul_pos (Nat.mul_pos j k0) m,?_,hm g i l k2,(JZ h f g i h3 o).mono ?_⟩
 ·have:=Nat.mul_le_mul (Nat.mul_le_mul k k1) c;rwa [<-Nat.pow_add,<-Nat.pow_add] at this
 rw[<-Nat.pow_add,<-Nat.pow_add];exact Nat.le_refl _
theorem kG {q:Rat} (h:BF u) (a:Bd s [q]):Bd s (co u (Re.ofRat q)):=by
 obtain⟨D,f,g,i,h3⟩:=a;rw[JO q h];refine⟨D,f,g,fun z c=>?_,fun z c=>?_⟩
 ·rcases List.mem_cons.1 c with rfl | c
  ·exact i z List.mem_cons_self
  rw[(List.mem_replicate.1 c).2];exact⟨0,by rw[Rat.zero_mul];rfl⟩
 rcases List.mem_cons.1 c with rfl | c
 ·exact h3 z List.mem_cons_self
 rw[(List.mem_replicate.1 c).2];have:(0:Rat)<=((2^s:Nat):Rat):=Rat.natCast_nonneg
 grind
theorem YH (h:BF (r::u)) (i:In u p) (j:In u q) (a:Bd s (co (r::u) (p+q*rt u r))):Bd s (co u p)/\Bd s (co u q):=by
 obtain⟨D,f,g,c,h3⟩:=a;rw[EJ h i j rfl] at c h3;exact⟨⟨D,f,g,(DN.app.1 c).1,(MX.app.1 h3).1⟩,⟨D,f,g,(DN.app.1 c).2,(MX.app.1 h3).2⟩⟩
theorem J3 (h:BF (r::u)) (i:In u p) (j:In u q) (a:Bd s (co u p)) (b:Bd t (co u q)):Bd (s+t) (co (r::u) (p+q*rt u r)):=by
 obtain⟨D,c,f,g,h3⟩:=a;obtain⟨E,k0,k1,k2,k⟩:=b;rw[EJ h i j rfl];refine⟨D*E,Nat.mul_pos c k0,?_,DN.app.2 ⟨g.dvd ⟨E,rfl⟩,k2.dvd ⟨D,Nat.mul_comm _ _⟩⟩,MX.app.2 ⟨h3.mono (C0),k.mono (C0)⟩⟩;have:=Nat.mul_le_mul f k1;rwa [<-Nat.pow_add] at this
theorem TF (h:BF (r::u)) (c:TB R (r::u)):Bd R (co u (Al u r)):=by rw[FQ h];exact c.head
theorem YJ (h:BF (r::u)) (i:TB R (r::u)) (f:In u p) (c:In u q) (a:Bd s (co (r::u) (p+q*rt u r))):
  Bd (2*s+2*EE u.length R+R+1) (co u (p*p-q*q*Al u r)):=by
 obtain⟨D,m,o,v,h3⟩:=a;rw[EJ h f c rfl] at v h3;obtain⟨k,l⟩:=DN.app.1 v;obtain⟨mp,A⟩:=MX.app.1 h3;obtain⟨K,z,g,hm⟩:=Ln h.1 i.tail;obtain⟨E,k0,k1,k2,F⟩:=i.head;have C:DN E (co u (Al u r)):=by rw[FQ h];exact k2
 have j:MX (2^R) (co u (Al u r)):=by rw[FQ h];exact F
 refine⟨D*D*K*E*K,Nat.mul_pos (Nat.mul_pos (Nat.mul_pos (Nat.mul_pos m m) z) k0) z,?_,DN.KW h.1 (BN h.1 f f) (BN h.1 (BN h.1 c c) (CO h)) ((hm f f k k).dvd ⟨E*K,by grind⟩) (hm (BN h.1 c c) (CO h) (hm c c l l) C),
  (MX.KW h.1 (BN h.1 f f) (BN h.1 (BN h.1 c c) (CO h)) (JZ h.1 i.tail f f mp mp) (JZ h.1 i.tail (BN h.1 c c) (CO h) (JZ h.1 i.tail c c A A) j)).mono ?_⟩
 ·have:=Nat.mul_le_mul (Nat.mul_le_mul (Nat.mul_le_mul (Nat.mul_le_mul o o) g) k1) g;rw[<-Nat.pow_add,<-Nat.pow_add,<-Nat.pow_add,<-Nat.pow_add] at this;exact Nat.le_trans this (C0)
 rw[<-Nat.pow_add,<-Nat.pow_add,<-Nat.pow_add,<-Nat.pow_add,Nat.pow_succ];have e1:2^(s+s+EE u.length R)<=2^(2*s+2*EE u.length R+R):=C0;have e2:2^(s+s+EE u.length R+R+EE u.length R)<=2^(2*s+2*EE u.length R+R):=C0;omega
theorem aw {a b:Nat} (h:a<=b):(a:Rat)<=b:=Rat.natCast_le_natCast.2 h
theorem kE {q p:Rat} (h:Bd s [q]) (F:q*p=1):Bd (2*s) [p]:=by
 obtain⟨D,k,l,o,h3⟩:=h;obtain⟨n,g⟩:=o q List.mem_cons_self;have hb:=h3 q List.mem_cons_self;have J:(0:Rat)<D:=Rat.natCast_pos.2 k
 have v:n≠0:=by
  intro e;subst e;have:(D:Rat)=q*D*p:=by grind
  rw[g] at this;have k:((0:Int):Rat)=0:=rfl
  grind
 have f:p*(n:Rat)=D:=by rw[<-g];grind
 have c:(n.natAbs:Rat)=n\/(n.natAbs:Rat)= -n:=by
  rcases Int.natAbs_eq n with e | e
  ·left
   have:((n.natAbs:Int):Rat)=(n:Rat):=congrArg _ e.symm;exact this
  right
  have:((n.natAbs:Int):Rat)=((-n:Int):Rat):=congrArg _ (by omega);rw[Rat.intCast_neg] at this;exact this
 have A:(1:Rat)<=n.natAbs:=by
  have:1<=n.natAbs:=by omega
  exact aw this
 have i:n.natAbs<=D*2^s:=by
  have e1:=Uw (C:=D) hb (q:=(D:Rat)) ⟨by grind,by grind⟩;rw[g,Nat.mul_comm] at e1;apply Rat.natCast_le_natCast.1;rcases c with e | e <;> rw[e] <;> grind
 refine⟨n.natAbs,by omega,?_,fun z j=>?_,fun z j=>?_⟩
 ·have:=Nat.mul_le_mul_right (2^s) l;rw[<-Nat.pow_add] at this;exact Nat.le_trans i (Nat.le_trans this (C0))
 ·rw[List.mem_singleton.1 j];rcases c with e | e <;> rw[e]
  ·exact⟨D,f⟩
  exact⟨-D,by rw[Rat.intCast_neg,Rat.mul_neg,f];rfl⟩
 rw[List.mem_singleton.1 j];have G:(D:Rat)<=((2^(2*s):Nat):Rat):=aw (Nat.le_trans l (C0));have H:p=D\/True:= .inr trivial;have I:p*(n.natAbs:Rat)=D\/p*(n.natAbs:Rat)= -D:=by rcases c with e | e <;> rw[e] <;> grind
 generalize (n.natAbs:Rat)=m at*
 generalize ((2^(2*s):Nat):Rat)=S at*
 have K:p<=D:=by
  apply Classical.byContradiction;intro hc;have:=Rat.mul_pos (a:=p-D) (b:=m) (by grind) (by grind);have:=Rat.mul_nonneg (a:=(D:Rat)) (b:=m-1) (by grind) (by grind)
  grind
 have L: -D<=p:=by
  apply Classical.byContradiction;intro hc;have:=Rat.mul_pos (a:= -D-p) (b:=m) (by grind) (by grind);have:=Rat.mul_nonneg (a:=(D:Rat)) (b:=m-1) (by grind) (by grind)
  grind
 grind
theorem HJ:∀{u:List (List Rat)} {R:Nat} {x y:Re} {s:Nat},BF u->TB R u->In u x->In u y->x*y=1->Bd s (co u x)->Bd (II u.length R s) (co u y)
 | [],R,x,y,s,_,_,A,C,e,h=>by
  obtain⟨p,rfl⟩:=Dl.1 A;obtain⟨q,rfl⟩:=Dl.1 C;rw[Ew] at h ⊢;rw[<-Re.ofRat_mul] at e;exact kE h (Re.Cj.1 e)
 | r::u,R,x,y,s,h,k,A,C,e,hb=>by
  obtain⟨a,b,ha,c,rfl⟩:=Cq.1 A;have O:=DO h;have J:=YJ h k ha c hb;have f:=GM (BN h.1 ha ha) (BN h.1 (BN h.1 c c) (CO h))
  have v:a*a-b*b*Al u r≠0:=by
   intro L;have e1:(a+b*rt u r)*(a-b*rt u r)=0:=by grind
   rcases Re.HN e1 with e2 | e2
   ·rw[e2] at e;have l:(0:Re)<1:=Re.GP.2 (show (0:Rat)<1 by decide)
    grind
   obtain⟨M,N⟩:=indep h ha (Hw c) (CZ u) (CZ u) (show a+ -b*rt u r=0+0*rt u r by grind);have:a+b*rt u r=0:=by grind
   rw[this] at e;have l:(0:Re)<1:=Re.GP.2 (show (0:Rat)<1 by decide)
   grind
  obtain⟨i,g,j⟩:=Em h.1 f v;have z:=HJ h.1 k.tail f g j J
  have G:y=a*i+ -(b*i)*rt u r:=by
   have:y=(a+b*rt u r)*y*((a-b*rt u r)*i):=by
    have:(a+b*rt u r)*y*((a-b*rt u r)*i)=y*((a*a-b*b*Al u r)*i):=by grind
    rw[this,j];grind
   rw[e] at this
   grind
  obtain⟨D,H,l,m,h3⟩:=hb;rw[EJ h ha c rfl] at m h3;obtain⟨E,k0,k1,k2,F⟩:=z;obtain⟨K,I,o,hm⟩:=Ln h.1 k.tail;rw[G,EJ h (BN h.1 ha g) (Hw (BN h.1 c g)) rfl,MT h.1 (BN h.1 c g),List.length_cons,II];have m1:=JZ h.1 k.tail ha g (MX.app.1 h3).1 F;have m2:=JZ h.1 k.tail c g (MX.app.1 h3).2 F;rw[<-Nat.pow_add,<-Nat.pow_add] at m1 m2;refine⟨D*E*K,Nat.mul_pos (Nat.mul_pos H k0) I,?_,DN.app.2 ⟨hm ha g (DN.app.1 m).1 k2,(hm c g (DN.app.1 m).2 k2).neg⟩,MX.app.2 ⟨m1.mono (C0),(m2.mono (C0)).neg⟩⟩;have:=Nat.mul_le_mul (Nat.mul_le_mul l k1) o;rw[<-Nat.pow_add,<-Nat.pow_add] at this;exact Nat.le_trans this (C0)
end Go.Abs
