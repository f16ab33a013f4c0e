/- Part 14 of a proof. Conditions: each theorem's own. -/
import Derived.Test.YtfilemenbchajaaGreatPk12
set_option linter.all false
set_option maxHeartbeats 8000000
set_option maxRecDepth 20000
namespace Go.Abs
variable {B d:Rat}
theorem dj (e:Rat):e=e.num/e.den:=by
 have h:=Rat.mkRat_self e;rw[Rat.mkRat_eq_div] at h;exact h.symm
theorem JD (e:Rat):e*e.den=e.num:=by
 have h:(e.den:Rat)≠0:=by
  intro h;exact e.den_nz (Rat.natCast_eq_zero_iff.1 h)
 have:=dj e
 grind
theorem dk {e:Rat} (h:0<e):0<e.num:=by
 have:=(Rat.lt_iff 0 e).1 h;simpa using this
theorem I7 {a e:Rat} (c:a<=B) (f: -B<=a) (h3:d<=e) (g: -e<=d):a*d<=B*e:=by
 have p:=Rat.mul_nonneg (a:=B-a) (b:=e+d) (by grind) (by grind);have q:=Rat.mul_nonneg (a:=B+a) (b:=e-d) (by grind) (by grind)
 grind
theorem bu {a e:Rat} (f:a<=B) (g: -B<=a) (h3:d<=e) (c: -e<=d): -(B*e)<=a*d:=by
 have:=I7 (a:= -a) (d:=d) (B:=B) (e:=e) (by grind) (by grind) h3 c
 grind
structure CS where
 f:Nat->Rat
 F7:∀e:Rat,0<e->∃N,∀n m,N<=n->N<=m->f n-f m<e
namespace CS
def eqv (a b:CS):Prop:=∀e:Rat,0<e->∃N,∀n,N<=n->a.f n-b.f n<e/\b.f n-a.f n<e
theorem Zq (a:CS):eqv a a:=fun e he=>⟨0,fun n _=>by grind⟩
theorem Sl {a b:CS} (h:eqv a b):eqv b a:=fun e he=>by
 obtain⟨N,c⟩:=h e he;exact⟨N,fun n f=>⟨(c n f).2,(c n f).1⟩⟩
theorem Zr {a b c:CS} (h:eqv a b) (k:eqv b c):eqv a c:=fun e he=>by
 obtain⟨N,g⟩:=h (e/2) (by grind);obtain⟨M,f⟩:=k (e/2) (by grind);refine⟨max N M,fun n i=>?_⟩;have:=g n (by omega);have:=f n (by omega)
 grind
instance st:Setoid CS:=⟨eqv,Zq,Sl,Zr⟩
theorem Zp {a b:CS} (h:∀n,a.f n=b.f n):a ≈ b:=fun e he=>⟨0,fun n _=>by have:=h n;grind⟩
theorem Jm (a:CS):∃B:Rat,0<B/\∃N,∀n,N<=n->a.f n<=B/\ -B<=a.f n:=by
 obtain⟨N,c⟩:=a.F7 1 (by decide)
 have i:0<=max (a.f N) (-(a.f N)):=by
  rcases Rat.le_total (a:=a.f N) (b:= -(a.f N)) with h | h
  ·rw[Rat.max_def,if_pos h];grind
  by_cases h':a.f N<= -(a.f N)
  ·rw[Rat.max_def,if_pos h'];grind
  rw[Rat.max_def,if_neg h'];grind
 have j:a.f N<=max (a.f N) (-(a.f N)):=by rw[Rat.max_def];split <;> grind
 have k: -(a.f N)<=max (a.f N) (-(a.f N)):=by rw[Rat.max_def];split <;> grind
 refine⟨max (a.f N) (-(a.f N))+1,by grind,N,fun n g=>?_⟩;have:=c n N g (Nat.le_refl _);have:=c N n (Nat.le_refl _) g
 grind
def const (q:Rat):CS:=⟨fun _=>q,fun e he=>⟨0,fun n m _ _=>by grind⟩⟩
def add (a b:CS):CS:=⟨fun n=>a.f n+b.f n,fun e he=>by
 obtain⟨N,hN⟩:=a.F7 (e/2) (by grind);obtain⟨M,hM⟩:=b.F7 (e/2) (by grind);refine⟨max N M,fun n m hn hm=>?_⟩;have:=hN n m (by omega) (by omega);have:=hM n m (by omega) (by omega)
 grind⟩
def neg (a:CS):CS:=⟨fun n=> -a.f n,fun e he=>by
 obtain⟨N,hN⟩:=a.F7 e he;refine⟨N,fun n m hn hm=>?_⟩;have:=hN m n hm hn
 grind⟩
theorem Tm {x y u v A e:Rat} (o:0<A) (s:0<B) (he:0<e) (h:x<=A) (f: -A<=x) (g:v<=B) (c: -B<=v)
  (k:x-u<e/(2*B)) (l:u-x<e/(2*B)) (h3:y-v<e/(2*A)) (m:v-y<e/(2*A)):x*y-u*v<=e:=by
 have p:=I7 (a:=x) (d:=y-v) (B:=A) (e:=e/(2*A)) h f (by grind) (by grind);have q:=I7 (a:=v) (d:=x-u) (B:=B) (e:=e/(2*B)) g c (by grind) (by grind);have i:A*(e/(2*A))=e/2:=by grind
 have j:B*(e/(2*B))=e/2:=by grind
 grind
def mul (a b:CS):CS:=⟨fun n=>a.f n*b.f n,fun e he=>by
 obtain⟨A,hA,N,hN⟩:=a.Jm;obtain⟨B,hB,M,hM⟩:=b.Jm;have p1:0<(e/2)/(2*B):=by rw[Rat.div_def];exact Rat.mul_pos (by grind) (Rat.inv_pos.2 (by grind))
 have p2:0<(e/2)/(2*A):=by rw[Rat.div_def];exact Rat.mul_pos (by grind) (Rat.inv_pos.2 (by grind))
 obtain⟨P,hP⟩:=a.F7 _ p1;obtain⟨Q,hQ⟩:=b.F7 _ p2;refine⟨max (max N M) (max P Q),fun n m hn hm=>?_⟩;have hn1:=hN n (by omega);have hm1:=hM m (by omega);have:=Tm (e:=e/2) hA hB (by grind) hn1.1 hn1.2 hm1.1 hm1.2 (hP n m (by omega) (by omega)) (hP m n (by omega) (by omega)) (hQ n m (by omega) (by omega)) (hQ m n (by omega) (by omega))
 grind⟩
theorem add_congr {a b c d:CS} (h:a ≈ c) (k:b ≈ d):add a b ≈ add c d:=fun e he=>by
 obtain⟨N,i⟩:=h (e/2) (by grind);obtain⟨M,g⟩:=k (e/2) (by grind);refine⟨max N M,fun n j=>?_⟩;have:=i n (by omega);have:=g n (by omega)
 show a.f n+b.f n-(c.f n+d.f n)<e/\c.f n+d.f n-(a.f n+b.f n)<e
 grind
theorem neg_congr {a c:CS} (h:a ≈ c):neg a ≈ neg c:=fun e he=>by
 obtain⟨N,g⟩:=h e he;refine⟨N,fun n i=>?_⟩;have:=g n i
 show -a.f n- -c.f n<e/\ -c.f n- -a.f n<e
 grind
theorem mul_congr {a b c d:CS} (h:a ≈ c) (k:b ≈ d):mul a b ≈ mul c d:=fun e he=>by
 obtain⟨A,m,N,v⟩:=a.Jm;obtain⟨B,o,M,s⟩:=d.Jm;have D:0<(e/2)/(2*B):=by rw[Rat.div_def];exact Rat.mul_pos (by grind) (Rat.inv_pos.2 (by grind))
 have F:0<(e/2)/(2*A):=by rw[Rat.div_def];exact Rat.mul_pos (by grind) (Rat.inv_pos.2 (by grind))
 obtain⟨P,z⟩:=h _ D;obtain⟨Q,C⟩:=k _ F;refine⟨max (max N M) (max P Q),fun n I=>?_⟩;have i:=v n (by omega);have g:=s n (by omega);have j:=z n (by omega);have l:=C n (by omega);have t1:=Tm (e:=e/2) m o (by grind) i.1 i.2 g.1 g.2 j.1 j.2 l.1 l.2;have p:=I7 (a:=a.f n) (d:=d.f n-b.f n) (B:=A) (e:=(e/2)/(2*A)) i.1 i.2 (by grind) (by grind);have q:=I7 (a:=d.f n) (d:=c.f n-a.f n) (B:=B) (e:=(e/2)/(2*B)) g.1 g.2 (by grind) (by grind);have G:A*((e/2)/(2*A))=e/4:=by grind
 have H:B*((e/2)/(2*B))=e/4:=by grind
 show a.f n*b.f n-c.f n*d.f n<e/\c.f n*d.f n-a.f n*b.f n<e
 grind
def pos (a:CS):Prop:=∃e:Rat,0<e/\∃N,∀n,N<=n->e<a.f n
theorem Ue {a b:CS} (h:a ≈ b) (k:pos a):pos b:=by
 obtain⟨e,he,N,f⟩:=k;obtain⟨M,c⟩:=h (e/2) (by grind);refine⟨e/2,by grind,max N M,fun n g=>?_⟩;have:=f n (by omega);have:=c n (by omega)
 grind
theorem cz {a b:CS} (h:a ≈ b):pos a=pos b:=propext ⟨Ue h,Ue (Sl h)⟩
theorem tri (a:CS):a ≈ const 0\/pos a\/pos (neg a):=by
 apply Classical.byContradiction;intro h;apply h;refine .inl fun e he=>?_
 obtain⟨N,c⟩:=a.F7 (e/2) (by grind);refine⟨N,fun n g=>?_⟩
 show a.f n-0<e/\0-a.f n<e
 constructor
 ·apply Classical.byContradiction;intro i;refine h (.inr (.inl ⟨e/4,by grind,N,fun m hm=>?_⟩));have:=c n m g hm
  grind
 apply Classical.byContradiction;intro i;refine h (.inr (.inr ⟨e/4,by grind,N,fun m hm=>?_⟩));have:=c m n hm g
 show e/4< -a.f m
 grind
theorem ae {x y c e:Rat} (j:0<c) (k:c<x) (l:c<y) (he:0<e) (h:x-y<e*(c*c)):y⁻¹-x⁻¹<e:=by
 have f:0<x*y:=Rat.mul_pos (by grind) (by grind);have g:y⁻¹-x⁻¹=(x-y)*(x*y)⁻¹:=by grind
 have i:e=e*(x*y)*(x*y)⁻¹:=by grind
 have p:=Rat.mul_nonneg (a:=x-c) (b:=y) (by grind) (by grind);have m:=Rat.mul_nonneg (a:=c) (b:=y-c) (by grind) (by grind);have q:=Rat.mul_nonneg (a:=e) (b:=x*y-c*c) (by grind) (by grind);have r:=Rat.mul_pos (a:=e*(x*y)-(x-y)) (b:=(x*y)⁻¹) (by grind) (Rat.inv_pos.2 f)
 grind
theorem J5 {a:CS} (h:pos a):∃b:CS,mul a b ≈ const 1:=by
 obtain⟨c,i,N,g⟩:=h;refine⟨⟨fun n=>(a.f (max N n))⁻¹,fun e he=>?_⟩,?_⟩
 ·have j:0<c*c:=Rat.mul_pos i i;obtain⟨M,l⟩:=a.F7 (e*(c*c)) (Rat.mul_pos he j);refine⟨M,fun n m k hm=>?_⟩;exact ae i (g _ (by omega)) (g _ (by omega)) he (l _ _ (by omega) (by omega))
 intro e he;refine⟨N,fun n k=>?_⟩;have:=g n k;have o:a.f n*(a.f (max N n))⁻¹=1:=by rw[Nat.max_eq_right k];grind
 show a.f n*(a.f (max N n))⁻¹-1<e/\1-a.f n*(a.f (max N n))⁻¹<e
 grind
theorem mul_pos {a b:CS} (h:pos a) (k:pos b):pos (mul a b):=by
 obtain⟨c,l,N,j⟩:=h;obtain⟨d,g,M,i⟩:=k;refine⟨c*d,Rat.mul_pos l g,max N M,fun n s=>?_⟩;have m:=j n (by omega);have o:=i n (by omega);have p:=Rat.mul_pos (a:=a.f n-c) (b:=d) (by grind) g;have q:=Rat.mul_pos (a:=a.f n) (b:=b.f n-d) (by grind) (by grind)
 show c*d<a.f n*b.f n
 grind
theorem add_pos {a b:CS} (h:pos a) (k:pos b):pos (add a b):=by
 obtain⟨c,m,N,i⟩:=h;obtain⟨d,o,M,g⟩:=k;refine⟨c+d,by grind,max N M,fun n q=>?_⟩;have j:=i n (by omega);have l:=g n (by omega)
 show c+d<a.f n+b.f n
 grind
theorem cR {a:CS} (h:pos a):¬pos (neg a):=by
 rintro⟨d,m,M,g⟩
 obtain⟨c,l,N,i⟩:=h;have j:=i (max N M) (by omega);have k:d< -a.f (max N M):=g (max N M) (by omega)
 grind
theorem cS:¬pos (const 0):=by
 rintro⟨d,g,M,c⟩
 have f:d<0:=c M (by omega)
 grind
theorem JB (k:Nat):(0:Rat)<2^k:=Rat.pow_pos (by decide)
theorem JA (k:Nat):(0:Rat)<(2^k)⁻¹:=Rat.inv_pos.2 (JB k)
theorem cE (k:Nat):(k:Rat)<2^k:=by
 have:=Nat.lt_two_pow_self (n:=k);have h:((k:Nat):Rat)<((2^k:Nat):Rat):=Rat.natCast_lt_natCast.2 this;simpa using h
theorem small (e:Rat) (he:0<e):∃N:Nat,∀n:Nat,N<=n->((2:Rat)^n)⁻¹<e:=by
 refine⟨e.den,fun n i=>?_⟩;have j:=cE n;have k:(e.den:Rat)<=(n:Rat):=Rat.natCast_le_natCast.2 i
 have h3:1<=e*e.den:=by
  have:e*e.den=e.num:=JD e;rw[this];have g:0<e.num:=dk he;have f:((1:Int):Rat)<=e.num:=Rat.intCast_le_intCast.2 g;exact f
 have f:=JB n;have g:=Rat.mul_lt_mul_of_pos_left (a:=(e.den:Rat)) (b:=2^n) (c:=e) (by grind) he;have l:((2:Rat)^n)⁻¹*2^n=1:=by grind
 have h:=JA n;have m:=Rat.mul_pos (a:=e*2^n-1) (b:=(2^n)⁻¹) (by grind) h;have o:(e*2^n-1)*((2:Rat)^n)⁻¹=e-((2:Rat)^n)⁻¹:=by grind
 grind
def DZ (q:Rat) (k:Nat):Rat:=(BN (q*(2^k*2^k)).floor.toNat:Rat)*(2^k)⁻¹
theorem PX (q:Rat) (k:Nat):0<=DZ q k:=
 Rat.mul_nonneg (by exact Rat.natCast_nonneg) (Rat.le_of_lt (JA k))
theorem VD {q:Rat} (k:Nat) (h:q<=0):DZ q k=0:=by
 have c:q*(2^k*2^k)<=0:=by
  have:=Rat.mul_nonneg (a:= -q) (b:=2^k*2^k) (by grind) (Rat.le_of_lt (Rat.mul_pos (JB k) (JB k)))
  generalize (2:Rat)^k=x at*
  grind
 have f:(q*(2^k*2^k)).floor<=0:=by
  have:=Rat.floor_le (q*(2^k*2^k));have h3:((q*(2^k*2^k)).floor:Rat)<=((0:Int):Rat):=Rat.le_trans this c;exact Rat.intCast_le_intCast.1 h3
 rw[DZ,Int.toNat_of_nonpos f];have:BN 0=0:=rfl;rw[this];simp
theorem VC {q:Rat} (k:Nat) (h:0<=q):DZ q k*DZ q k<=q:=by
 have l:=JB k;have j:=JA k;have c:0<=q*(2^k*2^k):=Rat.mul_nonneg h (Rat.le_of_lt (Rat.mul_pos l l));have m:=Rat.floor_le (q*(2^k*2^k));have h3:0<=(q*(2^k*2^k)).floor:=Rat.le_floor_iff.2 (by simpa using c);have f:=J6 (q*(2^k*2^k)).floor.toNat;rw[DZ]
 generalize s:BN (q*(2^k*2^k)).floor.toNat=r at*
 have g:((r*r:Nat):Rat)<=((q*(2^k*2^k)).floor.toNat:Rat):=Rat.natCast_le_natCast.2 f
 have i:((q*(2^k*2^k)).floor.toNat:Rat)=((q*(2^k*2^k)).floor:Rat):=by
  have:=Int.toNat_of_nonneg h3;have o:(((q*(2^k*2^k)).floor.toNat:Int):Rat)=((q*(2^k*2^k)).floor:Rat):=by rw[this]
  exact o
 rw[i] at g
 have z:(r:Rat)*r<=q*(2^k*2^k):=by
  have:((r*r:Nat):Rat)=(r:Rat)*r:=by simp
  grind
 have A:=Rat.mul_nonneg (a:=q*(2^k*2^k)-(r:Rat)*r) (b:=(2^k)⁻¹*(2^k)⁻¹) (by grind) (Rat.le_of_lt (Rat.mul_pos j j));have e:(2:Rat)^k*(2^k)⁻¹=1:=by grind
 clear c m h3 f g i s
 generalize ((2:Rat)^k)⁻¹=y at*
 generalize (2:Rat)^k=x at*
 have v:(q*(x*x)-(r:Rat)*r)*(y*y)=q-r*y*(r*y):=by grind
 grind
theorem TZ (q:Rat) (k:Nat):q<(DZ q k+(2^k)⁻¹)*(DZ q k+(2^k)⁻¹):=by
 have s:=JB k;have g:=JA k;have f:=MC (q*(2^k*2^k)).floor.toNat;rw[DZ]
 generalize l:BN (q*(2^k*2^k)).floor.toNat=r at*
 have h:q*(2^k*2^k)<(q*(2^k*2^k)).floor+1:=by
  have:=Rat.lt_floor_add_one (q*(2^k*2^k));rwa [Rat.intCast_add] at this
 have h3:(q*(2^k*2^k)).floor<=((q*(2^k*2^k)).floor.toNat:Int):=Int.self_le_toNat _
 have c:((q*(2^k*2^k)).floor:Rat)<=((q*(2^k*2^k)).floor.toNat:Rat):=by
  exact Rat.intCast_le_intCast.2 h3
 have i:((q*(2^k*2^k)).floor.toNat:Rat)+1<=((r:Rat)+1)*(r+1):=by
  have j:(q*(2^k*2^k)).floor.toNat+1<=(r+1)*(r+1):=f;have:=Rat.natCast_le_natCast.2 j;simpa using this
 have o:=Rat.mul_pos (a:=((r:Rat)+1)*(r+1)-q*(2^k*2^k)) (b:=(2^k)⁻¹*(2^k)⁻¹) (by grind) (Rat.mul_pos g g);have e:(2:Rat)^k*(2^k)⁻¹=1:=by grind
 clear h h3 f i c l
 generalize ((2:Rat)^k)⁻¹=y at*
 generalize (2:Rat)^k=x at*
 have m:(((r:Rat)+1)*(r+1)-q*(x*x))*(y*y)=(r*y+y)*(r*y+y)-q:=by grind
 grind
theorem PY {p q e:Rat} {k l:Nat} (he:0<e) (m:((2:Rat)^l)⁻¹<e/2) (h:p-q<e*e/2):DZ p k-DZ q l<e:=by
 apply Classical.byContradiction;intro o;have f:=PX q l;have g:=TZ q l
 have c:0<=p:=by
  apply Classical.byContradiction;intro j;have:=VD (q:=p) k (by grind)
  grind
 have h3:=VC k c;have i:=JA l
 generalize DZ p k=s at*
 generalize DZ q l=t at*
 generalize ((2:Rat)^l)⁻¹=d at*
 have v:=Rat.mul_nonneg (a:=s-(t+d)-e/2) (b:=s+(t+d)) (by grind) (by grind);have z:=Rat.mul_nonneg (a:=e/2) (b:=s+t+d-e) (by grind) (by grind)
 grind
def sqrt (a:CS):CS:=⟨fun n=>DZ (a.f n) n,fun e he=>by
 obtain⟨N,hN⟩:=small (e/2) (by grind);obtain⟨M,hM⟩:=a.F7 (e*e/2) (by have:=Rat.mul_pos he he;grind);refine⟨max N M,fun n m hn hm=>?_⟩;exact PY he (hN m (by omega)) (hM n m (by omega) (by omega))⟩
theorem fv {a b:CS} (h:a ≈ b):sqrt a ≈ sqrt b:=fun e he=>by
 obtain⟨N,c⟩:=small (e/2) (by grind);obtain⟨M,f⟩:=h (e*e/2) (by have:=Rat.mul_pos he he;grind);refine⟨max N M,fun n g=>?_⟩;have:=f n (by omega);exact⟨PY he (c n (by omega)) this.1,PY he (c n (by omega)) this.2⟩
theorem E9 {a:CS} (h:¬pos (neg a)):mul (sqrt a) (sqrt a) ≈ a:=fun e he=>by
 obtain⟨B,L,P,v⟩:=(sqrt a).Jm;have F:0<e/(2*B+1):=by rw[Rat.div_def];exact Rat.mul_pos (by grind) (Rat.inv_pos.2 (by grind))
 obtain⟨N,q⟩:=small _ F;obtain⟨k,g⟩:=small 1 (by decide);obtain⟨M,o⟩:=a.F7 (e/2) (by grind)
 have c:∃n,M<=n/\ -(e/2)<a.f n:=by
  apply Classical.byContradiction;intro z;apply h;refine⟨e/4,by grind,M,fun n j=>?_⟩;have:¬(-(e/2)<a.f n):=fun A=>z ⟨n,j,A⟩
  show e/4< -a.f n
  grind
 obtain⟨D,i,c⟩:=c;refine⟨max (max N k) (max M P),fun n j=>?_⟩;have l:=v n (by omega);have G:=q n (by omega);have h3:=o D n i (by omega);have H:=TZ (a.f n) n;have I:=PX (a.f n) n;have J:=JA n;have K:=g n (by omega)
 show DZ (a.f n) n*DZ (a.f n) n-a.f n<e/\a.f n-DZ (a.f n) n*DZ (a.f n) n<e
 have m:DZ (a.f n) n<=B:=l.1
 constructor
 ·by_cases C:0<=a.f n
  ·have:=VC n C
   grind
  rw[VD n (by grind)]
  grind
 generalize DZ (a.f n) n=s at*
 generalize ((2:Rat)^n)⁻¹=d at*
 have O:=Rat.mul_nonneg (a:=B-s) (b:=d) (by grind) (by grind);have Q:=Rat.mul_nonneg (a:=1-d) (b:=d) (by grind) (by grind);have R:=Rat.mul_pos (a:=e/(2*B+1)-d) (b:=2*B+1) (by grind) (by grind);have S:e/(2*B+1)*(2*B+1)=e:=by grind
 grind
theorem GN (a:CS):¬pos (neg (sqrt a)):=by
 rintro⟨e,he,N,c⟩
 have g:e< -DZ (a.f N) N:=c N (Nat.le_refl _);have:=PX (a.f N) N
 grind
end CS
def Re:Type:=Quotient CS.st
namespace Re
def mk (a:CS):Re:=Quotient.mk _ a
def ofRat (q:Rat):Re:=mk (CS.const q)
def add (x y:Re):Re:=Quotient.liftOn₂ x y (fun a b=>mk (CS.add a b)) fun _ _ _ _ h k=>Quotient.sound (CS.add_congr h k)
def mul (x y:Re):Re:=Quotient.liftOn₂ x y (fun a b=>mk (CS.mul a b)) fun _ _ _ _ h k=>Quotient.sound (CS.mul_congr h k)
def neg (x:Re):Re:=Quotient.liftOn x (fun a=>mk (CS.neg a)) fun _ _ h=>Quotient.sound (CS.neg_congr h)
def sqrt (x:Re):Re:=Quotient.liftOn x (fun a=>mk (CS.sqrt a)) fun _ _ h=>Quotient.sound (CS.fv h)
def pos (x:Re):Prop:=Quotient.liftOn x CS.pos fun _ _ h=>CS.cz h
def pow (x:Re):Nat->Re
 | 0=>ofRat 1
 | n+1=>mul (pow x n) x
instance:Add Re:=⟨add⟩
instance:Mul Re:=⟨mul⟩
instance:Neg Re:=⟨neg⟩
instance:Sub Re:=⟨fun a b=>add a (neg b)⟩
instance (n:Nat):OfNat Re n:=⟨ofRat n⟩
instance:NatCast Re:=⟨fun n=>ofRat n⟩
instance:IntCast Re:=⟨fun n=>ofRat n⟩
instance:Pow Re Nat:=⟨pow⟩
instance:SMul Nat Re:=⟨fun n a=>mul (ofRat n) a⟩
instance:SMul Int Re:=⟨fun n a=>mul (ofRat n) a⟩
instance:LT Re:=⟨fun a b=>pos (add b (neg a))⟩
instance:LE Re:=⟨fun a b=>¬pos (add a (neg b))⟩
theorem sound {a b:CS} (h:∀n,a.f n=b.f n):mk a=mk b:=Quotient.sound (CS.Zp h)
theorem Ct {p:Re->Prop} (h:∀a,p (mk a)) (x:Re):p x:=Quotient.ind h x
theorem add_assoc (x y z:Re):x+y+z=x+(y+z):=by
 induction x using Ct;induction y using Ct;induction z using Ct
 exact sound fun n=>Rat.add_assoc _ _ _
theorem add_comm (x y:Re):x+y=y+x:=by
 induction x using Ct;induction y using Ct
 exact sound fun n=>Rat.add_comm _ _
theorem add_zero (x:Re):x+0=x:=by
 induction x using Ct
 exact sound fun n=>Rat.add_zero _
theorem neg_add_cancel (x:Re): -x+x=0:=by
 induction x using Ct
 exact sound fun n=>Rat.neg_add_cancel _
theorem mul_assoc (x y z:Re):x*y*z=x*(y*z):=by
 induction x using Ct;induction y using Ct;induction z using Ct
 exact sound fun n=>Rat.mul_assoc _ _ _
theorem mul_comm (x y:Re):x*y=y*x:=by
 induction x using Ct;induction y using Ct
 exact sound fun n=>Rat.mul_comm _ _
theorem mul_one (x:Re):x*1=x:=by
 induction x using Ct
 exact sound fun n=>Rat.mul_one _
theorem left_distrib (x y z:Re):x*(y+z)=x*y+x*z:=by
 induction x using Ct;induction y using Ct;induction z using Ct
 exact sound fun n=>Rat.mul_add _ _ _
theorem zero_mul (x:Re):0*x=0:=by
 induction x using Ct
 exact sound fun n=>Rat.zero_mul _
theorem ofRat_add (p q:Rat):ofRat (p+q)=ofRat p+ofRat q:=rfl
theorem ofRat_mul (p q:Rat):ofRat (p*q)=ofRat p*ofRat q:=rfl
theorem ofRat_neg (p:Rat):ofRat (-p)= -ofRat p:=rfl
abbrev QG {C:Type->Type} {α:Type} (_:C α):Type->Type:=C
abbrev XK:Type->Type:=QG Dyadic.instCommRing
abbrev NG:Type->Type:=QG Dyadic.instCommRing.toRing.toSemiring
instance:XK Re where
 add_assoc:=add_assoc
 add_comm:=add_comm
 add_zero:=add_zero
 neg_add_cancel:=neg_add_cancel
 mul_assoc:=mul_assoc
 mul_comm:=mul_comm
 mul_one:=mul_one
 one_mul:=fun x=>by rw[mul_comm,mul_one]
 left_distrib:=left_distrib
 right_distrib:=fun x y z=>by rw[mul_comm,left_distrib,mul_comm z x,mul_comm z y]
 zero_mul:=zero_mul
 mul_zero:=fun x=>by rw[mul_comm,zero_mul]
 pow_zero:=fun _=>rfl
 pow_succ:=fun _ _=>rfl
 sub_eq_add_neg:=fun _ _=>rfl
 neg_zsmul:=fun i x=>by
  show mul (ofRat ((-i:Int):Rat)) x=neg (mul (ofRat (i:Rat)) x)
  rw[Rat.intCast_neg]
  induction x using Ct
  exact sound fun n=>Rat.neg_mul _ _
 zsmul_natCast_eq_nsmul:=fun _ _=>rfl
 nsmul_eq_natCast_mul:=fun _ _=>rfl
 ofNat_succ:=fun n=>by
  show ofRat ((n+1:Nat):Rat)=ofRat (n:Rat)+ofRat 1
  rw[Rat.natCast_add,ofRat_add]
  rfl
 ofNat_eq_natCast:=fun _=>rfl
 intCast_ofNat:=fun _=>rfl
 intCast_neg:=fun i=>by
  show ofRat ((-i:Int):Rat)=neg (ofRat (i:Rat))
  rw[Rat.intCast_neg]
  rfl
theorem lt_def (x y:Re):x<y↔pos (y-x):=Iff.rfl
theorem le_def (x y:Re):x<=y↔¬pos (x-y):=Iff.rfl
theorem dA {x y:Re}:pos x->pos y->pos (x*y):=by
 induction x using Ct;induction y using Ct
 exact CS.mul_pos
theorem cw {x y:Re}:pos x->pos y->pos (x+y):=by
 induction x using Ct;induction y using Ct
 exact CS.add_pos
theorem Uc {x:Re}:pos x->¬pos (-x):=by
 induction x using Ct
 exact CS.cR
theorem dF:¬pos 0:=CS.cS
theorem Uf (x:Re):x=0\/pos x\/pos (-x):=by
 induction x using Ct
 rcases CS.tri _ with h | h | h
 ·exact .inl (Quotient.sound h)
 ·exact .inr (.inl h)
 exact .inr (.inr h)
theorem Ud {q:Rat}:pos (ofRat q)↔0<q:=by
 constructor
 ·rintro⟨e,he,N,c⟩
  have:e<q:=c N (Nat.le_refl _)
  grind
 intro h;exact⟨q/2,by grind,0,fun n _=>by show q/2<q;grind⟩
theorem le_trans' {x y z:Re} (h:x<=y) (k:y<=z):x<=z:=by
 rw[le_def] at*;intro c;rcases Uf (x-y) with e | e | e
 ·rw[show x-z=(x-y)+(y-z) by grind,e,show 0+(y-z)=y-z by grind] at c;exact k c
 ·exact h e
 have:=cw c e;rw[show x-z+ -(x-y)=y-z by grind] at this;exact k this
theorem bD (x y:Re):x<=y\/y<=x:=by
 rw[le_def,le_def]
 by_cases h:pos (x-y)
 ·right
  have:=Uc h;rwa [show -(x-y)=y-x by grind] at this
 exact .inl h
theorem bB {x y:Re} (h:x<=y) (k:y<=x):x=y:=by
 rw[le_def] at*;rcases Uf (x-y) with e | e | e
 ·grind
 ·exact (h e).elim
 rw[show -(x-y)=y-x by grind] at e;exact (k e).elim
theorem bK (x y:Re):x<y↔x<=y/\¬y<=x:=by
 rw[lt_def,le_def,le_def]
 constructor
 ·intro h;refine⟨?_,fun k=>k h⟩;have:=Uc h;rwa [show -(y-x)=x-y by grind] at this
 rintro⟨_,h⟩
 exact Classical.not_not.1 h
instance:Std.IsLinearOrder Re where
 le_refl:=fun x=>by
  rw[le_def,show x-x=0 by grind];exact dF
 le_trans:=fun _ _ _=>le_trans'
 le_antisymm:=fun _ _=>bB
 le_total:=bD
instance:Std.LawfulOrderLT Re where
 lt_iff:=bK
abbrev W9 {C:(β:Type)->(s:NG β)->(l:LE β)->(t:LT β)->Std.IsPreorder β->Prop} {α:Type} {s:NG α} {l:LE α} {t:LT α} {p:Std.IsPreorder α} (_:C α s l t p):(β:Type)->(s:NG β)->(l:LE β)->(t:LT β)->Std.IsPreorder β->Prop:=C
theorem Oe {a b c:Re} (h:a<b) (f:0<c):c*a<c*b:=by
 rw[lt_def] at*;rw[show c*b-c*a=(c-0)*(b-a) by grind];exact dA f h
instance:W9 Dyadic.instOrderedRing Re inferInstance inferInstance inferInstance inferInstance where
 add_le_left_iff:=fun c=>by
  rename_i a b
  rw[le_def,le_def,show a+c-(b+c)=a-b by grind]
 zero_lt_one:=by
  rw[lt_def]
  show pos (ofRat 1-ofRat 0)
  have:ofRat 1-ofRat 0=ofRat 1:=by
   show (1:Re)-0=1
   grind
  rw[this,Ud]
  decide
 mul_lt_mul_of_pos_left:=fun h hc=>Oe h hc
 mul_lt_mul_of_pos_right:=fun h hc=>by
  rename_i a b c
  rw[mul_comm a c,mul_comm b c];exact Oe h hc
theorem mul_pos {x y:Re} (h:0<x) (k:0<y):0<x*y:=by
 have:=Oe k h
 grind
theorem Of {x y:Re} (h:0<=x) (k:0<=y):0<=x*y:=by
 by_cases h':0<x
 ·by_cases k':0<y
  ·have:=mul_pos h' k'
   grind
  have:y=0:=by grind
  subst this
  grind
 have:x=0:=by grind
 subst this
 grind
theorem GI:ofRat 0=0:=rfl
theorem HO {p q:Rat}:ofRat p<ofRat q↔p<q:=by
 rw[lt_def]
 have:ofRat q-ofRat p=ofRat (q-p):=by
  rw[show q-p=q+ -p by grind,ofRat_add,ofRat_neg];grind
 rw[this,Ud]
 grind
theorem Oy {p q:Rat}:ofRat p<=ofRat q↔p<=q:=by
 have:= @HO q p
 grind
theorem Du {p q:Rat}:ofRat p=ofRat q↔p=q:=by
 constructor
 ·intro h;have c:=(@Oy p q).1 (by grind);have f:=(@Oy q p).1 (by grind)
  grind
 rintro rfl;rfl
theorem TF {x:Re} (h:0<x):∃y,x*y=1:=by
 rw[lt_def,show x-0=x by grind] at h
 induction x using Ct
 obtain⟨b,hb⟩:=CS.J5 h;exact⟨mk b,Quotient.sound hb⟩
theorem J5 {x:Re} (h:x≠0):∃y,x*y=1:=by
 by_cases c:0<x
 ·exact TF c
 obtain⟨y,f⟩:=TF (x:= -x) (by grind);exact⟨-y,by grind⟩
theorem GN (x:Re):0<=sqrt x:=by
 rw[le_def,show 0-sqrt x= -sqrt x by grind]
 induction x using Ct
 exact CS.GN _
theorem E9 {x:Re} (h:0<=x):sqrt x*sqrt x=x:=by
 rw[le_def,show 0-x= -x by grind] at h
 induction x using Ct
 exact Quotient.sound (CS.E9 h)
theorem FH {x y:Re} (h:x*y=0):x=0\/y=0:=by
 by_cases c:x=0
 ·exact .inl c
 obtain⟨z,f⟩:=J5 c
 right
 have:y=(x*z)*y:=by rw[f];grind
 grind
theorem IE (x:Re):0<=x*x:=by
 by_cases h:0<=x
 ·exact Of h h
 have:=Of (x:= -x) (y:= -x) (by grind) (by grind)
 grind
theorem Gs {x y:Re} (c:0<=x) (f:0<=y) (h:x*x=y*y):x=y:=by
 have:(x-y)*(x+y)=0:=by grind
 rcases FH this with e | e
 ·grind
 grind
end Re
end Go.Abs
namespace Go.Abs
def AN:List (List Rat)->List Rat->Re
 | [],a=>Re.ofRat (a.headD 0)
 | r::u,a=>AN u (a.take (2^u.length))+AN u (a.drop (2^u.length))*Re.sqrt (AN u r)
def rt (u:List (List Rat)) (r:List Rat):Re:=Re.sqrt (AN u r)
def In (u:List (List Rat)) (x:Re):Prop:=∃a:List Rat,a.length=2^u.length/\AN u a=x
def Ab:List (List Rat)->Prop
 | []=>True
 | r::u=>Ab u/\r.length=2^u.length/\0<AN u r/\¬∃w,In u w/\w*w=AN u r
noncomputable def co (u:List (List Rat)) (x:Re):List Rat:=by
 classical
 exact if h:In u x then Classical.choose h else []
variable {a:List Rat} {p x y:Re}
theorem Bc (r:List Rat) (u:List (List Rat)):2^(r::u).length=2^u.length+2^u.length:=by
 rw[List.length_cons,Nat.pow_succ];omega
theorem CI:In [] x↔∃q,x=Re.ofRat q:=by
 constructor
 ·rintro⟨a,_,rfl⟩;exact⟨_,rfl⟩
 rintro⟨q,rfl⟩;exact⟨[q],rfl,rfl⟩
theorem CM {r:List Rat} {u:List (List Rat)}:In (r::u) x↔∃p q,In u p/\In u q/\x=p+q*rt u r:=by
 constructor
 ·rintro⟨a,ha,rfl⟩
  rw[Bc] at ha;exact⟨_,_,⟨a.take (2^u.length),by rw[List.length_take];omega,rfl⟩,⟨a.drop (2^u.length),by rw[List.length_drop];omega,rfl⟩,rfl⟩
 rintro⟨p,q,⟨a,ha,rfl⟩,⟨b,hb,rfl⟩,rfl⟩
 refine⟨a++b,by rw[Bc,List.length_append];omega,?_⟩;rw[AN,<-ha,List.take_left,List.drop_left];rfl
theorem Ll:∀(u:List (List Rat)) (a b:List Rat),a.length=2^u.length->b.length=2^u.length->AN u (List.zipWith (· + ·) a b)=AN u a+AN u b
 | [],a,b,ha,hb=>by
  match a,b,ha,hb with
  | [p],[q],_,_=>exact Re.ofRat_add p q
 | r::u,a,b,ha,hb=>by
  rw[Bc] at ha hb;rw[AN,AN,AN,List.take_zipWith,List.drop_zipWith,Ll u _ _ (by rw[List.length_take];omega) (by rw[List.length_take];omega),Ll u _ _ (by rw[List.length_drop];omega) (by rw[List.length_drop];omega)]
  grind
theorem Lm:∀(u:List (List Rat)) (a:List Rat),a.length=2^u.length->AN u (a.map (- ·))= -AN u a
 | [],a,ha=>by
  match a,ha with
  | [p],_=>exact Re.ofRat_neg p
 | r::u,a,ha=>by
  rw[Bc] at ha;rw[AN,AN,<-List.map_take,<-List.map_drop,Lm u _ (by rw[List.length_take];omega),Lm u _ (by rw[List.length_drop];omega)]
  grind
theorem Jz:∀(u:List (List Rat)) (n:Nat),AN u (List.replicate n 0)=0
 |[],0|[],n+1=>rfl
 | r::u,n=>by rw[AN,List.take_replicate,List.drop_replicate,Jz,Jz];grind
theorem Ds (q:Rat):∀u,In u (Re.ofRat q)
 | []=>CI.2 ⟨q,rfl⟩
 | r::u=>CM.2 ⟨_,_,Ds q u,⟨List.replicate (2^u.length) 0,List.length_replicate,Jz u _⟩,by grind⟩
theorem Bp (u:List (List Rat)):In u 0:=Ds 0 u
theorem OP (u:List (List Rat)):In u 1:=Ds 1 u
theorem Cp {u:List (List Rat)}:In u x->In u y->In u (x+y)
 |⟨a,ha,c⟩,⟨b,hb,f⟩=>⟨List.zipWith (· + ·) a b,by rw[List.length_zipWith];omega,by rw[Ll u a b ha hb,c,f]⟩
theorem Fc {u:List (List Rat)}:In u x->In u (-x)
 |⟨a,ha,c⟩=>⟨a.map (- ·),by rw[List.length_map,ha],by rw[Lm u a ha,c]⟩
theorem EG {u:List (List Rat)} (h:In u x) (k:In u y):In u (x-y):=by
 have:=Cp h (Fc k);rwa [show x+ -y=x-y by grind] at this
theorem CO {u:List (List Rat)} {r:List Rat} (h:Ab (r::u)):rt u r*rt u r=AN u r:=Re.E9 (by have:=h.2.2.1;grind)
theorem eP (u:List (List Rat)) (r:List Rat):0<=rt u r:=Re.GN _
theorem CG {u:List (List Rat)} {r:List Rat} (h:Ab (r::u)):In u (AN u r):=⟨r,h.2.1,rfl⟩
theorem Ge {u:List (List Rat)} {r:List Rat} (h:In u x):In (r::u) x:=CM.2 ⟨x,0,h,Bp u,by grind⟩
theorem H0 (u:List (List Rat)) (r:List Rat):In (r::u) (rt u r):=CM.2 ⟨0,1,Bp u,OP u,by grind⟩
theorem Ar:∀{u:List (List Rat)} {x y:Re},Ab u->In u x->In u y->In u (x*y)
 | [],x,y,_,f,g=>by
  obtain⟨p,rfl⟩:=CI.1 f;obtain⟨q,rfl⟩:=CI.1 g;exact CI.2 ⟨p*q,(Re.ofRat_mul p q).symm⟩
 | r::u,x,y,h,f,g=>by
  obtain⟨a,b,ha,hb,rfl⟩:=CM.1 f;obtain⟨c,d,i,j,rfl⟩:=CM.1 g;have k:=CO h;refine CM.2 ⟨a*c+b*d*AN u r,a*d+b*c,Cp (Ar h.1 ha i) (Ar h.1 (Ar h.1 hb j) (CG h)),Cp (Ar h.1 ha j) (Ar h.1 hb i),?_⟩
  grind
theorem Tz {u:List (List Rat)} {r:List Rat} (h:Ab (r::u)) {w:Re} (hw:In u w):w*w≠AN u r:=fun e=>h.2.2.2 ⟨w,hw,e⟩
theorem EF:∀{u:List (List Rat)} {x:Re},Ab u->In u x->x≠0->∃y,In u y/\x*y=1
 | [],x,_,j,f=>by
  obtain⟨p,rfl⟩:=CI.1 j;have z:p≠0:=fun e=>f (by rw[e];rfl)
  refine⟨Re.ofRat p⁻¹,CI.2 ⟨_,rfl⟩,?_⟩;rw[<-Re.ofRat_mul,show p*p⁻¹=1 by grind];rfl
 | r::u,x,h,j,f=>by
  obtain⟨a,b,ha,hb,rfl⟩:=CM.1 j;have A:=CO h
  have q:a*a-b*b*AN u r≠0:=by
   intro e
   by_cases g:b=0
   ·have m:a=0:=by
     have:a*a=0:=by grind
     rcases Re.FH this with e | e <;> exact e
    exact f (by grind)
   obtain⟨c,o,i⟩:=EF h.1 hb g
   exact Tz h (Ar h.1 ha o) (by
    have v:a*a=b*b*AN u r:=by grind
    have l:a*c*(a*c)=(b*c)*(b*c)*AN u r:=by grind
    rw[l,i];grind)
  obtain⟨y,k,s⟩:=EF h.1 (EG (Ar h.1 ha ha) (Ar h.1 (Ar h.1 hb hb) (CG h))) q;refine⟨a*y+ -(b*y)*rt u r,CM.2 ⟨_,_,Ar h.1 ha k,Fc (Ar h.1 hb k),rfl⟩,?_⟩
  grind
theorem indep {u:List (List Rat)} {r:List Rat} (h:Ab (r::u)) {q g f:Re} (s:In u p) (v:In u q) (i:In u g) (j:In u f) (e:p+q*rt u r=g+f*rt u r):p=g/\q=f:=by
 have A:=CO h
 by_cases m:q-f=0
 ·have:q=f:=by grind
  subst this;exact⟨by grind,rfl⟩
 exfalso
 obtain⟨c,o,k⟩:=EF h.1 (EG v j) m;refine Tz h (Ar h.1 (EG i s) o) ?_;have z:(q-f)*rt u r=g-p:=by grind
 have l:(g-p)*c=rt u r*((q-f)*c):=by grind
 rw[l,k];grind
theorem OD:∀{u:List (List Rat)} {a b:List Rat},Ab u->a.length=2^u.length->b.length=2^u.length->AN u a=AN u b->a=b
 | [],a,b,_,ha,hb,e=>by
  match a,b,ha,hb with
  | [p],[q],_,_=>exact congrArg (fun x=>[x]) (Re.Du.1 e)
 | r::u,a,b,h,ha,hb,e=>by
  rw[Bc] at ha hb;have l1:(a.take (2^u.length)).length=2^u.length:=by rw[List.length_take];omega
  have l2:(a.drop (2^u.length)).length=2^u.length:=by rw[List.length_drop];omega
  have l3:(b.take (2^u.length)).length=2^u.length:=by rw[List.length_take];omega
  have c:(b.drop (2^u.length)).length=2^u.length:=by rw[List.length_drop];omega
  obtain⟨f,g⟩:=indep h ⟨_,l1,rfl⟩ ⟨_,l2,rfl⟩ ⟨_,l3,rfl⟩ ⟨_,c,rfl⟩ e;rw[<-List.take_append_drop (2^u.length) a,<-List.take_append_drop (2^u.length) b,OD h.1 l1 l3 f,OD h.1 l2 c g]
theorem SH {u:List (List Rat)} (h:In u x):(co u x).length=2^u.length/\AN u (co u x)=x:=by
 unfold co;rw[dif_pos h];exact Classical.choose_spec h
theorem CQ {u:List (List Rat)} (h:In u x):(co u x).length=2^u.length:=(SH h).1
theorem Df {u:List (List Rat)} (h:In u x):AN u (co u x)=x:=(SH h).2
theorem Hv {u:List (List Rat)} (h:Ab u) (ha:a.length=2^u.length) (e:AN u a=x):co u x=a:=by
 have c:In u x:=⟨a,ha,e⟩;exact OD h (CQ c) ha ((Df c).trans e.symm)
theorem ZZ {u:List (List Rat)} (h:Ab u) (ha:a.length=2^u.length):co u (AN u a)=a:=Hv h ha rfl
theorem Jt {u:List (List Rat)} (h:Ab u) (c:In u x) (f:In u y):co u (x+y)=List.zipWith (· + ·) (co u x) (co u y):=
 Hv h (by rw[List.length_zipWith,CQ c,CQ f];omega) (by rw[Ll u _ _ (CQ c) (CQ f),Df c,Df f])
theorem Jv {u:List (List Rat)} (h:Ab u) (c:In u x):co u (-x)=(co u x).map (- ·):=
 Hv h (by rw[List.length_map,CQ c]) (by rw[Lm u _ (CQ c),Df c])
theorem N3 {u:List (List Rat)} (h:Ab u):co u 0=List.replicate (2^u.length) 0:=Hv h List.length_replicate (Jz u _)
theorem Cr {u:List (List Rat)} {r:List Rat} {q:Re} (h:Ab (r::u)) (c:In u p) (f:In u q) (g:x=p+q*rt u r):co (r::u) x=co u p++co u q:=by
 refine Hv h (by rw[List.length_append,CQ c,CQ f,Bc]) ?_;rw[AN,<-CQ c,List.take_left,List.drop_left,Df c,Df f,g];rfl
theorem Co (q:Rat):co [] (Re.ofRat q)=[q]:=Hv (u:=[]) trivial rfl rfl
theorem Ih (q:Rat):∀{u:List (List Rat)},Ab u->co u (Re.ofRat q)=q::List.replicate (2^u.length-1) 0
 | [],_=>Co q
 | r::u,h=>by
  rw[Cr h (Ds q u) (Bp u) (by grind),Ih q h.1,N3 h.1,List.cons_append,List.replicate_append_replicate];have:1<=2^u.length:=Nat.one_le_two_pow;have:2^(r::u).length-1=2^u.length-1+2^u.length:=by rw[Bc];omega
  rw[this]
theorem Zb {u:List (List Rat)} {r:List Rat} {q:Re} (h:Ab (r::u)) (c:In u p) (f:In u q) (g:x=p+q*rt u r):(co (r::u) x).take (2^u.length)=co u p:=by
 rw[Cr h c f g,<-CQ c,List.take_left]
theorem Za {u:List (List Rat)} {r:List Rat} {q:Re} (h:Ab (r::u)) (c:In u p) (f:In u q) (g:x=p+q*rt u r):(co (r::u) x).drop (2^u.length)=co u q:=by
 rw[Cr h c f g,<-CQ c,List.drop_left]
theorem Ju {u:List (List Rat)} (h:Ab u) (g:In u x):(∀c∈co u x,c=0)↔x=0:=by
 constructor
 ·intro f;have:co u x=List.replicate (2^u.length) 0:=List.eq_replicate_iff.2 ⟨CQ g,f⟩;rw[<-Df g,this,Jz]
 rintro rfl c f;rw[N3 h] at f;exact (List.mem_replicate.1 f).2
theorem eO {u:List (List Rat)} {r:List Rat} (h:Ab (r::u)):rt u r≠0:=by
 intro e;have c:=CO h;have:=h.2.2.1;rw[e] at c
 grind
theorem VK {u:List (List Rat)} {r:List Rat} (h:Ab (r::u)):0<rt u r:=by
 have:=eO h;have:=eP u r
 grind
end Go.Abs
namespace Go.Abs
def Sq (u:List (List Rat)) (x:Re):Prop:=∃w,In u w/\w*w=x
variable {a b n t w x:Re} {r:List Rat} {u:List (List Rat)}
theorem Mx:(2:Re)≠0:=by
 intro h
 have c:(0:Re)<1:=by
  have:=Re.HO.2 (show (0:Rat)<1 by decide);exact this
 grind
theorem KG {y:Re} (c:x≠0) (f:y≠0):x*y≠0:=fun h=>by rcases Re.FH h with e | e;exact c e;exact f e
theorem V7 (h:x*x=0):x=0:=by rcases Re.FH h with e | e <;> exact e
theorem Vy (h:Ab (r::u)) (ha:In u a):Sq (r::u) a↔Sq u a\/∃i,In u i/\AN u r*i=1/\Sq u (a*i):=by
 have z:=CO h
 constructor
 ·rintro⟨w,hw,e⟩
  obtain⟨c,d,g,k,rfl⟩:=CM.1 hw;have o:(c*c+d*d*AN u r)+(2*c*d)*rt u r=a+0*rt u r:=by grind
  have s:In u (2*c*d):=by
   have:=Cp (Ar h.1 g k) (Ar h.1 g k);rwa [show c*d+c*d=2*c*d by grind] at this
  obtain⟨v,q⟩:=indep h (Cp (Ar h.1 g g) (Ar h.1 (Ar h.1 k k) (CG h))) s ha (Bp u) o
  by_cases l:d=0
  ·left;exact⟨c,g,by grind⟩
  right
  have j:c=0:=by
   apply Classical.byContradiction;intro j;exact KG (KG Mx j) l q
  obtain⟨i,m,f⟩:=EF h.1 (CG h) (by have:=h.2.2.1;grind);exact⟨i,m,f,d,k,by grind⟩
 rintro (⟨w,hw,e⟩ |⟨i,m,f,w,hw,e⟩)
 ·exact⟨w,Ge hw,e⟩
 refine⟨0+w*rt u r,CM.2 ⟨0,w,Bp u,hw,rfl⟩,?_⟩;have:a=a*(AN u r*i):=by rw[f];grind
 grind
theorem V3 (h:Ab (r::u)) (ha:In u a) (hb:In u b) (hw:Sq (r::u) (a+b*rt u r)):∃c d,In u c/\In u d/\c*c+d*d*AN u r=a/\2*c*d=b:=by
 have m:=CO h;obtain⟨w,hw,e⟩:=hw;obtain⟨c,d,f,g,rfl⟩:=CM.1 hw;have i:(c*c+d*d*AN u r)+(2*c*d)*rt u r=a+b*rt u r:=by grind
 have l:In u (2*c*d):=by
  have:=Cp (Ar h.1 f g) (Ar h.1 f g);rwa [show c*d+c*d=2*c*d by grind] at this
 obtain⟨j,k⟩:=indep h (Cp (Ar h.1 f f) (Ar h.1 (Ar h.1 g g) (CG h))) l ha hb i;exact⟨c,d,f,g,j,k⟩
theorem V4 (h:Ab (r::u)) (ha:In u a) (hb:In u b) (hw:Sq (r::u) (a+b*rt u r)):Sq u (a*a-b*b*AN u r):=by
 obtain⟨c,d,f,g,i,j⟩:=V3 h ha hb hw;exact⟨c*c-d*d*AN u r,EG (Ar h.1 f f) (Ar h.1 (Ar h.1 g g) (CG h)),by grind⟩
theorem V5 (h:Ab (r::u)) (ha:In u a) (hb:In u b) (hw:Sq (r::u) (a+b*rt u r)) (g:n*n=a*a-b*b*AN u r) (ht:2*t=1):
  Sq u (t*(a+n))\/Sq u (t*(a-n)):=by
 obtain⟨c,d,l,m,j,k⟩:=V3 h ha hb hw;have hm:(n-(c*c-d*d*AN u r))*(n+(c*c-d*d*AN u r))=0:=by grind
 rcases Re.FH hm with e | e
 ·left
  have f:a+n=2*(c*c):=by clear g hm;grind
  have i:t*(2*(c*c))=2*t*(c*c):=by clear g hm j k f e;grind
  exact⟨c,l,by rw[f,i,ht];grind⟩
 right
 have f:a-n=2*(c*c):=by clear g hm;grind
 have i:t*(2*(c*c))=2*t*(c*c):=by clear g hm j k f e;grind
 exact⟨c,l,by rw[f,i,ht];grind⟩
theorem Vw {c i ρ s:Re} (A:n*n=a*a-b*b*ρ) (ht:2*t=1) (C:s*s=ρ) (hw:w*w=t*(a+n)) (g:(w+w)*i=1) (k:c=w+b*i*s):c*c=a+b*s:=by
 have f:w≠0:=by intro e;subst e;grind
 have l:2*(w*w)=a+n:=by rw[hw];grind
 have m:(a+n)*(a-n)=b*b*ρ:=by grind
 have h3:2*(w*w)*(b*i*(b*i)*ρ)*2=b*b*ρ:=by
  have:2*(w*w)*(b*i*(b*i)*ρ)*2=b*b*ρ*(((w+w)*i)*((w+w)*i)):=by grind
  rw[this,g];grind
 have h:(a+n)*(2*(b*i*(b*i)*ρ)-(a-n))=0:=by grind
 have o:2*(b*i*(b*i)*ρ)-(a-n)=0:=by
  rcases Re.FH h with e | e
  ·exfalso
   have:2*(w*w)=0:=by grind
   rcases Re.FH this with e | e
   ·exact Mx e
   exact f (V7 e)
  exact e
 have q:2*w*(b*i)=b:=by
  have:2*w*(b*i)=b*((w+w)*i):=by grind
  rw[this,g];grind
 have v:c*c=w*w+b*i*(b*i)*ρ+2*w*(b*i)*s:=by rw[k];grind
 have j:2*(w*w+b*i*(b*i)*ρ-a)=0:=by grind
 have z:w*w+b*i*(b*i)*ρ-a=0:=by
  rcases Re.FH j with e | e
  ·exact absurd e Mx
  exact e
 grind
theorem Vx (h:Ab (r::u)) (c:b≠0) (i:n*n=a*a-b*b*AN u r) (ht:2*t=1) (hw:w*w=t*(a+n)):w≠0:=by
 intro e;subst e;have g:a+n=0:=by grind
 have f:b*b*AN u r=0:=by grind
 have h3:=h.2.2.1;rcases Re.FH f with e | e
 ·exact c (V7 e)
 grind
theorem Ps {q:Rat}:Sq [] (Re.ofRat q)↔∃r:Rat,0<=r/\r*r=q:=by
 constructor
 ·rintro⟨w,hw,e⟩
  obtain⟨r,rfl⟩:=CI.1 hw;rw[<-Re.ofRat_mul,Re.Du] at e;rcases Rat.le_total (a:=0) (b:=r) with h | h
  ·exact⟨r,h,e⟩
  exact⟨-r,by grind,by grind⟩
 rintro⟨r,_,e⟩
 exact⟨Re.ofRat r,CI.2 ⟨r,rfl⟩,by rw[<-Re.ofRat_mul,e]⟩
end Go.Abs
