/- Part 10 of a proof. Conditions: each theorem's own. -/
import Derived.Test.YtmhbikooakmagaaGreatQk08
set_option linter.all false
set_option maxHeartbeats 8000000
set_option maxRecDepth 20000
namespace Go.Abs
def DN (D:Nat) (a:List Rat):Prop:=∀q∈a,∃n:Int,q*D=n
def MX (B:Nat) (a:List Rat):Prop:=∀q∈a,-(B:Rat)<=q/\q<=B
def Bd (k:Nat) (a:List Rat):Prop:=∃D:Nat,0<D/\D<=2^k/\DN D a/\MX (2^k) a
def TB (R:Nat) (u:List (List Rat)):Prop:=∀r∈u,Bd R r
def EE:Nat->Nat->Nat
 | 0,_=>0
 | h+1,R=>2*EE h R+R+2
def II:Nat->Nat->Nat->Nat
 | 0,_,s=>2*s
 | h+1,R,s=>s+EE h R+II h R (2*s+2*EE h R+R+1)
def GG:Nat->Nat->Nat
 | 0,_=>0
 | h+1,R=>3*EE h R+R+1+2*GG h R+II h R R
theorem aF {p q:Rat} (h:∃n:Int,p=n) (k:∃n:Int,q=n):∃n:Int,p+q=n:=by
 obtain⟨a,rfl⟩:=h;obtain⟨b,rfl⟩:=k;exact⟨a+b,by rw[Rat.intCast_add]⟩
theorem Sl {p q:Rat} (h:∃n:Int,p=n) (k:∃n:Int,q=n):∃n:Int,p*q=n:=by
 obtain⟨a,rfl⟩:=h;obtain⟨b,rfl⟩:=k;exact⟨a*b,by rw[Rat.intCast_mul]⟩
theorem aG (k:Nat):∃n:Int,(k:Rat)=n:=⟨k,rfl⟩
theorem FM (a b:Nat):((a*b:Nat):Rat)=(a:Rat)*b:=Rat.natCast_mul a b
theorem DN.mul_right {D:Nat} {a:List Rat} (h:DN D a) (c:Nat):DN (D*c) a:=fun q d=>by
 have:=Sl (h q d) (aG c);rwa [Rat.mul_assoc,<-FM] at this
theorem DN.dvd {D E:Nat} {a:List Rat} (h:DN D a) (d:D∣E):DN E a:=by
 obtain⟨c,rfl⟩:=d;exact h.mul_right c
theorem WI {a b:List Rat} {q:Rat} (h:q∈List.zipWith (· + ·) a b):∃x∈a,∃y∈b,q=x+y:=by
 obtain⟨i,c⟩:=List.mem_iff_getElem?.1 h;rw[List.getElem?_zipWith] at c;cases ha:a[i]? with
 | none=>rw[ha] at c;simp at c
 | some x=>
  cases hb:b[i]? with
  | none=>rw[ha,hb] at c;simp at c
  | some y=>
   rw[ha,hb] at c;exact⟨x,List.mem_of_getElem? ha,y,List.mem_of_getElem? hb,(Option.some.inj c).symm⟩
theorem DN.add {D:Nat} {a b:List Rat} (h:DN D a) (k:DN D b):DN D (List.zipWith (· + ·) a b):=fun q c=>by
 obtain⟨x,d,y,f,rfl⟩:=WI c;have:=aF (h x d) (k y f);rwa [<-Rat.add_mul] at this
theorem DN.neg {D:Nat} {a:List Rat} (h:DN D a):DN D (a.map (- ·)):=fun q d=>by
 obtain⟨x,f,rfl⟩:=List.mem_map.1 d;obtain⟨n,c⟩:=h x f;exact⟨-n,by rw[Rat.intCast_neg,<-c,Rat.neg_mul]⟩
theorem MX.add {B C:Nat} {a b:List Rat} (h:MX B a) (k:MX C b):MX (B+C) (List.zipWith (· + ·) a b):=fun q c=>by
 obtain⟨x,d,y,f,rfl⟩:=WI c;have:=h x d;have:=k y f;rw[Rat.natCast_add]
 grind
theorem MX.neg {B:Nat} {a:List Rat} (h:MX B a):MX B (a.map (- ·)):=fun q c=>by
 obtain⟨x,d,rfl⟩:=List.mem_map.1 c;have:=h x d
 grind
theorem MX.mono {B C:Nat} {a:List Rat} (h:MX B a) (c:B<=C):MX C a:=fun q f=>by
 have:=h q f;have d:(B:Rat)<=C:=Rat.natCast_le_natCast.2 c
 grind
theorem DN.app {D:Nat} {a b:List Rat}:DN D (a++b)↔DN D a/\DN D b:=
 ⟨fun h=>⟨fun q c=>h q (List.mem_append_left _ c),fun q c=>h q (List.mem_append_right _ c)⟩,fun h q c=>(List.mem_append.1 c).elim (h.1 q) (h.2 q)⟩
theorem MX.app {B:Nat} {a b:List Rat}:MX B (a++b)↔MX B a/\MX B b:=
 ⟨fun h=>⟨fun q c=>h q (List.mem_append_left _ c),fun q c=>h q (List.mem_append_right _ c)⟩,fun h q c=>(List.mem_append.1 c).elim (h.1 q) (h.2 q)⟩
section
variable {u:List (List Rat)} {x y:Re}
theorem Rg (h:AS u) (c:In u x) (a:In u y):co u (x-y)=List.zipWith (· + ·) (co u x) ((co u y).map (- ·)):=by
 rw[show x-y=x+ -y by grind,JZ h c (FQ a),Jb h a]
theorem DN.Fk {D:Nat} (h:AS u) (c:In u x) (d:In u y) (a:DN D (co u x)) (b:DN D (co u y)):DN D (co u (x+y)):=by rw[JZ h c d];exact a.add b
theorem DN.Hr {D:Nat} (h:AS u) (c:In u x) (d:In u y) (a:DN D (co u x)) (b:DN D (co u y)):DN D (co u (x-y)):=by rw[Rg h c d];exact a.add b.neg
theorem MX.Fk {B C:Nat} (h:AS u) (c:In u x) (d:In u y) (a:MX B (co u x)) (b:MX C (co u y)):MX (B+C) (co u (x+y)):=by rw[JZ h c d];exact a.add b
theorem MX.Hr {B C:Nat} (h:AS u) (c:In u x) (d:In u y) (a:MX B (co u x)) (b:MX C (co u y)):MX (B+C) (co u (x-y)):=by rw[Rg h c d];exact a.add b.neg
end
theorem LN:∀(u:List (List Rat)) (c:Rat) (a:List Rat),a.length=2^u.length->AM u (a.map (c* ·))=Re.ofRat c*AM u a
 | [],c,a,ha=>by
  match a,ha with
  | [p],_=>exact Re.ofRat_mul c p
 | r::u,c,a,ha=>by
  rw[BM] at ha;rw[AM,AM,<-List.map_take,<-List.map_drop,LN u _ _ (by rw[List.length_take];omega),LN u _ _ (by rw[List.length_drop];omega)]
  grind
theorem NN {u:List (List Rat)} {x:Re} (h:AS u) (a:In u x) (c:Rat):co u (Re.ofRat c*x)=(co u x).map (c* ·):=
 HX h (by rw[List.length_map,B6 a]) (by rw[LN u c _ (B6 a),Dk a])
theorem Ns {u:List (List Rat)} {x:Re} (a:In u x) (c:Rat):In u (Re.ofRat c*x):=
 ⟨(co u x).map (c* ·),by rw[List.length_map,B6 a],by rw[LN u c _ (B6 a),Dk a]⟩
theorem IF {u:List (List Rat)} {x:Re} (h:AS u) (g:In u x) {D c:Nat}:DN (D*c) (co u x)↔DN D (co u (Re.ofRat c*x)):=by
 rw[NN h g]
 constructor
 ·intro k q d;obtain⟨p,f,rfl⟩:=List.mem_map.1 d;obtain⟨n,a⟩:=k p f;exact⟨n,by rw[<-a,FM];grind⟩
 intro k q d;obtain⟨n,a⟩:=k _ (List.mem_map.2 ⟨q,d,rfl⟩);exact⟨n,by rw[<-a,FM];grind⟩
theorem Cu (k:Nat):0<2^k:=Nat.two_pow_pos k
theorem CA {a b:Nat} (h:a<=b:=by omega):2^a<=2^b:=Nat.pow_le_pow_right (by decide) h
theorem TB.tail {R:Nat} {r:List Rat} {u:List (List Rat)} (h:TB R (r::u)):TB R u:=fun x a=>h x (List.mem_cons_of_mem _ a)
theorem TB.head {R:Nat} {r:List Rat} {u:List (List Rat)} (h:TB R (r::u)):Bd R r:=h r List.mem_cons_self
theorem Ev {r:List Rat} {u:List (List Rat)} (h:AS (r::u)):co u (AM u r)=r:=ZN h.1 h.2.1
theorem Rc {r:List Rat} {u:List (List Rat)} {a b c d x y:Re} (h:AS (r::u)) (ha:In u a) (hb:In u b) (f:In u c) (g:In u d) (j:x=a+b*rt u r) (k:y=c+d*rt u r):
  co (r::u) (x*y)=co u (a*c+b*d*AM u r)++co u (a*d+b*c):=by
 have m:=B4 h;exact CZ h (CQ (Ag h.1 ha f) (Ag h.1 (Ag h.1 hb g) (Bt h))) (CQ (Ag h.1 ha g) (Ag h.1 hb f)) (by subst j;subst k;grind)
theorem IE:∀{u:List (List Rat)} {R:Nat},AS u->TB R u->∃K:Nat,0<K/\K<=2^EE u.length R/\∀{x y:Re} {D m:Nat},In u x->In u y->DN D (co u x)->DN m (co u y)->DN (D*m*K) (co u (x*y))
 | [],R,_,_=>⟨1,by decide,by simp[EE],fun {x y D m} G H h k=>by
  obtain⟨p,rfl⟩:=Bv.1 G;obtain⟨q,rfl⟩:=Bv.1 H;rw[Cp] at h k;rw[<-Re.ofRat_mul,Cp];intro z Q;rw[List.mem_singleton.1 Q];have:=Sl (h p List.mem_cons_self) (k q List.mem_cons_self);rw[FM,FM];rwa [show p*(D:Rat)*(q*(m:Rat))=p*q*(D*m*(1:Nat)) by have:((1:Nat):Rat)=1:=rfl;grind] at this⟩
 | r::u,R,h,L=>by
  obtain⟨K,J,w,hm⟩:=IE h.1 L.tail;obtain⟨E,M,F,C,_⟩:=L.head;refine⟨K*K*E,Nat.mul_pos (Nat.mul_pos J J) M,?_,fun {x y D m} G H f g=>?_⟩
  ·have I:K*K*E<=2^EE u.length R*2^EE u.length R*2^R:=Nat.mul_le_mul (Nat.mul_le_mul w w) F;rw[<-Nat.pow_add,<-Nat.pow_add] at I;exact Nat.le_trans I (CA (by rw[List.length_cons,EE];omega))
  obtain⟨a,b,ha,hb,rfl⟩:=By.1 G;obtain⟨c,d,v,j,rfl⟩:=By.1 H;rw[CZ h ha hb rfl,DN.app] at f;rw[CZ h v j rfl,DN.app] at g;rw[Rc h ha hb v j rfl rfl,DN.app];have O:DN E (co u (AM u r)):=by rw[Ev h];exact C
  refine⟨DN.Fk h.1 (Ag h.1 ha v) (Ag h.1 (Ag h.1 hb j) (Bt h)) ((hm ha v f.1 g.1).dvd ⟨K*E,by grind⟩) ((hm (Ag h.1 hb j) (Bt h) (hm hb j f.2 g.2) O).dvd ⟨1,by grind⟩),
   DN.Fk h.1 (Ag h.1 ha j) (Ag h.1 hb v) ((hm ha j f.1 g.2).dvd ⟨K*E,by grind⟩) ((hm hb v f.2 g.1).dvd ⟨K*E,by grind⟩)⟩
theorem OF {p q:Rat} {B C:Nat} (h: -(B:Rat)<=p/\p<=B) (k: -(C:Rat)<=q/\q<=C): -((B*C:Nat):Rat)<=p*q/\p*q<=((B*C:Nat):Rat):=by
 rw[FM];exact⟨az h.2 h.1 k.2 k.1,Ie h.2 h.1 k.2 k.1⟩
theorem GZ:∀{u:List (List Rat)} {R:Nat},AS u->TB R u->∀{x y:Re} {B C:Nat},In u x->In u y->MX B (co u x)->MX C (co u y)->MX (B*C*2^EE u.length R) (co u (x*y))
 | [],R,_,_,x,y,B,C,F,G,h,k=>by
  obtain⟨p,rfl⟩:=Bv.1 F;obtain⟨q,rfl⟩:=Bv.1 G;rw[Cp] at h k;rw[<-Re.ofRat_mul,Cp];intro z O;rw[List.mem_singleton.1 O];have:=OF (h p List.mem_cons_self) (k q List.mem_cons_self);rwa [show B*C*2^EE ([]:List (List Rat)).length R=B*C by simp[EE]]
 | r::u,R,h,H,x,y,B,C,F,G,f,g=>by
  obtain⟨E,Q,L,_,w⟩:=H.head;have v:=fun {x y:Re} {B C:Nat}=>GZ (R:=R) (x:=x) (y:=y) (B:=B) (C:=C) h.1 H.tail
  obtain⟨a,b,ha,hb,rfl⟩:=By.1 F;obtain⟨c,d,m,j,rfl⟩:=By.1 G;rw[CZ h ha hb rfl,MX.app] at f;rw[CZ h m j rfl,MX.app] at g;rw[Rc h ha hb m j rfl rfl,MX.app];have M:MX (2^R) (co u (AM u r)):=by rw[Ev h];exact w
  have e:EE (r::u).length R=EE u.length R+EE u.length R+R+2:=by rw[List.length_cons,EE];omega
  rw[e,Nat.pow_add,Nat.pow_add,Nat.pow_add];have I:=Cu (EE u.length R);have J:=Cu R
  generalize 2^EE u.length R=K at*
  generalize 2^R=S at*
  have k1:B*C*K<=B*C*(K*K*S):=Nat.mul_le_mul_left _ (by
   have:K*1<=K*(K*S):=Nat.mul_le_mul_left _ (Nat.mul_pos I J);rw[Nat.mul_assoc];omega)
  have k2:B*C*K*S*K=B*C*(K*K*S):=by grind
  refine⟨(MX.Fk h.1 (Ag h.1 ha m) (Ag h.1 (Ag h.1 hb j) (Bt h)) (v ha m f.1 g.1) (v (Ag h.1 hb j) (Bt h) (v hb j f.2 g.2) M)).mono ?_,
   (MX.Fk h.1 (Ag h.1 ha j) (Ag h.1 hb m) (v ha j f.1 g.2) (v hb m f.2 g.1)).mono ?_⟩
  ·rw[k2];grind
  grind
end Go.Abs
namespace Go.Abs
variable {R s t:Nat} {p q x y:Re} {r:List Rat} {u:List (List Rat)}
theorem Bd.mono {k l:Nat} {a:List Rat} (h:Bd k a) (c:k<=l):Bd l a:=by
 obtain⟨D,d,f,g,h3⟩:=h;exact⟨D,d,Nat.le_trans f (CA c),g,h3.mono (CA c)⟩
theorem Q0 (h:AS u) (c:In u x) (d:In u y) (a:Bd s (co u x)) (b:Bd t (co u y)):Bd (s+t+1) (co u (x+y)):=by
 obtain⟨D,f,g,j,h3⟩:=a;obtain⟨E,k0,k1,k2,k⟩:=b;refine⟨D*E,Nat.mul_pos f k0,?_,DN.Fk h c d (j.dvd ⟨E,rfl⟩) (k2.dvd ⟨D,Nat.mul_comm _ _⟩),(MX.Fk h c d h3 k).mono ?_⟩
 ·have:=Nat.mul_le_mul g k1;rw[<-Nat.pow_add] at this;exact Nat.le_trans this (CA)
 have m:2^s<=2^(s+t):=CA;have v:2^t<=2^(s+t):=CA;rw[Nat.pow_succ];omega
theorem Q3 (h:AS u) (g:In u x) (a:Bd s (co u x)):Bd s (co u (-x)):=by
 obtain⟨D,c,d,f,h3⟩:=a;rw[Jb h g];exact⟨D,c,d,f.neg,h3.neg⟩
theorem Yn (h:AS u) (d:In u x) (c:In u y) (a:Bd s (co u x)) (b:Bd t (co u y)):Bd (s+t+1) (co u (x-y)):=by
 rw[show x-y=x+ -y by grind];exact Q0 h d (FQ c) a (Q3 h c b)
theorem Yl (h:AS u) (d:TB R u) (f:In u x) (g:In u y) (a:Bd s (co u x)) (b:Bd t (co u y)):Bd (s+t+EE u.length R) (co u (x*y)):=by
 obtain⟨D,j,k,m,h3⟩:=a;obtain⟨E,k0,k1,k2,w⟩:=b;obtain⟨K,v,c,hm⟩:=IE h d;refine⟨D*E*K,Nat.mul_pos (Nat.mul_pos j k0) v,?_,hm f g m k2,(GZ h d f g h3 w).mono ?_⟩
 ·have:=Nat.mul_le_mul (Nat.mul_le_mul k k1) c;rwa [<-Nat.pow_add,<-Nat.pow_add] at this
 rw[<-Nat.pow_add,<-Nat.pow_add];exact Nat.le_refl _
theorem Ym {q:Rat} (h:AS u) (a:Bd s [q]):Bd s (co u (Re.ofRat q)):=by
 obtain⟨D,d,f,g,h3⟩:=a;rw[IB q h];refine⟨D,d,f,fun z c=>?_,fun z c=>?_⟩
 ·rcases List.mem_cons.1 c with rfl | c
  ·exact g z List.mem_cons_self
  rw[(List.mem_replicate.1 c).2];exact⟨0,by rw[Rat.zero_mul];rfl⟩
 rcases List.mem_cons.1 c with rfl | c
 ·exact h3 z List.mem_cons_self
 rw[(List.mem_replicate.1 c).2];have:(0:Rat)<=((2^s:Nat):Rat):=Rat.natCast_nonneg
 grind
theorem Q2 (h:AS (r::u)) (g:In u p) (j:In u q) (a:Bd s (co (r::u) (p+q*rt u r))):Bd s (co u p)/\Bd s (co u q):=by
 obtain⟨D,d,f,c,h3⟩:=a;rw[CZ h g j rfl] at c h3;exact⟨⟨D,d,f,(DN.app.1 c).1,(MX.app.1 h3).1⟩,⟨D,d,f,(DN.app.1 c).2,(MX.app.1 h3).2⟩⟩
theorem Yi (h:AS (r::u)) (g:In u p) (j:In u q) (a:Bd s (co u p)) (b:Bd t (co u q)):Bd (s+t) (co (r::u) (p+q*rt u r)):=by
 obtain⟨D,c,d,f,h3⟩:=a;obtain⟨E,k0,k1,k2,k⟩:=b;rw[CZ h g j rfl];refine⟨D*E,Nat.mul_pos c k0,?_,DN.app.2 ⟨f.dvd ⟨E,rfl⟩,k2.dvd ⟨D,Nat.mul_comm _ _⟩⟩,MX.app.2 ⟨h3.mono (CA),k.mono (CA)⟩⟩;have:=Nat.mul_le_mul d k1;rwa [<-Nat.pow_add] at this
theorem M7 (h:AS (r::u)) (a:TB R (r::u)):Bd R (co u (AM u r)):=by rw[Ev h];exact a.head
theorem Q4 (h:AS (r::u)) (g:TB R (r::u)) (d:In u p) (c:In u q) (a:Bd s (co (r::u) (p+q*rt u r))):
  Bd (2*s+2*EE u.length R+R+1) (co u (p*p-q*q*AM u r)):=by
 obtain⟨D,v,w,z,h3⟩:=a;rw[CZ h d c rfl] at z h3;obtain⟨k,m⟩:=DN.app.1 z;obtain⟨mp,F⟩:=MX.app.1 h3;obtain⟨K,C,f,hm⟩:=IE h.1 g.tail;obtain⟨E,k0,k1,k2,H⟩:=g.head;have G:DN E (co u (AM u r)):=by rw[Ev h];exact k2
 have j:MX (2^R) (co u (AM u r)):=by rw[Ev h];exact H
 refine⟨D*D*K*E*K,Nat.mul_pos (Nat.mul_pos (Nat.mul_pos (Nat.mul_pos v v) C) k0) C,?_,DN.Hr h.1 (Ag h.1 d d) (Ag h.1 (Ag h.1 c c) (Bt h)) ((hm d d k k).dvd ⟨E*K,by grind⟩) (hm (Ag h.1 c c) (Bt h) (hm c c m m) G),
  (MX.Hr h.1 (Ag h.1 d d) (Ag h.1 (Ag h.1 c c) (Bt h)) (GZ h.1 g.tail d d mp mp) (GZ h.1 g.tail (Ag h.1 c c) (Bt h) (GZ h.1 g.tail c c F F) j)).mono ?_⟩
 ·have:=Nat.mul_le_mul (Nat.mul_le_mul (Nat.mul_le_mul (Nat.mul_le_mul w w) f) k1) f;rw[<-Nat.pow_add,<-Nat.pow_add,<-Nat.pow_add,<-Nat.pow_add] at this;exact Nat.le_trans this (CA)
 rw[<-Nat.pow_add,<-Nat.pow_add,<-Nat.pow_add,<-Nat.pow_add,Nat.pow_succ];have I:2^(s+s+EE u.length R)<=2^(2*s+2*EE u.length R+R):=CA;have J:2^(s+s+EE u.length R+R+EE u.length R)<=2^(2*s+2*EE u.length R+R):=CA;omega
theorem TP {a b:Nat} (h:a<=b):(a:Rat)<=b:=Rat.natCast_le_natCast.2 h
theorem Yk {q p:Rat} (h:Bd s [q]) (J:q*p=1):Bd (2*s) [p]:=by
 obtain⟨D,k,v,F,h3⟩:=h;obtain⟨n,f⟩:=F q List.mem_cons_self;have hb:=h3 q List.mem_cons_self;have O:(0:Rat)<D:=Rat.natCast_pos.2 k
 have H:n≠0:=by
  intro e;subst e;have:(D:Rat)=q*D*p:=by grind
  rw[f] at this;have k:((0:Int):Rat)=0:=rfl
  grind
 have d:p*(n:Rat)=D:=by rw[<-f];grind
 have c:(n.natAbs:Rat)=n\/(n.natAbs:Rat)= -n:=by
  rcases Int.natAbs_eq n with e | e
  ·left
   have:((n.natAbs:Int):Rat)=(n:Rat):=congrArg _ e.symm;exact this
  right
  have:((n.natAbs:Int):Rat)=((-n:Int):Rat):=congrArg _ (by omega);rw[Rat.intCast_neg] at this;exact this
 have I:(1:Rat)<=n.natAbs:=by
  have:1<=n.natAbs:=by omega
  exact TP this
 have g:n.natAbs<=D*2^s:=by
  have w:=OF (C:=D) hb (q:=(D:Rat)) ⟨by grind,by grind⟩;rw[f,Nat.mul_comm] at w;apply Rat.natCast_le_natCast.1;rcases c with e | e <;> rw[e] <;> grind
 refine⟨n.natAbs,by omega,?_,fun z j=>?_,fun z j=>?_⟩
 ·have:=Nat.mul_le_mul_right (2^s) v;rw[<-Nat.pow_add] at this;exact Nat.le_trans g (Nat.le_trans this (CA))
 ·rw[List.mem_singleton.1 j];rcases c with e | e <;> rw[e]
  ·exact⟨D,d⟩
  exact⟨-D,by rw[Rat.intCast_neg,Rat.mul_neg,d];rfl⟩
 rw[List.mem_singleton.1 j];have K:(D:Rat)<=((2^(2*s):Nat):Rat):=TP (Nat.le_trans v (CA));have L:p=D\/True:= .inr trivial;have M:p*(n.natAbs:Rat)=D\/p*(n.natAbs:Rat)= -D:=by rcases c with e | e <;> rw[e] <;> grind
 generalize (n.natAbs:Rat)=m at*
 generalize ((2^(2*s):Nat):Rat)=S at*
 have Q:p<=D:=by
  apply Classical.byContradiction;intro G;have:=Rat.mul_pos (a:=p-D) (b:=m) (by grind) (by grind);have:=Rat.mul_nonneg (a:=(D:Rat)) (b:=m-1) (by grind) (by grind)
  grind
 have T: -D<=p:=by
  apply Classical.byContradiction;intro G;have:=Rat.mul_pos (a:= -D-p) (b:=m) (by grind) (by grind);have:=Rat.mul_nonneg (a:=(D:Rat)) (b:=m-1) (by grind) (by grind)
  grind
 grind
theorem Kv:∀{u:List (List Rat)} {R:Nat} {x y:Re} {s:Nat},AS u->TB R u->In u x->In u y->x*y=1->Bd s (co u x)->Bd (II u.length R s) (co u y)
 | [],R,x,y,s,_,_,C,G,e,h=>by
  obtain⟨p,rfl⟩:=Bv.1 C;obtain⟨q,rfl⟩:=Bv.1 G;rw[Cp] at h ⊢;rw[<-Re.ofRat_mul] at e;exact Yk h (Re.Jz.1 e)
 | r::u,R,x,y,s,h,j,C,G,e,hb=>by
  obtain⟨a,b,ha,c,rfl⟩:=By.1 C;have W:=B4 h;have O:=Q4 h j ha c hb;have d:=D9 (Ag h.1 ha ha) (Ag h.1 (Ag h.1 c c) (Bt h))
  have w:a*a-b*b*AM u r≠0:=by
   intro Q;have I:(a+b*rt u r)*(a-b*rt u r)=0:=by grind
   rcases Re.EH I with F | F
   ·rw[F] at e;have k:(0:Re)<1:=Re.G6.2 (show (0:Rat)<1 by decide)
    grind
   obtain⟨T,U⟩:=indep h ha (FQ c) (Bl u) (Bl u) (show a+ -b*rt u r=0+0*rt u r by grind);have:a+b*rt u r=0:=by grind
   rw[this] at e;have k:(0:Re)<1:=Re.G6.2 (show (0:Rat)<1 by decide)
   grind
  obtain⟨i,f,g⟩:=D8 h.1 d w;have z:=Kv h.1 j.tail d f g O
  have J:y=a*i+ -(b*i)*rt u r:=by
   have:y=(a+b*rt u r)*y*((a-b*rt u r)*i):=by
    have:(a+b*rt u r)*y*((a-b*rt u r)*i)=y*((a*a-b*b*AM u r)*i):=by grind
    rw[this,g];grind
   rw[e] at this
   grind
  obtain⟨D,L,k,m,h3⟩:=hb;rw[CZ h ha c rfl] at m h3;obtain⟨E,k0,k1,k2,H⟩:=z;obtain⟨K,M,v,hm⟩:=IE h.1 j.tail;rw[J,CZ h (Ag h.1 ha f) (FQ (Ag h.1 c f)) rfl,Jb h.1 (Ag h.1 c f),List.length_cons,II];have m1:=GZ h.1 j.tail ha f (MX.app.1 h3).1 H;have m2:=GZ h.1 j.tail c f (MX.app.1 h3).2 H;rw[<-Nat.pow_add,<-Nat.pow_add] at m1 m2;refine⟨D*E*K,Nat.mul_pos (Nat.mul_pos L k0) M,?_,DN.app.2 ⟨hm ha f (DN.app.1 m).1 k2,(hm c f (DN.app.1 m).2 k2).neg⟩,MX.app.2 ⟨m1.mono (CA),(m2.mono (CA)).neg⟩⟩;have:=Nat.mul_le_mul (Nat.mul_le_mul k k1) v;rw[<-Nat.pow_add,<-Nat.pow_add] at this;exact Nat.le_trans this (CA)
end Go.Abs
namespace Go.Abs
variable {B:Nat} {u:List (List Rat)} {x:Re}
theorem aH {r:Rat} {n:Int} (h:r*r=n):∃m:Int,r=m:=by
 have c:(r*r).den=1:=by rw[h];rfl
 have a:(r*r).den=r.den*r.den:=by
  have d:Nat.gcd (r.num*r.num).natAbs (r.den*r.den)=1:=by
   rw[Int.natAbs_mul];exact Nat.Coprime.mul_left (Nat.Coprime.mul_right r.reduced r.reduced) (Nat.Coprime.mul_right r.reduced r.reduced)
  rw[Rat.mul_def,Rat.normalize_eq];simp only[d,Nat.div_one]
 rw[c] at a;have h3:r.den=1:=Nat.eq_one_of_mul_eq_one_left a.symm;refine⟨r.num,?_⟩;have:=Ip r;rw[h3] at this;have e:((1:Nat):Rat)=1:=rfl
 grind
theorem Tn {Y:Nat} {c e:Re} (h:e=2*(c*c)):Re.ofRat ((2*Y:Nat):Rat)*c*(Re.ofRat ((2*Y:Nat):Rat)*c)=Re.ofRat ((2*Y*Y:Nat):Rat)*e:=by
 subst h;have a:Re.ofRat ((2:Nat):Rat)=2:=rfl;simp only[FM,Re.ofRat_mul,a]
 grind
theorem Rz:∀{u:List (List Rat)} {R:Nat},AS u->TB R u->∃G:Nat,0<G/\G<=2^GG u.length R/\∀{x w:Re} {D:Nat},In u w->w*w=x->DN D (co u x)->DN (D*G) (co u w)
 | [],R,_,_=>⟨1,by decide,by simp[GG],fun {x w D} hw e h=>by
  obtain⟨p,rfl⟩:=Bv.1 hw;subst e;rw[<-Re.ofRat_mul,Cp] at h;rw[Cp];intro z hz;rw[List.mem_singleton.1 hz];obtain⟨n,v⟩:=h _ List.mem_cons_self
  obtain⟨m,hm⟩:=aH (r:=p*D) (n:=n*D) (by
   rw[Rat.intCast_mul,<-v];have:((D:Int):Rat)=(D:Rat):=rfl
   grind)
  exact⟨m,by rw[Nat.mul_one];exact hm⟩⟩
 | r::u,R,h,O=>by
  obtain⟨G,hG,L,Q⟩:=Rz h.1 O.tail;obtain⟨K,hK,F,hm⟩:=IE h.1 O.tail;obtain⟨E,hE,W,U,_⟩:=O.head;have hr:=B4 h;have a5:DN E (co u (AM u r)):=by rw[Ev h];exact U
  obtain⟨i,hi,T⟩:=D8 h.1 (Bt h) (by have:=h.2.2.1;grind);obtain⟨I,hI,Z,Y,_⟩:=Kv h.1 O.tail (Bt h) hi T (M7 h O);refine⟨2*(K*K*E)*G*G*I*K,Nat.mul_pos (Nat.mul_pos (Nat.mul_pos (Nat.mul_pos (Nat.mul_pos (by decide) (Nat.mul_pos (Nat.mul_pos hK hK) hE)) hG) hG) hI) hK,?_,fun {x w D} hw e H=>?_⟩
  ·have h1:=Nat.mul_le_mul (Nat.mul_le_mul (Nat.mul_le_mul (Nat.mul_le_mul (Nat.mul_le_mul (Nat.le_refl (2^1)) (Nat.mul_le_mul (Nat.mul_le_mul F F) W)) L) L) Z) F;simp only[<-Nat.pow_add] at h1;exact Nat.le_trans h1 (CA (by rw[List.length_cons,GG];omega))
  obtain⟨c,d,j,k,rfl⟩:=By.1 hw
  have f:In u (2*c*d):=by
   have:=CQ (Ag h.1 j k) (Ag h.1 j k);rwa [show c*d+c*d=2*c*d by grind] at this
  have g:=Bt h;have ha:=CQ (Ag h.1 j j) (Ag h.1 (Ag h.1 k k) g);have ex:x=(c*c+d*d*AM u r)+(2*c*d)*rt u r:=by rw[<-e];grind
  rw[ex,CZ h ha f rfl,DN.app] at H
  generalize hA:c*c+d*d*AM u r=a at*
  generalize hB:2*c*d=b at*
  have v:=D9 (Ag h.1 j j) (Ag h.1 (Ag h.1 k k) g)
  generalize hN:c*c-d*d*AM u r=n at*
  have M:=D9 (Ag h.1 ha ha) (Ag h.1 (Ag h.1 f f) g);have a1:n*n=a*a-b*b*AM u r:=by grind
  have d1:DN (D*D*(K*K*E)) (co u (a*a-b*b*AM u r)):=
   DN.Hr h.1 (Ag h.1 ha ha) (Ag h.1 (Ag h.1 f f) g) ((hm ha ha H.1 H.1).dvd ⟨K*E,by grind⟩) ((hm (Ag h.1 f f) g (hm f f H.2 H.2) a5).dvd ⟨1,by grind⟩)
  generalize K*K*E=C at*
  have d2:DN (D*C*G) (co u n):=by
   have k1:DN 1 (co u (Re.ofRat ((D*C*(D*C):Nat):Rat)*(a*a-b*b*AM u r))):=(IF h.1 M).1 (d1.dvd ⟨C,by grind⟩);have k2:=Q (x:=Re.ofRat ((D*C*(D*C):Nat):Rat)*(a*a-b*b*AM u r)) (w:=Re.ofRat ((D*C:Nat):Rat)*n) (D:=1) (Ns v _) (by rw[FM (D*C),Re.ofRat_mul,<-a1];grind) k1;exact ((IF h.1 v).2 k2).dvd ⟨1,by grind⟩
  have J:DN (D*C*G) (co u a):=H.1.dvd ⟨C*G,by grind⟩;have d3:DN (D*C*G) (co u (a+n)):=DN.Fk h.1 ha v J d2;have d4:DN (D*C*G) (co u (a-n)):=DN.Hr h.1 ha v J d2
  have d5:DN (2*(D*C*G)*G) (co u c):=by
   have k1:DN 1 (co u (Re.ofRat ((2*(D*C*G)*(D*C*G):Nat):Rat)*(a+n))):=(IF h.1 (CQ ha v)).1 (d3.dvd ⟨2*(D*C*G),by grind⟩);have k2:=Q (x:=Re.ofRat ((2*(D*C*G)*(D*C*G):Nat):Rat)*(a+n)) (w:=Re.ofRat ((2*(D*C*G):Nat):Rat)*c) (D:=1) (Ns j _) (Tn (by clear Q hm k1;grind)) k1;exact ((IF h.1 j).2 k2).dvd ⟨1,by grind⟩
  have d6:DN (D*C*G*I*K) (co u ((a-n)*i)):=hm (D9 ha v) hi d4 Y
  have d7:DN (2*(D*C*G*I*K)*G) (co u d):=by
   have a2:=Ag h.1 (D9 ha v) hi;have k1:DN 1 (co u (Re.ofRat ((2*(D*C*G*I*K)*(D*C*G*I*K):Nat):Rat)*((a-n)*i))):=(IF h.1 a2).1 (d6.dvd ⟨2*(D*C*G*I*K),by grind⟩)
   have k2:=Q (x:=Re.ofRat ((2*(D*C*G*I*K)*(D*C*G*I*K):Nat):Rat)*((a-n)*i)) (w:=Re.ofRat ((2*(D*C*G*I*K):Nat):Rat)*d) (D:=1) (Ns k _) (Tn (by
    have e3:(a-n)*i=2*(d*d)*(AM u r*i):=by clear Q hm k1;grind
    rw[e3,T];grind)) k1
   exact ((IF h.1 k).2 k2).dvd ⟨1,by grind⟩
  rw[CZ h j k rfl,DN.app];exact⟨d5.dvd ⟨I*K,by grind⟩,d7.dvd ⟨1,by grind⟩⟩
theorem aZ {p:Rat} (h:p*p<=((B*B:Nat):Rat)): -(B:Rat)<=p/\p<=B:=by
 rw[FM] at h;have d:(0:Rat)<=B:=Rat.natCast_nonneg
 generalize (B:Rat)=b at*
 constructor
 ·apply Classical.byContradiction;intro c;have:=Rat.mul_pos (a:= -p-b) (b:= -p+b) (by grind) (by grind)
  grind
 apply Classical.byContradiction;intro c;have:=Rat.mul_pos (a:=p-b) (b:=p+b) (by grind) (by grind)
 grind
theorem MX.half {y:Re} (h:AS u) (g:In u x) (d:In u y) (e:x=2*y) (k:MX (2*B) (co u x)):MX B (co u y):=by
 have a:x=Re.ofRat 2*y:=e;rw[a,NN h d] at k;intro q c;have:=k _ (List.mem_map.2 ⟨q,c,rfl⟩);rw[FM] at this;have f:((2:Nat):Rat)=2:=rfl
 grind
theorem TO:∀{u:List (List Rat)} {R:Nat},AS u->TB R u->∀{x w:Re} {B:Nat},In u w->w*w=x->MX (B*B) (co u x)->MX (B*2^GG u.length R) (co u w)
 | [],R,_,_,x,w,B,hw,e,h=>by
  obtain⟨p,rfl⟩:=Bv.1 hw;subst e;rw[<-Re.ofRat_mul,Cp] at h;rw[Cp];intro z hz;rw[List.mem_singleton.1 hz];have:=aZ (h _ List.mem_cons_self).2;simpa [GG] using this
 | r::u,R,h,L,x,w,B,hw,e,v=>by
  have H:=fun {x w:Re} {B:Nat}=>TO (R:=R) (x:=x) (w:=w) (B:=B) h.1 L.tail
  have F:=fun {x y:Re} {B C:Nat}=>GZ (R:=R) (x:=x) (y:=y) (B:=B) (C:=C) h.1 L.tail
  obtain⟨E,hE,a6,_,Z⟩:=L.head;have hr:=B4 h;have a5:MX (2^R) (co u (AM u r)):=by rw[Ev h];exact Z
  obtain⟨i,hi,O⟩:=D8 h.1 (Bt h) (by have:=h.2.2.1;grind);obtain⟨I,hI,a7,_,T⟩:=Kv h.1 L.tail (Bt h) hi O (M7 h L);obtain⟨c,d,k,j,rfl⟩:=By.1 hw
  have g:In u (2*c*d):=by
   have:=CQ (Ag h.1 k j) (Ag h.1 k j);rwa [show c*d+c*d=2*c*d by grind] at this
  have f:=Bt h;have ha:=CQ (Ag h.1 k k) (Ag h.1 (Ag h.1 j j) f);have ex:x=(c*c+d*d*AM u r)+(2*c*d)*rt u r:=by rw[<-e];grind
  rw[ex,CZ h ha g rfl,MX.app] at v
  generalize hA:c*c+d*d*AM u r=a at*
  generalize hB:2*c*d=b at*
  have M:=D9 (Ag h.1 k k) (Ag h.1 (Ag h.1 j j) f)
  generalize hN:c*c-d*d*AM u r=n at*
  have a1:n*n=a*a-b*b*AM u r:=by clear H F;grind
  have m1:=MX.Hr h.1 (Ag h.1 ha ha) (Ag h.1 (Ag h.1 g g) f) (F ha ha v.1 v.1) (F (Ag h.1 g g) f (F g g v.2 v.2) a5);have Q:=Cu (EE u.length R);have p1:=Cu R;have p2:=Cu (GG u.length R);have p3:=Cu (II u.length R R)
  have eG:2^GG (r::u).length R=2^EE u.length R*2^EE u.length R*2^EE u.length R*2^R*2*(2^GG u.length R*2^GG u.length R)*2^II u.length R R:=by
   have e2:(2:Nat)=2^1:=rfl;conv=>rhs;rw[show ∀q:Nat,q*2=q*2^1 from fun q=>rfl]
   simp only[<-Nat.pow_add]
   congr 1
   rw[List.length_cons,GG];omega
  rw[eG]
  generalize 2^EE u.length R=K at*
  generalize 2^R=S at*
  generalize 2^GG u.length R=G at*
  generalize 2^II u.length R R=J at*
  have Y:1<=K*S:=Nat.mul_pos Q p1;have m:1<=K*K*S:=Nat.mul_pos (Nat.mul_pos Q Q) p1
  have a2:K+K*S*K<=2*(K*K*S)*(2*(K*K*S)):=by
   have t1:K*1<=K*(K*S):=Nat.mul_le_mul_left _ Y;have t2:(K*K*S)*1<=(K*K*S)*(K*K*S):=Nat.mul_le_mul_left _ m
   grind
  have m2:MX (B*B*(2*(K*K*S))*G) (co u n):=by
   refine H (x:=a*a-b*b*AM u r) M a1 (m1.mono ?_);have:=Nat.mul_le_mul_left (B*B*(B*B)) a2
   grind
  have W:1<=K*K*S*G:=Nat.mul_pos m p2
  have m3:MX (B*B*(2*(K*K*S)*G)) (co u (c*c)):=by
   refine MX.half h.1 (CQ ha M) (Ag h.1 k k) (by clear H F m1 m2;grind) ((MX.Fk h.1 ha M v.1 m2).mono ?_);have:=Nat.mul_le_mul_left (B*B) (show 1<=2*(K*K*S)*G by rw[Nat.mul_assoc];omega)
   grind
  have m4:MX (B*(2*(K*K*S)*G)*G) (co u c):=by
   refine H (x:=c*c) k rfl (m3.mono ?_);have t:2*(K*K*S)*G*1<=2*(K*K*S)*G*(2*(K*K*S)*G):=Nat.mul_le_mul_left _ (by rw[Nat.mul_assoc];omega);have:=Nat.mul_le_mul_left (B*B) t
   grind
  have m5:MX (B*B*(2*(K*K*S)*G)) (co u (d*d*AM u r)):=by
   refine MX.half h.1 (D9 ha M) (Ag h.1 (Ag h.1 j j) f) (by clear H F m1 m2 m3;grind) ((MX.Hr h.1 ha M v.1 m2).mono ?_);have:=Nat.mul_le_mul_left (B*B) (show 1<=2*(K*K*S)*G by rw[Nat.mul_assoc];omega)
   grind
  have m6:MX (B*B*(2*(K*K*S)*G)*J*K) (co u (d*d)):=by
   have:=F (Ag h.1 (Ag h.1 j j) f) hi m5 T;rwa [show d*d*AM u r*i=d*d by rw[show d*d*AM u r*i=d*d*(AM u r*i) by grind,O];grind] at this
  have m7:MX (B*(2*(K*K*S)*G*J*K)*G) (co u d):=by
   refine H (x:=d*d) j rfl (m6.mono ?_);have t0:1<=2*(K*K*S)*G*J*K:=Nat.mul_pos (Nat.mul_pos (by rw[Nat.mul_assoc];omega) p3) Q;have t:2*(K*K*S)*G*J*K*1<=2*(K*K*S)*G*J*K*(2*(K*K*S)*G*J*K):=Nat.mul_le_mul_left _ t0;have:=Nat.mul_le_mul_left (B*B) t
   grind
  rw[CZ h k j rfl,MX.app];have U:1<=J*K:=Nat.mul_pos p3 Q;refine⟨m4.mono ?_,m7.mono ?_⟩
  ·have:=Nat.mul_le_mul_left (B*(2*(K*K*S)*G)*G) U
   grind
  grind
theorem Q6 {R s:Nat} {w:Re} (h:AS u) (c:TB R u) (hw:In u w) (e:w*w=x) (m:Bd s (co u x)):Bd (s+GG u.length R) (co u w):=by
 obtain⟨D,d,f,g,h3⟩:=m;obtain⟨G,j,a,k⟩:=Rz h c;refine⟨D*G,Nat.mul_pos d j,?_,k hw e g,?_⟩
 ·have:=Nat.mul_le_mul f a;rwa [<-Nat.pow_add] at this
 have:=TO h c hw e (B:=2^s) (h3.mono (by rw[<-Nat.pow_add];exact CA));rwa [<-Nat.pow_add] at this
end Go.Abs
namespace Go.Abs
structure AU (x:Int) (b:Bool) (l:List UInt32):Prop where
 neg:b=decide (x<0)
 Au:l=AP x.natAbs
variable {i n xi:Nat} {l o:List UInt32} {y:Int}
theorem AT (x:Int):∃b l,AU x b l:=⟨_,_,rfl,rfl⟩
theorem AU.nat {x:Int} {b:Bool} (h:AU x b l):AE l=x.natAbs:=by rw[h.Au,Am]
theorem AU.EK {x:Int} {b:Bool} (h:AU x b l):x=if b=true then -(AE l:Int) else AE l:=by
 rw[h.nat,h.neg];by_cases a:x<0 <;> simp[a] <;> omega
theorem AU.uniq {x:Int} {b b':Bool} {l':List UInt32} (h:AU x b l) (h':AU y b' l') (e:x=y):b=b'/\l=l':=by
 subst e;exact⟨h.neg.trans h'.neg.symm,h.Au.trans h'.Au.symm⟩
theorem AU.trim {x:Int} {b:Bool} (h:AU x b l):AP (AE l)=l:=by rw[h.nat,<-h.Au]
theorem AU.val {x:Int} {b:Bool} (c:AP n=l) (a:x=if b=true then -(n:Int) else n) (h3:n=0->b=false):AU x b l:=by
 constructor
 ·rw[a];cases b
  ·simp
  have:n≠0:=fun e=>absurd (h3 e) (by simp)
  simp;omega
 rw[<-c,a];congr 1;split <;> omega
theorem AU.nil {x:Int} {b:Bool} (h:AU x b l):l=[]↔x=0:=by
 rw[h.Au,EI];omega
theorem AU.EW {x:Int} {b:Bool} (h:AU x b l):l.length=0↔x=0:=by
 rw[List.length_eq_zero_iff,h.nil]
def Bn (x:Int):Int:=if x<0 then -1 else if x=0 then 0 else 1
def BF (a b:Int):Int:=if a<b then -1 else if b<a then 1 else 0
theorem OH {x w:UInt32} (h:l[i]? =some x):AE (l.set i w)+2^(32*i)*x.toNat=AE l+2^(32*i)*w.toNat:=by
 induction l generalizing i with
 | nil=>simp at h
 | cons y l a=>
  cases i with
  | zero=>simp at h;subst h;simp[AE];omega
  | succ i=>
   have:=a (i:=i) (by simpa using h);rw[List.set_cons_succ,AE,AE,C8]
   generalize 2^(32*i)=P at*
   grind
theorem F9 {w:UInt32} (h:n<=i:=by omega):(l.set i w).take n=l.take n:=by
 rw[List.take_set];rw[List.set_eq_of_length_le];rw[List.length_take];omega
theorem Dz {w:UInt32} (h:i<l.length):(l.set i w).take (i+1)=l.take i++[w]:=by
 rw[List.take_succ_eq_append_getElem (by simpa using h),F9 (Nat.le_refl _)];simp
theorem Ic {A B Ef Eg yi:Nat} {w:UInt32} (a:i<o.length) (h:AE (o.take i)+B=A+2^(32*i)*Ef) (c:w.toNat+yi+Ef=xi+4294967296*Eg):
  AE ((o.set i w).take (i+1))+(B+2^(32*i)*yi)=(A+2^(32*i)*xi)+2^(32*(i+1))*Eg:=by
 rw[Dz a,DH,C8,List.length_take,Nat.min_eq_left (by omega)]
 generalize 2^(32*i)=P at*
 have e:P*(w.toNat+yi+Ef)=P*(xi+4294967296*Eg):=by rw[c]
 grind
theorem PF {N T c d yk old j:Nat} {q w:UInt32} {Y:Nat} {k:Nat} (g:j=i+k) (m:j<n) (v:o[j]? =some q) (C:q.toNat=old) (h:AE (o.take n)+2^(32*j)*c=T+xi*2^(32*i)*Y)
  (F:w.toNat+4294967296*d=c+xi*yk+old) (_:N=n):
  AE ((o.set j w).take n)+2^(32*(j+1))*d=T+xi*2^(32*i)*(Y+2^(32*k)*yk):=by
 have ht:(o.take n)[j]? =some q:=by rw[List.getElem?_take_of_lt m,v]
 have a:=OH (w:=w) ht;rw[List.take_set,C8];have z:2^(32*j)=2^(32*i)*2^(32*k):=by rw[g,Nat.mul_add,Nat.pow_add]
 generalize G:2^(32*j)=P at*
 have e:P*(w.toNat+4294967296*d)=P*(c+xi*yk+old):=by rw[F]
 rw[C] at a;have f:xi*2^(32*i)*(2^(32*k)*yk)=P*(xi*yk):=by rw[z];grind
 rw[Nat.mul_add,f]
 grind
theorem TN {x:Int} {a b:Bool} (ha:a=decide (x<0)) (hb:b=decide (y<0)):x*y=if (a !=b)=true then -((x.natAbs*y.natAbs:Nat):Int) else ((x.natAbs*y.natAbs:Nat):Int):=by
 rw[Int.natCast_mul]
 by_cases c:x<0 <;> by_cases d:y<0 <;> simp[ha,hb,c,d]
 ·rw[show ((x.natAbs:Nat):Int)= -x by omega,show ((y.natAbs:Nat):Int)= -y by omega];grind
 ·rw[show ((x.natAbs:Nat):Int)= -x by omega,show ((y.natAbs:Nat):Int)=y by omega];grind
 ·rw[show ((x.natAbs:Nat):Int)=x by omega,show ((y.natAbs:Nat):Int)= -y by omega];grind
 rw[show ((x.natAbs:Nat):Int)=x by omega,show ((y.natAbs:Nat):Int)=y by omega]
theorem IA (a b:Int):(a<b/\BF a b= -1)\/(a=b/\BF a b=0)\/(b<a/\BF a b=1):=by
 unfold BF
 split
 ·exact .inl ⟨by assumption,rfl⟩
 split
 ·exact .inr (.inr ⟨by assumption,rfl⟩)
 exact .inr (.inl ⟨by omega,rfl⟩)
theorem EY (x:Int):(x<0/\Bn x= -1)\/(x=0/\Bn x=0)\/(0<x/\Bn x=1):=by
 unfold Bn
 split
 ·exact .inl ⟨by assumption,rfl⟩
 split
 ·exact .inr (.inl ⟨by assumption,rfl⟩)
 exact .inr (.inr ⟨by omega,rfl⟩)
theorem dR (x a b:Int): -9223372036854775808<=Bn x*BF a b/\Bn x*BF a b<9223372036854775808:=by
 rcases EY x with⟨_,h⟩ |⟨_,h⟩ |⟨_,h⟩ <;> rcases IA a b with⟨_,k⟩ |⟨_,k⟩ |⟨_,k⟩ <;> rw[h,k] <;> decide
theorem ZL {x:Int} (h:Bn x=Bn y):BF x y=Bn x*BF x.natAbs y.natAbs:=by
 rcases EY x with⟨c,a⟩ |⟨c,a⟩ |⟨c,a⟩ <;> rcases EY y with⟨k1,k2⟩ |⟨k1,k2⟩ |⟨k1,k2⟩ <;>
  rcases IA x y with⟨p,q⟩ |⟨p,q⟩ |⟨p,q⟩ <;> rcases IA x.natAbs y.natAbs with⟨u,v⟩ |⟨u,v⟩ |⟨u,v⟩ <;> rw[a,q,v] <;> rw[a,k2] at h <;> omega
theorem ZK {x:Int} (h:Bn x≠Bn y):BF x y=BF (Bn x) (Bn y):=by
 rcases EY x with⟨c,a⟩ |⟨c,a⟩ |⟨c,a⟩ <;> rcases EY y with⟨k1,k2⟩ |⟨k1,k2⟩ |⟨k1,k2⟩ <;>
  rcases IA x y with⟨p,q⟩ |⟨p,q⟩ |⟨p,q⟩ <;> rw[a,k2] at h ⊢ <;> rw[q] <;> first | rfl | omega
theorem VD {x:Int} {b:Bool} (h:x=if b=true then -(n:Int) else n): -x=if (!b)=true then -(n:Int) else n:=by
 cases b <;> simp_all
theorem MI {x:Int} {b:Bool} (h:x=if b=true then -(n:Int) else n) (d:n≠0):Bn x=if b=true then -1 else 1:=by
 rcases EY x with⟨c,a⟩ |⟨c,a⟩ |⟨c,a⟩ <;> rw[a] <;> cases b <;> simp at h ⊢ <;> omega
theorem add_same {x:Int} {b:Bool} (a:b=decide (x<0)) (c:b=decide (y<0)):x+y=if b=true then -((x.natAbs+y.natAbs:Nat):Int) else ((x.natAbs+y.natAbs:Nat):Int):=by
 cases b <;> simp at a c ⊢ <;> omega
theorem Kn {x:Int} {a b:Bool} (d:a=decide (x<0)) (f:b=decide (y<0)) (c:a≠b) (h:x.natAbs<=y.natAbs):x+y=if b=true then -((y.natAbs-x.natAbs:Nat):Int) else ((y.natAbs-x.natAbs:Nat):Int):=by
 cases a <;> cases b <;> simp at d f c ⊢ <;> omega
theorem Gu {a b:Int} (h:BF a b<0):a<b:=by rcases IA a b with⟨_,k⟩ |⟨_,k⟩ |⟨_,k⟩ <;> omega
theorem Gt {a b:Int} (h:0<=BF a b):b<=a:=by rcases IA a b with⟨_,k⟩ |⟨_,k⟩ |⟨_,k⟩ <;> omega
def Fl (b:Bool) (l:List UInt32):Bool:=match l.getLast? with
 | none=> !b
 | some x=>x !=0
theorem I5 {b:Bool}:Fl b l=true↔∃x,AU x b l:=by
 unfold Fl;cases h:l.getLast? with
 | none=>
  have:l=[]:=List.getLast?_eq_none_iff.1 h;subst this
  constructor
  ·intro hb;exact⟨0,by simpa using hb,rfl⟩
  rintro⟨x,a⟩
  have:=(a.nil).1 rfl;rw[a.neg,this];rfl
 | some w=>
  obtain⟨m,rfl⟩:=List.getLast?_eq_some_iff.1 h
  constructor
  ·intro hw;have hw:w≠0:=by simpa using hw
   have c:=NG (o:=m) (w:=w) fun e=>hw (UInt32.toNat_inj.1 e)
   have f:AE (m++[w])≠0:=fun e=>by
    rw[e,Ey] at c;simp at c
   exact⟨if b=true then -(AE (m++[w]):Int) else AE (m++[w]),.val c rfl fun e=>absurd e f⟩
  rintro⟨x,a⟩
  simp only[bne_iff_ne,ne_eq];rintro rfl;have d:=a.trim;rw[<-KO,Hq] at d;have:=PG m;rw[d] at this;simp at this;omega
end Go.Abs
namespace Go.Abs
variable {A B xi yi:Nat} {l o:List UInt32}
theorem Hj {N k:Nat} (h:N<2^(32*k)):∃z:List UInt32,z.length=k/\AE z=N:=by
 refine⟨AP N++List.replicate (k-(AP N).length) 0,?_,?_⟩
 ·have:=Ex h;simp;omega
 rw[Lq,Ga,Am];simp
theorem MP (N i:Nat):N%2^(32*(i+1))=N%2^(32*i)+2^(32*i)*(N/2^(32*i)%4294967296):=by
 rw[C8,Nat.mul_comm 4294967296,Nat.mod_mul]
theorem VI {x y r n:Nat} (k:x<4294967296) (w:n<=31):(x+4294967296*(y+4294967296*r))/2^n%4294967296=x/2^n+y*2^(32-n)%4294967296:=by
 obtain⟨d,j⟩:∃d,32-n=d:=⟨_,rfl⟩
 have e:(4294967296:Nat)=2^n*2^d:=by rw[<-Nat.pow_add,show n+d=32 by omega]
 have a:0<2^n:=Nat.two_pow_pos n;have z:0<2^d:=Nat.two_pow_pos d;rw[j];have c:x+4294967296*(y+4294967296*r)=x+2^n*(2^d*(y+4294967296*r)):=by rw[<-Nat.mul_assoc,<-e]
 rw[c,Nat.add_mul_div_left _ _ a];have m:x/2^n<2^d:=Nat.div_lt_of_lt_mul (by rw[<-e];exact k);have f:x/2^n+2^d*(y+4294967296*r)=(x/2^n+y*2^d)+4294967296*(2^d*r):=by rw[Nat.mul_add];grind
 rw[f,Nat.add_mul_mod_self_left];have g:y*2^d%4294967296=2^d*(y%2^n):=by rw[e,Nat.mul_comm (2^n),Nat.mul_comm y,Nat.mul_mod_mul_left]
 rw[Nat.add_mod,g]
 have v:2^d*(y%2^n)+2^d<=4294967296:=by
  have:y%2^n+1<=2^n:=Nat.mod_lt _ a;have:=Nat.mul_le_mul_left (2^d) this;rw[e,Nat.mul_comm (2^n)];rw[Nat.mul_add] at this;omega
 have h:x/2^n%4294967296=x/2^n:=Nat.mod_eq_of_lt (by omega);rw[h,Nat.mod_eq_of_lt (by omega)]
theorem Ik {a b d:Nat} (h:a<2^d):a ||| (2^d*b)=a+2^d*b:=by
 rw[Nat.or_comm,<-Nat.two_pow_add_eq_or_of_lt h,Nat.add_comm]
theorem Cq {i:Nat} {x:UInt32} (h:l[i]? =some x):AE (l.drop i)=x.toNat+4294967296*AE (l.drop (i+1)):=by
 have a:i<l.length:=by
  apply Classical.byContradiction;intro c;rw[List.getElem?_eq_none (by omega)] at h;exact absurd h (by simp)
 rw[List.drop_eq_getElem_cons a,AE];rw[List.getElem?_eq_getElem a] at h;rw[Option.some.inj h]
theorem LB {i:Nat} (h:i<=l.length):AE l/2^(32*i)=AE (l.drop i):=by
 rw[Em l i h,Nat.add_mul_div_left _ _ (Nat.two_pow_pos _)];have:=Bx (l.take i);rw[List.length_take,Nat.min_eq_left h] at this;rw[Nat.div_eq_of_lt this,Nat.zero_add]
theorem LF {i off:Nat} {w:UInt32}:(l.set (off+i) w).drop off=(l.drop off).set i w:=by
 rw[List.drop_set,if_neg (by omega)]
 congr 1
 omega
theorem eP {D Ef Eg i:Nat} {w:UInt32} (a:i<o.length) (h:AE (o.take i)+B*D=A+2^(32*i)*Ef) (c:w.toNat+yi*D+Ef=xi+4294967296*Eg):
  AE ((o.set i w).take (i+1))+(B+2^(32*i)*yi)*D=(A+2^(32*i)*xi)+2^(32*(i+1))*Eg:=by
 rw[Dz a,DH,C8,List.length_take,Nat.min_eq_left (by omega)]
 generalize 2^(32*i)=P at*
 have e:P*(w.toNat+yi*D+Ef)=P*(xi+4294967296*Eg):=by rw[c]
 grind
theorem YL {Kz K4 i:Nat} {w:UInt32} (a:i<o.length) (h:AE (o.take i)+2^(32*i)*Kz=A+B) (c:w.toNat+4294967296*K4=xi+yi+Kz):
  AE ((o.set i w).take (i+1))+2^(32*(i+1))*K4=(A+2^(32*i)*xi)+(B+2^(32*i)*yi):=by
 rw[Dz a,DH,C8,List.length_take,Nat.min_eq_left (by omega)]
 generalize 2^(32*i)=P at*
 have e:P*(w.toNat+4294967296*K4)=P*(xi+yi+Kz):=by rw[c]
 grind
end Go.Abs
namespace Go.Abs
variable {D P R R0 R2 S V V0 V2 high next r top u3:Nat}
theorem U3 {u:List UInt32} {off len:Nat} (c:S<2^(32*len)) (f:off+len<=u.length):
  ∃z:List UInt32,z.length=u.length/\z.take off=u.take off/\z.drop (off+len)=u.drop (off+len)/\AE ((z.drop off).take len)=S:=by
 obtain⟨y,g,a⟩:=Hj c;have d:(u.take off).length=off:=by rw[List.length_take];omega
 refine⟨u.take off++(y++u.drop (off+len)),?_,?_,?_,?_⟩
 ·simp;omega
 ·rw[List.take_append_of_le_length (by omega),List.take_of_length_le (by omega)]
 ·rw[<-List.drop_drop,List.drop_append_of_le_length (by omega),List.drop_eq_nil_of_le (by omega:(u.take off).length<=off),List.nil_append,List.drop_append_of_le_length (by omega),List.drop_eq_nil_of_le (by omega:y.length<=len),List.nil_append]
 rw[List.drop_append_of_le_length (by omega),List.drop_eq_nil_of_le (by omega:(u.take off).length<=off),List.nil_append,List.take_append_of_le_length (by omega),List.take_of_length_le (by omega),a]
theorem Ro (hR:R=R2*P+R0) (a:R0<P) (hV:V=V2*P+V0) (h:R2<D*V2):R/V<D:=by
 have g:0<P:=by omega
 have c:0<V2:=by
  apply Nat.pos_of_ne_zero;intro e;subst e;simp at h
 apply Nat.div_lt_of_lt_mul;have d:(R2+1)*P<=D*V2*P:=Nat.mul_le_mul_right _ h;have f:V*D=D*V2*P+V0*D:=by rw[hV];grind
 have h3:(R2+1)*P=R2*P+P:=by grind
 omega
theorem Rp (hR:R=R2*P+R0) (hV:V=V2*P+V0) (d:V0<P) (h:D*V2<=R2) (m:D<=V2+1):D<=R/V+1:=by
 cases D with
 | zero=>exact Nat.zero_le _
 | succ D=>
  have a:0<V\/V=0:=by omega
  rcases a with a | a
  ·have:D<=R/V:=by
    rw[Nat.le_div_iff_mul_le a];have f:(D+1)*V2*P<=R2*P:=Nat.mul_le_mul_right _ h;have g:D*V=D*V2*P+D*V0:=by rw[hV];grind
    have h3:(D+1)*V2*P=D*V2*P+V2*P:=by grind
    have j:D*V0<=D*P:=Nat.mul_le_mul_left _ (by omega);have k:D*P<=V2*P:=Nat.mul_le_mul_right _ (by omega);omega
   exact Nat.succ_le_succ this
  have c:V2*P=0:=by omega
  have v:0<P:=by omega
  have:V2=0:=by
   rcases Nat.mul_eq_zero.1 c with e | e
   ·exact e
   omega
  exact Nat.le_trans (by omega:D+1<=1) (Nat.le_add_left _ _)
structure Gk (R V top high D r:Nat):Prop where
 sum:r+D*high=top
 up:R/V<=D
 Lm:D<=4294967297
 rest:r<4294967296
theorem Zt (hR:R=top*P+R0) (a:R0<P) (hV:V=high*P+V0) (h:2147483648<=high) (f:high<4294967296) (ht:top<4294967296*(high+1)):Gk R V top high (top/high) (top%high):=by
 have hm:=Nat.div_add_mod top high;have g:=Nat.mod_lt top (by omega:0<high);refine⟨by rw[Nat.mul_comm] at hm;omega,?_,?_,by omega⟩
 ·have c:top<(top/high+1)*high:=by rw[Nat.add_mul,Nat.mul_comm];omega
  exact Nat.le_of_lt_succ (Ro hR a hV c)
 have d:top<4294967298*high:=by omega
 have h3:top/high<4294967298:=(Nat.div_lt_iff_lt_mul (by omega)).2 d;exact Nat.le_of_lt_succ h3
theorem SV (g:Gk R V top high D r) (a:R/V<4294967296) (h:4294967296<=D:=by omega):R/V<=D-1:=by
 have:=g.up;exact Nat.le_sub_one_of_lt (Nat.lt_of_lt_of_le a h)
theorem SW (g:Gk R V top high D r) (hR:R=(4294967296*top+u3)*P+R0) (a:R0<P) (hV:V=(4294967296*high+next)*P+V0) (h:4294967296*r+u3<D*next):R/V<=D-1:=by
 have f:4294967296*top+u3<D*(4294967296*high+next):=by
  have e:=g.sum
  clear g hR hV
  rw[<-e];have c:D*(4294967296*high+next)=4294967296*(D*high)+D*next:=by grind
  have d:4294967296*(r+D*high)=4294967296*r+4294967296*(D*high):=by grind
  rw[c,d]
  generalize D*high=Q at*
  generalize D*next=T at*
  omega
 exact Nat.le_sub_one_of_lt (Ro hR a hV f)
theorem SX (g:Gk R V top high D r) (a:R/V<=D-1) (d:0<D) (c:r+high<4294967296):Gk R V top high (D-1) (r+high):=by
 refine⟨?_,a,by have:=g.Lm;omega,c⟩;have:=g.sum;obtain⟨D,rfl⟩:∃k,D=k+1:=⟨D-1,by omega⟩
 simp only[Nat.add_sub_cancel];rw[Nat.add_mul] at this;omega
structure JA (R V D:Nat):Prop where
 up:R/V<=D
 low:D<=R/V+1
 word:D<4294967296
theorem OJ (g:Gk R V top high D r) (hR:R=(4294967296*top+u3)*P+R0) (hV:V=(4294967296*high+next)*P+V0) (a:V0<P) (d:2147483648<=high)
  (c:D<4294967296) (h:D*next<=4294967296*r+u3:=by omega):JA R V D:=by
 refine⟨g.up,Rp hR hV a ?_ (by omega),c⟩;have e:=g.sum;rw[<-e];have:D*(4294967296*high+next)=4294967296*(D*high)+D*next:=by grind
 have:4294967296*(r+D*high)=4294967296*r+4294967296*(D*high):=by grind
 omega
theorem OI (g:Gk R V top high D r) (d:R/V<=D-1) (w:0<D) (hR:R=(4294967296*top+u3)*P+R0) (hV:V=(4294967296*high+next)*P+V0) (c:V0<P) (C:2147483648<=high) (F:next<4294967296)
  (ht:top<4294967296*(high+1)) (f:4294967296<=r+high:=by omega):JA R V (D-1):=by
 obtain⟨D,rfl⟩:∃k,D=k+1:=⟨D-1,by omega⟩
 simp only[Nat.add_sub_cancel] at d ⊢;have e:=g.sum;have hm:=g.Lm;have h:(r+high)+D*high=top:=by rw[Nat.add_mul] at e;omega
 have a:D<4294967296:=by
  apply Classical.byContradiction;intro z;have:4294967296*high<=D*high:=Nat.mul_le_mul_right _ (by omega);omega
 refine⟨d,Rp hR hV c ?_ (by omega),a⟩;rw[<-h];have j:D*(4294967296*high+next)=4294967296*(D*high)+D*next:=by grind
 have m:4294967296*(r+high+D*high)=4294967296*(r+high)+4294967296*(D*high):=by grind
 have h3:D*next<=4294967296*4294967296:=Nat.mul_le_mul (by omega) (by omega);have v:4294967296*4294967296<=4294967296*(r+high):=Nat.mul_le_mul_left _ f;omega
theorem TS {M:Nat} {b:Bool} (f:JA R V D) (hV:0<V) (h:S+V*D=R+M*b.toNat) (k:S<M):
  (b=false->D=R/V/\S=R%V)/\(b=true->D-1=R/V/\0<D/\(R%V<M->(S+V)%M=R%V)):=by
 have m:=Nat.div_add_mod R V;have v:=Nat.mod_lt R hV;obtain⟨g,j,_⟩:=f
 generalize R/V=Q at*
 generalize R%V=T at*
 constructor
 ·rintro rfl;simp at h
  have a:D=Q:=by
   apply Classical.byContradiction;intro d;have:D=Q+1:=by omega
   rw[this,Nat.mul_add] at h;omega
  exact⟨a,by rw[a] at h;omega⟩
 rintro rfl;simp at h
 have a:D=Q+1:=by
  apply Classical.byContradiction;intro d;have:D=Q:=by omega
  rw[this] at h;omega
 refine⟨by omega,by omega,fun c=>?_⟩;rw[a,Nat.mul_add] at h;have:S+V=T+M*1:=by omega
 rw[this,Nat.add_mul_mod_self_left,Nat.mod_eq_of_lt c]
end Go.Abs
namespace Go.Abs
variable {A R V b i n q s:Nat} {u:List UInt32}
theorem eQ {D M:Nat} (d:JA R V D) (hV:0<V) (hR:R<M) (c:V<=M):∃(b:Bool) (S:Nat),S+V*D=R+M*b.toNat/\S<M:=by
 have f:=Nat.div_add_mod R V;have a:V*D<=V*(R/V+1):=Nat.mul_le_mul_left _ d.low;rw[Nat.mul_add] at a
 by_cases h:V*D<=R
 ·exact⟨false,R-V*D,by simp;omega,by omega⟩
 refine⟨true,R+M-V*D,?_,by omega⟩;simp
 generalize V*(R/V)=T at*
 omega
theorem eo {x y w:UInt32} (a:u[i+n]? =some x) (g:u[i+n-1]? =some y) (hw:u[i+n-2]? =some w) (j:2<=n) (d:AE (u.drop (i+n+1))=0):
  AE (u.drop i)=(4294967296*(y.toNat+4294967296*x.toNat)+w.toNat)*2^(32*(n-2))+AE ((u.drop i).take (n-2)):=by
 have f:i+n<u.length:=by
  apply Classical.byContradiction;intro h;rw[List.getElem?_eq_none (by omega)] at a;exact absurd a (by simp)
 have c:=Em (u.drop i) (n-2) (by rw[List.length_drop];omega);rw[List.drop_drop,show i+(n-2)=i+n-2 by omega,Cq hw,show i+n-2+1=i+n-1 by omega,Cq g,show i+n-1+1=i+n by omega,Cq a,d] at c;rw[c]
 generalize 2^(32*(n-2))=P
 grind
theorem eh {v:List UInt32} {y w:UInt32} (hlen:v.length=n) (d:v[n-1]? =some y) (hw:v[n-2]? =some w) (f:2<=n):
  AE v=(4294967296*y.toNat+w.toNat)*2^(32*(n-2))+AE (v.take (n-2))/\AE v=y.toNat*2^(32*(n-1))+AE (v.take (n-1)):=by
 have a:=Em v (n-2) (by omega);rw[Cq hw,show n-2+1=n-1 by omega,Cq d,show n-1+1=n by omega,List.drop_eq_nil_of_le (by omega)] at a;have c:=Em v (n-1) (by omega);rw[Cq d,show n-1+1=n by omega,List.drop_eq_nil_of_le (by omega)] at c
 constructor
 ·rw[a];simp only[AE];generalize 2^(32*(n-2))=P;grind
 rw[c];simp only[AE];generalize 2^(32*(n-1))=P;grind
theorem Iz {l:List UInt32}:AE (l.take n)<2^(32*n):=
 Nat.lt_of_lt_of_le (Bx _) (Nat.pow_le_pow_right (by decide) (by rw[List.length_take];omega))
theorem Np {l:List UInt32} (h:AE l<2^(32*n)) (a:n<=l.length):AE (l.drop n)=0:=by
 have c:=Em l n a;apply Classical.byContradiction;intro d;have:2^(32*n)*1<=2^(32*n)*AE (l.drop n):=Nat.mul_le_mul_left _ (by omega);omega
theorem Ul {z:List UInt32} {Q:Nat} (v:z.length=u.length) (a:z.take i=u.take i) (c:z.drop (i+(n+1))=u.drop (i+(n+1))) (hlen:i+(n+1)<=u.length) (g:AE (u.drop (i+n+1))=0)
  (m:q=AE (u.drop i)/V) (k:AE ((z.drop i).take (n+1))=AE (u.drop i)%V) (j:A=AE u+2^(32*(i+1))*Q*V):
  AE (z.drop i)=AE (u.drop i)%V/\A=AE z+2^(32*i)*(q+4294967296*Q)*V:=by
 have d:AE (z.drop i)=AE (u.drop i)%V:=by
  have:=Em (z.drop i) (n+1) (by rw[List.length_drop];omega);rw[List.drop_drop,c,show i+(n+1)=i+n+1 by omega,g,k] at this;simpa using this
 refine⟨d,?_⟩;have h:=Em u i (by omega);have h3:=Em z i (by omega);rw[a,d] at h3;have f:=Nat.div_add_mod (AE (u.drop i)) V;rw[<-m] at f;rw[j,h,h3,C8,<-f]
 generalize 2^(32*i)=P
 grind
theorem U4 (h:i+n<=u.length) (a:AE (u.drop (i+n))=0):AE ((u.drop i).take n)=AE (u.drop i):=by
 have:=Em (u.drop i) n (by rw[List.length_drop];omega);rw[List.drop_drop,a] at this;simpa using this.symm
theorem JW {x:UInt32} (g:(AP b)[i]? =some x) (a:i+1=(AP b).length):x.toNat≠0:=by
 intro c;have hb:b≠0:=fun e=>by subst e;simp[Ey] at a
 have d:=S9 hb;have f:=Bq g;rw[a,List.take_length,Am,c] at f;have h3:=Bx ((AP b).take i);rw[List.length_take,Nat.min_eq_left (by omega)] at h3;rw[<-a,Nat.add_sub_cancel] at d;omega
theorem VG {k:Nat} {x:UInt32} (a:(AP b).length=n) (g:1<=n) (z:(AP b)[n-1]? =some x) (f:2^(k-1)<=x.toNat) (h:x.toNat<2^k) (J:1<=k) (v:k<=32) (K:s=32-k):
  (AP (b*2^s)).length=n/\2147483648*2^(32*(n-1))<=b*2^s:=by
 have c:2^(k-1)*2^s=2147483648:=by rw[<-Nat.pow_add,show k-1+s=31 by omega]
 have d:2^k*2^s=4294967296:=by rw[<-Nat.pow_add,show k+s=32 by omega]
 have h3:=Bq z;rw[show n-1+1=n by omega,<-a,List.take_length,Am,a] at h3;have j:=Bx ((AP b).take (n-1));rw[List.length_take,Nat.min_eq_left (by omega)] at j;have w:2^(32*n)=4294967296*2^(32*(n-1)):=by rw[<-C8,show n-1+1=n by omega]
 generalize m:2^(32*(n-1))=P at*
 have low:2147483648*P<=b*2^s:=by
  rw[<-c,h3];have:2^(k-1)*2^s*P<=x.toNat*2^s*P:=Nat.mul_le_mul_right _ (Nat.mul_le_mul_right _ f);have:(AE (List.take (n-1) (AP b))+P*x.toNat)*2^s=AE (List.take (n-1) (AP b))*2^s+x.toNat*2^s*P:=by grind
  omega
 refine⟨?_,low⟩
 have up:b*2^s<2^(32*n):=by
  rw[w,<-d];have C:b<(x.toNat+1)*P:=by rw[h3,Nat.add_mul,Nat.mul_comm P];omega
  have F:(x.toNat+1)*P<=2^k*P:=Nat.mul_le_mul_right _ h;have G:b*2^s<2^k*P*2^s:=(Nat.mul_lt_mul_right (Nat.two_pow_pos s)).2 (by omega);have:2^k*2^s*P=2^k*P*2^s:=by grind
  omega
 have H:=Ex up;have I:=Sz (n:=b*2^s) (k:=n-1) (by rw[m];omega);omega
theorem MJ (l:List UInt32) (h:s<=31:=by omega):AE l*2^s<2^(32*(l.length+1)):=by
 rw[C8,Nat.mul_comm 4294967296];exact Nat.mul_lt_mul_of_lt_of_le (Bx l) (Nat.le_trans (Nat.pow_le_pow_right (by decide) h:2^s<=2^31) (by decide)) (by decide)
theorem Zw {a rest:Nat} (h:2147483648*2^(32*(n-1))<=V) (hV:V=a*2^(32*(n-1))+rest) (d:rest<2^(32*(n-1))):2147483648<=a:=by
 generalize 2^(32*(n-1))=P at*
 apply Classical.byContradiction;intro c;have:(a+1)*P<=2147483648*P:=Nat.mul_le_mul_right _ (by omega);rw[Nat.add_mul] at this;omega
theorem Vj {l:List UInt32} {m:Nat} (hu:AE u=AE l*2^s) (g:s<=31) (hlen:u.length=l.length+1) (hm:m+n=l.length+1) (v:1<=n) (hV:2147483648*2^(32*(n-1))<=V):AE (u.drop m)<V:=by
 have a:=Em u m (by omega);have c:=Bx l;have h3:2^(32*l.length)=2^(32*m)*2^(32*(n-1)):=by rw[<-Nat.pow_add,show 32*m+32*(n-1)=32*l.length by omega]
 have d:2^s<=2147483648:=Nat.le_trans (Nat.pow_le_pow_right (by decide) g:2^s<=2^31) (by decide);have f:AE l*2^s<2^(32*l.length)*2147483648:=Nat.mul_lt_mul_of_lt_of_le c d (by decide);rw[hu,] at a;rw[h3] at f;have w:=Nat.two_pow_pos (32*m)
 generalize 2^(32*m)=P at*
 generalize 2^(32*(n-1))=N at*
 apply Classical.byContradiction;intro k;have h:P*(2147483648*N)<=P*AE (u.drop m):=Nat.mul_le_mul_left _ (by omega);have j:P*N*2147483648=P*(2147483648*N):=by grind
 omega
theorem et {x y:UInt32} (a:u[i+n]? =some x) (g:u[i+n-1]? =some y) (j:1<=n) (d:AE (u.drop (i+n+1))=0):
  AE (u.drop i)=(y.toNat+4294967296*x.toNat)*2^(32*(n-1))+AE ((u.drop i).take (n-1)):=by
 have f:i+n<u.length:=by
  apply Classical.byContradiction;intro h;rw[List.getElem?_eq_none (by omega)] at a;exact absurd a (by simp)
 have c:=Em (u.drop i) (n-1) (by rw[List.length_drop];omega);rw[List.drop_drop,show i+(n-1)=i+n-1 by omega,Cq g,show i+n-1+1=i+n by omega,Cq a,d] at c;rw[c]
 generalize 2^(32*(n-1))=P
 grind
theorem ef {top high P c a:Nat} (hR:R=top*P+c) (hV:V=high*P+a) (d:a<P) (h:R<4294967296*V):top<4294967296*(high+1):=by
 apply Classical.byContradiction;intro j;have f:4294967296*(high+1)*P<=top*P:=Nat.mul_le_mul_right _ (by omega);have g:4294967296*(high+1)*P=4294967296*(high*P)+4294967296*P:=by grind
 omega
theorem Rx {a r:Nat} (f:A=a*2^s) (hV:V=b*2^s) (h:A=r+q*V) (z:r<V) (hb:0<b):q=a/b/\r/2^s=a%b:=by
 have g:=Nat.two_pow_pos s;have v:=Nat.div_add_mod a b;have w:=Nat.mod_lt a hb
 have e:a*2^s=(a%b)*2^s+(a/b)*V:=by rw[hV];conv=>lhs;rw[<-v]
                                    grind
 have d:(a%b)*2^s<V:=by rw[hV];exact (Nat.mul_lt_mul_right g).2 w
 have c:0<V:=by omega
 have j:q=a/b:=by
  have k:A/V=q:=by rw[h,Nat.add_mul_div_right _ _ c,Nat.div_eq_of_lt z,Nat.zero_add]
  have m:A/V=a/b:=by rw[f,e,Nat.add_mul_div_right _ _ c,Nat.div_eq_of_lt d,Nat.zero_add]
  rw[<-k,m]
 refine⟨j,?_⟩;have:r=(a%b)*2^s:=by rw[f,e,j] at h;omega
 rw[this,Nat.mul_div_cancel _ g]
end Go.Abs
namespace Go.Abs
def Bk (x y:Int):Int:=if 0<=y then x/y else (-x)/(-y)
variable {N X:Nat} {b:Bool} {x y:Int}
theorem ID {a b q r:Int} (hb:0<b) (h:a=b*q+r) (c:0<=r) (d:r<b):a/b=q:=((Int.ediv_emod_unique hb).2 ⟨by omega,c,d⟩).1
theorem Rt (g:y≠0) (c:decide (x<0)=decide (y<0)):Bk x y=((x.natAbs/y.natAbs:Nat):Int):=by
 have d:=Nat.div_add_mod x.natAbs y.natAbs;have hm:=Nat.mod_lt x.natAbs (by omega:0<y.natAbs)
 generalize x.natAbs/y.natAbs=q at*
 generalize x.natAbs%y.natAbs=r at*
 have a:(y.natAbs:Int)*q+r=x.natAbs:=by rw[<-d];simp
 unfold Bk
 by_cases h:0<=y
 ·rw[if_pos h]
  have:¬x<0:=by intro f;have:y<0:=by simpa [f] using c
                omega
  rw[show (y.natAbs:Int)=y by omega,show (x.natAbs:Int)=x by omega] at a;exact ID (r:=r) (by omega) a.symm (by omega) (by omega)
 rw[if_neg h]
 have:x<0:=by have:y<0:=by omega
              simpa [this] using c
 rw[show (y.natAbs:Int)= -y by omega,show (x.natAbs:Int)= -x by omega] at a;exact ID (r:=r) (by omega) a.symm (by omega) (by omega)
theorem Rq (j:y≠0) (f:decide (x<0)≠decide (y<0)) (g:x.natAbs%y.natAbs=0):Bk x y= -((x.natAbs/y.natAbs:Nat):Int):=by
 have d:=Nat.div_add_mod x.natAbs y.natAbs;rw[g] at d
 generalize x.natAbs/y.natAbs=q at*
 have a:(y.natAbs:Int)*q=x.natAbs:=by rw[<-d];simp
 unfold Bk
 by_cases h:0<=y
 ·rw[if_pos h]
  have c:x<0:=by
   apply Classical.byContradiction;intro c;exact f (by rw[decide_eq_false c,decide_eq_false (by omega)])
  rw[show (y.natAbs:Int)=y by omega,show (x.natAbs:Int)= -x by omega] at a;exact ID (r:=0) (by omega) (by rw[Int.mul_neg,a];omega) (by omega) (by omega)
 rw[if_neg h]
 have c:¬x<0:=by
  intro c;exact f (by rw[decide_eq_true c,decide_eq_true (by omega)])
 rw[show (y.natAbs:Int)= -y by omega,show (x.natAbs:Int)=x by omega] at a;exact ID (r:=0) (by omega) (by rw[Int.mul_neg,a];omega) (by omega) (by omega)
theorem Rr (j:y≠0) (d:decide (x<0)≠decide (y<0)) (g:x.natAbs%y.natAbs≠0):Bk x y= -((x.natAbs/y.natAbs+1:Nat):Int):=by
 have f:=Nat.div_add_mod x.natAbs y.natAbs;have hm:=Nat.mod_lt x.natAbs (by omega:0<y.natAbs)
 generalize x.natAbs/y.natAbs=q at*
 generalize x.natAbs%y.natAbs=r at*
 have a:(y.natAbs:Int)*q+r=x.natAbs:=by rw[<-f];simp
 unfold Bk
 by_cases h:0<=y
 ·rw[if_pos h]
  have c:x<0:=by
   apply Classical.byContradiction;intro c;exact d (by rw[decide_eq_false c,decide_eq_false (by omega)])
  rw[show (y.natAbs:Int)=y by omega,show (x.natAbs:Int)= -x by omega] at a;refine ID (r:=y-r) (by omega) ?_ (by omega) (by omega);rw[Int.natCast_add,Int.mul_neg,Int.mul_add];omega
 rw[if_neg h]
 have c:¬x<0:=by
  intro c;exact d (by rw[decide_eq_true c,decide_eq_true (by omega)])
 rw[show (y.natAbs:Int)= -y by omega,show (x.natAbs:Int)=x by omega] at a;refine ID (r:= -y-r) (by omega) ?_ (by omega) (by omega);rw[Int.natCast_add,Int.mul_neg,Int.mul_add];omega
def FY (x y:Int):Int:=x-y*Bk x y
theorem OG:(y.natAbs:Int)*((x.natAbs/y.natAbs:Nat):Int)+((x.natAbs%y.natAbs:Nat):Int)=x.natAbs:=by
 rw[<-Int.natCast_mul,<-Int.natCast_add,Nat.div_add_mod]
theorem ax (hb:b=decide (y<0)) (f:y≠0) (a:decide (x<0)=decide (y<0)):FY x y=if b=true then -((x.natAbs%y.natAbs:Nat):Int) else ((x.natAbs%y.natAbs:Nat):Int):=by
 have d:= @OG x y;unfold FY;rw[Rt f a]
 generalize x.natAbs/y.natAbs=q at*
 generalize x.natAbs%y.natAbs=r at*
 by_cases h:y<0
 ·have c:x<0:=by simpa [h] using a
  rw[hb,decide_eq_true h,if_pos rfl];rw[show (y.natAbs:Int)= -y by omega,show (x.natAbs:Int)= -x by omega,Int.neg_mul] at d;omega
 have c:¬x<0:=by intro c;simp[c,h] at a
 rw[hb,decide_eq_false h,if_neg (by simp)];rw[show (y.natAbs:Int)=y by omega,show (x.natAbs:Int)=x by omega] at d;omega
theorem au (g:y≠0) (d:decide (x<0)≠decide (y<0)) (f:x.natAbs%y.natAbs=0):FY x y=if b=true then -((x.natAbs%y.natAbs:Nat):Int) else ((x.natAbs%y.natAbs:Nat):Int):=by
 have c:= @OG x y;unfold FY;rw[Rq g d f];rw[f] at c ⊢
 generalize x.natAbs/y.natAbs=q at*
 have e:x-y* -(q:Int)=0:=by
  by_cases h:y<0
  ·have a:¬x<0:=by intro a;exact d (by rw[decide_eq_true a,decide_eq_true h])
   rw[show (y.natAbs:Int)= -y by omega,show (x.natAbs:Int)=x by omega,Int.neg_mul] at c;rw[Int.mul_neg];omega
  have a:x<0:=by apply Classical.byContradiction;intro a;exact d (by rw[decide_eq_false a,decide_eq_false h])
  rw[show (y.natAbs:Int)=y by omega,show (x.natAbs:Int)= -x by omega] at c;rw[Int.mul_neg];omega
 rw[e];cases b <;> rfl
theorem aw (hb:b=decide (y<0)) (g:y≠0) (c:decide (x<0)≠decide (y<0)) (f:x.natAbs%y.natAbs≠0):
  FY x y=if b=true then -((y.natAbs-x.natAbs%y.natAbs:Nat):Int) else ((y.natAbs-x.natAbs%y.natAbs:Nat):Int):=by
 have d:= @OG x y;have hm:=Nat.mod_lt x.natAbs (by omega:0<y.natAbs);unfold FY;rw[Rr g c f]
 generalize x.natAbs/y.natAbs=q at*
 generalize x.natAbs%y.natAbs=r at*
 rw[Int.natCast_add,Int.mul_neg,Int.mul_add]
 by_cases h:y<0
 ·have a:¬x<0:=by intro a;exact c (by rw[decide_eq_true a,decide_eq_true h])
  rw[hb,decide_eq_true h,if_pos rfl];rw[show (y.natAbs:Int)= -y by omega,show (x.natAbs:Int)=x by omega,Int.neg_mul] at d;omega
 have a:x<0:=by apply Classical.byContradiction;intro a;exact c (by rw[decide_eq_false a,decide_eq_false h])
 rw[hb,decide_eq_false h,if_neg (by simp)];rw[show (y.natAbs:Int)=y by omega,show (x.natAbs:Int)= -x by omega] at d;omega
theorem Vi (v:A0 N<=X) (a:0<X):A0 N<=(X+N/X)/2:=by
 have h:=Jl N
 generalize A0 N=s at*
 have j:X*(N/X)+N%X=N:=Nat.div_add_mod N X;have h3:=Nat.mod_lt N a
 generalize N/X=q at*
 rw[Nat.le_div_iff_mul_le (by decide)];apply Classical.byContradiction;intro w;have k:X+q+1<=2*s:=by omega
 obtain⟨d,rfl⟩:∃d,X=s+d:=⟨X-s,by omega⟩
 have c:q+1<=s-d:=by omega
 have f:(s+d)*(q+1)<=(s+d)*(s-d):=Nat.mul_le_mul_left _ c
 have m:(s+d)*(s-d)<=s*s:=by
  by_cases g:d<=s
  ·obtain⟨e,rfl⟩:∃e,s=e+d:=⟨s-d,by omega⟩
   have:(e+d)*(e+d)=(e+d+d)*e+d*d:=by grind
   rw[Nat.add_sub_cancel];omega
  rw[show s-d=0 by omega];simp
 rw[Nat.mul_add] at f;omega
theorem eK (g:A0 N<=X) (a:0<X) (h:X<=(X+N/X)/2):A0 N=X:=by
 have c:X<=N/X:=by omega
 have d:X*X<=N:=by
  have:=(Nat.le_div_iff_mul_le a).1 c;exact this
 have h3:=Lk N;have f:X<A0 N+1:=Nat.mul_self_lt_mul_self_iff.1 (by omega);omega
theorem eN (h:N≠0):A0 N<=2^((Nat.log2 N+1)/2+1):=by
 apply Classical.byContradiction;intro f;have a:=Jl N;have c:N<2^(Nat.log2 N+1):=(Nat.log2_lt h).1 (Nat.lt_succ_self _);have h3:2^((Nat.log2 N+1)/2+1)*2^((Nat.log2 N+1)/2+1)<=A0 N*A0 N:=Nat.mul_le_mul (by omega) (by omega);rw[<-Nat.pow_add] at h3;have d:2^(Nat.log2 N+1)<=2^((Nat.log2 N+1)/2+1+((Nat.log2 N+1)/2+1)):=Nat.pow_le_pow_right (by decide) (by omega);omega
end Go.Abs
