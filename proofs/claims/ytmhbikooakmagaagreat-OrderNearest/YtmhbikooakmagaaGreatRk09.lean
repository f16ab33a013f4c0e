/- Part 10 of a proof. Conditions: each theorem's own. -/
import Derived.Test.YtmhbikooakmagaaGreatRk08
set_option linter.all false
set_option maxHeartbeats 8000000
set_option maxRecDepth 20000
namespace Go.Abs
def DN (D:Nat) (a:List Rat):Prop:=∀q∈a,∃n:Int,q*D=n
def MX (B:Nat) (a:List Rat):Prop:=∀q∈a,-(B:Rat)<=q/\q<=B
def Bd (k:Nat) (a:List Rat):Prop:=∃D:Nat,0<D/\D<=2^k/\DN D a/\MX (2^k) a
def TB (R:Nat) (u:List (List Rat)):Prop:=∀r∈u,Bd R r
def EE:Nat->Nat->Nat
 | 0,_=>0
 | h+1,R=>2*EE h R+R+2
def II:Nat->Nat->Nat->Nat
 | 0,_,s=>2*s
 | h+1,R,s=>s+EE h R+II h R (2*s+2*EE h R+R+1)
def GG:Nat->Nat->Nat
 | 0,_=>0
 | h+1,R=>3*EE h R+R+1+2*GG h R+II h R R
theorem ig {p q:Rat} (h:∃n:Int,p=n) (k:∃n:Int,q=n):∃n:Int,p+q=n:=by
 obtain⟨a,rfl⟩:=h;obtain⟨b,rfl⟩:=k;exact⟨a+b,by rw[Rat.intCast_add]⟩
theorem Wr {p q:Rat} (h:∃n:Int,p=n) (k:∃n:Int,q=n):∃n:Int,p*q=n:=by
 obtain⟨a,rfl⟩:=h;obtain⟨b,rfl⟩:=k;exact⟨a*b,by rw[Rat.intCast_mul]⟩
theorem ij (k:Nat):∃n:Int,(k:Rat)=n:=⟨k,rfl⟩
theorem Fp (a b:Nat):((a*b:Nat):Rat)=(a:Rat)*b:=Rat.natCast_mul a b
theorem DN.mul_right {D:Nat} {a:List Rat} (h:DN D a) (c:Nat):DN (D*c) a:=fun q d=>by
 have:=Wr (h q d) (ij c);rwa [Rat.mul_assoc,<-Fp] at this
theorem DN.dvd {D E:Nat} {a:List Rat} (h:DN D a) (d:D∣E):DN E a:=by
 obtain⟨c,rfl⟩:=d;exact h.mul_right c
theorem a8 {a b:List Rat} {q:Rat} (h:q∈List.zipWith (· + ·) a b):∃x∈a,∃y∈b,q=x+y:=by
 obtain⟨i,hi⟩:=List.mem_iff_getElem?.1 h;rw[List.getElem?_zipWith] at hi;cases ha:a[i]? with
 | none=>rw[ha] at hi;simp at hi
 | some x=>
  cases hb:b[i]? with
  | none=>rw[ha,hb] at hi;simp at hi
  | some y=>
   rw[ha,hb] at hi;exact⟨x,List.mem_of_getElem? ha,y,List.mem_of_getElem? hb,(Option.some.inj hi).symm⟩
theorem DN.add {D:Nat} {a b:List Rat} (h:DN D a) (k:DN D b):DN D (List.zipWith (· + ·) a b):=fun q c=>by
 obtain⟨x,d,y,f,rfl⟩:=a8 c;have:=ig (h x d) (k y f);rwa [<-Rat.add_mul] at this
theorem DN.neg {D:Nat} {a:List Rat} (h:DN D a):DN D (a.map (- ·)):=fun q d=>by
 obtain⟨x,f,rfl⟩:=List.mem_map.1 d;obtain⟨n,c⟩:=h x f;exact⟨-n,by rw[Rat.intCast_neg,<-c,Rat.neg_mul]⟩
theorem MX.add {B C:Nat} {a b:List Rat} (h:MX B a) (k:MX C b):MX (B+C) (List.zipWith (· + ·) a b):=fun q c=>by
 obtain⟨x,d,y,f,rfl⟩:=a8 c;have:=h x d;have:=k y f;rw[Rat.natCast_add]
 grind
theorem MX.neg {B:Nat} {a:List Rat} (h:MX B a):MX B (a.map (- ·)):=fun q c=>by
 obtain⟨x,d,rfl⟩:=List.mem_map.1 c;have:=h x d
 grind
theorem MX.mono {B C:Nat} {a:List Rat} (h:MX B a) (c:B<=C):MX C a:=fun q f=>by
 have:=h q f;have d:(B:Rat)<=C:=Rat.natCast_le_natCast.2 c
 grind
theorem DN.app {D:Nat} {a b:List Rat}:DN D (a++b)↔DN D a/\DN D b:=
 ⟨fun h=>⟨fun q c=>h q (List.mem_append_left _ c),fun q c=>h q (List.mem_append_right _ c)⟩,fun h q c=>(List.mem_append.1 c).elim (h.1 q) (h.2 q)⟩
theorem MX.app {B:Nat} {a b:List Rat}:MX B (a++b)↔MX B a/\MX B b:=
 ⟨fun h=>⟨fun q c=>h q (List.mem_append_left _ c),fun q c=>h q (List.mem_append_right _ c)⟩,fun h q c=>(List.mem_append.1 c).elim (h.1 q) (h.2 q)⟩
section
variable {u:List (List Rat)} {x y:Re}
theorem VX (h:AT u) (c:In u x) (a:In u y):co u (x-y)=List.zipWith (· + ·) (co u x) ((co u y).map (- ·)):=by
 rw[show x-y=x+ -y by grind,Le h c (Gf a),Lg h a]
theorem DN.Gy {D:Nat} (h:AT u) (c:In u x) (d:In u y) (a:DN D (co u x)) (b:DN D (co u y)):DN D (co u (x+y)):=by rw[Le h c d];exact a.add b
theorem DN.JY {D:Nat} (h:AT u) (c:In u x) (d:In u y) (a:DN D (co u x)) (b:DN D (co u y)):DN D (co u (x-y)):=by rw[VX h c d];exact a.add b.neg
theorem MX.Gy {B C:Nat} (h:AT u) (c:In u x) (d:In u y) (a:MX B (co u x)) (b:MX C (co u y)):MX (B+C) (co u (x+y)):=by rw[Le h c d];exact a.add b
theorem MX.JY {B C:Nat} (h:AT u) (c:In u x) (d:In u y) (a:MX B (co u x)) (b:MX C (co u y)):MX (B+C) (co u (x-y)):=by rw[VX h c d];exact a.add b.neg
end
theorem N2:∀(u:List (List Rat)) (c:Rat) (a:List Rat),a.length=2^u.length->AM u (a.map (c* ·))=Re.ofRat c*AM u a
 | [],c,a,ha=>by
  match a,ha with
  | [p],_=>exact Re.ofRat_mul c p
 | r::u,c,a,ha=>by
  rw[Bk] at ha;rw[AM,AM,<-List.map_take,<-List.map_drop,N2 u _ _ (by rw[List.length_take];omega),N2 u _ _ (by rw[List.length_drop];omega)]
  grind
theorem QU {u:List (List Rat)} {x:Re} (h:AT u) (a:In u x) (c:Rat):co u (Re.ofRat c*x)=(co u x).map (c* ·):=
 JC h (by rw[List.length_map,CU a]) (by rw[N2 u c _ (CU a),Dr a])
theorem Qx {u:List (List Rat)} {x:Re} (a:In u x) (c:Rat):In u (Re.ofRat c*x):=
 ⟨(co u x).map (c* ·),by rw[List.length_map,CU a],by rw[N2 u c _ (CU a),Dr a]⟩
theorem KD {u:List (List Rat)} {x:Re} (h:AT u) (g:In u x) {D c:Nat}:DN (D*c) (co u x)↔DN D (co u (Re.ofRat c*x)):=by
 rw[QU h g]
 constructor
 ·intro k q d;obtain⟨p,f,rfl⟩:=List.mem_map.1 d;obtain⟨n,a⟩:=k p f;exact⟨n,by rw[<-a,Fp];grind⟩
 intro k q d;obtain⟨n,a⟩:=k _ (List.mem_map.2 ⟨q,d,rfl⟩);exact⟨n,by rw[<-a,Fp];grind⟩
theorem De (k:Nat):0<2^k:=Nat.two_pow_pos k
theorem CP {a b:Nat} (h:a<=b:=by omega):2^a<=2^b:=Nat.pow_le_pow_right (by decide) h
theorem TB.tail {R:Nat} {r:List Rat} {u:List (List Rat)} (h:TB R (r::u)):TB R u:=fun x a=>h x (List.mem_cons_of_mem _ a)
theorem TB.head {R:Nat} {r:List Rat} {u:List (List Rat)} (h:TB R (r::u)):Bd R r:=h r List.mem_cons_self
theorem Fs {r:List Rat} {u:List (List Rat)} (h:AT (r::u)):co u (AM u r)=r:=VT h.1 h.2.1
theorem VU {r:List Rat} {u:List (List Rat)} {a b c d x y:Re} (h:AT (r::u)) (ha:In u a) (hb:In u b) (f:In u c) (g:In u d) (j:x=a+b*rt u r) (k:y=c+d*rt u r):
  co (r::u) (x*y)=co u (a*c+b*d*AM u r)++co u (a*d+b*c):=by
 have m:=Cb h;exact Cz h (C0 (Ak h.1 ha f) (Ak h.1 (Ak h.1 hb g) (CO h))) (C0 (Ak h.1 ha g) (Ak h.1 hb f)) (by subst j;subst k;grind)
theorem KC:∀{u:List (List Rat)} {R:Nat},AT u->TB R u->∃K:Nat,0<K/\K<=2^EE u.length R/\∀{x y:Re} {D m:Nat},In u x->In u y->DN D (co u x)->DN m (co u y)->DN (D*m*K) (co u (x*y))
 | [],R,_,_=>⟨1,by decide,by simp[EE],fun {x y D m} G H h k=>by
  obtain⟨p,rfl⟩:=CN.1 G;obtain⟨q,rfl⟩:=CN.1 H;rw[CQ] at h k;rw[<-Re.ofRat_mul,CQ];intro z Q;rw[List.mem_singleton.1 Q];have:=Wr (h p List.mem_cons_self) (k q List.mem_cons_self);rw[Fp,Fp];rwa [show p*(D:Rat)*(q*(m:Rat))=p*q*(D*m*(1:Nat)) by have:((1:Nat):Rat)=1:=rfl;grind] at this⟩
 | r::u,R,h,L=>by
  obtain⟨K,J,w,hm⟩:=KC h.1 L.tail;obtain⟨E,M,F,C,_⟩:=L.head;refine⟨K*K*E,Nat.mul_pos (Nat.mul_pos J J) M,?_,fun {x y D m} G H f g=>?_⟩
  ·have I:K*K*E<=2^EE u.length R*2^EE u.length R*2^R:=Nat.mul_le_mul (Nat.mul_le_mul w w) F;rw[<-Nat.pow_add,<-Nat.pow_add] at I;exact Nat.le_trans I (CP (by rw[List.length_cons,EE];omega))
  obtain⟨a,b,ha,hb,rfl⟩:=CW.1 G;obtain⟨c,d,v,j,rfl⟩:=CW.1 H;rw[Cz h ha hb rfl,DN.app] at f;rw[Cz h v j rfl,DN.app] at g;rw[VU h ha hb v j rfl rfl,DN.app];have O:DN E (co u (AM u r)):=by rw[Fs h];exact C
  refine⟨DN.Gy h.1 (Ak h.1 ha v) (Ak h.1 (Ak h.1 hb j) (CO h)) ((hm ha v f.1 g.1).dvd ⟨K*E,by grind⟩) ((hm (Ak h.1 hb j) (CO h) (hm hb j f.2 g.2) O).dvd ⟨1,by grind⟩),
   DN.Gy h.1 (Ak h.1 ha j) (Ak h.1 hb v) ((hm ha j f.1 g.2).dvd ⟨K*E,by grind⟩) ((hm hb v f.2 g.1).dvd ⟨K*E,by grind⟩)⟩
theorem RO {p q:Rat} {B C:Nat} (h: -(B:Rat)<=p/\p<=B) (k: -(C:Rat)<=q/\q<=C): -((B*C:Nat):Rat)<=p*q/\p*q<=((B*C:Nat):Rat):=by
 rw[Fp];exact⟨ja h.2 h.1 k.2 k.1,Ka h.2 h.1 k.2 k.1⟩
theorem Ho:∀{u:List (List Rat)} {R:Nat},AT u->TB R u->∀{x y:Re} {B C:Nat},In u x->In u y->MX B (co u x)->MX C (co u y)->MX (B*C*2^EE u.length R) (co u (x*y))
 | [],R,_,_,x,y,B,C,F,G,h,k=>by
  obtain⟨p,rfl⟩:=CN.1 F;obtain⟨q,rfl⟩:=CN.1 G;rw[CQ] at h k;rw[<-Re.ofRat_mul,CQ];intro z O;rw[List.mem_singleton.1 O];have:=RO (h p List.mem_cons_self) (k q List.mem_cons_self);rwa [show B*C*2^EE ([]:List (List Rat)).length R=B*C by simp[EE]]
 | r::u,R,h,H,x,y,B,C,F,G,f,g=>by
  obtain⟨E,Q,L,_,w⟩:=H.head;have v:=fun {x y:Re} {B C:Nat}=>Ho (R:=R) (x:=x) (y:=y) (B:=B) (C:=C) h.1 H.tail
  obtain⟨a,b,ha,hb,rfl⟩:=CW.1 F;obtain⟨c,d,m,j,rfl⟩:=CW.1 G;rw[Cz h ha hb rfl,MX.app] at f;rw[Cz h m j rfl,MX.app] at g;rw[VU h ha hb m j rfl rfl,MX.app];have M:MX (2^R) (co u (AM u r)):=by rw[Fs h];exact w
  have e:EE (r::u).length R=EE u.length R+EE u.length R+R+2:=by rw[List.length_cons,EE];omega
  rw[e,Nat.pow_add,Nat.pow_add,Nat.pow_add];have I:=De (EE u.length R);have J:=De R
  generalize 2^EE u.length R=K at*
  generalize 2^R=S at*
  have k1:B*C*K<=B*C*(K*K*S):=Nat.mul_le_mul_left _ (by
   have:K*1<=K*(K*S):=Nat.mul_le_mul_left _ (Nat.mul_pos I J);rw[Nat.mul_assoc];omega)
  have k2:B*C*K*S*K=B*C*(K*K*S):=by grind
  refine⟨(MX.Gy h.1 (Ak h.1 ha m) (Ak h.1 (Ak h.1 hb j) (CO h)) (v ha m f.1 g.1) (v (Ak h.1 hb j) (CO h) (v hb j f.2 g.2) M)).mono ?_,
   (MX.Gy h.1 (Ak h.1 ha j) (Ak h.1 hb m) (v ha j f.1 g.2) (v hb m f.2 g.1)).mono ?_⟩
  ·rw[k2];grind
  grind
end Go.Abs
namespace Go.Abs
variable {R s t:Nat} {p q x y:Re} {r:List Rat} {u:List (List Rat)}
theorem Bd.mono {k l:Nat} {a:List Rat} (h:Bd k a) (c:k<=l):Bd l a:=by
 obtain⟨D,d,f,g,h3⟩:=h;exact⟨D,d,Nat.le_trans f (CP c),g,h3.mono (CP c)⟩
theorem Ug (h:AT u) (c:In u x) (d:In u y) (a:Bd s (co u x)) (b:Bd t (co u y)):Bd (s+t+1) (co u (x+y)):=by
 obtain⟨D,f,g,j,h3⟩:=a;obtain⟨E,k0,k1,k2,k⟩:=b;refine⟨D*E,Nat.mul_pos f k0,?_,DN.Gy h c d (j.dvd ⟨E,rfl⟩) (k2.dvd ⟨D,Nat.mul_comm _ _⟩),(MX.Gy h c d h3 k).mono ?_⟩
 ·have:=Nat.mul_le_mul g k1;rw[<-Nat.pow_add] at this;exact Nat.le_trans this (CP)
 have m:2^s<=2^(s+t):=CP;have v:2^t<=2^(s+t):=CP;rw[Nat.pow_succ];omega
theorem Uj (h:AT u) (g:In u x) (a:Bd s (co u x)):Bd s (co u (-x)):=by
 obtain⟨D,c,d,f,h3⟩:=a;rw[Lg h g];exact⟨D,c,d,f.neg,h3.neg⟩
theorem fI (h:AT u) (d:In u x) (c:In u y) (a:Bd s (co u x)) (b:Bd t (co u y)):Bd (s+t+1) (co u (x-y)):=by
 rw[show x-y=x+ -y by grind];exact Ug h d (Gf c) a (Uj h c b)
theorem fF (h:AT u) (d:TB R u) (f:In u x) (g:In u y) (a:Bd s (co u x)) (b:Bd t (co u y)):Bd (s+t+EE u.length R) (co u (x*y)):=by
 obtain⟨D,j,k,m,h3⟩:=a;obtain⟨E,k0,k1,k2,w⟩:=b;obtain⟨K,v,c,hm⟩:=KC h d;refine⟨D*E*K,Nat.mul_pos (Nat.mul_pos j k0) v,?_,hm f g m k2,(Ho h d f g h3 w).mono ?_⟩
 ·have:=Nat.mul_le_mul (Nat.mul_le_mul k k1) c;rwa [<-Nat.pow_add,<-Nat.pow_add] at this
 rw[<-Nat.pow_add,<-Nat.pow_add];exact Nat.le_refl _
theorem fG {q:Rat} (h:AT u) (a:Bd s [q]):Bd s (co u (Re.ofRat q)):=by
 obtain⟨D,d,f,g,h3⟩:=a;rw[Hh q h];refine⟨D,d,f,fun z c=>?_,fun z c=>?_⟩
 ·rcases List.mem_cons.1 c with rfl | c
  ·exact g z List.mem_cons_self
  rw[(List.mem_replicate.1 c).2];exact⟨0,by rw[Rat.zero_mul];rfl⟩
 rcases List.mem_cons.1 c with rfl | c
 ·exact h3 z List.mem_cons_self
 rw[(List.mem_replicate.1 c).2];have:(0:Rat)<=((2^s:Nat):Rat):=Rat.natCast_nonneg
 grind
theorem Ui (h:AT (r::u)) (g:In u p) (j:In u q) (a:Bd s (co (r::u) (p+q*rt u r))):Bd s (co u p)/\Bd s (co u q):=by
 obtain⟨D,d,f,c,h3⟩:=a;rw[Cz h g j rfl] at c h3;exact⟨⟨D,d,f,(DN.app.1 c).1,(MX.app.1 h3).1⟩,⟨D,d,f,(DN.app.1 c).2,(MX.app.1 h3).2⟩⟩
theorem fC (h:AT (r::u)) (g:In u p) (j:In u q) (a:Bd s (co u p)) (b:Bd t (co u q)):Bd (s+t) (co (r::u) (p+q*rt u r)):=by
 obtain⟨D,c,d,f,h3⟩:=a;obtain⟨E,k0,k1,k2,k⟩:=b;rw[Cz h g j rfl];refine⟨D*E,Nat.mul_pos c k0,?_,DN.app.2 ⟨f.dvd ⟨E,rfl⟩,k2.dvd ⟨D,Nat.mul_comm _ _⟩⟩,MX.app.2 ⟨h3.mono (CP),k.mono (CP)⟩⟩;have:=Nat.mul_le_mul d k1;rwa [<-Nat.pow_add] at this
theorem QC (h:AT (r::u)) (a:TB R (r::u)):Bd R (co u (AM u r)):=by rw[Fs h];exact a.head
theorem Uk (h:AT (r::u)) (g:TB R (r::u)) (d:In u p) (c:In u q) (a:Bd s (co (r::u) (p+q*rt u r))):
  Bd (2*s+2*EE u.length R+R+1) (co u (p*p-q*q*AM u r)):=by
 obtain⟨D,v,w,z,h3⟩:=a;rw[Cz h d c rfl] at z h3;obtain⟨k,m⟩:=DN.app.1 z;obtain⟨mp,F⟩:=MX.app.1 h3;obtain⟨K,C,f,hm⟩:=KC h.1 g.tail;obtain⟨E,k0,k1,k2,H⟩:=g.head;have G:DN E (co u (AM u r)):=by rw[Fs h];exact k2
 have j:MX (2^R) (co u (AM u r)):=by rw[Fs h];exact H
 refine⟨D*D*K*E*K,Nat.mul_pos (Nat.mul_pos (Nat.mul_pos (Nat.mul_pos v v) C) k0) C,?_,DN.JY h.1 (Ak h.1 d d) (Ak h.1 (Ak h.1 c c) (CO h)) ((hm d d k k).dvd ⟨E*K,by grind⟩) (hm (Ak h.1 c c) (CO h) (hm c c m m) G),
  (MX.JY h.1 (Ak h.1 d d) (Ak h.1 (Ak h.1 c c) (CO h)) (Ho h.1 g.tail d d mp mp) (Ho h.1 g.tail (Ak h.1 c c) (CO h) (Ho h.1 g.tail c c F F) j)).mono ?_⟩
 ·have:=Nat.mul_le_mul (Nat.mul_le_mul (Nat.mul_le_mul (Nat.mul_le_mul w w) f) k1) f;rw[<-Nat.pow_add,<-Nat.pow_add,<-Nat.pow_add,<-Nat.pow_add] at this;exact Nat.le_trans this (CP)
 rw[<-Nat.pow_add,<-Nat.pow_add,<-Nat.pow_add,<-Nat.pow_add,Nat.pow_succ];have I:2^(s+s+EE u.length R)<=2^(2*s+2*EE u.length R+R):=CP;have J:2^(s+s+EE u.length R+R+EE u.length R)<=2^(2*s+2*EE u.length R+R):=CP;omega
theorem Xe {a b:Nat} (h:a<=b):(a:Rat)<=b:=Rat.natCast_le_natCast.2 h
theorem fE {q p:Rat} (h:Bd s [q]) (J:q*p=1):Bd (2*s) [p]:=by
 obtain⟨D,k,v,F,h3⟩:=h;obtain⟨n,f⟩:=F q List.mem_cons_self;have hb:=h3 q List.mem_cons_self;have O:(0:Rat)<D:=Rat.natCast_pos.2 k
 have H:n≠0:=by
  intro e;subst e;have:(D:Rat)=q*D*p:=by grind
  rw[f] at this;have k:((0:Int):Rat)=0:=rfl
  grind
 have d:p*(n:Rat)=D:=by rw[<-f];grind
 have c:(n.natAbs:Rat)=n\/(n.natAbs:Rat)= -n:=by
  rcases Int.natAbs_eq n with e | e
  ·left
   have:((n.natAbs:Int):Rat)=(n:Rat):=congrArg _ e.symm;exact this
  right
  have:((n.natAbs:Int):Rat)=((-n:Int):Rat):=congrArg _ (by omega);rw[Rat.intCast_neg] at this;exact this
 have I:(1:Rat)<=n.natAbs:=by
  have:1<=n.natAbs:=by omega
  exact Xe this
 have g:n.natAbs<=D*2^s:=by
  have w:=RO (C:=D) hb (q:=(D:Rat)) ⟨by grind,by grind⟩;rw[f,Nat.mul_comm] at w;apply Rat.natCast_le_natCast.1;rcases c with e | e <;> rw[e] <;> grind
 refine⟨n.natAbs,by omega,?_,fun z j=>?_,fun z j=>?_⟩
 ·have:=Nat.mul_le_mul_right (2^s) v;rw[<-Nat.pow_add] at this;exact Nat.le_trans g (Nat.le_trans this (CP))
 ·rw[List.mem_singleton.1 j];rcases c with e | e <;> rw[e]
  ·exact⟨D,d⟩
  exact⟨-D,by rw[Rat.intCast_neg,Rat.mul_neg,d];rfl⟩
 rw[List.mem_singleton.1 j];have K:(D:Rat)<=((2^(2*s):Nat):Rat):=Xe (Nat.le_trans v (CP));have L:p=D\/True:= .inr trivial;have M:p*(n.natAbs:Rat)=D\/p*(n.natAbs:Rat)= -D:=by rcases c with e | e <;> rw[e] <;> grind
 generalize (n.natAbs:Rat)=m at*
 generalize ((2^(2*s):Nat):Rat)=S at*
 have Q:p<=D:=by
  apply Classical.byContradiction;intro G;have:=Rat.mul_pos (a:=p-D) (b:=m) (by grind) (by grind);have:=Rat.mul_nonneg (a:=(D:Rat)) (b:=m-1) (by grind) (by grind)
  grind
 have T: -D<=p:=by
  apply Classical.byContradiction;intro G;have:=Rat.mul_pos (a:= -D-p) (b:=m) (by grind) (by grind);have:=Rat.mul_nonneg (a:=(D:Rat)) (b:=m-1) (by grind) (by grind)
  grind
 grind
theorem NU:∀{u:List (List Rat)} {R:Nat} {x y:Re} {s:Nat},AT u->TB R u->In u x->In u y->x*y=1->Bd s (co u x)->Bd (II u.length R s) (co u y)
 | [],R,x,y,s,_,_,z,F,e,h=>by
  obtain⟨p,rfl⟩:=CN.1 z;obtain⟨q,rfl⟩:=CN.1 F;rw[CQ] at h ⊢;rw[<-Re.ofRat_mul] at e;exact fE h (Re.E0.1 e)
 | r::u,R,x,y,s,h,g,z,F,e,hb=>by
  obtain⟨a,b,ha,c,rfl⟩:=CW.1 z;have U:=Cb h;have M:=Uk h g ha c hb;have d:=Ep (Ak h.1 ha ha) (Ak h.1 (Ak h.1 c c) (CO h))
  have v:a*a-b*b*AM u r≠0:=by
   intro O;have H:(a+b*rt u r)*(a-b*rt u r)=0:=by grind
   rcases Re.Cd H with C | C
   ·rw[C] at e;have j:(0:Re)<1:=Re.HO.2 (show (0:Rat)<1 by decide)
    grind
   obtain⟨Q,T⟩:=indep h ha (Gf c) (Bx u) (Bx u) (show a+ -b*rt u r=0+0*rt u r by grind);have:a+b*rt u r=0:=by grind
   rw[this] at e;have j:(0:Re)<1:=Re.HO.2 (show (0:Rat)<1 by decide)
   grind
  obtain⟨i,hi,f⟩:=Eg h.1 d v;have w:=NU h.1 g.tail d hi f M
  have I:y=a*i+ -(b*i)*rt u r:=by
   have:y=(a+b*rt u r)*y*((a-b*rt u r)*i):=by
    have:(a+b*rt u r)*y*((a-b*rt u r)*i)=y*((a*a-b*b*AM u r)*i):=by grind
    rw[this,f];grind
   rw[e] at this
   grind
  obtain⟨D,J,j,k,h3⟩:=hb;rw[Cz h ha c rfl] at k h3;obtain⟨E,k0,k1,k2,G⟩:=w;obtain⟨K,L,m,hm⟩:=KC h.1 g.tail;rw[I,Cz h (Ak h.1 ha hi) (Gf (Ak h.1 c hi)) rfl,Lg h.1 (Ak h.1 c hi),List.length_cons,II];have m1:=Ho h.1 g.tail ha hi (MX.app.1 h3).1 G;have m2:=Ho h.1 g.tail c hi (MX.app.1 h3).2 G;rw[<-Nat.pow_add,<-Nat.pow_add] at m1 m2;refine⟨D*E*K,Nat.mul_pos (Nat.mul_pos J k0) L,?_,DN.app.2 ⟨hm ha hi (DN.app.1 k).1 k2,(hm c hi (DN.app.1 k).2 k2).neg⟩,MX.app.2 ⟨m1.mono (CP),(m2.mono (CP)).neg⟩⟩;have:=Nat.mul_le_mul (Nat.mul_le_mul j k1) m;rw[<-Nat.pow_add,<-Nat.pow_add] at this;exact Nat.le_trans this (CP)
end Go.Abs
namespace Go.Abs
variable {B:Nat} {u:List (List Rat)} {x:Re}
theorem Q1 {r:Rat} {n:Int} (h:r*r=n):∃m:Int,r=m:=by
 have c:(r*r).den=1:=by rw[h];rfl
 have a:(r*r).den=r.den*r.den:=by
  have d:Nat.gcd (r.num*r.num).natAbs (r.den*r.den)=1:=by
   rw[Int.natAbs_mul];exact Nat.Coprime.mul_left (Nat.Coprime.mul_right r.reduced r.reduced) (Nat.Coprime.mul_right r.reduced r.reduced)
  rw[Rat.mul_def,Rat.normalize_eq];simp only[d,Nat.div_one]
 rw[c] at a;have h3:r.den=1:=Nat.eq_one_of_mul_eq_one_left a.symm;refine⟨r.num,?_⟩;have:=JN r;rw[h3] at this;have e:((1:Nat):Rat)=1:=rfl
 grind
theorem YD {Y:Nat} {c e:Re} (h:e=2*(c*c)):Re.ofRat ((2*Y:Nat):Rat)*c*(Re.ofRat ((2*Y:Nat):Rat)*c)=Re.ofRat ((2*Y*Y:Nat):Rat)*e:=by
 subst h;have a:Re.ofRat ((2:Nat):Rat)=2:=rfl;simp only[Fp,Re.ofRat_mul,a]
 grind
theorem Vs:∀{u:List (List Rat)} {R:Nat},AT u->TB R u->∃G:Nat,0<G/\G<=2^GG u.length R/\∀{x w:Re} {D:Nat},In u w->w*w=x->DN D (co u x)->DN (D*G) (co u w)
 | [],R,_,_=>⟨1,by decide,by simp[GG],fun {x w D} hw e h=>by
  obtain⟨p,rfl⟩:=CN.1 hw;subst e;rw[<-Re.ofRat_mul,CQ] at h;rw[CQ];intro z hz;rw[List.mem_singleton.1 hz];obtain⟨n,v⟩:=h _ List.mem_cons_self
  obtain⟨m,hm⟩:=Q1 (r:=p*D) (n:=n*D) (by
   rw[Rat.intCast_mul,<-v];have:((D:Int):Rat)=(D:Rat):=rfl
   grind)
  exact⟨m,by rw[Nat.mul_one];exact hm⟩⟩
 | r::u,R,h,O=>by
  obtain⟨G,hG,L,Q⟩:=Vs h.1 O.tail;obtain⟨K,hK,F,hm⟩:=KC h.1 O.tail;obtain⟨E,hE,W,U,_⟩:=O.head;have hr:=Cb h;have a5:DN E (co u (AM u r)):=by rw[Fs h];exact U
  obtain⟨i,hi,T⟩:=Eg h.1 (CO h) (by have:=h.2.2.1;grind);obtain⟨I,hI,Z,Y,_⟩:=NU h.1 O.tail (CO h) hi T (QC h O);refine⟨2*(K*K*E)*G*G*I*K,Nat.mul_pos (Nat.mul_pos (Nat.mul_pos (Nat.mul_pos (Nat.mul_pos (by decide) (Nat.mul_pos (Nat.mul_pos hK hK) hE)) hG) hG) hI) hK,?_,fun {x w D} hw e H=>?_⟩
  ·have h1:=Nat.mul_le_mul (Nat.mul_le_mul (Nat.mul_le_mul (Nat.mul_le_mul (Nat.mul_le_mul (Nat.le_refl (2^1)) (Nat.mul_le_mul (Nat.mul_le_mul F F) W)) L) L) Z) F;simp only[<-Nat.pow_add] at h1;exact Nat.le_trans h1 (CP (by rw[List.length_cons,GG];omega))
  obtain⟨c,d,j,k,rfl⟩:=CW.1 hw
  have f:In u (2*c*d):=by
   have:=C0 (Ak h.1 j k) (Ak h.1 j k);rwa [show c*d+c*d=2*c*d by grind] at this
  have g:=CO h;have ha:=C0 (Ak h.1 j j) (Ak h.1 (Ak h.1 k k) g);have ex:x=(c*c+d*d*AM u r)+(2*c*d)*rt u r:=by rw[<-e];grind
  rw[ex,Cz h ha f rfl,DN.app] at H
  generalize hA:c*c+d*d*AM u r=a at*
  generalize hB:2*c*d=b at*
  have v:=Ep (Ak h.1 j j) (Ak h.1 (Ak h.1 k k) g)
  generalize hN:c*c-d*d*AM u r=n at*
  have M:=Ep (Ak h.1 ha ha) (Ak h.1 (Ak h.1 f f) g);have a1:n*n=a*a-b*b*AM u r:=by grind
  have d1:DN (D*D*(K*K*E)) (co u (a*a-b*b*AM u r)):=
   DN.JY h.1 (Ak h.1 ha ha) (Ak h.1 (Ak h.1 f f) g) ((hm ha ha H.1 H.1).dvd ⟨K*E,by grind⟩) ((hm (Ak h.1 f f) g (hm f f H.2 H.2) a5).dvd ⟨1,by grind⟩)
  generalize K*K*E=C at*
  have d2:DN (D*C*G) (co u n):=by
   have k1:DN 1 (co u (Re.ofRat ((D*C*(D*C):Nat):Rat)*(a*a-b*b*AM u r))):=(KD h.1 M).1 (d1.dvd ⟨C,by grind⟩);have k2:=Q (x:=Re.ofRat ((D*C*(D*C):Nat):Rat)*(a*a-b*b*AM u r)) (w:=Re.ofRat ((D*C:Nat):Rat)*n) (D:=1) (Qx v _) (by rw[Fp (D*C),Re.ofRat_mul,<-a1];grind) k1;exact ((KD h.1 v).2 k2).dvd ⟨1,by grind⟩
  have J:DN (D*C*G) (co u a):=H.1.dvd ⟨C*G,by grind⟩;have d3:DN (D*C*G) (co u (a+n)):=DN.Gy h.1 ha v J d2;have d4:DN (D*C*G) (co u (a-n)):=DN.JY h.1 ha v J d2
  have d5:DN (2*(D*C*G)*G) (co u c):=by
   have k1:DN 1 (co u (Re.ofRat ((2*(D*C*G)*(D*C*G):Nat):Rat)*(a+n))):=(KD h.1 (C0 ha v)).1 (d3.dvd ⟨2*(D*C*G),by grind⟩);have k2:=Q (x:=Re.ofRat ((2*(D*C*G)*(D*C*G):Nat):Rat)*(a+n)) (w:=Re.ofRat ((2*(D*C*G):Nat):Rat)*c) (D:=1) (Qx j _) (YD (by clear Q hm k1;grind)) k1;exact ((KD h.1 j).2 k2).dvd ⟨1,by grind⟩
  have d6:DN (D*C*G*I*K) (co u ((a-n)*i)):=hm (Ep ha v) hi d4 Y
  have d7:DN (2*(D*C*G*I*K)*G) (co u d):=by
   have a2:=Ak h.1 (Ep ha v) hi;have k1:DN 1 (co u (Re.ofRat ((2*(D*C*G*I*K)*(D*C*G*I*K):Nat):Rat)*((a-n)*i))):=(KD h.1 a2).1 (d6.dvd ⟨2*(D*C*G*I*K),by grind⟩)
   have k2:=Q (x:=Re.ofRat ((2*(D*C*G*I*K)*(D*C*G*I*K):Nat):Rat)*((a-n)*i)) (w:=Re.ofRat ((2*(D*C*G*I*K):Nat):Rat)*d) (D:=1) (Qx k _) (YD (by
    have e3:(a-n)*i=2*(d*d)*(AM u r*i):=by clear Q hm k1;grind
    rw[e3,T];grind)) k1
   exact ((KD h.1 k).2 k2).dvd ⟨1,by grind⟩
  rw[Cz h j k rfl,DN.app];exact⟨d5.dvd ⟨I*K,by grind⟩,d7.dvd ⟨1,by grind⟩⟩
theorem jJ {p:Rat} (h:p*p<=((B*B:Nat):Rat)): -(B:Rat)<=p/\p<=B:=by
 rw[Fp] at h;have d:(0:Rat)<=B:=Rat.natCast_nonneg
 generalize (B:Rat)=b at*
 constructor
 ·apply Classical.byContradiction;intro c;have:=Rat.mul_pos (a:= -p-b) (b:= -p+b) (by grind) (by grind)
  grind
 apply Classical.byContradiction;intro c;have:=Rat.mul_pos (a:=p-b) (b:=p+b) (by grind) (by grind)
 grind
theorem MX.half {y:Re} (h:AT u) (g:In u x) (d:In u y) (e:x=2*y) (k:MX (2*B) (co u x)):MX B (co u y):=by
 have a:x=Re.ofRat 2*y:=e;rw[a,QU h d] at k;intro q c;have:=k _ (List.mem_map.2 ⟨q,c,rfl⟩);rw[Fp] at this;have f:((2:Nat):Rat)=2:=rfl
 grind
theorem Xc:∀{u:List (List Rat)} {R:Nat},AT u->TB R u->∀{x w:Re} {B:Nat},In u w->w*w=x->MX (B*B) (co u x)->MX (B*2^GG u.length R) (co u w)
 | [],R,_,_,x,w,B,hw,e,h=>by
  obtain⟨p,rfl⟩:=CN.1 hw;subst e;rw[<-Re.ofRat_mul,CQ] at h;rw[CQ];intro z hz;rw[List.mem_singleton.1 hz];have:=jJ (h _ List.mem_cons_self).2;simpa [GG] using this
 | r::u,R,h,L,x,w,B,hw,e,v=>by
  have H:=fun {x w:Re} {B:Nat}=>Xc (R:=R) (x:=x) (w:=w) (B:=B) h.1 L.tail
  have F:=fun {x y:Re} {B C:Nat}=>Ho (R:=R) (x:=x) (y:=y) (B:=B) (C:=C) h.1 L.tail
  obtain⟨E,hE,a6,_,Z⟩:=L.head;have hr:=Cb h;have a5:MX (2^R) (co u (AM u r)):=by rw[Fs h];exact Z
  obtain⟨i,hi,O⟩:=Eg h.1 (CO h) (by have:=h.2.2.1;grind);obtain⟨I,hI,a7,_,T⟩:=NU h.1 L.tail (CO h) hi O (QC h L);obtain⟨c,d,k,j,rfl⟩:=CW.1 hw
  have g:In u (2*c*d):=by
   have:=C0 (Ak h.1 k j) (Ak h.1 k j);rwa [show c*d+c*d=2*c*d by grind] at this
  have f:=CO h;have ha:=C0 (Ak h.1 k k) (Ak h.1 (Ak h.1 j j) f);have ex:x=(c*c+d*d*AM u r)+(2*c*d)*rt u r:=by rw[<-e];grind
  rw[ex,Cz h ha g rfl,MX.app] at v
  generalize hA:c*c+d*d*AM u r=a at*
  generalize hB:2*c*d=b at*
  have M:=Ep (Ak h.1 k k) (Ak h.1 (Ak h.1 j j) f)
  generalize hN:c*c-d*d*AM u r=n at*
  have a1:n*n=a*a-b*b*AM u r:=by clear H F;grind
  have m1:=MX.JY h.1 (Ak h.1 ha ha) (Ak h.1 (Ak h.1 g g) f) (F ha ha v.1 v.1) (F (Ak h.1 g g) f (F g g v.2 v.2) a5);have Q:=De (EE u.length R);have p1:=De R;have p2:=De (GG u.length R);have p3:=De (II u.length R R)
  have eG:2^GG (r::u).length R=2^EE u.length R*2^EE u.length R*2^EE u.length R*2^R*2*(2^GG u.length R*2^GG u.length R)*2^II u.length R R:=by
   have e2:(2:Nat)=2^1:=rfl;conv=>rhs;rw[show ∀q:Nat,q*2=q*2^1 from fun q=>rfl]
   simp only[<-Nat.pow_add]
   congr 1
   rw[List.length_cons,GG];omega
  rw[eG]
  generalize 2^EE u.length R=K at*
  generalize 2^R=S at*
  generalize 2^GG u.length R=G at*
  generalize 2^II u.length R R=J at*
  have Y:1<=K*S:=Nat.mul_pos Q p1;have m:1<=K*K*S:=Nat.mul_pos (Nat.mul_pos Q Q) p1
  have a2:K+K*S*K<=2*(K*K*S)*(2*(K*K*S)):=by
   have t1:K*1<=K*(K*S):=Nat.mul_le_mul_left _ Y;have t2:(K*K*S)*1<=(K*K*S)*(K*K*S):=Nat.mul_le_mul_left _ m
   grind
  have m2:MX (B*B*(2*(K*K*S))*G) (co u n):=by
   refine H (x:=a*a-b*b*AM u r) M a1 (m1.mono ?_);have:=Nat.mul_le_mul_left (B*B*(B*B)) a2
   grind
  have W:1<=K*K*S*G:=Nat.mul_pos m p2
  have m3:MX (B*B*(2*(K*K*S)*G)) (co u (c*c)):=by
   refine MX.half h.1 (C0 ha M) (Ak h.1 k k) (by clear H F m1 m2;grind) ((MX.Gy h.1 ha M v.1 m2).mono ?_);have:=Nat.mul_le_mul_left (B*B) (show 1<=2*(K*K*S)*G by rw[Nat.mul_assoc];omega)
   grind
  have m4:MX (B*(2*(K*K*S)*G)*G) (co u c):=by
   refine H (x:=c*c) k rfl (m3.mono ?_);have t:2*(K*K*S)*G*1<=2*(K*K*S)*G*(2*(K*K*S)*G):=Nat.mul_le_mul_left _ (by rw[Nat.mul_assoc];omega);have:=Nat.mul_le_mul_left (B*B) t
   grind
  have m5:MX (B*B*(2*(K*K*S)*G)) (co u (d*d*AM u r)):=by
   refine MX.half h.1 (Ep ha M) (Ak h.1 (Ak h.1 j j) f) (by clear H F m1 m2 m3;grind) ((MX.JY h.1 ha M v.1 m2).mono ?_);have:=Nat.mul_le_mul_left (B*B) (show 1<=2*(K*K*S)*G by rw[Nat.mul_assoc];omega)
   grind
  have m6:MX (B*B*(2*(K*K*S)*G)*J*K) (co u (d*d)):=by
   have:=F (Ak h.1 (Ak h.1 j j) f) hi m5 T;rwa [show d*d*AM u r*i=d*d by rw[show d*d*AM u r*i=d*d*(AM u r*i) by grind,O];grind] at this
  have m7:MX (B*(2*(K*K*S)*G*J*K)*G) (co u d):=by
   refine H (x:=d*d) j rfl (m6.mono ?_);have t0:1<=2*(K*K*S)*G*J*K:=Nat.mul_pos (Nat.mul_pos (by rw[Nat.mul_assoc];omega) p3) Q;have t:2*(K*K*S)*G*J*K*1<=2*(K*K*S)*G*J*K*(2*(K*K*S)*G*J*K):=Nat.mul_le_mul_left _ t0;have:=Nat.mul_le_mul_left (B*B) t
   grind
  rw[Cz h k j rfl,MX.app];have U:1<=J*K:=Nat.mul_pos p3 Q;refine⟨m4.mono ?_,m7.mono ?_⟩
  ·have:=Nat.mul_le_mul_left (B*(2*(K*K*S)*G)*G) U
   grind
  grind
theorem Um {R s:Nat} {w:Re} (h:AT u) (c:TB R u) (hw:In u w) (e:w*w=x) (m:Bd s (co u x)):Bd (s+GG u.length R) (co u w):=by
 obtain⟨D,d,f,g,h3⟩:=m;obtain⟨G,j,a,k⟩:=Vs h c;refine⟨D*G,Nat.mul_pos d j,?_,k hw e g,?_⟩
 ·have:=Nat.mul_le_mul f a;rwa [<-Nat.pow_add] at this
 have:=Xc h c hw e (B:=2^s) (h3.mono (by rw[<-Nat.pow_add];exact CP));rwa [<-Nat.pow_add] at this
end Go.Abs
namespace Go.Abs
structure Ad (x:Int) (b:Bool) (l:List UInt32):Prop where
 neg:b=decide (x<0)
 BC:l=AP x.natAbs
variable {i n xi:Nat} {l o:List UInt32} {y:Int}
theorem Ac (x:Int):∃b l,Ad x b l:=⟨_,_,rfl,rfl⟩
theorem Ad.nat {x:Int} {b:Bool} (h:Ad x b l):AE l=x.natAbs:=by rw[h.BC,Az]
theorem Ad.E3 {x:Int} {b:Bool} (h:Ad x b l):x=if b=true then -(AE l:Int) else AE l:=by
 rw[h.nat,h.neg];by_cases a:x<0 <;> simp[a] <;> omega
theorem Ad.uniq {x:Int} {b b':Bool} {l':List UInt32} (h:Ad x b l) (h':Ad y b' l') (e:x=y):b=b'/\l=l':=by
 subst e;exact⟨h.neg.trans h'.neg.symm,h.BC.trans h'.BC.symm⟩
theorem Ad.trim {x:Int} {b:Bool} (h:Ad x b l):AP (AE l)=l:=by rw[h.nat,<-h.BC]
theorem Ad.val {x:Int} {b:Bool} (c:AP n=l) (a:x=if b=true then -(n:Int) else n) (h3:n=0->b=false):Ad x b l:=by
 constructor
 ·rw[a];cases b
  ·simp
  have:n≠0:=fun e=>absurd (h3 e) (by simp)
  simp;omega
 rw[<-c,a];congr 1;split <;> omega
theorem Ad.nil {x:Int} {b:Bool} (h:Ad x b l):l=[]↔x=0:=by
 rw[h.BC,Er];omega
theorem Ad.FF {x:Int} {b:Bool} (h:Ad x b l):l.length=0↔x=0:=by
 rw[List.length_eq_zero_iff,h.nil]
def CE (x:Int):Int:=if x<0 then -1 else if x=0 then 0 else 1
def BV (a b:Int):Int:=if a<b then -1 else if b<a then 1 else 0
theorem RQ {x w:UInt32} (h:l[i]? =some x):AE (l.set i w)+2^(32*i)*x.toNat=AE l+2^(32*i)*w.toNat:=by
 induction l generalizing i with
 | nil=>simp at h
 | cons y l a=>
  cases i with
  | zero=>simp at h;subst h;simp[AE];omega
  | succ i=>
   have:=a (i:=i) (by simpa using h);rw[List.set_cons_succ,AE,AE,Ds]
   generalize 2^(32*i)=P at*
   grind
theorem HV {w:UInt32} (h:n<=i:=by omega):(l.set i w).take n=l.take n:=by
 rw[List.take_set];rw[List.set_eq_of_length_le];rw[List.length_take];omega
theorem Ei {w:UInt32} (h:i<l.length):(l.set i w).take (i+1)=l.take i++[w]:=by
 rw[List.take_succ_eq_append_getElem (by simpa using h),HV (Nat.le_refl _)];simp
theorem KZ {A B FW FX yi:Nat} {w:UInt32} (hi:i<o.length) (h:AE (o.take i)+B=A+2^(32*i)*FW) (hs:w.toNat+yi+FW=xi+4294967296*FX):
  AE ((o.set i w).take (i+1))+(B+2^(32*i)*yi)=(A+2^(32*i)*xi)+2^(32*(i+1))*FX:=by
 rw[Ei hi,D2,Ds,List.length_take,Nat.min_eq_left (by omega)]
 generalize 2^(32*i)=P at*
 have e:P*(w.toNat+yi+FW)=P*(xi+4294967296*FX):=by rw[hs]
 grind
theorem Sk {N T c d yk old j:Nat} {q w:UInt32} {Y:Nat} {k:Nat} (g:j=i+k) (m:j<n) (v:o[j]? =some q) (C:q.toNat=old) (h:AE (o.take n)+2^(32*j)*c=T+xi*2^(32*i)*Y)
  (hs:w.toNat+4294967296*d=c+xi*yk+old) (_:N=n):
  AE ((o.set j w).take n)+2^(32*(j+1))*d=T+xi*2^(32*i)*(Y+2^(32*k)*yk):=by
 have ht:(o.take n)[j]? =some q:=by rw[List.getElem?_take_of_lt m,v]
 have a:=RQ (w:=w) ht;rw[List.take_set,Ds];have z:2^(32*j)=2^(32*i)*2^(32*k):=by rw[g,Nat.mul_add,Nat.pow_add]
 generalize F:2^(32*j)=P at*
 have e:P*(w.toNat+4294967296*d)=P*(c+xi*yk+old):=by rw[hs]
 rw[C] at a;have f:xi*2^(32*i)*(2^(32*k)*yk)=P*(xi*yk):=by rw[z];grind
 rw[Nat.mul_add,f]
 grind
theorem XZ {x:Int} {a b:Bool} (ha:a=decide (x<0)) (hb:b=decide (y<0)):x*y=if (a !=b)=true then -((x.natAbs*y.natAbs:Nat):Int) else ((x.natAbs*y.natAbs:Nat):Int):=by
 rw[Int.natCast_mul]
 by_cases c:x<0 <;> by_cases d:y<0 <;> simp[ha,hb,c,d]
 ·rw[show ((x.natAbs:Nat):Int)= -x by omega,show ((y.natAbs:Nat):Int)= -y by omega];grind
 ·rw[show ((x.natAbs:Nat):Int)= -x by omega,show ((y.natAbs:Nat):Int)=y by omega];grind
 ·rw[show ((x.natAbs:Nat):Int)=x by omega,show ((y.natAbs:Nat):Int)= -y by omega];grind
 rw[show ((x.natAbs:Nat):Int)=x by omega,show ((y.natAbs:Nat):Int)=y by omega]
theorem J8 (a b:Int):(a<b/\BV a b= -1)\/(a=b/\BV a b=0)\/(b<a/\BV a b=1):=by
 unfold BV
 split
 ·exact .inl ⟨by assumption,rfl⟩
 split
 ·exact .inr (.inr ⟨by assumption,rfl⟩)
 exact .inr (.inl ⟨by omega,rfl⟩)
theorem FM (x:Int):(x<0/\CE x= -1)\/(x=0/\CE x=0)\/(0<x/\CE x=1):=by
 unfold CE
 split
 ·exact .inl ⟨by assumption,rfl⟩
 split
 ·exact .inr (.inl ⟨by assumption,rfl⟩)
 exact .inr (.inr ⟨by omega,rfl⟩)
theorem mO (x a b:Int): -9223372036854775808<=CE x*BV a b/\CE x*BV a b<9223372036854775808:=by
 rcases FM x with⟨_,h⟩ |⟨_,h⟩ |⟨_,h⟩ <;> rcases J8 a b with⟨_,k⟩ |⟨_,k⟩ |⟨_,k⟩ <;> rw[h,k] <;> decide
theorem fv {x:Int} (h:CE x=CE y):BV x y=CE x*BV x.natAbs y.natAbs:=by
 rcases FM x with⟨c,a⟩ |⟨c,a⟩ |⟨c,a⟩ <;> rcases FM y with⟨k1,k2⟩ |⟨k1,k2⟩ |⟨k1,k2⟩ <;>
  rcases J8 x y with⟨p,q⟩ |⟨p,q⟩ |⟨p,q⟩ <;> rcases J8 x.natAbs y.natAbs with⟨u,v⟩ |⟨u,v⟩ |⟨u,v⟩ <;> rw[a,q,v] <;> rw[a,k2] at h <;> omega
theorem fu {x:Int} (h:CE x≠CE y):BV x y=BV (CE x) (CE y):=by
 rcases FM x with⟨c,a⟩ |⟨c,a⟩ |⟨c,a⟩ <;> rcases FM y with⟨k1,k2⟩ |⟨k1,k2⟩ |⟨k1,k2⟩ <;>
  rcases J8 x y with⟨p,q⟩ |⟨p,q⟩ |⟨p,q⟩ <;> rw[a,k2] at h ⊢ <;> rw[q] <;> first | rfl | omega
theorem Zf {x:Int} {b:Bool} (h:x=if b=true then -(n:Int) else n): -x=if (!b)=true then -(n:Int) else n:=by
 cases b <;> simp_all
theorem Ow {x:Int} {b:Bool} (h:x=if b=true then -(n:Int) else n) (d:n≠0):CE x=if b=true then -1 else 1:=by
 rcases FM x with⟨c,a⟩ |⟨c,a⟩ |⟨c,a⟩ <;> rw[a] <;> cases b <;> simp at h ⊢ <;> omega
theorem add_same {x:Int} {b:Bool} (a:b=decide (x<0)) (c:b=decide (y<0)):x+y=if b=true then -((x.natAbs+y.natAbs:Nat):Int) else ((x.natAbs+y.natAbs:Nat):Int):=by
 cases b <;> simp at a c ⊢ <;> omega
theorem NL {x:Int} {a b:Bool} (d:a=decide (x<0)) (f:b=decide (y<0)) (c:a≠b) (h:x.natAbs<=y.natAbs):x+y=if b=true then -((y.natAbs-x.natAbs:Nat):Int) else ((y.natAbs-x.natAbs:Nat):Int):=by
 cases a <;> cases b <;> simp at d f c ⊢ <;> omega
theorem IF {a b:Int} (h:BV a b<0):a<b:=by rcases J8 a b with⟨_,k⟩ |⟨_,k⟩ |⟨_,k⟩ <;> omega
theorem IE {a b:Int} (h:0<=BV a b):b<=a:=by rcases J8 a b with⟨_,k⟩ |⟨_,k⟩ |⟨_,k⟩ <;> omega
def E7 (b:Bool) (l:List UInt32):Bool:=match l.getLast? with
 | none=> !b
 | some x=>x !=0
theorem It {b:Bool}:E7 b l=true↔∃x,Ad x b l:=by
 unfold E7;cases h:l.getLast? with
 | none=>
  have:l=[]:=List.getLast?_eq_none_iff.1 h;subst this
  constructor
  ·intro hb;exact⟨0,by simpa using hb,rfl⟩
  rintro⟨x,a⟩
  have:=(a.nil).1 rfl;rw[a.neg,this];rfl
 | some w=>
  obtain⟨m,rfl⟩:=List.getLast?_eq_some_iff.1 h
  constructor
  ·intro hw;have hw:w≠0:=by simpa using hw
   have c:=QL (o:=m) (w:=w) fun e=>hw (UInt32.toNat_inj.1 e)
   have f:AE (m++[w])≠0:=fun e=>by
    rw[e,Fv] at c;simp at c
   exact⟨if b=true then -(AE (m++[w]):Int) else AE (m++[w]),.val c rfl fun e=>absurd e f⟩
  rintro⟨x,a⟩
  simp only[bne_iff_ne,ne_eq];rintro rfl;have d:=a.trim;rw[<-Ky,Is] at d;have:=O8 m;rw[d] at this;simp at this;omega
end Go.Abs
namespace Go.Abs
variable {A B xi yi:Nat} {l o:List UInt32}
theorem JL {N k:Nat} (h:N<2^(32*k)):∃z:List UInt32,z.length=k/\AE z=N:=by
 refine⟨AP N++List.replicate (k-(AP N).length) 0,?_,?_⟩
 ·have:=Fu h;simp;omega
 rw[OW,Hp,Az];simp
theorem PB (N i:Nat):N%2^(32*(i+1))=N%2^(32*i)+2^(32*i)*(N/2^(32*i)%4294967296):=by
 rw[Ds,Nat.mul_comm 4294967296,Nat.mod_mul]
theorem Zj {x y r n:Nat} (k:x<4294967296) (w:n<=31):(x+4294967296*(y+4294967296*r))/2^n%4294967296=x/2^n+y*2^(32-n)%4294967296:=by
 obtain⟨d,j⟩:∃d,32-n=d:=⟨_,rfl⟩
 have e:(4294967296:Nat)=2^n*2^d:=by rw[<-Nat.pow_add,show n+d=32 by omega]
 have a:0<2^n:=Nat.two_pow_pos n;have z:0<2^d:=Nat.two_pow_pos d;rw[j];have c:x+4294967296*(y+4294967296*r)=x+2^n*(2^d*(y+4294967296*r)):=by rw[<-Nat.mul_assoc,<-e]
 rw[c,Nat.add_mul_div_left _ _ a];have m:x/2^n<2^d:=Nat.div_lt_of_lt_mul (by rw[<-e];exact k);have f:x/2^n+2^d*(y+4294967296*r)=(x/2^n+y*2^d)+4294967296*(2^d*r):=by rw[Nat.mul_add];grind
 rw[f,Nat.add_mul_mod_self_left];have g:y*2^d%4294967296=2^d*(y%2^n):=by rw[e,Nat.mul_comm (2^n),Nat.mul_comm y,Nat.mul_mod_mul_left]
 rw[Nat.add_mod,g]
 have v:2^d*(y%2^n)+2^d<=4294967296:=by
  have:y%2^n+1<=2^n:=Nat.mod_lt _ a;have:=Nat.mul_le_mul_left (2^d) this;rw[e,Nat.mul_comm (2^n)];rw[Nat.mul_add] at this;omega
 have h:x/2^n%4294967296=x/2^n:=Nat.mod_eq_of_lt (by omega);rw[h,Nat.mod_eq_of_lt (by omega)]
theorem Kg {a b d:Nat} (h:a<2^d):a ||| (2^d*b)=a+2^d*b:=by
 rw[Nat.or_comm,<-Nat.two_pow_add_eq_or_of_lt h,Nat.add_comm]
theorem DZ {i:Nat} {x:UInt32} (h:l[i]? =some x):AE (l.drop i)=x.toNat+4294967296*AE (l.drop (i+1)):=by
 have hi:i<l.length:=by
  apply Classical.byContradiction;intro a;rw[List.getElem?_eq_none (by omega)] at h;exact absurd h (by simp)
 rw[List.drop_eq_getElem_cons hi,AE];rw[List.getElem?_eq_getElem hi] at h;rw[Option.some.inj h]
theorem No {i:Nat} (h:i<=l.length):AE l/2^(32*i)=AE (l.drop i):=by
 rw[Fc l i h,Nat.add_mul_div_left _ _ (Nat.two_pow_pos _)];have:=CR (l.take i);rw[List.length_take,Nat.min_eq_left h] at this;rw[Nat.div_eq_of_lt this,Nat.zero_add]
theorem Nr {i off:Nat} {w:UInt32}:(l.set (off+i) w).drop off=(l.drop off).set i w:=by
 rw[List.drop_set,if_neg (by omega)]
 congr 1
 omega
theorem nb {D FW FX i:Nat} {w:UInt32} (hi:i<o.length) (h:AE (o.take i)+B*D=A+2^(32*i)*FW) (hs:w.toNat+yi*D+FW=xi+4294967296*FX):
  AE ((o.set i w).take (i+1))+(B+2^(32*i)*yi)*D=(A+2^(32*i)*xi)+2^(32*(i+1))*FX:=by
 rw[Ei hi,D2,Ds,List.length_take,Nat.min_eq_left (by omega)]
 generalize 2^(32*i)=P at*
 have e:P*(w.toNat+yi*D+FW)=P*(xi+4294967296*FX):=by rw[hs]
 grind
theorem eF {NX NY i:Nat} {w:UInt32} (hi:i<o.length) (h:AE (o.take i)+2^(32*i)*NX=A+B) (hs:w.toNat+4294967296*NY=xi+yi+NX):
  AE ((o.set i w).take (i+1))+2^(32*(i+1))*NY=(A+2^(32*i)*xi)+(B+2^(32*i)*yi):=by
 rw[Ei hi,D2,Ds,List.length_take,Nat.min_eq_left (by omega)]
 generalize 2^(32*i)=P at*
 have e:P*(w.toNat+4294967296*NY)=P*(xi+yi+NX):=by rw[hs]
 grind
end Go.Abs
namespace Go.Abs
variable {D P R R0 R2 S V V0 V2 high next r top u3:Nat}
theorem ZV {u:List UInt32} {off len:Nat} (hs:S<2^(32*len)) (d:off+len<=u.length):
  ∃z:List UInt32,z.length=u.length/\z.take off=u.take off/\z.drop (off+len)=u.drop (off+len)/\AE ((z.drop off).take len)=S:=by
 obtain⟨y,f,a⟩:=JL hs;have c:(u.take off).length=off:=by rw[List.length_take];omega
 refine⟨u.take off++(y++u.drop (off+len)),?_,?_,?_,?_⟩
 ·simp;omega
 ·rw[List.take_append_of_le_length (by omega),List.take_of_length_le (by omega)]
 ·rw[<-List.drop_drop,List.drop_append_of_le_length (by omega),List.drop_eq_nil_of_le (by omega:(u.take off).length<=off),List.nil_append,List.drop_append_of_le_length (by omega),List.drop_eq_nil_of_le (by omega:y.length<=len),List.nil_append]
 rw[List.drop_append_of_le_length (by omega),List.drop_eq_nil_of_le (by omega:(u.take off).length<=off),List.nil_append,List.take_append_of_le_length (by omega),List.take_of_length_le (by omega),a]
theorem Vf (hR:R=R2*P+R0) (a:R0<P) (hV:V=V2*P+V0) (h:R2<D*V2):R/V<D:=by
 have g:0<P:=by omega
 have c:0<V2:=by
  apply Nat.pos_of_ne_zero;intro e;subst e;simp at h
 apply Nat.div_lt_of_lt_mul;have d:(R2+1)*P<=D*V2*P:=Nat.mul_le_mul_right _ h;have f:V*D=D*V2*P+V0*D:=by rw[hV];grind
 have h3:(R2+1)*P=R2*P+P:=by grind
 omega
theorem Vg (hR:R=R2*P+R0) (hV:V=V2*P+V0) (d:V0<P) (h:D*V2<=R2) (m:D<=V2+1):D<=R/V+1:=by
 cases D with
 | zero=>exact Nat.zero_le _
 | succ D=>
  have a:0<V\/V=0:=by omega
  rcases a with a | a
  ·have:D<=R/V:=by
    rw[Nat.le_div_iff_mul_le a];have f:(D+1)*V2*P<=R2*P:=Nat.mul_le_mul_right _ h;have g:D*V=D*V2*P+D*V0:=by rw[hV];grind
    have h3:(D+1)*V2*P=D*V2*P+V2*P:=by grind
    have j:D*V0<=D*P:=Nat.mul_le_mul_left _ (by omega);have k:D*P<=V2*P:=Nat.mul_le_mul_right _ (by omega);omega
   exact Nat.succ_le_succ this
  have c:V2*P=0:=by omega
  have v:0<P:=by omega
  have:V2=0:=by
   rcases Nat.mul_eq_zero.1 c with e | e
   ·exact e
   omega
  exact Nat.le_trans (by omega:D+1<=1) (Nat.le_add_left _ _)
structure H2 (R V top high D r:Nat):Prop where
 sum:r+D*high=top
 up:R/V<=D
 OR:D<=4294967297
 rest:r<4294967296
theorem iA (hR:R=top*P+R0) (a:R0<P) (hV:V=high*P+V0) (h:2147483648<=high) (f:high<4294967296) (ht:top<4294967296*(high+1)):H2 R V top high (top/high) (top%high):=by
 have hm:=Nat.div_add_mod top high;have g:=Nat.mod_lt top (by omega:0<high);refine⟨by rw[Nat.mul_comm] at hm;omega,?_,?_,by omega⟩
 ·have c:top<(top/high+1)*high:=by rw[Nat.add_mul,Nat.mul_comm];omega
  exact Nat.le_of_lt_succ (Vf hR a hV c)
 have d:top<4294967298*high:=by omega
 have h3:top/high<4294967298:=(Nat.div_lt_iff_lt_mul (by omega)).2 d;exact Nat.le_of_lt_succ h3
theorem WW (g:H2 R V top high D r) (a:R/V<4294967296) (h:4294967296<=D:=by omega):R/V<=D-1:=by
 have:=g.up;exact Nat.le_sub_one_of_lt (Nat.lt_of_lt_of_le a h)
theorem WY (g:H2 R V top high D r) (hR:R=(4294967296*top+u3)*P+R0) (a:R0<P) (hV:V=(4294967296*high+next)*P+V0) (h:4294967296*r+u3<D*next):R/V<=D-1:=by
 have f:4294967296*top+u3<D*(4294967296*high+next):=by
  have e:=g.sum
  clear g hR hV
  rw[<-e];have c:D*(4294967296*high+next)=4294967296*(D*high)+D*next:=by grind
  have d:4294967296*(r+D*high)=4294967296*r+4294967296*(D*high):=by grind
  rw[c,d]
  generalize D*high=Q at*
  generalize D*next=T at*
  omega
 exact Nat.le_sub_one_of_lt (Vf hR a hV f)
theorem WZ (g:H2 R V top high D r) (a:R/V<=D-1) (d:0<D) (c:r+high<4294967296):H2 R V top high (D-1) (r+high):=by
 refine⟨?_,a,by have:=g.OR;omega,c⟩;have:=g.sum;obtain⟨D,rfl⟩:∃k,D=k+1:=⟨D-1,by omega⟩
 simp only[Nat.add_sub_cancel];rw[Nat.add_mul] at this;omega
structure K7 (R V D:Nat):Prop where
 up:R/V<=D
 low:D<=R/V+1
 word:D<4294967296
theorem RU (g:H2 R V top high D r) (hR:R=(4294967296*top+u3)*P+R0) (hV:V=(4294967296*high+next)*P+V0) (a:V0<P) (d:2147483648<=high)
  (c:D<4294967296) (h:D*next<=4294967296*r+u3:=by omega):K7 R V D:=by
 refine⟨g.up,Vg hR hV a ?_ (by omega),c⟩;have e:=g.sum;rw[<-e];have:D*(4294967296*high+next)=4294967296*(D*high)+D*next:=by grind
 have:4294967296*(r+D*high)=4294967296*r+4294967296*(D*high):=by grind
 omega
theorem RT (g:H2 R V top high D r) (d:R/V<=D-1) (v:0<D) (hR:R=(4294967296*top+u3)*P+R0) (hV:V=(4294967296*high+next)*P+V0) (c:V0<P) (z:2147483648<=high) (C:next<4294967296)
  (ht:top<4294967296*(high+1)) (f:4294967296<=r+high:=by omega):K7 R V (D-1):=by
 obtain⟨D,rfl⟩:∃k,D=k+1:=⟨D-1,by omega⟩
 simp only[Nat.add_sub_cancel] at d ⊢;have e:=g.sum;have hm:=g.OR;have hs:(r+high)+D*high=top:=by rw[Nat.add_mul] at e;omega
 have a:D<4294967296:=by
  apply Classical.byContradiction;intro w;have:4294967296*high<=D*high:=Nat.mul_le_mul_right _ (by omega);omega
 refine⟨d,Vg hR hV c ?_ (by omega),a⟩;rw[<-hs];have h:D*(4294967296*high+next)=4294967296*(D*high)+D*next:=by grind
 have j:4294967296*(r+high+D*high)=4294967296*(r+high)+4294967296*(D*high):=by grind
 have h3:D*next<=4294967296*4294967296:=Nat.mul_le_mul (by omega) (by omega);have m:4294967296*4294967296<=4294967296*(r+high):=Nat.mul_le_mul_left _ f;omega
theorem Xj {M:Nat} {b:Bool} (f:K7 R V D) (hV:0<V) (h:S+V*D=R+M*b.toNat) (k:S<M):
  (b=false->D=R/V/\S=R%V)/\(b=true->D-1=R/V/\0<D/\(R%V<M->(S+V)%M=R%V)):=by
 have m:=Nat.div_add_mod R V;have v:=Nat.mod_lt R hV;obtain⟨g,j,_⟩:=f
 generalize R/V=Q at*
 generalize R%V=T at*
 constructor
 ·rintro rfl;simp at h
  have a:D=Q:=by
   apply Classical.byContradiction;intro d;have:D=Q+1:=by omega
   rw[this,Nat.mul_add] at h;omega
  exact⟨a,by rw[a] at h;omega⟩
 rintro rfl;simp at h
 have a:D=Q+1:=by
  apply Classical.byContradiction;intro d;have:D=Q:=by omega
  rw[this] at h;omega
 refine⟨by omega,by omega,fun c=>?_⟩;rw[a,Nat.mul_add] at h;have:S+V=T+M*1:=by omega
 rw[this,Nat.add_mul_mod_self_left,Nat.mod_eq_of_lt c]
end Go.Abs
namespace Go.Abs
variable {A R V b i n q s:Nat} {u:List UInt32}
theorem nc {D M:Nat} (d:K7 R V D) (hV:0<V) (hR:R<M) (c:V<=M):∃(b:Bool) (S:Nat),S+V*D=R+M*b.toNat/\S<M:=by
 have f:=Nat.div_add_mod R V;have a:V*D<=V*(R/V+1):=Nat.mul_le_mul_left _ d.low;rw[Nat.mul_add] at a
 by_cases h:V*D<=R
 ·exact⟨false,R-V*D,by simp;omega,by omega⟩
 refine⟨true,R+M-V*D,?_,by omega⟩;simp
 generalize V*(R/V)=T at*
 omega
theorem nz {x y w:UInt32} (a:u[i+n]? =some x) (g:u[i+n-1]? =some y) (hw:u[i+n-2]? =some w) (j:2<=n) (d:AE (u.drop (i+n+1))=0):
  AE (u.drop i)=(4294967296*(y.toNat+4294967296*x.toNat)+w.toNat)*2^(32*(n-2))+AE ((u.drop i).take (n-2)):=by
 have f:i+n<u.length:=by
  apply Classical.byContradiction;intro h;rw[List.getElem?_eq_none (by omega)] at a;exact absurd a (by simp)
 have c:=Fc (u.drop i) (n-2) (by rw[List.length_drop];omega);rw[List.drop_drop,show i+(n-2)=i+n-2 by omega,DZ hw,show i+n-2+1=i+n-1 by omega,DZ g,show i+n-1+1=i+n by omega,DZ a,d] at c;rw[c]
 generalize 2^(32*(n-2))=P
 grind
theorem ny {v:List UInt32} {y w:UInt32} (hlen:v.length=n) (d:v[n-1]? =some y) (hw:v[n-2]? =some w) (f:2<=n):
  AE v=(4294967296*y.toNat+w.toNat)*2^(32*(n-2))+AE (v.take (n-2))/\AE v=y.toNat*2^(32*(n-1))+AE (v.take (n-1)):=by
 have a:=Fc v (n-2) (by omega);rw[DZ hw,show n-2+1=n-1 by omega,DZ d,show n-1+1=n by omega,List.drop_eq_nil_of_le (by omega)] at a;have c:=Fc v (n-1) (by omega);rw[DZ d,show n-1+1=n by omega,List.drop_eq_nil_of_le (by omega)] at c
 constructor
 ·rw[a];simp only[AE];generalize 2^(32*(n-2))=P;grind
 rw[c];simp only[AE];generalize 2^(32*(n-1))=P;grind
theorem Kv {l:List UInt32}:AE (l.take n)<2^(32*n):=
 Nat.lt_of_lt_of_le (CR _) (Nat.pow_le_pow_right (by decide) (by rw[List.length_take];omega))
theorem Qu {l:List UInt32} (h:AE l<2^(32*n)) (a:n<=l.length):AE (l.drop n)=0:=by
 have c:=Fc l n a;apply Classical.byContradiction;intro d;have:2^(32*n)*1<=2^(32*n)*AE (l.drop n):=Nat.mul_le_mul_left _ (by omega);omega
theorem ZE {z:List UInt32} {Q:Nat} (v:z.length=u.length) (a:z.take i=u.take i) (c:z.drop (i+(n+1))=u.drop (i+(n+1))) (hlen:i+(n+1)<=u.length) (g:AE (u.drop (i+n+1))=0)
  (m:q=AE (u.drop i)/V) (k:AE ((z.drop i).take (n+1))=AE (u.drop i)%V) (j:A=AE u+2^(32*(i+1))*Q*V):
  AE (z.drop i)=AE (u.drop i)%V/\A=AE z+2^(32*i)*(q+4294967296*Q)*V:=by
 have d:AE (z.drop i)=AE (u.drop i)%V:=by
  have:=Fc (z.drop i) (n+1) (by rw[List.length_drop];omega);rw[List.drop_drop,c,show i+(n+1)=i+n+1 by omega,g,k] at this;simpa using this
 refine⟨d,?_⟩;have h:=Fc u i (by omega);have h3:=Fc z i (by omega);rw[a,d] at h3;have f:=Nat.div_add_mod (AE (u.drop i)) V;rw[<-m] at f;rw[j,h,h3,Ds,<-f]
 generalize 2^(32*i)=P
 grind
theorem ZW (h:i+n<=u.length) (a:AE (u.drop (i+n))=0):AE ((u.drop i).take n)=AE (u.drop i):=by
 have:=Fc (u.drop i) n (by rw[List.length_drop];omega);rw[List.drop_drop,a] at this;simpa using this.symm
theorem Lb {x:UInt32} (f:(AP b)[i]? =some x) (hi:i+1=(AP b).length):x.toNat≠0:=by
 intro a;have hb:b≠0:=fun e=>by subst e;simp[Fv] at hi
 have c:=XG hb;have d:=CK f;rw[hi,List.take_length,Az,a] at d;have h3:=CR ((AP b).take i);rw[List.length_take,Nat.min_eq_left (by omega)] at h3;rw[<-hi,Nat.add_sub_cancel] at c;omega
theorem Zi {k:Nat} {x:UInt32} (a:(AP b).length=n) (g:1<=n) (z:(AP b)[n-1]? =some x) (f:2^(k-1)<=x.toNat) (h:x.toNat<2^k) (J:1<=k) (v:k<=32) (hs:s=32-k):
  (AP (b*2^s)).length=n/\2147483648*2^(32*(n-1))<=b*2^s:=by
 have c:2^(k-1)*2^s=2147483648:=by rw[<-Nat.pow_add,show k-1+s=31 by omega]
 have d:2^k*2^s=4294967296:=by rw[<-Nat.pow_add,show k+s=32 by omega]
 have h3:=CK z;rw[show n-1+1=n by omega,<-a,List.take_length,Az,a] at h3;have j:=CR ((AP b).take (n-1));rw[List.length_take,Nat.min_eq_left (by omega)] at j;have w:2^(32*n)=4294967296*2^(32*(n-1)):=by rw[<-Ds,show n-1+1=n by omega]
 generalize m:2^(32*(n-1))=P at*
 have low:2147483648*P<=b*2^s:=by
  rw[<-c,h3];have:2^(k-1)*2^s*P<=x.toNat*2^s*P:=Nat.mul_le_mul_right _ (Nat.mul_le_mul_right _ f);have:(AE (List.take (n-1) (AP b))+P*x.toNat)*2^s=AE (List.take (n-1) (AP b))*2^s+x.toNat*2^s*P:=by grind
  omega
 refine⟨?_,low⟩
 have up:b*2^s<2^(32*n):=by
  rw[w,<-d];have C:b<(x.toNat+1)*P:=by rw[h3,Nat.add_mul,Nat.mul_comm P];omega
  have F:(x.toNat+1)*P<=2^k*P:=Nat.mul_le_mul_right _ h;have G:b*2^s<2^k*P*2^s:=(Nat.mul_lt_mul_right (Nat.two_pow_pos s)).2 (by omega);have:2^k*2^s*P=2^k*P*2^s:=by grind
  omega
 have H:=Fu up;have I:=W7 (n:=b*2^s) (k:=n-1) (by rw[m];omega);omega
theorem Ox (l:List UInt32) (h:s<=31:=by omega):AE l*2^s<2^(32*(l.length+1)):=by
 rw[Ds,Nat.mul_comm 4294967296];exact Nat.mul_lt_mul_of_lt_of_le (CR l) (Nat.le_trans (Nat.pow_le_pow_right (by decide) h:2^s<=2^31) (by decide)) (by decide)
theorem iF {hi rest:Nat} (h:2147483648*2^(32*(n-1))<=V) (hV:V=hi*2^(32*(n-1))+rest) (c:rest<2^(32*(n-1))):2147483648<=hi:=by
 generalize 2^(32*(n-1))=P at*
 apply Classical.byContradiction;intro a;have:(hi+1)*P<=2147483648*P:=Nat.mul_le_mul_right _ (by omega);rw[Nat.add_mul] at this;omega
theorem aA {l:List UInt32} {m:Nat} (hu:AE u=AE l*2^s) (hs:s<=31) (hlen:u.length=l.length+1) (hm:m+n=l.length+1) (k:1<=n) (hV:2147483648*2^(32*(n-1))<=V):AE (u.drop m)<V:=by
 have a:=Fc u m (by omega);have c:=CR l;have h3:2^(32*l.length)=2^(32*m)*2^(32*(n-1)):=by rw[<-Nat.pow_add,show 32*m+32*(n-1)=32*l.length by omega]
 have d:2^s<=2147483648:=Nat.le_trans (Nat.pow_le_pow_right (by decide) hs:2^s<=2^31) (by decide);have f:AE l*2^s<2^(32*l.length)*2147483648:=Nat.mul_lt_mul_of_lt_of_le c d (by decide);rw[hu,] at a;rw[h3] at f;have v:=Nat.two_pow_pos (32*m)
 generalize 2^(32*m)=P at*
 generalize 2^(32*(n-1))=N at*
 apply Classical.byContradiction;intro j;have g:P*(2147483648*N)<=P*AE (u.drop m):=Nat.mul_le_mul_left _ (by omega);have h:P*N*2147483648=P*(2147483648*N):=by grind
 omega
theorem oA {x y:UInt32} (a:u[i+n]? =some x) (g:u[i+n-1]? =some y) (j:1<=n) (d:AE (u.drop (i+n+1))=0):
  AE (u.drop i)=(y.toNat+4294967296*x.toNat)*2^(32*(n-1))+AE ((u.drop i).take (n-1)):=by
 have f:i+n<u.length:=by
  apply Classical.byContradiction;intro h;rw[List.getElem?_eq_none (by omega)] at a;exact absurd a (by simp)
 have c:=Fc (u.drop i) (n-1) (by rw[List.length_drop];omega);rw[List.drop_drop,show i+(n-1)=i+n-1 by omega,DZ g,show i+n-1+1=i+n by omega,DZ a,d] at c;rw[c]
 generalize 2^(32*(n-1))=P
 grind
theorem nx {top high P c a:Nat} (hR:R=top*P+c) (hV:V=high*P+a) (d:a<P) (h:R<4294967296*V):top<4294967296*(high+1):=by
 apply Classical.byContradiction;intro j;have f:4294967296*(high+1)*P<=top*P:=Nat.mul_le_mul_right _ (by omega);have g:4294967296*(high+1)*P=4294967296*(high*P)+4294967296*P:=by grind
 omega
theorem Vp {a r:Nat} (f:A=a*2^s) (hV:V=b*2^s) (h:A=r+q*V) (z:r<V) (hb:0<b):q=a/b/\r/2^s=a%b:=by
 have g:=Nat.two_pow_pos s;have v:=Nat.div_add_mod a b;have w:=Nat.mod_lt a hb
 have e:a*2^s=(a%b)*2^s+(a/b)*V:=by rw[hV];conv=>lhs;rw[<-v]
                                    grind
 have d:(a%b)*2^s<V:=by rw[hV];exact (Nat.mul_lt_mul_right g).2 w
 have c:0<V:=by omega
 have j:q=a/b:=by
  have k:A/V=q:=by rw[h,Nat.add_mul_div_right _ _ c,Nat.div_eq_of_lt z,Nat.zero_add]
  have m:A/V=a/b:=by rw[f,e,Nat.add_mul_div_right _ _ c,Nat.div_eq_of_lt d,Nat.zero_add]
  rw[<-k,m]
 refine⟨j,?_⟩;have:r=(a%b)*2^s:=by rw[f,e,j] at h;omega
 rw[this,Nat.mul_div_cancel _ g]
end Go.Abs
namespace Go.Abs
def CI (x y:Int):Int:=if 0<=y then x/y else (-x)/(-y)
variable {N X:Nat} {b:Bool} {x y:Int}
theorem KB {a b q r:Int} (hb:0<b) (h:a=b*q+r) (c:0<=r) (d:r<b):a/b=q:=((Int.ediv_emod_unique hb).2 ⟨by omega,c,d⟩).1
theorem Vk (f:y≠0) (hs:decide (x<0)=decide (y<0)):CI x y=((x.natAbs/y.natAbs:Nat):Int):=by
 have c:=Nat.div_add_mod x.natAbs y.natAbs;have hm:=Nat.mod_lt x.natAbs (by omega:0<y.natAbs)
 generalize x.natAbs/y.natAbs=q at*
 generalize x.natAbs%y.natAbs=r at*
 have a:(y.natAbs:Int)*q+r=x.natAbs:=by rw[<-c];simp
 unfold CI
 by_cases h:0<=y
 ·rw[if_pos h]
  have:¬x<0:=by intro d;have:y<0:=by simpa [d] using hs
                omega
  rw[show (y.natAbs:Int)=y by omega,show (x.natAbs:Int)=x by omega] at a;exact KB (r:=r) (by omega) a.symm (by omega) (by omega)
 rw[if_neg h]
 have:x<0:=by have:y<0:=by omega
              simpa [this] using hs
 rw[show (y.natAbs:Int)= -y by omega,show (x.natAbs:Int)= -x by omega] at a;exact KB (r:=r) (by omega) a.symm (by omega) (by omega)
theorem Vh (g:y≠0) (hs:decide (x<0)≠decide (y<0)) (f:x.natAbs%y.natAbs=0):CI x y= -((x.natAbs/y.natAbs:Nat):Int):=by
 have d:=Nat.div_add_mod x.natAbs y.natAbs;rw[f] at d
 generalize x.natAbs/y.natAbs=q at*
 have a:(y.natAbs:Int)*q=x.natAbs:=by rw[<-d];simp
 unfold CI
 by_cases h:0<=y
 ·rw[if_pos h]
  have c:x<0:=by
   apply Classical.byContradiction;intro c;exact hs (by rw[decide_eq_false c,decide_eq_false (by omega)])
  rw[show (y.natAbs:Int)=y by omega,show (x.natAbs:Int)= -x by omega] at a;exact KB (r:=0) (by omega) (by rw[Int.mul_neg,a];omega) (by omega) (by omega)
 rw[if_neg h]
 have c:¬x<0:=by
  intro c;exact hs (by rw[decide_eq_true c,decide_eq_true (by omega)])
 rw[show (y.natAbs:Int)= -y by omega,show (x.natAbs:Int)=x by omega] at a;exact KB (r:=0) (by omega) (by rw[Int.mul_neg,a];omega) (by omega) (by omega)
theorem Vi (g:y≠0) (hs:decide (x<0)≠decide (y<0)) (f:x.natAbs%y.natAbs≠0):CI x y= -((x.natAbs/y.natAbs+1:Nat):Int):=by
 have d:=Nat.div_add_mod x.natAbs y.natAbs;have hm:=Nat.mod_lt x.natAbs (by omega:0<y.natAbs)
 generalize x.natAbs/y.natAbs=q at*
 generalize x.natAbs%y.natAbs=r at*
 have a:(y.natAbs:Int)*q+r=x.natAbs:=by rw[<-d];simp
 unfold CI
 by_cases h:0<=y
 ·rw[if_pos h]
  have c:x<0:=by
   apply Classical.byContradiction;intro c;exact hs (by rw[decide_eq_false c,decide_eq_false (by omega)])
  rw[show (y.natAbs:Int)=y by omega,show (x.natAbs:Int)= -x by omega] at a;refine KB (r:=y-r) (by omega) ?_ (by omega) (by omega);rw[Int.natCast_add,Int.mul_neg,Int.mul_add];omega
 rw[if_neg h]
 have c:¬x<0:=by
  intro c;exact hs (by rw[decide_eq_true c,decide_eq_true (by omega)])
 rw[show (y.natAbs:Int)= -y by omega,show (x.natAbs:Int)=x by omega] at a;refine KB (r:= -y-r) (by omega) ?_ (by omega) (by omega);rw[Int.natCast_add,Int.mul_neg,Int.mul_add];omega
def Gl (x y:Int):Int:=x-y*CI x y
theorem RP:(y.natAbs:Int)*((x.natAbs/y.natAbs:Nat):Int)+((x.natAbs%y.natAbs:Nat):Int)=x.natAbs:=by
 rw[<-Int.natCast_mul,<-Int.natCast_add,Nat.div_add_mod]
theorem jX (hb:b=decide (y<0)) (d:y≠0) (hs:decide (x<0)=decide (y<0)):Gl x y=if b=true then -((x.natAbs%y.natAbs:Nat):Int) else ((x.natAbs%y.natAbs:Nat):Int):=by
 have c:= @RP x y;unfold Gl;rw[Vk d hs]
 generalize x.natAbs/y.natAbs=q at*
 generalize x.natAbs%y.natAbs=r at*
 by_cases h:y<0
 ·have a:x<0:=by simpa [h] using hs
  rw[hb,decide_eq_true h,if_pos rfl];rw[show (y.natAbs:Int)= -y by omega,show (x.natAbs:Int)= -x by omega,Int.neg_mul] at c;omega
 have a:¬x<0:=by intro a;simp[a,h] at hs
 rw[hb,decide_eq_false h,if_neg (by simp)];rw[show (y.natAbs:Int)=y by omega,show (x.natAbs:Int)=x by omega] at c;omega
theorem jV (f:y≠0) (hs:decide (x<0)≠decide (y<0)) (d:x.natAbs%y.natAbs=0):Gl x y=if b=true then -((x.natAbs%y.natAbs:Nat):Int) else ((x.natAbs%y.natAbs:Nat):Int):=by
 have c:= @RP x y;unfold Gl;rw[Vh f hs d];rw[d] at c ⊢
 generalize x.natAbs/y.natAbs=q at*
 have e:x-y* -(q:Int)=0:=by
  by_cases h:y<0
  ·have a:¬x<0:=by intro a;exact hs (by rw[decide_eq_true a,decide_eq_true h])
   rw[show (y.natAbs:Int)= -y by omega,show (x.natAbs:Int)=x by omega,Int.neg_mul] at c;rw[Int.mul_neg];omega
  have a:x<0:=by apply Classical.byContradiction;intro a;exact hs (by rw[decide_eq_false a,decide_eq_false h])
  rw[show (y.natAbs:Int)=y by omega,show (x.natAbs:Int)= -x by omega] at c;rw[Int.mul_neg];omega
 rw[e];cases b <;> rfl
theorem jW (hb:b=decide (y<0)) (f:y≠0) (hs:decide (x<0)≠decide (y<0)) (d:x.natAbs%y.natAbs≠0):
  Gl x y=if b=true then -((y.natAbs-x.natAbs%y.natAbs:Nat):Int) else ((y.natAbs-x.natAbs%y.natAbs:Nat):Int):=by
 have c:= @RP x y;have hm:=Nat.mod_lt x.natAbs (by omega:0<y.natAbs);unfold Gl;rw[Vi f hs d]
 generalize x.natAbs/y.natAbs=q at*
 generalize x.natAbs%y.natAbs=r at*
 rw[Int.natCast_add,Int.mul_neg,Int.mul_add]
 by_cases h:y<0
 ·have a:¬x<0:=by intro a;exact hs (by rw[decide_eq_true a,decide_eq_true h])
  rw[hb,decide_eq_true h,if_pos rfl];rw[show (y.natAbs:Int)= -y by omega,show (x.natAbs:Int)=x by omega,Int.neg_mul] at c;omega
 have a:x<0:=by apply Classical.byContradiction;intro a;exact hs (by rw[decide_eq_false a,decide_eq_false h])
 rw[hb,decide_eq_false h,if_neg (by simp)];rw[show (y.natAbs:Int)=y by omega,show (x.natAbs:Int)= -x by omega] at c;omega
theorem Z8 (v:BM N<=X) (a:0<X):BM N<=(X+N/X)/2:=by
 have h:=Lq N
 generalize BM N=s at*
 have j:X*(N/X)+N%X=N:=Nat.div_add_mod N X;have h3:=Nat.mod_lt N a
 generalize N/X=q at*
 rw[Nat.le_div_iff_mul_le (by decide)];apply Classical.byContradiction;intro w;have k:X+q+1<=2*s:=by omega
 obtain⟨d,rfl⟩:∃d,X=s+d:=⟨X-s,by omega⟩
 have c:q+1<=s-d:=by omega
 have f:(s+d)*(q+1)<=(s+d)*(s-d):=Nat.mul_le_mul_left _ c
 have m:(s+d)*(s-d)<=s*s:=by
  by_cases g:d<=s
  ·obtain⟨e,rfl⟩:∃e,s=e+d:=⟨s-d,by omega⟩
   have:(e+d)*(e+d)=(e+d+d)*e+d*d:=by grind
   rw[Nat.add_sub_cancel];omega
  rw[show s-d=0 by omega];simp
 rw[Nat.mul_add] at f;omega
theorem nQ (g:BM N<=X) (a:0<X) (h:X<=(X+N/X)/2):BM N=X:=by
 have c:X<=N/X:=by omega
 have d:X*X<=N:=by
  have:=(Nat.le_div_iff_mul_le a).1 c;exact this
 have h3:=OP N;have f:X<BM N+1:=Nat.mul_self_lt_mul_self_iff.1 (by omega);omega
theorem nT (h:N≠0):BM N<=2^((Nat.log2 N+1)/2+1):=by
 apply Classical.byContradiction;intro f;have a:=Lq N;have c:N<2^(Nat.log2 N+1):=(Nat.log2_lt h).1 (Nat.lt_succ_self _);have h3:2^((Nat.log2 N+1)/2+1)*2^((Nat.log2 N+1)/2+1)<=BM N*BM N:=Nat.mul_le_mul (by omega) (by omega);rw[<-Nat.pow_add] at h3;have d:2^(Nat.log2 N+1)<=2^((Nat.log2 N+1)/2+1+((Nat.log2 N+1)/2+1)):=Nat.pow_le_pow_right (by decide) (by omega);omega
end Go.Abs
