/- Part 15 of a proof. Conditions: each theorem's own. -/
import Derived.Test.YtfilemenbchajaaGreatPk13
set_option linter.all false
set_option maxHeartbeats 8000000
set_option maxRecDepth 20000
namespace Go.Abs
def DN (D:Nat) (a:List Rat):Prop:=∀q∈a,∃n:Int,q*D=n
def MX (B:Nat) (a:List Rat):Prop:=∀q∈a,-(B:Rat)<=q/\q<=B
def Bd (k:Nat) (a:List Rat):Prop:=∃D:Nat,0<D/\D<=2^k/\DN D a/\MX (2^k) a
def TB (R:Nat) (u:List (List Rat)):Prop:=∀r∈u,Bd R r
def EE:Nat->Nat->Nat
 | 0,_=>0
 | h+1,R=>2*EE h R+R+2
def II:Nat->Nat->Nat->Nat
 | 0,_,s=>2*s
 | h+1,R,s=>s+EE h R+II h R (2*s+2*EE h R+R+1)
def GG:Nat->Nat->Nat
 | 0,_=>0
 | h+1,R=>3*EE h R+R+1+2*GG h R+II h R R
theorem aX {p q:Rat} (h:∃n:Int,p=n) (k:∃n:Int,q=n):∃n:Int,p+q=n:=by
 obtain⟨a,rfl⟩:=h;obtain⟨b,rfl⟩:=k;exact⟨a+b,by rw[Rat.intCast_add]⟩
theorem TD {p q:Rat} (h:∃n:Int,p=n) (k:∃n:Int,q=n):∃n:Int,p*q=n:=by
 obtain⟨a,rfl⟩:=h;obtain⟨b,rfl⟩:=k;exact⟨a*b,by rw[Rat.intCast_mul]⟩
theorem aY (k:Nat):∃n:Int,(k:Rat)=n:=⟨k,rfl⟩
theorem FU (a b:Nat):((a*b:Nat):Rat)=(a:Rat)*b:=Rat.natCast_mul a b
theorem DN.mul_right {D:Nat} {a:List Rat} (h:DN D a) (c:Nat):DN (D*c) a:=fun q b=>by
 have:=TD (h q b) (aY c);rwa [Rat.mul_assoc,<-FU] at this
theorem DN.dvd {D E:Nat} {a:List Rat} (h:DN D a) (b:D∣E):DN E a:=by
 obtain⟨c,rfl⟩:=b;exact h.mul_right c
theorem Wm {a b:List Rat} {q:Rat} (h:q∈List.zipWith (· + ·) a b):∃x∈a,∃y∈b,q=x+y:=by
 obtain⟨i,c⟩:=List.mem_iff_getElem?.1 h;rw[List.getElem?_zipWith] at c;cases ha:a[i]? with
 | none=>rw[ha] at c;simp at c
 | some x=>
  cases hb:b[i]? with
  | none=>rw[ha,hb] at c;simp at c
  | some y=>
   rw[ha,hb] at c;exact⟨x,List.mem_of_getElem? ha,y,List.mem_of_getElem? hb,(Option.some.inj c).symm⟩
theorem DN.add {D:Nat} {a b:List Rat} (h:DN D a) (k:DN D b):DN D (List.zipWith (· + ·) a b):=fun q c=>by
 obtain⟨x,d,y,f,rfl⟩:=Wm c;have:=aX (h x d) (k y f);rwa [<-Rat.add_mul] at this
theorem DN.neg {D:Nat} {a:List Rat} (h:DN D a):DN D (a.map (- ·)):=fun q c=>by
 obtain⟨x,d,rfl⟩:=List.mem_map.1 c;obtain⟨n,b⟩:=h x d;exact⟨-n,by rw[Rat.intCast_neg,<-b,Rat.neg_mul]⟩
theorem MX.add {B C:Nat} {a b:List Rat} (h:MX B a) (k:MX C b):MX (B+C) (List.zipWith (· + ·) a b):=fun q c=>by
 obtain⟨x,d,y,f,rfl⟩:=Wm c;have:=h x d;have:=k y f;rw[Rat.natCast_add]
 grind
theorem MX.neg {B:Nat} {a:List Rat} (h:MX B a):MX B (a.map (- ·)):=fun q b=>by
 obtain⟨x,c,rfl⟩:=List.mem_map.1 b;have:=h x c
 grind
theorem MX.mono {B C:Nat} {a:List Rat} (h:MX B a) (b:B<=C):MX C a:=fun q d=>by
 have:=h q d;have c:(B:Rat)<=C:=Rat.natCast_le_natCast.2 b
 grind
theorem DN.app {D:Nat} {a b:List Rat}:DN D (a++b)↔DN D a/\DN D b:=
 ⟨fun h=>⟨fun q c=>h q (List.mem_append_left _ c),fun q c=>h q (List.mem_append_right _ c)⟩,fun h q c=>(List.mem_append.1 c).elim (h.1 q) (h.2 q)⟩
theorem MX.app {B:Nat} {a b:List Rat}:MX B (a++b)↔MX B a/\MX B b:=
 ⟨fun h=>⟨fun q c=>h q (List.mem_append_left _ c),fun q c=>h q (List.mem_append_right _ c)⟩,fun h q c=>(List.mem_append.1 c).elim (h.1 q) (h.2 q)⟩
section
variable {u:List (List Rat)} {x y:Re}
theorem SI (h:Ab u) (b:In u x) (a:In u y):co u (x-y)=List.zipWith (· + ·) (co u x) ((co u y).map (- ·)):=by
 rw[show x-y=x+ -y by grind,Jt h b (Fc a),Jv h a]
theorem DN.Fv {D:Nat} (h:Ab u) (c:In u x) (d:In u y) (a:DN D (co u x)) (b:DN D (co u y)):DN D (co u (x+y)):=by rw[Jt h c d];exact a.add b
theorem DN.IJ {D:Nat} (h:Ab u) (c:In u x) (d:In u y) (a:DN D (co u x)) (b:DN D (co u y)):DN D (co u (x-y)):=by rw[SI h c d];exact a.add b.neg
theorem MX.Fv {B C:Nat} (h:Ab u) (c:In u x) (d:In u y) (a:MX B (co u x)) (b:MX C (co u y)):MX (B+C) (co u (x+y)):=by rw[Jt h c d];exact a.add b
theorem MX.IJ {B C:Nat} (h:Ab u) (c:In u x) (d:In u y) (a:MX B (co u x)) (b:MX C (co u y)):MX (B+C) (co u (x-y)):=by rw[SI h c d];exact a.add b.neg
end
theorem Ln:∀(u:List (List Rat)) (c:Rat) (a:List Rat),a.length=2^u.length->AN u (a.map (c* ·))=Re.ofRat c*AN u a
 | [],c,a,ha=>by
  match a,ha with
  | [p],_=>exact Re.ofRat_mul c p
 | r::u,c,a,ha=>by
  rw[Bc] at ha;rw[AN,AN,<-List.map_take,<-List.map_drop,Ln u _ _ (by rw[List.length_take];omega),Ln u _ _ (by rw[List.length_drop];omega)]
  grind
theorem N2 {u:List (List Rat)} {x:Re} (h:Ab u) (a:In u x) (c:Rat):co u (Re.ofRat c*x)=(co u x).map (c* ·):=
 Hv h (by rw[List.length_map,CQ a]) (by rw[Ln u c _ (CQ a),Df a])
theorem OQ {u:List (List Rat)} {x:Re} (a:In u x) (c:Rat):In u (Re.ofRat c*x):=
 ⟨(co u x).map (c* ·),by rw[List.length_map,CQ a],by rw[Ln u c _ (CQ a),Df a]⟩
theorem Il {u:List (List Rat)} {x:Re} (h:Ab u) (f:In u x) {D c:Nat}:DN (D*c) (co u x)↔DN D (co u (Re.ofRat c*x)):=by
 rw[N2 h f]
 constructor
 ·intro k q b;obtain⟨p,d,rfl⟩:=List.mem_map.1 b;obtain⟨n,a⟩:=k p d;exact⟨n,by rw[<-a,FU];grind⟩
 intro k q b;obtain⟨n,a⟩:=k _ (List.mem_map.2 ⟨q,b,rfl⟩);exact⟨n,by rw[<-a,FU];grind⟩
theorem DG (k:Nat):0<2^k:=Nat.two_pow_pos k
theorem CX {a b:Nat} (h:a<=b):2^a<=2^b:=Nat.pow_le_pow_right (by decide) h
theorem TB.tail {R:Nat} {r:List Rat} {u:List (List Rat)} (h:TB R (r::u)):TB R u:=fun x a=>h x (List.mem_cons_of_mem _ a)
theorem TB.head {R:Nat} {r:List Rat} {u:List (List Rat)} (h:TB R (r::u)):Bd R r:=h r List.mem_cons_self
theorem Ez {r:List Rat} {u:List (List Rat)} (h:Ab (r::u)):co u (AN u r)=r:=ZZ h.1 h.2.1
theorem SG {r:List Rat} {u:List (List Rat)} {a b c d x y:Re} (h:Ab (r::u)) (ha:In u a) (hb:In u b) (f:In u c) (g:In u d) (j:x=a+b*rt u r) (k:y=c+d*rt u r):
  co (r::u) (x*y)=co u (a*c+b*d*AN u r)++co u (a*d+b*c):=by
 have m:=CO h;exact Cr h (Cp (Ar h.1 ha f) (Ar h.1 (Ar h.1 hb g) (CG h))) (Cp (Ar h.1 ha g) (Ar h.1 hb f)) (by subst j;subst k;grind)
theorem Ik:∀{u:List (List Rat)} {R:Nat},Ab u->TB R u->∃K:Nat,0<K/\K<=2^EE u.length R/\∀{x y:Re} {D m:Nat},In u x->In u y->DN D (co u x)->DN m (co u y)->DN (D*m*K) (co u (x*y))
 | [],R,_,_=>⟨1,by decide,by simp[EE],fun {x y D m} G H h k=>by
  obtain⟨p,rfl⟩:=CI.1 G;obtain⟨q,rfl⟩:=CI.1 H;rw[Co] at h k;rw[<-Re.ofRat_mul,Co];intro z O;rw[List.mem_singleton.1 O];have:=TD (h p List.mem_cons_self) (k q List.mem_cons_self);rw[FU,FU];rwa [show p*(D:Rat)*(q*(m:Rat))=p*q*(D*m*(1:Nat)) by have:((1:Nat):Rat)=1:=rfl;grind] at this⟩
 | r::u,R,h,L=>by
  obtain⟨K,J,w,hm⟩:=Ik h.1 L.tail;obtain⟨E,M,F,C,_⟩:=L.head;refine⟨K*K*E,Nat.mul_pos (Nat.mul_pos J J) M,?_,fun {x y D m} G H f g=>?_⟩
  ·have I:K*K*E<=2^EE u.length R*2^EE u.length R*2^R:=Nat.mul_le_mul (Nat.mul_le_mul w w) F;rw[<-Nat.pow_add,<-Nat.pow_add] at I;exact Nat.le_trans I (CX (by rw[List.length_cons,EE];omega))
  obtain⟨a,b,ha,hb,rfl⟩:=CM.1 G;obtain⟨c,d,v,j,rfl⟩:=CM.1 H;rw[Cr h ha hb rfl,DN.app] at f;rw[Cr h v j rfl,DN.app] at g;rw[SG h ha hb v j rfl rfl,DN.app];have N:DN E (co u (AN u r)):=by rw[Ez h];exact C
  refine⟨DN.Fv h.1 (Ar h.1 ha v) (Ar h.1 (Ar h.1 hb j) (CG h)) ((hm ha v f.1 g.1).dvd ⟨K*E,by grind⟩) ((hm (Ar h.1 hb j) (CG h) (hm hb j f.2 g.2) N).dvd ⟨1,by grind⟩),
   DN.Fv h.1 (Ar h.1 ha j) (Ar h.1 hb v) ((hm ha j f.1 g.2).dvd ⟨K*E,by grind⟩) ((hm hb v f.2 g.1).dvd ⟨K*E,by grind⟩)⟩
theorem Oh {p q:Rat} {B C:Nat} (h: -(B:Rat)<=p/\p<=B) (k: -(C:Rat)<=q/\q<=C): -((B*C:Nat):Rat)<=p*q/\p*q<=((B*C:Nat):Rat):=by
 rw[FU];exact⟨bu h.2 h.1 k.2 k.1,I7 h.2 h.1 k.2 k.1⟩
theorem Gg:∀{u:List (List Rat)} {R:Nat},Ab u->TB R u->∀{x y:Re} {B C:Nat},In u x->In u y->MX B (co u x)->MX C (co u y)->MX (B*C*2^EE u.length R) (co u (x*y))
 | [],R,_,_,x,y,B,C,D,F,h,k=>by
  obtain⟨p,rfl⟩:=CI.1 D;obtain⟨q,rfl⟩:=CI.1 F;rw[Co] at h k;rw[<-Re.ofRat_mul,Co];intro z M;rw[List.mem_singleton.1 M];have:=Oh (h p List.mem_cons_self) (k q List.mem_cons_self);rwa [show B*C*2^EE ([]:List (List Rat)).length R=B*C by simp[EE]]
 | r::u,R,h,G,x,y,B,C,D,F,f,g=>by
  obtain⟨E,N,J,_,w⟩:=G.head;have v:=fun {x y:Re} {B C:Nat}=>Gg (R:=R) (x:=x) (y:=y) (B:=B) (C:=C) h.1 G.tail
  obtain⟨a,b,ha,hb,rfl⟩:=CM.1 D;obtain⟨c,d,m,j,rfl⟩:=CM.1 F;rw[Cr h ha hb rfl,MX.app] at f;rw[Cr h m j rfl,MX.app] at g;rw[SG h ha hb m j rfl rfl,MX.app];have L:MX (2^R) (co u (AN u r)):=by rw[Ez h];exact w
  have e:EE (r::u).length R=EE u.length R+EE u.length R+R+2:=by rw[List.length_cons,EE];omega
  rw[e,Nat.pow_add,Nat.pow_add,Nat.pow_add];have H:=DG (EE u.length R);have I:=DG R
  generalize 2^EE u.length R=K at*
  generalize 2^R=S at*
  have k1:B*C*K<=B*C*(K*K*S):=Nat.mul_le_mul_left _ (by
   have:K*1<=K*(K*S):=Nat.mul_le_mul_left _ (Nat.mul_pos H I);rw[Nat.mul_assoc];omega)
  have k2:B*C*K*S*K=B*C*(K*K*S):=by grind
  refine⟨(MX.Fv h.1 (Ar h.1 ha m) (Ar h.1 (Ar h.1 hb j) (CG h)) (v ha m f.1 g.1) (v (Ar h.1 hb j) (CG h) (v hb j f.2 g.2) L)).mono ?_,
   (MX.Fv h.1 (Ar h.1 ha j) (Ar h.1 hb m) (v ha j f.1 g.2) (v hb m f.2 g.1)).mono ?_⟩
  ·rw[k2];grind
  grind
end Go.Abs
namespace Go.Abs
variable {R s t:Nat} {p q x y:Re} {r:List Rat} {u:List (List Rat)}
theorem Bd.mono {k l:Nat} {a:List Rat} (h:Bd k a) (b:k<=l):Bd l a:=by
 obtain⟨D,c,d,f,h3⟩:=h;exact⟨D,c,Nat.le_trans d (CX b),f,h3.mono (CX b)⟩
theorem RZ (h:Ab u) (c:In u x) (d:In u y) (a:Bd s (co u x)) (b:Bd t (co u y)):Bd (s+t+1) (co u (x+y)):=by
 obtain⟨D,f,g,j,h3⟩:=a;obtain⟨E,k0,k1,k2,k⟩:=b;refine⟨D*E,Nat.mul_pos f k0,?_,DN.Fv h c d (j.dvd ⟨E,rfl⟩) (k2.dvd ⟨D,Nat.mul_comm _ _⟩),(MX.Fv h c d h3 k).mono ?_⟩
 ·have:=Nat.mul_le_mul g k1;rw[<-Nat.pow_add] at this;exact Nat.le_trans this (CX (by omega))
 have m:2^s<=2^(s+t):=CX (by omega);have v:2^t<=2^(s+t):=CX (by omega);rw[Nat.pow_succ];omega
theorem Rd (h:Ab u) (f:In u x) (a:Bd s (co u x)):Bd s (co u (-x)):=by
 obtain⟨D,b,c,d,h3⟩:=a;rw[Jv h f];exact⟨D,b,c,d.neg,h3.neg⟩
theorem Y9 (h:Ab u) (d:In u x) (c:In u y) (a:Bd s (co u x)) (b:Bd t (co u y)):Bd (s+t+1) (co u (x-y)):=by
 rw[show x-y=x+ -y by grind];exact RZ h d (Fc c) a (Rd h c b)
theorem Y7 (h:Ab u) (d:TB R u) (f:In u x) (g:In u y) (a:Bd s (co u x)) (b:Bd t (co u y)):Bd (s+t+EE u.length R) (co u (x*y)):=by
 obtain⟨D,j,k,m,h3⟩:=a;obtain⟨E,k0,k1,k2,w⟩:=b;obtain⟨K,v,c,hm⟩:=Ik h d;refine⟨D*E*K,Nat.mul_pos (Nat.mul_pos j k0) v,?_,hm f g m k2,(Gg h d f g h3 w).mono ?_⟩
 ·have:=Nat.mul_le_mul (Nat.mul_le_mul k k1) c;rwa [<-Nat.pow_add,<-Nat.pow_add] at this
 rw[<-Nat.pow_add,<-Nat.pow_add];exact Nat.le_refl _
theorem Y8 {q:Rat} (h:Ab u) (a:Bd s [q]):Bd s (co u (Re.ofRat q)):=by
 obtain⟨D,c,d,f,h3⟩:=a;rw[Ih q h];refine⟨D,c,d,fun z b=>?_,fun z b=>?_⟩
 ·rcases List.mem_cons.1 b with rfl | b
  ·exact f z List.mem_cons_self
  rw[(List.mem_replicate.1 b).2];exact⟨0,by rw[Rat.zero_mul];rfl⟩
 rcases List.mem_cons.1 b with rfl | b
 ·exact h3 z List.mem_cons_self
 rw[(List.mem_replicate.1 b).2];have:(0:Rat)<=((2^s:Nat):Rat):=Rat.natCast_nonneg
 grind
theorem Rc (h:Ab (r::u)) (f:In u p) (g:In u q) (a:Bd s (co (r::u) (p+q*rt u r))):Bd s (co u p)/\Bd s (co u q):=by
 obtain⟨D,c,d,b,h3⟩:=a;rw[Cr h f g rfl] at b h3;exact⟨⟨D,c,d,(DN.app.1 b).1,(MX.app.1 h3).1⟩,⟨D,c,d,(DN.app.1 b).2,(MX.app.1 h3).2⟩⟩
theorem Y4 (h:Ab (r::u)) (g:In u p) (j:In u q) (a:Bd s (co u p)) (b:Bd t (co u q)):Bd (s+t) (co (r::u) (p+q*rt u r)):=by
 obtain⟨D,c,d,f,h3⟩:=a;obtain⟨E,k0,k1,k2,k⟩:=b;rw[Cr h g j rfl];refine⟨D*E,Nat.mul_pos c k0,?_,DN.app.2 ⟨f.dvd ⟨E,rfl⟩,k2.dvd ⟨D,Nat.mul_comm _ _⟩⟩,MX.app.2 ⟨h3.mono (CX (by omega)),k.mono (CX (by omega))⟩⟩;have:=Nat.mul_le_mul d k1;rwa [<-Nat.pow_add] at this
theorem Nk (h:Ab (r::u)) (a:TB R (r::u)):Bd R (co u (AN u r)):=by rw[Ez h];exact a.head
theorem Rg (h:Ab (r::u)) (f:TB R (r::u)) (c:In u p) (b:In u q) (a:Bd s (co (r::u) (p+q*rt u r))):
  Bd (2*s+2*EE u.length R+R+1) (co u (p*p-q*q*AN u r)):=by
 obtain⟨D,m,v,w,h3⟩:=a;rw[Cr h c b rfl] at w h3;obtain⟨j,k⟩:=DN.app.1 w;obtain⟨mp,C⟩:=MX.app.1 h3;obtain⟨K,z,d,hm⟩:=Ik h.1 f.tail;obtain⟨E,k0,k1,k2,G⟩:=f.head;have F:DN E (co u (AN u r)):=by rw[Ez h];exact k2
 have g:MX (2^R) (co u (AN u r)):=by rw[Ez h];exact G
 refine⟨D*D*K*E*K,Nat.mul_pos (Nat.mul_pos (Nat.mul_pos (Nat.mul_pos m m) z) k0) z,?_,DN.IJ h.1 (Ar h.1 c c) (Ar h.1 (Ar h.1 b b) (CG h)) ((hm c c j j).dvd ⟨E*K,by grind⟩) (hm (Ar h.1 b b) (CG h) (hm b b k k) F),
  (MX.IJ h.1 (Ar h.1 c c) (Ar h.1 (Ar h.1 b b) (CG h)) (Gg h.1 f.tail c c mp mp) (Gg h.1 f.tail (Ar h.1 b b) (CG h) (Gg h.1 f.tail b b C C) g)).mono ?_⟩
 ·have:=Nat.mul_le_mul (Nat.mul_le_mul (Nat.mul_le_mul (Nat.mul_le_mul v v) d) k1) d;rw[<-Nat.pow_add,<-Nat.pow_add,<-Nat.pow_add,<-Nat.pow_add] at this;exact Nat.le_trans this (CX (by omega))
 rw[<-Nat.pow_add,<-Nat.pow_add,<-Nat.pow_add,<-Nat.pow_add,Nat.pow_succ];have H:2^(s+s+EE u.length R)<=2^(2*s+2*EE u.length R+R):=CX (by omega);have I:2^(s+s+EE u.length R+R+EE u.length R)<=2^(2*s+2*EE u.length R+R):=CX (by omega);omega
theorem Ts {a b:Nat} (h:a<=b):(a:Rat)<=b:=Rat.natCast_le_natCast.2 h
theorem Y6 {q p:Rat} (h:Bd s [q]) (J:q*p=1):Bd (2*s) [p]:=by
 obtain⟨D,k,v,F,h3⟩:=h;obtain⟨n,f⟩:=F q List.mem_cons_self;have hb:=h3 q List.mem_cons_self;have N:(0:Rat)<D:=Rat.natCast_pos.2 k
 have H:n≠0:=by
  intro e;subst e;have:(D:Rat)=q*D*p:=by grind
  rw[f] at this;have k:((0:Int):Rat)=0:=rfl
  grind
 have d:p*(n:Rat)=D:=by rw[<-f];grind
 have c:(n.natAbs:Rat)=n\/(n.natAbs:Rat)= -n:=by
  rcases Int.natAbs_eq n with e | e
  ·left
   have:((n.natAbs:Int):Rat)=(n:Rat):=congrArg _ e.symm;exact this
  right
  have:((n.natAbs:Int):Rat)=((-n:Int):Rat):=congrArg _ (by omega);rw[Rat.intCast_neg] at this;exact this
 have I:(1:Rat)<=n.natAbs:=by
  have:1<=n.natAbs:=by omega
  exact Ts this
 have g:n.natAbs<=D*2^s:=by
  have w:=Oh (C:=D) hb (q:=(D:Rat)) ⟨by grind,by grind⟩;rw[f,Nat.mul_comm] at w;apply Rat.natCast_le_natCast.1;rcases c with e | e <;> rw[e] <;> grind
 refine⟨n.natAbs,by omega,?_,fun z j=>?_,fun z j=>?_⟩
 ·have:=Nat.mul_le_mul_right (2^s) v;rw[<-Nat.pow_add] at this;exact Nat.le_trans g (Nat.le_trans this (CX (by omega)))
 ·rw[List.mem_singleton.1 j];rcases c with e | e <;> rw[e]
  ·exact⟨D,d⟩
  exact⟨-D,by rw[Rat.intCast_neg,Rat.mul_neg,d];rfl⟩
 rw[List.mem_singleton.1 j];have K:(D:Rat)<=((2^(2*s):Nat):Rat):=Ts (Nat.le_trans v (CX (by omega)));have L:p=D\/True:= .inr trivial;have M:p*(n.natAbs:Rat)=D\/p*(n.natAbs:Rat)= -D:=by rcases c with e | e <;> rw[e] <;> grind
 generalize (n.natAbs:Rat)=m at*
 generalize ((2^(2*s):Nat):Rat)=S at*
 have O:p<=D:=by
  apply Classical.byContradiction;intro G;have:=Rat.mul_pos (a:=p-D) (b:=m) (by grind) (by grind);have:=Rat.mul_nonneg (a:=(D:Rat)) (b:=m-1) (by grind) (by grind)
  grind
 have P: -D<=p:=by
  apply Classical.byContradiction;intro G;have:=Rat.mul_pos (a:= -D-p) (b:=m) (by grind) (by grind);have:=Rat.mul_nonneg (a:=(D:Rat)) (b:=m-1) (by grind) (by grind)
  grind
 grind
theorem LM:∀{u:List (List Rat)} {R:Nat} {x y:Re} {s:Nat},Ab u->TB R u->In u x->In u y->x*y=1->Bd s (co u x)->Bd (II u.length R s) (co u y)
 | [],R,x,y,s,_,_,C,G,e,h=>by
  obtain⟨p,rfl⟩:=CI.1 C;obtain⟨q,rfl⟩:=CI.1 G;rw[Co] at h ⊢;rw[<-Re.ofRat_mul] at e;exact Y6 h (Re.Du.1 e)
 | r::u,R,x,y,s,h,j,C,G,e,hb=>by
  obtain⟨a,b,ha,c,rfl⟩:=CM.1 C;have S:=CO h;have N:=Rg h j ha c hb;have d:=EG (Ar h.1 ha ha) (Ar h.1 (Ar h.1 c c) (CG h))
  have w:a*a-b*b*AN u r≠0:=by
   intro O;have I:(a+b*rt u r)*(a-b*rt u r)=0:=by grind
   rcases Re.FH I with F | F
   ·rw[F] at e;have k:(0:Re)<1:=Re.HO.2 (show (0:Rat)<1 by decide)
    grind
   obtain⟨P,Q⟩:=indep h ha (Fc c) (Bp u) (Bp u) (show a+ -b*rt u r=0+0*rt u r by grind);have:a+b*rt u r=0:=by grind
   rw[this] at e;have k:(0:Re)<1:=Re.HO.2 (show (0:Rat)<1 by decide)
   grind
  obtain⟨i,f,g⟩:=EF h.1 d w;have z:=LM h.1 j.tail d f g N
  have J:y=a*i+ -(b*i)*rt u r:=by
   have:y=(a+b*rt u r)*y*((a-b*rt u r)*i):=by
    have:(a+b*rt u r)*y*((a-b*rt u r)*i)=y*((a*a-b*b*AN u r)*i):=by grind
    rw[this,g];grind
   rw[e] at this
   grind
  obtain⟨D,L,k,m,h3⟩:=hb;rw[Cr h ha c rfl] at m h3;obtain⟨E,k0,k1,k2,H⟩:=z;obtain⟨K,M,v,hm⟩:=Ik h.1 j.tail;rw[J,Cr h (Ar h.1 ha f) (Fc (Ar h.1 c f)) rfl,Jv h.1 (Ar h.1 c f),List.length_cons,II];have m1:=Gg h.1 j.tail ha f (MX.app.1 h3).1 H;have m2:=Gg h.1 j.tail c f (MX.app.1 h3).2 H;rw[<-Nat.pow_add,<-Nat.pow_add] at m1 m2;refine⟨D*E*K,Nat.mul_pos (Nat.mul_pos L k0) M,?_,DN.app.2 ⟨hm ha f (DN.app.1 m).1 k2,(hm c f (DN.app.1 m).2 k2).neg⟩,MX.app.2 ⟨m1.mono (CX (by omega)),(m2.mono (CX (by omega))).neg⟩⟩;have:=Nat.mul_le_mul (Nat.mul_le_mul k k1) v;rw[<-Nat.pow_add,<-Nat.pow_add] at this;exact Nat.le_trans this (CX (by omega))
end Go.Abs
namespace Go.Abs
variable {B:Nat} {u:List (List Rat)} {x:Re}
theorem TE {r:Rat} {n:Int} (h:r*r=n):∃m:Int,r=m:=by
 have b:(r*r).den=1:=by rw[h];rfl
 have a:(r*r).den=r.den*r.den:=by
  have c:Nat.gcd (r.num*r.num).natAbs (r.den*r.den)=1:=by
   rw[Int.natAbs_mul];exact Nat.Coprime.mul_left (Nat.Coprime.mul_right r.reduced r.reduced) (Nat.Coprime.mul_right r.reduced r.reduced)
  rw[Rat.mul_def,Rat.normalize_eq];simp only[c,Nat.div_one]
 rw[b] at a;have h3:r.den=1:=Nat.eq_one_of_mul_eq_one_left a.symm;refine⟨r.num,?_⟩;have:=JD r;rw[h3] at this;have e:((1:Nat):Rat)=1:=rfl
 grind
theorem UM {Y:Nat} {c e:Re} (h:e=2*(c*c)):Re.ofRat ((2*Y:Nat):Rat)*c*(Re.ofRat ((2*Y:Nat):Rat)*c)=Re.ofRat ((2*Y*Y:Nat):Rat)*e:=by
 subst h;have a:Re.ofRat ((2:Nat):Rat)=2:=rfl;simp only[FU,Re.ofRat_mul,a]
 grind
theorem Sb:∀{u:List (List Rat)} {R:Nat},Ab u->TB R u->∃G:Nat,0<G/\G<=2^GG u.length R/\∀{x w:Re} {D:Nat},In u w->w*w=x->DN D (co u x)->DN (D*G) (co u w)
 | [],R,_,_=>⟨1,by decide,by simp[GG],fun {x w D} hw e h=>by
  obtain⟨p,rfl⟩:=CI.1 hw;subst e;rw[<-Re.ofRat_mul,Co] at h;rw[Co];intro z hz;rw[List.mem_singleton.1 hz];obtain⟨n,v⟩:=h _ List.mem_cons_self
  obtain⟨m,hm⟩:=TE (r:=p*D) (n:=n*D) (by
   rw[Rat.intCast_mul,<-v];have:((D:Int):Rat)=(D:Rat):=rfl
   grind)
  exact⟨m,by rw[Nat.mul_one];exact hm⟩⟩
 | r::u,R,h,N=>by
  obtain⟨G,hG,L,O⟩:=Sb h.1 N.tail;obtain⟨K,V,F,hm⟩:=Ik h.1 N.tail;obtain⟨E,hE,S,Q,_⟩:=N.head;have hr:=CO h;have Z:DN E (co u (AN u r)):=by rw[Ez h];exact Q
  obtain⟨i,X,P⟩:=EF h.1 (CG h) (by have:=h.2.2.1;grind);obtain⟨I,hI,U,T,_⟩:=LM h.1 N.tail (CG h) X P (Nk h N);refine⟨2*(K*K*E)*G*G*I*K,Nat.mul_pos (Nat.mul_pos (Nat.mul_pos (Nat.mul_pos (Nat.mul_pos (by decide) (Nat.mul_pos (Nat.mul_pos V V) hE)) hG) hG) hI) V,?_,fun {x w D} hw e H=>?_⟩
  ·have h1:=Nat.mul_le_mul (Nat.mul_le_mul (Nat.mul_le_mul (Nat.mul_le_mul (Nat.mul_le_mul (Nat.le_refl (2^1)) (Nat.mul_le_mul (Nat.mul_le_mul F F) S)) L) L) U) F;simp only[<-Nat.pow_add] at h1;exact Nat.le_trans h1 (CX (by rw[List.length_cons,GG];omega))
  obtain⟨c,d,j,k,rfl⟩:=CM.1 hw
  have f:In u (2*c*d):=by
   have:=Cp (Ar h.1 j k) (Ar h.1 j k);rwa [show c*d+c*d=2*c*d by grind] at this
  have g:=CG h;have ha:=Cp (Ar h.1 j j) (Ar h.1 (Ar h.1 k k) g);have ex:x=(c*c+d*d*AN u r)+(2*c*d)*rt u r:=by rw[<-e];grind
  rw[ex,Cr h ha f rfl,DN.app] at H
  generalize hA:c*c+d*d*AN u r=a at*
  generalize hB:2*c*d=b at*
  have v:=EG (Ar h.1 j j) (Ar h.1 (Ar h.1 k k) g)
  generalize hN:c*c-d*d*AN u r=n at*
  have M:=EG (Ar h.1 ha ha) (Ar h.1 (Ar h.1 f f) g);have W:n*n=a*a-b*b*AN u r:=by grind
  have d1:DN (D*D*(K*K*E)) (co u (a*a-b*b*AN u r)):=
   DN.IJ h.1 (Ar h.1 ha ha) (Ar h.1 (Ar h.1 f f) g) ((hm ha ha H.1 H.1).dvd ⟨K*E,by grind⟩) ((hm (Ar h.1 f f) g (hm f f H.2 H.2) Z).dvd ⟨1,by grind⟩)
  generalize K*K*E=C at*
  have d2:DN (D*C*G) (co u n):=by
   have k1:DN 1 (co u (Re.ofRat ((D*C*(D*C):Nat):Rat)*(a*a-b*b*AN u r))):=(Il h.1 M).1 (d1.dvd ⟨C,by grind⟩);have k2:=O (x:=Re.ofRat ((D*C*(D*C):Nat):Rat)*(a*a-b*b*AN u r)) (w:=Re.ofRat ((D*C:Nat):Rat)*n) (D:=1) (OQ v _) (by rw[FU (D*C),Re.ofRat_mul,<-W];grind) k1;exact ((Il h.1 v).2 k2).dvd ⟨1,by grind⟩
  have J:DN (D*C*G) (co u a):=H.1.dvd ⟨C*G,by grind⟩;have d3:DN (D*C*G) (co u (a+n)):=DN.Fv h.1 ha v J d2;have d4:DN (D*C*G) (co u (a-n)):=DN.IJ h.1 ha v J d2
  have d5:DN (2*(D*C*G)*G) (co u c):=by
   have k1:DN 1 (co u (Re.ofRat ((2*(D*C*G)*(D*C*G):Nat):Rat)*(a+n))):=(Il h.1 (Cp ha v)).1 (d3.dvd ⟨2*(D*C*G),by grind⟩);have k2:=O (x:=Re.ofRat ((2*(D*C*G)*(D*C*G):Nat):Rat)*(a+n)) (w:=Re.ofRat ((2*(D*C*G):Nat):Rat)*c) (D:=1) (OQ j _) (UM (by clear O hm k1;grind)) k1;exact ((Il h.1 j).2 k2).dvd ⟨1,by grind⟩
  have d6:DN (D*C*G*I*K) (co u ((a-n)*i)):=hm (EG ha v) X d4 T
  have d7:DN (2*(D*C*G*I*K)*G) (co u d):=by
   have Y:=Ar h.1 (EG ha v) X;have k1:DN 1 (co u (Re.ofRat ((2*(D*C*G*I*K)*(D*C*G*I*K):Nat):Rat)*((a-n)*i))):=(Il h.1 Y).1 (d6.dvd ⟨2*(D*C*G*I*K),by grind⟩)
   have k2:=O (x:=Re.ofRat ((2*(D*C*G*I*K)*(D*C*G*I*K):Nat):Rat)*((a-n)*i)) (w:=Re.ofRat ((2*(D*C*G*I*K):Nat):Rat)*d) (D:=1) (OQ k _) (UM (by
    have e3:(a-n)*i=2*(d*d)*(AN u r*i):=by clear O hm k1;grind
    rw[e3,P];grind)) k1
   exact ((Il h.1 k).2 k2).dvd ⟨1,by grind⟩
  rw[Cr h j k rfl,DN.app];exact⟨d5.dvd ⟨I*K,by grind⟩,d7.dvd ⟨1,by grind⟩⟩
theorem bC {p:Rat} (h:p*p<=((B*B:Nat):Rat)): -(B:Rat)<=p/\p<=B:=by
 rw[FU] at h;have d:(0:Rat)<=B:=Rat.natCast_nonneg
 generalize (B:Rat)=b at*
 constructor
 ·apply Classical.byContradiction;intro c;have:=Rat.mul_pos (a:= -p-b) (b:= -p+b) (by grind) (by grind)
  grind
 apply Classical.byContradiction;intro c;have:=Rat.mul_pos (a:=p-b) (b:=p+b) (by grind) (by grind)
 grind
theorem MX.half {y:Re} (h:Ab u) (f:In u x) (c:In u y) (e:x=2*y) (k:MX (2*B) (co u x)):MX B (co u y):=by
 have a:x=Re.ofRat 2*y:=e;rw[a,N2 h c] at k;intro q b;have:=k _ (List.mem_map.2 ⟨q,b,rfl⟩);rw[FU] at this;have d:((2:Nat):Rat)=2:=rfl
 grind
theorem Tq:∀{u:List (List Rat)} {R:Nat},Ab u->TB R u->∀{x w:Re} {B:Nat},In u w->w*w=x->MX (B*B) (co u x)->MX (B*2^GG u.length R) (co u w)
 | [],R,_,_,x,w,B,hw,e,h=>by
  obtain⟨p,rfl⟩:=CI.1 hw;subst e;rw[<-Re.ofRat_mul,Co] at h;rw[Co];intro z hz;rw[List.mem_singleton.1 hz];have:=bC (h _ List.mem_cons_self).2;simpa [GG] using this
 | r::u,R,h,H,x,w,B,hw,e,v=>by
  have F:=fun {x w:Re} {B:Nat}=>Tq (R:=R) (x:=x) (w:=w) (B:=B) h.1 H.tail
  have D:=fun {x y:Re} {B C:Nat}=>Gg (R:=R) (x:=x) (y:=y) (B:=B) (C:=C) h.1 H.tail
  obtain⟨E,hE,a1,_,T⟩:=H.head;have hr:=CO h;have W:MX (2^R) (co u (AN u r)):=by rw[Ez h];exact T
  obtain⟨i,X,M⟩:=EF h.1 (CG h) (by have:=h.2.2.1;grind);obtain⟨I,hI,a2,_,N⟩:=LM h.1 H.tail (CG h) X M (Nk h H);obtain⟨c,d,k,j,rfl⟩:=CM.1 hw
  have g:In u (2*c*d):=by
   have:=Cp (Ar h.1 k j) (Ar h.1 k j);rwa [show c*d+c*d=2*c*d by grind] at this
  have f:=CG h;have ha:=Cp (Ar h.1 k k) (Ar h.1 (Ar h.1 j j) f);have ex:x=(c*c+d*d*AN u r)+(2*c*d)*rt u r:=by rw[<-e];grind
  rw[ex,Cr h ha g rfl,MX.app] at v
  generalize hA:c*c+d*d*AN u r=a at*
  generalize hB:2*c*d=b at*
  have L:=EG (Ar h.1 k k) (Ar h.1 (Ar h.1 j j) f)
  generalize hN:c*c-d*d*AN u r=n at*
  have U:n*n=a*a-b*b*AN u r:=by clear F D;grind
  have m1:=MX.IJ h.1 (Ar h.1 ha ha) (Ar h.1 (Ar h.1 g g) f) (D ha ha v.1 v.1) (D (Ar h.1 g g) f (D g g v.2 v.2) W);have p0:=DG (EE u.length R);have Z:=DG R;have p2:=DG (GG u.length R);have p3:=DG (II u.length R R)
  have eG:2^GG (r::u).length R=2^EE u.length R*2^EE u.length R*2^EE u.length R*2^R*2*(2^GG u.length R*2^GG u.length R)*2^II u.length R R:=by
   have e2:(2:Nat)=2^1:=rfl;conv=>rhs;rw[show ∀q:Nat,q*2=q*2^1 from fun q=>rfl]
   simp only[<-Nat.pow_add]
   congr 1
   rw[List.length_cons,GG];omega
  rw[eG]
  generalize 2^EE u.length R=K at*
  generalize 2^R=S at*
  generalize 2^GG u.length R=G at*
  generalize 2^II u.length R R=J at*
  have Q:1<=K*S:=Nat.mul_pos p0 Z;have m:1<=K*K*S:=Nat.mul_pos (Nat.mul_pos p0 p0) Z
  have V:K+K*S*K<=2*(K*K*S)*(2*(K*K*S)):=by
   have t1:K*1<=K*(K*S):=Nat.mul_le_mul_left _ Q;have t2:(K*K*S)*1<=(K*K*S)*(K*K*S):=Nat.mul_le_mul_left _ m
   grind
  have m2:MX (B*B*(2*(K*K*S))*G) (co u n):=by
   refine F (x:=a*a-b*b*AN u r) L U (m1.mono ?_);have:=Nat.mul_le_mul_left (B*B*(B*B)) V
   grind
  have P:1<=K*K*S*G:=Nat.mul_pos m p2
  have Y:MX (B*B*(2*(K*K*S)*G)) (co u (c*c)):=by
   refine MX.half h.1 (Cp ha L) (Ar h.1 k k) (by clear F D m1 m2;grind) ((MX.Fv h.1 ha L v.1 m2).mono ?_);have:=Nat.mul_le_mul_left (B*B) (show 1<=2*(K*K*S)*G by rw[Nat.mul_assoc];omega)
   grind
  have m4:MX (B*(2*(K*K*S)*G)*G) (co u c):=by
   refine F (x:=c*c) k rfl (Y.mono ?_);have t:2*(K*K*S)*G*1<=2*(K*K*S)*G*(2*(K*K*S)*G):=Nat.mul_le_mul_left _ (by rw[Nat.mul_assoc];omega);have:=Nat.mul_le_mul_left (B*B) t
   grind
  have m5:MX (B*B*(2*(K*K*S)*G)) (co u (d*d*AN u r)):=by
   refine MX.half h.1 (EG ha L) (Ar h.1 (Ar h.1 j j) f) (by clear F D m1 m2 Y;grind) ((MX.IJ h.1 ha L v.1 m2).mono ?_);have:=Nat.mul_le_mul_left (B*B) (show 1<=2*(K*K*S)*G by rw[Nat.mul_assoc];omega)
   grind
  have m6:MX (B*B*(2*(K*K*S)*G)*J*K) (co u (d*d)):=by
   have:=D (Ar h.1 (Ar h.1 j j) f) X m5 N;rwa [show d*d*AN u r*i=d*d by rw[show d*d*AN u r*i=d*d*(AN u r*i) by grind,M];grind] at this
  have m7:MX (B*(2*(K*K*S)*G*J*K)*G) (co u d):=by
   refine F (x:=d*d) j rfl (m6.mono ?_);have t0:1<=2*(K*K*S)*G*J*K:=Nat.mul_pos (Nat.mul_pos (by rw[Nat.mul_assoc];omega) p3) p0;have t:2*(K*K*S)*G*J*K*1<=2*(K*K*S)*G*J*K*(2*(K*K*S)*G*J*K):=Nat.mul_le_mul_left _ t0;have:=Nat.mul_le_mul_left (B*B) t
   grind
  rw[Cr h k j rfl,MX.app];have O:1<=J*K:=Nat.mul_pos p3 p0;refine⟨m4.mono ?_,m7.mono ?_⟩
  ·have:=Nat.mul_le_mul_left (B*(2*(K*K*S)*G)*G) O
   grind
  grind
theorem Ri {R s:Nat} {w:Re} (h:Ab u) (b:TB R u) (hw:In u w) (e:w*w=x) (k:Bd s (co u x)):Bd (s+GG u.length R) (co u w):=by
 obtain⟨D,c,d,f,h3⟩:=k;obtain⟨G,g,a,j⟩:=Sb h b;refine⟨D*G,Nat.mul_pos c g,?_,j hw e f,?_⟩
 ·have:=Nat.mul_le_mul d a;rwa [<-Nat.pow_add] at this
 have:=Tq h b hw e (B:=2^s) (h3.mono (by rw[<-Nat.pow_add];exact CX (by omega)));rwa [<-Nat.pow_add] at this
end Go.Abs
namespace Go.Abs
structure Ag (x:Int) (b:Bool) (l:List UInt32):Prop where
 neg:b=decide (x<0)
 BI:l=AR x.natAbs
variable {i n xi:Nat} {l o:List UInt32} {y:Int}
theorem Ac (x:Int):∃b l,Ag x b l:=⟨_,_,rfl,rfl⟩
theorem Ag.nat {x:Int} {b:Bool} (h:Ag x b l):AB l=x.natAbs:=by rw[h.BI,BB]
theorem Ag.ER {x:Int} {b:Bool} (h:Ag x b l):x=if b=true then -(AB l:Int) else AB l:=by
 rw[h.nat,h.neg];by_cases a:x<0 <;> simp[a] <;> omega
theorem Ag.uniq {x:Int} {b b':Bool} {l':List UInt32} (h:Ag x b l) (h':Ag y b' l') (e:x=y):b=b'/\l=l':=by
 subst e;exact⟨h.neg.trans h'.neg.symm,h.BI.trans h'.BI.symm⟩
theorem Ag.trim {x:Int} {b:Bool} (h:Ag x b l):AR (AB l)=l:=by rw[h.nat,<-h.BI]
theorem Ag.val {x:Int} {b:Bool} (c:AR n=l) (a:x=if b=true then -(n:Int) else n) (h3:n=0->b=false):Ag x b l:=by
 constructor
 ·rw[a];cases b
  ·simp
  have:n≠0:=fun e=>absurd (h3 e) (by simp)
  simp;omega
 rw[<-c,a];congr 1;split <;> omega
theorem Ag.nil {x:Int} {b:Bool} (h:Ag x b l):l=[]↔x=0:=by
 rw[h.BI,EL];omega
theorem Ag.Eb {x:Int} {b:Bool} (h:Ag x b l):l.length=0↔x=0:=by
 rw[List.length_eq_zero_iff,h.nil]
def Bu (x:Int):Int:=if x<0 then -1 else if x=0 then 0 else 1
def BT (a b:Int):Int:=if a<b then -1 else if b<a then 1 else 0
theorem Oj {x w:UInt32} (h:l[i]? =some x):AB (l.set i w)+2^(32*i)*x.toNat=AB l+2^(32*i)*w.toNat:=by
 induction l generalizing i with
 | nil=>simp at h
 | cons y l a=>
  cases i with
  | zero=>simp at h;subst h;simp[AB];omega
  | succ i=>
   have:=a (i:=i) (by simpa using h);rw[List.set_cons_succ,AB,AB,DR]
   generalize 2^(32*i)=P at*
   grind
theorem GO {w:UInt32} (h:n<=i):(l.set i w).take n=l.take n:=by
 rw[List.take_set];rw[List.set_eq_of_length_le];rw[List.length_take];omega
theorem D5 {w:UInt32} (h:i<l.length):(l.set i w).take (i+1)=l.take i++[w]:=by
 rw[List.take_succ_eq_append_getElem (by simpa using h),GO (Nat.le_refl _)];simp
theorem I5 {A B Em En yi:Nat} {w:UInt32} (a:i<o.length) (h:AB (o.take i)+B=A+2^(32*i)*Em) (b:w.toNat+yi+Em=xi+4294967296*En):
  AB ((o.set i w).take (i+1))+(B+2^(32*i)*yi)=(A+2^(32*i)*xi)+2^(32*(i+1))*En:=by
 rw[D5 a,DX,DR,List.length_take,Nat.min_eq_left (by omega)]
 generalize 2^(32*i)=P at*
 have e:P*(w.toNat+yi+Em)=P*(xi+4294967296*En):=by rw[b]
 grind
theorem Pw {N T c b yk old j:Nat} {q w:UInt32} {Y:Nat} {k:Nat} (f:j=i+k) (g:j<n) (m:o[j]? =some q) (z:q.toNat=old) (h:AB (o.take n)+2^(32*j)*c=T+xi*2^(32*i)*Y)
  (C:w.toNat+4294967296*b=c+xi*yk+old) (_:N=n):
  AB ((o.set j w).take n)+2^(32*(j+1))*b=T+xi*2^(32*i)*(Y+2^(32*k)*yk):=by
 have ht:(o.take n)[j]? =some q:=by rw[List.getElem?_take_of_lt g,m]
 have a:=Oj (w:=w) ht;rw[List.take_set,DR];have v:2^(32*j)=2^(32*i)*2^(32*k):=by rw[f,Nat.mul_add,Nat.pow_add]
 generalize D:2^(32*j)=P at*
 have e:P*(w.toNat+4294967296*b)=P*(c+xi*yk+old):=by rw[C]
 rw[z] at a;have d:xi*2^(32*i)*(2^(32*k)*yk)=P*(xi*yk):=by rw[v];grind
 rw[Nat.mul_add,d]
 grind
theorem To {x:Int} {a b:Bool} (ha:a=decide (x<0)) (hb:b=decide (y<0)):x*y=if (a !=b)=true then -((x.natAbs*y.natAbs:Nat):Int) else ((x.natAbs*y.natAbs:Nat):Int):=by
 rw[Int.natCast_mul]
 by_cases c:x<0 <;> by_cases d:y<0 <;> simp[ha,hb,c,d]
 ·rw[show ((x.natAbs:Nat):Int)= -x by omega,show ((y.natAbs:Nat):Int)= -y by omega];grind
 ·rw[show ((x.natAbs:Nat):Int)= -x by omega,show ((y.natAbs:Nat):Int)=y by omega];grind
 ·rw[show ((x.natAbs:Nat):Int)=x by omega,show ((y.natAbs:Nat):Int)= -y by omega];grind
 rw[show ((x.natAbs:Nat):Int)=x by omega,show ((y.natAbs:Nat):Int)=y by omega]
theorem Ig (a b:Int):(a<b/\BT a b= -1)\/(a=b/\BT a b=0)\/(b<a/\BT a b=1):=by
 unfold BT
 split
 ·exact .inl ⟨by assumption,rfl⟩
 split
 ·exact .inr (.inr ⟨by assumption,rfl⟩)
 exact .inr (.inl ⟨by omega,rfl⟩)
theorem Ee (x:Int):(x<0/\Bu x= -1)\/(x=0/\Bu x=0)\/(0<x/\Bu x=1):=by
 unfold Bu
 split
 ·exact .inl ⟨by assumption,rfl⟩
 split
 ·exact .inr (.inl ⟨by assumption,rfl⟩)
 exact .inr (.inr ⟨by omega,rfl⟩)
theorem eu (x a b:Int): -9223372036854775808<=Bu x*BT a b/\Bu x*BT a b<9223372036854775808:=by
 rcases Ee x with⟨_,h⟩ |⟨_,h⟩ |⟨_,h⟩ <;> rcases Ig a b with⟨_,k⟩ |⟨_,k⟩ |⟨_,k⟩ <;> rw[h,k] <;> decide
theorem ZX {x:Int} (h:Bu x=Bu y):BT x y=Bu x*BT x.natAbs y.natAbs:=by
 rcases Ee x with⟨b,a⟩ |⟨b,a⟩ |⟨b,a⟩ <;> rcases Ee y with⟨k1,k2⟩ |⟨k1,k2⟩ |⟨k1,k2⟩ <;>
  rcases Ig x y with⟨p,q⟩ |⟨p,q⟩ |⟨p,q⟩ <;> rcases Ig x.natAbs y.natAbs with⟨u,v⟩ |⟨u,v⟩ |⟨u,v⟩ <;> rw[a,q,v] <;> rw[a,k2] at h <;> omega
theorem ZW {x:Int} (h:Bu x≠Bu y):BT x y=BT (Bu x) (Bu y):=by
 rcases Ee x with⟨b,a⟩ |⟨b,a⟩ |⟨b,a⟩ <;> rcases Ee y with⟨k1,k2⟩ |⟨k1,k2⟩ |⟨k1,k2⟩ <;>
  rcases Ig x y with⟨p,q⟩ |⟨p,q⟩ |⟨p,q⟩ <;> rw[a,k2] at h ⊢ <;> rw[q] <;> first | rfl | omega
theorem Vh {x:Int} {b:Bool} (h:x=if b=true then -(n:Int) else n): -x=if (!b)=true then -(n:Int) else n:=by
 cases b <;> simp_all
theorem Mp {x:Int} {b:Bool} (h:x=if b=true then -(n:Int) else n) (d:n≠0):Bu x=if b=true then -1 else 1:=by
 rcases Ee x with⟨c,a⟩ |⟨c,a⟩ |⟨c,a⟩ <;> rw[a] <;> cases b <;> simp at h ⊢ <;> omega
theorem add_same {x:Int} {b:Bool} (a:b=decide (x<0)) (c:b=decide (y<0)):x+y=if b=true then -((x.natAbs+y.natAbs:Nat):Int) else ((x.natAbs+y.natAbs:Nat):Int):=by
 cases b <;> simp at a c ⊢ <;> omega
theorem LD {x:Int} {a b:Bool} (d:a=decide (x<0)) (f:b=decide (y<0)) (c:a≠b) (h:x.natAbs<=y.natAbs):x+y=if b=true then -((y.natAbs-x.natAbs:Nat):Int) else ((y.natAbs-x.natAbs:Nat):Int):=by
 cases a <;> cases b <;> simp at d f c ⊢ <;> omega
theorem G9 {a b:Int} (h:BT a b<0):a<b:=by rcases Ig a b with⟨_,k⟩ |⟨_,k⟩ |⟨_,k⟩ <;> omega
theorem G8 {a b:Int} (h:0<=BT a b):b<=a:=by rcases Ig a b with⟨_,k⟩ |⟨_,k⟩ |⟨_,k⟩ <;> omega
def Fw (b:Bool) (l:List UInt32):Bool:=match l.getLast? with
 | none=> !b
 | some x=>x !=0
theorem JS {b:Bool}:Fw b l=true↔∃x,Ag x b l:=by
 unfold Fw;cases h:l.getLast? with
 | none=>
  have:l=[]:=List.getLast?_eq_none_iff.1 h;subst this
  constructor
  ·intro hb;exact⟨0,by simpa using hb,rfl⟩
  rintro⟨x,a⟩
  have:=(a.nil).1 rfl;rw[a.neg,this];rfl
 | some w=>
  obtain⟨m,rfl⟩:=List.getLast?_eq_some_iff.1 h
  constructor
  ·intro hw;have hw:w≠0:=by simpa using hw
   have c:=Nt (o:=m) (w:=w) fun e=>hw (UInt32.toNat_inj.1 e)
   have f:AB (m++[w])≠0:=fun e=>by
    rw[e,E3] at c;simp at c
   exact⟨if b=true then -(AB (m++[w]):Int) else AB (m++[w]),.val c rfl fun e=>absurd e f⟩
  rintro⟨x,a⟩
  simp only[bne_iff_ne,ne_eq];rintro rfl;have d:=a.trim;rw[<-Kl,IF] at d;have:=Px m;rw[d] at this;simp at this;omega
end Go.Abs
namespace Go.Abs
variable {A B xi yi:Nat} {l o:List UInt32}
theorem H9 {N k:Nat} (h:N<2^(32*k)):∃z:List UInt32,z.length=k/\AB z=N:=by
 refine⟨AR N++List.replicate (k-(AR N).length) 0,?_,?_⟩
 ·have:=E2 h;simp;omega
 rw[ML,Gh,BB];simp
theorem Mv (N i:Nat):N%2^(32*(i+1))=N%2^(32*i)+2^(32*i)*(N/2^(32*i)%4294967296):=by
 rw[DR,Nat.mul_comm 4294967296,Nat.mod_mul]
theorem Vl {x y r n:Nat} (j:x<4294967296) (v:n<=31):(x+4294967296*(y+4294967296*r))/2^n%4294967296=x/2^n+y*2^(32-n)%4294967296:=by
 obtain⟨d,h⟩:∃d,32-n=d:=⟨_,rfl⟩
 have e:(4294967296:Nat)=2^n*2^d:=by rw[<-Nat.pow_add,show n+d=32 by omega]
 have a:0<2^n:=Nat.two_pow_pos n;have w:0<2^d:=Nat.two_pow_pos d;rw[h];have b:x+4294967296*(y+4294967296*r)=x+2^n*(2^d*(y+4294967296*r)):=by rw[<-Nat.mul_assoc,<-e]
 rw[b,Nat.add_mul_div_left _ _ a];have k:x/2^n<2^d:=Nat.div_lt_of_lt_mul (by rw[<-e];exact j);have c:x/2^n+2^d*(y+4294967296*r)=(x/2^n+y*2^d)+4294967296*(2^d*r):=by rw[Nat.mul_add];grind
 rw[c,Nat.add_mul_mod_self_left];have f:y*2^d%4294967296=2^d*(y%2^n):=by rw[e,Nat.mul_comm (2^n),Nat.mul_comm y,Nat.mul_mod_mul_left]
 rw[Nat.add_mod,f]
 have m:2^d*(y%2^n)+2^d<=4294967296:=by
  have:y%2^n+1<=2^n:=Nat.mod_lt _ a;have:=Nat.mul_le_mul_left (2^d) this;rw[e,Nat.mul_comm (2^n)];rw[Nat.mul_add] at this;omega
 have g:x/2^n%4294967296=x/2^n:=Nat.mod_eq_of_lt (by omega);rw[g,Nat.mod_eq_of_lt (by omega)]
theorem I9 {a b d:Nat} (h:a<2^d):a ||| (2^d*b)=a+2^d*b:=by
 rw[Nat.or_comm,<-Nat.two_pow_add_eq_or_of_lt h,Nat.add_comm]
theorem DE {i:Nat} {x:UInt32} (h:l[i]? =some x):AB (l.drop i)=x.toNat+4294967296*AB (l.drop (i+1)):=by
 have a:i<l.length:=by
  apply Classical.byContradiction;intro b;rw[List.getElem?_eq_none (by omega)] at h;exact absurd h (by simp)
 rw[List.drop_eq_getElem_cons a,AB];rw[List.getElem?_eq_getElem a] at h;rw[Option.some.inj h]
theorem Lc {i:Nat} (h:i<=l.length):AB l/2^(32*i)=AB (l.drop i):=by
 rw[Es l i h,Nat.add_mul_div_left _ _ (Nat.two_pow_pos _)];have:=CL (l.take i);rw[List.length_take,Nat.min_eq_left h] at this;rw[Nat.div_eq_of_lt this,Nat.zero_add]
theorem Lf {i off:Nat} {w:UInt32}:(l.set (off+i) w).drop off=(l.drop off).set i w:=by
 rw[List.drop_set,if_neg (by omega)]
 congr 1
 omega
theorem gA {D Em En i:Nat} {w:UInt32} (a:i<o.length) (h:AB (o.take i)+B*D=A+2^(32*i)*Em) (b:w.toNat+yi*D+Em=xi+4294967296*En):
  AB ((o.set i w).take (i+1))+(B+2^(32*i)*yi)*D=(A+2^(32*i)*xi)+2^(32*(i+1))*En:=by
 rw[D5 a,DX,DR,List.length_take,Nat.min_eq_left (by omega)]
 generalize 2^(32*i)=P at*
 have e:P*(w.toNat+yi*D+Em)=P*(xi+4294967296*En):=by rw[b]
 grind
theorem Yf {LS LU i:Nat} {w:UInt32} (a:i<o.length) (h:AB (o.take i)+2^(32*i)*LS=A+B) (b:w.toNat+4294967296*LU=xi+yi+LS):
  AB ((o.set i w).take (i+1))+2^(32*(i+1))*LU=(A+2^(32*i)*xi)+(B+2^(32*i)*yi):=by
 rw[D5 a,DX,DR,List.length_take,Nat.min_eq_left (by omega)]
 generalize 2^(32*i)=P at*
 have e:P*(w.toNat+4294967296*LU)=P*(xi+yi+LS):=by rw[b]
 grind
end Go.Abs
