/- Part 14 of a proof. Conditions: each theorem's own. -/
import Derived.Test.YtoonaidhfikkeaaGreatPk12
set_option linter.all false
set_option maxHeartbeats 8000000
namespace Go.Abs
def DN (D:Nat) (a:List Rat):Prop:=∀q∈a,∃n:Int,q*D=n
def MX (B:Nat) (a:List Rat):Prop:=∀q∈a,-(B:Rat)<=q/\q<=B
def Bd (k:Nat) (a:List Rat):Prop:=∃D:Nat,0<D/\D<=2^k/\DN D a/\MX (2^k) a
def TB (R:Nat) (u:List (List Rat)):Prop:=∀r∈u,Bd R r
def EE:Nat->Nat->Nat
 | 0,_=>0
 | h+1,R=>2*EE h R+R+2
def II:Nat->Nat->Nat->Nat
 | 0,_,s=>2*s
 | h+1,R,s=>s+EE h R+II h R (2*s+2*EE h R+R+1)
def GG:Nat->Nat->Nat
 | 0,_=>0
 | h+1,R=>3*EE h R+R+1+2*GG h R+II h R R
theorem XG {p q:Rat} (h:∃n:Int,p=n) (k:∃n:Int,q=n):∃n:Int,p+q=n:=by
 obtain⟨a,rfl⟩:=h;obtain⟨b,rfl⟩:=k;exact⟨a+b,by rw[Rat.intCast_add]⟩
theorem Qi {p q:Rat} (h:∃n:Int,p=n) (k:∃n:Int,q=n):∃n:Int,p*q=n:=by
 obtain⟨a,rfl⟩:=h;obtain⟨b,rfl⟩:=k;exact⟨a*b,by rw[Rat.intCast_mul]⟩
theorem XH (k:Nat):∃n:Int,(k:Rat)=n:=⟨k,rfl⟩
theorem EN (a b:Nat):((a*b:Nat):Rat)=(a:Rat)*b:=Rat.natCast_mul a b
theorem DN.mul_right {D:Nat} {a:List Rat} (h:DN D a) (c:Nat):DN (D*c) a:=fun q b=>by
 have:=Qi (h q b) (XH c);rwa [Rat.mul_assoc,<-EN] at this
theorem DN.dvd {D E:Nat} {a:List Rat} (h:DN D a) (b:D∣E):DN E a:=by
 obtain⟨c,rfl⟩:=b;exact h.mul_right c
theorem Tj {a b:List Rat} {q:Rat} (h:q∈List.zipWith (· + ·) a b):∃x∈a,∃y∈b,q=x+y:=by
 obtain⟨i,c⟩:=List.mem_iff_getElem?.1 h;rw[List.getElem?_zipWith] at c;cases d:a[i]? with
 | none=>rw[d] at c;simp at c
 | some x=>
  cases hb:b[i]? with
  | none=>rw[d,hb] at c;simp at c
  | some y=>
   rw[d,hb] at c;exact⟨x,List.mem_of_getElem? d,y,List.mem_of_getElem? hb,(Option.some.inj c).symm⟩
theorem DN.add {D:Nat} {a b:List Rat} (h:DN D a) (k:DN D b):DN D (List.zipWith (· + ·) a b):=fun q c=>by
 obtain⟨x,d,y,f,rfl⟩:=Tj c;have:=XG (h x d) (k y f);rwa [<-Rat.add_mul] at this
theorem DN.neg {D:Nat} {a:List Rat} (h:DN D a):DN D (a.map (- ·)):=fun q c=>by
 obtain⟨x,d,rfl⟩:=List.mem_map.1 c;obtain⟨n,b⟩:=h x d;exact⟨-n,by rw[Rat.intCast_neg,<-b,Rat.neg_mul]⟩
theorem MX.add {B C:Nat} {a b:List Rat} (h:MX B a) (k:MX C b):MX (B+C) (List.zipWith (· + ·) a b):=fun q c=>by
 obtain⟨x,d,y,f,rfl⟩:=Tj c;have:=h x d;have:=k y f;rw[Rat.natCast_add]
 grind
theorem MX.neg {B:Nat} {a:List Rat} (h:MX B a):MX B (a.map (- ·)):=fun q b=>by
 obtain⟨x,c,rfl⟩:=List.mem_map.1 b;have:=h x c
 grind
theorem MX.mono {B C:Nat} {a:List Rat} (h:MX B a) (b:B<=C):MX C a:=fun q d=>by
 have:=h q d;have c:(B:Rat)<=C:=Rat.natCast_le_natCast.2 b
 grind
theorem DN.app {D:Nat} {a b:List Rat}:DN D (a++b)↔DN D a/\DN D b:=
 ⟨fun h=>⟨fun q c=>h q (List.mem_append_left _ c),fun q c=>h q (List.mem_append_right _ c)⟩,fun h q c=>(List.mem_append.1 c).elim (h.1 q) (h.2 q)⟩
theorem MX.app {B:Nat} {a b:List Rat}:MX B (a++b)↔MX B a/\MX B b:=
 ⟨fun h=>⟨fun q c=>h q (List.mem_append_left _ c),fun q c=>h q (List.mem_append_right _ c)⟩,fun h q c=>(List.mem_append.1 c).elim (h.1 q) (h.2 q)⟩
section
variable {u:List (List Rat)} {x y:Re}
theorem Pv (h:AQ u) (b:In u x) (a:In u y):co u (x-y)=List.zipWith (· + ·) (co u x) ((co u y).map (- ·)):=by
 rw[show x-y=x+ -y by grind,Jg h b (Em a),IS h a]
theorem DN.E5 {D:Nat} (h:AQ u) (c:In u x) (d:In u y) (a:DN D (co u x)) (b:DN D (co u y)):DN D (co u (x+y)):=by rw[Jg h c d];exact a.add b
theorem DN.G0 {D:Nat} (h:AQ u) (c:In u x) (d:In u y) (a:DN D (co u x)) (b:DN D (co u y)):DN D (co u (x-y)):=by rw[Pv h c d];exact a.add b.neg
theorem MX.E5 {B C:Nat} (h:AQ u) (c:In u x) (d:In u y) (a:MX B (co u x)) (b:MX C (co u y)):MX (B+C) (co u (x+y)):=by rw[Jg h c d];exact a.add b
theorem MX.G0 {B C:Nat} (h:AQ u) (c:In u x) (d:In u y) (a:MX B (co u x)) (b:MX C (co u y)):MX (B+C) (co u (x-y)):=by rw[Pv h c d];exact a.add b.neg
end
theorem Jv:∀(u:List (List Rat)) (c:Rat) (a:List Rat),a.length=2^u.length->AI u (a.map (c* ·))=Re.ofRat c*AI u a
 | [],c,a,b=>by
  match a,b with
  | [p],_=>exact Re.ofRat_mul c p
 | r::u,c,a,b=>by
  rw[BI] at b;rw[AI,AI,<-List.map_take,<-List.map_drop,Jv u _ _ (by rw[List.length_take];omega),Jv u _ _ (by rw[List.length_drop];omega)]
  grind
theorem Pt {u:List (List Rat)} {x:Re} (h:AQ u) (a:In u x) (c:Rat):co u (Re.ofRat c*x)=(co u x).map (c* ·):=
 Gj h (by rw[List.length_map,CB a]) (by rw[Jv u c _ (CB a),DC a])
theorem MV {u:List (List Rat)} {x:Re} (a:In u x) (c:Rat):In u (Re.ofRat c*x):=
 ⟨(co u x).map (c* ·),by rw[List.length_map,CB a],by rw[Jv u c _ (CB a),DC a]⟩
theorem HP {u:List (List Rat)} {x:Re} (h:AQ u) (f:In u x) {D c:Nat}:DN (D*c) (co u x)↔DN D (co u (Re.ofRat c*x)):=by
 rw[Pt h f]
 constructor
 ·intro k q b;obtain⟨p,d,rfl⟩:=List.mem_map.1 b;obtain⟨n,a⟩:=k p d;exact⟨n,by rw[<-a,EN];grind⟩
 intro k q b;obtain⟨n,a⟩:=k _ (List.mem_map.2 ⟨q,b,rfl⟩);exact⟨n,by rw[<-a,EN];grind⟩
theorem Ce (k:Nat):0<2^k:=Nat.two_pow_pos k
theorem Bn {a b:Nat} (h:a<=b):2^a<=2^b:=Nat.pow_le_pow_right (by decide) h
theorem TB.tail {R:Nat} {r:List Rat} {u:List (List Rat)} (h:TB R (r::u)):TB R u:=fun x a=>h x (List.mem_cons_of_mem _ a)
theorem TB.head {R:Nat} {r:List Rat} {u:List (List Rat)} (h:TB R (r::u)):Bd R r:=h r List.mem_cons_self
theorem EP {r:List Rat} {u:List (List Rat)} (h:AQ (r::u)):co u (AI u r)=r:=WW h.1 h.2.1
theorem Ps {r:List Rat} {u:List (List Rat)} {a b c d x y:Re} (h:AQ (r::u)) (f:In u a) (hb:In u b) (g:In u c) (j:In u d) (k:x=a+b*rt u r) (m:y=c+d*rt u r):
  co (r::u) (x*y)=co u (a*c+b*d*AI u r)++co u (a*d+b*c):=by
 have v:=Bg h;exact CO h (B6 (Aa h.1 f g) (Aa h.1 (Aa h.1 hb j) (Bh h))) (B6 (Aa h.1 f j) (Aa h.1 hb g)) (by subst k;subst m;grind)
theorem HO:∀{u:List (List Rat)} {R:Nat},AQ u->TB R u->∃K:Nat,0<K/\K<=2^EE u.length R/\∀{x y:Re} {D m:Nat},In u x->In u y->DN D (co u x)->DN m (co u y)->DN (D*m*K) (co u (x*y))
 | [],R,_,_=>⟨1,by decide,by simp[EE],fun {x y D m} H I h k=>by
  obtain⟨p,rfl⟩:=Bj.1 H;obtain⟨q,rfl⟩:=Bj.1 I;rw[Bv] at h k;rw[<-Re.ofRat_mul,Bv];intro z P;rw[List.mem_singleton.1 P];have:=Qi (h p List.mem_cons_self) (k q List.mem_cons_self);rw[EN,EN];rwa [show p*(D:Rat)*(q*(m:Rat))=p*q*(D*m*(1:Nat)) by have:((1:Nat):Rat)=1:=rfl;grind] at this⟩
 | r::u,R,h,M=>by
  obtain⟨K,L,C,hm⟩:=HO h.1 M.tail;obtain⟨E,N,G,F,_⟩:=M.head;refine⟨K*K*E,Nat.mul_pos (Nat.mul_pos L L) N,?_,fun {x y D m} H I f g=>?_⟩
  ·have J:K*K*E<=2^EE u.length R*2^EE u.length R*2^R:=Nat.mul_le_mul (Nat.mul_le_mul C C) G;rw[<-Nat.pow_add,<-Nat.pow_add] at J;exact Nat.le_trans J (Bn (by rw[List.length_cons,EE];omega))
  obtain⟨a,b,v,hb,rfl⟩:=Bt.1 H;obtain⟨c,d,w,j,rfl⟩:=Bt.1 I;rw[CO h v hb rfl,DN.app] at f;rw[CO h w j rfl,DN.app] at g;rw[Ps h v hb w j rfl rfl,DN.app];have O:DN E (co u (AI u r)):=by rw[EP h];exact F
  refine⟨DN.E5 h.1 (Aa h.1 v w) (Aa h.1 (Aa h.1 hb j) (Bh h)) ((hm v w f.1 g.1).dvd ⟨K*E,by grind⟩) ((hm (Aa h.1 hb j) (Bh h) (hm hb j f.2 g.2) O).dvd ⟨1,by grind⟩),
   DN.E5 h.1 (Aa h.1 v j) (Aa h.1 hb w) ((hm v j f.1 g.2).dvd ⟨K*E,by grind⟩) ((hm hb w f.2 g.1).dvd ⟨K*E,by grind⟩)⟩
theorem Mn {p q:Rat} {B C:Nat} (h: -(B:Rat)<=p/\p<=B) (k: -(C:Rat)<=q/\q<=C): -((B*C:Nat):Rat)<=p*q/\p*q<=((B*C:Nat):Rat):=by
 rw[EN];exact⟨Xq h.2 h.1 k.2 k.1,Hh h.2 h.1 k.2 k.1⟩
theorem Fk:∀{u:List (List Rat)} {R:Nat},AQ u->TB R u->∀{x y:Re} {B C:Nat},In u x->In u y->MX B (co u x)->MX C (co u y)->MX (B*C*2^EE u.length R) (co u (x*y))
 | [],R,_,_,x,y,B,C,F,G,h,k=>by
  obtain⟨p,rfl⟩:=Bj.1 F;obtain⟨q,rfl⟩:=Bj.1 G;rw[Bv] at h k;rw[<-Re.ofRat_mul,Bv];intro z N;rw[List.mem_singleton.1 N];have:=Mn (h p List.mem_cons_self) (k q List.mem_cons_self);rwa [show B*C*2^EE ([]:List (List Rat)).length R=B*C by simp[EE]]
 | r::u,R,h,H,x,y,B,C,F,G,f,g=>by
  obtain⟨E,O,L,_,D⟩:=H.head;have w:=fun {x y:Re} {B C:Nat}=>Fk (R:=R) (x:=x) (y:=y) (B:=B) (C:=C) h.1 H.tail
  obtain⟨a,b,m,hb,rfl⟩:=Bt.1 F;obtain⟨c,d,v,j,rfl⟩:=Bt.1 G;rw[CO h m hb rfl,MX.app] at f;rw[CO h v j rfl,MX.app] at g;rw[Ps h m hb v j rfl rfl,MX.app];have M:MX (2^R) (co u (AI u r)):=by rw[EP h];exact D
  have e:EE (r::u).length R=EE u.length R+EE u.length R+R+2:=by rw[List.length_cons,EE];omega
  rw[e,Nat.pow_add,Nat.pow_add,Nat.pow_add];have I:=Ce (EE u.length R);have J:=Ce R
  generalize 2^EE u.length R=K at*
  generalize 2^R=S at*
  have k1:B*C*K<=B*C*(K*K*S):=Nat.mul_le_mul_left _ (by
   have:K*1<=K*(K*S):=Nat.mul_le_mul_left _ (Nat.mul_pos I J);rw[Nat.mul_assoc];omega)
  have k2:B*C*K*S*K=B*C*(K*K*S):=by grind
  refine⟨(MX.E5 h.1 (Aa h.1 m v) (Aa h.1 (Aa h.1 hb j) (Bh h)) (w m v f.1 g.1) (w (Aa h.1 hb j) (Bh h) (w hb j f.2 g.2) M)).mono ?_,
   (MX.E5 h.1 (Aa h.1 m j) (Aa h.1 hb v) (w m j f.1 g.2) (w hb v f.2 g.1)).mono ?_⟩
  ·rw[k2];grind
  grind
end Go.Abs
namespace Go.Abs
variable {R s t:Nat} {p q x y:Re} {r:List Rat} {u:List (List Rat)}
theorem Bd.mono {k l:Nat} {a:List Rat} (h:Bd k a) (b:k<=l):Bd l a:=by
 obtain⟨D,c,d,f,g⟩:=h;exact⟨D,c,Nat.le_trans d (Bn b),f,g.mono (Bn b)⟩
theorem PL (h:AQ u) (c:In u x) (d:In u y) (a:Bd s (co u x)) (b:Bd t (co u y)):Bd (s+t+1) (co u (x+y)):=by
 obtain⟨D,f,g,j,k⟩:=a;obtain⟨E,k0,k1,k2,m⟩:=b;refine⟨D*E,Nat.mul_pos f k0,?_,DN.E5 h c d (j.dvd ⟨E,rfl⟩) (k2.dvd ⟨D,Nat.mul_comm _ _⟩),(MX.E5 h c d k m).mono ?_⟩
 ·have:=Nat.mul_le_mul g k1;rw[<-Nat.pow_add] at this;exact Nat.le_trans this (Bn (by omega))
 have v:2^s<=2^(s+t):=Bn (by omega);have w:2^t<=2^(s+t):=Bn (by omega);rw[Nat.pow_succ];omega
theorem PR (h:AQ u) (g:In u x) (a:Bd s (co u x)):Bd s (co u (-x)):=by
 obtain⟨D,b,c,d,f⟩:=a;rw[IS h g];exact⟨D,b,c,d.neg,f.neg⟩
theorem WE (h:AQ u) (d:In u x) (c:In u y) (a:Bd s (co u x)) (b:Bd t (co u y)):Bd (s+t+1) (co u (x-y)):=by
 rw[show x-y=x+ -y by grind];exact PL h d (Em c) a (PR h c b)
theorem WC (h:AQ u) (d:TB R u) (f:In u x) (g:In u y) (a:Bd s (co u x)) (b:Bd t (co u y)):Bd (s+t+EE u.length R) (co u (x*y)):=by
 obtain⟨D,j,k,m,v⟩:=a;obtain⟨E,k0,k1,k2,z⟩:=b;obtain⟨K,w,c,hm⟩:=HO h d;refine⟨D*E*K,Nat.mul_pos (Nat.mul_pos j k0) w,?_,hm f g m k2,(Fk h d f g v z).mono ?_⟩
 ·have:=Nat.mul_le_mul (Nat.mul_le_mul k k1) c;rwa [<-Nat.pow_add,<-Nat.pow_add] at this
 rw[<-Nat.pow_add,<-Nat.pow_add];exact Nat.le_refl _
theorem WD {q:Rat} (h:AQ u) (a:Bd s [q]):Bd s (co u (Re.ofRat q)):=by
 obtain⟨D,c,d,f,g⟩:=a;rw[IT q h];refine⟨D,c,d,fun z b=>?_,fun z b=>?_⟩
 ·rcases List.mem_cons.1 b with rfl | b
  ·exact f z List.mem_cons_self
  rw[(List.mem_replicate.1 b).2];exact⟨0,by rw[Rat.zero_mul];rfl⟩
 rcases List.mem_cons.1 b with rfl | b
 ·exact g z List.mem_cons_self
 rw[(List.mem_replicate.1 b).2];have:(0:Rat)<=((2^s:Nat):Rat):=Rat.natCast_nonneg
 grind
theorem PQ (h:AQ (r::u)) (g:In u p) (j:In u q) (a:Bd s (co (r::u) (p+q*rt u r))):Bd s (co u p)/\Bd s (co u q):=by
 obtain⟨D,d,f,b,c⟩:=a;rw[CO h g j rfl] at b c;exact⟨⟨D,d,f,(DN.app.1 b).1,(MX.app.1 c).1⟩,⟨D,d,f,(DN.app.1 b).2,(MX.app.1 c).2⟩⟩
theorem PO (h:AQ (r::u)) (j:In u p) (k:In u q) (a:Bd s (co u p)) (b:Bd t (co u q)):Bd (s+t) (co (r::u) (p+q*rt u r)):=by
 obtain⟨D,c,d,f,g⟩:=a;obtain⟨E,k0,k1,k2,m⟩:=b;rw[CO h j k rfl];refine⟨D*E,Nat.mul_pos c k0,?_,DN.app.2 ⟨f.dvd ⟨E,rfl⟩,k2.dvd ⟨D,Nat.mul_comm _ _⟩⟩,MX.app.2 ⟨g.mono (Bn (by omega)),m.mono (Bn (by omega))⟩⟩;have:=Nat.mul_le_mul d k1;rwa [<-Nat.pow_add] at this
theorem Lv (h:AQ (r::u)) (a:TB R (r::u)):Bd R (co u (AI u r)):=by rw[EP h];exact a.head
theorem PS (h:AQ (r::u)) (f:TB R (r::u)) (c:In u p) (b:In u q) (a:Bd s (co (r::u) (p+q*rt u r))):
  Bd (2*s+2*EE u.length R+R+1) (co u (p*p-q*q*AI u r)):=by
 obtain⟨D,m,v,w,z⟩:=a;rw[CO h c b rfl] at w z;obtain⟨j,k⟩:=DN.app.1 w;obtain⟨mp,F⟩:=MX.app.1 z;obtain⟨K,C,d,hm⟩:=HO h.1 f.tail;obtain⟨E,k0,k1,k2,H⟩:=f.head;have G:DN E (co u (AI u r)):=by rw[EP h];exact k2
 have g:MX (2^R) (co u (AI u r)):=by rw[EP h];exact H
 refine⟨D*D*K*E*K,Nat.mul_pos (Nat.mul_pos (Nat.mul_pos (Nat.mul_pos m m) C) k0) C,?_,DN.G0 h.1 (Aa h.1 c c) (Aa h.1 (Aa h.1 b b) (Bh h)) ((hm c c j j).dvd ⟨E*K,by grind⟩) (hm (Aa h.1 b b) (Bh h) (hm b b k k) G),
  (MX.G0 h.1 (Aa h.1 c c) (Aa h.1 (Aa h.1 b b) (Bh h)) (Fk h.1 f.tail c c mp mp) (Fk h.1 f.tail (Aa h.1 b b) (Bh h) (Fk h.1 f.tail b b F F) g)).mono ?_⟩
 ·have:=Nat.mul_le_mul (Nat.mul_le_mul (Nat.mul_le_mul (Nat.mul_le_mul v v) d) k1) d;rw[<-Nat.pow_add,<-Nat.pow_add,<-Nat.pow_add,<-Nat.pow_add] at this;exact Nat.le_trans this (Bn (by omega))
 rw[<-Nat.pow_add,<-Nat.pow_add,<-Nat.pow_add,<-Nat.pow_add,Nat.pow_succ];have I:2^(s+s+EE u.length R)<=2^(2*s+2*EE u.length R+R):=Bn (by omega);have J:2^(s+s+EE u.length R+R+EE u.length R)<=2^(2*s+2*EE u.length R+R):=Bn (by omega);omega
theorem Q9 {a b:Nat} (h:a<=b):(a:Rat)<=b:=Rat.natCast_le_natCast.2 h
theorem WB {q p:Rat} (h:Bd s [q]) (K:q*p=1):Bd (2*s) [p]:=by
 obtain⟨D,k,v,F,G⟩:=h;obtain⟨n,f⟩:=F q List.mem_cons_self;have hb:=G q List.mem_cons_self;have O:(0:Rat)<D:=Rat.natCast_pos.2 k
 have I:n≠0:=by
  intro e;subst e;have:(D:Rat)=q*D*p:=by grind
  rw[f] at this;have k:((0:Int):Rat)=0:=rfl
  grind
 have d:p*(n:Rat)=D:=by rw[<-f];grind
 have c:(n.natAbs:Rat)=n\/(n.natAbs:Rat)= -n:=by
  rcases Int.natAbs_eq n with e | e
  ·left
   have:((n.natAbs:Int):Rat)=(n:Rat):=congrArg _ e.symm;exact this
  right
  have:((n.natAbs:Int):Rat)=((-n:Int):Rat):=congrArg _ (by omega);rw[Rat.intCast_neg] at this;exact this
 have J:(1:Rat)<=n.natAbs:=by
  have:1<=n.natAbs:=by omega
  exact Q9 this
 have g:n.natAbs<=D*2^s:=by
  have w:=Mn (C:=D) hb (q:=(D:Rat)) ⟨by grind,by grind⟩;rw[f,Nat.mul_comm] at w;apply Rat.natCast_le_natCast.1;rcases c with e | e <;> rw[e] <;> grind
 refine⟨n.natAbs,by omega,?_,fun z j=>?_,fun z j=>?_⟩
 ·have:=Nat.mul_le_mul_right (2^s) v;rw[<-Nat.pow_add] at this;exact Nat.le_trans g (Nat.le_trans this (Bn (by omega)))
 ·rw[List.mem_singleton.1 j];rcases c with e | e <;> rw[e]
  ·exact⟨D,d⟩
  exact⟨-D,by rw[Rat.intCast_neg,Rat.mul_neg,d];rfl⟩
 rw[List.mem_singleton.1 j];have L:(D:Rat)<=((2^(2*s):Nat):Rat):=Q9 (Nat.le_trans v (Bn (by omega)));have M:p=D\/True:= .inr trivial;have N:p*(n.natAbs:Rat)=D\/p*(n.natAbs:Rat)= -D:=by rcases c with e | e <;> rw[e] <;> grind
 generalize (n.natAbs:Rat)=m at*
 generalize ((2^(2*s):Nat):Rat)=S at*
 have P:p<=D:=by
  apply Classical.byContradiction;intro H;have:=Rat.mul_pos (a:=p-D) (b:=m) (by grind) (by grind);have:=Rat.mul_nonneg (a:=(D:Rat)) (b:=m-1) (by grind) (by grind)
  grind
 have Q: -D<=p:=by
  apply Classical.byContradiction;intro H;have:=Rat.mul_pos (a:= -D-p) (b:=m) (by grind) (by grind);have:=Rat.mul_nonneg (a:=(D:Rat)) (b:=m-1) (by grind) (by grind)
  grind
 grind
theorem Ja:∀{u:List (List Rat)} {R:Nat} {x y:Re} {s:Nat},AQ u->TB R u->In u x->In u y->x*y=1->Bd s (co u x)->Bd (II u.length R s) (co u y)
 | [],R,x,y,s,_,_,G,I,e,h=>by
  obtain⟨p,rfl⟩:=Bj.1 G;obtain⟨q,rfl⟩:=Bj.1 I;rw[Bv] at h ⊢;rw[<-Re.ofRat_mul] at e;exact WB h (Re.GM.1 e)
 | r::u,R,x,y,s,h,k,G,I,e,hb=>by
  obtain⟨a,b,f,c,rfl⟩:=Bt.1 G;have U:=Bg h;have P:=PS h k f c hb;have d:=DQ (Aa h.1 f f) (Aa h.1 (Aa h.1 c c) (Bh h))
  have C:a*a-b*b*AI u r≠0:=by
   intro Q;have L:(a+b*rt u r)*(a-b*rt u r)=0:=by grind
   rcases Re.ER L with H | H
   ·rw[H] at e;have m:(0:Re)<1:=Re.GN.2 (show (0:Rat)<1 by decide)
    grind
   obtain⟨S,T⟩:=indep h f (Em c) (BP u) (BP u) (show a+ -b*rt u r=0+0*rt u r by grind);have:a+b*rt u r=0:=by grind
   rw[this] at e;have m:(0:Re)<1:=Re.GN.2 (show (0:Rat)<1 by decide)
   grind
  obtain⟨i,g,j⟩:=DE h.1 d C;have F:=Ja h.1 k.tail d g j P
  have M:y=a*i+ -(b*i)*rt u r:=by
   have:y=(a+b*rt u r)*y*((a-b*rt u r)*i):=by
    have:(a+b*rt u r)*y*((a-b*rt u r)*i)=y*((a*a-b*b*AI u r)*i):=by grind
    rw[this,j];grind
   rw[e] at this
   grind
  obtain⟨D,N,m,v,w⟩:=hb;rw[CO h f c rfl] at v w;obtain⟨E,k0,k1,k2,J⟩:=F;obtain⟨K,O,z,hm⟩:=HO h.1 k.tail;rw[M,CO h (Aa h.1 f g) (Em (Aa h.1 c g)) rfl,IS h.1 (Aa h.1 c g),List.length_cons,II];have m1:=Fk h.1 k.tail f g (MX.app.1 w).1 J;have m2:=Fk h.1 k.tail c g (MX.app.1 w).2 J;rw[<-Nat.pow_add,<-Nat.pow_add] at m1 m2;refine⟨D*E*K,Nat.mul_pos (Nat.mul_pos N k0) O,?_,DN.app.2 ⟨hm f g (DN.app.1 v).1 k2,(hm c g (DN.app.1 v).2 k2).neg⟩,MX.app.2 ⟨m1.mono (Bn (by omega)),(m2.mono (Bn (by omega))).neg⟩⟩;have:=Nat.mul_le_mul (Nat.mul_le_mul m k1) z;rw[<-Nat.pow_add,<-Nat.pow_add] at this;exact Nat.le_trans this (Bn (by omega))
end Go.Abs
namespace Go.Abs
variable {B:Nat} {u:List (List Rat)} {x:Re}
theorem MY {r:Rat} {n:Int} (h:r*r=n):∃m:Int,r=m:=by
 have b:(r*r).den=1:=by rw[h];rfl
 have a:(r*r).den=r.den*r.den:=by
  have d:Nat.gcd (r.num*r.num).natAbs (r.den*r.den)=1:=by
   rw[Int.natAbs_mul];exact Nat.Coprime.mul_left (Nat.Coprime.mul_right r.reduced r.reduced) (Nat.Coprime.mul_right r.reduced r.reduced)
  rw[Rat.mul_def,Rat.normalize_eq];simp only[d,Nat.div_one]
 rw[b] at a;have c:r.den=1:=Nat.eq_one_of_mul_eq_one_left a.symm;refine⟨r.num,?_⟩;have:=Hp r;rw[c] at this;have e:((1:Nat):Rat)=1:=rfl
 grind
theorem RU {Y:Nat} {c e:Re} (h:e=2*(c*c)):Re.ofRat ((2*Y:Nat):Rat)*c*(Re.ofRat ((2*Y:Nat):Rat)*c)=Re.ofRat ((2*Y*Y:Nat):Rat)*e:=by
 subst h;have a:Re.ofRat ((2:Nat):Rat)=2:=rfl;simp only[EN,Re.ofRat_mul,a]
 grind
theorem QB:∀{u:List (List Rat)} {R:Nat},AQ u->TB R u->∃G:Nat,0<G/\G<=2^GG u.length R/\∀{x w:Re} {D:Nat},In u w->w*w=x->DN D (co u x)->DN (D*G) (co u w)
 | [],R,_,_=>⟨1,by decide,by simp[GG],fun {x w D} hw e h=>by
  obtain⟨p,rfl⟩:=Bj.1 hw;subst e;rw[<-Re.ofRat_mul,Bv] at h;rw[Bv];intro z hz;rw[List.mem_singleton.1 hz];obtain⟨n,F⟩:=h _ List.mem_cons_self
  obtain⟨m,hm⟩:=MY (r:=p*D) (n:=n*D) (by
   rw[Rat.intCast_mul,<-F];have:((D:Int):Rat)=(D:Rat):=rfl
   grind)
  exact⟨m,by rw[Nat.mul_one];exact hm⟩⟩
 | r::u,R,h,O=>by
  obtain⟨G,hG,M,P⟩:=QB h.1 O.tail;obtain⟨K,W,H,hm⟩:=HO h.1 O.tail;obtain⟨E,hE,T,S,_⟩:=O.head;have hr:=Bg h;have a1:DN E (co u (AI u r)):=by rw[EP h];exact S
  obtain⟨i,Y,Q⟩:=DE h.1 (Bh h) (by have:=h.2.2.1;grind);obtain⟨I,hI,V,U,_⟩:=Ja h.1 O.tail (Bh h) Y Q (Lv h O);refine⟨2*(K*K*E)*G*G*I*K,Nat.mul_pos (Nat.mul_pos (Nat.mul_pos (Nat.mul_pos (Nat.mul_pos (by decide) (Nat.mul_pos (Nat.mul_pos W W) hE)) hG) hG) hI) W,?_,fun {x w D} hw e J=>?_⟩
  ·have h1:=Nat.mul_le_mul (Nat.mul_le_mul (Nat.mul_le_mul (Nat.mul_le_mul (Nat.mul_le_mul (Nat.le_refl (2^1)) (Nat.mul_le_mul (Nat.mul_le_mul H H) T)) M) M) V) H;simp only[<-Nat.pow_add] at h1;exact Nat.le_trans h1 (Bn (by rw[List.length_cons,GG];omega))
  obtain⟨c,d,k,v,rfl⟩:=Bt.1 hw
  have f:In u (2*c*d):=by
   have:=B6 (Aa h.1 k v) (Aa h.1 k v);rwa [show c*d+c*d=2*c*d by grind] at this
  have g:=Bh h;have j:=B6 (Aa h.1 k k) (Aa h.1 (Aa h.1 v v) g);have ex:x=(c*c+d*d*AI u r)+(2*c*d)*rt u r:=by rw[<-e];grind
  rw[ex,CO h j f rfl,DN.app] at J
  generalize hA:c*c+d*d*AI u r=a at*
  generalize hB:2*c*d=b at*
  have F:=DQ (Aa h.1 k k) (Aa h.1 (Aa h.1 v v) g)
  generalize hN:c*c-d*d*AI u r=n at*
  have N:=DQ (Aa h.1 j j) (Aa h.1 (Aa h.1 f f) g);have X:n*n=a*a-b*b*AI u r:=by grind
  have d1:DN (D*D*(K*K*E)) (co u (a*a-b*b*AI u r)):=
   DN.G0 h.1 (Aa h.1 j j) (Aa h.1 (Aa h.1 f f) g) ((hm j j J.1 J.1).dvd ⟨K*E,by grind⟩) ((hm (Aa h.1 f f) g (hm f f J.2 J.2) a1).dvd ⟨1,by grind⟩)
  generalize K*K*E=C at*
  have d2:DN (D*C*G) (co u n):=by
   have k1:DN 1 (co u (Re.ofRat ((D*C*(D*C):Nat):Rat)*(a*a-b*b*AI u r))):=(HP h.1 N).1 (d1.dvd ⟨C,by grind⟩);have k2:=P (x:=Re.ofRat ((D*C*(D*C):Nat):Rat)*(a*a-b*b*AI u r)) (w:=Re.ofRat ((D*C:Nat):Rat)*n) (D:=1) (MV F _) (by rw[EN (D*C),Re.ofRat_mul,<-X];grind) k1;exact ((HP h.1 F).2 k2).dvd ⟨1,by grind⟩
  have L:DN (D*C*G) (co u a):=J.1.dvd ⟨C*G,by grind⟩;have d3:DN (D*C*G) (co u (a+n)):=DN.E5 h.1 j F L d2;have d4:DN (D*C*G) (co u (a-n)):=DN.G0 h.1 j F L d2
  have d5:DN (2*(D*C*G)*G) (co u c):=by
   have k1:DN 1 (co u (Re.ofRat ((2*(D*C*G)*(D*C*G):Nat):Rat)*(a+n))):=(HP h.1 (B6 j F)).1 (d3.dvd ⟨2*(D*C*G),by grind⟩);have k2:=P (x:=Re.ofRat ((2*(D*C*G)*(D*C*G):Nat):Rat)*(a+n)) (w:=Re.ofRat ((2*(D*C*G):Nat):Rat)*c) (D:=1) (MV k _) (RU (by clear P hm k1;grind)) k1;exact ((HP h.1 k).2 k2).dvd ⟨1,by grind⟩
  have d6:DN (D*C*G*I*K) (co u ((a-n)*i)):=hm (DQ j F) Y d4 U
  have d7:DN (2*(D*C*G*I*K)*G) (co u d):=by
   have Z:=Aa h.1 (DQ j F) Y;have k1:DN 1 (co u (Re.ofRat ((2*(D*C*G*I*K)*(D*C*G*I*K):Nat):Rat)*((a-n)*i))):=(HP h.1 Z).1 (d6.dvd ⟨2*(D*C*G*I*K),by grind⟩)
   have k2:=P (x:=Re.ofRat ((2*(D*C*G*I*K)*(D*C*G*I*K):Nat):Rat)*((a-n)*i)) (w:=Re.ofRat ((2*(D*C*G*I*K):Nat):Rat)*d) (D:=1) (MV v _) (RU (by
    have e3:(a-n)*i=2*(d*d)*(AI u r*i):=by clear P hm k1;grind
    rw[e3,Q];grind)) k1
   exact ((HP h.1 v).2 k2).dvd ⟨1,by grind⟩
  rw[CO h k v rfl,DN.app];exact⟨d5.dvd ⟨I*K,by grind⟩,d7.dvd ⟨1,by grind⟩⟩
theorem Xb {p:Rat} (h:p*p<=((B*B:Nat):Rat)): -(B:Rat)<=p/\p<=B:=by
 rw[EN] at h;have d:(0:Rat)<=B:=Rat.natCast_nonneg
 generalize (B:Rat)=b at*
 constructor
 ·apply Classical.byContradiction;intro c;have:=Rat.mul_pos (a:= -p-b) (b:= -p+b) (by grind) (by grind)
  grind
 apply Classical.byContradiction;intro c;have:=Rat.mul_pos (a:=p-b) (b:=p+b) (by grind) (by grind)
 grind
theorem MX.half {y:Re} (h:AQ u) (f:In u x) (c:In u y) (e:x=2*y) (k:MX (2*B) (co u x)):MX B (co u y):=by
 have a:x=Re.ofRat 2*y:=e;rw[a,Pt h c] at k;intro q b;have:=k _ (List.mem_map.2 ⟨q,b,rfl⟩);rw[EN] at this;have d:((2:Nat):Rat)=2:=rfl
 grind
theorem Q7:∀{u:List (List Rat)} {R:Nat},AQ u->TB R u->∀{x w:Re} {B:Nat},In u w->w*w=x->MX (B*B) (co u x)->MX (B*2^GG u.length R) (co u w)
 | [],R,_,_,x,w,B,hw,e,h=>by
  obtain⟨p,rfl⟩:=Bj.1 hw;subst e;rw[<-Re.ofRat_mul,Bv] at h;rw[Bv];intro z hz;rw[List.mem_singleton.1 hz];have:=Xb (h _ List.mem_cons_self).2;simpa [GG] using this
 | r::u,R,h,L,x,w,B,hw,e,D=>by
  have H:=fun {x w:Re} {B:Nat}=>Q7 (R:=R) (x:=x) (w:=w) (B:=B) h.1 L.tail
  have F:=fun {x y:Re} {B C:Nat}=>Fk (R:=R) (x:=x) (y:=y) (B:=B) (C:=C) h.1 L.tail
  obtain⟨E,hE,a1,_,V⟩:=L.head;have hr:=Bg h;have Y:MX (2^R) (co u (AI u r)):=by rw[EP h];exact V
  obtain⟨i,Z,N⟩:=DE h.1 (Bh h) (by have:=h.2.2.1;grind);obtain⟨I,hI,a2,_,P⟩:=Ja h.1 L.tail (Bh h) Z N (Lv h L);obtain⟨c,d,k,j,rfl⟩:=Bt.1 hw
  have g:In u (2*c*d):=by
   have:=B6 (Aa h.1 k j) (Aa h.1 k j);rwa [show c*d+c*d=2*c*d by grind] at this
  have f:=Bh h;have m:=B6 (Aa h.1 k k) (Aa h.1 (Aa h.1 j j) f);have ex:x=(c*c+d*d*AI u r)+(2*c*d)*rt u r:=by rw[<-e];grind
  rw[ex,CO h m g rfl,MX.app] at D
  generalize hA:c*c+d*d*AI u r=a at*
  generalize hB:2*c*d=b at*
  have M:=DQ (Aa h.1 k k) (Aa h.1 (Aa h.1 j j) f)
  generalize hN:c*c-d*d*AI u r=n at*
  have W:n*n=a*a-b*b*AI u r:=by clear H F;grind
  have m1:=MX.G0 h.1 (Aa h.1 m m) (Aa h.1 (Aa h.1 g g) f) (F m m D.1 D.1) (F (Aa h.1 g g) f (F g g D.2 D.2) Y);have O:=Ce (EE u.length R);have p1:=Ce R;have p2:=Ce (GG u.length R);have p3:=Ce (II u.length R R)
  have eG:2^GG (r::u).length R=2^EE u.length R*2^EE u.length R*2^EE u.length R*2^R*2*(2^GG u.length R*2^GG u.length R)*2^II u.length R R:=by
   have e2:(2:Nat)=2^1:=rfl;conv=>rhs;rw[show ∀q:Nat,q*2=q*2^1 from fun q=>rfl]
   simp only[<-Nat.pow_add]
   congr 1
   rw[List.length_cons,GG];omega
  rw[eG]
  generalize 2^EE u.length R=K at*
  generalize 2^R=S at*
  generalize 2^GG u.length R=G at*
  generalize 2^II u.length R R=J at*
  have U:1<=K*S:=Nat.mul_pos O p1;have v:1<=K*K*S:=Nat.mul_pos (Nat.mul_pos O O) p1
  have X:K+K*S*K<=2*(K*K*S)*(2*(K*K*S)):=by
   have t1:K*1<=K*(K*S):=Nat.mul_le_mul_left _ U;have t2:(K*K*S)*1<=(K*K*S)*(K*K*S):=Nat.mul_le_mul_left _ v
   grind
  have m2:MX (B*B*(2*(K*K*S))*G) (co u n):=by
   refine H (x:=a*a-b*b*AI u r) M W (m1.mono ?_);have:=Nat.mul_le_mul_left (B*B*(B*B)) X
   grind
  have T:1<=K*K*S*G:=Nat.mul_pos v p2
  have m3:MX (B*B*(2*(K*K*S)*G)) (co u (c*c)):=by
   refine MX.half h.1 (B6 m M) (Aa h.1 k k) (by clear H F m1 m2;grind) ((MX.E5 h.1 m M D.1 m2).mono ?_);have:=Nat.mul_le_mul_left (B*B) (show 1<=2*(K*K*S)*G by rw[Nat.mul_assoc];omega)
   grind
  have m4:MX (B*(2*(K*K*S)*G)*G) (co u c):=by
   refine H (x:=c*c) k rfl (m3.mono ?_);have t:2*(K*K*S)*G*1<=2*(K*K*S)*G*(2*(K*K*S)*G):=Nat.mul_le_mul_left _ (by rw[Nat.mul_assoc];omega);have:=Nat.mul_le_mul_left (B*B) t
   grind
  have m5:MX (B*B*(2*(K*K*S)*G)) (co u (d*d*AI u r)):=by
   refine MX.half h.1 (DQ m M) (Aa h.1 (Aa h.1 j j) f) (by clear H F m1 m2 m3;grind) ((MX.G0 h.1 m M D.1 m2).mono ?_);have:=Nat.mul_le_mul_left (B*B) (show 1<=2*(K*K*S)*G by rw[Nat.mul_assoc];omega)
   grind
  have m6:MX (B*B*(2*(K*K*S)*G)*J*K) (co u (d*d)):=by
   have:=F (Aa h.1 (Aa h.1 j j) f) Z m5 P;rwa [show d*d*AI u r*i=d*d by rw[show d*d*AI u r*i=d*d*(AI u r*i) by grind,N];grind] at this
  have m7:MX (B*(2*(K*K*S)*G*J*K)*G) (co u d):=by
   refine H (x:=d*d) j rfl (m6.mono ?_);have t0:1<=2*(K*K*S)*G*J*K:=Nat.mul_pos (Nat.mul_pos (by rw[Nat.mul_assoc];omega) p3) O;have t:2*(K*K*S)*G*J*K*1<=2*(K*K*S)*G*J*K*(2*(K*K*S)*G*J*K):=Nat.mul_le_mul_left _ t0;have:=Nat.mul_le_mul_left (B*B) t
   grind
  rw[CO h k j rfl,MX.app];have Q:1<=J*K:=Nat.mul_pos p3 O;refine⟨m4.mono ?_,m7.mono ?_⟩
  ·have:=Nat.mul_le_mul_left (B*(2*(K*K*S)*G)*G) Q
   grind
  grind
theorem PT {R s:Nat} {w:Re} (h:AQ u) (b:TB R u) (hw:In u w) (e:w*w=x) (m:Bd s (co u x)):Bd (s+GG u.length R) (co u w):=by
 obtain⟨D,c,d,f,g⟩:=m;obtain⟨G,j,a,k⟩:=QB h b;refine⟨D*G,Nat.mul_pos c j,?_,k hw e f,?_⟩
 ·have:=Nat.mul_le_mul d a;rwa [<-Nat.pow_add] at this
 have:=Q7 h b hw e (B:=2^s) (g.mono (by rw[<-Nat.pow_add];exact Bn (by omega)));rwa [<-Nat.pow_add] at this
end Go.Abs
namespace Go.Abs
structure AT (x:Int) (b:Bool) (l:List UInt32):Prop where
 neg:b=decide (x<0)
 An:l=AJ x.natAbs
variable {i n xi:Nat} {l o:List UInt32} {y:Int}
theorem AP (x:Int):∃b l,AT x b l:=⟨_,_,rfl,rfl⟩
theorem AT.nat {x:Int} {b:Bool} (h:AT x b l):AB l=x.natAbs:=by rw[h.An,Af]
theorem AT.DZ {x:Int} {b:Bool} (h:AT x b l):x=if b=true then -(AB l:Int) else AB l:=by
 rw[h.nat,h.neg];by_cases a:x<0 <;> simp[a] <;> omega
theorem AT.uniq {x:Int} {b b':Bool} {l':List UInt32} (h:AT x b l) (h':AT y b' l') (e:x=y):b=b'/\l=l':=by
 subst e;exact⟨h.neg.trans h'.neg.symm,h.An.trans h'.An.symm⟩
theorem AT.trim {x:Int} {b:Bool} (h:AT x b l):AJ (AB l)=l:=by rw[h.nat,<-h.An]
theorem AT.val {x:Int} {b:Bool} (c:AJ n=l) (a:x=if b=true then -(n:Int) else n) (d:n=0->b=false):AT x b l:=by
 constructor
 ·rw[a];cases b
  ·simp
  have:n≠0:=fun e=>absurd (d e) (by simp)
  simp;omega
 rw[<-c,a];congr 1;split <;> omega
theorem AT.nil {x:Int} {b:Bool} (h:AT x b l):l=[]↔x=0:=by
 rw[h.An,DX];omega
theorem AT.Dm {x:Int} {b:Bool} (h:AT x b l):l.length=0↔x=0:=by
 rw[List.length_eq_zero_iff,h.nil]
def BR (x:Int):Int:=if x<0 then -1 else if x=0 then 0 else 1
def Ax (a b:Int):Int:=if a<b then -1 else if b<a then 1 else 0
theorem Mp {x w:UInt32} (h:l[i]? =some x):AB (l.set i w)+2^(32*i)*x.toNat=AB l+2^(32*i)*w.toNat:=by
 induction l generalizing i with
 | nil=>simp at h
 | cons y l a=>
  cases i with
  | zero=>simp at h;subst h;simp[AB];omega
  | succ i=>
   have:=a (i:=i) (by simpa using h);rw[List.set_cons_succ,AB,AB,Cj]
   generalize 2^(32*i)=P at*
   grind
theorem FR {w:UInt32} (h:n<=i):(l.set i w).take n=l.take n:=by
 rw[List.take_set];rw[List.set_eq_of_length_le];rw[List.length_take];omega
theorem DH {w:UInt32} (h:i<l.length):(l.set i w).take (i+1)=l.take i++[w]:=by
 rw[List.take_succ_eq_append_getElem (by simpa using h),FR (Nat.le_refl _)];simp
theorem Hg {A B Dx Dy yi:Nat} {w:UInt32} (a:i<o.length) (h:AB (o.take i)+B=A+2^(32*i)*Dx) (b:w.toNat+yi+Dx=xi+4294967296*Dy):
  AB ((o.set i w).take (i+1))+(B+2^(32*i)*yi)=(A+2^(32*i)*xi)+2^(32*(i+1))*Dy:=by
 rw[DH a,Cq,Cj,List.length_take,Nat.min_eq_left (by omega)]
 generalize 2^(32*i)=P at*
 have e:P*(w.toNat+yi+Dx)=P*(xi+4294967296*Dy):=by rw[b]
 grind
theorem Nk {N T c b yk old j:Nat} {q w:UInt32} {Y:Nat} {k:Nat} (f:j=i+k) (g:j<n) (m:o[j]? =some q) (z:q.toNat=old) (h:AB (o.take n)+2^(32*j)*c=T+xi*2^(32*i)*Y)
  (C:w.toNat+4294967296*b=c+xi*yk+old) (_:N=n):
  AB ((o.set j w).take n)+2^(32*(j+1))*b=T+xi*2^(32*i)*(Y+2^(32*k)*yk):=by
 have ht:(o.take n)[j]? =some q:=by rw[List.getElem?_take_of_lt g,m]
 have a:=Mp (w:=w) ht;rw[List.take_set,Cj];have v:2^(32*j)=2^(32*i)*2^(32*k):=by rw[f,Nat.mul_add,Nat.pow_add]
 generalize D:2^(32*j)=P at*
 have e:P*(w.toNat+4294967296*b)=P*(c+xi*yk+old):=by rw[C]
 rw[z] at a;have d:xi*2^(32*i)*(2^(32*k)*yk)=P*(xi*yk):=by rw[v];grind
 rw[Nat.mul_add,d]
 grind
theorem Q6 {x:Int} {a b:Bool} (c:a=decide (x<0)) (hb:b=decide (y<0)):x*y=if (a !=b)=true then -((x.natAbs*y.natAbs:Nat):Int) else ((x.natAbs*y.natAbs:Nat):Int):=by
 rw[Int.natCast_mul]
 by_cases d:x<0 <;> by_cases f:y<0 <;> simp[c,hb,d,f]
 ·rw[show ((x.natAbs:Nat):Int)= -x by omega,show ((y.natAbs:Nat):Int)= -y by omega];grind
 ·rw[show ((x.natAbs:Nat):Int)= -x by omega,show ((y.natAbs:Nat):Int)=y by omega];grind
 ·rw[show ((x.natAbs:Nat):Int)=x by omega,show ((y.natAbs:Nat):Int)= -y by omega];grind
 rw[show ((x.natAbs:Nat):Int)=x by omega,show ((y.natAbs:Nat):Int)=y by omega]
theorem HK (a b:Int):(a<b/\Ax a b= -1)\/(a=b/\Ax a b=0)\/(b<a/\Ax a b=1):=by
 unfold Ax
 split
 ·exact .inl ⟨by assumption,rfl⟩
 split
 ·exact .inr (.inr ⟨by assumption,rfl⟩)
 exact .inr (.inl ⟨by omega,rfl⟩)
theorem Dq (x:Int):(x<0/\BR x= -1)\/(x=0/\BR x=0)\/(0<x/\BR x=1):=by
 unfold BR
 split
 ·exact .inl ⟨by assumption,rfl⟩
 split
 ·exact .inr (.inl ⟨by assumption,rfl⟩)
 exact .inr (.inr ⟨by omega,rfl⟩)
theorem ZB (x a b:Int): -9223372036854775808<=BR x*Ax a b/\BR x*Ax a b<9223372036854775808:=by
 rcases Dq x with⟨_,h⟩ |⟨_,h⟩ |⟨_,h⟩ <;> rcases HK a b with⟨_,k⟩ |⟨_,k⟩ |⟨_,k⟩ <;> rw[h,k] <;> decide
theorem WU {x:Int} (h:BR x=BR y):Ax x y=BR x*Ax x.natAbs y.natAbs:=by
 rcases Dq x with⟨b,a⟩ |⟨b,a⟩ |⟨b,a⟩ <;> rcases Dq y with⟨k1,k2⟩ |⟨k1,k2⟩ |⟨k1,k2⟩ <;>
  rcases HK x y with⟨p,q⟩ |⟨p,q⟩ |⟨p,q⟩ <;> rcases HK x.natAbs y.natAbs with⟨u,v⟩ |⟨u,v⟩ |⟨u,v⟩ <;> rw[a,q,v] <;> rw[a,k2] at h <;> omega
theorem WT {x:Int} (h:BR x≠BR y):Ax x y=Ax (BR x) (BR y):=by
 rcases Dq x with⟨b,a⟩ |⟨b,a⟩ |⟨b,a⟩ <;> rcases Dq y with⟨k1,k2⟩ |⟨k1,k2⟩ |⟨k1,k2⟩ <;>
  rcases HK x y with⟨p,q⟩ |⟨p,q⟩ |⟨p,q⟩ <;> rw[a,k2] at h ⊢ <;> rw[q] <;> first | rfl | omega
theorem Sj {x:Int} {b:Bool} (h:x=if b=true then -(n:Int) else n): -x=if (!b)=true then -(n:Int) else n:=by
 cases b <;> simp_all
theorem Ku {x:Int} {b:Bool} (h:x=if b=true then -(n:Int) else n) (d:n≠0):BR x=if b=true then -1 else 1:=by
 rcases Dq x with⟨c,a⟩ |⟨c,a⟩ |⟨c,a⟩ <;> rw[a] <;> cases b <;> simp at h ⊢ <;> omega
theorem add_same {x:Int} {b:Bool} (a:b=decide (x<0)) (c:b=decide (y<0)):x+y=if b=true then -((x.natAbs+y.natAbs:Nat):Int) else ((x.natAbs+y.natAbs:Nat):Int):=by
 cases b <;> simp at a c ⊢ <;> omega
theorem JT {x:Int} {a b:Bool} (d:a=decide (x<0)) (f:b=decide (y<0)) (c:a≠b) (h:x.natAbs<=y.natAbs):x+y=if b=true then -((y.natAbs-x.natAbs:Nat):Int) else ((y.natAbs-x.natAbs:Nat):Int):=by
 cases a <;> cases b <;> simp at d f c ⊢ <;> omega
theorem GA {a b:Int} (h:Ax a b<0):a<b:=by rcases HK a b with⟨_,k⟩ |⟨_,k⟩ |⟨_,k⟩ <;> omega
theorem F9 {a b:Int} (h:0<=Ax a b):b<=a:=by rcases HK a b with⟨_,k⟩ |⟨_,k⟩ |⟨_,k⟩ <;> omega
def E6 (b:Bool) (l:List UInt32):Bool:=match l.getLast? with
 | none=> !b
 | some x=>x !=0
theorem H2 {b:Bool}:E6 b l=true↔∃x,AT x b l:=by
 unfold E6;cases h:l.getLast? with
 | none=>
  have:l=[]:=List.getLast?_eq_none_iff.1 h;subst this
  constructor
  ·intro hb;exact⟨0,by simpa using hb,rfl⟩
  rintro⟨x,a⟩
  have:=(a.nil).1 rfl;rw[a.neg,this];rfl
 | some w=>
  obtain⟨m,rfl⟩:=List.getLast?_eq_some_iff.1 h
  constructor
  ·intro hw;have hw:w≠0:=by simpa using hw
   have c:=L0 (o:=m) (w:=w) fun e=>hw (UInt32.toNat_inj.1 e)
   have f:AB (m++[w])≠0:=fun e=>by
    rw[e,ED] at c;simp at c
   exact⟨if b=true then -(AB (m++[w]):Int) else AB (m++[w]),.val c rfl fun e=>absurd e f⟩
  rintro⟨x,a⟩
  simp only[bne_iff_ne,ne_eq];rintro rfl;have d:=a.trim;rw[<-I9,Gy] at d;have:=Nl m;rw[d] at this;simp at this;omega
end Go.Abs
namespace Go.Abs
variable {A B xi yi:Nat} {l o:List UInt32}
theorem Gu {N k:Nat} (h:N<2^(32*k)):∃z:List UInt32,z.length=k/\AB z=N:=by
 refine⟨AJ N++List.replicate (k-(AJ N).length) 0,?_,?_⟩
 ·have:=EC h;simp;omega
 rw[KT,Fl,Af];simp
theorem K5 (N i:Nat):N%2^(32*(i+1))=N%2^(32*i)+2^(32*i)*(N/2^(32*i)%4294967296):=by
 rw[Cj,Nat.mul_comm 4294967296,Nat.mod_mul]
theorem So {x y r n:Nat} (j:x<4294967296) (v:n<=31):(x+4294967296*(y+4294967296*r))/2^n%4294967296=x/2^n+y*2^(32-n)%4294967296:=by
 obtain⟨d,h⟩:∃d,32-n=d:=⟨_,rfl⟩
 have e:(4294967296:Nat)=2^n*2^d:=by rw[<-Nat.pow_add,show n+d=32 by omega]
 have a:0<2^n:=Nat.two_pow_pos n;have w:0<2^d:=Nat.two_pow_pos d;rw[h];have b:x+4294967296*(y+4294967296*r)=x+2^n*(2^d*(y+4294967296*r)):=by rw[<-Nat.mul_assoc,<-e]
 rw[b,Nat.add_mul_div_left _ _ a];have k:x/2^n<2^d:=Nat.div_lt_of_lt_mul (by rw[<-e];exact j);have c:x/2^n+2^d*(y+4294967296*r)=(x/2^n+y*2^d)+4294967296*(2^d*r):=by rw[Nat.mul_add];grind
 rw[c,Nat.add_mul_mod_self_left];have f:y*2^d%4294967296=2^d*(y%2^n):=by rw[e,Nat.mul_comm (2^n),Nat.mul_comm y,Nat.mul_mod_mul_left]
 rw[Nat.add_mod,f]
 have m:2^d*(y%2^n)+2^d<=4294967296:=by
  have:y%2^n+1<=2^n:=Nat.mod_lt _ a;have:=Nat.mul_le_mul_left (2^d) this;rw[e,Nat.mul_comm (2^n)];rw[Nat.mul_add] at this;omega
 have g:x/2^n%4294967296=x/2^n:=Nat.mod_eq_of_lt (by omega);rw[g,Nat.mod_eq_of_lt (by omega)]
theorem Hl {a b d:Nat} (h:a<2^d):a ||| (2^d*b)=a+2^d*b:=by
 rw[Nat.or_comm,<-Nat.two_pow_add_eq_or_of_lt h,Nat.add_comm]
theorem CZ {i:Nat} {x:UInt32} (h:l[i]? =some x):AB (l.drop i)=x.toNat+4294967296*AB (l.drop (i+1)):=by
 have a:i<l.length:=by
  apply Classical.byContradiction;intro b;rw[List.getElem?_eq_none (by omega)] at h;exact absurd h (by simp)
 rw[List.drop_eq_getElem_cons a,AB];rw[List.getElem?_eq_getElem a] at h;rw[Option.some.inj h]
theorem Jl {i:Nat} (h:i<=l.length):AB l/2^(32*i)=AB (l.drop i):=by
 rw[D2 l i h,Nat.add_mul_div_left _ _ (Nat.two_pow_pos _)];have:=Bk (l.take i);rw[List.length_take,Nat.min_eq_left h] at this;rw[Nat.div_eq_of_lt this,Nat.zero_add]
theorem Jo {i off:Nat} {w:UInt32}:(l.set (off+i) w).drop off=(l.drop off).set i w:=by
 rw[List.drop_set,if_neg (by omega)]
 congr 1
 omega
theorem Zr {D Dx Dy i:Nat} {w:UInt32} (a:i<o.length) (h:AB (o.take i)+B*D=A+2^(32*i)*Dx) (b:w.toNat+yi*D+Dx=xi+4294967296*Dy):
  AB ((o.set i w).take (i+1))+(B+2^(32*i)*yi)*D=(A+2^(32*i)*xi)+2^(32*(i+1))*Dy:=by
 rw[DH a,Cq,Cj,List.length_take,Nat.min_eq_left (by omega)]
 generalize 2^(32*i)=P at*
 have e:P*(w.toNat+yi*D+Dx)=P*(xi+4294967296*Dy):=by rw[b]
 grind
theorem Vp {Jd Je i:Nat} {w:UInt32} (a:i<o.length) (h:AB (o.take i)+2^(32*i)*Jd=A+B) (b:w.toNat+4294967296*Je=xi+yi+Jd):
  AB ((o.set i w).take (i+1))+2^(32*(i+1))*Je=(A+2^(32*i)*xi)+(B+2^(32*i)*yi):=by
 rw[DH a,Cq,Cj,List.length_take,Nat.min_eq_left (by omega)]
 generalize 2^(32*i)=P at*
 have e:P*(w.toNat+4294967296*Je)=P*(xi+yi+Jd):=by rw[b]
 grind
end Go.Abs
