/- Part 14 of a proof. Conditions: each theorem's own. -/
import Derived.Test.YtjpiilcgomggaaaGreatPk12
set_option linter.all false
set_option maxHeartbeats 8000000
namespace Go.Abs
def DN (D:Nat) (a:List Rat):Prop:=∀q∈a,∃n:Int,q*D=n
def MX (B:Nat) (a:List Rat):Prop:=∀q∈a,-(B:Rat)<=q/\q<=B
def Bd (k:Nat) (a:List Rat):Prop:=∃D:Nat,0<D/\D<=2^k/\DN D a/\MX (2^k) a
def TB (R:Nat) (u:List (List Rat)):Prop:=∀r∈u,Bd R r
def EE:Nat->Nat->Nat
 | 0,_=>0
 | h+1,R=>2*EE h R+R+2
def II:Nat->Nat->Nat->Nat
 | 0,_,s=>2*s
 | h+1,R,s=>s+EE h R+II h R (2*s+2*EE h R+R+1)
def GG:Nat->Nat->Nat
 | 0,_=>0
 | h+1,R=>3*EE h R+R+1+2*GG h R+II h R R
theorem XG {p q:Rat} (h:∃n:Int,p=n) (k:∃n:Int,q=n):∃n:Int,p+q=n:=by
 obtain⟨a,rfl⟩:=h;obtain⟨b,rfl⟩:=k;exact⟨a+b,by rw[Rat.intCast_add]⟩
theorem Qg {p q:Rat} (h:∃n:Int,p=n) (k:∃n:Int,q=n):∃n:Int,p*q=n:=by
 obtain⟨a,rfl⟩:=h;obtain⟨b,rfl⟩:=k;exact⟨a*b,by rw[Rat.intCast_mul]⟩
theorem XH (k:Nat):∃n:Int,(k:Rat)=n:=⟨k,rfl⟩
theorem EL (a b:Nat):((a*b:Nat):Rat)=(a:Rat)*b:=Rat.natCast_mul a b
theorem DN.mul_right {D:Nat} {a:List Rat} (h:DN D a) (c:Nat):DN (D*c) a:=fun q b=>by
 have:=Qg (h q b) (XH c);rwa [Rat.mul_assoc,<-EL] at this
theorem DN.dvd {D E:Nat} {a:List Rat} (h:DN D a) (b:D∣E):DN E a:=by
 obtain⟨c,rfl⟩:=b;exact h.mul_right c
theorem Tb {a b:List Rat} {q:Rat} (h:q∈List.zipWith (· + ·) a b):∃x∈a,∃y∈b,q=x+y:=by
 obtain⟨i,c⟩:=List.mem_iff_getElem?.1 h;rw[List.getElem?_zipWith] at c;cases d:a[i]? with
 | none=>rw[d] at c;simp at c
 | some x=>
  cases f:b[i]? with
  | none=>rw[d,f] at c;simp at c
  | some y=>
   rw[d,f] at c;exact⟨x,List.mem_of_getElem? d,y,List.mem_of_getElem? f,(Option.some.inj c).symm⟩
theorem DN.add {D:Nat} {a b:List Rat} (h:DN D a) (k:DN D b):DN D (List.zipWith (· + ·) a b):=fun q c=>by
 obtain⟨x,hx,y,d,rfl⟩:=Tb c;have:=XG (h x hx) (k y d);rwa [<-Rat.add_mul] at this
theorem DN.neg {D:Nat} {a:List Rat} (h:DN D a):DN D (a.map (- ·)):=fun q c=>by
 obtain⟨x,hx,rfl⟩:=List.mem_map.1 c;obtain⟨n,b⟩:=h x hx;exact⟨-n,by rw[Rat.intCast_neg,<-b,Rat.neg_mul]⟩
theorem MX.add {B C:Nat} {a b:List Rat} (h:MX B a) (k:MX C b):MX (B+C) (List.zipWith (· + ·) a b):=fun q c=>by
 obtain⟨x,hx,y,d,rfl⟩:=Tb c;have:=h x hx;have:=k y d;rw[Rat.natCast_add]
 grind
theorem MX.neg {B:Nat} {a:List Rat} (h:MX B a):MX B (a.map (- ·)):=fun q b=>by
 obtain⟨x,hx,rfl⟩:=List.mem_map.1 b;have:=h x hx
 grind
theorem MX.mono {B C:Nat} {a:List Rat} (h:MX B a) (b:B<=C):MX C a:=fun q d=>by
 have:=h q d;have c:(B:Rat)<=C:=Rat.natCast_le_natCast.2 b
 grind
theorem DN.app {D:Nat} {a b:List Rat}:DN D (a++b)↔DN D a/\DN D b:=
 ⟨fun h=>⟨fun q c=>h q (List.mem_append_left _ c),fun q c=>h q (List.mem_append_right _ c)⟩,fun h q c=>(List.mem_append.1 c).elim (h.1 q) (h.2 q)⟩
theorem MX.app {B:Nat} {a b:List Rat}:MX B (a++b)↔MX B a/\MX B b:=
 ⟨fun h=>⟨fun q c=>h q (List.mem_append_left _ c),fun q c=>h q (List.mem_append_right _ c)⟩,fun h q c=>(List.mem_append.1 c).elim (h.1 q) (h.2 q)⟩
section
variable {u:List (List Rat)} {x y:Re}
theorem Pn (h:AQ u) (hx:In u x) (a:In u y):co u (x-y)=List.zipWith (· + ·) (co u x) ((co u y).map (- ·)):=by
 rw[show x-y=x+ -y by grind,Jh h hx (FD a),IS h a]
theorem DN.E1 {D:Nat} (h:AQ u) (hx:In u x) (c:In u y) (a:DN D (co u x)) (b:DN D (co u y)):DN D (co u (x+y)):=by rw[Jh h hx c];exact a.add b
theorem DN.Gw {D:Nat} (h:AQ u) (hx:In u x) (c:In u y) (a:DN D (co u x)) (b:DN D (co u y)):DN D (co u (x-y)):=by rw[Pn h hx c];exact a.add b.neg
theorem MX.E1 {B C:Nat} (h:AQ u) (hx:In u x) (c:In u y) (a:MX B (co u x)) (b:MX C (co u y)):MX (B+C) (co u (x+y)):=by rw[Jh h hx c];exact a.add b
theorem MX.Gw {B C:Nat} (h:AQ u) (hx:In u x) (c:In u y) (a:MX B (co u x)) (b:MX C (co u y)):MX (B+C) (co u (x-y)):=by rw[Pn h hx c];exact a.add b.neg
end
theorem Jy:∀(u:List (List Rat)) (c:Rat) (a:List Rat),a.length=2^u.length->AI u (a.map (c* ·))=Re.ofRat c*AI u a
 | [],c,a,b=>by
  match a,b with
  | [p],_=>exact Re.ofRat_mul c p
 | r::u,c,a,b=>by
  rw[BE] at b;rw[AI,AI,<-List.map_take,<-List.map_drop,Jy u _ _ (by rw[List.length_take];omega),Jy u _ _ (by rw[List.length_drop];omega)]
  grind
theorem Pk {u:List (List Rat)} {x:Re} (h:AQ u) (hx:In u x) (c:Rat):co u (Re.ofRat c*x)=(co u x).map (c* ·):=
 Gi h (by rw[List.length_map,B6 hx]) (by rw[Jy u c _ (B6 hx),DA hx])
theorem MS {u:List (List Rat)} {x:Re} (hx:In u x) (c:Rat):In u (Re.ofRat c*x):=
 ⟨(co u x).map (c* ·),by rw[List.length_map,B6 hx],by rw[Jy u c _ (B6 hx),DA hx]⟩
theorem HQ {u:List (List Rat)} {x:Re} (h:AQ u) (hx:In u x) {D c:Nat}:DN (D*c) (co u x)↔DN D (co u (Re.ofRat c*x)):=by
 rw[Pk h hx]
 constructor
 ·intro k q b;obtain⟨p,d,rfl⟩:=List.mem_map.1 b;obtain⟨n,a⟩:=k p d;exact⟨n,by rw[<-a,EL];grind⟩
 intro k q b;obtain⟨n,a⟩:=k _ (List.mem_map.2 ⟨q,b,rfl⟩);exact⟨n,by rw[<-a,EL];grind⟩
theorem Cc (k:Nat):0<2^k:=Nat.two_pow_pos k
theorem Bh {a b:Nat} (h:a<=b):2^a<=2^b:=Nat.pow_le_pow_right (by decide) h
theorem TB.tail {R:Nat} {r:List Rat} {u:List (List Rat)} (h:TB R (r::u)):TB R u:=fun x hx=>h x (List.mem_cons_of_mem _ hx)
theorem TB.head {R:Nat} {r:List Rat} {u:List (List Rat)} (h:TB R (r::u)):Bd R r:=h r List.mem_cons_self
theorem EM {r:List Rat} {u:List (List Rat)} (h:AQ (r::u)):co u (AI u r)=r:=WO h.1 h.2.1
theorem Pj {r:List Rat} {u:List (List Rat)} {a b c d x y:Re} (h:AQ (r::u)) (f:In u a) (g:In u b) (j:In u c) (k:In u d) (hx:x=a+b*rt u r) (m:y=c+d*rt u r):
  co (r::u) (x*y)=co u (a*c+b*d*AI u r)++co u (a*d+b*c):=by
 have v:=Bk h;exact CT h (B3 (Ab h.1 f j) (Ab h.1 (Ab h.1 g k) (Bg h))) (B3 (Ab h.1 f k) (Ab h.1 g j)) (by subst hx;subst m;grind)
theorem HP:∀{u:List (List Rat)} {R:Nat},AQ u->TB R u->∃K:Nat,0<K/\K<=2^EE u.length R/\∀{x y:Re} {D v:Nat},In u x->In u y->DN D (co u x)->DN v (co u y)->DN (D*v*K) (co u (x*y))
 | [],R,_,_=>⟨1,by decide,by simp[EE],fun {x y D v} hx I h k=>by
  obtain⟨p,rfl⟩:=Bb.1 hx;obtain⟨q,rfl⟩:=Bb.1 I;rw[Bn] at h k;rw[<-Re.ofRat_mul,Bn];intro z O;rw[List.mem_singleton.1 O];have:=Qg (h p List.mem_cons_self) (k q List.mem_cons_self);rw[EL,EL];rwa [show p*(D:Rat)*(q*(v:Rat))=p*q*(D*v*(1:Nat)) by have:((1:Nat):Rat)=1:=rfl;grind] at this⟩
 | r::u,R,h,hT=>by
  obtain⟨K,L,F,hm⟩:=HP h.1 hT.tail;obtain⟨E,M,H,G,_⟩:=hT.head;refine⟨K*K*E,Nat.mul_pos (Nat.mul_pos L L) M,?_,fun {x y D v} hx I f g=>?_⟩
  ·have J:K*K*E<=2^EE u.length R*2^EE u.length R*2^R:=Nat.mul_le_mul (Nat.mul_le_mul F F) H;rw[<-Nat.pow_add,<-Nat.pow_add] at J;exact Nat.le_trans J (Bh (by rw[List.length_cons,EE];omega))
  obtain⟨a,b,w,j,rfl⟩:=Bo.1 hx;obtain⟨c,d,C,m,rfl⟩:=Bo.1 I;rw[CT h w j rfl,DN.app] at f;rw[CT h C m rfl,DN.app] at g;rw[Pj h w j C m rfl rfl,DN.app];have N:DN E (co u (AI u r)):=by rw[EM h];exact G
  refine⟨DN.E1 h.1 (Ab h.1 w C) (Ab h.1 (Ab h.1 j m) (Bg h)) ((hm w C f.1 g.1).dvd ⟨K*E,by grind⟩) ((hm (Ab h.1 j m) (Bg h) (hm j m f.2 g.2) N).dvd ⟨1,by grind⟩),
   DN.E1 h.1 (Ab h.1 w m) (Ab h.1 j C) ((hm w m f.1 g.2).dvd ⟨K*E,by grind⟩) ((hm j C f.2 g.1).dvd ⟨K*E,by grind⟩)⟩
theorem Mk {p q:Rat} {B C:Nat} (h: -(B:Rat)<=p/\p<=B) (k: -(C:Rat)<=q/\q<=C): -((B*C:Nat):Rat)<=p*q/\p*q<=((B*C:Nat):Rat):=by
 rw[EL];exact⟨Xm h.2 h.1 k.2 k.1,Hi h.2 h.1 k.2 k.1⟩
theorem Fc:∀{u:List (List Rat)} {R:Nat},AQ u->TB R u->∀{x y:Re} {B C:Nat},In u x->In u y->MX B (co u x)->MX C (co u y)->MX (B*C*2^EE u.length R) (co u (x*y))
 | [],R,_,_,x,y,B,C,hx,G,h,k=>by
  obtain⟨p,rfl⟩:=Bb.1 hx;obtain⟨q,rfl⟩:=Bb.1 G;rw[Bn] at h k;rw[<-Re.ofRat_mul,Bn];intro z M;rw[List.mem_singleton.1 M];have:=Mk (h p List.mem_cons_self) (k q List.mem_cons_self);rwa [show B*C*2^EE ([]:List (List Rat)).length R=B*C by simp[EE]]
 | r::u,R,h,hT,x,y,B,C,hx,G,f,g=>by
  obtain⟨E,N,J,_,F⟩:=hT.head;have D:=fun {x y:Re} {B C:Nat}=>Fc (R:=R) (x:=x) (y:=y) (B:=B) (C:=C) h.1 hT.tail
  obtain⟨a,b,v,j,rfl⟩:=Bo.1 hx;obtain⟨c,d,w,m,rfl⟩:=Bo.1 G;rw[CT h v j rfl,MX.app] at f;rw[CT h w m rfl,MX.app] at g;rw[Pj h v j w m rfl rfl,MX.app];have L:MX (2^R) (co u (AI u r)):=by rw[EM h];exact F
  have e:EE (r::u).length R=EE u.length R+EE u.length R+R+2:=by rw[List.length_cons,EE];omega
  rw[e,Nat.pow_add,Nat.pow_add,Nat.pow_add];have H:=Cc (EE u.length R);have I:=Cc R
  generalize 2^EE u.length R=K at*
  generalize 2^R=S at*
  have k1:B*C*K<=B*C*(K*K*S):=Nat.mul_le_mul_left _ (by
   have:K*1<=K*(K*S):=Nat.mul_le_mul_left _ (Nat.mul_pos H I);rw[Nat.mul_assoc];omega)
  have k2:B*C*K*S*K=B*C*(K*K*S):=by grind
  refine⟨(MX.E1 h.1 (Ab h.1 v w) (Ab h.1 (Ab h.1 j m) (Bg h)) (D v w f.1 g.1) (D (Ab h.1 j m) (Bg h) (D j m f.2 g.2) L)).mono ?_,
   (MX.E1 h.1 (Ab h.1 v m) (Ab h.1 j w) (D v m f.1 g.2) (D j w f.2 g.1)).mono ?_⟩
  ·rw[k2];grind
  grind
end Go.Abs
namespace Go.Abs
variable {R s t:Nat} {p q x y:Re} {r:List Rat} {u:List (List Rat)}
theorem Bd.mono {k l:Nat} {a:List Rat} (h:Bd k a) (b:k<=l):Bd l a:=by
 obtain⟨D,c,d,f,g⟩:=h;exact⟨D,c,Nat.le_trans d (Bh b),f,g.mono (Bh b)⟩
theorem PD (h:AQ u) (hx:In u x) (c:In u y) (a:Bd s (co u x)) (b:Bd t (co u y)):Bd (s+t+1) (co u (x+y)):=by
 obtain⟨D,d,f,g,j⟩:=a;obtain⟨E,k0,k1,k2,k⟩:=b;refine⟨D*E,Nat.mul_pos d k0,?_,DN.E1 h hx c (g.dvd ⟨E,rfl⟩) (k2.dvd ⟨D,Nat.mul_comm _ _⟩),(MX.E1 h hx c j k).mono ?_⟩
 ·have:=Nat.mul_le_mul f k1;rw[<-Nat.pow_add] at this;exact Nat.le_trans this (Bh (by omega))
 have m:2^s<=2^(s+t):=Bh (by omega);have v:2^t<=2^(s+t):=Bh (by omega);rw[Nat.pow_succ];omega
theorem PH (h:AQ u) (hx:In u x) (a:Bd s (co u x)):Bd s (co u (-x)):=by
 obtain⟨D,b,c,d,f⟩:=a;rw[IS h hx];exact⟨D,b,c,d.neg,f.neg⟩
theorem V3 (h:AQ u) (hx:In u x) (c:In u y) (a:Bd s (co u x)) (b:Bd t (co u y)):Bd (s+t+1) (co u (x-y)):=by
 rw[show x-y=x+ -y by grind];exact PD h hx (FD c) a (PH h c b)
theorem Vy (h:AQ u) (hT:TB R u) (hx:In u x) (d:In u y) (a:Bd s (co u x)) (b:Bd t (co u y)):Bd (s+t+EE u.length R) (co u (x*y)):=by
 obtain⟨D,f,g,j,k⟩:=a;obtain⟨E,k0,k1,k2,v⟩:=b;obtain⟨K,m,c,hm⟩:=HP h hT;refine⟨D*E*K,Nat.mul_pos (Nat.mul_pos f k0) m,?_,hm hx d j k2,(Fc h hT hx d k v).mono ?_⟩
 ·have:=Nat.mul_le_mul (Nat.mul_le_mul g k1) c;rwa [<-Nat.pow_add,<-Nat.pow_add] at this
 rw[<-Nat.pow_add,<-Nat.pow_add];exact Nat.le_refl _
theorem Vz {q:Rat} (h:AQ u) (a:Bd s [q]):Bd s (co u (Re.ofRat q)):=by
 obtain⟨D,c,d,f,g⟩:=a;rw[HK q h];refine⟨D,c,d,fun z b=>?_,fun z b=>?_⟩
 ·rcases List.mem_cons.1 b with rfl | b
  ·exact f z List.mem_cons_self
  rw[(List.mem_replicate.1 b).2];exact⟨0,by rw[Rat.zero_mul];rfl⟩
 rcases List.mem_cons.1 b with rfl | b
 ·exact g z List.mem_cons_self
 rw[(List.mem_replicate.1 b).2];have:(0:Rat)<=((2^s:Nat):Rat):=Rat.natCast_nonneg
 grind
theorem PG (h:AQ (r::u)) (g:In u p) (j:In u q) (a:Bd s (co (r::u) (p+q*rt u r))):Bd s (co u p)/\Bd s (co u q):=by
 obtain⟨D,d,f,b,c⟩:=a;rw[CT h g j rfl] at b c;exact⟨⟨D,d,f,(DN.app.1 b).1,(MX.app.1 c).1⟩,⟨D,d,f,(DN.app.1 b).2,(MX.app.1 c).2⟩⟩
theorem PF (h:AQ (r::u)) (j:In u p) (k:In u q) (a:Bd s (co u p)) (b:Bd t (co u q)):Bd (s+t) (co (r::u) (p+q*rt u r)):=by
 obtain⟨D,c,d,f,g⟩:=a;obtain⟨E,k0,k1,k2,m⟩:=b;rw[CT h j k rfl];refine⟨D*E,Nat.mul_pos c k0,?_,DN.app.2 ⟨f.dvd ⟨E,rfl⟩,k2.dvd ⟨D,Nat.mul_comm _ _⟩⟩,MX.app.2 ⟨g.mono (Bh (by omega)),m.mono (Bh (by omega))⟩⟩;have:=Nat.mul_le_mul d k1;rwa [<-Nat.pow_add] at this
theorem Lu (h:AQ (r::u)) (hT:TB R (r::u)):Bd R (co u (AI u r)):=by rw[EM h];exact hT.head
theorem PI (h:AQ (r::u)) (hT:TB R (r::u)) (c:In u p) (b:In u q) (a:Bd s (co (r::u) (p+q*rt u r))):
  Bd (2*s+2*EE u.length R+R+1) (co u (p*p-q*q*AI u r)):=by
 obtain⟨D,k,m,v,w⟩:=a;rw[CT h c b rfl] at v w;obtain⟨g,j⟩:=DN.app.1 v;obtain⟨mp,C⟩:=MX.app.1 w;obtain⟨K,z,d,hm⟩:=HP h.1 hT.tail;obtain⟨E,k0,k1,k2,G⟩:=hT.head;have F:DN E (co u (AI u r)):=by rw[EM h];exact k2
 have f:MX (2^R) (co u (AI u r)):=by rw[EM h];exact G
 refine⟨D*D*K*E*K,Nat.mul_pos (Nat.mul_pos (Nat.mul_pos (Nat.mul_pos k k) z) k0) z,?_,DN.Gw h.1 (Ab h.1 c c) (Ab h.1 (Ab h.1 b b) (Bg h)) ((hm c c g g).dvd ⟨E*K,by grind⟩) (hm (Ab h.1 b b) (Bg h) (hm b b j j) F),
  (MX.Gw h.1 (Ab h.1 c c) (Ab h.1 (Ab h.1 b b) (Bg h)) (Fc h.1 hT.tail c c mp mp) (Fc h.1 hT.tail (Ab h.1 b b) (Bg h) (Fc h.1 hT.tail b b C C) f)).mono ?_⟩
 ·have:=Nat.mul_le_mul (Nat.mul_le_mul (Nat.mul_le_mul (Nat.mul_le_mul m m) d) k1) d;rw[<-Nat.pow_add,<-Nat.pow_add,<-Nat.pow_add,<-Nat.pow_add] at this;exact Nat.le_trans this (Bh (by omega))
 rw[<-Nat.pow_add,<-Nat.pow_add,<-Nat.pow_add,<-Nat.pow_add,Nat.pow_succ];have H:2^(s+s+EE u.length R)<=2^(2*s+2*EE u.length R+R):=Bh (by omega);have I:2^(s+s+EE u.length R+R+EE u.length R)<=2^(2*s+2*EE u.length R+R):=Bh (by omega);omega
theorem RB {a b:Nat} (h:a<=b):(a:Rat)<=b:=Rat.natCast_le_natCast.2 h
theorem Vx {q p:Rat} (h:Bd s [q]) (L:q*p=1):Bd (2*s) [p]:=by
 obtain⟨D,k,v,F,G⟩:=h;obtain⟨n,f⟩:=F q List.mem_cons_self;have H:=G q List.mem_cons_self;have P:(0:Rat)<D:=Rat.natCast_pos.2 k
 have J:n≠0:=by
  intro e;subst e;have:(D:Rat)=q*D*p:=by grind
  rw[f] at this;have k:((0:Int):Rat)=0:=rfl
  grind
 have d:p*(n:Rat)=D:=by rw[<-f];grind
 have c:(n.natAbs:Rat)=n\/(n.natAbs:Rat)= -n:=by
  rcases Int.natAbs_eq n with e | e
  ·left
   have:((n.natAbs:Int):Rat)=(n:Rat):=congrArg _ e.symm;exact this
  right
  have:((n.natAbs:Int):Rat)=((-n:Int):Rat):=congrArg _ (by omega);rw[Rat.intCast_neg] at this;exact this
 have K:(1:Rat)<=n.natAbs:=by
  have:1<=n.natAbs:=by omega
  exact RB this
 have g:n.natAbs<=D*2^s:=by
  have w:=Mk (C:=D) H (q:=(D:Rat)) ⟨by grind,by grind⟩;rw[f,Nat.mul_comm] at w;apply Rat.natCast_le_natCast.1;rcases c with e | e <;> rw[e] <;> grind
 refine⟨n.natAbs,by omega,?_,fun z j=>?_,fun z j=>?_⟩
 ·have:=Nat.mul_le_mul_right (2^s) v;rw[<-Nat.pow_add] at this;exact Nat.le_trans g (Nat.le_trans this (Bh (by omega)))
 ·rw[List.mem_singleton.1 j];rcases c with e | e <;> rw[e]
  ·exact⟨D,d⟩
  exact⟨-D,by rw[Rat.intCast_neg,Rat.mul_neg,d];rfl⟩
 rw[List.mem_singleton.1 j];have M:(D:Rat)<=((2^(2*s):Nat):Rat):=RB (Nat.le_trans v (Bh (by omega)));have N:p=D\/True:= .inr trivial;have O:p*(n.natAbs:Rat)=D\/p*(n.natAbs:Rat)= -D:=by rcases c with e | e <;> rw[e] <;> grind
 generalize (n.natAbs:Rat)=m at*
 generalize ((2^(2*s):Nat):Rat)=S at*
 have Q:p<=D:=by
  apply Classical.byContradiction;intro I;have:=Rat.mul_pos (a:=p-D) (b:=m) (by grind) (by grind);have:=Rat.mul_nonneg (a:=(D:Rat)) (b:=m-1) (by grind) (by grind)
  grind
 have T: -D<=p:=by
  apply Classical.byContradiction;intro I;have:=Rat.mul_pos (a:= -D-p) (b:=m) (by grind) (by grind);have:=Rat.mul_nonneg (a:=(D:Rat)) (b:=m-1) (by grind) (by grind)
  grind
 grind
theorem Jb:∀{u:List (List Rat)} {R:Nat} {x y:Re} {s:Nat},AQ u->TB R u->In u x->In u y->x*y=1->Bd s (co u x)->Bd (II u.length R s) (co u y)
 | [],R,x,y,s,_,_,hx,H,e,h=>by
  obtain⟨p,rfl⟩:=Bb.1 hx;obtain⟨q,rfl⟩:=Bb.1 H;rw[Bn] at h ⊢;rw[<-Re.ofRat_mul] at e;exact Vx h (Re.Ff.1 e)
 | r::u,R,x,y,s,h,hT,hx,H,e,G=>by
  obtain⟨a,b,f,c,rfl⟩:=Bo.1 hx;have T:=Bk h;have O:=PI h hT f c G;have d:=Dv (Ab h.1 f f) (Ab h.1 (Ab h.1 c c) (Bg h))
  have z:a*a-b*b*AI u r≠0:=by
   intro P;have J:(a+b*rt u r)*(a-b*rt u r)=0:=by grind
   rcases Re.EN J with F | F
   ·rw[F] at e;have k:(0:Re)<1:=Re.FH.2 (show (0:Rat)<1 by decide)
    grind
   obtain⟨Q,S⟩:=indep h f (FD c) (BM u) (BM u) (show a+ -b*rt u r=0+0*rt u r by grind);have:a+b*rt u r=0:=by grind
   rw[this] at e;have k:(0:Re)<1:=Re.FH.2 (show (0:Rat)<1 by decide)
   grind
  obtain⟨i,g,j⟩:=DR h.1 d z;have C:=Jb h.1 hT.tail d g j O
  have L:y=a*i+ -(b*i)*rt u r:=by
   have:y=(a+b*rt u r)*y*((a-b*rt u r)*i):=by
    have:(a+b*rt u r)*y*((a-b*rt u r)*i)=y*((a*a-b*b*AI u r)*i):=by grind
    rw[this,j];grind
   rw[e] at this
   grind
  obtain⟨D,M,k,m,v⟩:=G;rw[CT h f c rfl] at m v;obtain⟨E,k0,k1,k2,I⟩:=C;obtain⟨K,N,w,hm⟩:=HP h.1 hT.tail;rw[L,CT h (Ab h.1 f g) (FD (Ab h.1 c g)) rfl,IS h.1 (Ab h.1 c g),List.length_cons,II];have m1:=Fc h.1 hT.tail f g (MX.app.1 v).1 I;have m2:=Fc h.1 hT.tail c g (MX.app.1 v).2 I;rw[<-Nat.pow_add,<-Nat.pow_add] at m1 m2;refine⟨D*E*K,Nat.mul_pos (Nat.mul_pos M k0) N,?_,DN.app.2 ⟨hm f g (DN.app.1 m).1 k2,(hm c g (DN.app.1 m).2 k2).neg⟩,MX.app.2 ⟨m1.mono (Bh (by omega)),(m2.mono (Bh (by omega))).neg⟩⟩;have:=Nat.mul_le_mul (Nat.mul_le_mul k k1) w;rw[<-Nat.pow_add,<-Nat.pow_add] at this;exact Nat.le_trans this (Bh (by omega))
end Go.Abs
namespace Go.Abs
variable {B:Nat} {u:List (List Rat)} {x:Re}
theorem MU {r:Rat} {n:Int} (h:r*r=n):∃m:Int,r=m:=by
 have b:(r*r).den=1:=by rw[h];rfl
 have a:(r*r).den=r.den*r.den:=by
  have d:Nat.gcd (r.num*r.num).natAbs (r.den*r.den)=1:=by
   rw[Int.natAbs_mul];exact Nat.Coprime.mul_left (Nat.Coprime.mul_right r.reduced r.reduced) (Nat.Coprime.mul_right r.reduced r.reduced)
  rw[Rat.mul_def,Rat.normalize_eq];simp only[d,Nat.div_one]
 rw[b] at a;have c:r.den=1:=Nat.eq_one_of_mul_eq_one_left a.symm;refine⟨r.num,?_⟩;have:=Ho r;rw[c] at this;have e:((1:Nat):Rat)=1:=rfl
 grind
theorem RV {Y:Nat} {c e:Re} (h:e=2*(c*c)):Re.ofRat ((2*Y:Nat):Rat)*c*(Re.ofRat ((2*Y:Nat):Rat)*c)=Re.ofRat ((2*Y*Y:Nat):Rat)*e:=by
 subst h;have a:Re.ofRat ((2:Nat):Rat)=2:=rfl;simp only[EL,Re.ofRat_mul,a]
 grind
theorem P2:∀{u:List (List Rat)} {R:Nat},AQ u->TB R u->∃G:Nat,0<G/\G<=2^GG u.length R/\∀{x w:Re} {D:Nat},In u w->w*w=x->DN D (co u x)->DN (D*G) (co u w)
 | [],R,_,_=>⟨1,by decide,by simp[GG],fun {x w D} hw e h=>by
  obtain⟨p,rfl⟩:=Bb.1 hw;subst e;rw[<-Re.ofRat_mul,Bn] at h;rw[Bn];intro z hz;rw[List.mem_singleton.1 hz];obtain⟨n,F⟩:=h _ List.mem_cons_self
  obtain⟨m,hm⟩:=MU (r:=p*D) (n:=n*D) (by
   rw[Rat.intCast_mul,<-F];have:((D:Int):Rat)=(D:Rat):=rfl
   grind)
  exact⟨m,by rw[Nat.mul_one];exact hm⟩⟩
 | r::u,R,h,hT=>by
  obtain⟨G,hG,L,N⟩:=P2 h.1 hT.tail;obtain⟨K,U,H,hm⟩:=HP h.1 hT.tail;obtain⟨E,hE,Q,P,_⟩:=hT.head;have hr:=Bk h;have Y:DN E (co u (AI u r)):=by rw[EM h];exact P
  obtain⟨i,W,O⟩:=DR h.1 (Bg h) (by have:=h.2.2.1;grind);obtain⟨I,hI,T,S,_⟩:=Jb h.1 hT.tail (Bg h) W O (Lu h hT);refine⟨2*(K*K*E)*G*G*I*K,Nat.mul_pos (Nat.mul_pos (Nat.mul_pos (Nat.mul_pos (Nat.mul_pos (by decide) (Nat.mul_pos (Nat.mul_pos U U) hE)) hG) hG) hI) U,?_,fun {x w D} hw e hx=>?_⟩
  ·have Z:=Nat.mul_le_mul (Nat.mul_le_mul (Nat.mul_le_mul (Nat.mul_le_mul (Nat.mul_le_mul (Nat.le_refl (2^1)) (Nat.mul_le_mul (Nat.mul_le_mul H H) Q)) L) L) T) H;simp only[<-Nat.pow_add] at Z;exact Nat.le_trans Z (Bh (by rw[List.length_cons,GG];omega))
  obtain⟨c,d,k,v,rfl⟩:=Bo.1 hw
  have f:In u (2*c*d):=by
   have:=B3 (Ab h.1 k v) (Ab h.1 k v);rwa [show c*d+c*d=2*c*d by grind] at this
  have g:=Bg h;have j:=B3 (Ab h.1 k k) (Ab h.1 (Ab h.1 v v) g);have ex:x=(c*c+d*d*AI u r)+(2*c*d)*rt u r:=by rw[<-e];grind
  rw[ex,CT h j f rfl,DN.app] at hx
  generalize hA:c*c+d*d*AI u r=a at*
  generalize hB:2*c*d=b at*
  have F:=Dv (Ab h.1 k k) (Ab h.1 (Ab h.1 v v) g)
  generalize hN:c*c-d*d*AI u r=n at*
  have M:=Dv (Ab h.1 j j) (Ab h.1 (Ab h.1 f f) g);have V:n*n=a*a-b*b*AI u r:=by grind
  have d1:DN (D*D*(K*K*E)) (co u (a*a-b*b*AI u r)):=
   DN.Gw h.1 (Ab h.1 j j) (Ab h.1 (Ab h.1 f f) g) ((hm j j hx.1 hx.1).dvd ⟨K*E,by grind⟩) ((hm (Ab h.1 f f) g (hm f f hx.2 hx.2) Y).dvd ⟨1,by grind⟩)
  generalize K*K*E=C at*
  have d2:DN (D*C*G) (co u n):=by
   have k1:DN 1 (co u (Re.ofRat ((D*C*(D*C):Nat):Rat)*(a*a-b*b*AI u r))):=(HQ h.1 M).1 (d1.dvd ⟨C,by grind⟩);have k2:=N (x:=Re.ofRat ((D*C*(D*C):Nat):Rat)*(a*a-b*b*AI u r)) (w:=Re.ofRat ((D*C:Nat):Rat)*n) (D:=1) (MS F _) (by rw[EL (D*C),Re.ofRat_mul,<-V];grind) k1;exact ((HQ h.1 F).2 k2).dvd ⟨1,by grind⟩
  have J:DN (D*C*G) (co u a):=hx.1.dvd ⟨C*G,by grind⟩;have d3:DN (D*C*G) (co u (a+n)):=DN.E1 h.1 j F J d2;have d4:DN (D*C*G) (co u (a-n)):=DN.Gw h.1 j F J d2
  have d5:DN (2*(D*C*G)*G) (co u c):=by
   have k1:DN 1 (co u (Re.ofRat ((2*(D*C*G)*(D*C*G):Nat):Rat)*(a+n))):=(HQ h.1 (B3 j F)).1 (d3.dvd ⟨2*(D*C*G),by grind⟩);have k2:=N (x:=Re.ofRat ((2*(D*C*G)*(D*C*G):Nat):Rat)*(a+n)) (w:=Re.ofRat ((2*(D*C*G):Nat):Rat)*c) (D:=1) (MS k _) (RV (by clear N hm k1;grind)) k1;exact ((HQ h.1 k).2 k2).dvd ⟨1,by grind⟩
  have d6:DN (D*C*G*I*K) (co u ((a-n)*i)):=hm (Dv j F) W d4 S
  have d7:DN (2*(D*C*G*I*K)*G) (co u d):=by
   have X:=Ab h.1 (Dv j F) W;have k1:DN 1 (co u (Re.ofRat ((2*(D*C*G*I*K)*(D*C*G*I*K):Nat):Rat)*((a-n)*i))):=(HQ h.1 X).1 (d6.dvd ⟨2*(D*C*G*I*K),by grind⟩)
   have k2:=N (x:=Re.ofRat ((2*(D*C*G*I*K)*(D*C*G*I*K):Nat):Rat)*((a-n)*i)) (w:=Re.ofRat ((2*(D*C*G*I*K):Nat):Rat)*d) (D:=1) (MS v _) (RV (by
    have e3:(a-n)*i=2*(d*d)*(AI u r*i):=by clear N hm k1;grind
    rw[e3,O];grind)) k1
   exact ((HQ h.1 v).2 k2).dvd ⟨1,by grind⟩
  rw[CT h k v rfl,DN.app];exact⟨d5.dvd ⟨I*K,by grind⟩,d7.dvd ⟨1,by grind⟩⟩
theorem XY {p:Rat} (h:p*p<=((B*B:Nat):Rat)): -(B:Rat)<=p/\p<=B:=by
 rw[EL] at h;have d:(0:Rat)<=B:=Rat.natCast_nonneg
 generalize (B:Rat)=b at*
 constructor
 ·apply Classical.byContradiction;intro c;have:=Rat.mul_pos (a:= -p-b) (b:= -p+b) (by grind) (by grind)
  grind
 apply Classical.byContradiction;intro c;have:=Rat.mul_pos (a:=p-b) (b:=p+b) (by grind) (by grind)
 grind
theorem MX.half {y:Re} (h:AQ u) (hx:In u x) (c:In u y) (e:x=2*y) (k:MX (2*B) (co u x)):MX B (co u y):=by
 have a:x=Re.ofRat 2*y:=e;rw[a,Pk h c] at k;intro q b;have:=k _ (List.mem_map.2 ⟨q,b,rfl⟩);rw[EL] at this;have d:((2:Nat):Rat)=2:=rfl
 grind
theorem RA:∀{u:List (List Rat)} {R:Nat},AQ u->TB R u->∀{x w:Re} {B:Nat},In u w->w*w=x->MX (B*B) (co u x)->MX (B*2^GG u.length R) (co u w)
 | [],R,_,_,x,w,B,hw,e,h=>by
  obtain⟨p,rfl⟩:=Bb.1 hw;subst e;rw[<-Re.ofRat_mul,Bn] at h;rw[Bn];intro z hz;rw[List.mem_singleton.1 hz];have:=XY (h _ List.mem_cons_self).2;simpa [GG] using this
 | r::u,R,h,hT,x,w,B,hw,e,hx=>by
  have F:=fun {x w:Re} {B:Nat}=>RA (R:=R) (x:=x) (w:=w) (B:=B) h.1 hT.tail
  have D:=fun {x y:Re} {B C:Nat}=>Fc (R:=R) (x:=x) (y:=y) (B:=B) (C:=C) h.1 hT.tail
  obtain⟨E,hE,a1,_,T⟩:=hT.head;have hr:=Bk h;have W:MX (2^R) (co u (AI u r)):=by rw[EM h];exact T
  obtain⟨i,X,L⟩:=DR h.1 (Bg h) (by have:=h.2.2.1;grind);obtain⟨I,hI,a2,_,N⟩:=Jb h.1 hT.tail (Bg h) X L (Lu h hT);obtain⟨c,d,k,j,rfl⟩:=Bo.1 hw
  have g:In u (2*c*d):=by
   have:=B3 (Ab h.1 k j) (Ab h.1 k j);rwa [show c*d+c*d=2*c*d by grind] at this
  have f:=Bg h;have m:=B3 (Ab h.1 k k) (Ab h.1 (Ab h.1 j j) f);have ex:x=(c*c+d*d*AI u r)+(2*c*d)*rt u r:=by rw[<-e];grind
  rw[ex,CT h m g rfl,MX.app] at hx
  generalize hA:c*c+d*d*AI u r=a at*
  generalize hB:2*c*d=b at*
  have H:=Dv (Ab h.1 k k) (Ab h.1 (Ab h.1 j j) f)
  generalize hN:c*c-d*d*AI u r=n at*
  have U:n*n=a*a-b*b*AI u r:=by clear F D;grind
  have m1:=MX.Gw h.1 (Ab h.1 m m) (Ab h.1 (Ab h.1 g g) f) (D m m hx.1 hx.1) (D (Ab h.1 g g) f (D g g hx.2 hx.2) W);have M:=Cc (EE u.length R);have Z:=Cc R;have p2:=Cc (GG u.length R);have p3:=Cc (II u.length R R)
  have eG:2^GG (r::u).length R=2^EE u.length R*2^EE u.length R*2^EE u.length R*2^R*2*(2^GG u.length R*2^GG u.length R)*2^II u.length R R:=by
   have e2:(2:Nat)=2^1:=rfl;conv=>rhs;rw[show ∀q:Nat,q*2=q*2^1 from fun q=>rfl]
   simp only[<-Nat.pow_add]
   congr 1
   rw[List.length_cons,GG];omega
  rw[eG]
  generalize 2^EE u.length R=K at*
  generalize 2^R=S at*
  generalize 2^GG u.length R=G at*
  generalize 2^II u.length R R=J at*
  have Q:1<=K*S:=Nat.mul_pos M Z;have v:1<=K*K*S:=Nat.mul_pos (Nat.mul_pos M M) Z
  have V:K+K*S*K<=2*(K*K*S)*(2*(K*K*S)):=by
   have t1:K*1<=K*(K*S):=Nat.mul_le_mul_left _ Q;have t2:(K*K*S)*1<=(K*K*S)*(K*K*S):=Nat.mul_le_mul_left _ v
   grind
  have m2:MX (B*B*(2*(K*K*S))*G) (co u n):=by
   refine F (x:=a*a-b*b*AI u r) H U (m1.mono ?_);have:=Nat.mul_le_mul_left (B*B*(B*B)) V
   grind
  have P:1<=K*K*S*G:=Nat.mul_pos v p2
  have Y:MX (B*B*(2*(K*K*S)*G)) (co u (c*c)):=by
   refine MX.half h.1 (B3 m H) (Ab h.1 k k) (by clear F D m1 m2;grind) ((MX.E1 h.1 m H hx.1 m2).mono ?_);have:=Nat.mul_le_mul_left (B*B) (show 1<=2*(K*K*S)*G by rw[Nat.mul_assoc];omega)
   grind
  have m4:MX (B*(2*(K*K*S)*G)*G) (co u c):=by
   refine F (x:=c*c) k rfl (Y.mono ?_);have t:2*(K*K*S)*G*1<=2*(K*K*S)*G*(2*(K*K*S)*G):=Nat.mul_le_mul_left _ (by rw[Nat.mul_assoc];omega);have:=Nat.mul_le_mul_left (B*B) t
   grind
  have m5:MX (B*B*(2*(K*K*S)*G)) (co u (d*d*AI u r)):=by
   refine MX.half h.1 (Dv m H) (Ab h.1 (Ab h.1 j j) f) (by clear F D m1 m2 Y;grind) ((MX.Gw h.1 m H hx.1 m2).mono ?_);have:=Nat.mul_le_mul_left (B*B) (show 1<=2*(K*K*S)*G by rw[Nat.mul_assoc];omega)
   grind
  have m6:MX (B*B*(2*(K*K*S)*G)*J*K) (co u (d*d)):=by
   have:=D (Ab h.1 (Ab h.1 j j) f) X m5 N;rwa [show d*d*AI u r*i=d*d by rw[show d*d*AI u r*i=d*d*(AI u r*i) by grind,L];grind] at this
  have m7:MX (B*(2*(K*K*S)*G*J*K)*G) (co u d):=by
   refine F (x:=d*d) j rfl (m6.mono ?_);have t0:1<=2*(K*K*S)*G*J*K:=Nat.mul_pos (Nat.mul_pos (by rw[Nat.mul_assoc];omega) p3) M;have t:2*(K*K*S)*G*J*K*1<=2*(K*K*S)*G*J*K*(2*(K*K*S)*G*J*K):=Nat.mul_le_mul_left _ t0;have:=Nat.mul_le_mul_left (B*B) t
   grind
  rw[CT h k j rfl,MX.app];have O:1<=J*K:=Nat.mul_pos p3 M;refine⟨m4.mono ?_,m7.mono ?_⟩
  ·have:=Nat.mul_le_mul_left (B*(2*(K*K*S)*G)*G) O
   grind
  grind
theorem PJ {R s:Nat} {w:Re} (h:AQ u) (hT:TB R u) (hw:In u w) (e:w*w=x) (hx:Bd s (co u x)):Bd (s+GG u.length R) (co u w):=by
 obtain⟨D,b,c,d,f⟩:=hx;obtain⟨G,g,a,j⟩:=P2 h hT;refine⟨D*G,Nat.mul_pos b g,?_,j hw e d,?_⟩
 ·have:=Nat.mul_le_mul c a;rwa [<-Nat.pow_add] at this
 have:=RA h hT hw e (B:=2^s) (f.mono (by rw[<-Nat.pow_add];exact Bh (by omega)));rwa [<-Nat.pow_add] at this
end Go.Abs
namespace Go.Abs
structure AT (x:Int) (b:Bool) (l:List UInt32):Prop where
 neg:b=decide (x<0)
 Am:l=AJ x.natAbs
variable {i n xi:Nat} {l o:List UInt32} {y:Int}
theorem AP (x:Int):∃b l,AT x b l:=⟨_,_,rfl,rfl⟩
theorem AT.nat {x:Int} {b:Bool} (h:AT x b l):AB l=x.natAbs:=by rw[h.Am,Ag]
theorem AT.DW {x:Int} {b:Bool} (h:AT x b l):x=if b=true then -(AB l:Int) else AB l:=by
 rw[h.nat,h.neg];by_cases a:x<0 <;> simp[a] <;> omega
theorem AT.uniq {x:Int} {b b':Bool} {l':List UInt32} (h:AT x b l) (h':AT y b' l') (e:x=y):b=b'/\l=l':=by
 subst e;exact⟨h.neg.trans h'.neg.symm,h.Am.trans h'.Am.symm⟩
theorem AT.trim {x:Int} {b:Bool} (h:AT x b l):AJ (AB l)=l:=by rw[h.nat,<-h.Am]
theorem AT.val {x:Int} {b:Bool} (c:AJ n=l) (a:x=if b=true then -(n:Int) else n) (d:n=0->b=false):AT x b l:=by
 constructor
 ·rw[a];cases b
  ·simp
  have:n≠0:=fun e=>absurd (d e) (by simp)
  simp;omega
 rw[<-c,a];congr 1;split <;> omega
theorem AT.nil {x:Int} {b:Bool} (h:AT x b l):l=[]↔x=0:=by
 rw[h.Am,DS];omega
theorem AT.Dh {x:Int} {b:Bool} (h:AT x b l):l.length=0↔x=0:=by
 rw[List.length_eq_zero_iff,h.nil]
def BO (x:Int):Int:=if x<0 then -1 else if x=0 then 0 else 1
def Ay (a b:Int):Int:=if a<b then -1 else if b<a then 1 else 0
theorem Mm {x w:UInt32} (h:l[i]? =some x):AB (l.set i w)+2^(32*i)*x.toNat=AB l+2^(32*i)*w.toNat:=by
 induction l generalizing i with
 | nil=>simp at h
 | cons y l a=>
  cases i with
  | zero=>simp at h;subst h;simp[AB];omega
  | succ i=>
   have:=a (i:=i) (by simpa using h);rw[List.set_cons_succ,AB,AB,Ch]
   generalize 2^(32*i)=P at*
   grind
theorem FL {w:UInt32} (h:n<=i):(l.set i w).take n=l.take n:=by
 rw[List.take_set];rw[List.set_eq_of_length_le];rw[List.length_take];omega
theorem DG {w:UInt32} (h:i<l.length):(l.set i w).take (i+1)=l.take i++[w]:=by
 rw[List.take_succ_eq_append_getElem (by simpa using h),FL (Nat.le_refl _)];simp
theorem Hh {A B Dr Ds yi:Nat} {w:UInt32} (a:i<o.length) (h:AB (o.take i)+B=A+2^(32*i)*Dr) (b:w.toNat+yi+Dr=xi+4294967296*Ds):
  AB ((o.set i w).take (i+1))+(B+2^(32*i)*yi)=(A+2^(32*i)*xi)+2^(32*(i+1))*Ds:=by
 rw[DG a,Cn,Ch,List.length_take,Nat.min_eq_left (by omega)]
 generalize 2^(32*i)=P at*
 have e:P*(w.toNat+yi+Dr)=P*(xi+4294967296*Ds):=by rw[b]
 grind
theorem Ng {N T c b yk old j:Nat} {q w:UInt32} {Y:Nat} {k:Nat} (f:j=i+k) (g:j<n) (m:o[j]? =some q) (z:q.toNat=old) (h:AB (o.take n)+2^(32*j)*c=T+xi*2^(32*i)*Y)
  (C:w.toNat+4294967296*b=c+xi*yk+old) (_:N=n):
  AB ((o.set j w).take n)+2^(32*(j+1))*b=T+xi*2^(32*i)*(Y+2^(32*k)*yk):=by
 have ht:(o.take n)[j]? =some q:=by rw[List.getElem?_take_of_lt g,m]
 have a:=Mm (w:=w) ht;rw[List.take_set,Ch];have v:2^(32*j)=2^(32*i)*2^(32*k):=by rw[f,Nat.mul_add,Nat.pow_add]
 generalize D:2^(32*j)=P at*
 have e:P*(w.toNat+4294967296*b)=P*(c+xi*yk+old):=by rw[C]
 rw[z] at a;have d:xi*2^(32*i)*(2^(32*k)*yk)=P*(xi*yk):=by rw[v];grind
 rw[Nat.mul_add,d]
 grind
theorem Q9 {x:Int} {a b:Bool} (c:a=decide (x<0)) (d:b=decide (y<0)):x*y=if (a !=b)=true then -((x.natAbs*y.natAbs:Nat):Int) else ((x.natAbs*y.natAbs:Nat):Int):=by
 rw[Int.natCast_mul]
 by_cases hx:x<0 <;> by_cases f:y<0 <;> simp[c,d,hx,f]
 ·rw[show ((x.natAbs:Nat):Int)= -x by omega,show ((y.natAbs:Nat):Int)= -y by omega];grind
 ·rw[show ((x.natAbs:Nat):Int)= -x by omega,show ((y.natAbs:Nat):Int)=y by omega];grind
 ·rw[show ((x.natAbs:Nat):Int)=x by omega,show ((y.natAbs:Nat):Int)= -y by omega];grind
 rw[show ((x.natAbs:Nat):Int)=x by omega,show ((y.natAbs:Nat):Int)=y by omega]
theorem HJ (a b:Int):(a<b/\Ay a b= -1)\/(a=b/\Ay a b=0)\/(b<a/\Ay a b=1):=by
 unfold Ay
 split
 ·exact .inl ⟨by assumption,rfl⟩
 split
 ·exact .inr (.inr ⟨by assumption,rfl⟩)
 exact .inr (.inl ⟨by omega,rfl⟩)
theorem Dj (x:Int):(x<0/\BO x= -1)\/(x=0/\BO x=0)\/(0<x/\BO x=1):=by
 unfold BO
 split
 ·exact .inl ⟨by assumption,rfl⟩
 split
 ·exact .inr (.inl ⟨by assumption,rfl⟩)
 exact .inr (.inr ⟨by omega,rfl⟩)
theorem Y4 (x a b:Int): -9223372036854775808<=BO x*Ay a b/\BO x*Ay a b<9223372036854775808:=by
 rcases Dj x with⟨_,h⟩ |⟨_,h⟩ |⟨_,h⟩ <;> rcases HJ a b with⟨_,k⟩ |⟨_,k⟩ |⟨_,k⟩ <;> rw[h,k] <;> decide
theorem WM {x:Int} (h:BO x=BO y):Ay x y=BO x*Ay x.natAbs y.natAbs:=by
 rcases Dj x with⟨b,a⟩ |⟨b,a⟩ |⟨b,a⟩ <;> rcases Dj y with⟨k1,k2⟩ |⟨k1,k2⟩ |⟨k1,k2⟩ <;>
  rcases HJ x y with⟨p,q⟩ |⟨p,q⟩ |⟨p,q⟩ <;> rcases HJ x.natAbs y.natAbs with⟨u,v⟩ |⟨u,v⟩ |⟨u,v⟩ <;> rw[a,q,v] <;> rw[a,k2] at h <;> omega
theorem WL {x:Int} (h:BO x≠BO y):Ay x y=Ay (BO x) (BO y):=by
 rcases Dj x with⟨b,a⟩ |⟨b,a⟩ |⟨b,a⟩ <;> rcases Dj y with⟨k1,k2⟩ |⟨k1,k2⟩ |⟨k1,k2⟩ <;>
  rcases HJ x y with⟨p,q⟩ |⟨p,q⟩ |⟨p,q⟩ <;> rw[a,k2] at h ⊢ <;> rw[q] <;> first | rfl | omega
theorem Sh {x:Int} {b:Bool} (h:x=if b=true then -(n:Int) else n): -x=if (!b)=true then -(n:Int) else n:=by
 cases b <;> simp_all
theorem Kw {x:Int} {b:Bool} (h:x=if b=true then -(n:Int) else n) (d:n≠0):BO x=if b=true then -1 else 1:=by
 rcases Dj x with⟨c,a⟩ |⟨c,a⟩ |⟨c,a⟩ <;> rw[a] <;> cases b <;> simp at h ⊢ <;> omega
theorem add_same {x:Int} {b:Bool} (hx:b=decide (x<0)) (a:b=decide (y<0)):x+y=if b=true then -((x.natAbs+y.natAbs:Nat):Int) else ((x.natAbs+y.natAbs:Nat):Int):=by
 cases b <;> simp at hx a ⊢ <;> omega
theorem JU {x:Int} {a b:Bool} (hx:a=decide (x<0)) (d:b=decide (y<0)) (c:a≠b) (h:x.natAbs<=y.natAbs):x+y=if b=true then -((y.natAbs-x.natAbs:Nat):Int) else ((y.natAbs-x.natAbs:Nat):Int):=by
 cases a <;> cases b <;> simp at hx d c ⊢ <;> omega
theorem F5 {a b:Int} (h:Ay a b<0):a<b:=by rcases HJ a b with⟨_,k⟩ |⟨_,k⟩ |⟨_,k⟩ <;> omega
theorem F4 {a b:Int} (h:0<=Ay a b):b<=a:=by rcases HJ a b with⟨_,k⟩ |⟨_,k⟩ |⟨_,k⟩ <;> omega
def E2 (b:Bool) (l:List UInt32):Bool:=match l.getLast? with
 | none=> !b
 | some x=>x !=0
theorem H3 {b:Bool}:E2 b l=true↔∃x,AT x b l:=by
 unfold E2;cases h:l.getLast? with
 | none=>
  have:l=[]:=List.getLast?_eq_none_iff.1 h;subst this
  constructor
  ·intro f;exact⟨0,by simpa using f,rfl⟩
  rintro⟨x,hx⟩
  have:=(hx.nil).1 rfl;rw[hx.neg,this];rfl
 | some w=>
  obtain⟨m,rfl⟩:=List.getLast?_eq_some_iff.1 h
  constructor
  ·intro hw;have hw:w≠0:=by simpa using hw
   have a:=Lz (o:=m) (w:=w) fun e=>hw (UInt32.toNat_inj.1 e)
   have d:AB (m++[w])≠0:=fun e=>by
    rw[e,EA] at a;simp at a
   exact⟨if b=true then -(AB (m++[w]):Int) else AB (m++[w]),.val a rfl fun e=>absurd e d⟩
  rintro⟨x,hx⟩
  simp only[bne_iff_ne,ne_eq];rintro rfl;have c:=hx.trim;rw[<-I8,Gu] at c;have:=Nh m;rw[c] at this;simp at this;omega
end Go.Abs
namespace Go.Abs
variable {A B xi yi:Nat} {l o:List UInt32}
theorem Gr {N k:Nat} (h:N<2^(32*k)):∃z:List UInt32,z.length=k/\AB z=N:=by
 refine⟨AJ N++List.replicate (k-(AJ N).length) 0,?_,?_⟩
 ·have:=D9 h;simp;omega
 rw[KW,Fe,Ag];simp
theorem K8 (N i:Nat):N%2^(32*(i+1))=N%2^(32*i)+2^(32*i)*(N/2^(32*i)%4294967296):=by
 rw[Ch,Nat.mul_comm 4294967296,Nat.mod_mul]
theorem Sl {x y r n:Nat} (hx:x<4294967296) (m:n<=31):(x+4294967296*(y+4294967296*r))/2^n%4294967296=x/2^n+y*2^(32-n)%4294967296:=by
 obtain⟨d,h⟩:∃d,32-n=d:=⟨_,rfl⟩
 have e:(4294967296:Nat)=2^n*2^d:=by rw[<-Nat.pow_add,show n+d=32 by omega]
 have a:0<2^n:=Nat.two_pow_pos n;have v:0<2^d:=Nat.two_pow_pos d;rw[h];have b:x+4294967296*(y+4294967296*r)=x+2^n*(2^d*(y+4294967296*r)):=by rw[<-Nat.mul_assoc,<-e]
 rw[b,Nat.add_mul_div_left _ _ a];have j:x/2^n<2^d:=Nat.div_lt_of_lt_mul (by rw[<-e];exact hx);have c:x/2^n+2^d*(y+4294967296*r)=(x/2^n+y*2^d)+4294967296*(2^d*r):=by rw[Nat.mul_add];grind
 rw[c,Nat.add_mul_mod_self_left];have f:y*2^d%4294967296=2^d*(y%2^n):=by rw[e,Nat.mul_comm (2^n),Nat.mul_comm y,Nat.mul_mod_mul_left]
 rw[Nat.add_mod,f]
 have k:2^d*(y%2^n)+2^d<=4294967296:=by
  have:y%2^n+1<=2^n:=Nat.mod_lt _ a;have:=Nat.mul_le_mul_left (2^d) this;rw[e,Nat.mul_comm (2^n)];rw[Nat.mul_add] at this;omega
 have g:x/2^n%4294967296=x/2^n:=Nat.mod_eq_of_lt (by omega);rw[g,Nat.mod_eq_of_lt (by omega)]
theorem Hk {a b d:Nat} (h:a<2^d):a ||| (2^d*b)=a+2^d*b:=by
 rw[Nat.or_comm,<-Nat.two_pow_add_eq_or_of_lt h,Nat.add_comm]
theorem CU {i:Nat} {x:UInt32} (h:l[i]? =some x):AB (l.drop i)=x.toNat+4294967296*AB (l.drop (i+1)):=by
 have a:i<l.length:=by
  apply Classical.byContradiction;intro b;rw[List.getElem?_eq_none (by omega)] at h;exact absurd h (by simp)
 rw[List.drop_eq_getElem_cons a,AB];rw[List.getElem?_eq_getElem a] at h;rw[Option.some.inj h]
theorem Jm {i:Nat} (h:i<=l.length):AB l/2^(32*i)=AB (l.drop i):=by
 rw[Dy l i h,Nat.add_mul_div_left _ _ (Nat.two_pow_pos _)];have:=Bc (l.take i);rw[List.length_take,Nat.min_eq_left h] at this;rw[Nat.div_eq_of_lt this,Nat.zero_add]
theorem Jp {i off:Nat} {w:UInt32}:(l.set (off+i) w).drop off=(l.drop off).set i w:=by
 rw[List.drop_set,if_neg (by omega)]
 congr 1
 omega
theorem Zl {D Dr Ds i:Nat} {w:UInt32} (a:i<o.length) (h:AB (o.take i)+B*D=A+2^(32*i)*Dr) (b:w.toNat+yi*D+Dr=xi+4294967296*Ds):
  AB ((o.set i w).take (i+1))+(B+2^(32*i)*yi)*D=(A+2^(32*i)*xi)+2^(32*(i+1))*Ds:=by
 rw[DG a,Cn,Ch,List.length_take,Nat.min_eq_left (by omega)]
 generalize 2^(32*i)=P at*
 have e:P*(w.toNat+yi*D+Dr)=P*(xi+4294967296*Ds):=by rw[b]
 grind
theorem Vf {Jd Je i:Nat} {w:UInt32} (a:i<o.length) (h:AB (o.take i)+2^(32*i)*Jd=A+B) (b:w.toNat+4294967296*Je=xi+yi+Jd):
  AB ((o.set i w).take (i+1))+2^(32*(i+1))*Je=(A+2^(32*i)*xi)+(B+2^(32*i)*yi):=by
 rw[DG a,Cn,Ch,List.length_take,Nat.min_eq_left (by omega)]
 generalize 2^(32*i)=P at*
 have e:P*(w.toNat+4294967296*Je)=P*(xi+yi+Jd):=by rw[b]
 grind
end Go.Abs
