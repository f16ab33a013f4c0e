/- Part 5 of a proof. Conditions: each theorem's own. -/
import Derived.Test.YtajccafjojgleaaGreatDoorRa03
set_option linter.all false
set_option maxHeartbeats 80000000
set_option maxRecDepth 20000
namespace Go.Abs
open Go.RowKit
section
def AQ:AD->List Rat->Re
 | [],a=>Re.ofRat (a.headD 0)
 | r::u,a=>AQ u (a.take (2^u.length))+AQ u (a.drop (2^u.length))*Re.sqrt (AQ u r)
def rt (u:AD) (r:List Rat):Re:=Re.sqrt (AQ u r)
def In (u:AD) (x:Re):Prop:=∃a:List Rat,a.length=2^u.length/\AQ u a=x
def Ag:AD->Prop
 | []=>True
 | r::u=>Ag u/\r.length=2^u.length/\0<AQ u r/\¬∃w,In u w/\w*w=AQ u r
noncomputable def co (u:AD) (x:Re):List Rat:=by
 classical
 exact if h:In u x then Classical.choose h else []
variable {a:List Rat} {p x y:Re}
theorem Bz (r:List Rat) (u:AD):2^(r::u).length=2^u.length+2^u.length:=by
 rw[List.length_cons,Nat.pow_succ];omega
theorem Cy:In [] x↔∃q,x=Re.ofRat q:=by
 constructor
 ·rintro⟨a,_,rfl⟩;exact⟨_,rfl⟩
 rintro⟨q,rfl⟩;exact⟨[q],rfl,rfl⟩
theorem Ci {r:List Rat} {u:AD}:In (r::u) x↔∃p q,In u p/\In u q/\x=p+q*rt u r:=by
 constructor
 ·rintro⟨a,ha,rfl⟩
  rw[Bz] at ha;exact⟨_,_,⟨a.take (2^u.length),by rw[List.length_take];omega,rfl⟩,⟨a.drop (2^u.length),by rw[List.length_drop];omega,rfl⟩,rfl⟩
 rintro⟨p,q,⟨a,ha,rfl⟩,⟨b,hb,rfl⟩,rfl⟩
 refine⟨a++b,by rw[Bz,List.length_append];omega,?_⟩;rw[AQ,<-ha,List.take_left,List.drop_left];rfl
theorem Pn:∀(u:AD) (a b:List Rat),a.length=2^u.length->b.length=2^u.length->AQ u (List.zipWith (· + ·) a b)=AQ u a+AQ u b
 | [],a,b,ha,hb=>by
  match a,b,ha,hb with
  | [p],[q],_,_=>exact Re.ofRat_add p q
 | r::u,a,b,ha,hb=>by
  rw[Bz] at ha hb;rw[AQ,AQ,AQ,List.take_zipWith,List.drop_zipWith,Pn u _ _ (by rw[List.length_take];omega) (by rw[List.length_take];omega),Pn u _ _ (by rw[List.length_drop];omega) (by rw[List.length_drop];omega)]
  grind
theorem Po:∀(u:AD) (a:List Rat),a.length=2^u.length->AQ u (a.map (- ·))= -AQ u a
 | [],a,ha=>by
  match a,ha with
  | [p],_=>exact Re.ofRat_neg p
 | r::u,a,ha=>by
  rw[Bz] at ha;rw[AQ,AQ,<-List.map_take,<-List.map_drop,Po u _ (by rw[List.length_take];omega),Po u _ (by rw[List.length_drop];omega)]
  grind
theorem Nc:∀(u:AD) (n:Nat),AQ u (List.replicate n 0)=0
 |[],0|[],n+1=>rfl
 | r::u,n=>by rw[AQ,List.take_replicate,List.drop_replicate,Nc,Nc];grind
theorem Fy (q:Rat):∀u,In u (Re.ofRat q)
 | []=>Cy.2 ⟨q,rfl⟩
 | r::u=>Ci.2 ⟨_,_,Fy q u,⟨List.replicate (2^u.length) 0,List.length_replicate,Nc u _⟩,by grind⟩
theorem CO (u:AD):In u 0:=Fy 0 u
theorem Kd (u:AD):In u 1:=Fy 1 u
theorem DZ {u:AD}:In u x->In u y->In u (x+y)
 |⟨a,ha,c⟩,⟨b,hb,f⟩=>⟨List.zipWith (· + ·) a b,by rw[List.length_zipWith];omega,by rw[Pn u a b ha hb,c,f]⟩
theorem GY {u:AD}:In u x->In u (-x)
 |⟨a,ha,c⟩=>⟨a.map (- ·),by rw[List.length_map,ha],by rw[Po u a ha,c]⟩
theorem FT {u:AD} (h:In u x) (k:In u y):In u (x-y):=by
 have:=DZ h (GY k);rwa [show x+ -y=x-y by grind] at this
theorem Cz {u:AD} {r:List Rat} (h:Ag (r::u)):rt u r*rt u r=AQ u r:=Re.G3 (by have:=h.2.2.1;grind)
theorem pn (u:AD) (r:List Rat):0<=rt u r:=Re.MU _
theorem B0 {u:AD} {r:List Rat} (h:Ag (r::u)):In u (AQ u r):=⟨r,h.2.1,rfl⟩
theorem FU {u:AD} {r:List Rat} (h:In u x):In (r::u) x:=Ci.2 ⟨x,0,h,CO u,by grind⟩
theorem Is (u:AD) (r:List Rat):In (r::u) (rt u r):=Ci.2 ⟨0,1,CO u,Kd u,by grind⟩
theorem Ak:∀{u:AD} {x y:Re},Ag u->In u x->In u y->In u (x*y)
 | [],x,y,_,f,g=>by
  obtain⟨p,rfl⟩:=Cy.1 f;obtain⟨q,rfl⟩:=Cy.1 g;exact Cy.2 ⟨p*q,(Re.ofRat_mul p q).symm⟩
 | r::u,x,y,h,f,g=>by
  obtain⟨a,b,ha,hb,rfl⟩:=Ci.1 f;obtain⟨c,d,j,m,rfl⟩:=Ci.1 g;have v:=Cz h;refine Ci.2 ⟨a*c+b*d*AQ u r,a*d+b*c,DZ (Ak h.1 ha j) (Ak h.1 (Ak h.1 hb m) (B0 h)),DZ (Ak h.1 ha m) (Ak h.1 hb j),?_⟩
  grind
theorem aD {u:AD} {r:List Rat} (h:Ag (r::u)) {w:Re} (hw:In u w):w*w≠AQ u r:=fun e=>h.2.2.2 ⟨w,hw,e⟩
theorem EU:∀{u:AD} {x:Re},Ag u->In u x->x≠0->∃y,In u y/\x*y=1
 | [],x,_,m,f=>by
  obtain⟨p,rfl⟩:=Cy.1 m;have J:p≠0:=fun e=>f (by rw[e];rfl)
  refine⟨Re.ofRat p⁻¹,Cy.2 ⟨_,rfl⟩,?_⟩;rw[<-Re.ofRat_mul,show p*p⁻¹=1 by grind];rfl
 | r::u,x,h,m,f=>by
  obtain⟨a,b,ha,hb,rfl⟩:=Ci.1 m;have K:=Cz h
  have H:a*a-b*b*AQ u r≠0:=by
   intro e
   by_cases g:b=0
   ·have F:a=0:=by
     have:a*a=0:=by grind
     rcases Re.GW this with e | e <;> exact e
    exact f (by grind)
   obtain⟨c,G,j⟩:=EU h.1 hb g
   exact aD h (Ak h.1 ha G) (by
    have e1:a*a=b*b*AQ u r:=by grind
    have e2:a*c*(a*c)=(b*c)*(b*c)*AQ u r:=by grind
    rw[e2,j];grind)
  obtain⟨y,v,I⟩:=EU h.1 (FT (Ak h.1 ha ha) (Ak h.1 (Ak h.1 hb hb) (B0 h))) H;refine⟨a*y+ -(b*y)*rt u r,Ci.2 ⟨_,_,Ak h.1 ha v,GY (Ak h.1 hb v),rfl⟩,?_⟩
  grind
theorem indep {u:AD} {r:List Rat} (h:Ag (r::u)) {q g f:Re} (H:In u p) (I:In u q) (j:In u g) (m:In u f) (e:p+q*rt u r=g+f*rt u r):p=g/\q=f:=by
 have J:=Cz h
 by_cases F:q-f=0
 ·have:q=f:=by grind
  subst this;exact⟨by grind,rfl⟩
 exfalso
 obtain⟨c,G,v⟩:=EU h.1 (FT I m) F;refine aD h (Ak h.1 (FT j H) G) ?_;have e1:(q-f)*rt u r=g-p:=by grind
 have e2:(g-p)*c=rt u r*((q-f)*c):=by grind
 rw[e2,v];grind
theorem Sv:∀{u:AD} {a b:List Rat},Ag u->a.length=2^u.length->b.length=2^u.length->AQ u a=AQ u b->a=b
 | [],a,b,_,ha,hb,e=>by
  match a,b,ha,hb with
  | [p],[q],_,_=>exact congrArg (fun x=>[x]) (Re.Kk.1 e)
 | r::u,a,b,h,ha,hb,e=>by
  rw[Bz] at ha hb;have l1:(a.take (2^u.length)).length=2^u.length:=by rw[List.length_take];omega
  have l2:(a.drop (2^u.length)).length=2^u.length:=by rw[List.length_drop];omega
  have l3:(b.take (2^u.length)).length=2^u.length:=by rw[List.length_take];omega
  have c:(b.drop (2^u.length)).length=2^u.length:=by rw[List.length_drop];omega
  obtain⟨e1,e2⟩:=indep h ⟨_,l1,rfl⟩ ⟨_,l2,rfl⟩ ⟨_,l3,rfl⟩ ⟨_,c,rfl⟩ e;rw[<-List.take_append_drop (2^u.length) a,<-List.take_append_drop (2^u.length) b,Sv h.1 l1 l3 e1,Sv h.1 l2 c e2]
theorem X8 {u:AD} (h:In u x):(co u x).length=2^u.length/\AQ u (co u x)=x:=by
 unfold co;rw[dif_pos h];exact Classical.choose_spec h
theorem C4 {u:AD} (h:In u x):(co u x).length=2^u.length:=(X8 h).1
theorem ES {u:AD} (h:In u x):AQ u (co u x)=x:=(X8 h).2
theorem KV {u:AD} (h:Ag u) (ha:a.length=2^u.length) (e:AQ u a=x):co u x=a:=by
 have c:In u x:=⟨a,ha,e⟩;exact Sv h (C4 c) ha ((ES c).trans e.symm)
theorem kE {u:AD} (h:Ag u) (ha:a.length=2^u.length):co u (AQ u a)=a:=KV h ha rfl
theorem NO {u:AD} (h:Ag u) (c:In u x) (f:In u y):co u (x+y)=List.zipWith (· + ·) (co u x) (co u y):=
 KV h (by rw[List.length_zipWith,C4 c,C4 f];omega) (by rw[Pn u _ _ (C4 c) (C4 f),ES c,ES f])
theorem LQ {u:AD} (h:Ag u) (c:In u x):co u (-x)=(co u x).map (- ·):=
 KV h (by rw[List.length_map,C4 c]) (by rw[Po u _ (C4 c),ES c])
theorem Se {u:AD} (h:Ag u):co u 0=List.replicate (2^u.length) 0:=KV h List.length_replicate (Nc u _)
theorem DE {u:AD} {r:List Rat} {q:Re} (h:Ag (r::u)) (c:In u p) (f:In u q) (g:x=p+q*rt u r):co (r::u) x=co u p++co u q:=by
 refine KV h (by rw[List.length_append,C4 c,C4 f,Bz]) ?_;rw[AQ,<-C4 c,List.take_left,List.drop_left,ES c,ES f,g];rfl
theorem DH (q:Rat):co [] (Re.ofRat q)=[q]:=KV (u:=[]) trivial rfl rfl
theorem H4 (q:Rat):∀{u:AD},Ag u->co u (Re.ofRat q)=q::List.replicate (2^u.length-1) 0
 | [],_=>DH q
 | r::u,h=>by
  rw[DE h (Fy q u) (CO u) (by grind),H4 q h.1,Se h.1,List.cons_append,List.replicate_append_replicate];have:1<=2^u.length:=Nat.one_le_two_pow;have:2^(r::u).length-1=2^u.length-1+2^u.length:=by rw[Bz];omega
  rw[this]
theorem kH {u:AD} {r:List Rat} {q:Re} (h:Ag (r::u)) (c:In u p) (f:In u q) (g:x=p+q*rt u r):(co (r::u) x).take (2^u.length)=co u p:=by
 rw[DE h c f g,<-C4 c,List.take_left]
theorem kG {u:AD} {r:List Rat} {q:Re} (h:Ag (r::u)) (c:In u p) (f:In u q) (g:x=p+q*rt u r):(co (r::u) x).drop (2^u.length)=co u q:=by
 rw[DE h c f g,<-C4 c,List.drop_left]
theorem NP {u:AD} (h:Ag u) (g:In u x):(∀c∈co u x,c=0)↔x=0:=by
 constructor
 ·intro f;have:co u x=List.replicate (2^u.length) 0:=List.eq_replicate_iff.2 ⟨C4 g,f⟩;rw[<-ES g,this,Nc]
 rintro rfl c f;rw[Se h] at f;exact (List.mem_replicate.1 f).2
theorem pk {u:AD} {r:List Rat} (h:Ag (r::u)):rt u r≠0:=by
 intro e;have c:=Cz h;have:=h.2.2.1;rw[e] at c
 grind
theorem cH {u:AD} {r:List Rat} (h:Ag (r::u)):0<rt u r:=by
 have:=pk h;have:=pn u r
 grind
end
section
def Sq (u:AD) (x:Re):Prop:=∃w,In u w/\w*w=x
variable {a b n t w x:Re} {r:List Rat} {u:AD}
theorem RF:(2:Re)≠0:=by
 intro h
 have c:(0:Re)<1:=by
  have:=Re.IJ.2 (AE:(0:Rat)<1);exact this
 grind
theorem Nw {y:Re} (c:x≠0) (f:y≠0):x*y≠0:=fun h=>by rcases Re.GW h with e | e;exact c e;exact f e
theorem dr (h:x*x=0):x=0:=by rcases Re.GW h with e | e <;> exact e
theorem dd (h:Ag (r::u)) (ha:In u a):Sq (r::u) a↔Sq u a\/∃i,In u i/\AQ u r*i=1/\Sq u (a*i):=by
 have J:=Cz h
 constructor
 ·rintro⟨w,hw,e⟩
  obtain⟨c,d,g,m,rfl⟩:=Ci.1 hw;have e2:(c*c+d*d*AQ u r)+(2*c*d)*rt u r=a+0*rt u r:=by grind
  have H:In u (2*c*d):=by
   have:=DZ (Ak h.1 g m) (Ak h.1 g m);rwa [show c*d+c*d=2*c*d by grind] at this
  obtain⟨I,G⟩:=indep h (DZ (Ak h.1 g g) (Ak h.1 (Ak h.1 m m) (B0 h))) H ha (CO u) e2
  by_cases v:d=0
  ·left;exact⟨c,g,by grind⟩
  right
  have j:c=0:=by
   apply Classical.byContradiction;intro j;exact Nw (Nw RF j) v G
  obtain⟨i,F,f⟩:=EU h.1 (B0 h) (by have:=h.2.2.1;grind);exact⟨i,F,f,d,m,by grind⟩
 rintro (⟨w,hw,e⟩ |⟨i,F,f,w,hw,e⟩)
 ·exact⟨w,FU hw,e⟩
 refine⟨0+w*rt u r,Ci.2 ⟨0,w,CO u,hw,rfl⟩,?_⟩;have:a=a*(AQ u r*i):=by rw[f];grind
 grind
theorem dh (h:Ag (r::u)) (ha:In u a) (hb:In u b) (hw:Sq (r::u) (a+b*rt u r)):∃c d,In u c/\In u d/\c*c+d*d*AQ u r=a/\2*c*d=b:=by
 have F:=Cz h;obtain⟨w,hw,e⟩:=hw;obtain⟨c,d,f,g,rfl⟩:=Ci.1 hw;have e2:(c*c+d*d*AQ u r)+(2*c*d)*rt u r=a+b*rt u r:=by grind
 have v:In u (2*c*d):=by
  have:=DZ (Ak h.1 f g) (Ak h.1 f g);rwa [show c*d+c*d=2*c*d by grind] at this
 obtain⟨j,m⟩:=indep h (DZ (Ak h.1 f f) (Ak h.1 (Ak h.1 g g) (B0 h))) v ha hb e2;exact⟨c,d,f,g,j,m⟩
theorem di (h:Ag (r::u)) (ha:In u a) (hb:In u b) (hw:Sq (r::u) (a+b*rt u r)):Sq u (a*a-b*b*AQ u r):=by
 obtain⟨c,d,f,g,j,m⟩:=dh h ha hb hw;exact⟨c*c-d*d*AQ u r,FT (Ak h.1 f f) (Ak h.1 (Ak h.1 g g) (B0 h)),by grind⟩
theorem dj (h:Ag (r::u)) (ha:In u a) (hb:In u b) (hw:Sq (r::u) (a+b*rt u r)) (g:n*n=a*a-b*b*AQ u r) (ht:2*t=1):
  Sq u (t*(a+n))\/Sq u (t*(a-n)):=by
 obtain⟨c,d,F,G,m,v⟩:=dh h ha hb hw;have hm:(n-(c*c-d*d*AQ u r))*(n+(c*c-d*d*AQ u r))=0:=by grind
 rcases Re.GW hm with e | e
 ·left
  have f:a+n=2*(c*c):=by clear g hm;grind
  have j:t*(2*(c*c))=2*t*(c*c):=by clear g hm m v f e;grind
  exact⟨c,F,by rw[f,j,ht];grind⟩
 right
 have f:a-n=2*(c*c):=by clear g hm;grind
 have j:t*(2*(c*c))=2*t*(c*c):=by clear g hm m v f e;grind
 exact⟨c,F,by rw[f,j,ht];grind⟩
theorem db {c i ρ s:Re} (K:n*n=a*a-b*b*ρ) (ht:2*t=1) (L:s*s=ρ) (hw:w*w=t*(a+n)) (g:(w+w)*i=1) (m:c=w+b*i*s):c*c=a+b*s:=by
 have f:w≠0:=by intro e;subst e;grind
 have v:2*(w*w)=a+n:=by rw[hw];grind
 have F:(a+n)*(a-n)=b*b*ρ:=by grind
 have h3:2*(w*w)*(b*i*(b*i)*ρ)*2=b*b*ρ:=by
  have:2*(w*w)*(b*i*(b*i)*ρ)*2=b*b*ρ*(((w+w)*i)*((w+w)*i)):=by grind
  rw[this,g];grind
 have h:(a+n)*(2*(b*i*(b*i)*ρ)-(a-n))=0:=by grind
 have G:2*(b*i*(b*i)*ρ)-(a-n)=0:=by
  rcases Re.GW h with e | e
  ·exfalso
   have:2*(w*w)=0:=by grind
   rcases Re.GW this with e | e
   ·exact RF e
   exact f (dr e)
  exact e
 have H:2*w*(b*i)=b:=by
  have:2*w*(b*i)=b*((w+w)*i):=by grind
  rw[this,g];grind
 have I:c*c=w*w+b*i*(b*i)*ρ+2*w*(b*i)*s:=by rw[m];grind
 have j:2*(w*w+b*i*(b*i)*ρ-a)=0:=by grind
 have J:w*w+b*i*(b*i)*ρ-a=0:=by
  rcases Re.GW j with e | e
  ·exact absurd e RF
  exact e
 grind
theorem dc (h:Ag (r::u)) (c:b≠0) (j:n*n=a*a-b*b*AQ u r) (ht:2*t=1) (hw:w*w=t*(a+n)):w≠0:=by
 intro e;subst e;have g:a+n=0:=by grind
 have f:b*b*AQ u r=0:=by grind
 have h3:=h.2.2.1;rcases Re.GW f with e | e
 ·exact c (dr e)
 grind
theorem dg {q:Rat}:Sq [] (Re.ofRat q)↔∃r:Rat,0<=r/\r*r=q:=by
 constructor
 ·rintro⟨w,hw,e⟩
  obtain⟨r,rfl⟩:=Cy.1 hw;rw[<-Re.ofRat_mul,Re.Kk] at e;rcases Rat.le_total (a:=0) (b:=r) with h | h
  ·exact⟨r,h,e⟩
  exact⟨-r,by grind,by grind⟩
 rintro⟨r,_,e⟩
 exact⟨Re.ofRat r,Cy.2 ⟨r,rfl⟩,by rw[<-Re.ofRat_mul,e]⟩
end
section
def DN (D:Nat) (a:List Rat):Prop:=∀q∈a,∃n:Int,q*D=n
def MX (B:Nat) (a:List Rat):Prop:=∀q∈a,-(B:Rat)<=q/\q<=B
def Bd (k:Nat) (a:List Rat):Prop:=∃D:Nat,0<D/\D<=2^k/\DN D a/\MX (2^k) a
def TB (R:Nat) (u:AD):Prop:=∀r∈u,Bd R r
def EE:Nat->Nat->Nat
 | 0,_=>0
 | h+1,R=>2*EE h R+R+2
def II:Nat->Nat->Nat->Nat
 | 0,_,s=>2*s
 | h+1,R,s=>s+EE h R+II h R (2*s+2*EE h R+R+1)
def GG:Nat->Nat->Nat
 | 0,_=>0
 | h+1,R=>3*EE h R+R+1+2*GG h R+II h R R
theorem mS {p q:Rat} (h:∃n:Int,p=n) (k:∃n:Int,q=n):∃n:Int,p+q=n:=by
 obtain⟨a,rfl⟩:=h;obtain⟨b,rfl⟩:=k;exact⟨a+b,by rw[Rat.intCast_add]⟩
theorem ZN {p q:Rat} (h:∃n:Int,p=n) (k:∃n:Int,q=n):∃n:Int,p*q=n:=by
 obtain⟨a,rfl⟩:=h;obtain⟨b,rfl⟩:=k;exact⟨a*b,by rw[Rat.intCast_mul]⟩
theorem mT (k:Nat):∃n:Int,(k:Rat)=n:=⟨k,rfl⟩
theorem Hb (a b:Nat):((a*b:Nat):Rat)=(a:Rat)*b:=Rat.natCast_mul a b
theorem DN.mul_right {D:Nat} {a:List Rat} (h:DN D a) (c:Nat):DN (D*c) a:=fun q f=>by
 have:=ZN (h q f) (mT c);rwa [Rat.mul_assoc,<-Hb] at this
theorem DN.dvd {D E:Nat} {a:List Rat} (h:DN D a) (f:D∣E):DN E a:=by
 obtain⟨c,rfl⟩:=f;exact h.mul_right c
theorem fT {a b:List Rat} {q:Rat} (h:q∈List.zipWith (· + ·) a b):∃x∈a,∃y∈b,q=x+y:=by
 obtain⟨i,c⟩:=List.mem_iff_getElem?.1 h;rw[List.getElem?_zipWith] at c;cases ha:a[i]? with
 | none=>rw[ha] at c;simp at c
 | some x=>
  cases hb:b[i]? with
  | none=>rw[ha,hb] at c;simp at c
  | some y=>
   rw[ha,hb] at c;exact⟨x,List.mem_of_getElem? ha,y,List.mem_of_getElem? hb,(Option.some.inj c).symm⟩
theorem DN.add {D:Nat} {a b:List Rat} (h:DN D a) (k:DN D b):DN D (List.zipWith (· + ·) a b):=fun q c=>by
 obtain⟨x,f,y,g,rfl⟩:=fT c;have:=mS (h x f) (k y g);rwa [<-Rat.add_mul] at this
theorem DN.neg {D:Nat} {a:List Rat} (h:DN D a):DN D (a.map (- ·)):=fun q f=>by
 obtain⟨x,g,rfl⟩:=List.mem_map.1 f;obtain⟨n,c⟩:=h x g;exact⟨-n,by rw[Rat.intCast_neg,<-c,Rat.neg_mul]⟩
theorem MX.add {B C:Nat} {a b:List Rat} (h:MX B a) (k:MX C b):MX (B+C) (List.zipWith (· + ·) a b):=fun q c=>by
 obtain⟨x,f,y,g,rfl⟩:=fT c;have:=h x f;have:=k y g;rw[Rat.natCast_add]
 grind
theorem MX.neg {B:Nat} {a:List Rat} (h:MX B a):MX B (a.map (- ·)):=fun q c=>by
 obtain⟨x,f,rfl⟩:=List.mem_map.1 c;have:=h x f
 grind
theorem MX.mono {B C:Nat} {a:List Rat} (h:MX B a) (c:B<=C):MX C a:=fun q g=>by
 have:=h q g;have f:(B:Rat)<=C:=Rat.natCast_le_natCast.2 c
 grind
theorem DN.app {D:Nat} {a b:List Rat}:DN D (a++b)↔DN D a/\DN D b:=
 ⟨fun h=>⟨fun q c=>h q (List.mem_append_left _ c),fun q c=>h q (List.mem_append_right _ c)⟩,fun h q c=>(List.mem_append.1 c).elim (h.1 q) (h.2 q)⟩
theorem MX.app {B:Nat} {a b:List Rat}:MX B (a++b)↔MX B a/\MX B b:=
 ⟨fun h=>⟨fun q c=>h q (List.mem_append_left _ c),fun q c=>h q (List.mem_append_right _ c)⟩,fun h q c=>(List.mem_append.1 c).elim (h.1 q) (h.2 q)⟩
section
variable {u:AD} {x y:Re}
theorem X9 (h:Ag u) (f:In u x) (c:In u y):co u (x-y)=List.zipWith (· + ·) (co u x) ((co u y).map (- ·)):=by
 rw[show x-y=x+ -y by grind,NO h f (GY c),LQ h c]
theorem DN.Fs {D:Nat} (h:Ag u) (c:In u x) (f:In u y) (a:DN D (co u x)) (b:DN D (co u y)):DN D (co u (x+y)):=by rw[NO h c f];exact a.add b
theorem DN.I7 {D:Nat} (h:Ag u) (c:In u x) (f:In u y) (a:DN D (co u x)) (b:DN D (co u y)):DN D (co u (x-y)):=by rw[X9 h c f];exact a.add b.neg
theorem MX.Fs {B C:Nat} (h:Ag u) (c:In u x) (f:In u y) (a:MX B (co u x)) (b:MX C (co u y)):MX (B+C) (co u (x+y)):=by rw[NO h c f];exact a.add b
theorem MX.I7 {B C:Nat} (h:Ag u) (c:In u x) (f:In u y) (a:MX B (co u x)) (b:MX C (co u y)):MX (B+C) (co u (x-y)):=by rw[X9 h c f];exact a.add b.neg
end
theorem Pp:∀(u:AD) (c:Rat) (a:List Rat),a.length=2^u.length->AQ u (a.map (c* ·))=Re.ofRat c*AQ u a
 | [],c,a,ha=>by
  match a,ha with
  | [p],_=>exact Re.ofRat_mul c p
 | r::u,c,a,ha=>by
  rw[Bz] at ha;rw[AQ,AQ,<-List.map_take,<-List.map_drop,Pp u _ _ (by rw[List.length_take];omega),Pp u _ _ (by rw[List.length_drop];omega)]
  grind
theorem Sd {u:AD} {x:Re} (h:Ag u) (f:In u x) (c:Rat):co u (Re.ofRat c*x)=(co u x).map (c* ·):=
 KV h (by rw[List.length_map,C4 f]) (by rw[Pp u c _ (C4 f),ES f])
theorem Nh {u:AD} {x:Re} (f:In u x) (c:Rat):In u (Re.ofRat c*x):=
 ⟨(co u x).map (c* ·),by rw[List.length_map,C4 f],by rw[Pp u c _ (C4 f),ES f]⟩
theorem La {u:AD} {x:Re} (h:Ag u) (m:In u x) {D c:Nat}:DN (D*c) (co u x)↔DN D (co u (Re.ofRat c*x)):=by
 rw[Sd h m]
 constructor
 ·intro k q g;obtain⟨p,j,rfl⟩:=List.mem_map.1 g;obtain⟨n,f⟩:=k p j;exact⟨n,by rw[<-f,Hb];grind⟩
 intro k q g;obtain⟨n,f⟩:=k _ (List.mem_map.2 ⟨q,g,rfl⟩);exact⟨n,by rw[<-f,Hb];grind⟩
theorem DK (k:Nat):0<2^k:=Nat.two_pow_pos k
theorem Cb {a b:Nat} (h:a<=b:=by omega):2^a<=2^b:=Nat.pow_le_pow_right AE h
theorem TB.tail {R:Nat} {r:List Rat} {u:AD} (h:TB R (r::u)):TB R u:=fun x c=>h x (List.mem_cons_of_mem _ c)
theorem TB.head {R:Nat} {r:List Rat} {u:AD} (h:TB R (r::u)):Bd R r:=h r List.mem_cons_self
theorem E0 {r:List Rat} {u:AD} (h:Ag (r::u)):co u (AQ u r)=r:=kE h.1 h.2.1
theorem PR {r:List Rat} {u:AD} {a b c d x y:Re} (h:Ag (r::u)) (ha:In u a) (hb:In u b) (f:In u c) (g:In u d) (j:x=a+b*rt u r) (m:y=c+d*rt u r):
  co (r::u) (x*y)=co u (a*c+b*d*AQ u r)++co u (a*d+b*c):=by
 have v:=Cz h;exact DE h (DZ (Ak h.1 ha f) (Ak h.1 (Ak h.1 hb g) (B0 h))) (DZ (Ak h.1 ha g) (Ak h.1 hb f)) (by subst j;subst m;grind)
theorem KY:∀{u:AD} {R:Nat},Ag u->TB R u->∃K:Nat,0<K/\K<=2^EE u.length R/\∀{x y:Re} {D m:Nat},In u x->In u y->DN D (co u x)->DN m (co u y)->DN (D*m*K) (co u (x*y))
 | [],R,_,_=>⟨1,AE,by simp[EE],fun {x y D m} I J h k=>by
  obtain⟨p,rfl⟩:=Cy.1 I;obtain⟨q,rfl⟩:=Cy.1 J;rw[DH] at h k;rw[<-Re.ofRat_mul,DH];intro z W;rw[List.mem_singleton.1 W];have:=ZN (h p List.mem_cons_self) (k q List.mem_cons_self);rw[Hb,Hb];rwa [show p*(D:Rat)*(q*(m:Rat))=p*q*(D*m*(1:Nat)) by have:((1:Nat):Rat)=1:=rfl;grind] at this⟩
 | r::u,R,h,O=>by
  obtain⟨K,M,F,hm⟩:=KY h.1 O.tail;obtain⟨E,Q,H,G,_⟩:=O.head;refine⟨K*K*E,Nat.mul_pos (Nat.mul_pos M M) Q,?_,fun {x y D m} I J f g=>?_⟩
  ·have L:K*K*E<=2^EE u.length R*2^EE u.length R*2^R:=Nat.mul_le_mul (Nat.mul_le_mul F F) H;rw[<-Nat.pow_add,<-Nat.pow_add] at L;exact Nat.le_trans L (Cb (by rw[List.length_cons,EE];omega))
  obtain⟨a,b,ha,hb,rfl⟩:=Ci.1 I;obtain⟨c,d,v,j,rfl⟩:=Ci.1 J;rw[DE h ha hb rfl,DN.app] at f;rw[DE h v j rfl,DN.app] at g;rw[PR h ha hb v j rfl rfl,DN.app];have U:DN E (co u (AQ u r)):=by rw[E0 h];exact G
  refine⟨DN.Fs h.1 (Ak h.1 ha v) (Ak h.1 (Ak h.1 hb j) (B0 h)) ((hm ha v f.1 g.1).dvd ⟨K*E,by grind⟩) ((hm (Ak h.1 hb j) (B0 h) (hm hb j f.2 g.2) U).dvd ⟨1,by grind⟩),
   DN.Fs h.1 (Ak h.1 ha j) (Ak h.1 hb v) ((hm ha j f.1 g.2).dvd ⟨K*E,by grind⟩) ((hm hb v f.2 g.1).dvd ⟨K*E,by grind⟩)⟩
theorem UF {p q:Rat} {B C:Nat} (h: -(B:Rat)<=p/\p<=B) (k: -(C:Rat)<=q/\q<=C): -((B*C:Nat):Rat)<=p*q/\p*q<=((B*C:Nat):Rat):=by
 rw[Hb];exact⟨nr h.2 h.1 k.2 k.1,L7 h.2 h.1 k.2 k.1⟩
theorem IH:∀{u:AD} {R:Nat},Ag u->TB R u->∀{x y:Re} {B C:Nat},In u x->In u y->MX B (co u x)->MX C (co u y)->MX (B*C*2^EE u.length R) (co u (x*y))
 | [],R,_,_,x,y,B,C,G,H,h,k=>by
  obtain⟨p,rfl⟩:=Cy.1 G;obtain⟨q,rfl⟩:=Cy.1 H;rw[DH] at h k;rw[<-Re.ofRat_mul,DH];intro z Q;rw[List.mem_singleton.1 Q];have:=UF (h p List.mem_cons_self) (k q List.mem_cons_self);rwa [show B*C*2^EE ([]:AD).length R=B*C by simp[EE]]
 | r::u,R,h,I,x,y,B,C,G,H,f,g=>by
  obtain⟨E,U,M,_,F⟩:=I.head;have v:=fun {x y:Re} {B C:Nat}=>IH (R:=R) (x:=x) (y:=y) (B:=B) (C:=C) h.1 I.tail
  obtain⟨a,b,ha,hb,rfl⟩:=Ci.1 G;obtain⟨c,d,m,j,rfl⟩:=Ci.1 H;rw[DE h ha hb rfl,MX.app] at f;rw[DE h m j rfl,MX.app] at g;rw[PR h ha hb m j rfl rfl,MX.app];have O:MX (2^R) (co u (AQ u r)):=by rw[E0 h];exact F
  have e:EE (r::u).length R=EE u.length R+EE u.length R+R+2:=by rw[List.length_cons,EE];omega
  rw[e,Nat.pow_add,Nat.pow_add,Nat.pow_add];have J:=DK (EE u.length R);have L:=DK R
  generalize 2^EE u.length R=K at*
  generalize 2^R=S at*
  have k1:B*C*K<=B*C*(K*K*S):=Nat.mul_le_mul_left _ (by
   have:K*1<=K*(K*S):=Nat.mul_le_mul_left _ (Nat.mul_pos J L);rw[Nat.mul_assoc];omega)
  have k2:B*C*K*S*K=B*C*(K*K*S):=by grind
  refine⟨(MX.Fs h.1 (Ak h.1 ha m) (Ak h.1 (Ak h.1 hb j) (B0 h)) (v ha m f.1 g.1) (v (Ak h.1 hb j) (B0 h) (v hb j f.2 g.2) O)).mono ?_,
   (MX.Fs h.1 (Ak h.1 ha j) (Ak h.1 hb m) (v ha j f.1 g.2) (v hb m f.2 g.1)).mono ?_⟩
  ·rw[k2];grind
  grind
end
section
variable {R s t:Nat} {p q x y:Re} {r:List Rat} {u:AD}
theorem Bd.mono {k l:Nat} {a:List Rat} (h:Bd k a) (c:k<=l):Bd l a:=by
 obtain⟨D,f,g,j,h3⟩:=h;exact⟨D,f,Nat.le_trans g (Cb c),j,h3.mono (Cb c)⟩
theorem SG (h:Ag u) (c:In u x) (f:In u y) (a:Bd s (co u x)) (b:Bd t (co u y)):Bd (s+t+1) (co u (x+y)):=by
 obtain⟨D,g,j,m,h3⟩:=a;obtain⟨E,k0,k1,k2,v⟩:=b;refine⟨D*E,Nat.mul_pos g k0,?_,DN.Fs h c f (m.dvd ⟨E,rfl⟩) (k2.dvd ⟨D,Nat.mul_comm _ _⟩),(MX.Fs h c f h3 v).mono ?_⟩
 ·have:=Nat.mul_le_mul j k1;rw[<-Nat.pow_add] at this;exact Nat.le_trans this (Cb)
 have F:2^s<=2^(s+t):=Cb;have G:2^t<=2^(s+t):=Cb;rw[Nat.pow_succ];omega
theorem Xe (h:Ag u) (j:In u x) (a:Bd s (co u x)):Bd s (co u (-x)):=by
 obtain⟨D,c,f,g,h3⟩:=a;rw[LQ h j];exact⟨D,c,f,g.neg,h3.neg⟩
theorem jl (h:Ag u) (f:In u x) (c:In u y) (a:Bd s (co u x)) (b:Bd t (co u y)):Bd (s+t+1) (co u (x-y)):=by
 rw[show x-y=x+ -y by grind];exact SG h f (GY c) a (Xe h c b)
theorem Xd (h:Ag u) (f:TB R u) (g:In u x) (j:In u y) (a:Bd s (co u x)) (b:Bd t (co u y)):Bd (s+t+EE u.length R) (co u (x*y)):=by
 obtain⟨D,m,v,F,h3⟩:=a;obtain⟨E,k0,k1,k2,H⟩:=b;obtain⟨K,G,c,hm⟩:=KY h f;refine⟨D*E*K,Nat.mul_pos (Nat.mul_pos m k0) G,?_,hm g j F k2,(IH h f g j h3 H).mono ?_⟩
 ·have:=Nat.mul_le_mul (Nat.mul_le_mul v k1) c;rwa [<-Nat.pow_add,<-Nat.pow_add] at this
 rw[<-Nat.pow_add,<-Nat.pow_add];exact Nat.le_refl _
theorem jj {q:Rat} (h:Ag u) (a:Bd s [q]):Bd s (co u (Re.ofRat q)):=by
 obtain⟨D,f,g,j,h3⟩:=a;rw[H4 q h];refine⟨D,f,g,fun z c=>?_,fun z c=>?_⟩
 ·rcases List.mem_cons.1 c with rfl | c
  ·exact j z List.mem_cons_self
  rw[(List.mem_replicate.1 c).2];exact⟨0,by rw[Rat.zero_mul];rfl⟩
 rcases List.mem_cons.1 c with rfl | c
 ·exact h3 z List.mem_cons_self
 rw[(List.mem_replicate.1 c).2];have:(0:Rat)<=((2^s:Nat):Rat):=Rat.natCast_nonneg
 grind
theorem Xc (h:Ag (r::u)) (j:In u p) (m:In u q) (a:Bd s (co (r::u) (p+q*rt u r))):Bd s (co u p)/\Bd s (co u q):=by
 obtain⟨D,f,g,c,h3⟩:=a;rw[DE h j m rfl] at c h3;exact⟨⟨D,f,g,(DN.app.1 c).1,(MX.app.1 h3).1⟩,⟨D,f,g,(DN.app.1 c).2,(MX.app.1 h3).2⟩⟩
theorem O8 (h:Ag (r::u)) (j:In u p) (m:In u q) (a:Bd s (co u p)) (b:Bd t (co u q)):Bd (s+t) (co (r::u) (p+q*rt u r)):=by
 obtain⟨D,c,f,g,h3⟩:=a;obtain⟨E,k0,k1,k2,v⟩:=b;rw[DE h j m rfl];refine⟨D*E,Nat.mul_pos c k0,?_,DN.app.2 ⟨g.dvd ⟨E,rfl⟩,k2.dvd ⟨D,Nat.mul_comm _ _⟩⟩,MX.app.2 ⟨h3.mono (Cb),v.mono (Cb)⟩⟩;have:=Nat.mul_le_mul f k1;rwa [<-Nat.pow_add] at this
theorem SI (h:Ag (r::u)) (c:TB R (r::u)):Bd R (co u (AQ u r)):=by rw[E0 h];exact c.head
theorem Xf (h:Ag (r::u)) (j:TB R (r::u)) (f:In u p) (c:In u q) (a:Bd s (co (r::u) (p+q*rt u r))):
  Bd (2*s+2*EE u.length R+R+1) (co u (p*p-q*q*AQ u r)):=by
 obtain⟨D,G,H,I,h3⟩:=a;rw[DE h f c rfl] at I h3;obtain⟨v,F⟩:=DN.app.1 I;obtain⟨mp,L⟩:=MX.app.1 h3;obtain⟨K,J,g,hm⟩:=KY h.1 j.tail;obtain⟨E,k0,k1,k2,O⟩:=j.head;have M:DN E (co u (AQ u r)):=by rw[E0 h];exact k2
 have m:MX (2^R) (co u (AQ u r)):=by rw[E0 h];exact O
 refine⟨D*D*K*E*K,Nat.mul_pos (Nat.mul_pos (Nat.mul_pos (Nat.mul_pos G G) J) k0) J,?_,DN.I7 h.1 (Ak h.1 f f) (Ak h.1 (Ak h.1 c c) (B0 h)) ((hm f f v v).dvd ⟨E*K,by grind⟩) (hm (Ak h.1 c c) (B0 h) (hm c c F F) M),
  (MX.I7 h.1 (Ak h.1 f f) (Ak h.1 (Ak h.1 c c) (B0 h)) (IH h.1 j.tail f f mp mp) (IH h.1 j.tail (Ak h.1 c c) (B0 h) (IH h.1 j.tail c c L L) m)).mono ?_⟩
 ·have:=Nat.mul_le_mul (Nat.mul_le_mul (Nat.mul_le_mul (Nat.mul_le_mul H H) g) k1) g;rw[<-Nat.pow_add,<-Nat.pow_add,<-Nat.pow_add,<-Nat.pow_add] at this;exact Nat.le_trans this (Cb)
 rw[<-Nat.pow_add,<-Nat.pow_add,<-Nat.pow_add,<-Nat.pow_add,Nat.pow_succ];have e1:2^(s+s+EE u.length R)<=2^(2*s+2*EE u.length R+R):=Cb;have e2:2^(s+s+EE u.length R+R+EE u.length R)<=2^(2*s+2*EE u.length R+R):=Cb;omega
theorem Z5 {a b:Nat} (h:a<=b):(a:Rat)<=b:=Rat.natCast_le_natCast.2 h
theorem ji {q p:Rat} (h:Bd s [q]) (L:q*p=1):Bd (2*s) [p]:=by
 obtain⟨D,F,G,H,h3⟩:=h;obtain⟨n,g⟩:=H q List.mem_cons_self;have hb:=h3 q List.mem_cons_self;have U:(0:Rat)<D:=Rat.natCast_pos.2 F
 have J:n≠0:=by
  intro e;subst e;have:(D:Rat)=q*D*p:=by grind
  rw[g] at this;have F:((0:Int):Rat)=0:=rfl
  grind
 have f:p*(n:Rat)=D:=by rw[<-g];grind
 have c:(n.natAbs:Rat)=n\/(n.natAbs:Rat)= -n:=by
  rcases Int.natAbs_eq n with e | e
  ·left
   have:((n.natAbs:Int):Rat)=(n:Rat):=congrArg _ e.symm;exact this
  right
  have:((n.natAbs:Int):Rat)=((-n:Int):Rat):=congrArg _ AA;rw[Rat.intCast_neg] at this;exact this
 have K:(1:Rat)<=n.natAbs:=by
  have:1<=n.natAbs:=AA
  exact Z5 this
 have j:n.natAbs<=D*2^s:=by
  have e1:=UF (C:=D) hb (q:=(D:Rat)) ⟨by grind,by grind⟩;rw[g,Nat.mul_comm] at e1;apply Rat.natCast_le_natCast.1;rcases c with e | e <;> rw[e] <;> grind
 refine⟨n.natAbs,AA,?_,fun z v=>?_,fun z v=>?_⟩
 ·have:=Nat.mul_le_mul_right (2^s) G;rw[<-Nat.pow_add] at this;exact Nat.le_trans j (Nat.le_trans this (Cb))
 ·rw[List.mem_singleton.1 v];rcases c with e | e <;> rw[e]
  ·exact⟨D,f⟩
  exact⟨-D,by rw[Rat.intCast_neg,Rat.mul_neg,f];rfl⟩
 rw[List.mem_singleton.1 v];have M:(D:Rat)<=((2^(2*s):Nat):Rat):=Z5 (Nat.le_trans G (Cb));have O:p=D\/True:= .inr trivial;have Q:p*(n.natAbs:Rat)=D\/p*(n.natAbs:Rat)= -D:=by rcases c with e | e <;> rw[e] <;> grind
 generalize (n.natAbs:Rat)=m at*
 generalize ((2^(2*s):Nat):Rat)=S at*
 have W:p<=D:=by
  apply Classical.byContradiction;intro I;have:=Rat.mul_pos (a:=p-D) (b:=m) (by grind) (by grind);have:=Rat.mul_nonneg (a:=(D:Rat)) (b:=m-1) (by grind) (by grind)
  grind
 have Y: -D<=p:=by
  apply Classical.byContradiction;intro I;have:=Rat.mul_pos (a:= -D-p) (b:=m) (by grind) (by grind);have:=Rat.mul_nonneg (a:=(D:Rat)) (b:=m-1) (by grind) (by grind)
  grind
 grind
theorem Ij:∀{u:AD} {R:Nat} {x y:Re} {s:Nat},Ag u->TB R u->In u x->In u y->x*y=1->Bd s (co u x)->Bd (II u.length R s) (co u y)
 | [],R,x,y,s,_,_,J,L,e,h=>by
  obtain⟨p,rfl⟩:=Cy.1 J;obtain⟨q,rfl⟩:=Cy.1 L;rw[DH] at h ⊢;rw[<-Re.ofRat_mul] at e;exact ji h (Re.Kk.1 e)
 | r::u,R,x,y,s,h,m,J,L,e,hb=>by
  obtain⟨a,b,ha,c,rfl⟩:=Ci.1 J;have hr:=Cz h;have W:=Xf h m ha c hb;have f:=FT (Ak h.1 ha ha) (Ak h.1 (Ak h.1 c c) (B0 h))
  have H:a*a-b*b*AQ u r≠0:=by
   intro Y;have e1:(a+b*rt u r)*(a-b*rt u r)=0:=by grind
   rcases Re.GW e1 with e2 | e2
   ·rw[e2] at e;have v:(0:Re)<1:=Re.IJ.2 (AE:(0:Rat)<1)
    grind
   obtain⟨Z,e4⟩:=indep h ha (GY c) (CO u) (CO u) (show a+ -b*rt u r=0+0*rt u r by grind);have:a+b*rt u r=0:=by grind
   rw[this] at e;have v:(0:Re)<1:=Re.IJ.2 (AE:(0:Rat)<1)
   grind
  obtain⟨i,g,j⟩:=EU h.1 f H;have I:=Ij h.1 m.tail f g j W
  have O:y=a*i+ -(b*i)*rt u r:=by
   have:y=(a+b*rt u r)*y*((a-b*rt u r)*i):=by
    have:(a+b*rt u r)*y*((a-b*rt u r)*i)=y*((a*a-b*b*AQ u r)*i):=by grind
    rw[this,j];grind
   rw[e] at this
   grind
  obtain⟨D,Q,v,F,h3⟩:=hb;rw[DE h ha c rfl] at F h3;obtain⟨E,k0,k1,k2,M⟩:=I;obtain⟨K,U,G,hm⟩:=KY h.1 m.tail;rw[O,DE h (Ak h.1 ha g) (GY (Ak h.1 c g)) rfl,LQ h.1 (Ak h.1 c g),List.length_cons,II];have m1:=IH h.1 m.tail ha g (MX.app.1 h3).1 M;have m2:=IH h.1 m.tail c g (MX.app.1 h3).2 M;rw[<-Nat.pow_add,<-Nat.pow_add] at m1 m2;refine⟨D*E*K,Nat.mul_pos (Nat.mul_pos Q k0) U,?_,DN.app.2 ⟨hm ha g (DN.app.1 F).1 k2,(hm c g (DN.app.1 F).2 k2).neg⟩,MX.app.2 ⟨m1.mono (Cb),(m2.mono (Cb)).neg⟩⟩;have:=Nat.mul_le_mul (Nat.mul_le_mul v k1) G;rw[<-Nat.pow_add,<-Nat.pow_add] at this;exact Nat.le_trans this (Cb)
end
section
variable {B:Nat} {u:AD} {x:Re}
theorem mU {r:Rat} {n:Int} (h:r*r=n):∃m:Int,r=m:=by
 have f:(r*r).den=1:=by rw[h];rfl
 have c:(r*r).den=r.den*r.den:=by
  have g:Nat.gcd (r.num*r.num).natAbs (r.den*r.den)=1:=by
   rw[Int.natAbs_mul];exact Nat.Coprime.mul_left (Nat.Coprime.mul_right r.reduced r.reduced) (Nat.Coprime.mul_right r.reduced r.reduced)
  rw[Rat.mul_def,Rat.normalize_eq];simp only[g,Nat.div_one]
 rw[f] at c;have h3:r.den=1:=Nat.eq_one_of_mul_eq_one_left c.symm;refine⟨r.num,?_⟩;have:=MM r;rw[h3] at this;have e:((1:Nat):Rat)=1:=rfl
 grind
theorem aS {Y:Nat} {c e:Re} (h:e=2*(c*c)):Re.ofRat ((2*Y:Nat):Rat)*c*(Re.ofRat ((2*Y:Nat):Rat)*c)=Re.ofRat ((2*Y*Y:Nat):Rat)*e:=by
 subst h;have e2:Re.ofRat ((2:Nat):Rat)=2:=rfl;simp only[Hb,Re.ofRat_mul,e2]
 grind
theorem YU:∀{u:AD} {R:Nat},Ag u->TB R u->∃G:Nat,0<G/\G<=2^GG u.length R/\∀{x w:Re} {D:Nat},In u w->w*w=x->DN D (co u x)->DN (D*G) (co u w)
 | [],R,_,_=>⟨1,AE,by simp[GG],fun {x w D} hw e h=>by
  obtain⟨p,rfl⟩:=Cy.1 hw;subst e;rw[<-Re.ofRat_mul,DH] at h;rw[DH];intro z hz;rw[List.mem_singleton.1 hz];obtain⟨n,F⟩:=h _ List.mem_cons_self
  obtain⟨m,hm⟩:=mU (r:=p*D) (n:=n*D) (by
   rw[Rat.intCast_mul,<-F];have:((D:Int):Rat)=(D:Rat):=rfl
   grind)
  exact⟨m,by rw[Nat.mul_one];exact hm⟩⟩
 | r::u,R,h,Q=>by
  obtain⟨G,hG,M,U⟩:=YU h.1 Q.tail;obtain⟨K,hK,H,hm⟩:=KY h.1 Q.tail;obtain⟨E,hE,Z,Y,_⟩:=Q.head;have hr:=Cz h;have a7:DN E (co u (AQ u r)):=by rw[E0 h];exact Y
  obtain⟨i,hi,W⟩:=EU h.1 (B0 h) (by have:=h.2.2.1;grind);obtain⟨I,hI,a2,a1,_⟩:=Ij h.1 Q.tail (B0 h) hi W (SI h Q);refine⟨2*(K*K*E)*G*G*I*K,Nat.mul_pos (Nat.mul_pos (Nat.mul_pos (Nat.mul_pos (Nat.mul_pos AE (Nat.mul_pos (Nat.mul_pos hK hK) hE)) hG) hG) hI) hK,?_,fun {x w D} hw e J=>?_⟩
  ·have h1:=Nat.mul_le_mul (Nat.mul_le_mul (Nat.mul_le_mul (Nat.mul_le_mul (Nat.mul_le_mul (Nat.le_refl (2^1)) (Nat.mul_le_mul (Nat.mul_le_mul H H) Z)) M) M) a2) H;simp only[<-Nat.pow_add] at h1;exact Nat.le_trans h1 (Cb (by rw[List.length_cons,GG];omega))
  obtain⟨c,d,j,v,rfl⟩:=Ci.1 hw
  have f:In u (2*c*d):=by
   have:=DZ (Ak h.1 j v) (Ak h.1 j v);rwa [show c*d+c*d=2*c*d by grind] at this
  have g:=B0 h;have ha:=DZ (Ak h.1 j j) (Ak h.1 (Ak h.1 v v) g);have ex:x=(c*c+d*d*AQ u r)+(2*c*d)*rt u r:=by rw[<-e];grind
  rw[ex,DE h ha f rfl,DN.app] at J
  generalize hA:c*c+d*d*AQ u r=a at*
  generalize hB:2*c*d=b at*
  have F:=FT (Ak h.1 j j) (Ak h.1 (Ak h.1 v v) g)
  generalize hN:c*c-d*d*AQ u r=n at*
  have O:=FT (Ak h.1 ha ha) (Ak h.1 (Ak h.1 f f) g);have a5:n*n=a*a-b*b*AQ u r:=by grind
  have d1:DN (D*D*(K*K*E)) (co u (a*a-b*b*AQ u r)):=
   DN.I7 h.1 (Ak h.1 ha ha) (Ak h.1 (Ak h.1 f f) g) ((hm ha ha J.1 J.1).dvd ⟨K*E,by grind⟩) ((hm (Ak h.1 f f) g (hm f f J.2 J.2) a7).dvd ⟨1,by grind⟩)
  generalize K*K*E=C at*
  have d2:DN (D*C*G) (co u n):=by
   have k1:DN 1 (co u (Re.ofRat ((D*C*(D*C):Nat):Rat)*(a*a-b*b*AQ u r))):=(La h.1 O).1 (d1.dvd ⟨C,by grind⟩);have k2:=U (x:=Re.ofRat ((D*C*(D*C):Nat):Rat)*(a*a-b*b*AQ u r)) (w:=Re.ofRat ((D*C:Nat):Rat)*n) (D:=1) (Nh F _) (by rw[Hb (D*C),Re.ofRat_mul,<-a5];grind) k1;exact ((La h.1 F).2 k2).dvd ⟨1,by grind⟩
  have L:DN (D*C*G) (co u a):=J.1.dvd ⟨C*G,by grind⟩;have d3:DN (D*C*G) (co u (a+n)):=DN.Fs h.1 ha F L d2;have d4:DN (D*C*G) (co u (a-n)):=DN.I7 h.1 ha F L d2
  have d5:DN (2*(D*C*G)*G) (co u c):=by
   have k1:DN 1 (co u (Re.ofRat ((2*(D*C*G)*(D*C*G):Nat):Rat)*(a+n))):=(La h.1 (DZ ha F)).1 (d3.dvd ⟨2*(D*C*G),by grind⟩);have k2:=U (x:=Re.ofRat ((2*(D*C*G)*(D*C*G):Nat):Rat)*(a+n)) (w:=Re.ofRat ((2*(D*C*G):Nat):Rat)*c) (D:=1) (Nh j _) (aS (by clear U hm k1;grind)) k1;exact ((La h.1 j).2 k2).dvd ⟨1,by grind⟩
  have d6:DN (D*C*G*I*K) (co u ((a-n)*i)):=hm (FT ha F) hi d4 a1
  have d7:DN (2*(D*C*G*I*K)*G) (co u d):=by
   have a6:=Ak h.1 (FT ha F) hi;have k1:DN 1 (co u (Re.ofRat ((2*(D*C*G*I*K)*(D*C*G*I*K):Nat):Rat)*((a-n)*i))):=(La h.1 a6).1 (d6.dvd ⟨2*(D*C*G*I*K),by grind⟩)
   have k2:=U (x:=Re.ofRat ((2*(D*C*G*I*K)*(D*C*G*I*K):Nat):Rat)*((a-n)*i)) (w:=Re.ofRat ((2*(D*C*G*I*K):Nat):Rat)*d) (D:=1) (Nh v _) (aS (by
    have e3:(a-n)*i=2*(d*d)*(AQ u r*i):=by clear U hm k1;grind
    rw[e3,W];grind)) k1
   exact ((La h.1 v).2 k2).dvd ⟨1,by grind⟩
  rw[DE h j v rfl,DN.app];exact⟨d5.dvd ⟨I*K,by grind⟩,d7.dvd ⟨1,by grind⟩⟩
theorem nK {p:Rat} (h:p*p<=((B*B:Nat):Rat)): -(B:Rat)<=p/\p<=B:=by
 rw[Hb] at h;have f:(0:Rat)<=B:=Rat.natCast_nonneg
 generalize (B:Rat)=b at*
 constructor
 ·apply Classical.byContradiction;intro c;have:=Rat.mul_pos (a:= -p-b) (b:= -p+b) (by grind) (by grind)
  grind
 apply Classical.byContradiction;intro c;have:=Rat.mul_pos (a:=p-b) (b:=p+b) (by grind) (by grind)
 grind
theorem MX.half {y:Re} (h:Ag u) (j:In u x) (g:In u y) (e:x=2*y) (k:MX (2*B) (co u x)):MX B (co u y):=by
 have c:x=Re.ofRat 2*y:=e;rw[c,Sd h g] at k;intro q f;have:=k _ (List.mem_map.2 ⟨q,f,rfl⟩);rw[Hb] at this;have e2:((2:Nat):Rat)=2:=rfl
 grind
theorem Z4:∀{u:AD} {R:Nat},Ag u->TB R u->∀{x w:Re} {B:Nat},In u w->w*w=x->MX (B*B) (co u x)->MX (B*2^GG u.length R) (co u w)
 | [],R,_,_,x,w,B,hw,e,h=>by
  obtain⟨p,rfl⟩:=Cy.1 hw;subst e;rw[<-Re.ofRat_mul,DH] at h;rw[DH];intro z hz;rw[List.mem_singleton.1 hz];have:=nK (h _ List.mem_cons_self).2;simpa [GG] using this
 | r::u,R,h,M,x,w,B,hw,e,F=>by
  have L:=fun {x w:Re} {B:Nat}=>Z4 (R:=R) (x:=x) (w:=w) (B:=B) h.1 M.tail
  have H:=fun {x y:Re} {B C:Nat}=>IH (R:=R) (x:=x) (y:=y) (B:=B) (C:=C) h.1 M.tail
  obtain⟨E,hE,a7,_,a1⟩:=M.head;have hr:=Cz h;have a6:MX (2^R) (co u (AQ u r)):=by rw[E0 h];exact a1
  obtain⟨i,hi,Q⟩:=EU h.1 (B0 h) (by have:=h.2.2.1;grind);obtain⟨I,hI,a8,_,U⟩:=Ij h.1 M.tail (B0 h) hi Q (SI h M);obtain⟨c,d,m,j,rfl⟩:=Ci.1 hw
  have g:In u (2*c*d):=by
   have:=DZ (Ak h.1 m j) (Ak h.1 m j);rwa [show c*d+c*d=2*c*d by grind] at this
  have f:=B0 h;have ha:=DZ (Ak h.1 m m) (Ak h.1 (Ak h.1 j j) f);have ex:x=(c*c+d*d*AQ u r)+(2*c*d)*rt u r:=by rw[<-e];grind
  rw[ex,DE h ha g rfl,MX.app] at F
  generalize hA:c*c+d*d*AQ u r=a at*
  generalize hB:2*c*d=b at*
  have O:=FT (Ak h.1 m m) (Ak h.1 (Ak h.1 j j) f)
  generalize hN:c*c-d*d*AQ u r=n at*
  have a2:n*n=a*a-b*b*AQ u r:=by clear L H;grind
  have m1:=MX.I7 h.1 (Ak h.1 ha ha) (Ak h.1 (Ak h.1 g g) f) (H ha ha F.1 F.1) (H (Ak h.1 g g) f (H g g F.2 F.2) a6);have p0:=DK (EE u.length R);have p1:=DK R;have p2:=DK (GG u.length R);have p3:=DK (II u.length R R)
  have eG:2^GG (r::u).length R=2^EE u.length R*2^EE u.length R*2^EE u.length R*2^R*2*(2^GG u.length R*2^GG u.length R)*2^II u.length R R:=by
   have e2:(2:Nat)=2^1:=rfl;conv=>rhs;rw[show ∀q:Nat,q*2=q*2^1 from fun q=>rfl]
   simp only[<-Nat.pow_add]
   congr 1
   rw[List.length_cons,GG];omega
  rw[eG]
  generalize 2^EE u.length R=K at*
  generalize 2^R=S at*
  generalize 2^GG u.length R=G at*
  generalize 2^II u.length R R=J at*
  have Z:1<=K*S:=Nat.mul_pos p0 p1;have v:1<=K*K*S:=Nat.mul_pos (Nat.mul_pos p0 p0) p1
  have a5:K+K*S*K<=2*(K*K*S)*(2*(K*K*S)):=by
   have t1:K*1<=K*(K*S):=Nat.mul_le_mul_left _ Z;have t2:(K*K*S)*1<=(K*K*S)*(K*K*S):=Nat.mul_le_mul_left _ v
   grind
  have m2:MX (B*B*(2*(K*K*S))*G) (co u n):=by
   refine L (x:=a*a-b*b*AQ u r) O a2 (m1.mono ?_);have:=Nat.mul_le_mul_left (B*B*(B*B)) a5
   grind
  have Y:1<=K*K*S*G:=Nat.mul_pos v p2
  have m3:MX (B*B*(2*(K*K*S)*G)) (co u (c*c)):=by
   refine MX.half h.1 (DZ ha O) (Ak h.1 m m) (by clear L H m1 m2;grind) ((MX.Fs h.1 ha O F.1 m2).mono ?_);have:=Nat.mul_le_mul_left (B*B) (show 1<=2*(K*K*S)*G by rw[Nat.mul_assoc];omega)
   grind
  have m4:MX (B*(2*(K*K*S)*G)*G) (co u c):=by
   refine L (x:=c*c) m rfl (m3.mono ?_);have t:2*(K*K*S)*G*1<=2*(K*K*S)*G*(2*(K*K*S)*G):=Nat.mul_le_mul_left _ (by rw[Nat.mul_assoc];omega);have:=Nat.mul_le_mul_left (B*B) t
   grind
  have m5:MX (B*B*(2*(K*K*S)*G)) (co u (d*d*AQ u r)):=by
   refine MX.half h.1 (FT ha O) (Ak h.1 (Ak h.1 j j) f) (by clear L H m1 m2 m3;grind) ((MX.I7 h.1 ha O F.1 m2).mono ?_);have:=Nat.mul_le_mul_left (B*B) (show 1<=2*(K*K*S)*G by rw[Nat.mul_assoc];omega)
   grind
  have m6:MX (B*B*(2*(K*K*S)*G)*J*K) (co u (d*d)):=by
   have:=H (Ak h.1 (Ak h.1 j j) f) hi m5 U;rwa [show d*d*AQ u r*i=d*d by rw[show d*d*AQ u r*i=d*d*(AQ u r*i) by grind,Q];grind] at this
  have m7:MX (B*(2*(K*K*S)*G*J*K)*G) (co u d):=by
   refine L (x:=d*d) j rfl (m6.mono ?_);have t0:1<=2*(K*K*S)*G*J*K:=Nat.mul_pos (Nat.mul_pos (by rw[Nat.mul_assoc];omega) p3) p0;have t:2*(K*K*S)*G*J*K*1<=2*(K*K*S)*G*J*K*(2*(K*K*S)*G*J*K):=Nat.mul_le_mul_left _ t0;have:=Nat.mul_le_mul_left (B*B) t
   grind
  rw[DE h m j rfl,MX.app];have W:1<=J*K:=Nat.mul_pos p3 p0;refine⟨m4.mono ?_,m7.mono ?_⟩
  ·have:=Nat.mul_le_mul_left (B*(2*(K*K*S)*G)*G) W
   grind
  grind
theorem SJ {R s:Nat} {w:Re} (h:Ag u) (f:TB R u) (hw:In u w) (e:w*w=x) (H:Bd s (co u x)):Bd (s+GG u.length R) (co u w):=by
 obtain⟨D,g,j,m,h3⟩:=H;obtain⟨G,v,c,F⟩:=YU h f;refine⟨D*G,Nat.mul_pos g v,?_,F hw e m,?_⟩
 ·have:=Nat.mul_le_mul j c;rwa [<-Nat.pow_add] at this
 have:=Z4 h f hw e (B:=2^s) (h3.mono (by rw[<-Nat.pow_add];exact Cb));rwa [<-Nat.pow_add] at this
end
section
structure BB (x:Int) (b:Bool) (l:List UInt32):Prop where
 neg:b=decide (x<0)
 Bb:l=AT x.natAbs
variable {i n xi:Nat} {l o:List UInt32} {w:UInt32} {y:Int}
theorem Av (x:Int):∃b l,BB x b l:=⟨_,_,rfl,rfl⟩
theorem BB.nat {x:Int} {b:Bool} (h:BB x b l):AF l=x.natAbs:=by rw[h.Bb,BU]
theorem BB.Ep {x:Int} {b:Bool} (h:BB x b l):x=if b=true then -(AF l:Int) else AF l:=by
 rw[h.nat,h.neg];by_cases c:x<0 <;> simp[c] <;> omega
theorem BB.uniq {x:Int} {b b':Bool} {l':List UInt32} (h:BB x b l) (h':BB y b' l') (e:x=y):b=b'/\l=l':=by
 subst e;exact⟨h.neg.trans h'.neg.symm,h.Bb.trans h'.Bb.symm⟩
theorem BB.trim {x:Int} {b:Bool} (h:BB x b l):AT (AF l)=l:=by rw[h.nat,<-h.Bb]
theorem BB.val {x:Int} {b:Bool} (f:AT n=l) (c:x=if b=true then -(n:Int) else n) (h3:n=0->b=false):BB x b l:=by
 constructor
 ·rw[c];cases b
  ·simp
  have:n≠0:=fun e=>absurd (h3 e) Ai
  simp;omega
 rw[<-f,c];congr 1;split <;> omega
theorem BB.nil {x:Int} {b:Bool} (h:BB x b l):l=[]↔x=0:=by
 rw[h.Bb,E3];omega
theorem BB.F1 {x:Int} {b:Bool} (h:BB x b l):l.length=0↔x=0:=by
 rw[List.length_eq_zero_iff,h.nil]
def Cd (x:Int):Int:=if x<0 then -1 else if x=0 then 0 else 1
def Bp (a b:Int):Int:=if a<b then -1 else if b<a then 1 else 0
theorem UI {x:UInt32} (h:l[i]? =some x):AF (l.set i w)+2^(32*i)*x.toNat=AF l+2^(32*i)*w.toNat:=by
 induction l generalizing i with
 | nil=>simp at h
 | cons y l c=>
  cases i with
  | zero=>simp at h;subst h;simp[AF];omega
  | succ i=>
   have:=c (i:=i) (by simpa using h);rw[List.set_cons_succ,AF,AF,EX]
   generalize 2^(32*i)=P at*
   grind
theorem IQ (h:n<=i:=by omega):(l.set i w).take n=l.take n:=by
 rw[List.take_set];rw[List.set_eq_of_length_le];rw[List.length_take];omega
theorem FZ (h:i<l.length):(l.set i w).take (i+1)=l.take i++[w]:=by
 rw[List.take_succ_eq_append_getElem (by simpa using h),IQ (Nat.le_refl _)];simp
theorem L5 {A B GQ GR yi:Nat} (c:i<o.length) (h:AF (o.take i)+B=A+2^(32*i)*GQ) (f:w.toNat+yi+GQ=xi+4294967296*GR):
  AF ((o.set i w).take (i+1))+(B+2^(32*i)*yi)=(A+2^(32*i)*xi)+2^(32*(i+1))*GR:=by
 rw[FZ c,Ei,EX,List.length_take,Nat.min_eq_left AA]
 generalize 2^(32*i)=P at*
 have e:P*(w.toNat+yi+GQ)=P*(xi+4294967296*GR):=by rw[f]
 grind
theorem VT {N T c g yk old j:Nat} {q:UInt32} {Y:Nat} {k:Nat} (m:j=i+k) (v:j<n) (F:o[j]? =some q) (H:q.toNat=old) (h:AF (o.take n)+2^(32*j)*c=T+xi*2^(32*i)*Y)
  (I:w.toNat+4294967296*g=c+xi*yk+old) (_:N=n):
  AF ((o.set j w).take n)+2^(32*(j+1))*g=T+xi*2^(32*i)*(Y+2^(32*k)*yk):=by
 have ht:(o.take n)[j]? =some q:=by rw[List.getElem?_take_of_lt v,F]
 have f:=UI (w:=w) ht;rw[List.take_set,EX];have G:2^(32*j)=2^(32*i)*2^(32*k):=by rw[m,Nat.mul_add,Nat.pow_add]
 generalize J:2^(32*j)=P at*
 have e:P*(w.toNat+4294967296*g)=P*(c+xi*yk+old):=by rw[I]
 rw[H] at f;have e2:xi*2^(32*i)*(2^(32*k)*yk)=P*(xi*yk):=by rw[G];grind
 rw[Nat.mul_add,e2]
 grind
theorem Z2 {x:Int} {a b:Bool} (ha:a=decide (x<0)) (hb:b=decide (y<0)):x*y=if (a !=b)=true then -((x.natAbs*y.natAbs:Nat):Int) else ((x.natAbs*y.natAbs:Nat):Int):=by
 rw[Int.natCast_mul]
 by_cases c:x<0 <;> by_cases f:y<0 <;> simp[ha,hb,c,f]
 ·rw[(AA:((x.natAbs:Nat):Int)= -x),(AA:((y.natAbs:Nat):Int)= -y)];grind
 ·rw[(AA:((x.natAbs:Nat):Int)= -x),(AA:((y.natAbs:Nat):Int)=y)];grind
 ·rw[(AA:((x.natAbs:Nat):Int)=x),(AA:((y.natAbs:Nat):Int)= -y)];grind
 rw[(AA:((x.natAbs:Nat):Int)=x),(AA:((y.natAbs:Nat):Int)=y)]
theorem KU (a b:Int):(a<b/\Bp a b= -1)\/(a=b/\Bp a b=0)\/(b<a/\Bp a b=1):=by
 unfold Bp
 split
 ·exact .inl ⟨by assumption,rfl⟩
 split
 ·exact .inr (.inr ⟨by assumption,rfl⟩)
 exact .inr (.inl ⟨AA,rfl⟩)
theorem GL (x:Int):(x<0/\Cd x= -1)\/(x=0/\Cd x=0)\/(0<x/\Cd x=1):=by
 unfold Cd
 split
 ·exact .inl ⟨by assumption,rfl⟩
 split
 ·exact .inr (.inl ⟨by assumption,rfl⟩)
 exact .inr (.inr ⟨AA,rfl⟩)
theorem qX (x a b:Int): -9223372036854775808<=Cd x*Bp a b/\Cd x*Bp a b<9223372036854775808:=by
 rcases GL x with⟨_,h⟩ |⟨_,h⟩ |⟨_,h⟩ <;> rcases KU a b with⟨_,k⟩ |⟨_,k⟩ |⟨_,k⟩ <;> rw[h,k] <;> decide
theorem kB {x:Int} (h:Cd x=Cd y):Bp x y=Cd x*Bp x.natAbs y.natAbs:=by
 rcases GL x with⟨f,c⟩ |⟨f,c⟩ |⟨f,c⟩ <;> rcases GL y with⟨k1,k2⟩ |⟨k1,k2⟩ |⟨k1,k2⟩ <;>
  rcases KU x y with⟨p,q⟩ |⟨p,q⟩ |⟨p,q⟩ <;> rcases KU x.natAbs y.natAbs with⟨u,v⟩ |⟨u,v⟩ |⟨u,v⟩ <;> rw[c,q,v] <;> rw[c,k2] at h <;> omega
theorem kA {x:Int} (h:Cd x≠Cd y):Bp x y=Bp (Cd x) (Cd y):=by
 rcases GL x with⟨f,c⟩ |⟨f,c⟩ |⟨f,c⟩ <;> rcases GL y with⟨k1,k2⟩ |⟨k1,k2⟩ |⟨k1,k2⟩ <;>
  rcases KU x y with⟨p,q⟩ |⟨p,q⟩ |⟨p,q⟩ <;> rw[c,k2] at h ⊢ <;> rw[q] <;> first | rfl | omega
theorem dK {x:Int} {b:Bool} (h:x=if b=true then -(n:Int) else n): -x=if (!b)=true then -(n:Int) else n:=by
 cases b <;> simp_all
theorem Qy {x:Int} {b:Bool} (h:x=if b=true then -(n:Int) else n) (g:n≠0):Cd x=if b=true then -1 else 1:=by
 rcases GL x with⟨f,c⟩ |⟨f,c⟩ |⟨f,c⟩ <;> rw[c] <;> cases b <;> simp at h ⊢ <;> omega
theorem add_same {x:Int} {b:Bool} (c:b=decide (x<0)) (f:b=decide (y<0)):x+y=if b=true then -((x.natAbs+y.natAbs:Nat):Int) else ((x.natAbs+y.natAbs:Nat):Int):=by
 cases b <;> simp at c f ⊢ <;> omega
theorem Ox {x:Int} {a b:Bool} (f:a=decide (x<0)) (g:b=decide (y<0)) (c:a≠b) (h:x.natAbs<=y.natAbs):x+y=if b=true then -((y.natAbs-x.natAbs:Nat):Int) else ((y.natAbs-x.natAbs:Nat):Int):=by
 cases a <;> cases b <;> simp at f g c ⊢ <;> omega
theorem JQ {a b:Int} (h:Bp a b<0):a<b:=by rcases KU a b with⟨_,k⟩ |⟨_,k⟩ |⟨_,k⟩ <;> omega
theorem JP {a b:Int} (h:0<=Bp a b):b<=a:=by rcases KU a b with⟨_,k⟩ |⟨_,k⟩ |⟨_,k⟩ <;> omega
def F7 (b:Bool) (l:List UInt32):Bool:=match l.getLast? with
 | none=> !b
 | some x=>x !=0
theorem J9 {b:Bool}:F7 b l=true↔∃x,BB x b l:=by
 unfold F7;cases h:l.getLast? with
 | none=>
  have:l=[]:=List.getLast?_eq_none_iff.1 h;subst this
  constructor
  ·intro hb;exact⟨0,by simpa using hb,rfl⟩
  rintro⟨x,c⟩
  have:=(c.nil).1 rfl;rw[c.neg,this];rfl
 | some w=>
  obtain⟨m,rfl⟩:=List.getLast?_eq_some_iff.1 h
  constructor
  ·intro hw;have hw:w≠0:=by simpa using hw
   have f:=SR (o:=m) (w:=w) fun e=>hw (UInt32.toNat_inj.1 e)
   have j:AF (m++[w])≠0:=fun e=>by
    rw[e,Gb] at f;simp at f
   exact⟨if b=true then -(AF (m++[w]):Int) else AF (m++[w]),.val f rfl fun e=>absurd e j⟩
  rintro⟨x,c⟩
  simp only[bne_iff_ne,ne_eq];rintro rfl;have g:=c.trim;rw[<-Ma,J8] at g;have:=RD m;rw[g] at this;simp at this;omega
end
section
variable {A B xi yi:Nat} {l o:List UInt32} {w:UInt32}
theorem Kq {N k:Nat} (h:N<2^(32*k)):∃z:List UInt32,z.length=k/\AF z=N:=by
 refine⟨AT N++List.replicate (k-(AT N).length) 0,?_,?_⟩
 ·have:=GF h;simp;omega
 rw[QT,Iv,BU];simp
theorem RE (N i:Nat):N%2^(32*(i+1))=N%2^(32*i)+2^(32*i)*(N/2^(32*i)%4294967296):=by
 rw[EX,Nat.mul_comm 4294967296,Nat.mod_mul]
theorem dP {x y r n:Nat} (j:x<4294967296) (F:n<=31):(x+4294967296*(y+4294967296*r))/2^n%4294967296=x/2^n+y*2^(32-n)%4294967296:=by
 obtain⟨d,h⟩:∃d,32-n=d:=⟨_,rfl⟩
 have e:(4294967296:Nat)=2^n*2^d:=by rw[<-Nat.pow_add,(AA:n+d=32)]
 have c:0<2^n:=Nat.two_pow_pos n;have G:0<2^d:=Nat.two_pow_pos d;rw[h];have e1:x+4294967296*(y+4294967296*r)=x+2^n*(2^d*(y+4294967296*r)):=by rw[<-Nat.mul_assoc,<-e]
 rw[e1,Nat.add_mul_div_left _ _ c];have m:x/2^n<2^d:=Nat.div_lt_of_lt_mul (by rw[<-e];exact j);have e2:x/2^n+2^d*(y+4294967296*r)=(x/2^n+y*2^d)+4294967296*(2^d*r):=by rw[Nat.mul_add];grind
 rw[e2,Nat.add_mul_mod_self_left];have f:y*2^d%4294967296=2^d*(y%2^n):=by rw[e,Nat.mul_comm (2^n),Nat.mul_comm y,Nat.mul_mod_mul_left]
 rw[Nat.add_mod,f]
 have v:2^d*(y%2^n)+2^d<=4294967296:=by
  have:y%2^n+1<=2^n:=Nat.mod_lt _ c;have:=Nat.mul_le_mul_left (2^d) this;rw[e,Nat.mul_comm (2^n)];rw[Nat.mul_add] at this;omega
 have g:x/2^n%4294967296=x/2^n:=Nat.mod_eq_of_lt AA;rw[g,Nat.mod_eq_of_lt AA]
theorem MG {a b d:Nat} (h:a<2^d):a ||| (2^d*b)=a+2^d*b:=by
 rw[Nat.or_comm,<-Nat.two_pow_add_eq_or_of_lt h,Nat.add_comm]
theorem EC {i:Nat} {x:UInt32} (h:l[i]? =some x):AF (l.drop i)=x.toNat+4294967296*AF (l.drop (i+1)):=by
 have c:i<l.length:=by
  apply Classical.byContradiction;intro f;rw[List.getElem?_eq_none AA] at h;exact absurd h Ai
 rw[List.drop_eq_getElem_cons c,AF];rw[List.getElem?_eq_getElem c] at h;rw[Option.some.inj h]
theorem Pc {i:Nat} (h:i<=l.length):AF l/2^(32*i)=AF (l.drop i):=by
 rw[Gf l i h,Nat.add_mul_div_left _ _ (Nat.two_pow_pos _)];have:=C0 (l.take i);rw[List.length_take,Nat.min_eq_left h] at this;rw[Nat.div_eq_of_lt this,Nat.zero_add]
theorem Pf {i off:Nat}:(l.set (off+i) w).drop off=(l.drop off).set i w:=by
 rw[List.drop_set,if_neg AA]
 congr 1
 omega
theorem rL {D GQ GR i:Nat} (c:i<o.length) (h:AF (o.take i)+B*D=A+2^(32*i)*GQ) (f:w.toNat+yi*D+GQ=xi+4294967296*GR):
  AF ((o.set i w).take (i+1))+(B+2^(32*i)*yi)*D=(A+2^(32*i)*xi)+2^(32*(i+1))*GR:=by
 rw[FZ c,Ei,EX,List.length_take,Nat.min_eq_left AA]
 generalize 2^(32*i)=P at*
 have e:P*(w.toNat+yi*D+GQ)=P*(xi+4294967296*GR):=by rw[f]
 grind
theorem jT {PJ PK i:Nat} (c:i<o.length) (h:AF (o.take i)+2^(32*i)*PJ=A+B) (f:w.toNat+4294967296*PK=xi+yi+PJ):
  AF ((o.set i w).take (i+1))+2^(32*(i+1))*PK=(A+2^(32*i)*xi)+(B+2^(32*i)*yi):=by
 rw[FZ c,Ei,EX,List.length_take,Nat.min_eq_left AA]
 generalize 2^(32*i)=P at*
 have e:P*(w.toNat+4294967296*PK)=P*(xi+yi+PJ):=by rw[f]
 grind
end
section
variable {D P R R0 R2 S V V0 V2 high next r top u3:Nat}
theorem cl {u:List UInt32} {off len:Nat} (f:S<2^(32*len)) (h:off+len<=u.length):
  ∃z:List UInt32,z.length=u.length/\z.take off=u.take off/\z.drop (off+len)=u.drop (off+len)/\AF ((z.drop off).take len)=S:=by
 obtain⟨y,j,c⟩:=Kq f;have g:(u.take off).length=off:=by rw[List.length_take];omega
 refine⟨u.take off++(y++u.drop (off+len)),?_,?_,?_,?_⟩
 ·simp;omega
 ·rw[List.take_append_of_le_length AA,List.take_of_length_le AA]
 ·rw[<-List.drop_drop,List.drop_append_of_le_length AA,List.drop_eq_nil_of_le (by omega:(u.take off).length<=off),List.nil_append,List.drop_append_of_le_length AA,List.drop_eq_nil_of_le (by omega:y.length<=len),List.nil_append]
 rw[List.drop_append_of_le_length AA,List.drop_eq_nil_of_le (by omega:(u.take off).length<=off),List.nil_append,List.take_append_of_le_length AA,List.take_of_length_le AA,c]
theorem YJ (hR:R=R2*P+R0) (c:R0<P) (hV:V=V2*P+V0) (h:R2<D*V2):R/V<D:=by
 have m:0<P:=AA
 have f:0<V2:=by
  apply Nat.pos_of_ne_zero;intro e;subst e;simp at h
 apply Nat.div_lt_of_lt_mul;have g:(R2+1)*P<=D*V2*P:=Nat.mul_le_mul_right _ h;have j:V*D=D*V2*P+V0*D:=by rw[hV];grind
 have h3:(R2+1)*P=R2*P+P:=by grind
 omega
theorem YK (hR:R=R2*P+R0) (hV:V=V2*P+V0) (g:V0<P) (h:D*V2<=R2) (G:D<=V2+1):D<=R/V+1:=by
 cases D with
 | zero=>exact Nat.zero_le _
 | succ D=>
  have c:0<V\/V=0:=AA
  rcases c with c | c
  ·have:D<=R/V:=by
    rw[Nat.le_div_iff_mul_le c];have j:(D+1)*V2*P<=R2*P:=Nat.mul_le_mul_right _ h;have m:D*V=D*V2*P+D*V0:=by rw[hV];grind
    have h3:(D+1)*V2*P=D*V2*P+V2*P:=by grind
    have v:D*V0<=D*P:=Nat.mul_le_mul_left _ AA;have F:D*P<=V2*P:=Nat.mul_le_mul_right _ AA;omega
   exact Nat.succ_le_succ this
  have f:V2*P=0:=AA
  have H:0<P:=AA
  have:V2=0:=by
   rcases Nat.mul_eq_zero.1 f with e | e
   ·exact e
   omega
  exact Nat.le_trans (by omega:D+1<=1) (Nat.le_add_left _ _)
structure JC (R V top high D r:Nat):Prop where
 sum:r+D*high=top
 up:R/V<=D
 QN:D<=4294967297
 rest:r<4294967296
theorem ly (hR:R=top*P+R0) (c:R0<P) (hV:V=high*P+V0) (m:2147483648<=high) (h:high<4294967296) (ht:top<4294967296*(high+1)):JC R V top high (top/high) (top%high):=by
 have hm:=Nat.div_add_mod top high;have j:=Nat.mod_lt top (by omega:0<high);refine⟨by rw[Nat.mul_comm] at hm;omega,?_,?_,AA⟩
 ·have f:top<(top/high+1)*high:=by rw[Nat.add_mul,Nat.mul_comm];omega
  exact Nat.le_of_lt_succ (YJ hR c hV f)
 have g:top<4294967298*high:=AA
 have h3:top/high<4294967298:=(Nat.div_lt_iff_lt_mul AA).2 g;exact Nat.le_of_lt_succ h3
theorem Y8 (g:JC R V top high D r) (c:R/V<4294967296) (h:4294967296<=D:=by omega):R/V<=D-1:=by
 have:=g.up;exact Nat.le_sub_one_of_lt (Nat.lt_of_lt_of_le c h)
theorem Y9 (g:JC R V top high D r) (hR:R=(4294967296*top+u3)*P+R0) (c:R0<P) (hV:V=(4294967296*high+next)*P+V0) (h:4294967296*r+u3<D*next):R/V<=D-1:=by
 have f:4294967296*top+u3<D*(4294967296*high+next):=by
  have e:=g.sum
  clear g hR hV
  rw[<-e];have e1:D*(4294967296*high+next)=4294967296*(D*high)+D*next:=by grind
  have e2:4294967296*(r+D*high)=4294967296*r+4294967296*(D*high):=by grind
  rw[e1,e2]
  generalize D*high=Q at*
  generalize D*next=T at*
  omega
 exact Nat.le_sub_one_of_lt (YJ hR c hV f)
theorem ZA (g:JC R V top high D r) (c:R/V<=D-1) (h:0<D) (f:r+high<4294967296):JC R V top high (D-1) (r+high):=by
 refine⟨?_,c,by have:=g.QN;omega,f⟩;have:=g.sum;obtain⟨D,rfl⟩:∃k,D=k+1:=⟨D-1,AA⟩
 simp only[Nat.add_sub_cancel];rw[Nat.add_mul] at this;omega
structure Mv (R V D:Nat):Prop where
 up:R/V<=D
 low:D<=R/V+1
 word:D<4294967296
theorem UK (g:JC R V top high D r) (hR:R=(4294967296*top+u3)*P+R0) (hV:V=(4294967296*high+next)*P+V0) (c:V0<P) (j:2147483648<=high)
  (f:D<4294967296) (h:D*next<=4294967296*r+u3:=by omega):Mv R V D:=by
 refine⟨g.up,YK hR hV c ?_ AA,f⟩;have e:=g.sum;rw[<-e];have:D*(4294967296*high+next)=4294967296*(D*high)+D*next:=by grind
 have:4294967296*(r+D*high)=4294967296*r+4294967296*(D*high):=by grind
 omega
theorem UJ (g:JC R V top high D r) (h:R/V<=D-1) (H:0<D) (hR:R=(4294967296*top+u3)*P+R0) (hV:V=(4294967296*high+next)*P+V0) (f:V0<P) (J:2147483648<=high) (K:next<4294967296)
  (ht:top<4294967296*(high+1)) (j:4294967296<=r+high:=by omega):Mv R V (D-1):=by
 obtain⟨D,rfl⟩:∃k,D=k+1:=⟨D-1,AA⟩
 simp only[Nat.add_sub_cancel] at h ⊢;have e:=g.sum;have hm:=g.QN;have m:(r+high)+D*high=top:=by rw[Nat.add_mul] at e;omega
 have c:D<4294967296:=by
  apply Classical.byContradiction;intro I;have:4294967296*high<=D*high:=Nat.mul_le_mul_right _ AA;omega
 refine⟨h,YK hR hV f ?_ AA,c⟩;rw[<-m];have v:D*(4294967296*high+next)=4294967296*(D*high)+D*next:=by grind
 have F:4294967296*(r+high+D*high)=4294967296*(r+high)+4294967296*(D*high):=by grind
 have h3:D*next<=4294967296*4294967296:=Nat.mul_le_mul AA AA;have G:4294967296*4294967296<=4294967296*(r+high):=Nat.mul_le_mul_left _ j;omega
theorem Z8 {M:Nat} {b:Bool} (j:Mv R V D) (hV:0<V) (h:S+V*D=R+M*b.toNat) (F:S<M):
  (b=false->D=R/V/\S=R%V)/\(b=true->D-1=R/V/\0<D/\(R%V<M->(S+V)%M=R%V)):=by
 have G:=Nat.div_add_mod R V;have H:=Nat.mod_lt R hV;obtain⟨m,v,_⟩:=j
 generalize R/V=Q at*
 generalize R%V=T at*
 constructor
 ·rintro rfl;simp at h
  have c:D=Q:=by
   apply Classical.byContradiction;intro g;have:D=Q+1:=AA
   rw[this,Nat.mul_add] at h;omega
  exact⟨c,by rw[c] at h;omega⟩
 rintro rfl;simp at h
 have c:D=Q+1:=by
  apply Classical.byContradiction;intro g;have:D=Q:=AA
  rw[this] at h;omega
 refine⟨AA,AA,fun f=>?_⟩;rw[c,Nat.mul_add] at h;have:S+V=T+M*1:=AA
 rw[this,Nat.add_mul_mod_self_left,Nat.mod_eq_of_lt f]
end
section
variable {A R V b i n q s:Nat} {u:List UInt32} {w x y:UInt32}
theorem rM {D M:Nat} (g:Mv R V D) (hV:0<V) (hR:R<M) (f:V<=M):∃(b:Bool) (S:Nat),S+V*D=R+M*b.toNat/\S<M:=by
 have j:=Nat.div_add_mod R V;have c:V*D<=V*(R/V+1):=Nat.mul_le_mul_left _ g.low;rw[Nat.mul_add] at c
 by_cases h:V*D<=R
 ·exact⟨false,R-V*D,by simp;omega,AA⟩
 refine⟨true,R+M-V*D,?_,AA⟩;simp
 generalize V*(R/V)=T at*
 omega
theorem rZ (c:u[i+n]? =some x) (j:u[i+n-1]? =some y) (hw:u[i+n-2]? =some w) (v:2<=n) (g:AF (u.drop (i+n+1))=0):
  AF (u.drop i)=(4294967296*(y.toNat+4294967296*x.toNat)+w.toNat)*2^(32*(n-2))+AF ((u.drop i).take (n-2)):=by
 have h:i+n<u.length:=by
  apply Classical.byContradiction;intro m;rw[List.getElem?_eq_none AA] at c;exact absurd c Ai
 have f:=Gf (u.drop i) (n-2) (by rw[List.length_drop];omega);rw[List.drop_drop,(AA:i+(n-2)=i+n-2),EC hw,(AA:i+n-2+1=i+n-1),EC j,(AA:i+n-1+1=i+n),EC c,g] at f;rw[f]
 generalize 2^(32*(n-2))=P
 grind
theorem rY {v:List UInt32} (hlen:v.length=n) (g:v[n-1]? =some y) (hw:v[n-2]? =some w) (h:2<=n):
  AF v=(4294967296*y.toNat+w.toNat)*2^(32*(n-2))+AF (v.take (n-2))/\AF v=y.toNat*2^(32*(n-1))+AF (v.take (n-1)):=by
 have c:=Gf v (n-2) AA;rw[EC hw,(AA:n-2+1=n-1),EC g,(AA:n-1+1=n),List.drop_eq_nil_of_le AA] at c;have f:=Gf v (n-1) AA;rw[EC g,(AA:n-1+1=n),List.drop_eq_nil_of_le AA] at f
 constructor
 ·rw[c];simp only[AF];generalize 2^(32*(n-2))=P;grind
 rw[f];simp only[AF];generalize 2^(32*(n-1))=P;grind
theorem MZ {l:List UInt32}:AF (l.take n)<2^(32*n):=
 Nat.lt_of_lt_of_le (C0 _) (Nat.pow_le_pow_right AE (by rw[List.length_take];omega))
theorem TL {l:List UInt32} (h:AF l<2^(32*n)) (c:n<=l.length):AF (l.drop n)=0:=by
 have f:=Gf l n c;apply Classical.byContradiction;intro g;have:2^(32*n)*1<=2^(32*n)*AF (l.drop n):=Nat.mul_le_mul_left _ AA;omega
theorem bw {z:List UInt32} {Q:Nat} (H:z.length=u.length) (c:z.take i=u.take i) (f:z.drop (i+(n+1))=u.drop (i+(n+1))) (hlen:i+(n+1)<=u.length) (j:AF (u.drop (i+n+1))=0)
  (G:q=AF (u.drop i)/V) (F:AF ((z.drop i).take (n+1))=AF (u.drop i)%V) (v:A=AF u+2^(32*(i+1))*Q*V):
  AF (z.drop i)=AF (u.drop i)%V/\A=AF z+2^(32*i)*(q+4294967296*Q)*V:=by
 have g:AF (z.drop i)=AF (u.drop i)%V:=by
  have:=Gf (z.drop i) (n+1) (by rw[List.length_drop];omega);rw[List.drop_drop,f,(AA:i+(n+1)=i+n+1),j,F] at this;simpa using this
 refine⟨g,?_⟩;have m:=Gf u i AA;have h3:=Gf z i AA;rw[c,g] at h3;have h:=Nat.div_add_mod (AF (u.drop i)) V;rw[<-G] at h;rw[v,m,h3,EX,<-h]
 generalize 2^(32*i)=P
 grind
theorem cm (h:i+n<=u.length) (c:AF (u.drop (i+n))=0):AF ((u.drop i).take n)=AF (u.drop i):=by
 have:=Gf (u.drop i) n (by rw[List.length_drop];omega);rw[List.drop_drop,c] at this;simpa using this.symm
theorem NM (j:(AT b)[i]? =some x) (c:i+1=(AT b).length):x.toNat≠0:=by
 intro f;have hb:b≠0:=fun e=>by subst e;simp[Gb] at c
 have g:=Zm hb;have h:=Cu j;rw[c,List.take_length,BU,f] at h;have h3:=C0 ((AT b).take i);rw[List.length_take,Nat.min_eq_left AA] at h3;rw[<-c,Nat.add_sub_cancel] at g;omega
theorem dO {k:Nat} (c:(AT b).length=n) (g:1<=n) (G:(AT b)[n-1]? =some x) (f:2^(k-1)<=x.toNat) (h:x.toNat<2^k) (M:1<=k) (v:k<=32) (O:s=32-k):
  (AT (b*2^s)).length=n/\2147483648*2^(32*(n-1))<=b*2^s:=by
 have e1:2^(k-1)*2^s=2147483648:=by rw[<-Nat.pow_add,(AA:k-1+s=31)]
 have e2:2^k*2^s=4294967296:=by rw[<-Nat.pow_add,(AA:k+s=32)]
 have h3:=Cu G;rw[(AA:n-1+1=n),<-c,List.take_length,BU,c] at h3;have j:=C0 ((AT b).take (n-1));rw[List.length_take,Nat.min_eq_left AA] at j;have F:2^(32*n)=4294967296*2^(32*(n-1)):=by rw[<-EX,(AA:n-1+1=n)]
 generalize m:2^(32*(n-1))=P at*
 have low:2147483648*P<=b*2^s:=by
  rw[<-e1,h3];have:2^(k-1)*2^s*P<=x.toNat*2^s*P:=Nat.mul_le_mul_right _ (Nat.mul_le_mul_right _ f);have:(AF (List.take (n-1) (AT b))+P*x.toNat)*2^s=AF (List.take (n-1) (AT b))*2^s+x.toNat*2^s*P:=by grind
  omega
 refine⟨?_,low⟩
 have up:b*2^s<2^(32*n):=by
  rw[F,<-e2];have H:b<(x.toNat+1)*P:=by rw[h3,Nat.add_mul,Nat.mul_comm P];omega
  have I:(x.toNat+1)*P<=2^k*P:=Nat.mul_le_mul_right _ h;have J:b*2^s<2^k*P*2^s:=(Nat.mul_lt_mul_right (Nat.two_pow_pos s)).2 AA;have:2^k*2^s*P=2^k*P*2^s:=by grind
  omega
 have K:=GF up;have L:=Zg (n:=b*2^s) (k:=n-1) (by rw[m];omega);omega
theorem Qz (l:List UInt32) (h:s<=31:=by omega):AF l*2^s<2^(32*(l.length+1)):=by
 rw[EX,Nat.mul_comm 4294967296];exact Nat.mul_lt_mul_of_lt_of_le (C0 l) (Nat.le_trans (Nat.pow_le_pow_right AE h:2^s<=2^31) AE) AE
theorem mB {c rest:Nat} (h:2147483648*2^(32*(n-1))<=V) (hV:V=c*2^(32*(n-1))+rest) (g:rest<2^(32*(n-1))):2147483648<=c:=by
 generalize 2^(32*(n-1))=P at*
 apply Classical.byContradiction;intro f;have:(c+1)*P<=2147483648*P:=Nat.mul_le_mul_right _ AA;rw[Nat.add_mul] at this;omega
theorem eA {l:List UInt32} {m:Nat} (hu:AF u=AF l*2^s) (j:s<=31) (hlen:u.length=l.length+1) (hm:m+n=l.length+1) (H:1<=n) (hV:2147483648*2^(32*(n-1))<=V):AF (u.drop m)<V:=by
 have c:=Gf u m AA;have f:=C0 l;have h3:2^(32*l.length)=2^(32*m)*2^(32*(n-1)):=by rw[<-Nat.pow_add,(AA:32*m+32*(n-1)=32*l.length)]
 have g:2^s<=2147483648:=Nat.le_trans (Nat.pow_le_pow_right AE j:2^s<=2^31) AE;have h:AF l*2^s<2^(32*l.length)*2147483648:=Nat.mul_lt_mul_of_lt_of_le f g AE;rw[hu,] at c;rw[h3] at h;have I:=Nat.two_pow_pos (32*m)
 generalize 2^(32*m)=P at*
 generalize 2^(32*(n-1))=N at*
 apply Classical.byContradiction;intro G;have v:P*(2147483648*N)<=P*AF (u.drop m):=Nat.mul_le_mul_left _ AA;have F:P*N*2147483648=P*(2147483648*N):=by grind
 omega
theorem rh (c:u[i+n]? =some x) (j:u[i+n-1]? =some y) (v:1<=n) (g:AF (u.drop (i+n+1))=0):
  AF (u.drop i)=(y.toNat+4294967296*x.toNat)*2^(32*(n-1))+AF ((u.drop i).take (n-1)):=by
 have h:i+n<u.length:=by
  apply Classical.byContradiction;intro m;rw[List.getElem?_eq_none AA] at c;exact absurd c Ai
 have f:=Gf (u.drop i) (n-1) (by rw[List.length_drop];omega);rw[List.drop_drop,(AA:i+(n-1)=i+n-1),EC j,(AA:i+n-1+1=i+n),EC c,g] at f;rw[f]
 generalize 2^(32*(n-1))=P
 grind
theorem rX {top high P f c:Nat} (hR:R=top*P+f) (hV:V=high*P+c) (g:c<P) (h:R<4294967296*V):top<4294967296*(high+1):=by
 apply Classical.byContradiction;intro v;have j:4294967296*(high+1)*P<=top*P:=Nat.mul_le_mul_right _ AA;have m:4294967296*(high+1)*P=4294967296*(high*P)+4294967296*P:=by grind
 omega
theorem YS {a r:Nat} (g:A=a*2^s) (hV:V=b*2^s) (h:A=r+q*V) (I:r<V) (hb:0<b):q=a/b/\r/2^s=a%b:=by
 have j:=Nat.two_pow_pos s;have G:=Nat.div_add_mod a b;have H:=Nat.mod_lt a hb
 have e:a*2^s=(a%b)*2^s+(a/b)*V:=by rw[hV];conv=>lhs;rw[<-G]
                                    grind
 have f:(a%b)*2^s<V:=by rw[hV];exact (Nat.mul_lt_mul_right j).2 H
 have c:0<V:=AA
 have m:q=a/b:=by
  have v:A/V=q:=by rw[h,Nat.add_mul_div_right _ _ c,Nat.div_eq_of_lt I,Nat.zero_add]
  have F:A/V=a/b:=by rw[g,e,Nat.add_mul_div_right _ _ c,Nat.div_eq_of_lt f,Nat.zero_add]
  rw[<-v,F]
 refine⟨m,?_⟩;have:r=(a%b)*2^s:=by rw[g,e,m] at h;omega
 rw[this,Nat.mul_div_cancel _ j]
end
section
def Cp (x y:Int):Int:=if 0<=y then x/y else (-x)/(-y)
variable {N X:Nat} {b:Bool} {x y:Int}
theorem LZ {a b q r:Int} (hb:0<b) (h:a=b*q+r) (c:0<=r) (f:r<b):a/b=q:=((Int.ediv_emod_unique hb).2 ⟨AA,c,f⟩).1
theorem YO (m:y≠0) (f:decide (x<0)=decide (y<0)):Cp x y=((x.natAbs/y.natAbs:Nat):Int):=by
 have g:=Nat.div_add_mod x.natAbs y.natAbs;have hm:=Nat.mod_lt x.natAbs (by omega:0<y.natAbs)
 generalize x.natAbs/y.natAbs=q at*
 generalize x.natAbs%y.natAbs=r at*
 have c:(y.natAbs:Int)*q+r=x.natAbs:=by rw[<-g];simp
 unfold Cp
 by_cases h:0<=y
 ·rw[if_pos h]
  have:¬x<0:=by intro j;have:y<0:=by simpa [j] using f
                omega
  rw[(AA:(y.natAbs:Int)=y),(AA:(x.natAbs:Int)=x)] at c;exact LZ (r:=r) AA c.symm AA AA
 rw[if_neg h]
 have:x<0:=by have:y<0:=AA
              simpa [this] using f
 rw[(AA:(y.natAbs:Int)= -y),(AA:(x.natAbs:Int)= -x)] at c;exact LZ (r:=r) AA c.symm AA AA
theorem YL (v:y≠0) (j:decide (x<0)≠decide (y<0)) (m:x.natAbs%y.natAbs=0):Cp x y= -((x.natAbs/y.natAbs:Nat):Int):=by
 have g:=Nat.div_add_mod x.natAbs y.natAbs;rw[m] at g
 generalize x.natAbs/y.natAbs=q at*
 have c:(y.natAbs:Int)*q=x.natAbs:=by rw[<-g];simp
 unfold Cp
 by_cases h:0<=y
 ·rw[if_pos h]
  have f:x<0:=by
   apply Classical.byContradiction;intro f;exact j (by rw[decide_eq_false f,decide_eq_false AA])
  rw[(AA:(y.natAbs:Int)=y),(AA:(x.natAbs:Int)= -x)] at c;exact LZ (r:=0) AA (by rw[Int.mul_neg,c];omega) AA AA
 rw[if_neg h]
 have f:¬x<0:=by
  intro f;exact j (by rw[decide_eq_true f,decide_eq_true AA])
 rw[(AA:(y.natAbs:Int)= -y),(AA:(x.natAbs:Int)=x)] at c;exact LZ (r:=0) AA (by rw[Int.mul_neg,c];omega) AA AA
theorem YM (v:y≠0) (g:decide (x<0)≠decide (y<0)) (m:x.natAbs%y.natAbs≠0):Cp x y= -((x.natAbs/y.natAbs+1:Nat):Int):=by
 have j:=Nat.div_add_mod x.natAbs y.natAbs;have hm:=Nat.mod_lt x.natAbs (by omega:0<y.natAbs)
 generalize x.natAbs/y.natAbs=q at*
 generalize x.natAbs%y.natAbs=r at*
 have c:(y.natAbs:Int)*q+r=x.natAbs:=by rw[<-j];simp
 unfold Cp
 by_cases h:0<=y
 ·rw[if_pos h]
  have f:x<0:=by
   apply Classical.byContradiction;intro f;exact g (by rw[decide_eq_false f,decide_eq_false AA])
  rw[(AA:(y.natAbs:Int)=y),(AA:(x.natAbs:Int)= -x)] at c;refine LZ (r:=y-r) AA ?_ AA AA;rw[Int.natCast_add,Int.mul_neg,Int.mul_add];omega
 rw[if_neg h]
 have f:¬x<0:=by
  intro f;exact g (by rw[decide_eq_true f,decide_eq_true AA])
 rw[(AA:(y.natAbs:Int)= -y),(AA:(x.natAbs:Int)=x)] at c;refine LZ (r:= -y-r) AA ?_ AA AA;rw[Int.natCast_add,Int.mul_neg,Int.mul_add];omega
def Hj (x y:Int):Int:=x-y*Cp x y
theorem UH:(y.natAbs:Int)*((x.natAbs/y.natAbs:Nat):Int)+((x.natAbs%y.natAbs:Nat):Int)=x.natAbs:=by
 rw[<-Int.natCast_mul,<-Int.natCast_add,Nat.div_add_mod]
theorem ni (hb:b=decide (y<0)) (j:y≠0) (c:decide (x<0)=decide (y<0)):Hj x y=if b=true then -((x.natAbs%y.natAbs:Nat):Int) else ((x.natAbs%y.natAbs:Nat):Int):=by
 have g:= @UH x y;unfold Hj;rw[YO j c]
 generalize x.natAbs/y.natAbs=q at*
 generalize x.natAbs%y.natAbs=r at*
 by_cases h:y<0
 ·have f:x<0:=by simpa [h] using c
  rw[hb,decide_eq_true h,if_pos rfl];rw[(AA:(y.natAbs:Int)= -y),(AA:(x.natAbs:Int)= -x),Int.neg_mul] at g;omega
 have f:¬x<0:=by intro f;simp[f,h] at c
 rw[hb,decide_eq_false h,if_neg Ai];rw[(AA:(y.natAbs:Int)=y),(AA:(x.natAbs:Int)=x)] at g;omega
theorem ng (m:y≠0) (g:decide (x<0)≠decide (y<0)) (j:x.natAbs%y.natAbs=0):Hj x y=if b=true then -((x.natAbs%y.natAbs:Nat):Int) else ((x.natAbs%y.natAbs:Nat):Int):=by
 have f:= @UH x y;unfold Hj;rw[YL m g j];rw[j] at f ⊢
 generalize x.natAbs/y.natAbs=q at*
 have e:x-y* -(q:Int)=0:=by
  by_cases h:y<0
  ·have c:¬x<0:=by intro c;exact g (by rw[decide_eq_true c,decide_eq_true h])
   rw[(AA:(y.natAbs:Int)= -y),(AA:(x.natAbs:Int)=x),Int.neg_mul] at f;rw[Int.mul_neg];omega
  have c:x<0:=by apply Classical.byContradiction;intro c;exact g (by rw[decide_eq_false c,decide_eq_false h])
  rw[(AA:(y.natAbs:Int)=y),(AA:(x.natAbs:Int)= -x)] at f;rw[Int.mul_neg];omega
 rw[e];cases b <;> rfl
theorem nh (hb:b=decide (y<0)) (m:y≠0) (f:decide (x<0)≠decide (y<0)) (j:x.natAbs%y.natAbs≠0):
  Hj x y=if b=true then -((y.natAbs-x.natAbs%y.natAbs:Nat):Int) else ((y.natAbs-x.natAbs%y.natAbs:Nat):Int):=by
 have g:= @UH x y;have hm:=Nat.mod_lt x.natAbs (by omega:0<y.natAbs);unfold Hj;rw[YM m f j]
 generalize x.natAbs/y.natAbs=q at*
 generalize x.natAbs%y.natAbs=r at*
 rw[Int.natCast_add,Int.mul_neg,Int.mul_add]
 by_cases h:y<0
 ·have c:¬x<0:=by intro c;exact f (by rw[decide_eq_true c,decide_eq_true h])
  rw[hb,decide_eq_true h,if_pos rfl];rw[(AA:(y.natAbs:Int)= -y),(AA:(x.natAbs:Int)=x),Int.neg_mul] at g;omega
 have c:x<0:=by apply Classical.byContradiction;intro c;exact f (by rw[decide_eq_false c,decide_eq_false h])
 rw[hb,decide_eq_false h,if_neg Ai];rw[(AA:(y.natAbs:Int)=y),(AA:(x.natAbs:Int)= -x)] at g;omega
theorem dx (G:Bk N<=X) (c:0<X):Bk N<=(X+N/X)/2:=by
 have j:=Nj N
 generalize Bk N=s at*
 have m:X*(N/X)+N%X=N:=Nat.div_add_mod N X;have h3:=Nat.mod_lt N c
 generalize N/X=q at*
 rw[Nat.le_div_iff_mul_le AE];apply Classical.byContradiction;intro H;have v:X+q+1<=2*s:=AA
 obtain⟨d,rfl⟩:∃d,X=s+d:=⟨X-s,AA⟩
 have f:q+1<=s-d:=AA
 have g:(s+d)*(q+1)<=(s+d)*(s-d):=Nat.mul_le_mul_left _ f
 have F:(s+d)*(s-d)<=s*s:=by
  by_cases h:d<=s
  ·obtain⟨e,rfl⟩:∃e,s=e+d:=⟨s-d,AA⟩
   have:(e+d)*(e+d)=(e+d+d)*e+d*d:=by grind
   rw[Nat.add_sub_cancel];omega
  rw[(AA:s-d=0)];simp
 rw[Nat.mul_add] at g;omega
theorem rH (m:Bk N<=X) (c:0<X) (h:X<=(X+N/X)/2):Bk N=X:=by
 have f:X<=N/X:=AA
 have g:X*X<=N:=by
  have:=(Nat.le_div_iff_mul_le c).1 f;exact this
 have h3:=QI N;have j:X<Bk N+1:=Nat.mul_self_lt_mul_self_iff.1 AA;omega
theorem rI (h:N≠0):Bk N<=2^((Nat.log2 N+1)/2+1):=by
 apply Classical.byContradiction;intro j;have c:=Nj N;have f:N<2^(Nat.log2 N+1):=(Nat.log2_lt h).1 (Nat.lt_succ_self _);have h3:2^((Nat.log2 N+1)/2+1)*2^((Nat.log2 N+1)/2+1)<=Bk N*Bk N:=Nat.mul_le_mul AA AA;rw[<-Nat.pow_add] at h3;have g:2^(Nat.log2 N+1)<=2^((Nat.log2 N+1)/2+1+((Nat.log2 N+1)/2+1)):=Nat.pow_le_pow_right AE AA;omega
end
section
structure BV (q:Rat) (b1:Bool) (l1:List UInt32) (b2:Bool) (l2:List UInt32):Prop where
 num:BB q.num b1 l1
 den:BB (q.den:Int) b2 l2
variable {b' XU b1 b2:Bool} {d y z:Int} {k:Nat} {l l' P9 l1 l2:List UInt32}
theorem By (q:Rat):∃b1 l1 b2 l2,BV q b1 l1 b2 l2:=⟨_,_,_,_,⟨rfl,rfl⟩,⟨rfl,rfl⟩⟩
theorem BV.uniq {p q:Rat} {c1 c2:Bool} {m1 m2:List UInt32} (h:BV p b1 l1 b2 l2) (h':BV q c1 m1 c2 m2) (e:p=q):(b1=c1/\l1=m1)/\(b2=c2/\l2=m2):=by
 subst e;exact⟨h.num.uniq h'.num rfl,h.den.uniq h'.den rfl⟩
structure B8 (q:Rat):Prop where
 num:(AT q.num.natAbs).length<=4000000000000
 den:(AT q.den).length<=4000000000000
theorem BV.small {q:Rat} (h:BV q b1 l1 b2 l2) (s:B8 q):l1.length<=4000000000000/\l2.length<=4000000000000:=by
 rw[h.num.Bb,h.den.Bb];exact⟨s.num,by simpa using s.den⟩
theorem YN (x:Int):Cp x 1=x:=by unfold Cp;simp
theorem QH {n:Int} (g:d≠0):(Rat.divInt n d).num=Cp n (if d<0 then -((Nat.gcd n.natAbs d.natAbs:Nat):Int) else ((Nat.gcd n.natAbs d.natAbs:Nat):Int)):=by
 rw[Rat.num_divInt];have f:Int.gcd d n=Nat.gcd n.natAbs d.natAbs:=by rw[Int.gcd_comm];rfl
 have c:0<Nat.gcd n.natAbs d.natAbs:=Nat.gcd_pos_of_pos_right _ AA;rw[f];unfold Cp
 by_cases h:d<0
 ·rw[if_pos h,if_neg AA,Int.sign_eq_neg_one_of_neg h,Int.neg_neg,Int.neg_one_mul]
 rw[if_neg h,if_pos AA,Int.sign_eq_one_of_pos AA,Int.one_mul]
theorem QG {n:Int} (f:d≠0):((Rat.divInt n d).den:Int)=Cp d (if d<0 then -((Nat.gcd n.natAbs d.natAbs:Nat):Int) else ((Nat.gcd n.natAbs d.natAbs:Nat):Int)):=by
 rw[Rat.den_divInt,if_neg f];have g:Int.gcd d n=Nat.gcd n.natAbs d.natAbs:=by rw[Int.gcd_comm];rfl
 have c:0<Nat.gcd n.natAbs d.natAbs:=Nat.gcd_pos_of_pos_right _ AA;rw[g,Int.natCast_ediv];unfold Cp
 by_cases h:d<0
 ·rw[if_pos h,if_neg AA,Int.neg_neg,(AA:(d.natAbs:Int)= -d)]
 rw[if_neg h,if_pos AA,(AA:(d.natAbs:Int)=d)]
theorem nR:AT 1=[1]:=by decide +kernel
theorem UX {x:Int} {b:Bool} (h:BB x b l) (e:b=true):false=decide (x=1):=by
 have:=h.neg;rw[e] at this;have c:x<0:=by simpa using this.symm
 simp;omega
theorem aX {x:Int} {b:Bool} (h:BB x b l) (e:¬l.length=1):false=decide (x=1):=by
 have c:x≠1:=by
  intro f;subst f;apply e;rw[h.Bb];exact congrArg List.length nR
 simp[c]
theorem UZ {x:Int} {b:Bool} {w:UInt32} (h:BB x b l) (hb:b=false) (e:l.length=1) (hw:l[0]? =some w):decide (w.toNat=1)=decide (x=1):=by
 have g:l=[w]:=by
  match l,e,hw with
  | [a],_,hw=>simp at hw;rw[hw]
 have c:=h.nat;rw[g] at c;have f:AF [w]=w.toNat:=by simp[AF]
 rw[f] at c;have h3:=h.neg;rw[hb] at h3;have j:¬x<0:=by simpa using h3.symm
 rw[Bool.eq_iff_iff];simp;omega
theorem QJ (n:Nat):n<2^(32*(AT n).length):=by
 have h:=C0 (AT n);rwa [BU] at h
theorem nQ (a b:Nat):(AT (a*b)).length<=(AT a).length+(AT b).length:=by
 apply GF;rw[Nat.mul_add,Nat.pow_add];exact Nat.mul_lt_mul_of_lt_of_le (QJ a) (Nat.le_of_lt (QJ b)) (Nat.pow_pos AE)
theorem nP {a b:Nat} (ha:(AT a).length<=k) (hb:(AT b).length<=k):(AT (a+b)).length<=k+1:=by
 apply GF;have c:=Nat.lt_of_lt_of_le (QJ a) (Nat.pow_le_pow_right (n:=2) AE (Nat.mul_le_mul_left 32 ha));have f:=Nat.lt_of_lt_of_le (QJ b) (Nat.pow_le_pow_right (n:=2) AE (Nat.mul_le_mul_left 32 hb));rw[Nat.mul_add,Nat.pow_add];have h3:2^(32*k)*2<=2^(32*k)*2^(32*1):=Nat.mul_le_mul_left _ AE;omega
theorem BB.Dq {x:Int} {b:Bool} (h:BB x b l) (h':BB y b' l') (c:BB z XU P9) (e:z=x*y):P9.length<=l.length+l'.length:=by
 rw[h.Bb,h'.Bb,c.Bb,e,Int.natAbs_mul];exact nQ _ _
theorem BB.Oy {x:Int} {b:Bool} (h:BB x b l) (h':BB y b' l') (f:BB z XU P9) (e:z=x+y) (g:l.length<=k) (c:l'.length<=k):P9.length<=k+1:=by
 rw[h.Bb] at g;rw[h'.Bb] at c;rw[f.Bb,e];exact Nat.le_trans (EV (Int.natAbs_add_le x y)) (nP g c)
theorem Hf (q:Rat):(q.den:Int)≠0:=by have:=q.den_nz;omega
theorem R7 (p q:Rat):p+q=Rat.divInt (p.num*q.den+q.num*p.den) ((p.den:Int)*q.den):=by
 have h:=Rat.divInt_add_divInt p.num q.num (Hf p) (Hf q);rwa [Rat.num_divInt_den,Rat.num_divInt_den] at h
theorem QO (p q:Rat):p*q=Rat.divInt (p.num*q.num) ((p.den:Int)*q.den):=by
 have h:=Rat.divInt_mul_divInt p.num q.num (d₁:=p.den) (d₂:=q.den);rwa [Rat.num_divInt_den,Rat.num_divInt_den] at h
theorem ki (p q:Rat):p/q=Rat.divInt (p.num*q.den) ((p.den:Int)*q.num):=by
 have h:=Rat.divInt_mul_divInt p.num q.den (d₁:=p.den) (d₂:=q.num);rw[<-Rat.inv_divInt q.num q.den,Rat.num_divInt_den,Rat.num_divInt_den] at h;rw[Rat.div_def,h]
theorem YP (x:Int):Rat.divInt x 1=(x:Rat):=Rat.num_divInt_den (x:Rat)
theorem YR (x:Int):(Rat.divInt x 1).num=x:=by rw[YP];rfl
theorem YQ (x:Int):(Rat.divInt x 1).den=1:=by rw[YP];rfl
theorem JL {p q:Rat} (c:(p.den:Int)=1) (f:(q.den:Int)=1):(p+q).num=p.num+q.num/\(p+q).den=1:=by
 rw[R7,c,f];simp only[Int.mul_one];exact⟨YR _,YQ _⟩
theorem mul_ones {p q:Rat} (c:(p.den:Int)=1) (f:(q.den:Int)=1):(p*q).num=p.num*q.num/\(p*q).den=1:=by
 rw[QO,c,f];simp only[Int.mul_one];exact⟨YR _,YQ _⟩
theorem de (r:Rat):(r*r).num=r.num*r.num/\(r*r).den=r.den*r.den:=by
 have c:(r.num*r.num).natAbs.Coprime (r.den*r.den):=by
  rw[Int.natAbs_mul];have h:=r.reduced;exact Nat.Coprime.mul_right (Nat.Coprime.mul_left h h) (Nat.Coprime.mul_left h h)
 have f:r.den*r.den≠0:=Nat.mul_ne_zero r.den_nz r.den_nz;have h:=Rat.num_divInt_den (⟨r.num*r.num,r.den*r.den,f,c⟩:Rat);have g:=QO r r
 have h3:(⟨r.num*r.num,r.den*r.den,f,c⟩:Rat)=r*r:=by
  rw[g,<-h];exact congrArg _ (Int.natCast_mul _ _)
 rw[<-h3];exact⟨rfl,rfl⟩
theorem ZT (n:Nat):Bk (n*n)=n:=ZU (Nat.le_refl _) (by rw[Nat.add_mul,Nat.mul_add];omega)
theorem dw {r q:Rat} (f:0<=r) (h:r*r=q):((Bk q.num.toNat:Nat):Int)=r.num/\r.num*r.num=q.num:=by
 have c:=(de r).1;rw[h] at c;have j:0<=r.num:=Rat.num_nonneg.2 f;refine⟨?_,c.symm⟩;obtain⟨k,g⟩:=Int.eq_ofNat_of_zero_le j;rw[c,g];rw[show ((k:Int)*k).toNat=k*k by rw[<-Int.natCast_mul];rfl,ZT]
theorem dv {r q:Rat} (f:0<=r) (h:r*r=q):((Bk (q.den:Int).toNat:Nat):Int)=(r.den:Int)/\(r.den:Int)*r.den=(q.den:Int):=by
 have c:=(de r).2;rw[h] at c;refine⟨?_,by rw[c];exact (Int.natCast_mul _ _).symm⟩;rw[c,Int.toNat_natCast,ZT]
theorem du {q:Rat} (f:((Bk q.num.toNat:Nat):Int)*((Bk q.num.toNat:Nat):Int)=q.num) (c:((Bk (q.den:Int).toNat:Nat):Int)*((Bk (q.den:Int).toNat:Nat):Int)=(q.den:Int)):∃r:Rat,0<=r/\r*r=q:=by
 refine⟨Rat.divInt ((Bk q.num.toNat:Nat):Int) ((Bk (q.den:Int).toNat:Nat):Int),?_,?_⟩
 ·exact Rat.divInt_nonneg (Int.natCast_nonneg _) (Int.natCast_nonneg _)
 rw[Rat.divInt_mul_divInt,f,c,Rat.num_divInt_den]
def FN (b1:Bool) (l1:List UInt32) (b2:Bool) (l2:List UInt32):Bool:=F7 b1 l1&&(F7 b2 l2&&(!b2&&(decide (l2≠[])&&decide (Nat.gcd (AF l1) (AF l2)=1))))
theorem Mh:FN b1 l1 b2 l2=true↔∃q,BV q b1 l1 b2 l2:=by
 unfold FN;simp only[Bool.and_eq_true,Bool.not_eq_true',decide_eq_true_eq]
 constructor
 ·rintro⟨m,v,h3,F,f⟩
  obtain⟨x,j⟩:=J9.1 m;obtain⟨y,c⟩:=J9.1 v;have G:y≠0:=fun e=>F (c.nil.2 e)
  have g:=c.neg;rw[h3] at g;have H:¬y<0:=by simpa using g.symm
  rw[j.nat,c.nat] at f;refine⟨⟨x,y.natAbs,AA,f⟩,j,?_⟩
  show BB ((y.natAbs:Nat):Int) b2 l2
  rw[(AA:((y.natAbs:Nat):Int)=y)];exact c
 rintro⟨q,h⟩
 refine⟨J9.2 ⟨_,h.num⟩,J9.2 ⟨_,h.den⟩,?_,fun e=>q.den_nz (by have:=h.den.nil.1 e;omega),?_⟩
 ·rw[h.den.neg];simp
 rw[h.num.nat,h.den.nat,Int.natAbs_natCast];exact q.reduced
def Dm (q:Rat):Int:=Cd q.num
def HC (p q:Rat):Int:=if p<q then -1 else if q<p then 1 else 0
end
section
def rp (q:Rat):el AG:=((decide (q.num<0),AT q.num.natAbs),(decide ((q.den:Int)<0),AT q.den))
theorem FL (q:Rat):BV q (rp q).1.1 (rp q).1.2 (rp q).2.1 (rp q).2.2:=Ao
theorem BV.rp {q:Rat} {b1 b2:Bool} {l1 l2:List UInt32} (h:BV q b1 l1 b2 l2):rp q=((b1,l1),(b2,l2)):=by
 have u:=h.uniq (FL q) rfl;rw[u.1.1,u.1.2,u.2.1,u.2.2]
abbrev BF (X:List Rat):List (el AG):=X.map rp
def EP (X:List Rat):Prop:=∀q∈X,B8 q
structure Og (ts:AD):Prop where
 small:∀x∈ts,EP x
 TK:ts.length<=16
 form:∀i x,ts[i]? =some x->x.length=2^i
end
section
noncomputable def em (u:AD) (x:Re):List (el AG):=BF (co u x)
def tw (u:AD):List (List (el AG)):=u.reverse.map BF
structure BC (R:Nat) (u:AD):Prop where
 red:Ag u
 tb:TB R u
 hR:R<=60000000000000
 ht:u.length<=16
structure El (u:AD) (s:Nat) (x:Re):Prop where
 mem:In u x
 bd:Bd s (co u x)
variable {R k n s t:Nat} {p x y:Re}
theorem Zl (h:n<=2^(2*k)) (f:k<=60000000000000):(AT n).length<=4000000000000:=by
 obtain⟨m,hm⟩:=xN 3999999999999;have c:n<2^(32*m):=Nat.lt_of_le_of_lt h (Nat.pow_lt_pow_right AE AA);have:=GF c;omega
theorem kN {q:Rat} {D:Nat} {n:Int} (h:q*D=n) (j:0<D):q.den<=D:=by
 have c:=MM q
 have f:((q.num*D:Int):Rat)=((n*q.den:Int):Rat):=by
  rw[Rat.intCast_mul,Rat.intCast_mul,<-h,<-c];have e1:((D:Int):Rat)=(D:Rat):=rfl;have e2:((q.den:Int):Rat)=(q.den:Rat):=rfl
  grind
 have h3:q.num*D=n*q.den:=Rat.intCast_inj.1 f
 have g:q.den∣q.num.natAbs*D:=by
  refine⟨n.natAbs,?_⟩;have:=congrArg Int.natAbs h3;rw[Int.natAbs_mul,Int.natAbs_mul,Int.natAbs_natCast,Int.natAbs_natCast] at this;rw[this,Nat.mul_comm]
 exact Nat.le_of_dvd j ((Nat.Coprime.symm q.reduced).dvd_of_dvd_mul_left g)
theorem Bd.CM {a:List Rat} (h:Bd k a) (g:k<=60000000000000):EP a:=by
 obtain⟨D,m,v,F,h3⟩:=h;intro q j;obtain⟨n,G⟩:=F q j;have f:q.den<=2^k:=Nat.le_trans (kN G m) v;have hb:=h3 q j
 have c:q.num.natAbs<=2^(2*k):=by
  have e1:=UF (C:=q.den) hb (q:=(q.den:Rat)) ⟨by have:(0:Rat)<=q.den:=Rat.natCast_nonneg;grind,by grind⟩;rw[MM] at e1
  have e2:q.num.natAbs<=2^k*q.den:=by
   have H: -((2^k*q.den:Nat):Int)<=q.num:=by
    apply Rat.intCast_le_intCast.1;rw[Rat.intCast_neg];exact e1.1
   have I:q.num<=((2^k*q.den:Nat):Int):=Rat.intCast_le_intCast.1 e1.2;omega
  have:=Nat.mul_le_mul_left (2^k) f;rw[<-Nat.pow_add] at this;exact Nat.le_trans e2 (Nat.le_trans this (Cb))
 exact⟨Zl c g,Zl (Nat.le_trans f (Cb)) g⟩
theorem El.CM {u:AD} (h:El u s x) (c:s<=60000000000000):EP (co u x):=h.bd.CM c
theorem El.len {u:AD} (h:El u s x):(co u x).length=2^u.length:=C4 h.mem
theorem Bh {u:AD} (h:In u x):(em u x).length=2^u.length:=by rw[em,List.length_map,C4 h]
theorem CA (u:AD):(tw u).length=u.length:=by rw[tw,List.length_map,List.length_reverse]
theorem Dh (h:n<=16:=by omega):2^n<=65536:=Nat.le_trans (Cb h) AE
theorem OP (r:List Rat) (u:AD):tw (r::u)=tw u++[BF r]:=by rw[tw,List.reverse_cons,List.map_append];rfl
theorem Dx (r:List Rat) (u:AD):(tw (r::u)).take ((tw (r::u)).length-1)=tw u:=by
 rw[OP,List.length_append,CA];simp[List.take_left' (CA u)]
theorem F6 (r:List Rat) (u:AD):(tw (r::u))[(tw (r::u)).length-1]? =some (BF r):=by
 rw[OP,List.length_append,CA];simp[List.getElem?_append_right (Nat.le_of_eq (CA u))];rw[CA,Nat.sub_self];rfl
theorem E1 {r:List Rat} {u:AD} (h:Ag (r::u)):BF r=em u (AQ u r):=by rw[em,E0 h]
theorem Cv {u:AD} {r:List Rat} {q:Re} (h:Ag (r::u)) (f:In u p) (g:In u q) (j:x=p+q*rt u r):(em (r::u) x).take ((em (r::u) x).length/2)=em u p:=by
 have c:In (r::u) x:=Ci.2 ⟨p,q,f,g,j⟩;rw[Bh c,Bz,(AA:(2^u.length+2^u.length)/2=2^u.length),em,em,BF,BF,<-List.map_take,kH h f g j]
theorem CZ {u:AD} {r:List Rat} {q:Re} (h:Ag (r::u)) (f:In u p) (g:In u q) (j:x=p+q*rt u r):(em (r::u) x).drop ((em (r::u) x).length/2)=em u q:=by
 have c:In (r::u) x:=Ci.2 ⟨p,q,f,g,j⟩;rw[Bh c,Bz,(AA:(2^u.length+2^u.length)/2=2^u.length),em,em,BF,BF,<-List.map_drop,kG h f g j]
theorem Ff {u:AD} {r:List Rat} {q:Re} (h:Ag (r::u)) (c:In u p) (f:In u q) (g:x=p+q*rt u r):em (r::u) x=em u p++em u q:=by
 rw[em,DE h c f g,BF,List.map_append];rfl
theorem YW {u:AD} (h:Ag u) (c:In u x) (f:In u y):em u (x+y)=BF (List.zipWith (· + ·) (co u x) (co u y)):=by rw[em,NO h c f]
theorem YX {u:AD} (h:Ag u) (c:In u x):em u (-x)=BF ((co u x).map (- ·)):=by rw[em,LQ h c]
theorem Ds (q:Rat):em [] (Re.ofRat q)=[rp q]:=by rw[em,DH];rfl
theorem Sl {u:AD} (h:Ag u):em u 0=BF (List.replicate (2^u.length) 0):=by rw[em,Se h]
theorem BC.tail {r:List Rat} {u:AD} (h:BC R (r::u)):BC R u:=⟨h.red.1,h.tb.tail,h.hR,by have:=h.ht;rw[List.length_cons] at this;omega⟩
theorem Dg {α:Type} {l:List α} {i:Nat} {x:α} (h:l[i]? =some x):i<l.length:=by
 apply Classical.byContradiction;intro c;rw[List.getElem?_eq_none AA] at h;exact absurd h Ai
theorem MN:∀{u:AD},Ag u->∀(i:Nat) (x:List Rat),u.reverse[i]? =some x->x.length=2^i
 | [],_,i,x,h=>by simp at h
 | r::u,c,i,x,h=>by
  rw[List.reverse_cons] at h
  by_cases g:i<u.length
  ·rw[List.getElem?_append_left (by rw[List.length_reverse];exact g)] at h;exact MN c.1 i x h
  rw[List.getElem?_append_right (by rw[List.length_reverse];omega),List.length_reverse] at h
  have f:i-u.length=0:=by
   have:=Dg h;simp at this;omega
  rw[f] at h;have:r=x:=by simpa using h
  rw[<-this,c.2.1]
  congr 1;omega
theorem BC.G4 {u:AD} (h:BC R u):Og u.reverse:=
 ⟨fun x c=>(h.tb x (List.mem_reverse.1 c)).CM h.hR,by rw[List.length_reverse];exact h.ht,MN h.red⟩
theorem El.DL {r:List Rat} {u:AD} (h:BC R (r::u)):El u R (AQ u r):=⟨B0 h.red,SI h.red h.tb⟩
theorem El.parts {u:AD} {r:List Rat} (h:Ag (r::u)) (g:El (r::u) s x):∃p q,x=p+q*rt u r/\El u s p/\El u s q:=by
 obtain⟨p,q,c,f,rfl⟩:=Ci.1 g.mem;have:=Xc h c f g.bd;exact⟨p,q,rfl,⟨c,this.1⟩,⟨f,this.2⟩⟩
theorem El.mono {u:AD} (h:El u s x) (c:s<=t):El u t x:=⟨h.mem,h.bd.mono c⟩
theorem El.add {u:AD} (h:Ag u) (c:El u s x) (f:El u t y):El u (s+t+1) (x+y):=⟨DZ c.mem f.mem,SG h c.mem f.mem c.bd f.bd⟩
theorem El.sub {u:AD} (h:Ag u) (c:El u s x) (f:El u t y):El u (s+t+1) (x-y):=⟨FT c.mem f.mem,jl h c.mem f.mem c.bd f.bd⟩
theorem El.neg {u:AD} (h:Ag u) (c:El u s x):El u s (-x):=⟨GY c.mem,Xe h c.mem c.bd⟩
theorem El.mul {u:AD} (h:BC R u) (c:El u s x) (f:El u t y):El u (s+t+EE u.length R) (x*y):=⟨Ak h.red c.mem f.mem,Xd h.red h.tb c.mem f.mem c.bd f.bd⟩
theorem El.norm {u:AD} {r:List Rat} {q:Re} (h:BC R (r::u)) (c:In u p) (f:In u q) (g:El (r::u) s (p+q*rt u r)):El u (2*s+2*EE u.length R+R+1) (p*p-q*q*AQ u r):=
 ⟨FT (Ak h.red.1 c c) (Ak h.red.1 (Ak h.red.1 f f) (B0 h.red)),Xf h.red h.tb c f g.bd⟩
theorem El.inv {u:AD} (h:BC R u) (c:El u s x) (f:In u y) (e:x*y=1):El u (II u.length R s) y:=⟨f,Ij h.red h.tb c.mem f e c.bd⟩
theorem El.sqrt {u:AD} {w:Re} (h:BC R u) (c:El u s x) (hw:In u w) (e:w*w=x):El u (s+GG u.length R) w:=⟨hw,SJ h.red h.tb hw e c.bd⟩
theorem El.rat {u:AD} {q:Rat} (h:Ag u) (c:Bd s [q]):El u s (Re.ofRat q):=⟨Fy q u,jj h c⟩
theorem FE:∀(h R s:Nat),2*s<=II h R s
 | 0,_,_=>Nat.le_refl _
 | h+1,R,s=>by
  have:=FE h R (2*s+2*EE h R+R+1);rw[II];omega
theorem aF {u:AD} {r:List Rat} {q:Re} (h:Ag (r::u)) (f:In u p) (g:In u q) (c:p+q*rt u r≠0):p*p-q*q*AQ u r≠0:=by
 intro j;have F:=Cz h;have e1:(p+q*rt u r)*(p-q*rt u r)=0:=by grind
 rcases Re.GW e1 with e2 | e2
 ·exact c e2
 obtain⟨m,v⟩:=indep h f (GY g) (CO u) (CO u) (show p+ -q*rt u r=0+0*rt u r by grind);exact c (by grind)
theorem NG:Bd 1 [(1/2:Rat)]:=by
 refine⟨2,AE,AE,fun q c=>⟨1,?_⟩,fun q c=>?_⟩
 ·rw[List.mem_singleton.1 c];decide +kernel
 rw[List.mem_singleton.1 c];decide +kernel
theorem G9:Bd 0 [(0:Rat)]:=⟨1,AE,AE,fun q c=>⟨0,by rw[List.mem_singleton.1 c];decide +kernel⟩,fun q c=>by rw[List.mem_singleton.1 c];decide +kernel⟩
theorem Xb:Bd 0 [(1:Rat)]:=⟨1,AE,AE,fun q c=>⟨1,by rw[List.mem_singleton.1 c];decide +kernel⟩,fun q c=>by rw[List.mem_singleton.1 c];decide +kernel⟩
end
section
noncomputable def Bg (x:Re):Int:=by
 classical
 exact if x<0 then -1 else if x=0 then 0 else 1
theorem FX (x:Re):(x<0/\Bg x= -1)\/(x=0/\Bg x=0)\/(0<x/\Bg x=1):=by
 unfold Bg
 by_cases h:x<0
 ·rw[if_pos h];exact .inl ⟨h,rfl⟩
 rw[if_neg h]
 by_cases c:x=0
 ·rw[if_pos c];exact .inr (.inl ⟨c,rfl⟩)
 rw[if_neg c];exact .inr (.inr ⟨by grind,rfl⟩)
theorem HK {x:Re} (h:0<x):Bg x=1:=by rcases FX x with⟨a,b⟩ |⟨a,b⟩ |⟨a,b⟩ <;> grind
theorem MQ {x:Re} (h:x<0):Bg x= -1:=by rcases FX x with⟨a,b⟩ |⟨a,b⟩ |⟨a,b⟩ <;> grind
theorem G0:Bg 0=0:=by rcases FX 0 with⟨a,b⟩ |⟨a,b⟩ |⟨a,b⟩ <;> grind
theorem K4 {x:Re}:Bg x=0↔x=0:=by
 rcases FX x with⟨a,b⟩ |⟨a,b⟩ |⟨a,b⟩ <;> rw[b]
 ·constructor
  ·intro h;omega
  intro h;grind
 ·exact⟨fun _=>a,fun _=>rfl⟩
 constructor
 ·intro h;omega
 intro h;grind
theorem dB (x y:Re):Bg (x*y)=Bg x*Bg y:=by
 rcases FX x with⟨a,b⟩ |⟨a,b⟩ |⟨a,b⟩ <;> rcases FX y with⟨c,d⟩ |⟨c,d⟩ |⟨c,d⟩ <;> rw[b,d]
 ·have:=Re.mul_pos (x:= -x) (y:= -y) (by grind) (by grind);exact HK (by grind)
 ·rw[c,show x*0=0 by grind];exact G0
 ·have:=Re.mul_pos (x:= -x) (y:=y) (by grind) (by grind);exact MQ (by grind)
 ·rw[a,show 0*y=0 by grind];exact G0
 ·rw[a,show 0*y=0 by grind];exact G0
 ·rw[a,show 0*y=0 by grind];exact G0
 ·have:=Re.mul_pos (x:=x) (y:= -y) (by grind) (by grind);exact MQ (by grind)
 ·rw[c,show x*0=0 by grind];exact G0
 exact HK (Re.mul_pos a c)
theorem dA (x y:Re): -9223372036854775808<=Bg x*Bg y/\Bg x*Bg y<9223372036854775808:=by
 rcases FX x with⟨a,b⟩ |⟨a,b⟩ |⟨a,b⟩ <;> rcases FX y with⟨c,d⟩ |⟨c,d⟩ |⟨c,d⟩ <;> rw[b,d] <;> decide
section
variable {p q s ρ:Re}
theorem Qx (f:0<s) (h:q=0\/Bg p=Bg q):Bg (p+q*s)=Bg p:=by
 rcases h with h | h
 ·rw[h,show p+0*s=p by grind]
 rcases FX p with⟨a,b⟩ |⟨a,b⟩ |⟨a,b⟩ <;> rcases FX q with⟨c,d⟩ |⟨c,d⟩ |⟨c,d⟩ <;> rw[b,d] at h <;> try omega
 ·have:=Re.mul_pos (x:= -q) (y:=s) (by grind) f;rw[b];exact MQ (by grind)
 ·rw[b,a,c,show (0:Re)+0*s=0 by grind];exact G0
 have:=Re.mul_pos (x:=q) (y:=s) c f;rw[b];exact HK (by grind)
theorem dH (c:0<s) (h:p=0):Bg (p+q*s)=Bg q:=by
 rw[h,show 0+q*s=q*s by grind,dB,HK c,Int.mul_one]
theorem dG (f:0<s) (m:s*s=ρ) (g:p≠0) (j:q≠0) (h:Bg p≠Bg q):Bg (p+q*s)=Bg p*Bg (p*p-q*q*ρ):=by
 have e:p*p-q*q*ρ=(p-q*s)*(p+q*s):=by rw[<-m];grind
 rw[e,dB];rcases FX p with⟨a,b⟩ |⟨a,b⟩ |⟨a,b⟩ <;> rcases FX q with⟨c,d⟩ |⟨c,d⟩ |⟨c,d⟩ <;> rw[b,d] at h <;> first | (exact absurd rfl h) | (exact absurd a g) | (exact absurd c j) | skip
 ·have:=Re.mul_pos (x:=q) (y:=s) c f;rw[b,MQ (x:=p-q*s) (by grind)];omega
 have:=Re.mul_pos (x:= -q) (y:=s) (by grind) f;rw[b,HK (x:=p-q*s) (by grind)];omega
end
theorem dC (q:Rat):Bg (Re.ofRat q)=Dm q:=by
 have c:(0:Re)=Re.ofRat 0:=rfl;have f:Dm q=Cd q.num:=rfl;rw[f];rcases GL q.num with⟨a,b⟩ |⟨a,b⟩ |⟨a,b⟩ <;> rw[b]
 ·exact MQ (by rw[c,Re.IJ];rw[Rat.lt_iff];simp;exact a)
 ·rw[Rat.num_eq_zero.1 a];exact G0
 exact HK (by rw[c,Re.IJ];rw[Rat.lt_iff];simp;exact a)
def VV:Nat->Nat->Nat->Nat
 | 0,_,s=>s
 | h+1,R,s=>VV h R (2*s+2*EE h R+R+1)
theorem IZ:∀(h R:Nat) {s t:Nat},s<=t->VV h R s<=VV h R t
 | 0,_,_,_,h=>h
 | h+1,R,_,_,c=>IZ h R AA
theorem GO:∀(h R s:Nat),s<=VV h R s
 | 0,_,_=>Nat.le_refl _
 | h+1,R,s=>Nat.le_trans AA (GO h R (2*s+2*EE h R+R+1))
theorem WQ (h R s:Nat):VV h R s<=VV (h+1) R s:=IZ h R AA
theorem M0 {i h:Nat} (f:i<=h) (R s:Nat):VV i R s<=VV h R s:=by
 induction h with
 | zero=>rw[Nat.le_zero.1 f];exact Nat.le_refl _
 | succ h g=>
  rcases Nat.lt_or_ge i (h+1) with c | c
  ·exact Nat.le_trans (g AA) (WQ h R s)
  rw[(AA:i=h+1)];exact Nat.le_refl _
def pre (u:AD) (i:Nat):AD:=u.drop (u.length-i)
theorem Ju {u:AD} {i:Nat} (h:i<=u.length):(pre u i).length=i:=by rw[pre,List.length_drop];omega
theorem Ix {u:AD} {i:Nat}:(tw u).take i=tw (pre u i):=by
 rw[tw,tw,pre,<-List.map_take,List.reverse_drop]
 by_cases h:i<=u.length
 ·rw[(AA:u.length-(u.length-i)=i)]
 rw[(AA:u.length-i=0),Nat.sub_zero,List.take_of_length_le (by rw[List.length_reverse];omega),List.take_of_length_le (by rw[List.length_reverse];omega)]
theorem bJ (u:AD):pre u u.length=u:=by rw[pre,Nat.sub_self,List.drop_zero]
theorem Kr {u:AD} {i:Nat} (h:i<u.length):∃r,pre u (i+1)=r::pre u i/\(tw u)[i]? =some (BF r):=by
 refine⟨u[u.length-(i+1)]'AA,?_,?_⟩
 ·rw[pre,pre,List.drop_eq_getElem_cons AA,(AA:u.length-(i+1)+1=u.length-i)]
 rw[tw,List.getElem?_map,List.getElem?_reverse h,(AA:u.length-1-i=u.length-(i+1)),List.getElem?_eq_getElem AA];rfl
theorem bZ:∀{u:AD} (n:Nat),Ag u->Ag (u.drop n)
 |u,0,h|[],_+1,h=>h
 | _::u,n+1,h=>bZ n h.1
theorem BC.pre {R:Nat} {u:AD} (h:BC R u) (i:Nat):BC R (pre u i):=
 ⟨bZ _ h.red,fun r c=>h.tb r (List.mem_of_mem_drop c),h.hR,by have:=h.ht;rw[Go.Abs.pre,List.length_drop];omega⟩
def QQ:Nat->Nat->Nat->Nat
 | 0,_,s=>s
 | h+1,R,s=>max (QQ h R (3*s+3*EE h R+R+GG h R+3+II h R R)) (s+II h R (2*(3*s+3*EE h R+R+GG h R+3+II h R R+GG h R)+1)+EE h R)
theorem KG:∀(h R:Nat) {s t:Nat},s<=t->II h R s<=II h R t
 | 0,_,_,_,h=>by rw[II,II];omega
 | h+1,R,s,t,c=>by
  have:=KG h R (s:=2*s+2*EE h R+R+1) (t:=2*t+2*EE h R+R+1) AA;rw[II,II];omega
theorem Oc:∀(h R:Nat) {s t:Nat},s<=t->QQ h R s<=QQ h R t
 | 0,_,_,_,h=>h
 | h+1,R,s,t,g=>by
  have c:=Oc h R (s:=3*s+3*EE h R+R+GG h R+3+II h R R) (t:=3*t+3*EE h R+R+GG h R+3+II h R R) AA;have f:=KG h R (s:=2*(3*s+3*EE h R+R+GG h R+3+II h R R+GG h R)+1) (t:=2*(3*t+3*EE h R+R+GG h R+3+II h R R+GG h R)+1) AA;rw[QQ,QQ];omega
theorem IW:∀(h R s:Nat),s<=QQ h R s
 | 0,_,_=>Nat.le_refl _
 | h+1,R,s=>by have:=IW h R (3*s+3*EE h R+R+GG h R+3+II h R R);rw[QQ];omega
theorem gD (h R s:Nat):QQ h R s<=QQ (h+1) R s:=by
 have:=Oc h R (s:=s) (t:=3*s+3*EE h R+R+GG h R+3+II h R R) AA;rw[QQ];omega
theorem gC {i h:Nat} (f:i<=h) (R s:Nat):QQ i R s<=QQ h R s:=by
 induction h with
 | zero=>rw[Nat.le_zero.1 f];exact Nat.le_refl _
 | succ h g=>
  rcases Nat.lt_or_ge i (h+1) with c | c
  ·exact Nat.le_trans (g AA) (gD h R s)
  rw[(AA:i=h+1)];exact Nat.le_refl _
structure Fit (h R s:Nat):Prop where
 q:QQ h R s<=60000000000000
 v:VV h R (s+GG h R)<=60000000000000
 qR:QQ h R R<=60000000000000
 vR:VV h R R<=60000000000000
theorem Fit.v0 {h R s:Nat} (f:Fit h R s):VV h R s<=60000000000000:=Nat.le_trans (IZ h R AA) f.v
theorem Fit.s {h R s:Nat} (f:Fit h R s):s<=60000000000000:=Nat.le_trans (IW h R s) f.q
theorem Fit.mono {h R s t:Nat} (f:Fit h R s) (ht:t<=s):Fit h R t:=⟨Nat.le_trans (Oc h R ht) f.q,Nat.le_trans (IZ h R AA) f.v,f.qR,f.vR⟩
end
section
def BW (u w:AD):Prop:=∀x,In u x->In w x
theorem BW.refl (u:AD):BW u u:=fun _ h=>h
theorem BW.trans {u v w:AD} (h:BW u v) (k:BW v w):BW u w:=fun x c=>k x (h x c)
theorem NZ:∀(v:AD) {u:AD},BW u (v++u)
 | [],u=>BW.refl u
 | _::v,_=>fun x c=>FU (NZ v x c)
theorem Na {u w:AD} (h:u<:+w):BW u w:=by
 obtain⟨v,rfl⟩:=h;exact NZ v
theorem BW.tail {u w:AD} {r:List Rat} (h:BW (r::u) w):BW u w:=fun x c=>h x (FU c)
theorem BW.root {u w:AD} {r:List Rat} (h:BW (r::u) w):In w (rt u r):=h _ (Is u r)
theorem JT {u w:AD} {r:List Rat} (hw:Ag w) (h:BW u w) (g:In w (rt u r)):BW (r::u) w:=fun x j=>by
 obtain⟨p,q,c,f,rfl⟩:=Ci.1 j;exact DZ (h p c) (Ak hw (h q f) g)
theorem Ld (w:AD):BW [] w:=fun x c=>by
 obtain⟨q,rfl⟩:=Cy.1 c;exact Fy q w
noncomputable def BK (u:AD) (v:Re):AD:=by
 classical
 exact if Sq u v then u else co u v::u
theorem EK {u:AD} {v:Re} (h:Sq u v):BK u v=u:=by unfold BK;rw[if_pos h]
theorem Dp {u:AD} {v:Re} (h:¬Sq u v):BK u v=co u v::u:=by unfold BK;rw[if_neg h]
theorem O1 (u:AD) (v:Re):u<:+BK u v:=by
 by_cases h:Sq u v
 ·rw[EK h];exact List.suffix_refl u
 rw[Dp h];exact List.suffix_cons _ _
theorem OB {u:AD} {v:Re} (h:Ag u) (c:In u v) (f:0<v) (g:¬Sq u v):Ag (co u v::u):=
 ⟨h,C4 c,by rw[ES c];exact f,by rw[ES c];exact g⟩
theorem Uv {u:AD} {v:Re} (h:Ag u) (g:In u v) (f:0<v):Ag (BK u v):=by
 by_cases c:Sq u v
 ·rw[EK c];exact h
 rw[Dp c];exact OB h g f c
theorem Ky {u:AD} {v:Re} (c:In u v):rt u (co u v)=Re.sqrt v:=by rw[rt,ES c]
theorem MT {u:AD} {v:Re} (c:0<=v):Sq u v↔In u (Re.sqrt v):=by
 constructor
 ·rintro⟨w,hw,e⟩
  have g:=Re.G3 c;have f:=Re.MU v
  by_cases h:0<=w
  ·rw[<-Re.MS h f (by rw[e,g])];exact hw
  rw[<-Re.MS (x:= -w) (by grind) f (by rw[g,<-e];grind)];exact GY hw
 intro h;exact⟨_,h,Re.G3 c⟩
theorem SA {u:AD} {v:Re} (g:In u v) (f:0<=v):In (BK u v) (Re.sqrt v):=by
 by_cases c:Sq u v
 ·rw[EK c];exact (MT f).1 c
 rw[Dp c,<-Ky g];exact Is u _
noncomputable def ext (t:AD):AD->AD
 | []=>t
 | r::u=>BK (ext t u) (AQ u r)
theorem Pr (t:AD):∀u,t<:+ext t u
 | []=>List.suffix_refl t
 | r::u=>List.IsSuffix.trans (Pr t u) (O1 _ _)
theorem I2 {t:AD} (ht:Ag t):∀{u:AD},Ag u->Ag (ext t u)/\BW u (ext t u)
 | [],_=>⟨ht,Ld _⟩
 | r::u,hu=>by
  obtain⟨h,c⟩:=I2 ht hu.1;have f:=c _ (B0 hu);have g:=hu.2.2.1;have h3:=Uv h f g;exact⟨h3,JT h3 (c.trans (Na (O1 _ _))) (SA f (by grind))⟩
open Classical in
noncomputable def E2 (t u:AD):AD:=if u<:+t then t else if t<:+u then u else ext t u
theorem pL {t u:AD} (ht:Ag t) (hu:Ag u):Ag (E2 t u)/\BW t (E2 t u)/\BW u (E2 t u):=by
 unfold E2
 split
 ·rename_i h;exact⟨ht,BW.refl t,Na h⟩
 split
 ·rename_i h;exact⟨hu,Na h,BW.refl u⟩
 obtain⟨c,f⟩:=I2 ht hu;exact⟨c,Na (Pr t u),f⟩
theorem YY:∀(v:AD) {u:AD} {x:Re},Ag (v++u)->In u x->em (v++u) x=em u x++List.replicate (2^(v++u).length-2^u.length) (rp 0)
 | [],u,x,h,c=>Ai
 | r::v,u,x,h,c=>by
  have f:=NZ v x c;have G:=YY v h.1 c;have j:2^u.length<=2^(v++u).length:=Cb Ai;have e:em (r::v++u) x=em (v++u) x++em (v++u) 0:=Ff h f (CO _) (by grind);have F:em (v++u) 0=BF (List.replicate (2^(v++u).length) 0):=Sl h.1;rw[e,G,F,BF,List.map_replicate,List.append_assoc,List.replicate_append_replicate];have m:2^(r::v++u).length=2^(v++u).length+2^(v++u).length:=Bz r (v++u);have g:∀a b:Nat,b<=a->a-b+a=a+a-b:=fun a b h=>AA
  rw[m,<-g _ _ j]
theorem Yb {u w:AD} {x:Re} (h:u<:+w) (hw:Ag w) (c:In u x):em w x=em u x++List.replicate (2^w.length-2^u.length) (rp 0):=by
 obtain⟨v,rfl⟩:=h;exact YY v hw c
theorem Ux {u w:AD} (h:u<:+w) (hw:Ag w):Ag u:=by
 obtain⟨v,rfl⟩:=h
 induction v with
 | nil=>exact hw
 | cons r v c=>exact c hw.1
structure Gam (T:AD->Prop) (R C S:Nat):Prop where
 BG:∀{u},T u->BC R u
 ht:∀{u},T u->u.length<=8
 nil:T []
 sub:∀{r u},T (r::u)->T u
 BK:∀{t r u},T t->T (r::u)->BW u t->T (BK t (AQ u r))
 CK:∀{u w s x},T u->T w->BW u w->El u s x->El w (s+C) x
 fit:∀{u},T u->Fit u.length R (S+C)
 mul:∀{u},T u->2*(S+C)+EE u.length R<=60000000000000
 RS:R<=S
section
variable {T:AD->Prop} {R C S:Nat}
theorem Gam.I6 (G:Gam T R C S) {u w:AD} (h:u<:+w) (hw:T w):T u:=by
 obtain⟨v,rfl⟩:=h
 induction v with
 | nil=>exact hw
 | cons r v c=>exact c (G.sub hw)
theorem Gam.ext (G:Gam T R C S) {t:AD} (ht:T t):∀{u:AD},T u->T (ext t u)
 | [],_=>ht
 | r::u,hu=>G.BK (G.ext ht (G.sub hu)) hu (I2 (G.BG ht).red (G.BG (G.sub hu)).red).2
theorem Gam.join (G:Gam T R C S) {t u:AD} (ht:T t) (hu:T u):T (E2 t u):=by
 unfold E2
 split
 ·exact ht
 split
 ·exact hu
 exact G.ext ht hu
end
theorem JS {u:AD} {r:List Rat} (h:Ag (r::u)):El (r::u) 0 (rt u r):=by
 have c:El u 0 0:=El.rat h.1 G9;have f:El u 0 1:=El.rat h.1 Xb;have:=O8 h c.mem f.mem c.bd f.bd;rw[show (0:Re)+1*rt u r=rt u r by grind] at this;exact⟨Is u r,this⟩
end
section
theorem Ht:∀{h h' R R':Nat},h<=h'->R<=R'->EE h R<=EE h' R'
 | 0,h',R,R',_,_=>Nat.zero_le _
 | h+1,0,R,R',c,_=>absurd c AA
 | h+1,h'+1,R,R',c,hR=>by
  have:=Ht (h:=h) (h':=h') AA hR;rw[EE,EE];omega
theorem IV:∀{h h' R R' s s':Nat},h<=h'->R<=R'->s<=s'->II h R s<=II h' R' s'
 | 0,0,R,R',s,s',_,_,f=>by rw[II,II];omega
 | 0,h'+1,R,R',s,s',_,_,f=>by
  have:=FE h' R' (2*s'+2*EE h' R'+R'+1);rw[II,II];omega
 | h+1,0,R,R',s,s',c,_,_=>absurd c AA
 | h+1,h'+1,R,R',s,s',c,hR,f=>by
  have g:=Ht (h:=h) (h':=h') AA hR;have j:=IV (h:=h) (h':=h') (s:=2*s+2*EE h R+R+1) (s':=2*s'+2*EE h' R'+R'+1) AA hR AA;rw[II,II];omega
theorem RZ:∀{h h' R R':Nat},h<=h'->R<=R'->GG h R<=GG h' R'
 | 0,h',R,R',_,_=>by rw[GG];exact Nat.zero_le _
 | h+1,0,R,R',c,_=>absurd c AA
 | h+1,h'+1,R,R',c,hR=>by
  have f:=Ht (h:=h) (h':=h') AA hR;have g:=RZ (h:=h) (h':=h') AA hR;have h3:=IV (h:=h) (h':=h') (s:=R) (s':=R') AA hR hR;rw[GG,GG];omega
def CC:Nat->Nat->Nat->Nat->Nat
 | 0,_,_,_=>0
 | k+1,R0,h,R=>2*CC k R0 h R+R0+GG h R+EE h R+1
theorem KE:∀{k k' R0 IX h h' R R':Nat},k<=k'->R0<=IX->h<=h'->R<=R'->CC k R0 h R<=CC k' IX h' R'
 | 0,k',_,_,_,_,_,_,_,_,_,_=>by rw[CC];exact Nat.zero_le _
 | k+1,0,_,_,_,_,_,_,f,_,_,_=>absurd f AA
 | k+1,k'+1,R0,IX,h,h',R,R',f,g,c,hR=>by
  have j:=KE (k:=k) (k':=k') AA g c hR;have m:=Ht c hR;have h3:=RZ c hR;rw[CC,CC];omega
theorem Sj {D:Nat} {q:Rat} {n:Nat} (h:DN D [q]):DN D (q::List.replicate n 0):=fun z c=>by
 rcases List.mem_cons.1 c with rfl | c
 ·exact h _ List.mem_cons_self
 rw[List.eq_of_mem_replicate c];exact⟨0,Ai⟩
theorem UG {B:Nat} {q:Rat} {n:Nat} (h:MX B [q]):MX B (q::List.replicate n 0):=fun z c=>by
 rcases List.mem_cons.1 c with rfl | c
 ·exact h _ List.mem_cons_self
 rw[List.eq_of_mem_replicate c];have:(0:Rat)<=B:=Rat.natCast_nonneg
 constructor <;> grind
theorem XZ {w:AD} {R:Nat} (hw:Ag w) (G:TB R w):∀{u:AD} {R0:Nat},Ag u->TB R0 u->BW u w->∃K:Nat,0<K/\K<=2^CC u.length R0 w.length R/\
  ∀{x:Re} {D B:Nat},In u x->(DN D (co u x)->DN (D*K) (co w x))/\(MX B (co u x)->MX (B*2^CC u.length R0 w.length R) (co w x))
 | [],R0,_,_,_=>⟨1,AE,by simp[CC],fun {x D B} hx=>by
  obtain⟨q,rfl⟩:=Cy.1 hx;rw[DH,H4 q hw,Nat.mul_one];refine⟨Sj,fun h=>?_⟩;rw[show B*2^CC ([]:AD).length R0 w.length R=B by simp[CC]];exact UG h⟩
 | r::u,R0,h,h0,v=>by
  obtain⟨K,hK,g,hb⟩:=XZ hw G h.1 h0.tail v.tail;obtain⟨E,O,Q,hm⟩:=KY hw G;obtain⟨D0,J,L,M,Z⟩:=h0.head;have hr:=Cz h;have a1:=B0 h;have c:=v.root;have b1:=hb (D:=D0) (B:=2^R0) a1;rw[E0 h] at b1
  have hv:Bd (R0+CC u.length R0 w.length R) (co w (AQ u r)):=by
   refine⟨D0*K,Nat.mul_pos J hK,?_,b1.1 M,?_⟩
   ·rw[Nat.pow_add];exact Nat.mul_le_mul L g
   rw[Nat.pow_add];exact b1.2 Z
  obtain⟨F,hF,W,U,Y⟩:=SJ hw G c hr hv;refine⟨K*(F*E),Nat.mul_pos hK (Nat.mul_pos hF O),?_,fun {x D B} hx=>?_⟩
  ·have h1:=Nat.mul_le_mul g (Nat.mul_le_mul W Q);simp only[<-Nat.pow_add] at h1;exact Nat.le_trans h1 (Cb (by rw[List.length_cons,CC];omega))
  obtain⟨p,q,H,I,rfl⟩:=Ci.1 hx;rw[DE h H I rfl,DN.app,MX.app];have m:=v.tail _ H;have f:=v.tail _ I;refine⟨fun j=>?_,fun j=>?_⟩
  ·have k1:=(hb (B:=0) H).1 j.1;have k2:=(hb (B:=0) I).1 j.2;have k3:=hm f c k2 U;exact DN.Fs hw m (Ak hw f c) (k1.dvd ⟨F*E,by grind⟩) (k3.dvd ⟨1,by grind⟩)
  have k1:=(hb (D:=0) H).2 j.1;have k2:=(hb (D:=0) I).2 j.2;have k3:=IH hw G f c k2 Y;refine (MX.Fs hw m (Ak hw f c) k1 k3).mono ?_
  have e:B*2^CC u.length R0 w.length R*2^(R0+CC u.length R0 w.length R+GG w.length R)*2^EE w.length R=B*2^(CC u.length R0 w.length R+(R0+CC u.length R0 w.length R+GG w.length R)+EE w.length R):=by
   rw[Nat.mul_assoc,Nat.mul_assoc,<-Nat.pow_add,<-Nat.pow_add];congr 2;omega
  rw[e,<-Nat.mul_add];refine Nat.mul_le_mul_left B ?_;have e2:CC (r::u).length R0 w.length R=CC u.length R0 w.length R+(R0+CC u.length R0 w.length R+GG w.length R)+EE w.length R+1:=by rw[List.length_cons,CC];omega
  have h3:2^CC u.length R0 w.length R<=2^(CC u.length R0 w.length R+(R0+CC u.length R0 w.length R+GG w.length R)+EE w.length R):=Cb;rw[e2,Nat.pow_succ];omega
theorem El.CK {w u:AD} {R R0 s:Nat} {x:Re} (hw:Ag w) (G:TB R w) (hu:Ag u) (h:TB R0 u) (g:BW u w) (c:El u s x):El w (s+CC u.length R0 w.length R) x:=by
 obtain⟨K,F,f,hb⟩:=XZ hw G hu h g;obtain⟨D,j,m,h3,v⟩:=c.bd;refine⟨g _ c.mem,D*K,Nat.mul_pos j F,?_,(hb (B:=0) c.mem).1 h3,?_⟩
 ·rw[Nat.pow_add];exact Nat.mul_le_mul m f
 rw[Nat.pow_add];exact (hb (D:=0) c.mem).2 v
inductive Tf (P:AD->Prop):AD->Prop
 | nil:Tf P []
 | BK {u:AD} {r0:List Rat} {u0:AD}:Tf P u->P (r0::u0)->BW u0 u->Tf P (BK u (AQ u0 r0))
structure Cg (P:AD->Prop) (R0:Nat):Prop where
 red:∀{u},P u->Ag u
 tb:∀{u},P u->TB R0 u
 sub:∀{r u},P (r::u)->P u
section
variable {P:AD->Prop} {R0:Nat}
theorem Tf.red (I:Cg P R0) {u:AD} (h:Tf P u):Ag u:=by
 induction h with
 | nil=>trivial
 | BK _ c f g=>exact Uv g (f _ (B0 (I.red c))) (I.red c).2.2.1
theorem jU {u:AD} {r:List Rat} (h:Ag (r::u)):BK u (AQ u r)=r::u:=by rw[Dp h.2.2.2,E0 h]
theorem Tf.of (I:Cg P R0):∀{u:AD},P u->Tf P u
 | [],_=> .nil
 | r::u,h=>by
  have:=Tf.BK (Tf.of I (I.sub h)) h (BW.refl u);rwa [jU (I.red h)] at this
theorem Tf.gen (I:Cg P R0) {w:AD} (h:Tf P w):∀{r:List Rat} {u:AD},w=r::u->Tf P u/\∃r0 c,P (r0::c)/\AQ c r0=AQ u r/\BW c u:=by
 induction h with
 | nil=>intro r u e;cases e
 | @BK v r0 c ht g f m=>
  intro r u e
  by_cases j:Sq v (AQ c r0)
  ·rw[EK j] at e;exact m e
  rw[Dp j] at e;obtain⟨rfl,rfl⟩:=List.cons.inj e;exact⟨ht,r0,c,g,(ES (f _ (B0 (I.red g)))).symm,f⟩
theorem Tf.sub (I:Cg P R0) {r:List Rat} {u:AD} (h:Tf P (r::u)):Tf P u:=(h.gen I rfl).1
theorem Tf.R8 (I:Cg P R0) {t u:AD} {r:List Rat} (ht:Tf P t) (h:Tf P (r::u)) (f:BW u t):Tf P (Go.Abs.BK t (AQ u r)):=by
 obtain⟨_,r0,j,g,e,c⟩:=h.gen I rfl;rw[<-e];exact .BK ht g (c.trans f)
theorem Uw:∀{u:AD},Ag u->BW u []->u=[]
 | [],_,_=>rfl
 | r::u,h,c=>by
  have hu:=Uw h.1 c.tail;subst hu;exact absurd ⟨_,c.root,Cz h⟩ h.2.2.2
theorem ba {r q:List Rat} {s:List Rat} (h:Ag [q,r]) (I:Ag [s]) (J:BW [q,r] [s]):False:=by
 have F:=h.1;obtain⟨a,b,ha,hb,e⟩:=Ci.1 J.tail.root;have L:=Cz F;have G:=Cz I;have g:Ag ([]:AD):=trivial
 by_cases v:b=0
 ·exact F.2.2.2 ⟨a,ha,by rw[<-L,e,v];grind⟩
 obtain⟨d,K,O⟩:=EU g hb v
 by_cases m:a=0
 ·have j:In [r] (rt [] s):=by
   have:rt [] s=d*rt [] r:=by rw[e,m];grind
   rw[this];exact Ak F (FU K) (Is [] r)
  have H:BW [s] [r]:=JT F (Ld _) j;exact h.2.2.2 ⟨_,H _ J.root,Cz h⟩
 obtain⟨c,Q,M⟩:=EU g ha m
 have W:Re.ofRat (1/2)*(1+1)=1:=by
  rw[show (1:Re)=Re.ofRat 1 from rfl,<-Re.ofRat_add,<-Re.ofRat_mul,show (1/2:Rat)*(1+1)=1 by decide +kernel]
 have U:=B0 F;have hw:=B0 I
 have key:rt [] s=(AQ [] r-a*a-b*b*AQ [] s)*(c*d*Re.ofRat (1/2)):=by
  rw[<-L,<-G,e];generalize rt [] s=t at *;generalize Re.ofRat (1/2)=f at *;grind
 have j:In [] (rt [] s):=by
  rw[key];exact Ak g (FT (FT U (Ak g ha ha)) (Ak g (Ak g hb hb) hw)) (Ak g (Ak g Q K) (Fy _ []))
 exact I.2.2.2 ⟨_,j,G⟩
def RR (R0:Nat):Nat->Nat
 | 0=>R0
 | h+1=>max (RR R0 h) (R0+CC (min h 2) R0 h (RR R0 h))
theorem WH {R0 h h':Nat} (c:h<=h'):RR R0 h<=RR R0 h':=by
 induction c with
 | refl=>exact Nat.le_refl _
 | step _ f=>exact Nat.le_trans f (Nat.le_max_left _ _)
theorem TB.mono {R R':Nat} {u:AD} (h:TB R u) (hR:R<=R'):TB R' u:=fun r c=>(h r c).mono hR
theorem Tf.tb (I:Cg P R0) (hm:∀{u},Tf P u->u.length<=3) {u:AD} (h:Tf P u):TB (RR R0 u.length) u:=by
 induction h with
 | nil=>intro r j;simp at j
 | @BK u r0 f ht g m G=>
  by_cases J:Sq u (AQ f r0)
  ·rw[EK J];exact G
  have H:=hm (Tf.BK ht g m);have F:=hm (Tf.of I g);rw[Dp J] at H ⊢;rw[List.length_cons] at H F;intro r j;rcases List.mem_cons.1 j with rfl | j
  ·have c:=I.red g;have v:El f R0 (AQ f r0):=⟨B0 c,by rw[E0 c];exact (I.tb g).head⟩;have:=(v.CK (ht.red I) G c.1 (I.tb g).tail m).bd;refine this.mono ?_;rw[List.length_cons,RR]
   have L:f.length<=min u.length 2:=by
    have K:f.length<=2:=AA
    cases u with
    | nil=>rw[Uw c.1 m];exact Nat.zero_le _
    | cons s M=>
     cases M with
     | nil=>
      cases f with
      | nil=>exact Nat.zero_le _
      | cons q O=>
       cases O with
       | nil=>exact Nat.le_refl 1
       | cons r Q=>
        have:Q=[]:=List.eq_nil_of_length_eq_zero (by simp only[List.length_cons] at K;omega);subst this;exact (ba c.1 (ht.red I) m).elim
     | cons _ _=>simp only[List.length_cons];omega
   have:=KE (k:=f.length) (k':=min u.length 2) (R0:=R0) (IX:=R0) (h:=u.length) (h':=u.length) (R:=RR R0 u.length) (R':=RR R0 u.length) L (Nat.le_refl _) (Nat.le_refl _) (Nat.le_refl _);omega
  exact (G r j).mono (WH (by rw[List.length_cons];omega))
theorem Tf.TG (I:Cg P R0) (hm:∀{u},Tf P u->u.length<=3) {R C S:Nat} (hR:RR R0 3<=R) (g:R<=S) (v:CC 3 R 3 R<=C) (j:∀h,h<=3->Fit h R (S+C)) (F:2*(S+C)+EE 3 R<=60000000000000):Gam (Tf P) R C S:=by
 have c:∀{u},Tf P u->TB R u:=fun {u} h=>(h.tb I hm).mono (Nat.le_trans (WH (hm h)) hR)
 refine⟨fun {u} h=>⟨h.red I,c h,AA,by have:=hm h;omega⟩,fun {u} h=>by have:=hm h;omega,.nil,fun {r u} h=>h.sub I,fun {t r u} ht h f=>ht.R8 I h f,fun {u w s x} hu hw f m=>?_,fun {u} h=>j _ (hm h),fun {u} h=>?_,g⟩
 ·refine (m.CK (hw.red I) (c hw) (hu.red I) (c hu) f).mono ?_;have:=KE (k:=u.length) (k':=3) (R0:=R) (IX:=R) (h:=w.length) (h':=3) (R:=R) (R':=R) (hm hu) (Nat.le_refl _) (hm hw) (Nat.le_refl _);omega
 have:=Ht (h:=u.length) (h':=3) (R:=R) (R':=R) (hm h) (Nat.le_refl _);omega
def BH:AD->List Re
 | []=>[]
 | r::u=>AQ u r::BH u
theorem KA:∀u:AD,(BH u).length=u.length
 | []=>rfl
 | r::u=>by rw[BH,List.length_cons,List.length_cons,KA u]
theorem Mi:∀{u:AD} {v:Re},v∈BH u->In u (Re.sqrt v)
 | [],v,h=>by simp[BH] at h
 | r::u,v,h=>by
  rcases List.mem_cons.1 h with rfl | h
  ·exact Is u r
  exact FU (Mi h)
theorem HP:∀{u:AD},Ag u->(BH u).Nodup
 | [],_=>List.nodup_nil
 | r::u,h=>by
  rw[BH,List.nodup_cons];refine⟨fun hm=>h.2.2.2 ⟨_,Mi hm,Re.G3 (by have:=h.2.2.1;grind)⟩,HP h.1⟩
theorem Tf.BH (I:Cg P R0) {V:List Re} (hV:∀{u},P u->∀v∈BH u,v∈V) {u:AD} (h:Tf P u):∀v∈Go.Abs.BH u,v∈V:=by
 induction h with
 | nil=>intro v c;simp[Go.Abs.BH] at c
 | @BK u r0 F ht f m j=>
  by_cases g:Sq u (AQ F r0)
  ·rw[EK g];exact j
  rw[Dp g];intro v c;rcases List.mem_cons.1 c with rfl | c
  ·rw[ES (m _ (B0 (I.red f)))];exact hV f _ List.mem_cons_self
  exact j v c
theorem Jl {α:Type}:∀{l m:List α},l.Nodup->(∀x∈l,x∈m)->l.length<=m.length
 | [],_,_,_=>Nat.zero_le _
 | x::l,m,h,hm=>by
  rw[List.nodup_cons] at h;obtain⟨a,b,rfl⟩:=List.append_of_mem (hm x List.mem_cons_self)
  have:=Jl (l:=l) (m:=a++b) h.2 (fun y f=>by
   have g:=hm y (List.mem_cons_of_mem _ f);rcases List.mem_append.1 g with c | c
   ·exact List.mem_append_left _ c
   rcases List.mem_cons.1 c with rfl | c
   ·exact absurd f h.1
   exact List.mem_append_right _ c)
  rw[List.length_cons,List.length_append,List.length_cons];rw[List.length_append] at this;omega
theorem Tf.len (I:Cg P R0) {V:List Re} (hV:∀{u},P u->∀v∈Go.Abs.BH u,v∈V) {u:AD} (h:Tf P u):u.length<=V.length:=by
 rw[<-KA];exact Jl (HP (h.red I)) (h.BH I hV)
end
end
section
def GC (k i:Nat):Bool:=k/2^i%2==1
def DB (i:Nat):Nat->List Rat->Bool
 | _,[]=>false
 | k,q::l=>(GC k i&&q !=0)||DB i (k+1) l
def Bt (i:Nat):Nat->List Rat->List Rat
 | _,[]=>[]
 | k,q::l=>if GC k i=true then Bt i (k+1) l else q::Bt i (k+1) l
variable {w:AD} {x:Re}
theorem UQ (i:Nat):∀(k:Nat) (a b:List Rat),DB i k (a++b)=(DB i k a||DB i (k+a.length) b)
 | k,[],b=>by simp[DB]
 | k,q::a,b=>by
  rw[List.cons_append,DB,DB,UQ i (k+1) a b,List.length_cons,Bool.or_assoc,(AA:k+1+a.length=k+(a.length+1))]
theorem RM (i:Nat):∀(k:Nat) (a b:List Rat),Bt i k (a++b)=Bt i k a++Bt i (k+a.length) b
 | k,[],b=>by simp[Bt]
 | k,q::a,b=>by
  rw[List.cons_append,Bt,Bt,RM i (k+1) a b,List.length_cons,(AA:k+1+a.length=k+(a.length+1))]
  split <;> simp
theorem Xn (k i c:Nat):GC (k+2^(i+1)*c) i=GC k i:=by
 unfold GC;rw[Nat.pow_succ,Nat.mul_assoc,Nat.add_mul_div_left _ _ (Nat.two_pow_pos i),Nat.add_mul_mod_self_left]
theorem aL (i c:Nat):∀(k:Nat) (l:List Rat),DB i (k+2^(i+1)*c) l=DB i k l
 | _,[]=>rfl
 | k,q::l=>by
  rw[DB,DB,Xn,(AA:k+2^(i+1)*c+1=k+1+2^(i+1)*c),aL i c (k+1) l]
theorem fJ (i c:Nat):∀(k:Nat) (l:List Rat),Bt i (k+2^(i+1)*c) l=Bt i k l
 | _,[]=>rfl
 | k,q::l=>by
  rw[Bt,Bt,Xn,(AA:k+2^(i+1)*c+1=k+1+2^(i+1)*c),fJ i c (k+1) l]
theorem jt {k i:Nat} (h:k<2^i):GC k i=false:=by unfold GC;rw[Nat.div_eq_of_lt h];rfl
theorem Xl {k i:Nat} (h:2^i<=k) (c:k<2^i+2^i):GC k i=true:=by
 unfold GC
 have:k/2^i=1:=by
  rw[Nat.div_eq_iff (Nat.two_pow_pos i)];omega
 rw[this];rfl
theorem fI (i:Nat):∀(k:Nat) (l:List Rat),k+l.length<=2^i->Bt i k l=l
 | _,[],_=>rfl
 | k,q::l,h=>by
  rw[List.length_cons] at h;rw[Bt,jt AA,fI i (k+1) l AA];rfl
theorem fG (i:Nat):∀(k:Nat) (l:List Rat),2^i<=k->k+l.length<=2^i+2^i->Bt i k l=[]
 | _,[],_,_=>rfl
 | k,q::l,h,c=>by
  rw[List.length_cons] at c;rw[Bt,Xl h AA,fG i (k+1) l AA AA];rfl
theorem aK (i:Nat):∀(k:Nat) (l:List Rat),2^i<=k->k+l.length<=2^i+2^i->DB i k l=false->∀q∈l,q=0
 | _,[],_,_,_=>Ai
 | k,q::l,h,f,h3=>by
  rw[List.length_cons] at f;rw[DB,Xl h AA] at h3;simp only[Bool.true_and,Bool.or_eq_false_iff,bne_eq_false_iff_eq] at h3;intro x c;rcases List.mem_cons.1 c with rfl | c
  ·exact h3.1
  exact aK i (k+1) l AA AA h3.2 x c
theorem RN (i:Nat):∀(k:Nat) (l:List Rat),∀q∈Bt i k l,q∈l
 | _,[],q,h=>h
 | k,x::l,q,h=>by
  rw[Bt] at h
  split at h
  ·exact List.mem_cons_of_mem _ (RN i (k+1) l q h)
  rcases List.mem_cons.1 h with rfl | h
  ·exact List.mem_cons_self
  exact List.mem_cons_of_mem _ (RN i (k+1) l q h)
theorem YV {r:List Rat} {u:AD}:∀{v:AD},Ag (v++r::u)->(∀s∈v,DB u.length 0 s=false)->
  Ag (v.map (Bt u.length 0)++u)/\BW (v.map (Bt u.length 0)++u) (v++r::u)/\(∀x∈BH (v.map (Bt u.length 0)++u),x∈BH (v++r::u))/\
  ∀{x:Re},In (v++r::u) x->DB u.length 0 (co (v++r::u) x)=false->In (v.map (Bt u.length 0)++u) x/\co (v.map (Bt u.length 0)++u) x=Bt u.length 0 (co (v++r::u) x)
 | [],h,_=>by
  refine⟨h.1,fun x c=>FU c,fun x c=>List.mem_cons_of_mem _ c,fun {x} c H=>?_⟩;obtain⟨p,q,F,G,rfl⟩:=Ci.1 c;have e:=DE h F G rfl;have I:=C4 F;have lq:=C4 G;simp only[List.nil_append,List.map_nil] at*;rw[e,UQ,I,Nat.zero_add,Bool.or_eq_false_iff] at H;have K:q=0:=(NP h.1 G).1 (aK _ _ _ (Nat.le_refl _) AA H.2);subst K;have ex:p+0*rt u r=p:=by grind
  rw[e,RM,I,Nat.zero_add,fI _ _ _ AA,fG _ _ _ (Nat.le_refl _) AA,List.append_nil,ex];exact⟨F,rfl⟩
 | s::v,h,H=>by
  have h:Ag (s::(v++r::u)):=h;obtain⟨W,O,h3,J⟩:=YV (v:=v) h.1 (fun t ht=>H t (List.mem_cons_of_mem _ ht));have L:=H s List.mem_cons_self;have M:In (v++r::u) (AQ (v++r::u) s):=B0 h
  show Ag (Bt u.length 0 s::(v.map (Bt u.length 0)++u))/\BW (Bt u.length 0 s::(v.map (Bt u.length 0)++u)) (s::(v++r::u))/\(∀x∈BH (Bt u.length 0 s::(v.map (Bt u.length 0)++u)),x∈BH (s::(v++r::u)))/\
   ∀{x:Re},In (s::(v++r::u)) x->DB u.length 0 (co (s::(v++r::u)) x)=false->In (Bt u.length 0 s::(v.map (Bt u.length 0)++u)) x/\co (Bt u.length 0 s::(v.map (Bt u.length 0)++u)) x=Bt u.length 0 (co (s::(v++r::u)) x)
  have cs:co (v++r::u) (AQ (v++r::u) s)=s:=E0 h;obtain⟨k1,k2⟩:=J M (by rw[cs];exact L);rw[cs] at k2;have f:AQ (v.map (Bt u.length 0)++u) (Bt u.length 0 s)=AQ (v++r::u) s:=by rw[<-k2,ES k1]
  have j:Ag (Bt u.length 0 s::(v.map (Bt u.length 0)++u)):=by
   refine⟨W,by rw[<-k2];exact C4 k1,by rw[f];exact h.2.2.1,?_⟩;rw[f]
   rintro⟨w,hw,e⟩
   exact h.2.2.2 ⟨w,O w hw,e⟩
  have g:rt (v.map (Bt u.length 0)++u) (Bt u.length 0 s)=rt (v++r::u) s:=by rw[rt,rt,f]
  have hlen:2^(v++r::u).length=2^(u.length+1)*2^v.length:=by rw[<-Nat.pow_add];congr 1;simp;omega
  refine⟨j,JT h (O.trans fun x c=>FU c) (by rw[g];exact Is _ _),fun x c=>?_,fun {x} c m=>?_⟩
  ·rcases List.mem_cons.1 c with rfl | c
   ·exact List.mem_cons.2 (.inl f)
   exact List.mem_cons_of_mem _ (h3 x c)
  obtain⟨p,q,F,G,rfl⟩:=Ci.1 c;have e:=DE h F G rfl;have I:=C4 F;rw[e,UQ,I,hlen,aL,Bool.or_eq_false_iff] at m;obtain⟨Q,Y⟩:=J F m.1;obtain⟨U,Z⟩:=J G m.2;rw[<-g];refine⟨Ci.2 ⟨p,q,Q,U,rfl⟩,?_⟩;rw[g,e,RM,I,hlen,fJ,<-Y,<-Z,<-g];exact DE j Q U rfl
def Mb (i:Nat) (s:AD×List Rat):AD×List Rat:=
 if (DB i 0 s.2||(s.1.drop (i+1)).any (DB i 0))=true then s else (s.1.take i++(s.1.drop (i+1)).map (Bt i 0),Bt i 0 s.2)
def Hq:Nat->AD×List Rat->AD×List Rat
 | 0,s=>s
 | i+1,s=>Hq i (Mb i s)
structure IY (w:AD) (x:Re) (w':AD):Prop where
 red:Ag w'
 mem:In w' x
 CK:BW w' w
 BH:∀v∈BH w',v∈BH w
 len:w'.length<=w.length
 I0:∀s∈w',∃t∈w,∀q∈s,q∈t
 cos:∀q∈co w' x,q∈co w x
theorem IY.refl (h:Ag w) (f:In w x):IY w x w:=⟨h,f,BW.refl w,fun _ h=>h,Nat.le_refl _,fun s c=>⟨s,c,fun _ h=>h⟩,fun _ h=>h⟩
theorem IY.trans {w' c:AD} (h:IY w x w') (k:IY w' x c):IY w x c:=
 ⟨k.red,k.mem,k.CK.trans h.CK,fun v F=>h.BH v (k.BH v F),Nat.le_trans k.len h.len,fun s m=>by
  obtain⟨t,ht,f⟩:=k.I0 s m;obtain⟨t2,j,g⟩:=h.I0 t ht;exact⟨t2,j,fun q G=>g q (f q G)⟩,fun q f=>h.cos q (k.cos q f)⟩
theorem eK {i:Nat} (h:Ag w) (m:In w x) (J:i<w.length):∃w',Mb i (w.reverse,co w x)=(w'.reverse,co w' x)/\IY w x w'/\i<=w'.length:=by
 unfold Mb
 split
 ·exact⟨w,rfl,.refl h m,AA⟩
 rename_i j
 obtain⟨v,r,u,rfl,rfl⟩:∃v r u,w=v++r::u/\i=u.length:=by
  refine⟨w.take (w.length-1-i),w[w.length-1-i]'AA,w.drop (w.length-1-i+1),?_,by rw[List.length_drop];omega⟩;rw[<-List.drop_eq_getElem_cons,List.take_append_drop]
 have c:(v++r::u).reverse=u.reverse++r::v.reverse:=Ai
 have I:(v++r::u).reverse.drop (u.length+1)=v.reverse:=by
  rw[c,(Ai:u.reverse++r::v.reverse=(u.reverse++[r])++v.reverse)];exact List.drop_left' Ai
 have ht:(v++r::u).reverse.take u.length=u.reverse:=by
  rw[c];exact List.take_left' Ai
 simp only[I,ht,Bool.not_eq_true,Bool.or_eq_false_iff] at j ⊢
 obtain⟨F,G,h3,H⟩:=YV h (fun s f=>by
  have:=List.any_eq_false.1 j.2 s (List.mem_reverse.2 f);simpa using this)
 obtain⟨k1,k2⟩:=H m j.1;refine⟨v.map (Bt u.length 0)++u,?_,⟨F,k1,G,h3,Ai,fun s f=>?_,fun q g=>?_⟩,Ai⟩
 ·rw[k2,List.reverse_append,List.map_reverse]
 ·rcases List.mem_append.1 f with f | f
  ·obtain⟨t,ht,rfl⟩:=List.mem_map.1 f;exact⟨t,List.mem_append_left _ ht,fun q g=>RN _ _ _ q g⟩
  exact⟨s,List.mem_append_right _ (List.mem_cons_of_mem _ f),fun _ h=>h⟩
 rw[k2] at g;exact RN _ _ _ q g
theorem VX:∀{i:Nat} {w:AD} {x:Re},Ag w->In w x->i<=w.length->∃w',Hq i (w.reverse,co w x)=(w'.reverse,co w' x)/\IY w x w'
 | 0,w,x,h,c,_=>⟨w,rfl,.refl h c⟩
 | i+1,w,x,h,c,f=>by
  obtain⟨j,e1,t1,l1⟩:=eK h c f;obtain⟨g,e2,t2⟩:=VX t1.red t1.mem l1;exact⟨g,by rw[Hq,e1,e2],t1.trans t2⟩
end
end Go.Abs
