/- Part 5 of a proof. Conditions: each theorem's own. -/
import Derived.Test.YthegappccffcjaaGreatDoorCr03
set_option linter.all false
set_option maxHeartbeats 80000000
set_option maxRecDepth 20000
namespace Go.Abs
open Go.RowKit
section
def AW:AH->List Rat->Re
 | [],a=>Re.ofRat (a.headD 0)
 | r::u,a=>AW u (a.take (2^u.length))+AW u (a.drop (2^u.length))*Re.sqrt (AW u r)
def rt (u:AH) (r:List Rat):Re:=Re.sqrt (AW u r)
def In (u:AH) (x:Re):Prop:=∃a:List Rat,a.length=2^u.length/\AW u a=x
def BG:AH->Prop
 | []=>True
 | r::u=>BG u/\r.length=2^u.length/\0<AW u r/\¬∃w,In u w/\w*w=AW u r
noncomputable def co (u:AH) (x:Re):List Rat:=by
 classical
 exact if h:In u x then Classical.choose h else []
variable {a:List Rat} {p x y:Re}
theorem Cg (r:List Rat) (u:AH):2^(r::u).length=2^u.length+2^u.length:=by
 rw[List.length_cons,Nat.pow_succ];omega
theorem DV:In [] x↔∃q,x=Re.ofRat q:=by
 constructor
 ·rintro⟨a,_,rfl⟩;exact⟨_,rfl⟩
 rintro⟨q,rfl⟩;exact⟨[q],rfl,rfl⟩
theorem DJ {r:List Rat} {u:AH}:In (r::u) x↔∃p q,In u p/\In u q/\x=p+q*rt u r:=by
 constructor
 ·rintro⟨a,ha,rfl⟩
  rw[Cg] at ha;exact⟨_,_,⟨a.take (2^u.length),by rw[List.length_take];omega,rfl⟩,⟨a.drop (2^u.length),by rw[List.length_drop];omega,rfl⟩,rfl⟩
 rintro⟨p,q,⟨a,ha,rfl⟩,⟨b,hb,rfl⟩,rfl⟩
 refine⟨a++b,by rw[Cg,List.length_append];omega,?_⟩;rw[AW,<-ha,List.take_left,List.drop_left];rfl
theorem QR:∀(u:AH) (a b:List Rat),a.length=2^u.length->b.length=2^u.length->AW u (List.zipWith (· + ·) a b)=AW u a+AW u b
 | [],a,b,ha,hb=>by
  match a,b,ha,hb with
  | [p],[q],_,_=>exact Re.ofRat_add p q
 | r::u,a,b,ha,hb=>by
  rw[Cg] at ha hb;rw[AW,AW,AW,List.take_zipWith,List.drop_zipWith,QR u _ _ (by rw[List.length_take];omega) (by rw[List.length_take];omega),QR u _ _ (by rw[List.length_drop];omega) (by rw[List.length_drop];omega)]
  grind
theorem QS:∀(u:AH) (a:List Rat),a.length=2^u.length->AW u (a.map (- ·))= -AW u a
 | [],a,ha=>by
  match a,ha with
  | [p],_=>exact Re.ofRat_neg p
 | r::u,a,ha=>by
  rw[Cg] at ha;rw[AW,AW,<-List.map_take,<-List.map_drop,QS u _ (by rw[List.length_take];omega),QS u _ (by rw[List.length_drop];omega)]
  grind
theorem N9:∀(u:AH) (n:Nat),AW u (List.replicate n 0)=0
 |[],0|[],n+1=>rfl
 | r::u,n=>by rw[AW,List.take_replicate,List.drop_replicate,N9,N9];grind
theorem IV (q:Rat):∀u,In u (Re.ofRat q)
 | []=>DV.2 ⟨q,rfl⟩
 | r::u=>DJ.2 ⟨_,_,IV q u,⟨List.replicate (2^u.length) 0,List.length_replicate,N9 u _⟩,by grind⟩
theorem Cs (u:AH):In u 0:=IV 0 u
theorem LN (u:AH):In u 1:=IV 1 u
theorem EM {u:AH}:In u x->In u y->In u (x+y)
 |⟨a,ha,c⟩,⟨b,hb,f⟩=>⟨List.zipWith (· + ·) a b,by rw[List.length_zipWith];omega,by rw[QR u a b ha hb,c,f]⟩
theorem HE {u:AH}:In u x->In u (-x)
 |⟨a,ha,c⟩=>⟨a.map (- ·),by rw[List.length_map,ha],by rw[QS u a ha,c]⟩
theorem GM {u:AH} (h:In u x) (k:In u y):In u (x-y):=by
 have:=EM h (HE k);rwa [show x+ -y=x-y by grind] at this
theorem DW {u:AH} {r:List Rat} (h:BG (r::u)):rt u r*rt u r=AW u r:=Re.Hn (by have:=h.2.2.1;grind)
theorem rE (u:AH) (r:List Rat):0<=rt u r:=Re.M4 _
theorem Ch {u:AH} {r:List Rat} (h:BG (r::u)):In u (AW u r):=⟨r,h.2.1,rfl⟩
theorem GN {u:AH} {r:List Rat} (h:In u x):In (r::u) x:=DJ.2 ⟨x,0,h,Cs u,by grind⟩
theorem Je (u:AH) (r:List Rat):In (r::u) (rt u r):=DJ.2 ⟨0,1,Cs u,LN u,by grind⟩
theorem BO:∀{u:AH} {x y:Re},BG u->In u x->In u y->In u (x*y)
 | [],x,y,_,f,g=>by
  obtain⟨p,rfl⟩:=DV.1 f;obtain⟨q,rfl⟩:=DV.1 g;exact DV.2 ⟨p*q,(Re.ofRat_mul p q).symm⟩
 | r::u,x,y,h,f,g=>by
  obtain⟨a,b,ha,hb,rfl⟩:=DJ.1 f;obtain⟨c,d,j,m,rfl⟩:=DJ.1 g;have v:=DW h;refine DJ.2 ⟨a*c+b*d*AW u r,a*d+b*c,EM (BO h.1 ha j) (BO h.1 (BO h.1 hb m) (Ch h)),EM (BO h.1 ha m) (BO h.1 hb j),?_⟩
  grind
theorem ae {u:AH} {r:List Rat} (h:BG (r::u)) {w:Re} (hw:In u w):w*w≠AW u r:=fun e=>h.2.2.2 ⟨w,hw,e⟩
theorem Ey:∀{u:AH} {x:Re},BG u->In u x->x≠0->∃y,In u y/\x*y=1
 | [],x,_,m,f=>by
  obtain⟨p,rfl⟩:=DV.1 m;have J:p≠0:=fun e=>f (by rw[e];rfl)
  refine⟨Re.ofRat p⁻¹,DV.2 ⟨_,rfl⟩,?_⟩;rw[<-Re.ofRat_mul,show p*p⁻¹=1 by grind];rfl
 | r::u,x,h,m,f=>by
  obtain⟨a,b,ha,hb,rfl⟩:=DJ.1 m;have K:=DW h
  have H:a*a-b*b*AW u r≠0:=by
   intro e
   by_cases g:b=0
   ·have F:a=0:=by
     have:a*a=0:=by grind
     rcases Re.Gx this with e | e <;> exact e
    exact f (by grind)
   obtain⟨c,G,j⟩:=Ey h.1 hb g
   exact ae h (BO h.1 ha G) (by
    have e1:a*a=b*b*AW u r:=by grind
    have e2:a*c*(a*c)=(b*c)*(b*c)*AW u r:=by grind
    rw[e2,j];grind)
  obtain⟨y,v,I⟩:=Ey h.1 (GM (BO h.1 ha ha) (BO h.1 (BO h.1 hb hb) (Ch h))) H;refine⟨a*y+ -(b*y)*rt u r,DJ.2 ⟨_,_,BO h.1 ha v,HE (BO h.1 hb v),rfl⟩,?_⟩
  grind
theorem indep {u:AH} {r:List Rat} (h:BG (r::u)) {q g f:Re} (H:In u p) (I:In u q) (j:In u g) (m:In u f) (e:p+q*rt u r=g+f*rt u r):p=g/\q=f:=by
 have J:=DW h
 by_cases F:q-f=0
 ·have:q=f:=by grind
  subst this;exact⟨by grind,rfl⟩
 exfalso
 obtain⟨c,G,v⟩:=Ey h.1 (GM I m) F;refine ae h (BO h.1 (GM j H) G) ?_;have e1:(q-f)*rt u r=g-p:=by grind
 have e2:(g-p)*c=rt u r*((q-f)*c):=by grind
 rw[e2,v];grind
theorem UD:∀{u:AH} {a b:List Rat},BG u->a.length=2^u.length->b.length=2^u.length->AW u a=AW u b->a=b
 | [],a,b,_,ha,hb,e=>by
  match a,b,ha,hb with
  | [p],[q],_,_=>exact congrArg (fun x=>[x]) (Re.Jm.1 e)
 | r::u,a,b,h,ha,hb,e=>by
  rw[Cg] at ha hb;have l1:(a.take (2^u.length)).length=2^u.length:=by rw[List.length_take];omega
  have l2:(a.drop (2^u.length)).length=2^u.length:=by rw[List.length_drop];omega
  have l3:(b.take (2^u.length)).length=2^u.length:=by rw[List.length_take];omega
  have c:(b.drop (2^u.length)).length=2^u.length:=by rw[List.length_drop];omega
  obtain⟨e1,e2⟩:=indep h ⟨_,l1,rfl⟩ ⟨_,l2,rfl⟩ ⟨_,l3,rfl⟩ ⟨_,c,rfl⟩ e;rw[<-List.take_append_drop (2^u.length) a,<-List.take_append_drop (2^u.length) b,UD h.1 l1 l3 e1,UD h.1 l2 c e2]
theorem Yd {u:AH} (h:In u x):(co u x).length=2^u.length/\AW u (co u x)=x:=by
 unfold co;rw[dif_pos h];exact Classical.choose_spec h
theorem Dg {u:AH} (h:In u x):(co u x).length=2^u.length:=(Yd h).1
theorem FE {u:AH} (h:In u x):AW u (co u x)=x:=(Yd h).2
theorem LD {u:AH} (h:BG u) (ha:a.length=2^u.length) (e:AW u a=x):co u x=a:=by
 have c:In u x:=⟨a,ha,e⟩;exact UD h (Dg c) ha ((FE c).trans e.symm)
theorem lJ {u:AH} (h:BG u) (ha:a.length=2^u.length):co u (AW u a)=a:=LD h ha rfl
theorem Nt {u:AH} (h:BG u) (c:In u x) (f:In u y):co u (x+y)=List.zipWith (· + ·) (co u x) (co u y):=
 LD h (by rw[List.length_zipWith,Dg c,Dg f];omega) (by rw[QR u _ _ (Dg c) (Dg f),FE c,FE f])
theorem MD {u:AH} (h:BG u) (c:In u x):co u (-x)=(co u x).map (- ·):=
 LD h (by rw[List.length_map,Dg c]) (by rw[QS u _ (Dg c),FE c])
theorem TR {u:AH} (h:BG u):co u 0=List.replicate (2^u.length) 0:=LD h List.length_replicate (N9 u _)
theorem Dq {u:AH} {r:List Rat} {q:Re} (h:BG (r::u)) (c:In u p) (f:In u q) (g:x=p+q*rt u r):co (r::u) x=co u p++co u q:=by
 refine LD h (by rw[List.length_append,Dg c,Dg f,Cg]) ?_;rw[AW,<-Dg c,List.take_left,List.drop_left,FE c,FE f,g];rfl
theorem Ed (q:Rat):co [] (Re.ofRat q)=[q]:=LD (u:=[]) trivial rfl rfl
theorem It (q:Rat):∀{u:AH},BG u->co u (Re.ofRat q)=q::List.replicate (2^u.length-1) 0
 | [],_=>Ed q
 | r::u,h=>by
  rw[Dq h (IV q u) (Cs u) (by grind),It q h.1,TR h.1,List.cons_append,List.replicate_append_replicate];have:1<=2^u.length:=Nat.one_le_two_pow;have:2^(r::u).length-1=2^u.length-1+2^u.length:=by rw[Cg];omega
  rw[this]
theorem lL {u:AH} {r:List Rat} {q:Re} (h:BG (r::u)) (c:In u p) (f:In u q) (g:x=p+q*rt u r):(co (r::u) x).take (2^u.length)=co u p:=by
 rw[Dq h c f g,<-Dg c,List.take_left]
theorem lK {u:AH} {r:List Rat} {q:Re} (h:BG (r::u)) (c:In u p) (f:In u q) (g:x=p+q*rt u r):(co (r::u) x).drop (2^u.length)=co u q:=by
 rw[Dq h c f g,<-Dg c,List.drop_left]
theorem Nv {u:AH} (h:BG u) (g:In u x):(∀c∈co u x,c=0)↔x=0:=by
 constructor
 ·intro f;have:co u x=List.replicate (2^u.length) 0:=List.eq_replicate_iff.2 ⟨Dg g,f⟩;rw[<-FE g,this,N9]
 rintro rfl c f;rw[TR h] at f;exact (List.mem_replicate.1 f).2
theorem rD {u:AH} {r:List Rat} (h:BG (r::u)):rt u r≠0:=by
 intro e;have c:=DW h;have:=h.2.2.1;rw[e] at c
 grind
theorem cW {u:AH} {r:List Rat} (h:BG (r::u)):0<rt u r:=by
 have:=rD h;have:=rE u r
 grind
end
section
def Sq (u:AH) (x:Re):Prop:=∃w,In u w/\w*w=x
variable {a b n t w x:Re} {r:List Rat} {u:AH}
theorem Rx:(2:Re)≠0:=by
 intro h
 have c:(0:Re)<1:=by
  have:=Re.Ia.2 (AF:(0:Rat)<1);exact this
 grind
theorem I3 {y:Re} (c:x≠0) (f:y≠0):x*y≠0:=fun h=>by rcases Re.Gx h with e | e;exact c e;exact f e
theorem eV (h:x*x=0):x=0:=by rcases Re.Gx h with e | e <;> exact e
theorem eO (h:BG (r::u)) (ha:In u a):Sq (r::u) a↔Sq u a\/∃i,In u i/\AW u r*i=1/\Sq u (a*i):=by
 have J:=DW h
 constructor
 ·rintro⟨w,hw,e⟩
  obtain⟨c,d,g,m,rfl⟩:=DJ.1 hw;have e2:(c*c+d*d*AW u r)+(2*c*d)*rt u r=a+0*rt u r:=by grind
  have H:In u (2*c*d):=by
   have:=EM (BO h.1 g m) (BO h.1 g m);rwa [show c*d+c*d=2*c*d by grind] at this
  obtain⟨I,G⟩:=indep h (EM (BO h.1 g g) (BO h.1 (BO h.1 m m) (Ch h))) H ha (Cs u) e2
  by_cases v:d=0
  ·left;exact⟨c,g,by grind⟩
  right
  have j:c=0:=by
   apply Classical.byContradiction;intro j;exact I3 (I3 Rx j) v G
  obtain⟨i,F,f⟩:=Ey h.1 (Ch h) (by have:=h.2.2.1;grind);exact⟨i,F,f,d,m,by grind⟩
 rintro (⟨w,hw,e⟩ |⟨i,F,f,w,hw,e⟩)
 ·exact⟨w,GN hw,e⟩
 refine⟨0+w*rt u r,DJ.2 ⟨0,w,Cs u,hw,rfl⟩,?_⟩;have:a=a*(AW u r*i):=by rw[f];grind
 grind
theorem eR (h:BG (r::u)) (ha:In u a) (hb:In u b) (hw:Sq (r::u) (a+b*rt u r)):∃c d,In u c/\In u d/\c*c+d*d*AW u r=a/\2*c*d=b:=by
 have F:=DW h;obtain⟨w,hw,e⟩:=hw;obtain⟨c,d,f,g,rfl⟩:=DJ.1 hw;have e2:(c*c+d*d*AW u r)+(2*c*d)*rt u r=a+b*rt u r:=by grind
 have v:In u (2*c*d):=by
  have:=EM (BO h.1 f g) (BO h.1 f g);rwa [show c*d+c*d=2*c*d by grind] at this
 obtain⟨j,m⟩:=indep h (EM (BO h.1 f f) (BO h.1 (BO h.1 g g) (Ch h))) v ha hb e2;exact⟨c,d,f,g,j,m⟩
theorem eS (h:BG (r::u)) (ha:In u a) (hb:In u b) (hw:Sq (r::u) (a+b*rt u r)):Sq u (a*a-b*b*AW u r):=by
 obtain⟨c,d,f,g,j,m⟩:=eR h ha hb hw;exact⟨c*c-d*d*AW u r,GM (BO h.1 f f) (BO h.1 (BO h.1 g g) (Ch h)),by grind⟩
theorem eT (h:BG (r::u)) (ha:In u a) (hb:In u b) (hw:Sq (r::u) (a+b*rt u r)) (g:n*n=a*a-b*b*AW u r) (ht:2*t=1):
  Sq u (t*(a+n))\/Sq u (t*(a-n)):=by
 obtain⟨c,d,F,G,m,v⟩:=eR h ha hb hw;have hm:(n-(c*c-d*d*AW u r))*(n+(c*c-d*d*AW u r))=0:=by grind
 rcases Re.Gx hm with e | e
 ·left
  have f:a+n=2*(c*c):=by clear g hm;grind
  have j:t*(2*(c*c))=2*t*(c*c):=by clear g hm m v f e;grind
  exact⟨c,F,by rw[f,j,ht];grind⟩
 right
 have f:a-n=2*(c*c):=by clear g hm;grind
 have j:t*(2*(c*c))=2*t*(c*c):=by clear g hm m v f e;grind
 exact⟨c,F,by rw[f,j,ht];grind⟩
theorem eK {c i ρ s:Re} (K:n*n=a*a-b*b*ρ) (ht:2*t=1) (L:s*s=ρ) (hw:w*w=t*(a+n)) (g:(w+w)*i=1) (m:c=w+b*i*s):c*c=a+b*s:=by
 have f:w≠0:=by intro e;subst e;grind
 have v:2*(w*w)=a+n:=by rw[hw];grind
 have F:(a+n)*(a-n)=b*b*ρ:=by grind
 have h3:2*(w*w)*(b*i*(b*i)*ρ)*2=b*b*ρ:=by
  have:2*(w*w)*(b*i*(b*i)*ρ)*2=b*b*ρ*(((w+w)*i)*((w+w)*i)):=by grind
  rw[this,g];grind
 have h:(a+n)*(2*(b*i*(b*i)*ρ)-(a-n))=0:=by grind
 have G:2*(b*i*(b*i)*ρ)-(a-n)=0:=by
  rcases Re.Gx h with e | e
  ·exfalso
   have:2*(w*w)=0:=by grind
   rcases Re.Gx this with e | e
   ·exact Rx e
   exact f (eV e)
  exact e
 have H:2*w*(b*i)=b:=by
  have:2*w*(b*i)=b*((w+w)*i):=by grind
  rw[this,g];grind
 have I:c*c=w*w+b*i*(b*i)*ρ+2*w*(b*i)*s:=by rw[m];grind
 have j:2*(w*w+b*i*(b*i)*ρ-a)=0:=by grind
 have J:w*w+b*i*(b*i)*ρ-a=0:=by
  rcases Re.Gx j with e | e
  ·exact absurd e Rx
  exact e
 grind
theorem eN (h:BG (r::u)) (c:b≠0) (j:n*n=a*a-b*b*AW u r) (ht:2*t=1) (hw:w*w=t*(a+n)):w≠0:=by
 intro e;subst e;have g:a+n=0:=by grind
 have f:b*b*AW u r=0:=by grind
 have h3:=h.2.2.1;rcases Re.Gx f with e | e
 ·exact c (eV e)
 grind
theorem eQ {q:Rat}:Sq [] (Re.ofRat q)↔∃r:Rat,0<=r/\r*r=q:=by
 constructor
 ·rintro⟨w,hw,e⟩
  obtain⟨r,rfl⟩:=DV.1 hw;rw[<-Re.ofRat_mul,Re.Jm] at e;rcases Rat.le_total (a:=0) (b:=r) with h | h
  ·exact⟨r,h,e⟩
  exact⟨-r,by grind,by grind⟩
 rintro⟨r,_,e⟩
 exact⟨Re.ofRat r,DV.2 ⟨r,rfl⟩,by rw[<-Re.ofRat_mul,e]⟩
end
section
def DN (D:Nat) (a:List Rat):Prop:=∀q∈a,∃n:Int,q*D=n
def MX (B:Nat) (a:List Rat):Prop:=∀q∈a,-(B:Rat)<=q/\q<=B
def Bd (k:Nat) (a:List Rat):Prop:=∃D:Nat,0<D/\D<=2^k/\DN D a/\MX (2^k) a
def TB (R:Nat) (u:AH):Prop:=∀r∈u,Bd R r
def EE:Nat->Nat->Nat
 | 0,_=>0
 | h+1,R=>2*EE h R+R+2
def II:Nat->Nat->Nat->Nat
 | 0,_,s=>2*s
 | h+1,R,s=>s+EE h R+II h R (2*s+2*EE h R+R+1)
def GG:Nat->Nat->Nat
 | 0,_=>0
 | h+1,R=>3*EE h R+R+1+2*GG h R+II h R R
theorem nZ {p q:Rat} (h:∃n:Int,p=n) (k:∃n:Int,q=n):∃n:Int,p+q=n:=by
 obtain⟨a,rfl⟩:=h;obtain⟨b,rfl⟩:=k;exact⟨a+b,by rw[Rat.intCast_add]⟩
theorem Zk {p q:Rat} (h:∃n:Int,p=n) (k:∃n:Int,q=n):∃n:Int,p*q=n:=by
 obtain⟨a,rfl⟩:=h;obtain⟨b,rfl⟩:=k;exact⟨a*b,by rw[Rat.intCast_mul]⟩
theorem na (k:Nat):∃n:Int,(k:Rat)=n:=⟨k,rfl⟩
theorem IL (a b:Nat):((a*b:Nat):Rat)=(a:Rat)*b:=Rat.natCast_mul a b
theorem DN.mul_right {D:Nat} {a:List Rat} (h:DN D a) (c:Nat):DN (D*c) a:=fun q f=>by
 have:=Zk (h q f) (na c);rwa [Rat.mul_assoc,<-IL] at this
theorem DN.dvd {D E:Nat} {a:List Rat} (h:DN D a) (f:D∣E):DN E a:=by
 obtain⟨c,rfl⟩:=f;exact h.mul_right c
theorem gB {a b:List Rat} {q:Rat} (h:q∈List.zipWith (· + ·) a b):∃x∈a,∃y∈b,q=x+y:=by
 obtain⟨i,c⟩:=List.mem_iff_getElem?.1 h;rw[List.getElem?_zipWith] at c;cases ha:a[i]? with
 | none=>rw[ha] at c;simp at c
 | some x=>
  cases hb:b[i]? with
  | none=>rw[ha,hb] at c;simp at c
  | some y=>
   rw[ha,hb] at c;exact⟨x,List.mem_of_getElem? ha,y,List.mem_of_getElem? hb,(Option.some.inj c).symm⟩
theorem DN.add {D:Nat} {a b:List Rat} (h:DN D a) (k:DN D b):DN D (List.zipWith (· + ·) a b):=fun q c=>by
 obtain⟨x,f,y,g,rfl⟩:=gB c;have:=nZ (h x f) (k y g);rwa [<-Rat.add_mul] at this
theorem DN.neg {D:Nat} {a:List Rat} (h:DN D a):DN D (a.map (- ·)):=fun q f=>by
 obtain⟨x,g,rfl⟩:=List.mem_map.1 f;obtain⟨n,c⟩:=h x g;exact⟨-n,by rw[Rat.intCast_neg,<-c,Rat.neg_mul]⟩
theorem MX.add {B C:Nat} {a b:List Rat} (h:MX B a) (k:MX C b):MX (B+C) (List.zipWith (· + ·) a b):=fun q c=>by
 obtain⟨x,f,y,g,rfl⟩:=gB c;have:=h x f;have:=k y g;rw[Rat.natCast_add]
 grind
theorem MX.neg {B:Nat} {a:List Rat} (h:MX B a):MX B (a.map (- ·)):=fun q c=>by
 obtain⟨x,f,rfl⟩:=List.mem_map.1 c;have:=h x f
 grind
theorem MX.mono {B C:Nat} {a:List Rat} (h:MX B a) (c:B<=C):MX C a:=fun q g=>by
 have:=h q g;have f:(B:Rat)<=C:=Rat.natCast_le_natCast.2 c
 grind
theorem DN.app {D:Nat} {a b:List Rat}:DN D (a++b)↔DN D a/\DN D b:=
 ⟨fun h=>⟨fun q c=>h q (List.mem_append_left _ c),fun q c=>h q (List.mem_append_right _ c)⟩,fun h q c=>(List.mem_append.1 c).elim (h.1 q) (h.2 q)⟩
theorem MX.app {B:Nat} {a b:List Rat}:MX B (a++b)↔MX B a/\MX B b:=
 ⟨fun h=>⟨fun q c=>h q (List.mem_append_left _ c),fun q c=>h q (List.mem_append_right _ c)⟩,fun h q c=>(List.mem_append.1 c).elim (h.1 q) (h.2 q)⟩
section
variable {u:AH} {x y:Re}
theorem Ye (h:BG u) (f:In u x) (c:In u y):co u (x-y)=List.zipWith (· + ·) (co u x) ((co u y).map (- ·)):=by
 rw[show x-y=x+ -y by grind,Nt h f (HE c),MD h c]
theorem DN.GY {D:Nat} (h:BG u) (c:In u x) (f:In u y) (a:DN D (co u x)) (b:DN D (co u y)):DN D (co u (x+y)):=by rw[Nt h c f];exact a.add b
theorem DN.Jz {D:Nat} (h:BG u) (c:In u x) (f:In u y) (a:DN D (co u x)) (b:DN D (co u y)):DN D (co u (x-y)):=by rw[Ye h c f];exact a.add b.neg
theorem MX.GY {B C:Nat} (h:BG u) (c:In u x) (f:In u y) (a:MX B (co u x)) (b:MX C (co u y)):MX (B+C) (co u (x+y)):=by rw[Nt h c f];exact a.add b
theorem MX.Jz {B C:Nat} (h:BG u) (c:In u x) (f:In u y) (a:MX B (co u x)) (b:MX C (co u y)):MX (B+C) (co u (x-y)):=by rw[Ye h c f];exact a.add b.neg
end
theorem QT:∀(u:AH) (c:Rat) (a:List Rat),a.length=2^u.length->AW u (a.map (c* ·))=Re.ofRat c*AW u a
 | [],c,a,ha=>by
  match a,ha with
  | [p],_=>exact Re.ofRat_mul c p
 | r::u,c,a,ha=>by
  rw[Cg] at ha;rw[AW,AW,<-List.map_take,<-List.map_drop,QT u _ _ (by rw[List.length_take];omega),QT u _ _ (by rw[List.length_drop];omega)]
  grind
theorem TP {u:AH} {x:Re} (h:BG u) (f:In u x) (c:Rat):co u (Re.ofRat c*x)=(co u x).map (c* ·):=
 LD h (by rw[List.length_map,Dg f]) (by rw[QT u c _ (Dg f),FE f])
theorem OE {u:AH} {x:Re} (f:In u x) (c:Rat):In u (Re.ofRat c*x):=
 ⟨(co u x).map (c* ·),by rw[List.length_map,Dg f],by rw[QT u c _ (Dg f),FE f]⟩
theorem MK {u:AH} {x:Re} (h:BG u) (m:In u x) {D c:Nat}:DN (D*c) (co u x)↔DN D (co u (Re.ofRat c*x)):=by
 rw[TP h m]
 constructor
 ·intro k q g;obtain⟨p,j,rfl⟩:=List.mem_map.1 g;obtain⟨n,f⟩:=k p j;exact⟨n,by rw[<-f,IL];grind⟩
 intro k q g;obtain⟨n,f⟩:=k _ (List.mem_map.2 ⟨q,g,rfl⟩);exact⟨n,by rw[<-f,IL];grind⟩
theorem Dz (k:Nat):0<2^k:=Nat.two_pow_pos k
theorem DI {a b:Nat} (h:a<=b:=by omega):2^a<=2^b:=Nat.pow_le_pow_right AF h
theorem TB.tail {R:Nat} {r:List Rat} {u:AH} (h:TB R (r::u)):TB R u:=fun x c=>h x (List.mem_cons_of_mem _ c)
theorem TB.head {R:Nat} {r:List Rat} {u:AH} (h:TB R (r::u)):Bd R r:=h r List.mem_cons_self
theorem FU {r:List Rat} {u:AH} (h:BG (r::u)):co u (AW u r)=r:=lJ h.1 h.2.1
theorem P7 {r:List Rat} {u:AH} {a b c d x y:Re} (h:BG (r::u)) (ha:In u a) (hb:In u b) (f:In u c) (g:In u d) (j:x=a+b*rt u r) (m:y=c+d*rt u r):
  co (r::u) (x*y)=co u (a*c+b*d*AW u r)++co u (a*d+b*c):=by
 have v:=DW h;exact Dq h (EM (BO h.1 ha f) (BO h.1 (BO h.1 hb g) (Ch h))) (EM (BO h.1 ha g) (BO h.1 hb f)) (by subst j;subst m;grind)
theorem LH:∀{u:AH} {R:Nat},BG u->TB R u->∃K:Nat,0<K/\K<=2^EE u.length R/\∀{x y:Re} {D m:Nat},In u x->In u y->DN D (co u x)->DN m (co u y)->DN (D*m*K) (co u (x*y))
 | [],R,_,_=>⟨1,AF,by simp[EE],fun {x y D m} I J h k=>by
  obtain⟨p,rfl⟩:=DV.1 I;obtain⟨q,rfl⟩:=DV.1 J;rw[Ed] at h k;rw[<-Re.ofRat_mul,Ed];intro z W;rw[List.mem_singleton.1 W];have:=Zk (h p List.mem_cons_self) (k q List.mem_cons_self);rw[IL,IL];rwa [show p*(D:Rat)*(q*(m:Rat))=p*q*(D*m*(1:Nat)) by have:((1:Nat):Rat)=1:=rfl;grind] at this⟩
 | r::u,R,h,O=>by
  obtain⟨K,M,F,hm⟩:=LH h.1 O.tail;obtain⟨E,Q,H,G,_⟩:=O.head;refine⟨K*K*E,Nat.mul_pos (Nat.mul_pos M M) Q,?_,fun {x y D m} I J f g=>?_⟩
  ·have L:K*K*E<=2^EE u.length R*2^EE u.length R*2^R:=Nat.mul_le_mul (Nat.mul_le_mul F F) H;rw[<-Nat.pow_add,<-Nat.pow_add] at L;exact Nat.le_trans L (DI (by rw[List.length_cons,EE];omega))
  obtain⟨a,b,ha,hb,rfl⟩:=DJ.1 I;obtain⟨c,d,v,j,rfl⟩:=DJ.1 J;rw[Dq h ha hb rfl,DN.app] at f;rw[Dq h v j rfl,DN.app] at g;rw[P7 h ha hb v j rfl rfl,DN.app];have U:DN E (co u (AW u r)):=by rw[FU h];exact G
  refine⟨DN.GY h.1 (BO h.1 ha v) (BO h.1 (BO h.1 hb j) (Ch h)) ((hm ha v f.1 g.1).dvd ⟨K*E,by grind⟩) ((hm (BO h.1 hb j) (Ch h) (hm hb j f.2 g.2) U).dvd ⟨1,by grind⟩),
   DN.GY h.1 (BO h.1 ha j) (BO h.1 hb v) ((hm ha j f.1 g.2).dvd ⟨K*E,by grind⟩) ((hm hb v f.2 g.1).dvd ⟨K*E,by grind⟩)⟩
theorem Ur {p q:Rat} {B C:Nat} (h: -(B:Rat)<=p/\p<=B) (k: -(C:Rat)<=q/\q<=C): -((B*C:Nat):Rat)<=p*q/\p*q<=((B*C:Nat):Rat):=by
 rw[IL];exact⟨oz h.2 h.1 k.2 k.1,Mh h.2 h.1 k.2 k.1⟩
theorem I4:∀{u:AH} {R:Nat},BG u->TB R u->∀{x y:Re} {B C:Nat},In u x->In u y->MX B (co u x)->MX C (co u y)->MX (B*C*2^EE u.length R) (co u (x*y))
 | [],R,_,_,x,y,B,C,G,H,h,k=>by
  obtain⟨p,rfl⟩:=DV.1 G;obtain⟨q,rfl⟩:=DV.1 H;rw[Ed] at h k;rw[<-Re.ofRat_mul,Ed];intro z Q;rw[List.mem_singleton.1 Q];have:=Ur (h p List.mem_cons_self) (k q List.mem_cons_self);rwa [show B*C*2^EE ([]:AH).length R=B*C by simp[EE]]
 | r::u,R,h,I,x,y,B,C,G,H,f,g=>by
  obtain⟨E,U,M,_,F⟩:=I.head;have v:=fun {x y:Re} {B C:Nat}=>I4 (R:=R) (x:=x) (y:=y) (B:=B) (C:=C) h.1 I.tail
  obtain⟨a,b,ha,hb,rfl⟩:=DJ.1 G;obtain⟨c,d,m,j,rfl⟩:=DJ.1 H;rw[Dq h ha hb rfl,MX.app] at f;rw[Dq h m j rfl,MX.app] at g;rw[P7 h ha hb m j rfl rfl,MX.app];have O:MX (2^R) (co u (AW u r)):=by rw[FU h];exact F
  have e:EE (r::u).length R=EE u.length R+EE u.length R+R+2:=by rw[List.length_cons,EE];omega
  rw[e,Nat.pow_add,Nat.pow_add,Nat.pow_add];have J:=Dz (EE u.length R);have L:=Dz R
  generalize 2^EE u.length R=K at*
  generalize 2^R=S at*
  have k1:B*C*K<=B*C*(K*K*S):=Nat.mul_le_mul_left _ (by
   have:K*1<=K*(K*S):=Nat.mul_le_mul_left _ (Nat.mul_pos J L);rw[Nat.mul_assoc];omega)
  have k2:B*C*K*S*K=B*C*(K*K*S):=by grind
  refine⟨(MX.GY h.1 (BO h.1 ha m) (BO h.1 (BO h.1 hb j) (Ch h)) (v ha m f.1 g.1) (v (BO h.1 hb j) (Ch h) (v hb j f.2 g.2) O)).mono ?_,
   (MX.GY h.1 (BO h.1 ha j) (BO h.1 hb m) (v ha j f.1 g.2) (v hb m f.2 g.1)).mono ?_⟩
  ·rw[k2];grind
  grind
end
section
variable {R s t:Nat} {p q x y:Re} {r:List Rat} {u:AH}
theorem Bd.mono {k l:Nat} {a:List Rat} (h:Bd k a) (c:k<=l):Bd l a:=by
 obtain⟨D,f,g,j,h3⟩:=h;exact⟨D,f,Nat.le_trans g (DI c),j,h3.mono (DI c)⟩
theorem X5 (h:BG u) (c:In u x) (f:In u y) (a:Bd s (co u x)) (b:Bd t (co u y)):Bd (s+t+1) (co u (x+y)):=by
 obtain⟨D,g,j,m,h3⟩:=a;obtain⟨E,k0,k1,k2,v⟩:=b;refine⟨D*E,Nat.mul_pos g k0,?_,DN.GY h c f (m.dvd ⟨E,rfl⟩) (k2.dvd ⟨D,Nat.mul_comm _ _⟩),(MX.GY h c f h3 v).mono ?_⟩
 ·have:=Nat.mul_le_mul j k1;rw[<-Nat.pow_add] at this;exact Nat.le_trans this (DI)
 have F:2^s<=2^(s+t):=DI;have G:2^t<=2^(s+t):=DI;rw[Nat.pow_succ];omega
theorem X8 (h:BG u) (j:In u x) (a:Bd s (co u x)):Bd s (co u (-x)):=by
 obtain⟨D,c,f,g,h3⟩:=a;rw[MD h j];exact⟨D,c,f,g.neg,h3.neg⟩
theorem kU (h:BG u) (f:In u x) (c:In u y) (a:Bd s (co u x)) (b:Bd t (co u y)):Bd (s+t+1) (co u (x-y)):=by
 rw[show x-y=x+ -y by grind];exact X5 h f (HE c) a (X8 h c b)
theorem kR (h:BG u) (f:TB R u) (g:In u x) (j:In u y) (a:Bd s (co u x)) (b:Bd t (co u y)):Bd (s+t+EE u.length R) (co u (x*y)):=by
 obtain⟨D,m,v,F,h3⟩:=a;obtain⟨E,k0,k1,k2,H⟩:=b;obtain⟨K,G,c,hm⟩:=LH h f;refine⟨D*E*K,Nat.mul_pos (Nat.mul_pos m k0) G,?_,hm g j F k2,(I4 h f g j h3 H).mono ?_⟩
 ·have:=Nat.mul_le_mul (Nat.mul_le_mul v k1) c;rwa [<-Nat.pow_add,<-Nat.pow_add] at this
 rw[<-Nat.pow_add,<-Nat.pow_add];exact Nat.le_refl _
theorem kS {q:Rat} (h:BG u) (a:Bd s [q]):Bd s (co u (Re.ofRat q)):=by
 obtain⟨D,f,g,j,h3⟩:=a;rw[It q h];refine⟨D,f,g,fun z c=>?_,fun z c=>?_⟩
 ·rcases List.mem_cons.1 c with rfl | c
  ·exact j z List.mem_cons_self
  rw[(List.mem_replicate.1 c).2];exact⟨0,by rw[Rat.zero_mul];rfl⟩
 rcases List.mem_cons.1 c with rfl | c
 ·exact h3 z List.mem_cons_self
 rw[(List.mem_replicate.1 c).2];have:(0:Rat)<=((2^s:Nat):Rat):=Rat.natCast_nonneg
 grind
theorem X7 (h:BG (r::u)) (j:In u p) (m:In u q) (a:Bd s (co (r::u) (p+q*rt u r))):Bd s (co u p)/\Bd s (co u q):=by
 obtain⟨D,f,g,c,h3⟩:=a;rw[Dq h j m rfl] at c h3;exact⟨⟨D,f,g,(DN.app.1 c).1,(MX.app.1 h3).1⟩,⟨D,f,g,(DN.app.1 c).2,(MX.app.1 h3).2⟩⟩
theorem Nj (h:BG (r::u)) (j:In u p) (m:In u q) (a:Bd s (co u p)) (b:Bd t (co u q)):Bd (s+t) (co (r::u) (p+q*rt u r)):=by
 obtain⟨D,c,f,g,h3⟩:=a;obtain⟨E,k0,k1,k2,v⟩:=b;rw[Dq h j m rfl];refine⟨D*E,Nat.mul_pos c k0,?_,DN.app.2 ⟨g.dvd ⟨E,rfl⟩,k2.dvd ⟨D,Nat.mul_comm _ _⟩⟩,MX.app.2 ⟨h3.mono (DI),v.mono (DI)⟩⟩;have:=Nat.mul_le_mul f k1;rwa [<-Nat.pow_add] at this
theorem Sw (h:BG (r::u)) (c:TB R (r::u)):Bd R (co u (AW u r)):=by rw[FU h];exact c.head
theorem X9 (h:BG (r::u)) (j:TB R (r::u)) (f:In u p) (c:In u q) (a:Bd s (co (r::u) (p+q*rt u r))):
  Bd (2*s+2*EE u.length R+R+1) (co u (p*p-q*q*AW u r)):=by
 obtain⟨D,G,H,I,h3⟩:=a;rw[Dq h f c rfl] at I h3;obtain⟨v,F⟩:=DN.app.1 I;obtain⟨mp,L⟩:=MX.app.1 h3;obtain⟨K,J,g,hm⟩:=LH h.1 j.tail;obtain⟨E,k0,k1,k2,O⟩:=j.head;have M:DN E (co u (AW u r)):=by rw[FU h];exact k2
 have m:MX (2^R) (co u (AW u r)):=by rw[FU h];exact O
 refine⟨D*D*K*E*K,Nat.mul_pos (Nat.mul_pos (Nat.mul_pos (Nat.mul_pos G G) J) k0) J,?_,DN.Jz h.1 (BO h.1 f f) (BO h.1 (BO h.1 c c) (Ch h)) ((hm f f v v).dvd ⟨E*K,by grind⟩) (hm (BO h.1 c c) (Ch h) (hm c c F F) M),
  (MX.Jz h.1 (BO h.1 f f) (BO h.1 (BO h.1 c c) (Ch h)) (I4 h.1 j.tail f f mp mp) (I4 h.1 j.tail (BO h.1 c c) (Ch h) (I4 h.1 j.tail c c L L) m)).mono ?_⟩
 ·have:=Nat.mul_le_mul (Nat.mul_le_mul (Nat.mul_le_mul (Nat.mul_le_mul H H) g) k1) g;rw[<-Nat.pow_add,<-Nat.pow_add,<-Nat.pow_add,<-Nat.pow_add] at this;exact Nat.le_trans this (DI)
 rw[<-Nat.pow_add,<-Nat.pow_add,<-Nat.pow_add,<-Nat.pow_add,Nat.pow_succ];have e1:2^(s+s+EE u.length R)<=2^(2*s+2*EE u.length R+R):=DI;have e2:2^(s+s+EE u.length R+R+EE u.length R)<=2^(2*s+2*EE u.length R+R):=DI;omega
theorem aU {a b:Nat} (h:a<=b):(a:Rat)<=b:=Rat.natCast_le_natCast.2 h
theorem kQ {q p:Rat} (h:Bd s [q]) (L:q*p=1):Bd (2*s) [p]:=by
 obtain⟨D,F,G,H,h3⟩:=h;obtain⟨n,g⟩:=H q List.mem_cons_self;have hb:=h3 q List.mem_cons_self;have U:(0:Rat)<D:=Rat.natCast_pos.2 F
 have J:n≠0:=by
  intro e;subst e;have:(D:Rat)=q*D*p:=by grind
  rw[g] at this;have F:((0:Int):Rat)=0:=rfl
  grind
 have f:p*(n:Rat)=D:=by rw[<-g];grind
 have c:(n.natAbs:Rat)=n\/(n.natAbs:Rat)= -n:=by
  rcases Int.natAbs_eq n with e | e
  ·left
   have:((n.natAbs:Int):Rat)=(n:Rat):=congrArg _ e.symm;exact this
  right
  have:((n.natAbs:Int):Rat)=((-n:Int):Rat):=congrArg _ AA;rw[Rat.intCast_neg] at this;exact this
 have K:(1:Rat)<=n.natAbs:=by
  have:1<=n.natAbs:=AA
  exact aU this
 have j:n.natAbs<=D*2^s:=by
  have e1:=Ur (C:=D) hb (q:=(D:Rat)) ⟨by grind,by grind⟩;rw[g,Nat.mul_comm] at e1;apply Rat.natCast_le_natCast.1;rcases c with e | e <;> rw[e] <;> grind
 refine⟨n.natAbs,AA,?_,fun z v=>?_,fun z v=>?_⟩
 ·have:=Nat.mul_le_mul_right (2^s) G;rw[<-Nat.pow_add] at this;exact Nat.le_trans j (Nat.le_trans this (DI))
 ·rw[List.mem_singleton.1 v];rcases c with e | e <;> rw[e]
  ·exact⟨D,f⟩
  exact⟨-D,by rw[Rat.intCast_neg,Rat.mul_neg,f];rfl⟩
 rw[List.mem_singleton.1 v];have M:(D:Rat)<=((2^(2*s):Nat):Rat):=aU (Nat.le_trans G (DI));have O:p=D\/True:= .inr trivial;have Q:p*(n.natAbs:Rat)=D\/p*(n.natAbs:Rat)= -D:=by rcases c with e | e <;> rw[e] <;> grind
 generalize (n.natAbs:Rat)=m at*
 generalize ((2^(2*s):Nat):Rat)=S at*
 have W:p<=D:=by
  apply Classical.byContradiction;intro I;have:=Rat.mul_pos (a:=p-D) (b:=m) (by grind) (by grind);have:=Rat.mul_nonneg (a:=(D:Rat)) (b:=m-1) (by grind) (by grind)
  grind
 have Y: -D<=p:=by
  apply Classical.byContradiction;intro I;have:=Rat.mul_pos (a:= -D-p) (b:=m) (by grind) (by grind);have:=Rat.mul_nonneg (a:=(D:Rat)) (b:=m-1) (by grind) (by grind)
  grind
 grind
theorem HX:∀{u:AH} {R:Nat} {x y:Re} {s:Nat},BG u->TB R u->In u x->In u y->x*y=1->Bd s (co u x)->Bd (II u.length R s) (co u y)
 | [],R,x,y,s,_,_,J,L,e,h=>by
  obtain⟨p,rfl⟩:=DV.1 J;obtain⟨q,rfl⟩:=DV.1 L;rw[Ed] at h ⊢;rw[<-Re.ofRat_mul] at e;exact kQ h (Re.Jm.1 e)
 | r::u,R,x,y,s,h,m,J,L,e,hb=>by
  obtain⟨a,b,ha,c,rfl⟩:=DJ.1 J;have hr:=DW h;have W:=X9 h m ha c hb;have f:=GM (BO h.1 ha ha) (BO h.1 (BO h.1 c c) (Ch h))
  have H:a*a-b*b*AW u r≠0:=by
   intro Y;have e1:(a+b*rt u r)*(a-b*rt u r)=0:=by grind
   rcases Re.Gx e1 with e2 | e2
   ·rw[e2] at e;have v:(0:Re)<1:=Re.Ia.2 (AF:(0:Rat)<1)
    grind
   obtain⟨Z,e4⟩:=indep h ha (HE c) (Cs u) (Cs u) (show a+ -b*rt u r=0+0*rt u r by grind);have:a+b*rt u r=0:=by grind
   rw[this] at e;have v:(0:Re)<1:=Re.Ia.2 (AF:(0:Rat)<1)
   grind
  obtain⟨i,g,j⟩:=Ey h.1 f H;have I:=HX h.1 m.tail f g j W
  have O:y=a*i+ -(b*i)*rt u r:=by
   have:y=(a+b*rt u r)*y*((a-b*rt u r)*i):=by
    have:(a+b*rt u r)*y*((a-b*rt u r)*i)=y*((a*a-b*b*AW u r)*i):=by grind
    rw[this,j];grind
   rw[e] at this
   grind
  obtain⟨D,Q,v,F,h3⟩:=hb;rw[Dq h ha c rfl] at F h3;obtain⟨E,k0,k1,k2,M⟩:=I;obtain⟨K,U,G,hm⟩:=LH h.1 m.tail;rw[O,Dq h (BO h.1 ha g) (HE (BO h.1 c g)) rfl,MD h.1 (BO h.1 c g),List.length_cons,II];have m1:=I4 h.1 m.tail ha g (MX.app.1 h3).1 M;have m2:=I4 h.1 m.tail c g (MX.app.1 h3).2 M;rw[<-Nat.pow_add,<-Nat.pow_add] at m1 m2;refine⟨D*E*K,Nat.mul_pos (Nat.mul_pos Q k0) U,?_,DN.app.2 ⟨hm ha g (DN.app.1 F).1 k2,(hm c g (DN.app.1 F).2 k2).neg⟩,MX.app.2 ⟨m1.mono (DI),(m2.mono (DI)).neg⟩⟩;have:=Nat.mul_le_mul (Nat.mul_le_mul v k1) G;rw[<-Nat.pow_add,<-Nat.pow_add] at this;exact Nat.le_trans this (DI)
end
section
variable {B:Nat} {u:AH} {x:Re}
theorem nd {r:Rat} {n:Int} (h:r*r=n):∃m:Int,r=m:=by
 have f:(r*r).den=1:=by rw[h];rfl
 have c:(r*r).den=r.den*r.den:=by
  have g:Nat.gcd (r.num*r.num).natAbs (r.den*r.den)=1:=by
   rw[Int.natAbs_mul];exact Nat.Coprime.mul_left (Nat.Coprime.mul_right r.reduced r.reduced) (Nat.Coprime.mul_right r.reduced r.reduced)
  rw[Rat.mul_def,Rat.normalize_eq];simp only[g,Nat.div_one]
 rw[f] at c;have h3:r.den=1:=Nat.eq_one_of_mul_eq_one_left c.symm;refine⟨r.num,?_⟩;have:=Mu r;rw[h3] at this;have e:((1:Nat):Rat)=1:=rfl
 grind
theorem aw {Y:Nat} {c e:Re} (h:e=2*(c*c)):Re.ofRat ((2*Y:Nat):Rat)*c*(Re.ofRat ((2*Y:Nat):Rat)*c)=Re.ofRat ((2*Y*Y:Nat):Rat)*e:=by
 subst h;have e2:Re.ofRat ((2:Nat):Rat)=2:=rfl;simp only[IL,Re.ofRat_mul,e2]
 grind
theorem Y0:∀{u:AH} {R:Nat},BG u->TB R u->∃G:Nat,0<G/\G<=2^GG u.length R/\∀{x w:Re} {D:Nat},In u w->w*w=x->DN D (co u x)->DN (D*G) (co u w)
 | [],R,_,_=>⟨1,AF,by simp[GG],fun {x w D} hw e h=>by
  obtain⟨p,rfl⟩:=DV.1 hw;subst e;rw[<-Re.ofRat_mul,Ed] at h;rw[Ed];intro z hz;rw[List.mem_singleton.1 hz];obtain⟨n,F⟩:=h _ List.mem_cons_self
  obtain⟨m,hm⟩:=nd (r:=p*D) (n:=n*D) (by
   rw[Rat.intCast_mul,<-F];have:((D:Int):Rat)=(D:Rat):=rfl
   grind)
  exact⟨m,by rw[Nat.mul_one];exact hm⟩⟩
 | r::u,R,h,Q=>by
  obtain⟨G,hG,M,U⟩:=Y0 h.1 Q.tail;obtain⟨K,hK,H,hm⟩:=LH h.1 Q.tail;obtain⟨E,hE,Z,Y,_⟩:=Q.head;have hr:=DW h;have a7:DN E (co u (AW u r)):=by rw[FU h];exact Y
  obtain⟨i,hi,W⟩:=Ey h.1 (Ch h) (by have:=h.2.2.1;grind);obtain⟨I,hI,a2,a1,_⟩:=HX h.1 Q.tail (Ch h) hi W (Sw h Q);refine⟨2*(K*K*E)*G*G*I*K,Nat.mul_pos (Nat.mul_pos (Nat.mul_pos (Nat.mul_pos (Nat.mul_pos AF (Nat.mul_pos (Nat.mul_pos hK hK) hE)) hG) hG) hI) hK,?_,fun {x w D} hw e J=>?_⟩
  ·have h1:=Nat.mul_le_mul (Nat.mul_le_mul (Nat.mul_le_mul (Nat.mul_le_mul (Nat.mul_le_mul (Nat.le_refl (2^1)) (Nat.mul_le_mul (Nat.mul_le_mul H H) Z)) M) M) a2) H;simp only[<-Nat.pow_add] at h1;exact Nat.le_trans h1 (DI (by rw[List.length_cons,GG];omega))
  obtain⟨c,d,j,v,rfl⟩:=DJ.1 hw
  have f:In u (2*c*d):=by
   have:=EM (BO h.1 j v) (BO h.1 j v);rwa [show c*d+c*d=2*c*d by grind] at this
  have g:=Ch h;have ha:=EM (BO h.1 j j) (BO h.1 (BO h.1 v v) g);have ex:x=(c*c+d*d*AW u r)+(2*c*d)*rt u r:=by rw[<-e];grind
  rw[ex,Dq h ha f rfl,DN.app] at J
  generalize hA:c*c+d*d*AW u r=a at*
  generalize hB:2*c*d=b at*
  have F:=GM (BO h.1 j j) (BO h.1 (BO h.1 v v) g)
  generalize hN:c*c-d*d*AW u r=n at*
  have O:=GM (BO h.1 ha ha) (BO h.1 (BO h.1 f f) g);have a5:n*n=a*a-b*b*AW u r:=by grind
  have d1:DN (D*D*(K*K*E)) (co u (a*a-b*b*AW u r)):=
   DN.Jz h.1 (BO h.1 ha ha) (BO h.1 (BO h.1 f f) g) ((hm ha ha J.1 J.1).dvd ⟨K*E,by grind⟩) ((hm (BO h.1 f f) g (hm f f J.2 J.2) a7).dvd ⟨1,by grind⟩)
  generalize K*K*E=C at*
  have d2:DN (D*C*G) (co u n):=by
   have k1:DN 1 (co u (Re.ofRat ((D*C*(D*C):Nat):Rat)*(a*a-b*b*AW u r))):=(MK h.1 O).1 (d1.dvd ⟨C,by grind⟩);have k2:=U (x:=Re.ofRat ((D*C*(D*C):Nat):Rat)*(a*a-b*b*AW u r)) (w:=Re.ofRat ((D*C:Nat):Rat)*n) (D:=1) (OE F _) (by rw[IL (D*C),Re.ofRat_mul,<-a5];grind) k1;exact ((MK h.1 F).2 k2).dvd ⟨1,by grind⟩
  have L:DN (D*C*G) (co u a):=J.1.dvd ⟨C*G,by grind⟩;have d3:DN (D*C*G) (co u (a+n)):=DN.GY h.1 ha F L d2;have d4:DN (D*C*G) (co u (a-n)):=DN.Jz h.1 ha F L d2
  have d5:DN (2*(D*C*G)*G) (co u c):=by
   have k1:DN 1 (co u (Re.ofRat ((2*(D*C*G)*(D*C*G):Nat):Rat)*(a+n))):=(MK h.1 (EM ha F)).1 (d3.dvd ⟨2*(D*C*G),by grind⟩);have k2:=U (x:=Re.ofRat ((2*(D*C*G)*(D*C*G):Nat):Rat)*(a+n)) (w:=Re.ofRat ((2*(D*C*G):Nat):Rat)*c) (D:=1) (OE j _) (aw (by clear U hm k1;grind)) k1;exact ((MK h.1 j).2 k2).dvd ⟨1,by grind⟩
  have d6:DN (D*C*G*I*K) (co u ((a-n)*i)):=hm (GM ha F) hi d4 a1
  have d7:DN (2*(D*C*G*I*K)*G) (co u d):=by
   have a6:=BO h.1 (GM ha F) hi;have k1:DN 1 (co u (Re.ofRat ((2*(D*C*G*I*K)*(D*C*G*I*K):Nat):Rat)*((a-n)*i))):=(MK h.1 a6).1 (d6.dvd ⟨2*(D*C*G*I*K),by grind⟩)
   have k2:=U (x:=Re.ofRat ((2*(D*C*G*I*K)*(D*C*G*I*K):Nat):Rat)*((a-n)*i)) (w:=Re.ofRat ((2*(D*C*G*I*K):Nat):Rat)*d) (D:=1) (OE v _) (aw (by
    have e3:(a-n)*i=2*(d*d)*(AW u r*i):=by clear U hm k1;grind
    rw[e3,W];grind)) k1
   exact ((MK h.1 v).2 k2).dvd ⟨1,by grind⟩
  rw[Dq h j v rfl,DN.app];exact⟨d5.dvd ⟨I*K,by grind⟩,d7.dvd ⟨1,by grind⟩⟩
theorem oV {p:Rat} (h:p*p<=((B*B:Nat):Rat)): -(B:Rat)<=p/\p<=B:=by
 rw[IL] at h;have f:(0:Rat)<=B:=Rat.natCast_nonneg
 generalize (B:Rat)=b at*
 constructor
 ·apply Classical.byContradiction;intro c;have:=Rat.mul_pos (a:= -p-b) (b:= -p+b) (by grind) (by grind)
  grind
 apply Classical.byContradiction;intro c;have:=Rat.mul_pos (a:=p-b) (b:=p+b) (by grind) (by grind)
 grind
theorem MX.half {y:Re} (h:BG u) (j:In u x) (g:In u y) (e:x=2*y) (k:MX (2*B) (co u x)):MX B (co u y):=by
 have c:x=Re.ofRat 2*y:=e;rw[c,TP h g] at k;intro q f;have:=k _ (List.mem_map.2 ⟨q,f,rfl⟩);rw[IL] at this;have e2:((2:Nat):Rat)=2:=rfl
 grind
theorem aT:∀{u:AH} {R:Nat},BG u->TB R u->∀{x w:Re} {B:Nat},In u w->w*w=x->MX (B*B) (co u x)->MX (B*2^GG u.length R) (co u w)
 | [],R,_,_,x,w,B,hw,e,h=>by
  obtain⟨p,rfl⟩:=DV.1 hw;subst e;rw[<-Re.ofRat_mul,Ed] at h;rw[Ed];intro z hz;rw[List.mem_singleton.1 hz];have:=oV (h _ List.mem_cons_self).2;simpa [GG] using this
 | r::u,R,h,M,x,w,B,hw,e,F=>by
  have L:=fun {x w:Re} {B:Nat}=>aT (R:=R) (x:=x) (w:=w) (B:=B) h.1 M.tail
  have H:=fun {x y:Re} {B C:Nat}=>I4 (R:=R) (x:=x) (y:=y) (B:=B) (C:=C) h.1 M.tail
  obtain⟨E,hE,a7,_,a1⟩:=M.head;have hr:=DW h;have a6:MX (2^R) (co u (AW u r)):=by rw[FU h];exact a1
  obtain⟨i,hi,Q⟩:=Ey h.1 (Ch h) (by have:=h.2.2.1;grind);obtain⟨I,hI,a8,_,U⟩:=HX h.1 M.tail (Ch h) hi Q (Sw h M);obtain⟨c,d,m,j,rfl⟩:=DJ.1 hw
  have g:In u (2*c*d):=by
   have:=EM (BO h.1 m j) (BO h.1 m j);rwa [show c*d+c*d=2*c*d by grind] at this
  have f:=Ch h;have ha:=EM (BO h.1 m m) (BO h.1 (BO h.1 j j) f);have ex:x=(c*c+d*d*AW u r)+(2*c*d)*rt u r:=by rw[<-e];grind
  rw[ex,Dq h ha g rfl,MX.app] at F
  generalize hA:c*c+d*d*AW u r=a at*
  generalize hB:2*c*d=b at*
  have O:=GM (BO h.1 m m) (BO h.1 (BO h.1 j j) f)
  generalize hN:c*c-d*d*AW u r=n at*
  have a2:n*n=a*a-b*b*AW u r:=by clear L H;grind
  have m1:=MX.Jz h.1 (BO h.1 ha ha) (BO h.1 (BO h.1 g g) f) (H ha ha F.1 F.1) (H (BO h.1 g g) f (H g g F.2 F.2) a6);have p0:=Dz (EE u.length R);have p1:=Dz R;have p2:=Dz (GG u.length R);have p3:=Dz (II u.length R R)
  have eG:2^GG (r::u).length R=2^EE u.length R*2^EE u.length R*2^EE u.length R*2^R*2*(2^GG u.length R*2^GG u.length R)*2^II u.length R R:=by
   have e2:(2:Nat)=2^1:=rfl;conv=>rhs;rw[show ∀q:Nat,q*2=q*2^1 from fun q=>rfl]
   simp only[<-Nat.pow_add]
   congr 1
   rw[List.length_cons,GG];omega
  rw[eG]
  generalize 2^EE u.length R=K at*
  generalize 2^R=S at*
  generalize 2^GG u.length R=G at*
  generalize 2^II u.length R R=J at*
  have Z:1<=K*S:=Nat.mul_pos p0 p1;have v:1<=K*K*S:=Nat.mul_pos (Nat.mul_pos p0 p0) p1
  have a5:K+K*S*K<=2*(K*K*S)*(2*(K*K*S)):=by
   have t1:K*1<=K*(K*S):=Nat.mul_le_mul_left _ Z;have t2:(K*K*S)*1<=(K*K*S)*(K*K*S):=Nat.mul_le_mul_left _ v
   grind
  have m2:MX (B*B*(2*(K*K*S))*G) (co u n):=by
   refine L (x:=a*a-b*b*AW u r) O a2 (m1.mono ?_);have:=Nat.mul_le_mul_left (B*B*(B*B)) a5
   grind
  have Y:1<=K*K*S*G:=Nat.mul_pos v p2
  have m3:MX (B*B*(2*(K*K*S)*G)) (co u (c*c)):=by
   refine MX.half h.1 (EM ha O) (BO h.1 m m) (by clear L H m1 m2;grind) ((MX.GY h.1 ha O F.1 m2).mono ?_);have:=Nat.mul_le_mul_left (B*B) (show 1<=2*(K*K*S)*G by rw[Nat.mul_assoc];omega)
   grind
  have m4:MX (B*(2*(K*K*S)*G)*G) (co u c):=by
   refine L (x:=c*c) m rfl (m3.mono ?_);have t:2*(K*K*S)*G*1<=2*(K*K*S)*G*(2*(K*K*S)*G):=Nat.mul_le_mul_left _ (by rw[Nat.mul_assoc];omega);have:=Nat.mul_le_mul_left (B*B) t
   grind
  have m5:MX (B*B*(2*(K*K*S)*G)) (co u (d*d*AW u r)):=by
   refine MX.half h.1 (GM ha O) (BO h.1 (BO h.1 j j) f) (by clear L H m1 m2 m3;grind) ((MX.Jz h.1 ha O F.1 m2).mono ?_);have:=Nat.mul_le_mul_left (B*B) (show 1<=2*(K*K*S)*G by rw[Nat.mul_assoc];omega)
   grind
  have m6:MX (B*B*(2*(K*K*S)*G)*J*K) (co u (d*d)):=by
   have:=H (BO h.1 (BO h.1 j j) f) hi m5 U;rwa [show d*d*AW u r*i=d*d by rw[show d*d*AW u r*i=d*d*(AW u r*i) by grind,Q];grind] at this
  have m7:MX (B*(2*(K*K*S)*G*J*K)*G) (co u d):=by
   refine L (x:=d*d) j rfl (m6.mono ?_);have t0:1<=2*(K*K*S)*G*J*K:=Nat.mul_pos (Nat.mul_pos (by rw[Nat.mul_assoc];omega) p3) p0;have t:2*(K*K*S)*G*J*K*1<=2*(K*K*S)*G*J*K*(2*(K*K*S)*G*J*K):=Nat.mul_le_mul_left _ t0;have:=Nat.mul_le_mul_left (B*B) t
   grind
  rw[Dq h m j rfl,MX.app];have W:1<=J*K:=Nat.mul_pos p3 p0;refine⟨m4.mono ?_,m7.mono ?_⟩
  ·have:=Nat.mul_le_mul_left (B*(2*(K*K*S)*G)*G) W
   grind
  grind
theorem Pn {R s:Nat} {w:Re} (h:BG u) (f:TB R u) (hw:In u w) (e:w*w=x) (H:Bd s (co u x)):Bd (s+GG u.length R) (co u w):=by
 obtain⟨D,g,j,m,h3⟩:=H;obtain⟨G,v,c,F⟩:=Y0 h f;refine⟨D*G,Nat.mul_pos g v,?_,F hw e m,?_⟩
 ·have:=Nat.mul_le_mul j c;rwa [<-Nat.pow_add] at this
 have:=aT h f hw e (B:=2^s) (h3.mono (by rw[<-Nat.pow_add];exact DI));rwa [<-Nat.pow_add] at this
end
section
structure BR (x:Int) (b:Bool) (l:List UInt32):Prop where
 neg:b=decide (x<0)
 B9:l=BB x.natAbs
variable {i n xi:Nat} {l o:List UInt32} {w:UInt32} {y:Int}
theorem BQ (x:Int):∃b l,BR x b l:=⟨_,_,rfl,rfl⟩
theorem BR.nat {x:Int} {b:Bool} (h:BR x b l):AJ l=x.natAbs:=by rw[h.B9,Bn]
theorem BR.Fa {x:Int} {b:Bool} (h:BR x b l):x=if b=true then -(AJ l:Int) else AJ l:=by
 rw[h.nat,h.neg];by_cases c:x<0 <;> simp[c] <;> omega
theorem BR.uniq {x:Int} {b b':Bool} {l':List UInt32} (h:BR x b l) (h':BR y b' l') (e:x=y):b=b'/\l=l':=by
 subst e;exact⟨h.neg.trans h'.neg.symm,h.B9.trans h'.B9.symm⟩
theorem BR.trim {x:Int} {b:Bool} (h:BR x b l):BB (AJ l)=l:=by rw[h.nat,<-h.B9]
theorem BR.val {x:Int} {b:Bool} (f:BB n=l) (c:x=if b=true then -(n:Int) else n) (h3:n=0->b=false):BR x b l:=by
 constructor
 ·rw[c];cases b
  ·simp
  have:n≠0:=fun e=>absurd (h3 e) AZ
  simp;omega
 rw[<-f,c];congr 1;split <;> omega
theorem BR.nil {x:Int} {b:Bool} (h:BR x b l):l=[]↔x=0:=by
 rw[h.B9,Fo];omega
theorem BR.Gf {x:Int} {b:Bool} (h:BR x b l):l.length=0↔x=0:=by
 rw[List.length_eq_zero_iff,h.nil]
def DM (x:Int):Int:=if x<0 then -1 else if x=0 then 0 else 1
def CR (a b:Int):Int:=if a<b then -1 else if b<a then 1 else 0
theorem Uu {x:UInt32} (h:l[i]? =some x):AJ (l.set i w)+2^(32*i)*x.toNat=AJ l+2^(32*i)*w.toNat:=by
 induction l generalizing i with
 | nil=>simp at h
 | cons y l c=>
  cases i with
  | zero=>simp at h;subst h;simp[AJ];omega
  | succ i=>
   have:=c (i:=i) (by simpa using h);rw[List.set_cons_succ,AJ,AJ,FI]
   generalize 2^(32*i)=P at*
   grind
theorem JC (h:n<=i:=by omega):(l.set i w).take n=l.take n:=by
 rw[List.take_set];rw[List.set_eq_of_length_le];rw[List.length_take];omega
theorem GQ (h:i<l.length):(l.set i w).take (i+1)=l.take i++[w]:=by
 rw[List.take_succ_eq_append_getElem (by simpa using h),JC (Nat.le_refl _)];simp
theorem Mg {A B G8 G9 yi:Nat} (c:i<o.length) (h:AJ (o.take i)+B=A+2^(32*i)*G8) (f:w.toNat+yi+G8=xi+4294967296*G9):
  AJ ((o.set i w).take (i+1))+(B+2^(32*i)*yi)=(A+2^(32*i)*xi)+2^(32*(i+1))*G9:=by
 rw[GQ c,FW,FI,List.length_take,Nat.min_eq_left AA]
 generalize 2^(32*i)=P at*
 have e:P*(w.toNat+yi+G8)=P*(xi+4294967296*G9):=by rw[f]
 grind
theorem WH {N T c g yk old j:Nat} {q:UInt32} {Y:Nat} {k:Nat} (m:j=i+k) (v:j<n) (F:o[j]? =some q) (H:q.toNat=old) (h:AJ (o.take n)+2^(32*j)*c=T+xi*2^(32*i)*Y)
  (I:w.toNat+4294967296*g=c+xi*yk+old) (_:N=n):
  AJ ((o.set j w).take n)+2^(32*(j+1))*g=T+xi*2^(32*i)*(Y+2^(32*k)*yk):=by
 have ht:(o.take n)[j]? =some q:=by rw[List.getElem?_take_of_lt v,F]
 have f:=Uu (w:=w) ht;rw[List.take_set,FI];have G:2^(32*j)=2^(32*i)*2^(32*k):=by rw[m,Nat.mul_add,Nat.pow_add]
 generalize J:2^(32*j)=P at*
 have e:P*(w.toNat+4294967296*g)=P*(c+xi*yk+old):=by rw[I]
 rw[H] at f;have e2:xi*2^(32*i)*(2^(32*k)*yk)=P*(xi*yk):=by rw[G];grind
 rw[Nat.mul_add,e2]
 grind
theorem aR {x:Int} {a b:Bool} (ha:a=decide (x<0)) (hb:b=decide (y<0)):x*y=if (a !=b)=true then -((x.natAbs*y.natAbs:Nat):Int) else ((x.natAbs*y.natAbs:Nat):Int):=by
 rw[Int.natCast_mul]
 by_cases c:x<0 <;> by_cases f:y<0 <;> simp[ha,hb,c,f]
 ·rw[(AA:((x.natAbs:Nat):Int)= -x),(AA:((y.natAbs:Nat):Int)= -y)];grind
 ·rw[(AA:((x.natAbs:Nat):Int)= -x),(AA:((y.natAbs:Nat):Int)=y)];grind
 ·rw[(AA:((x.natAbs:Nat):Int)=x),(AA:((y.natAbs:Nat):Int)= -y)];grind
 rw[(AA:((x.natAbs:Nat):Int)=x),(AA:((y.natAbs:Nat):Int)=y)]
theorem LC (a b:Int):(a<b/\CR a b= -1)\/(a=b/\CR a b=0)\/(b<a/\CR a b=1):=by
 unfold CR
 split
 ·exact .inl ⟨by assumption,rfl⟩
 split
 ·exact .inr (.inr ⟨by assumption,rfl⟩)
 exact .inr (.inl ⟨AA,rfl⟩)
theorem G3 (x:Int):(x<0/\DM x= -1)\/(x=0/\DM x=0)\/(0<x/\DM x=1):=by
 unfold DM
 split
 ·exact .inl ⟨by assumption,rfl⟩
 split
 ·exact .inr (.inl ⟨by assumption,rfl⟩)
 exact .inr (.inr ⟨AA,rfl⟩)
theorem sj (x a b:Int): -9223372036854775808<=DM x*CR a b/\DM x*CR a b<9223372036854775808:=by
 rcases G3 x with⟨_,h⟩ |⟨_,h⟩ |⟨_,h⟩ <;> rcases LC a b with⟨_,k⟩ |⟨_,k⟩ |⟨_,k⟩ <;> rw[h,k] <;> decide
theorem lH {x:Int} (h:DM x=DM y):CR x y=DM x*CR x.natAbs y.natAbs:=by
 rcases G3 x with⟨f,c⟩ |⟨f,c⟩ |⟨f,c⟩ <;> rcases G3 y with⟨k1,k2⟩ |⟨k1,k2⟩ |⟨k1,k2⟩ <;>
  rcases LC x y with⟨p,q⟩ |⟨p,q⟩ |⟨p,q⟩ <;> rcases LC x.natAbs y.natAbs with⟨u,v⟩ |⟨u,v⟩ |⟨u,v⟩ <;> rw[c,q,v] <;> rw[c,k2] at h <;> omega
theorem lG {x:Int} (h:DM x≠DM y):CR x y=CR (DM x) (DM y):=by
 rcases G3 x with⟨f,c⟩ |⟨f,c⟩ |⟨f,c⟩ <;> rcases G3 y with⟨k1,k2⟩ |⟨k1,k2⟩ |⟨k1,k2⟩ <;>
  rcases LC x y with⟨p,q⟩ |⟨p,q⟩ |⟨p,q⟩ <;> rw[c,k2] at h ⊢ <;> rw[q] <;> first | rfl | omega
theorem di {x:Int} {b:Bool} (h:x=if b=true then -(n:Int) else n): -x=if (!b)=true then -(n:Int) else n:=by
 cases b <;> simp_all
theorem Rg {x:Int} {b:Bool} (h:x=if b=true then -(n:Int) else n) (g:n≠0):DM x=if b=true then -1 else 1:=by
 rcases G3 x with⟨f,c⟩ |⟨f,c⟩ |⟨f,c⟩ <;> rw[c] <;> cases b <;> simp at h ⊢ <;> omega
theorem add_same {x:Int} {b:Bool} (c:b=decide (x<0)) (f:b=decide (y<0)):x+y=if b=true then -((x.natAbs+y.natAbs:Nat):Int) else ((x.natAbs+y.natAbs:Nat):Int):=by
 cases b <;> simp at c f ⊢ <;> omega
theorem PZ {x:Int} {a b:Bool} (f:a=decide (x<0)) (g:b=decide (y<0)) (c:a≠b) (h:x.natAbs<=y.natAbs):x+y=if b=true then -((y.natAbs-x.natAbs:Nat):Int) else ((y.natAbs-x.natAbs:Nat):Int):=by
 cases a <;> cases b <;> simp at f g c ⊢ <;> omega
theorem KG {a b:Int} (h:CR a b<0):a<b:=by rcases LC a b with⟨_,k⟩ |⟨_,k⟩ |⟨_,k⟩ <;> omega
theorem KF {a b:Int} (h:0<=CR a b):b<=a:=by rcases LC a b with⟨_,k⟩ |⟨_,k⟩ |⟨_,k⟩ <;> omega
def Gp (b:Bool) (l:List UInt32):Bool:=match l.getLast? with
 | none=> !b
 | some x=>x !=0
theorem Kp {b:Bool}:Gp b l=true↔∃x,BR x b l:=by
 unfold Gp;cases h:l.getLast? with
 | none=>
  have:l=[]:=List.getLast?_eq_none_iff.1 h;subst this
  constructor
  ·intro hb;exact⟨0,by simpa using hb,rfl⟩
  rintro⟨x,c⟩
  have:=(c.nil).1 rfl;rw[c.neg,this];rfl
 | some w=>
  obtain⟨m,rfl⟩:=List.getLast?_eq_some_iff.1 h
  constructor
  ·intro hw;have hw:w≠0:=by simpa using hw
   have f:=TF (o:=m) (w:=w) fun e=>hw (UInt32.toNat_inj.1 e)
   have j:AJ (m++[w])≠0:=fun e=>by
    rw[e,HH] at f;simp at f
   exact⟨if b=true then -(AJ (m++[w]):Int) else AJ (m++[w]),.val f rfl fun e=>absurd e j⟩
  rintro⟨x,c⟩
  simp only[bne_iff_ne,ne_eq];rintro rfl;have g:=c.trim;rw[<-M7,Kk] at g;have:=Ru m;rw[g] at this;simp at this;omega
end
section
variable {A B xi yi:Nat} {l o:List UInt32} {w:UInt32}
theorem Lc {N k:Nat} (h:N<2^(32*k)):∃z:List UInt32,z.length=k/\AJ z=N:=by
 refine⟨BB N++List.replicate (k-(BB N).length) 0,?_,?_⟩
 ·have:=Gz h;simp;omega
 rw[Q7,Jj,Bn];simp
theorem Rv (N i:Nat):N%2^(32*(i+1))=N%2^(32*i)+2^(32*i)*(N/2^(32*i)%4294967296):=by
 rw[FI,Nat.mul_comm 4294967296,Nat.mod_mul]
theorem du {x y r n:Nat} (j:x<4294967296) (F:n<=31):(x+4294967296*(y+4294967296*r))/2^n%4294967296=x/2^n+y*2^(32-n)%4294967296:=by
 obtain⟨d,h⟩:∃d,32-n=d:=⟨_,rfl⟩
 have e:(4294967296:Nat)=2^n*2^d:=by rw[<-Nat.pow_add,(AA:n+d=32)]
 have c:0<2^n:=Nat.two_pow_pos n;have G:0<2^d:=Nat.two_pow_pos d;rw[h];have e1:x+4294967296*(y+4294967296*r)=x+2^n*(2^d*(y+4294967296*r)):=by rw[<-Nat.mul_assoc,<-e]
 rw[e1,Nat.add_mul_div_left _ _ c];have m:x/2^n<2^d:=Nat.div_lt_of_lt_mul (by rw[<-e];exact j);have e2:x/2^n+2^d*(y+4294967296*r)=(x/2^n+y*2^d)+4294967296*(2^d*r):=by rw[Nat.mul_add];grind
 rw[e2,Nat.add_mul_mod_self_left];have f:y*2^d%4294967296=2^d*(y%2^n):=by rw[e,Nat.mul_comm (2^n),Nat.mul_comm y,Nat.mul_mod_mul_left]
 rw[Nat.add_mod,f]
 have v:2^d*(y%2^n)+2^d<=4294967296:=by
  have:y%2^n+1<=2^n:=Nat.mod_lt _ c;have:=Nat.mul_le_mul_left (2^d) this;rw[e,Nat.mul_comm (2^n)];rw[Nat.mul_add] at this;omega
 have g:x/2^n%4294967296=x/2^n:=Nat.mod_eq_of_lt AA;rw[g,Nat.mod_eq_of_lt AA]
theorem Mo {a b d:Nat} (h:a<2^d):a ||| (2^d*b)=a+2^d*b:=by
 rw[Nat.or_comm,<-Nat.two_pow_add_eq_or_of_lt h,Nat.add_comm]
theorem Eu {i:Nat} {x:UInt32} (h:l[i]? =some x):AJ (l.drop i)=x.toNat+4294967296*AJ (l.drop (i+1)):=by
 have c:i<l.length:=by
  apply Classical.byContradiction;intro f;rw[List.getElem?_eq_none AA] at h;exact absurd h AZ
 rw[List.drop_eq_getElem_cons c,AJ];rw[List.getElem?_eq_getElem c] at h;rw[Option.some.inj h]
theorem QF {i:Nat} (h:i<=l.length):AJ l/2^(32*i)=AJ (l.drop i):=by
 rw[HJ l i h,Nat.add_mul_div_left _ _ (Nat.two_pow_pos _)];have:=DZ (l.take i);rw[List.length_take,Nat.min_eq_left h] at this;rw[Nat.div_eq_of_lt this,Nat.zero_add]
theorem QI {i off:Nat}:(l.set (off+i) w).drop off=(l.drop off).set i w:=by
 rw[List.drop_set,if_neg AA]
 congr 1
 omega
theorem tX {D G8 G9 i:Nat} (c:i<o.length) (h:AJ (o.take i)+B*D=A+2^(32*i)*G8) (f:w.toNat+yi*D+G8=xi+4294967296*G9):
  AJ ((o.set i w).take (i+1))+(B+2^(32*i)*yi)*D=(A+2^(32*i)*xi)+2^(32*(i+1))*G9:=by
 rw[GQ c,FW,FI,List.length_take,Nat.min_eq_left AA]
 generalize 2^(32*i)=P at*
 have e:P*(w.toNat+yi*D+G8)=P*(xi+4294967296*G9):=by rw[f]
 grind
theorem j7 {Pu Pv i:Nat} (c:i<o.length) (h:AJ (o.take i)+2^(32*i)*Pu=A+B) (f:w.toNat+4294967296*Pv=xi+yi+Pu):
  AJ ((o.set i w).take (i+1))+2^(32*(i+1))*Pv=(A+2^(32*i)*xi)+(B+2^(32*i)*yi):=by
 rw[GQ c,FW,FI,List.length_take,Nat.min_eq_left AA]
 generalize 2^(32*i)=P at*
 have e:P*(w.toNat+4294967296*Pv)=P*(xi+yi+Pu):=by rw[f]
 grind
end
section
variable {D P R R0 R2 S V V0 V2 high next r top u3:Nat}
theorem dP {u:List UInt32} {off len:Nat} (f:S<2^(32*len)) (h:off+len<=u.length):
  ∃z:List UInt32,z.length=u.length/\z.take off=u.take off/\z.drop (off+len)=u.drop (off+len)/\AJ ((z.drop off).take len)=S:=by
 obtain⟨y,j,c⟩:=Lc f;have g:(u.take off).length=off:=by rw[List.length_take];omega
 refine⟨u.take off++(y++u.drop (off+len)),?_,?_,?_,?_⟩
 ·simp;omega
 ·rw[List.take_append_of_le_length AA,List.take_of_length_le AA]
 ·rw[<-List.drop_drop,List.drop_append_of_le_length AA,List.drop_eq_nil_of_le (by omega:(u.take off).length<=off),List.nil_append,List.drop_append_of_le_length AA,List.drop_eq_nil_of_le (by omega:y.length<=len),List.nil_append]
 rw[List.drop_append_of_le_length AA,List.drop_eq_nil_of_le (by omega:(u.take off).length<=off),List.nil_append,List.take_append_of_le_length AA,List.take_of_length_le AA,c]
theorem Yo (hR:R=R2*P+R0) (c:R0<P) (hV:V=V2*P+V0) (h:R2<D*V2):R/V<D:=by
 have m:0<P:=AA
 have f:0<V2:=by
  apply Nat.pos_of_ne_zero;intro e;subst e;simp at h
 apply Nat.div_lt_of_lt_mul;have g:(R2+1)*P<=D*V2*P:=Nat.mul_le_mul_right _ h;have j:V*D=D*V2*P+V0*D:=by rw[hV];grind
 have h3:(R2+1)*P=R2*P+P:=by grind
 omega
theorem Yp (hR:R=R2*P+R0) (hV:V=V2*P+V0) (g:V0<P) (h:D*V2<=R2) (G:D<=V2+1):D<=R/V+1:=by
 cases D with
 | zero=>exact Nat.zero_le _
 | succ D=>
  have c:0<V\/V=0:=AA
  rcases c with c | c
  ·have:D<=R/V:=by
    rw[Nat.le_div_iff_mul_le c];have j:(D+1)*V2*P<=R2*P:=Nat.mul_le_mul_right _ h;have m:D*V=D*V2*P+D*V0:=by rw[hV];grind
    have h3:(D+1)*V2*P=D*V2*P+V2*P:=by grind
    have v:D*V0<=D*P:=Nat.mul_le_mul_left _ AA;have F:D*P<=V2*P:=Nat.mul_le_mul_right _ AA;omega
   exact Nat.succ_le_succ this
  have f:V2*P=0:=AA
  have H:0<P:=AA
  have:V2=0:=by
   rcases Nat.mul_eq_zero.1 f with e | e
   ·exact e
   omega
  exact Nat.le_trans (by omega:D+1<=1) (Nat.le_add_left _ _)
structure J6 (R V top high D r:Nat):Prop where
 sum:r+D*high=top
 up:R/V<=D
 Qy:D<=4294967297
 rest:r<4294967296
theorem nH (hR:R=top*P+R0) (c:R0<P) (hV:V=high*P+V0) (m:2147483648<=high) (h:high<4294967296) (ht:top<4294967296*(high+1)):J6 R V top high (top/high) (top%high):=by
 have hm:=Nat.div_add_mod top high;have j:=Nat.mod_lt top (by omega:0<high);refine⟨by rw[Nat.mul_comm] at hm;omega,?_,?_,AA⟩
 ·have f:top<(top/high+1)*high:=by rw[Nat.add_mul,Nat.mul_comm];omega
  exact Nat.le_of_lt_succ (Yo hR c hV f)
 have g:top<4294967298*high:=AA
 have h3:top/high<4294967298:=(Nat.div_lt_iff_lt_mul AA).2 g;exact Nat.le_of_lt_succ h3
theorem ZU (g:J6 R V top high D r) (c:R/V<4294967296) (h:4294967296<=D:=by omega):R/V<=D-1:=by
 have:=g.up;exact Nat.le_sub_one_of_lt (Nat.lt_of_lt_of_le c h)
theorem ZV (g:J6 R V top high D r) (hR:R=(4294967296*top+u3)*P+R0) (c:R0<P) (hV:V=(4294967296*high+next)*P+V0) (h:4294967296*r+u3<D*next):R/V<=D-1:=by
 have f:4294967296*top+u3<D*(4294967296*high+next):=by
  have e:=g.sum
  clear g hR hV
  rw[<-e];have e1:D*(4294967296*high+next)=4294967296*(D*high)+D*next:=by grind
  have e2:4294967296*(r+D*high)=4294967296*r+4294967296*(D*high):=by grind
  rw[e1,e2]
  generalize D*high=Q at*
  generalize D*next=T at*
  omega
 exact Nat.le_sub_one_of_lt (Yo hR c hV f)
theorem ZW (g:J6 R V top high D r) (c:R/V<=D-1) (h:0<D) (f:r+high<4294967296):J6 R V top high (D-1) (r+high):=by
 refine⟨?_,c,by have:=g.Qy;omega,f⟩;have:=g.sum;obtain⟨D,rfl⟩:∃k,D=k+1:=⟨D-1,AA⟩
 simp only[Nat.add_sub_cancel];rw[Nat.add_mul] at this;omega
structure NR (R V D:Nat):Prop where
 up:R/V<=D
 low:D<=R/V+1
 word:D<4294967296
theorem Uw (g:J6 R V top high D r) (hR:R=(4294967296*top+u3)*P+R0) (hV:V=(4294967296*high+next)*P+V0) (c:V0<P) (j:2147483648<=high)
  (f:D<4294967296) (h:D*next<=4294967296*r+u3:=by omega):NR R V D:=by
 refine⟨g.up,Yp hR hV c ?_ AA,f⟩;have e:=g.sum;rw[<-e];have:D*(4294967296*high+next)=4294967296*(D*high)+D*next:=by grind
 have:4294967296*(r+D*high)=4294967296*r+4294967296*(D*high):=by grind
 omega
theorem Uv (g:J6 R V top high D r) (h:R/V<=D-1) (H:0<D) (hR:R=(4294967296*top+u3)*P+R0) (hV:V=(4294967296*high+next)*P+V0) (f:V0<P) (J:2147483648<=high) (K:next<4294967296)
  (ht:top<4294967296*(high+1)) (j:4294967296<=r+high:=by omega):NR R V (D-1):=by
 obtain⟨D,rfl⟩:∃k,D=k+1:=⟨D-1,AA⟩
 simp only[Nat.add_sub_cancel] at h ⊢;have e:=g.sum;have hm:=g.Qy;have m:(r+high)+D*high=top:=by rw[Nat.add_mul] at e;omega
 have c:D<4294967296:=by
  apply Classical.byContradiction;intro I;have:4294967296*high<=D*high:=Nat.mul_le_mul_right _ AA;omega
 refine⟨h,Yp hR hV f ?_ AA,c⟩;rw[<-m];have v:D*(4294967296*high+next)=4294967296*(D*high)+D*next:=by grind
 have F:4294967296*(r+high+D*high)=4294967296*(r+high)+4294967296*(D*high):=by grind
 have h3:D*next<=4294967296*4294967296:=Nat.mul_le_mul AA AA;have G:4294967296*4294967296<=4294967296*(r+high):=Nat.mul_le_mul_left _ j;omega
theorem aW {M:Nat} {b:Bool} (j:NR R V D) (hV:0<V) (h:S+V*D=R+M*b.toNat) (F:S<M):
  (b=false->D=R/V/\S=R%V)/\(b=true->D-1=R/V/\0<D/\(R%V<M->(S+V)%M=R%V)):=by
 have G:=Nat.div_add_mod R V;have H:=Nat.mod_lt R hV;obtain⟨m,v,_⟩:=j
 generalize R/V=Q at*
 generalize R%V=T at*
 constructor
 ·rintro rfl;simp at h
  have c:D=Q:=by
   apply Classical.byContradiction;intro g;have:D=Q+1:=AA
   rw[this,Nat.mul_add] at h;omega
  exact⟨c,by rw[c] at h;omega⟩
 rintro rfl;simp at h
 have c:D=Q+1:=by
  apply Classical.byContradiction;intro g;have:D=Q:=AA
  rw[this] at h;omega
 refine⟨AA,AA,fun f=>?_⟩;rw[c,Nat.mul_add] at h;have:S+V=T+M*1:=AA
 rw[this,Nat.add_mul_mod_self_left,Nat.mod_eq_of_lt f]
end
section
variable {A R V b i n q s:Nat} {u:List UInt32} {w x y:UInt32}
theorem tY {D M:Nat} (g:NR R V D) (hV:0<V) (hR:R<M) (f:V<=M):∃(b:Bool) (S:Nat),S+V*D=R+M*b.toNat/\S<M:=by
 have j:=Nat.div_add_mod R V;have c:V*D<=V*(R/V+1):=Nat.mul_le_mul_left _ g.low;rw[Nat.mul_add] at c
 by_cases h:V*D<=R
 ·exact⟨false,R-V*D,by simp;omega,AA⟩
 refine⟨true,R+M-V*D,?_,AA⟩;simp
 generalize V*(R/V)=T at*
 omega
theorem tt (c:u[i+n]? =some x) (j:u[i+n-1]? =some y) (hw:u[i+n-2]? =some w) (v:2<=n) (g:AJ (u.drop (i+n+1))=0):
  AJ (u.drop i)=(4294967296*(y.toNat+4294967296*x.toNat)+w.toNat)*2^(32*(n-2))+AJ ((u.drop i).take (n-2)):=by
 have h:i+n<u.length:=by
  apply Classical.byContradiction;intro m;rw[List.getElem?_eq_none AA] at c;exact absurd c AZ
 have f:=HJ (u.drop i) (n-2) (by rw[List.length_drop];omega);rw[List.drop_drop,(AA:i+(n-2)=i+n-2),Eu hw,(AA:i+n-2+1=i+n-1),Eu j,(AA:i+n-1+1=i+n),Eu c,g] at f;rw[f]
 generalize 2^(32*(n-2))=P
 grind
theorem tq {v:List UInt32} (hlen:v.length=n) (g:v[n-1]? =some y) (hw:v[n-2]? =some w) (h:2<=n):
  AJ v=(4294967296*y.toNat+w.toNat)*2^(32*(n-2))+AJ (v.take (n-2))/\AJ v=y.toNat*2^(32*(n-1))+AJ (v.take (n-1)):=by
 have c:=HJ v (n-2) AA;rw[Eu hw,(AA:n-2+1=n-1),Eu g,(AA:n-1+1=n),List.drop_eq_nil_of_le AA] at c;have f:=HJ v (n-1) AA;rw[Eu g,(AA:n-1+1=n),List.drop_eq_nil_of_le AA] at f
 constructor
 ·rw[c];simp only[AJ];generalize 2^(32*(n-2))=P;grind
 rw[f];simp only[AJ];generalize 2^(32*(n-1))=P;grind
theorem M6 {l:List UInt32}:AJ (l.take n)<2^(32*n):=
 Nat.lt_of_lt_of_le (DZ _) (Nat.pow_le_pow_right AF (by rw[List.length_take];omega))
theorem UQ {l:List UInt32} (h:AJ l<2^(32*n)) (c:n<=l.length):AJ (l.drop n)=0:=by
 have f:=HJ l n c;apply Classical.byContradiction;intro g;have:2^(32*n)*1<=2^(32*n)*AJ (l.drop n):=Nat.mul_le_mul_left _ AA;omega
theorem cO {z:List UInt32} {Q:Nat} (H:z.length=u.length) (c:z.take i=u.take i) (f:z.drop (i+(n+1))=u.drop (i+(n+1))) (hlen:i+(n+1)<=u.length) (j:AJ (u.drop (i+n+1))=0)
  (G:q=AJ (u.drop i)/V) (F:AJ ((z.drop i).take (n+1))=AJ (u.drop i)%V) (v:A=AJ u+2^(32*(i+1))*Q*V):
  AJ (z.drop i)=AJ (u.drop i)%V/\A=AJ z+2^(32*i)*(q+4294967296*Q)*V:=by
 have g:AJ (z.drop i)=AJ (u.drop i)%V:=by
  have:=HJ (z.drop i) (n+1) (by rw[List.length_drop];omega);rw[List.drop_drop,f,(AA:i+(n+1)=i+n+1),j,F] at this;simpa using this
 refine⟨g,?_⟩;have m:=HJ u i AA;have h3:=HJ z i AA;rw[c,g] at h3;have h:=Nat.div_add_mod (AJ (u.drop i)) V;rw[<-G] at h;rw[v,m,h3,FI,<-h]
 generalize 2^(32*i)=P
 grind
theorem dQ (h:i+n<=u.length) (c:AJ (u.drop (i+n))=0):AJ ((u.drop i).take n)=AJ (u.drop i):=by
 have:=HJ (u.drop i) n (by rw[List.length_drop];omega);rw[List.drop_drop,c] at this;simpa using this.symm
theorem Nr (j:(BB b)[i]? =some x) (c:i+1=(BB b).length):x.toNat≠0:=by
 intro f;have hb:b≠0:=fun e=>by subst e;simp[HH] at c
 have g:=aC hb;have h:=DS j;rw[c,List.take_length,Bn,f] at h;have h3:=DZ ((BB b).take i);rw[List.length_take,Nat.min_eq_left AA] at h3;rw[<-c,Nat.add_sub_cancel] at g;omega
theorem dr {k:Nat} (c:(BB b).length=n) (g:1<=n) (G:(BB b)[n-1]? =some x) (f:2^(k-1)<=x.toNat) (h:x.toNat<2^k) (M:1<=k) (v:k<=32) (O:s=32-k):
  (BB (b*2^s)).length=n/\2147483648*2^(32*(n-1))<=b*2^s:=by
 have e1:2^(k-1)*2^s=2147483648:=by rw[<-Nat.pow_add,(AA:k-1+s=31)]
 have e2:2^k*2^s=4294967296:=by rw[<-Nat.pow_add,(AA:k+s=32)]
 have h3:=DS G;rw[(AA:n-1+1=n),<-c,List.take_length,Bn,c] at h3;have j:=DZ ((BB b).take (n-1));rw[List.length_take,Nat.min_eq_left AA] at j;have F:2^(32*n)=4294967296*2^(32*(n-1)):=by rw[<-FI,(AA:n-1+1=n)]
 generalize m:2^(32*(n-1))=P at*
 have low:2147483648*P<=b*2^s:=by
  rw[<-e1,h3];have:2^(k-1)*2^s*P<=x.toNat*2^s*P:=Nat.mul_le_mul_right _ (Nat.mul_le_mul_right _ f);have:(AJ (List.take (n-1) (BB b))+P*x.toNat)*2^s=AJ (List.take (n-1) (BB b))*2^s+x.toNat*2^s*P:=by grind
  omega
 refine⟨?_,low⟩
 have up:b*2^s<2^(32*n):=by
  rw[F,<-e2];have H:b<(x.toNat+1)*P:=by rw[h3,Nat.add_mul,Nat.mul_comm P];omega
  have I:(x.toNat+1)*P<=2^k*P:=Nat.mul_le_mul_right _ h;have J:b*2^s<2^k*P*2^s:=(Nat.mul_lt_mul_right (Nat.two_pow_pos s)).2 AA;have:2^k*2^s*P=2^k*P*2^s:=by grind
  omega
 have K:=Gz up;have L:=Z6 (n:=b*2^s) (k:=n-1) (by rw[m];omega);omega
theorem Rh (l:List UInt32) (h:s<=31:=by omega):AJ l*2^s<2^(32*(l.length+1)):=by
 rw[FI,Nat.mul_comm 4294967296];exact Nat.mul_lt_mul_of_lt_of_le (DZ l) (Nat.le_trans (Nat.pow_le_pow_right AF h:2^s<=2^31) AF) AF
theorem nK {c rest:Nat} (h:2147483648*2^(32*(n-1))<=V) (hV:V=c*2^(32*(n-1))+rest) (g:rest<2^(32*(n-1))):2147483648<=c:=by
 generalize 2^(32*(n-1))=P at*
 apply Classical.byContradiction;intro f;have:(c+1)*P<=2147483648*P:=Nat.mul_le_mul_right _ AA;rw[Nat.add_mul] at this;omega
theorem ee {l:List UInt32} {m:Nat} (hu:AJ u=AJ l*2^s) (j:s<=31) (hlen:u.length=l.length+1) (hm:m+n=l.length+1) (H:1<=n) (hV:2147483648*2^(32*(n-1))<=V):AJ (u.drop m)<V:=by
 have c:=HJ u m AA;have f:=DZ l;have h3:2^(32*l.length)=2^(32*m)*2^(32*(n-1)):=by rw[<-Nat.pow_add,(AA:32*m+32*(n-1)=32*l.length)]
 have g:2^s<=2147483648:=Nat.le_trans (Nat.pow_le_pow_right AF j:2^s<=2^31) AF;have h:AJ l*2^s<2^(32*l.length)*2147483648:=Nat.mul_lt_mul_of_lt_of_le f g AF;rw[hu,] at c;rw[h3] at h;have I:=Nat.two_pow_pos (32*m)
 generalize 2^(32*m)=P at*
 generalize 2^(32*(n-1))=N at*
 apply Classical.byContradiction;intro G;have v:P*(2147483648*N)<=P*AJ (u.drop m):=Nat.mul_le_mul_left _ AA;have F:P*N*2147483648=P*(2147483648*N):=by grind
 omega
theorem tu (c:u[i+n]? =some x) (j:u[i+n-1]? =some y) (v:1<=n) (g:AJ (u.drop (i+n+1))=0):
  AJ (u.drop i)=(y.toNat+4294967296*x.toNat)*2^(32*(n-1))+AJ ((u.drop i).take (n-1)):=by
 have h:i+n<u.length:=by
  apply Classical.byContradiction;intro m;rw[List.getElem?_eq_none AA] at c;exact absurd c AZ
 have f:=HJ (u.drop i) (n-1) (by rw[List.length_drop];omega);rw[List.drop_drop,(AA:i+(n-1)=i+n-1),Eu j,(AA:i+n-1+1=i+n),Eu c,g] at f;rw[f]
 generalize 2^(32*(n-1))=P
 grind
theorem tp {top high P f c:Nat} (hR:R=top*P+f) (hV:V=high*P+c) (g:c<P) (h:R<4294967296*V):top<4294967296*(high+1):=by
 apply Classical.byContradiction;intro v;have j:4294967296*(high+1)*P<=top*P:=Nat.mul_le_mul_right _ AA;have m:4294967296*(high+1)*P=4294967296*(high*P)+4294967296*P:=by grind
 omega
theorem Yy {a r:Nat} (g:A=a*2^s) (hV:V=b*2^s) (h:A=r+q*V) (I:r<V) (hb:0<b):q=a/b/\r/2^s=a%b:=by
 have j:=Nat.two_pow_pos s;have G:=Nat.div_add_mod a b;have H:=Nat.mod_lt a hb
 have e:a*2^s=(a%b)*2^s+(a/b)*V:=by rw[hV];conv=>lhs;rw[<-G]
                                    grind
 have f:(a%b)*2^s<V:=by rw[hV];exact (Nat.mul_lt_mul_right j).2 H
 have c:0<V:=AA
 have m:q=a/b:=by
  have v:A/V=q:=by rw[h,Nat.add_mul_div_right _ _ c,Nat.div_eq_of_lt I,Nat.zero_add]
  have F:A/V=a/b:=by rw[g,e,Nat.add_mul_div_right _ _ c,Nat.div_eq_of_lt f,Nat.zero_add]
  rw[<-v,F]
 refine⟨m,?_⟩;have:r=(a%b)*2^s:=by rw[g,e,m] at h;omega
 rw[this,Nat.mul_div_cancel _ j]
end
section
def DO (x y:Int):Int:=if 0<=y then x/y else (-x)/(-y)
variable {N X:Nat} {b:Bool} {x y:Int}
theorem MJ {a b q r:Int} (hb:0<b) (h:a=b*q+r) (c:0<=r) (f:r<b):a/b=q:=((Int.ediv_emod_unique hb).2 ⟨AA,c,f⟩).1
theorem Yu (j:y≠0) (c:decide (x<0)=decide (y<0)):DO x y=((x.natAbs/y.natAbs:Nat):Int):=by
 have f:=Nat.div_add_mod x.natAbs y.natAbs;have hm:=Nat.mod_lt x.natAbs (by omega:0<y.natAbs)
 generalize x.natAbs/y.natAbs=q at*
 generalize x.natAbs%y.natAbs=r at*
 have GB:(y.natAbs:Int)*q+r=x.natAbs:=by rw[<-f];simp
 unfold DO
 by_cases h:0<=y
 ·rw[if_pos h]
  have:¬x<0:=by intro g;have:y<0:=by simpa [g] using c
                omega
  rw[(AA:(y.natAbs:Int)=y),(AA:(x.natAbs:Int)=x)] at GB;exact MJ (r:=r) AA GB.symm AA AA
 rw[if_neg h]
 have:x<0:=by have:y<0:=AA
              simpa [this] using c
 rw[(AA:(y.natAbs:Int)= -y),(AA:(x.natAbs:Int)= -x)] at GB;exact MJ (r:=r) AA GB.symm AA AA
theorem Yr (m:y≠0) (g:decide (x<0)≠decide (y<0)) (j:x.natAbs%y.natAbs=0):DO x y= -((x.natAbs/y.natAbs:Nat):Int):=by
 have f:=Nat.div_add_mod x.natAbs y.natAbs;rw[j] at f
 generalize x.natAbs/y.natAbs=q at*
 have GB:(y.natAbs:Int)*q=x.natAbs:=by rw[<-f];simp
 unfold DO
 by_cases h:0<=y
 ·rw[if_pos h]
  have c:x<0:=by
   apply Classical.byContradiction;intro c;exact g (by rw[decide_eq_false c,decide_eq_false AA])
  rw[(AA:(y.natAbs:Int)=y),(AA:(x.natAbs:Int)= -x)] at GB;exact MJ (r:=0) AA (by rw[Int.mul_neg,GB];omega) AA AA
 rw[if_neg h]
 have c:¬x<0:=by
  intro c;exact g (by rw[decide_eq_true c,decide_eq_true AA])
 rw[(AA:(y.natAbs:Int)= -y),(AA:(x.natAbs:Int)=x)] at GB;exact MJ (r:=0) AA (by rw[Int.mul_neg,GB];omega) AA AA
theorem Ys (m:y≠0) (f:decide (x<0)≠decide (y<0)) (j:x.natAbs%y.natAbs≠0):DO x y= -((x.natAbs/y.natAbs+1:Nat):Int):=by
 have g:=Nat.div_add_mod x.natAbs y.natAbs;have hm:=Nat.mod_lt x.natAbs (by omega:0<y.natAbs)
 generalize x.natAbs/y.natAbs=q at*
 generalize x.natAbs%y.natAbs=r at*
 have GB:(y.natAbs:Int)*q+r=x.natAbs:=by rw[<-g];simp
 unfold DO
 by_cases h:0<=y
 ·rw[if_pos h]
  have c:x<0:=by
   apply Classical.byContradiction;intro c;exact f (by rw[decide_eq_false c,decide_eq_false AA])
  rw[(AA:(y.natAbs:Int)=y),(AA:(x.natAbs:Int)= -x)] at GB;refine MJ (r:=y-r) AA ?_ AA AA;rw[Int.natCast_add,Int.mul_neg,Int.mul_add];omega
 rw[if_neg h]
 have c:¬x<0:=by
  intro c;exact f (by rw[decide_eq_true c,decide_eq_true AA])
 rw[(AA:(y.natAbs:Int)= -y),(AA:(x.natAbs:Int)=x)] at GB;refine MJ (r:= -y-r) AA ?_ AA AA;rw[Int.natCast_add,Int.mul_neg,Int.mul_add];omega
def IX (x y:Int):Int:=x-y*DO x y
theorem Ut:(y.natAbs:Int)*((x.natAbs/y.natAbs:Nat):Int)+((x.natAbs%y.natAbs:Nat):Int)=x.natAbs:=by
 rw[<-Int.natCast_mul,<-Int.natCast_add,Nat.div_add_mod]
theorem ow (hb:b=decide (y<0)) (j:y≠0) (c:decide (x<0)=decide (y<0)):IX x y=if b=true then -((x.natAbs%y.natAbs:Nat):Int) else ((x.natAbs%y.natAbs:Nat):Int):=by
 have g:= @Ut x y;unfold IX;rw[Yu j c]
 generalize x.natAbs/y.natAbs=q at*
 generalize x.natAbs%y.natAbs=r at*
 by_cases h:y<0
 ·have f:x<0:=by simpa [h] using c
  rw[hb,decide_eq_true h,if_pos rfl];rw[(AA:(y.natAbs:Int)= -y),(AA:(x.natAbs:Int)= -x),Int.neg_mul] at g;omega
 have f:¬x<0:=by intro f;simp[f,h] at c
 rw[hb,decide_eq_false h,if_neg AZ];rw[(AA:(y.natAbs:Int)=y),(AA:(x.natAbs:Int)=x)] at g;omega
theorem ou (m:y≠0) (g:decide (x<0)≠decide (y<0)) (j:x.natAbs%y.natAbs=0):IX x y=if b=true then -((x.natAbs%y.natAbs:Nat):Int) else ((x.natAbs%y.natAbs:Nat):Int):=by
 have f:= @Ut x y;unfold IX;rw[Yr m g j];rw[j] at f ⊢
 generalize x.natAbs/y.natAbs=q at*
 have e:x-y* -(q:Int)=0:=by
  by_cases h:y<0
  ·have c:¬x<0:=by intro c;exact g (by rw[decide_eq_true c,decide_eq_true h])
   rw[(AA:(y.natAbs:Int)= -y),(AA:(x.natAbs:Int)=x),Int.neg_mul] at f;rw[Int.mul_neg];omega
  have c:x<0:=by apply Classical.byContradiction;intro c;exact g (by rw[decide_eq_false c,decide_eq_false h])
  rw[(AA:(y.natAbs:Int)=y),(AA:(x.natAbs:Int)= -x)] at f;rw[Int.mul_neg];omega
 rw[e];cases b <;> rfl
theorem ov (hb:b=decide (y<0)) (m:y≠0) (f:decide (x<0)≠decide (y<0)) (j:x.natAbs%y.natAbs≠0):
  IX x y=if b=true then -((y.natAbs-x.natAbs%y.natAbs:Nat):Int) else ((y.natAbs-x.natAbs%y.natAbs:Nat):Int):=by
 have g:= @Ut x y;have hm:=Nat.mod_lt x.natAbs (by omega:0<y.natAbs);unfold IX;rw[Ys m f j]
 generalize x.natAbs/y.natAbs=q at*
 generalize x.natAbs%y.natAbs=r at*
 rw[Int.natCast_add,Int.mul_neg,Int.mul_add]
 by_cases h:y<0
 ·have c:¬x<0:=by intro c;exact f (by rw[decide_eq_true c,decide_eq_true h])
  rw[hb,decide_eq_true h,if_pos rfl];rw[(AA:(y.natAbs:Int)= -y),(AA:(x.natAbs:Int)=x),Int.neg_mul] at g;omega
 have c:x<0:=by apply Classical.byContradiction;intro c;exact f (by rw[decide_eq_false c,decide_eq_false h])
 rw[hb,decide_eq_false h,if_neg AZ];rw[(AA:(y.natAbs:Int)=y),(AA:(x.natAbs:Int)= -x)] at g;omega
theorem eZ (G:CO N<=X) (c:0<X):CO N<=(X+N/X)/2:=by
 have j:=OH N
 generalize CO N=s at*
 have m:X*(N/X)+N%X=N:=Nat.div_add_mod N X;have h3:=Nat.mod_lt N c
 generalize N/X=q at*
 rw[Nat.le_div_iff_mul_le AF];apply Classical.byContradiction;intro H;have v:X+q+1<=2*s:=AA
 obtain⟨d,rfl⟩:∃d,X=s+d:=⟨X-s,AA⟩
 have f:q+1<=s-d:=AA
 have g:(s+d)*(q+1)<=(s+d)*(s-d):=Nat.mul_le_mul_left _ f
 have F:(s+d)*(s-d)<=s*s:=by
  by_cases h:d<=s
  ·obtain⟨e,rfl⟩:∃e,s=e+d:=⟨s-d,AA⟩
   have:(e+d)*(e+d)=(e+d+d)*e+d*d:=by grind
   rw[Nat.add_sub_cancel];omega
  rw[(AA:s-d=0)];simp
 rw[Nat.mul_add] at g;omega
theorem tU (m:CO N<=X) (c:0<X) (h:X<=(X+N/X)/2):CO N=X:=by
 have f:X<=N/X:=AA
 have g:X*X<=N:=by
  have:=(Nat.le_div_iff_mul_le c).1 f;exact this
 have h3:=Qv N;have j:X<CO N+1:=Nat.mul_self_lt_mul_self_iff.1 AA;omega
theorem tV (h:N≠0):CO N<=2^((Nat.log2 N+1)/2+1):=by
 apply Classical.byContradiction;intro j;have c:=OH N;have f:N<2^(Nat.log2 N+1):=(Nat.log2_lt h).1 (Nat.lt_succ_self _);have h3:2^((Nat.log2 N+1)/2+1)*2^((Nat.log2 N+1)/2+1)<=CO N*CO N:=Nat.mul_le_mul AA AA;rw[<-Nat.pow_add] at h3;have g:2^(Nat.log2 N+1)<=2^((Nat.log2 N+1)/2+1+((Nat.log2 N+1)/2+1)):=Nat.pow_le_pow_right AF AA;omega
end
section
structure Bw (q:Rat) (b1:Bool) (l1:List UInt32) (b2:Bool) (l2:List UInt32):Prop where
 num:BR q.num b1 l1
 den:BR (q.den:Int) b2 l2
variable {b' X1 b1 b2:Bool} {d y z:Int} {k:Nat} {l l' Qj l1 l2:List UInt32}
theorem CZ (q:Rat):∃b1 l1 b2 l2,Bw q b1 l1 b2 l2:=⟨_,_,_,_,⟨rfl,rfl⟩,⟨rfl,rfl⟩⟩
theorem Bw.uniq {p q:Rat} {c1 c2:Bool} {m1 m2:List UInt32} (h:Bw p b1 l1 b2 l2) (h':Bw q c1 m1 c2 m2) (e:p=q):(b1=c1/\l1=m1)/\(b2=c2/\l2=m2):=by
 subst e;exact⟨h.num.uniq h'.num rfl,h.den.uniq h'.den rfl⟩
structure Cw (q:Rat):Prop where
 num:(BB q.num.natAbs).length<=4000000000000
 den:(BB q.den).length<=4000000000000
theorem Bw.small {q:Rat} (h:Bw q b1 l1 b2 l2) (s:Cw q):l1.length<=4000000000000/\l2.length<=4000000000000:=by
 rw[h.num.B9,h.den.B9];exact⟨s.num,by simpa using s.den⟩
theorem Yt (x:Int):DO x 1=x:=by unfold DO;simp
theorem Qt {n:Int} (g:d≠0):(Rat.divInt n d).num=DO n (if d<0 then -((Nat.gcd n.natAbs d.natAbs:Nat):Int) else ((Nat.gcd n.natAbs d.natAbs:Nat):Int)):=by
 rw[Rat.num_divInt];have f:Int.gcd d n=Nat.gcd n.natAbs d.natAbs:=by rw[Int.gcd_comm];rfl
 have c:0<Nat.gcd n.natAbs d.natAbs:=Nat.gcd_pos_of_pos_right _ AA;rw[f];unfold DO
 by_cases h:d<0
 ·rw[if_pos h,if_neg AA,Int.sign_eq_neg_one_of_neg h,Int.neg_neg,Int.neg_one_mul]
 rw[if_neg h,if_pos AA,Int.sign_eq_one_of_pos AA,Int.one_mul]
theorem Qs {n:Int} (f:d≠0):((Rat.divInt n d).den:Int)=DO d (if d<0 then -((Nat.gcd n.natAbs d.natAbs:Nat):Int) else ((Nat.gcd n.natAbs d.natAbs:Nat):Int)):=by
 rw[Rat.den_divInt,if_neg f];have g:Int.gcd d n=Nat.gcd n.natAbs d.natAbs:=by rw[Int.gcd_comm];rfl
 have c:0<Nat.gcd n.natAbs d.natAbs:=Nat.gcd_pos_of_pos_right _ AA;rw[g,Int.natCast_ediv];unfold DO
 by_cases h:d<0
 ·rw[if_pos h,if_neg AA,Int.neg_neg,(AA:(d.natAbs:Int)= -d)]
 rw[if_neg h,if_pos AA,(AA:(d.natAbs:Int)=d)]
theorem od:BB 1=[1]:=by decide +kernel
theorem VH {x:Int} {b:Bool} (h:BR x b l) (e:b=true):false=decide (x=1):=by
 have:=h.neg;rw[e] at this;have c:x<0:=by simpa using this.symm
 simp;omega
theorem bB {x:Int} {b:Bool} (h:BR x b l) (e:¬l.length=1):false=decide (x=1):=by
 have c:x≠1:=by
  intro f;subst f;apply e;rw[h.B9];exact congrArg List.length od
 simp[c]
theorem VJ {x:Int} {b:Bool} {w:UInt32} (h:BR x b l) (hb:b=false) (e:l.length=1) (hw:l[0]? =some w):decide (w.toNat=1)=decide (x=1):=by
 have g:l=[w]:=by
  match l,e,hw with
  | [a],_,hw=>simp at hw;rw[hw]
 have c:=h.nat;rw[g] at c;have f:AJ [w]=w.toNat:=by simp[AJ]
 rw[f] at c;have h3:=h.neg;rw[hb] at h3;have j:¬x<0:=by simpa using h3.symm
 rw[Bool.eq_iff_iff];simp;omega
theorem Qw (n:Nat):n<2^(32*(BB n).length):=by
 have h:=DZ (BB n);rwa [Bn] at h
theorem oc (a b:Nat):(BB (a*b)).length<=(BB a).length+(BB b).length:=by
 apply Gz;rw[Nat.mul_add,Nat.pow_add];exact Nat.mul_lt_mul_of_lt_of_le (Qw a) (Nat.le_of_lt (Qw b)) (Nat.pow_pos AF)
theorem oa {a b:Nat} (ha:(BB a).length<=k) (hb:(BB b).length<=k):(BB (a+b)).length<=k+1:=by
 apply Gz;have c:=Nat.lt_of_lt_of_le (Qw a) (Nat.pow_le_pow_right (n:=2) AF (Nat.mul_le_mul_left 32 ha));have f:=Nat.lt_of_lt_of_le (Qw b) (Nat.pow_le_pow_right (n:=2) AF (Nat.mul_le_mul_left 32 hb));rw[Nat.mul_add,Nat.pow_add];have h3:2^(32*k)*2<=2^(32*k)*2^(32*1):=Nat.mul_le_mul_left _ AF;omega
theorem BR.Ee {x:Int} {b:Bool} (h:BR x b l) (h':BR y b' l') (c:BR z X1 Qj) (e:z=x*y):Qj.length<=l.length+l'.length:=by
 rw[h.B9,h'.B9,c.B9,e,Int.natAbs_mul];exact oc _ _
theorem BR.Pa {x:Int} {b:Bool} (h:BR x b l) (h':BR y b' l') (f:BR z X1 Qj) (e:z=x+y) (g:l.length<=k) (c:l'.length<=k):Qj.length<=k+1:=by
 rw[h.B9] at g;rw[h'.B9] at c;rw[f.B9,e];exact Nat.le_trans (FG (Int.natAbs_add_le x y)) (oa g c)
theorem IP (q:Rat):(q.den:Int)≠0:=by have:=q.den_nz;omega
theorem Sg (p q:Rat):p+q=Rat.divInt (p.num*q.den+q.num*p.den) ((p.den:Int)*q.den):=by
 have h:=Rat.divInt_add_divInt p.num q.num (IP p) (IP q);rwa [Rat.num_divInt_den,Rat.num_divInt_den] at h
theorem Qz (p q:Rat):p*q=Rat.divInt (p.num*q.num) ((p.den:Int)*q.den):=by
 have h:=Rat.divInt_mul_divInt p.num q.num (d₁:=p.den) (d₂:=q.den);rwa [Rat.num_divInt_den,Rat.num_divInt_den] at h
theorem lu (p q:Rat):p/q=Rat.divInt (p.num*q.den) ((p.den:Int)*q.num):=by
 have h:=Rat.divInt_mul_divInt p.num q.den (d₁:=p.den) (d₂:=q.num);rw[<-Rat.inv_divInt q.num q.den,Rat.num_divInt_den,Rat.num_divInt_den] at h;rw[Rat.div_def,h]
theorem Yv (x:Int):Rat.divInt x 1=(x:Rat):=Rat.num_divInt_den (x:Rat)
theorem Yx (x:Int):(Rat.divInt x 1).num=x:=by rw[Yv];rfl
theorem Yw (x:Int):(Rat.divInt x 1).den=1:=by rw[Yv];rfl
theorem KB {p q:Rat} (c:(p.den:Int)=1) (f:(q.den:Int)=1):(p+q).num=p.num+q.num/\(p+q).den=1:=by
 rw[Sg,c,f];simp only[Int.mul_one];exact⟨Yx _,Yw _⟩
theorem mul_ones {p q:Rat} (c:(p.den:Int)=1) (f:(q.den:Int)=1):(p*q).num=p.num*q.num/\(p*q).den=1:=by
 rw[Qz,c,f];simp only[Int.mul_one];exact⟨Yx _,Yw _⟩
theorem eP (r:Rat):(r*r).num=r.num*r.num/\(r*r).den=r.den*r.den:=by
 have c:(r.num*r.num).natAbs.Coprime (r.den*r.den):=by
  rw[Int.natAbs_mul];have h:=r.reduced;exact Nat.Coprime.mul_right (Nat.Coprime.mul_left h h) (Nat.Coprime.mul_left h h)
 have f:r.den*r.den≠0:=Nat.mul_ne_zero r.den_nz r.den_nz;have h:=Rat.num_divInt_den (⟨r.num*r.num,r.den*r.den,f,c⟩:Rat);have g:=Qz r r
 have h3:(⟨r.num*r.num,r.den*r.den,f,c⟩:Rat)=r*r:=by
  rw[g,<-h];exact congrArg _ (Int.natCast_mul _ _)
 rw[<-h3];exact⟨rfl,rfl⟩
theorem Zp (n:Nat):CO (n*n)=n:=Zq (Nat.le_refl _) (by rw[Nat.add_mul,Nat.mul_add];omega)
theorem eY {r q:Rat} (f:0<=r) (h:r*r=q):((CO q.num.toNat:Nat):Int)=r.num/\r.num*r.num=q.num:=by
 have c:=(eP r).1;rw[h] at c;have j:0<=r.num:=Rat.num_nonneg.2 f;refine⟨?_,c.symm⟩;obtain⟨k,g⟩:=Int.eq_ofNat_of_zero_le j;rw[c,g];rw[show ((k:Int)*k).toNat=k*k by rw[<-Int.natCast_mul];rfl,Zp]
theorem eX {r q:Rat} (f:0<=r) (h:r*r=q):((CO (q.den:Int).toNat:Nat):Int)=(r.den:Int)/\(r.den:Int)*r.den=(q.den:Int):=by
 have c:=(eP r).2;rw[h] at c;refine⟨?_,by rw[c];exact (Int.natCast_mul _ _).symm⟩;rw[c,Int.toNat_natCast,Zp]
theorem eW {q:Rat} (f:((CO q.num.toNat:Nat):Int)*((CO q.num.toNat:Nat):Int)=q.num) (c:((CO (q.den:Int).toNat:Nat):Int)*((CO (q.den:Int).toNat:Nat):Int)=(q.den:Int)):∃r:Rat,0<=r/\r*r=q:=by
 refine⟨Rat.divInt ((CO q.num.toNat:Nat):Int) ((CO (q.den:Int).toNat:Nat):Int),?_,?_⟩
 ·exact Rat.divInt_nonneg (Int.natCast_nonneg _) (Int.natCast_nonneg _)
 rw[Rat.divInt_mul_divInt,f,c,Rat.num_divInt_den]
def GF (b1:Bool) (l1:List UInt32) (b2:Bool) (l2:List UInt32):Bool:=Gp b1 l1&&(Gp b2 l2&&(!b2&&(decide (l2≠[])&&decide (Nat.gcd (AJ l1) (AJ l2)=1))))
theorem NH:GF b1 l1 b2 l2=true↔∃q,Bw q b1 l1 b2 l2:=by
 unfold GF;simp only[Bool.and_eq_true,Bool.not_eq_true',decide_eq_true_eq]
 constructor
 ·rintro⟨m,v,h3,F,f⟩
  obtain⟨x,j⟩:=Kp.1 m;obtain⟨y,c⟩:=Kp.1 v;have G:y≠0:=fun e=>F (c.nil.2 e)
  have g:=c.neg;rw[h3] at g;have H:¬y<0:=by simpa using g.symm
  rw[j.nat,c.nat] at f;refine⟨⟨x,y.natAbs,AA,f⟩,j,?_⟩
  show BR ((y.natAbs:Nat):Int) b2 l2
  rw[(AA:((y.natAbs:Nat):Int)=y)];exact c
 rintro⟨q,h⟩
 refine⟨Kp.2 ⟨_,h.num⟩,Kp.2 ⟨_,h.den⟩,?_,fun e=>q.den_nz (by have:=h.den.nil.1 e;omega),?_⟩
 ·rw[h.den.neg];simp
 rw[h.num.nat,h.den.nat,Int.natAbs_natCast];exact q.reduced
def E1 (q:Rat):Int:=DM q.num
def Hy (p q:Rat):Int:=if p<q then -1 else if q<p then 1 else 0
end
section
def rp (q:Rat):el AL:=((decide (q.num<0),BB q.num.natAbs),(decide ((q.den:Int)<0),BB q.den))
theorem H2 (q:Rat):Bw q (rp q).1.1 (rp q).1.2 (rp q).2.1 (rp q).2.2:=AQ
theorem Bw.rp {q:Rat} {b1 b2:Bool} {l1 l2:List UInt32} (h:Bw q b1 l1 b2 l2):rp q=((b1,l1),(b2,l2)):=by
 have u:=h.uniq (H2 q) rfl;rw[u.1.1,u.1.2,u.2.1,u.2.2]
abbrev Ba (X:List Rat):List (el AL):=X.map rp
def FA (X:List Rat):Prop:=∀q∈X,Cw q
structure PL (ts:AH):Prop where
 small:∀x∈ts,FA x
 UP:ts.length<=16
 form:∀i x,ts[i]? =some x->x.length=2^i
end
section
noncomputable def em (u:AH) (x:Re):List (el AL):=Ba (co u x)
def tw (u:AH):List (List (el AL)):=u.reverse.map Ba
structure BZ (R:Nat) (u:AH):Prop where
 red:BG u
 tb:TB R u
 hR:R<=60000000000000
 ht:u.length<=16
structure El (u:AH) (s:Nat) (x:Re):Prop where
 mem:In u x
 bd:Bd s (co u x)
variable {R k n s t:Nat} {p x y:Re}
theorem aB (h:n<=2^(2*k)) (f:k<=60000000000000):(BB n).length<=4000000000000:=by
 obtain⟨m,hm⟩:=xN 3999999999999;have c:n<2^(32*m):=Nat.lt_of_le_of_lt h (Nat.pow_lt_pow_right AF AA);have:=Gz c;omega
theorem lR {q:Rat} {D:Nat} {n:Int} (h:q*D=n) (j:0<D):q.den<=D:=by
 have c:=Mu q
 have f:((q.num*D:Int):Rat)=((n*q.den:Int):Rat):=by
  rw[Rat.intCast_mul,Rat.intCast_mul,<-h,<-c];have e1:((D:Int):Rat)=(D:Rat):=rfl;have e2:((q.den:Int):Rat)=(q.den:Rat):=rfl
  grind
 have h3:q.num*D=n*q.den:=Rat.intCast_inj.1 f
 have g:q.den∣q.num.natAbs*D:=by
  refine⟨n.natAbs,?_⟩;have:=congrArg Int.natAbs h3;rw[Int.natAbs_mul,Int.natAbs_mul,Int.natAbs_natCast,Int.natAbs_natCast] at this;rw[this,Nat.mul_comm]
 exact Nat.le_of_dvd j ((Nat.Coprime.symm q.reduced).dvd_of_dvd_mul_left g)
theorem Bd.C4 {a:List Rat} (h:Bd k a) (g:k<=60000000000000):FA a:=by
 obtain⟨D,m,v,F,h3⟩:=h;intro q j;obtain⟨n,G⟩:=F q j;have f:q.den<=2^k:=Nat.le_trans (lR G m) v;have hb:=h3 q j
 have c:q.num.natAbs<=2^(2*k):=by
  have e1:=Ur (C:=q.den) hb (q:=(q.den:Rat)) ⟨by have:(0:Rat)<=q.den:=Rat.natCast_nonneg;grind,by grind⟩;rw[Mu] at e1
  have e2:q.num.natAbs<=2^k*q.den:=by
   have H: -((2^k*q.den:Nat):Int)<=q.num:=by
    apply Rat.intCast_le_intCast.1;rw[Rat.intCast_neg];exact e1.1
   have I:q.num<=((2^k*q.den:Nat):Int):=Rat.intCast_le_intCast.1 e1.2;omega
  have:=Nat.mul_le_mul_left (2^k) f;rw[<-Nat.pow_add] at this;exact Nat.le_trans e2 (Nat.le_trans this (DI))
 exact⟨aB c g,aB (Nat.le_trans f (DI)) g⟩
theorem El.C4 {u:AH} (h:El u s x) (c:s<=60000000000000):FA (co u x):=h.bd.C4 c
theorem El.len {u:AH} (h:El u s x):(co u x).length=2^u.length:=Dg h.mem
theorem CH {u:AH} (h:In u x):(em u x).length=2^u.length:=by rw[em,List.length_map,Dg h]
theorem Cr (u:AH):(tw u).length=u.length:=by rw[tw,List.length_map,List.length_reverse]
theorem EV (h:n<=16:=by omega):2^n<=65536:=Nat.le_trans (DI h) AF
theorem Ow (r:List Rat) (u:AH):tw (r::u)=tw u++[Ba r]:=by rw[tw,List.reverse_cons,List.map_append];rfl
theorem Ek (r:List Rat) (u:AH):(tw (r::u)).take ((tw (r::u)).length-1)=tw u:=by
 rw[Ow,List.length_append,Cr];simp[List.take_left' (Cr u)]
theorem Gl (r:List Rat) (u:AH):(tw (r::u))[(tw (r::u)).length-1]? =some (Ba r):=by
 rw[Ow,List.length_append,Cr];simp[List.getElem?_append_right (Nat.le_of_eq (Cr u))];rw[Cr,Nat.sub_self];rfl
theorem Fh {r:List Rat} {u:AH} (h:BG (r::u)):Ba r=em u (AW u r):=by rw[em,FU h]
theorem DU {u:AH} {r:List Rat} {q:Re} (h:BG (r::u)) (f:In u p) (g:In u q) (j:x=p+q*rt u r):(em (r::u) x).take ((em (r::u) x).length/2)=em u p:=by
 have c:In (r::u) x:=DJ.2 ⟨p,q,f,g,j⟩;rw[CH c,Cg,(AA:(2^u.length+2^u.length)/2=2^u.length),em,em,Ba,Ba,<-List.map_take,lL h f g j]
theorem DH {u:AH} {r:List Rat} {q:Re} (h:BG (r::u)) (f:In u p) (g:In u q) (j:x=p+q*rt u r):(em (r::u) x).drop ((em (r::u) x).length/2)=em u q:=by
 have c:In (r::u) x:=DJ.2 ⟨p,q,f,g,j⟩;rw[CH c,Cg,(AA:(2^u.length+2^u.length)/2=2^u.length),em,em,Ba,Ba,<-List.map_drop,lK h f g j]
theorem GR {u:AH} {r:List Rat} {q:Re} (h:BG (r::u)) (c:In u p) (f:In u q) (g:x=p+q*rt u r):em (r::u) x=em u p++em u q:=by
 rw[em,Dq h c f g,Ba,List.map_append];rfl
theorem Y3 {u:AH} (h:BG u) (c:In u x) (f:In u y):em u (x+y)=Ba (List.zipWith (· + ·) (co u x) (co u y)):=by rw[em,Nt h c f]
theorem Y4 {u:AH} (h:BG u) (c:In u x):em u (-x)=Ba ((co u x).map (- ·)):=by rw[em,MD h c]
theorem FD (q:Rat):em [] (Re.ofRat q)=[rp q]:=by rw[em,Ed];rfl
theorem TZ {u:AH} (h:BG u):em u 0=Ba (List.replicate (2^u.length) 0):=by rw[em,TR h]
theorem BZ.tail {r:List Rat} {u:AH} (h:BZ R (r::u)):BZ R u:=⟨h.red.1,h.tb.tail,h.hR,by have:=h.ht;rw[List.length_cons] at this;omega⟩
theorem Dh {α:Type} {l:List α} {i:Nat} {x:α} (h:l[i]? =some x):i<l.length:=by
 apply Classical.byContradiction;intro c;rw[List.getElem?_eq_none AA] at h;exact absurd h AZ
theorem Mv:∀{u:AH},BG u->∀(i:Nat) (x:List Rat),u.reverse[i]? =some x->x.length=2^i
 | [],_,i,x,h=>by simp at h
 | r::u,c,i,x,h=>by
  rw[List.reverse_cons] at h
  by_cases g:i<u.length
  ·rw[List.getElem?_append_left (by rw[List.length_reverse];exact g)] at h;exact Mv c.1 i x h
  rw[List.getElem?_append_right (by rw[List.length_reverse];omega),List.length_reverse] at h
  have f:i-u.length=0:=by
   have:=Dh h;simp at this;omega
  rw[f] at h;have:r=x:=by simpa using h
  rw[<-this,c.2.1]
  congr 1;omega
theorem BZ.Hp {u:AH} (h:BZ R u):PL u.reverse:=
 ⟨fun x c=>(h.tb x (List.mem_reverse.1 c)).C4 h.hR,by rw[List.length_reverse];exact h.ht,Mv h.red⟩
theorem El.Da {r:List Rat} {u:AH} (h:BZ R (r::u)):El u R (AW u r):=⟨Ch h.red,Sw h.red h.tb⟩
theorem El.parts {u:AH} {r:List Rat} (h:BG (r::u)) (g:El (r::u) s x):∃p q,x=p+q*rt u r/\El u s p/\El u s q:=by
 obtain⟨p,q,c,f,rfl⟩:=DJ.1 g.mem;have:=X7 h c f g.bd;exact⟨p,q,rfl,⟨c,this.1⟩,⟨f,this.2⟩⟩
theorem El.mono {u:AH} (h:El u s x) (c:s<=t):El u t x:=⟨h.mem,h.bd.mono c⟩
theorem El.add {u:AH} (h:BG u) (c:El u s x) (f:El u t y):El u (s+t+1) (x+y):=⟨EM c.mem f.mem,X5 h c.mem f.mem c.bd f.bd⟩
theorem El.sub {u:AH} (h:BG u) (c:El u s x) (f:El u t y):El u (s+t+1) (x-y):=⟨GM c.mem f.mem,kU h c.mem f.mem c.bd f.bd⟩
theorem El.neg {u:AH} (h:BG u) (c:El u s x):El u s (-x):=⟨HE c.mem,X8 h c.mem c.bd⟩
theorem El.mul {u:AH} (h:BZ R u) (c:El u s x) (f:El u t y):El u (s+t+EE u.length R) (x*y):=⟨BO h.red c.mem f.mem,kR h.red h.tb c.mem f.mem c.bd f.bd⟩
theorem El.norm {u:AH} {r:List Rat} {q:Re} (h:BZ R (r::u)) (c:In u p) (f:In u q) (g:El (r::u) s (p+q*rt u r)):El u (2*s+2*EE u.length R+R+1) (p*p-q*q*AW u r):=
 ⟨GM (BO h.red.1 c c) (BO h.red.1 (BO h.red.1 f f) (Ch h.red)),X9 h.red h.tb c f g.bd⟩
theorem El.inv {u:AH} (h:BZ R u) (c:El u s x) (f:In u y) (e:x*y=1):El u (II u.length R s) y:=⟨f,HX h.red h.tb c.mem f e c.bd⟩
theorem El.sqrt {u:AH} {w:Re} (h:BZ R u) (c:El u s x) (hw:In u w) (e:w*w=x):El u (s+GG u.length R) w:=⟨hw,Pn h.red h.tb hw e c.bd⟩
theorem El.rat {u:AH} {q:Rat} (h:BG u) (c:Bd s [q]):El u s (Re.ofRat q):=⟨IV q u,kS h c⟩
theorem Fy:∀(h R s:Nat),2*s<=II h R s
 | 0,_,_=>Nat.le_refl _
 | h+1,R,s=>by
  have:=Fy h R (2*s+2*EE h R+R+1);rw[II];omega
theorem ah {u:AH} {r:List Rat} {q:Re} (h:BG (r::u)) (f:In u p) (g:In u q) (c:p+q*rt u r≠0):p*p-q*q*AW u r≠0:=by
 intro j;have F:=DW h;have e1:(p+q*rt u r)*(p-q*rt u r)=0:=by grind
 rcases Re.Gx e1 with e2 | e2
 ·exact c e2
 obtain⟨m,v⟩:=indep h f (HE g) (Cs u) (Cs u) (show p+ -q*rt u r=0+0*rt u r by grind);exact c (by grind)
theorem Ni:Bd 1 [(1/2:Rat)]:=by
 refine⟨2,AF,AF,fun q c=>⟨1,?_⟩,fun q c=>?_⟩
 ·rw[List.mem_singleton.1 c];decide +kernel
 rw[List.mem_singleton.1 c];decide +kernel
theorem HW:Bd 0 [(0:Rat)]:=⟨1,AF,AF,fun q c=>⟨0,by rw[List.mem_singleton.1 c];decide +kernel⟩,fun q c=>by rw[List.mem_singleton.1 c];decide +kernel⟩
theorem kO:Bd 0 [(1:Rat)]:=⟨1,AF,AF,fun q c=>⟨1,by rw[List.mem_singleton.1 c];decide +kernel⟩,fun q c=>by rw[List.mem_singleton.1 c];decide +kernel⟩
end
section
noncomputable def CA (x:Re):Int:=by
 classical
 exact if x<0 then -1 else if x=0 then 0 else 1
theorem Ft (x:Re):(x<0/\CA x= -1)\/(x=0/\CA x=0)\/(0<x/\CA x=1):=by
 unfold CA
 by_cases h:x<0
 ·rw[if_pos h];exact .inl ⟨h,rfl⟩
 rw[if_neg h]
 by_cases c:x=0
 ·rw[if_pos c];exact .inr (.inl ⟨c,rfl⟩)
 rw[if_neg c];exact .inr (.inr ⟨by grind,rfl⟩)
theorem H8 {x:Re} (h:0<x):CA x=1:=by rcases Ft x with⟨a,b⟩ |⟨a,b⟩ |⟨a,b⟩ <;> grind
theorem JA {x:Re} (h:x<0):CA x= -1:=by rcases Ft x with⟨a,b⟩ |⟨a,b⟩ |⟨a,b⟩ <;> grind
theorem Gk:CA 0=0:=by rcases Ft 0 with⟨a,b⟩ |⟨a,b⟩ |⟨a,b⟩ <;> grind
theorem Fu {x:Re}:CA x=0↔x=0:=by
 rcases Ft x with⟨a,b⟩ |⟨a,b⟩ |⟨a,b⟩ <;> rw[b]
 ·constructor
  ·intro h;omega
  intro h;grind
 ·exact⟨fun _=>a,fun _=>rfl⟩
 constructor
 ·intro h;omega
 intro h;grind
theorem dY (x y:Re):CA (x*y)=CA x*CA y:=by
 rcases Ft x with⟨a,b⟩ |⟨a,b⟩ |⟨a,b⟩ <;> rcases Ft y with⟨c,d⟩ |⟨c,d⟩ |⟨c,d⟩ <;> rw[b,d]
 ·have:=Re.mul_pos (x:= -x) (y:= -y) (by grind) (by grind);exact H8 (by grind)
 ·rw[c,show x*0=0 by grind];exact Gk
 ·have:=Re.mul_pos (x:= -x) (y:=y) (by grind) (by grind);exact JA (by grind)
 ·rw[a,show 0*y=0 by grind];exact Gk
 ·rw[a,show 0*y=0 by grind];exact Gk
 ·rw[a,show 0*y=0 by grind];exact Gk
 ·have:=Re.mul_pos (x:=x) (y:= -y) (by grind) (by grind);exact JA (by grind)
 ·rw[c,show x*0=0 by grind];exact Gk
 exact H8 (Re.mul_pos a c)
theorem dX (x y:Re): -9223372036854775808<=CA x*CA y/\CA x*CA y<9223372036854775808:=by
 rcases Ft x with⟨a,b⟩ |⟨a,b⟩ |⟨a,b⟩ <;> rcases Ft y with⟨c,d⟩ |⟨c,d⟩ |⟨c,d⟩ <;> rw[b,d] <;> decide
section
variable {p q s ρ:Re}
theorem Rd (f:0<s) (h:q=0\/CA p=CA q):CA (p+q*s)=CA p:=by
 rcases h with h | h
 ·rw[h,show p+0*s=p by grind]
 rcases Ft p with⟨a,b⟩ |⟨a,b⟩ |⟨a,b⟩ <;> rcases Ft q with⟨c,d⟩ |⟨c,d⟩ |⟨c,d⟩ <;> rw[b,d] at h <;> try omega
 ·have:=Re.mul_pos (x:= -q) (y:=s) (by grind) f;rw[b];exact JA (by grind)
 ·rw[b,a,c,show (0:Re)+0*s=0 by grind];exact Gk
 have:=Re.mul_pos (x:=q) (y:=s) c f;rw[b];exact H8 (by grind)
theorem dg (c:0<s) (h:p=0):CA (p+q*s)=CA q:=by
 rw[h,show 0+q*s=q*s by grind,dY,H8 c,Int.mul_one]
theorem dd (f:0<s) (m:s*s=ρ) (g:p≠0) (j:q≠0) (h:CA p≠CA q):CA (p+q*s)=CA p*CA (p*p-q*q*ρ):=by
 have e:p*p-q*q*ρ=(p-q*s)*(p+q*s):=by rw[<-m];grind
 rw[e,dY];rcases Ft p with⟨a,b⟩ |⟨a,b⟩ |⟨a,b⟩ <;> rcases Ft q with⟨c,d⟩ |⟨c,d⟩ |⟨c,d⟩ <;> rw[b,d] at h <;> first | (exact absurd rfl h) | (exact absurd a g) | (exact absurd c j) | skip
 ·have:=Re.mul_pos (x:=q) (y:=s) c f;rw[b,JA (x:=p-q*s) (by grind)];omega
 have:=Re.mul_pos (x:= -q) (y:=s) (by grind) f;rw[b,H8 (x:=p-q*s) (by grind)];omega
end
theorem dZ (q:Rat):CA (Re.ofRat q)=E1 q:=by
 have c:(0:Re)=Re.ofRat 0:=rfl;have f:E1 q=DM q.num:=rfl;rw[f];rcases G3 q.num with⟨a,b⟩ |⟨a,b⟩ |⟨a,b⟩ <;> rw[b]
 ·exact JA (by rw[c,Re.Ia];rw[Rat.lt_iff];simp;exact a)
 ·rw[Rat.num_eq_zero.1 a];exact Gk
 exact H8 (by rw[c,Re.Ia];rw[Rat.lt_iff];simp;exact a)
def VV:Nat->Nat->Nat->Nat
 | 0,_,s=>s
 | h+1,R,s=>VV h R (2*s+2*EE h R+R+1)
theorem JK:∀(h R:Nat) {s t:Nat},s<=t->VV h R s<=VV h R t
 | 0,_,_,_,h=>h
 | h+1,R,_,_,c=>JK h R AA
theorem G6:∀(h R s:Nat),s<=VV h R s
 | 0,_,_=>Nat.le_refl _
 | h+1,R,s=>Nat.le_trans AA (G6 h R (2*s+2*EE h R+R+1))
theorem W9 (h R s:Nat):VV h R s<=VV (h+1) R s:=JK h R AA
theorem NW {i h:Nat} (f:i<=h) (R s:Nat):VV i R s<=VV h R s:=by
 induction h with
 | zero=>rw[Nat.le_zero.1 f];exact Nat.le_refl _
 | succ h g=>
  rcases Nat.lt_or_ge i (h+1) with c | c
  ·exact Nat.le_trans (g AA) (W9 h R s)
  rw[(AA:i=h+1)];exact Nat.le_refl _
def pre (u:AH) (i:Nat):AH:=u.drop (u.length-i)
theorem KY {u:AH} {i:Nat} (h:i<=u.length):(pre u i).length=i:=by rw[pre,List.length_drop];omega
theorem Jo {u:AH} {i:Nat}:(tw u).take i=tw (pre u i):=by
 rw[tw,tw,pre,<-List.map_take,List.reverse_drop]
 by_cases h:i<=u.length
 ·rw[(AA:u.length-(u.length-i)=i)]
 rw[(AA:u.length-i=0),Nat.sub_zero,List.take_of_length_le (by rw[List.length_reverse];omega),List.take_of_length_le (by rw[List.length_reverse];omega)]
theorem ba (u:AH):pre u u.length=u:=by rw[pre,Nat.sub_self,List.drop_zero]
theorem Ld {u:AH} {i:Nat} (h:i<u.length):∃r,pre u (i+1)=r::pre u i/\(tw u)[i]? =some (Ba r):=by
 refine⟨u[u.length-(i+1)]'AA,?_,?_⟩
 ·rw[pre,pre,List.drop_eq_getElem_cons AA,(AA:u.length-(i+1)+1=u.length-i)]
 rw[tw,List.getElem?_map,List.getElem?_reverse h,(AA:u.length-1-i=u.length-(i+1)),List.getElem?_eq_getElem AA];rfl
theorem bw:∀{u:AH} (n:Nat),BG u->BG (u.drop n)
 |u,0,h|[],_+1,h=>h
 | _::u,n+1,h=>bw n h.1
theorem BZ.pre {R:Nat} {u:AH} (h:BZ R u) (i:Nat):BZ R (pre u i):=
 ⟨bw _ h.red,fun r c=>h.tb r (List.mem_of_mem_drop c),h.hR,by have:=h.ht;rw[Go.Abs.pre,List.length_drop];omega⟩
def QQ:Nat->Nat->Nat->Nat
 | 0,_,s=>s
 | h+1,R,s=>max (QQ h R (3*s+3*EE h R+R+GG h R+3+II h R R)) (s+II h R (2*(3*s+3*EE h R+R+GG h R+3+II h R R+GG h R)+1)+EE h R)
theorem Kt:∀(h R:Nat) {s t:Nat},s<=t->II h R s<=II h R t
 | 0,_,_,_,h=>by rw[II,II];omega
 | h+1,R,s,t,c=>by
  have:=Kt h R (s:=2*s+2*EE h R+R+1) (t:=2*t+2*EE h R+R+1) AA;rw[II,II];omega
theorem PG:∀(h R:Nat) {s t:Nat},s<=t->QQ h R s<=QQ h R t
 | 0,_,_,_,h=>h
 | h+1,R,s,t,g=>by
  have c:=PG h R (s:=3*s+3*EE h R+R+GG h R+3+II h R R) (t:=3*t+3*EE h R+R+GG h R+3+II h R R) AA;have f:=Kt h R (s:=2*(3*s+3*EE h R+R+GG h R+3+II h R R+GG h R)+1) (t:=2*(3*t+3*EE h R+R+GG h R+3+II h R R+GG h R)+1) AA;rw[QQ,QQ];omega
theorem JH:∀(h R s:Nat),s<=QQ h R s
 | 0,_,_=>Nat.le_refl _
 | h+1,R,s=>by have:=JH h R (3*s+3*EE h R+R+GG h R+3+II h R R);rw[QQ];omega
theorem gi (h R s:Nat):QQ h R s<=QQ (h+1) R s:=by
 have:=PG h R (s:=s) (t:=3*s+3*EE h R+R+GG h R+3+II h R R) AA;rw[QQ];omega
theorem gh {i h:Nat} (f:i<=h) (R s:Nat):QQ i R s<=QQ h R s:=by
 induction h with
 | zero=>rw[Nat.le_zero.1 f];exact Nat.le_refl _
 | succ h g=>
  rcases Nat.lt_or_ge i (h+1) with c | c
  ·exact Nat.le_trans (g AA) (gi h R s)
  rw[(AA:i=h+1)];exact Nat.le_refl _
structure Fit (h R s:Nat):Prop where
 q:QQ h R s<=60000000000000
 v:VV h R (s+GG h R)<=60000000000000
 qR:QQ h R R<=60000000000000
 vR:VV h R R<=60000000000000
theorem Fit.v0 {h R s:Nat} (f:Fit h R s):VV h R s<=60000000000000:=Nat.le_trans (JK h R AA) f.v
theorem Fit.s {h R s:Nat} (f:Fit h R s):s<=60000000000000:=Nat.le_trans (JH h R s) f.q
theorem Fit.mono {h R s t:Nat} (f:Fit h R s) (ht:t<=s):Fit h R t:=⟨Nat.le_trans (PG h R ht) f.q,Nat.le_trans (JK h R AA) f.v,f.qR,f.vR⟩
end
section
def Br (u w:AH):Prop:=∀x,In u x->In w x
theorem Br.refl (u:AH):Br u u:=fun _ h=>h
theorem Br.trans {u v w:AH} (h:Br u v) (k:Br v w):Br u w:=fun x c=>k x (h x c)
theorem N7:∀(v:AH) {u:AH},Br u (v++u)
 | [],u=>Br.refl u
 | _::v,_=>fun x c=>GN (N7 v x c)
theorem N8 {u w:AH} (h:u<:+w):Br u w:=by
 obtain⟨v,rfl⟩:=h;exact N7 v
theorem Br.tail {u w:AH} {r:List Rat} (h:Br (r::u) w):Br u w:=fun x c=>h x (GN c)
theorem Br.root {u w:AH} {r:List Rat} (h:Br (r::u) w):In w (rt u r):=h _ (Je u r)
theorem KI {u w:AH} {r:List Rat} (hw:BG w) (h:Br u w) (g:In w (rt u r)):Br (r::u) w:=fun x j=>by
 obtain⟨p,q,c,f,rfl⟩:=DJ.1 j;exact EM (h p c) (BO hw (h q f) g)
theorem MN (w:AH):Br [] w:=fun x c=>by
 obtain⟨q,rfl⟩:=DV.1 c;exact IV q w
noncomputable def BW (u:AH) (v:Re):AH:=by
 classical
 exact if Sq u v then u else co u v::u
theorem Ec {u:AH} {v:Re} (h:Sq u v):BW u v=u:=by unfold BW;rw[if_pos h]
theorem Dv {u:AH} {v:Re} (h:¬Sq u v):BW u v=co u v::u:=by unfold BW;rw[if_neg h]
theorem Pf (u:AH) (v:Re):u<:+BW u v:=by
 by_cases h:Sq u v
 ·rw[Ec h];exact List.suffix_refl u
 rw[Dv h];exact List.suffix_cons _ _
theorem Kc {u:AH} {v:Re} (h:BG u) (c:In u v) (f:0<v) (g:¬Sq u v):BG (co u v::u):=
 ⟨h,Dg c,by rw[FE c];exact f,by rw[FE c];exact g⟩
theorem Vc {u:AH} {v:Re} (h:BG u) (g:In u v) (f:0<v):BG (BW u v):=by
 by_cases c:Sq u v
 ·rw[Ec c];exact h
 rw[Dv c];exact Kc h g f c
theorem Jt {u:AH} {v:Re} (c:In u v):rt u (co u v)=Re.sqrt v:=by rw[rt,FE c]
theorem Lm {u:AH} {v:Re} (c:0<=v):Sq u v↔In u (Re.sqrt v):=by
 constructor
 ·rintro⟨w,hw,e⟩
  have g:=Re.Hn c;have f:=Re.M4 v
  by_cases h:0<=w
  ·rw[<-Re.M3 h f (by rw[e,g])];exact hw
  rw[<-Re.M3 (x:= -w) (by grind) f (by rw[g,<-e];grind)];exact HE hw
 intro h;exact⟨_,h,Re.Hn c⟩
theorem Sh {u:AH} {v:Re} (g:In u v) (f:0<=v):In (BW u v) (Re.sqrt v):=by
 by_cases c:Sq u v
 ·rw[Ec c];exact (Lm f).1 c
 rw[Dv c,<-Jt g];exact Je u _
noncomputable def ext (t:AH):AH->AH
 | []=>t
 | r::u=>BW (ext t u) (AW u r)
theorem QU (t:AH):∀u,t<:+ext t u
 | []=>List.suffix_refl t
 | r::u=>List.IsSuffix.trans (QU t u) (Pf _ _)
theorem Jr {t:AH} (ht:BG t):∀{u:AH},BG u->BG (ext t u)/\Br u (ext t u)
 | [],_=>⟨ht,MN _⟩
 | r::u,hu=>by
  obtain⟨h,c⟩:=Jr ht hu.1;have f:=c _ (Ch hu);have g:=hu.2.2.1;have h3:=Vc h f g;exact⟨h3,KI h3 (c.trans (N8 (Pf _ _))) (Sh f (by grind))⟩
open Classical in
noncomputable def Fk (t u:AH):AH:=if u<:+t then t else if t<:+u then u else ext t u
theorem qf {t u:AH} (ht:BG t) (hu:BG u):BG (Fk t u)/\Br t (Fk t u)/\Br u (Fk t u):=by
 unfold Fk
 split
 ·rename_i h;exact⟨ht,Br.refl t,N8 h⟩
 split
 ·rename_i h;exact⟨hu,N8 h,Br.refl u⟩
 obtain⟨c,f⟩:=Jr ht hu;exact⟨c,N8 (QU t u),f⟩
theorem Y5:∀(v:AH) {u:AH} {x:Re},BG (v++u)->In u x->em (v++u) x=em u x++List.replicate (2^(v++u).length-2^u.length) (rp 0)
 | [],u,x,h,c=>AZ
 | r::v,u,x,h,c=>by
  have f:=N7 v x c;have G:=Y5 v h.1 c;have j:2^u.length<=2^(v++u).length:=DI AZ;have e:em (r::v++u) x=em (v++u) x++em (v++u) 0:=GR h f (Cs _) (by grind);have F:em (v++u) 0=Ba (List.replicate (2^(v++u).length) 0):=TZ h.1;rw[e,G,F,Ba,List.map_replicate,List.append_assoc,List.replicate_append_replicate];have m:2^(r::v++u).length=2^(v++u).length+2^(v++u).length:=Cg r (v++u);have g:∀a b:Nat,b<=a->a-b+a=a+a-b:=fun a b h=>AA
  rw[m,<-g _ _ j]
theorem Y8 {u w:AH} {x:Re} (h:u<:+w) (hw:BG w) (c:In u x):em w x=em u x++List.replicate (2^w.length-2^u.length) (rp 0):=by
 obtain⟨v,rfl⟩:=h;exact Y5 v hw c
theorem Vg {u w:AH} (h:u<:+w) (hw:BG w):BG u:=by
 obtain⟨v,rfl⟩:=h
 induction v with
 | nil=>exact hw
 | cons r v c=>exact c hw.1
structure Gam (T:AH->Prop) (R C S:Nat):Prop where
 Bb:∀{u},T u->BZ R u
 ht:∀{u},T u->u.length<=8
 nil:T []
 sub:∀{r u},T (r::u)->T u
 BW:∀{t r u},T t->T (r::u)->Br u t->T (BW t (AW u r))
 Cp:∀{u w s x},T u->T w->Br u w->El u s x->El w (s+C) x
 fit:∀{u},T u->Fit u.length R (S+C)
 mul:∀{u},T u->2*(S+C)+EE u.length R<=60000000000000
 RS:R<=S
section
variable {T:AH->Prop} {R C S:Nat}
theorem Gam.Jw (G:Gam T R C S) {u w:AH} (h:u<:+w) (hw:T w):T u:=by
 obtain⟨v,rfl⟩:=h
 induction v with
 | nil=>exact hw
 | cons r v c=>exact c (G.sub hw)
theorem Gam.ext (G:Gam T R C S) {t:AH} (ht:T t):∀{u:AH},T u->T (ext t u)
 | [],_=>ht
 | r::u,hu=>G.BW (G.ext ht (G.sub hu)) hu (Jr (G.Bb ht).red (G.Bb (G.sub hu)).red).2
theorem Gam.join (G:Gam T R C S) {t u:AH} (ht:T t) (hu:T u):T (Fk t u):=by
 unfold Fk
 split
 ·exact ht
 split
 ·exact hu
 exact G.ext ht hu
end
theorem JX {u:AH} {r:List Rat} (h:BG (r::u)):El (r::u) 0 (rt u r):=by
 have c:El u 0 0:=El.rat h.1 HW;have f:El u 0 1:=El.rat h.1 kO;have:=Nj h c.mem f.mem c.bd f.bd;rw[show (0:Re)+1*rt u r=rt u r by grind] at this;exact⟨Je u r,this⟩
end
section
theorem G5:∀{h h' R R':Nat},h<=h'->R<=R'->EE h R<=EE h' R'
 | 0,h',R,R',_,_=>Nat.zero_le _
 | h+1,0,R,R',c,_=>absurd c AA
 | h+1,h'+1,R,R',c,hR=>by
  have:=G5 (h:=h) (h':=h') AA hR;rw[EE,EE];omega
theorem GZ:∀{h h' R R' s s':Nat},h<=h'->R<=R'->s<=s'->II h R s<=II h' R' s'
 | 0,0,R,R',s,s',_,_,f=>by rw[II,II];omega
 | 0,h'+1,R,R',s,s',_,_,f=>by
  have:=Fy h' R' (2*s'+2*EE h' R'+R'+1);rw[II,II];omega
 | h+1,0,R,R',s,s',c,_,_=>absurd c AA
 | h+1,h'+1,R,R',s,s',c,hR,f=>by
  have g:=G5 (h:=h) (h':=h') AA hR;have j:=GZ (h:=h) (h':=h') (s:=2*s+2*EE h R+R+1) (s':=2*s'+2*EE h' R'+R'+1) AA hR AA;rw[II,II];omega
theorem PC:∀{h h' R R':Nat},h<=h'->R<=R'->GG h R<=GG h' R'
 | 0,h',R,R',_,_=>by rw[GG];exact Nat.zero_le _
 | h+1,0,R,R',c,_=>absurd c AA
 | h+1,h'+1,R,R',c,hR=>by
  have f:=G5 (h:=h) (h':=h') AA hR;have g:=PC (h:=h) (h':=h') AA hR;have h3:=GZ (h:=h) (h':=h') (s:=R) (s':=R') AA hR hR;rw[GG,GG];omega
def CC:Nat->Nat->Nat->Nat->Nat
 | 0,_,_,_=>0
 | k+1,R0,h,R=>2*CC k R0 h R+R0+GG h R+EE h R+1
theorem Kr:∀{k k' R0 JI h h' R R':Nat},k<=k'->R0<=JI->h<=h'->R<=R'->CC k R0 h R<=CC k' JI h' R'
 | 0,k',_,_,_,_,_,_,_,_,_,_=>by rw[CC];exact Nat.zero_le _
 | k+1,0,_,_,_,_,_,_,f,_,_,_=>absurd f AA
 | k+1,k'+1,R0,JI,h,h',R,R',f,g,c,hR=>by
  have j:=Kr (k:=k) (k':=k') AA g c hR;have m:=G5 c hR;have h3:=PC c hR;rw[CC,CC];omega
theorem TX {D:Nat} {q:Rat} {n:Nat} (h:DN D [q]):DN D (q::List.replicate n 0):=fun z c=>by
 rcases List.mem_cons.1 c with rfl | c
 ·exact h _ List.mem_cons_self
 rw[List.eq_of_mem_replicate c];exact⟨0,AZ⟩
theorem Us {B:Nat} {q:Rat} {n:Nat} (h:MX B [q]):MX B (q::List.replicate n 0):=fun z c=>by
 rcases List.mem_cons.1 c with rfl | c
 ·exact h _ List.mem_cons_self
 rw[List.eq_of_mem_replicate c];have:(0:Rat)<=B:=Rat.natCast_nonneg
 constructor <;> grind
theorem X6 {w:AH} {R:Nat} (hw:BG w) (G:TB R w):∀{u:AH} {R0:Nat},BG u->TB R0 u->Br u w->∃K:Nat,0<K/\K<=2^CC u.length R0 w.length R/\
  ∀{x:Re} {D B:Nat},In u x->(DN D (co u x)->DN (D*K) (co w x))/\(MX B (co u x)->MX (B*2^CC u.length R0 w.length R) (co w x))
 | [],R0,_,_,_=>⟨1,AF,by simp[CC],fun {x D B} hx=>by
  obtain⟨q,rfl⟩:=DV.1 hx;rw[Ed,It q hw,Nat.mul_one];refine⟨TX,fun h=>?_⟩;rw[show B*2^CC ([]:AH).length R0 w.length R=B by simp[CC]];exact Us h⟩
 | r::u,R0,h,h0,v=>by
  obtain⟨K,hK,g,hb⟩:=X6 hw G h.1 h0.tail v.tail;obtain⟨E,O,Q,hm⟩:=LH hw G;obtain⟨D0,J,L,M,Z⟩:=h0.head;have hr:=DW h;have a1:=Ch h;have c:=v.root;have b1:=hb (D:=D0) (B:=2^R0) a1;rw[FU h] at b1
  have hv:Bd (R0+CC u.length R0 w.length R) (co w (AW u r)):=by
   refine⟨D0*K,Nat.mul_pos J hK,?_,b1.1 M,?_⟩
   ·rw[Nat.pow_add];exact Nat.mul_le_mul L g
   rw[Nat.pow_add];exact b1.2 Z
  obtain⟨F,hF,W,U,Y⟩:=Pn hw G c hr hv;refine⟨K*(F*E),Nat.mul_pos hK (Nat.mul_pos hF O),?_,fun {x D B} hx=>?_⟩
  ·have h1:=Nat.mul_le_mul g (Nat.mul_le_mul W Q);simp only[<-Nat.pow_add] at h1;exact Nat.le_trans h1 (DI (by rw[List.length_cons,CC];omega))
  obtain⟨p,q,H,I,rfl⟩:=DJ.1 hx;rw[Dq h H I rfl,DN.app,MX.app];have m:=v.tail _ H;have f:=v.tail _ I;refine⟨fun j=>?_,fun j=>?_⟩
  ·have k1:=(hb (B:=0) H).1 j.1;have k2:=(hb (B:=0) I).1 j.2;have k3:=hm f c k2 U;exact DN.GY hw m (BO hw f c) (k1.dvd ⟨F*E,by grind⟩) (k3.dvd ⟨1,by grind⟩)
  have k1:=(hb (D:=0) H).2 j.1;have k2:=(hb (D:=0) I).2 j.2;have k3:=I4 hw G f c k2 Y;refine (MX.GY hw m (BO hw f c) k1 k3).mono ?_
  have e:B*2^CC u.length R0 w.length R*2^(R0+CC u.length R0 w.length R+GG w.length R)*2^EE w.length R=B*2^(CC u.length R0 w.length R+(R0+CC u.length R0 w.length R+GG w.length R)+EE w.length R):=by
   rw[Nat.mul_assoc,Nat.mul_assoc,<-Nat.pow_add,<-Nat.pow_add];congr 2;omega
  rw[e,<-Nat.mul_add];refine Nat.mul_le_mul_left B ?_;have e2:CC (r::u).length R0 w.length R=CC u.length R0 w.length R+(R0+CC u.length R0 w.length R+GG w.length R)+EE w.length R+1:=by rw[List.length_cons,CC];omega
  have h3:2^CC u.length R0 w.length R<=2^(CC u.length R0 w.length R+(R0+CC u.length R0 w.length R+GG w.length R)+EE w.length R):=DI;rw[e2,Nat.pow_succ];omega
theorem El.Cp {w u:AH} {R R0 s:Nat} {x:Re} (hw:BG w) (G:TB R w) (hu:BG u) (h:TB R0 u) (g:Br u w) (c:El u s x):El w (s+CC u.length R0 w.length R) x:=by
 obtain⟨K,F,f,hb⟩:=X6 hw G hu h g;obtain⟨D,j,m,h3,v⟩:=c.bd;refine⟨g _ c.mem,D*K,Nat.mul_pos j F,?_,(hb (B:=0) c.mem).1 h3,?_⟩
 ·rw[Nat.pow_add];exact Nat.mul_le_mul m f
 rw[Nat.pow_add];exact (hb (D:=0) c.mem).2 v
inductive Tf (P:AH->Prop):AH->Prop
 | nil:Tf P []
 | BW {u:AH} {r0:List Rat} {u0:AH}:Tf P u->P (r0::u0)->Br u0 u->Tf P (BW u (AW u0 r0))
structure Ci (P:AH->Prop) (R0:Nat):Prop where
 red:∀{u},P u->BG u
 tb:∀{u},P u->TB R0 u
 sub:∀{r u},P (r::u)->P u
section
variable {P:AH->Prop} {R0:Nat}
theorem Tf.red (I:Ci P R0) {u:AH} (h:Tf P u):BG u:=by
 induction h with
 | nil=>trivial
 | BW _ c f g=>exact Vc g (f _ (Ch (I.red c))) (I.red c).2.2.1
theorem j8 {u:AH} {r:List Rat} (h:BG (r::u)):BW u (AW u r)=r::u:=by rw[Dv h.2.2.2,FU h]
theorem Tf.of (I:Ci P R0):∀{u:AH},P u->Tf P u
 | [],_=> .nil
 | r::u,h=>by
  have:=Tf.BW (Tf.of I (I.sub h)) h (Br.refl u);rwa [j8 (I.red h)] at this
theorem Tf.gen (I:Ci P R0) {w:AH} (h:Tf P w):∀{r:List Rat} {u:AH},w=r::u->Tf P u/\∃r0 c,P (r0::c)/\AW c r0=AW u r/\Br c u:=by
 induction h with
 | nil=>intro r u e;cases e
 | @BW v r0 c ht g f m=>
  intro r u e
  by_cases j:Sq v (AW c r0)
  ·rw[Ec j] at e;exact m e
  rw[Dv j] at e;obtain⟨rfl,rfl⟩:=List.cons.inj e;exact⟨ht,r0,c,g,(FE (f _ (Ch (I.red g)))).symm,f⟩
theorem Tf.sub (I:Ci P R0) {r:List Rat} {u:AH} (h:Tf P (r::u)):Tf P u:=(h.gen I rfl).1
theorem Tf.Pe (I:Ci P R0) {t u:AH} {r:List Rat} (ht:Tf P t) (h:Tf P (r::u)) (f:Br u t):Tf P (Go.Abs.BW t (AW u r)):=by
 obtain⟨_,r0,j,g,e,c⟩:=h.gen I rfl;rw[<-e];exact .BW ht g (c.trans f)
theorem Vf:∀{u:AH},BG u->Br u []->u=[]
 | [],_,_=>rfl
 | r::u,h,c=>by
  have hu:=Vf h.1 c.tail;subst hu;exact absurd ⟨_,c.root,DW h⟩ h.2.2.2
theorem bx {r q:List Rat} {s:List Rat} (h:BG [q,r]) (I:BG [s]) (J:Br [q,r] [s]):False:=by
 have F:=h.1;obtain⟨a,b,ha,hb,e⟩:=DJ.1 J.tail.root;have L:=DW F;have G:=DW I;have g:BG ([]:AH):=trivial
 by_cases v:b=0
 ·exact F.2.2.2 ⟨a,ha,by rw[<-L,e,v];grind⟩
 obtain⟨d,K,O⟩:=Ey g hb v
 by_cases m:a=0
 ·have j:In [r] (rt [] s):=by
   have:rt [] s=d*rt [] r:=by rw[e,m];grind
   rw[this];exact BO F (GN K) (Je [] r)
  have H:Br [s] [r]:=KI F (MN _) j;exact h.2.2.2 ⟨_,H _ J.root,DW h⟩
 obtain⟨c,Q,M⟩:=Ey g ha m
 have W:Re.ofRat (1/2)*(1+1)=1:=by
  rw[show (1:Re)=Re.ofRat 1 from rfl,<-Re.ofRat_add,<-Re.ofRat_mul,show (1/2:Rat)*(1+1)=1 by decide +kernel]
 have U:=Ch F;have hw:=Ch I
 have key:rt [] s=(AW [] r-a*a-b*b*AW [] s)*(c*d*Re.ofRat (1/2)):=by
  rw[<-L,<-G,e];generalize rt [] s=t at *;generalize Re.ofRat (1/2)=f at *;grind
 have j:In [] (rt [] s):=by
  rw[key];exact BO g (GM (GM U (BO g ha ha)) (BO g (BO g hb hb) hw)) (BO g (BO g Q K) (IV _ []))
 exact I.2.2.2 ⟨_,j,G⟩
def RR (R0:Nat):Nat->Nat
 | 0=>R0
 | h+1=>max (RR R0 h) (R0+CC (min h 2) R0 h (RR R0 h))
theorem Wx {R0 h h':Nat} (c:h<=h'):RR R0 h<=RR R0 h':=by
 induction c with
 | refl=>exact Nat.le_refl _
 | step _ f=>exact Nat.le_trans f (Nat.le_max_left _ _)
theorem TB.mono {R R':Nat} {u:AH} (h:TB R u) (hR:R<=R'):TB R' u:=fun r c=>(h r c).mono hR
theorem Tf.tb (I:Ci P R0) (hm:∀{u},Tf P u->u.length<=3) {u:AH} (h:Tf P u):TB (RR R0 u.length) u:=by
 induction h with
 | nil=>intro r j;simp at j
 | @BW u r0 f ht g m G=>
  by_cases J:Sq u (AW f r0)
  ·rw[Ec J];exact G
  have H:=hm (Tf.BW ht g m);have F:=hm (Tf.of I g);rw[Dv J] at H ⊢;rw[List.length_cons] at H F;intro r j;rcases List.mem_cons.1 j with rfl | j
  ·have c:=I.red g;have v:El f R0 (AW f r0):=⟨Ch c,by rw[FU c];exact (I.tb g).head⟩;have:=(v.Cp (ht.red I) G c.1 (I.tb g).tail m).bd;refine this.mono ?_;rw[List.length_cons,RR]
   have L:f.length<=min u.length 2:=by
    have K:f.length<=2:=AA
    cases u with
    | nil=>rw[Vf c.1 m];exact Nat.zero_le _
    | cons s u'=>
     cases u' with
     | nil=>
      cases f with
      | nil=>exact Nat.zero_le _
      | cons q M=>
       cases M with
       | nil=>exact Nat.le_refl 1
       | cons r O=>
        have:O=[]:=List.eq_nil_of_length_eq_zero (by simp only[List.length_cons] at K;omega);subst this;exact (bx c.1 (ht.red I) m).elim
     | cons _ _=>simp only[List.length_cons];omega
   have:=Kr (k:=f.length) (k':=min u.length 2) (R0:=R0) (JI:=R0) (h:=u.length) (h':=u.length) (R:=RR R0 u.length) (R':=RR R0 u.length) L (Nat.le_refl _) (Nat.le_refl _) (Nat.le_refl _);omega
  exact (G r j).mono (Wx (by rw[List.length_cons];omega))
theorem Tf.UM (I:Ci P R0) (hm:∀{u},Tf P u->u.length<=3) {R C S:Nat} (hR:RR R0 3<=R) (g:R<=S) (v:CC 3 R 3 R<=C) (j:∀h,h<=3->Fit h R (S+C)) (F:2*(S+C)+EE 3 R<=60000000000000):Gam (Tf P) R C S:=by
 have c:∀{u},Tf P u->TB R u:=fun {u} h=>(h.tb I hm).mono (Nat.le_trans (Wx (hm h)) hR)
 refine⟨fun {u} h=>⟨h.red I,c h,AA,by have:=hm h;omega⟩,fun {u} h=>by have:=hm h;omega,.nil,fun {r u} h=>h.sub I,fun {t r u} ht h f=>ht.Pe I h f,fun {u w s x} hu hw f m=>?_,fun {u} h=>j _ (hm h),fun {u} h=>?_,g⟩
 ·refine (m.Cp (hw.red I) (c hw) (hu.red I) (c hu) f).mono ?_;have:=Kr (k:=u.length) (k':=3) (R0:=R) (JI:=R) (h:=w.length) (h':=3) (R:=R) (R':=R) (hm hu) (Nat.le_refl _) (hm hw) (Nat.le_refl _);omega
 have:=G5 (h:=u.length) (h':=3) (R:=R) (R':=R) (hm h) (Nat.le_refl _);omega
def BS:AH->List Re
 | []=>[]
 | r::u=>AW u r::BS u
theorem Jy:∀u:AH,(BS u).length=u.length
 | []=>rfl
 | r::u=>by rw[BS,List.length_cons,List.length_cons,Jy u]
theorem NI:∀{u:AH} {v:Re},v∈BS u->In u (Re.sqrt v)
 | [],v,h=>by simp[BS] at h
 | r::u,v,h=>by
  rcases List.mem_cons.1 h with rfl | h
  ·exact Je u r
  exact GN (NI h)
theorem Hs:∀{u:AH},BG u->(BS u).Nodup
 | [],_=>List.nodup_nil
 | r::u,h=>by
  rw[BS,List.nodup_cons];refine⟨fun hm=>h.2.2.2 ⟨_,NI hm,Re.Hn (by have:=h.2.2.1;grind)⟩,Hs h.1⟩
theorem Tf.BS (I:Ci P R0) {V:List Re} (hV:∀{u},P u->∀v∈BS u,v∈V) {u:AH} (h:Tf P u):∀v∈Go.Abs.BS u,v∈V:=by
 induction h with
 | nil=>intro v c;simp[Go.Abs.BS] at c
 | @BW u r0 F ht f m j=>
  by_cases g:Sq u (AW F r0)
  ·rw[Ec g];exact j
  rw[Dv g];intro v c;rcases List.mem_cons.1 c with rfl | c
  ·rw[FE (m _ (Ch (I.red f)))];exact hV f _ List.mem_cons_self
  exact j v c
theorem Jk {α:Type}:∀{l m:List α},l.Nodup->(∀x∈l,x∈m)->l.length<=m.length
 | [],_,_,_=>Nat.zero_le _
 | x::l,m,h,hm=>by
  rw[List.nodup_cons] at h;obtain⟨a,b,rfl⟩:=List.append_of_mem (hm x List.mem_cons_self)
  have:=Jk (l:=l) (m:=a++b) h.2 (fun y f=>by
   have g:=hm y (List.mem_cons_of_mem _ f);rcases List.mem_append.1 g with c | c
   ·exact List.mem_append_left _ c
   rcases List.mem_cons.1 c with rfl | c
   ·exact absurd f h.1
   exact List.mem_append_right _ c)
  rw[List.length_cons,List.length_append,List.length_cons];rw[List.length_append] at this;omega
theorem Tf.len (I:Ci P R0) {V:List Re} (hV:∀{u},P u->∀v∈Go.Abs.BS u,v∈V) {u:AH} (h:Tf P u):u.length<=V.length:=by
 rw[<-Jy];exact Jk (Hs (h.red I)) (h.BS I hV)
end
end
section
def Gu (k i:Nat):Bool:=k/2^i%2==1
def Dm (i:Nat):Nat->List Rat->Bool
 | _,[]=>false
 | k,q::l=>(Gu k i&&q !=0)||Dm i (k+1) l
def CW (i:Nat):Nat->List Rat->List Rat
 | _,[]=>[]
 | k,q::l=>if Gu k i=true then CW i (k+1) l else q::CW i (k+1) l
variable {w:AH} {x:Re}
theorem VA (i:Nat):∀(k:Nat) (a b:List Rat),Dm i k (a++b)=(Dm i k a||Dm i (k+a.length) b)
 | k,[],b=>by simp[Dm]
 | k,q::a,b=>by
  rw[List.cons_append,Dm,Dm,VA i (k+1) a b,List.length_cons,Bool.or_assoc,(AA:k+1+a.length=k+(a.length+1))]
theorem R6 (i:Nat):∀(k:Nat) (a b:List Rat),CW i k (a++b)=CW i k a++CW i (k+a.length) b
 | k,[],b=>by simp[CW]
 | k,q::a,b=>by
  rw[List.cons_append,CW,CW,R6 i (k+1) a b,List.length_cons,(AA:k+1+a.length=k+(a.length+1))]
  split <;> simp
theorem YE (k i c:Nat):Gu (k+2^(i+1)*c) i=Gu k i:=by
 unfold Gu;rw[Nat.pow_succ,Nat.mul_assoc,Nat.add_mul_div_left _ _ (Nat.two_pow_pos i),Nat.add_mul_mod_self_left]
theorem ar (i c:Nat):∀(k:Nat) (l:List Rat),Dm i (k+2^(i+1)*c) l=Dm i k l
 | _,[]=>rfl
 | k,q::l=>by
  rw[Dm,Dm,YE,(AA:k+2^(i+1)*c+1=k+1+2^(i+1)*c),ar i c (k+1) l]
theorem fZ (i c:Nat):∀(k:Nat) (l:List Rat),CW i (k+2^(i+1)*c) l=CW i k l
 | _,[]=>rfl
 | k,q::l=>by
  rw[CW,CW,YE,(AA:k+2^(i+1)*c+1=k+1+2^(i+1)*c),fZ i c (k+1) l]
theorem kX {k i:Nat} (h:k<2^i):Gu k i=false:=by unfold Gu;rw[Nat.div_eq_of_lt h];rfl
theorem YC {k i:Nat} (h:2^i<=k) (c:k<2^i+2^i):Gu k i=true:=by
 unfold Gu
 have:k/2^i=1:=by
  rw[Nat.div_eq_iff (Nat.two_pow_pos i)];omega
 rw[this];rfl
theorem fY (i:Nat):∀(k:Nat) (l:List Rat),k+l.length<=2^i->CW i k l=l
 | _,[],_=>rfl
 | k,q::l,h=>by
  rw[List.length_cons] at h;rw[CW,kX AA,fY i (k+1) l AA];rfl
theorem fW (i:Nat):∀(k:Nat) (l:List Rat),2^i<=k->k+l.length<=2^i+2^i->CW i k l=[]
 | _,[],_,_=>rfl
 | k,q::l,h,c=>by
  rw[List.length_cons] at c;rw[CW,YC h AA,fW i (k+1) l AA AA];rfl
theorem aq (i:Nat):∀(k:Nat) (l:List Rat),2^i<=k->k+l.length<=2^i+2^i->Dm i k l=false->∀q∈l,q=0
 | _,[],_,_,_=>AZ
 | k,q::l,h,f,h3=>by
  rw[List.length_cons] at f;rw[Dm,YC h AA] at h3;simp only[Bool.true_and,Bool.or_eq_false_iff,bne_eq_false_iff_eq] at h3;intro x c;rcases List.mem_cons.1 c with rfl | c
  ·exact h3.1
  exact aq i (k+1) l AA AA h3.2 x c
theorem R7 (i:Nat):∀(k:Nat) (l:List Rat),∀q∈CW i k l,q∈l
 | _,[],q,h=>h
 | k,x::l,q,h=>by
  rw[CW] at h
  split at h
  ·exact List.mem_cons_of_mem _ (R7 i (k+1) l q h)
  rcases List.mem_cons.1 h with rfl | h
  ·exact List.mem_cons_self
  exact List.mem_cons_of_mem _ (R7 i (k+1) l q h)
theorem Y2 {r:List Rat} {u:AH}:∀{v:AH},BG (v++r::u)->(∀s∈v,Dm u.length 0 s=false)->
  BG (v.map (CW u.length 0)++u)/\Br (v.map (CW u.length 0)++u) (v++r::u)/\(∀x∈BS (v.map (CW u.length 0)++u),x∈BS (v++r::u))/\
  ∀{x:Re},In (v++r::u) x->Dm u.length 0 (co (v++r::u) x)=false->In (v.map (CW u.length 0)++u) x/\co (v.map (CW u.length 0)++u) x=CW u.length 0 (co (v++r::u) x)
 | [],h,_=>by
  refine⟨h.1,fun x c=>GN c,fun x c=>List.mem_cons_of_mem _ c,fun {x} c H=>?_⟩;obtain⟨p,q,F,G,rfl⟩:=DJ.1 c;have e:=Dq h F G rfl;have I:=Dg F;have lq:=Dg G;simp only[List.nil_append,List.map_nil] at*;rw[e,VA,I,Nat.zero_add,Bool.or_eq_false_iff] at H;have K:q=0:=(Nv h.1 G).1 (aq _ _ _ (Nat.le_refl _) AA H.2);subst K;have ex:p+0*rt u r=p:=by grind
  rw[e,R6,I,Nat.zero_add,fY _ _ _ AA,fW _ _ _ (Nat.le_refl _) AA,List.append_nil,ex];exact⟨F,rfl⟩
 | s::v,h,H=>by
  have h:BG (s::(v++r::u)):=h;obtain⟨W,O,h3,J⟩:=Y2 (v:=v) h.1 (fun t ht=>H t (List.mem_cons_of_mem _ ht));have L:=H s List.mem_cons_self;have M:In (v++r::u) (AW (v++r::u) s):=Ch h
  show BG (CW u.length 0 s::(v.map (CW u.length 0)++u))/\Br (CW u.length 0 s::(v.map (CW u.length 0)++u)) (s::(v++r::u))/\(∀x∈BS (CW u.length 0 s::(v.map (CW u.length 0)++u)),x∈BS (s::(v++r::u)))/\
   ∀{x:Re},In (s::(v++r::u)) x->Dm u.length 0 (co (s::(v++r::u)) x)=false->In (CW u.length 0 s::(v.map (CW u.length 0)++u)) x/\co (CW u.length 0 s::(v.map (CW u.length 0)++u)) x=CW u.length 0 (co (s::(v++r::u)) x)
  have cs:co (v++r::u) (AW (v++r::u) s)=s:=FU h;obtain⟨k1,k2⟩:=J M (by rw[cs];exact L);rw[cs] at k2;have f:AW (v.map (CW u.length 0)++u) (CW u.length 0 s)=AW (v++r::u) s:=by rw[<-k2,FE k1]
  have j:BG (CW u.length 0 s::(v.map (CW u.length 0)++u)):=by
   refine⟨W,by rw[<-k2];exact Dg k1,by rw[f];exact h.2.2.1,?_⟩;rw[f]
   rintro⟨w,hw,e⟩
   exact h.2.2.2 ⟨w,O w hw,e⟩
  have g:rt (v.map (CW u.length 0)++u) (CW u.length 0 s)=rt (v++r::u) s:=by rw[rt,rt,f]
  have hlen:2^(v++r::u).length=2^(u.length+1)*2^v.length:=by rw[<-Nat.pow_add];congr 1;simp;omega
  refine⟨j,KI h (O.trans fun x c=>GN c) (by rw[g];exact Je _ _),fun x c=>?_,fun {x} c m=>?_⟩
  ·rcases List.mem_cons.1 c with rfl | c
   ·exact List.mem_cons.2 (.inl f)
   exact List.mem_cons_of_mem _ (h3 x c)
  obtain⟨p,q,F,G,rfl⟩:=DJ.1 c;have e:=Dq h F G rfl;have I:=Dg F;rw[e,VA,I,hlen,ar,Bool.or_eq_false_iff] at m;obtain⟨Q,Y⟩:=J F m.1;obtain⟨U,Z⟩:=J G m.2;rw[<-g];refine⟨DJ.2 ⟨p,q,Q,U,rfl⟩,?_⟩;rw[g,e,R6,I,hlen,fZ,<-Y,<-Z,<-g];exact Dq j Q U rfl
def M8 (i:Nat) (s:AH×List Rat):AH×List Rat:=
 if (Dm i 0 s.2||(s.1.drop (i+1)).any (Dm i 0))=true then s else (s.1.take i++(s.1.drop (i+1)).map (CW i 0),CW i 0 s.2)
def Ig:Nat->AH×List Rat->AH×List Rat
 | 0,s=>s
 | i+1,s=>Ig i (M8 i s)
structure JJ (w:AH) (x:Re) (w':AH):Prop where
 red:BG w'
 mem:In w' x
 Cp:Br w' w
 BS:∀v∈BS w',v∈BS w
 len:w'.length<=w.length
 Jq:∀s∈w',∃t∈w,∀q∈s,q∈t
 cos:∀q∈co w' x,q∈co w x
theorem JJ.refl (h:BG w) (f:In w x):JJ w x w:=⟨h,f,Br.refl w,fun _ h=>h,Nat.le_refl _,fun s c=>⟨s,c,fun _ h=>h⟩,fun _ h=>h⟩
theorem JJ.trans {w' c:AH} (h:JJ w x w') (k:JJ w' x c):JJ w x c:=
 ⟨k.red,k.mem,k.Cp.trans h.Cp,fun v F=>h.BS v (k.BS v F),Nat.le_trans k.len h.len,fun s m=>by
  obtain⟨t,ht,f⟩:=k.Jq s m;obtain⟨t2,j,g⟩:=h.Jq t ht;exact⟨t2,j,fun q G=>g q (f q G)⟩,fun q f=>h.cos q (k.cos q f)⟩
theorem fF {i:Nat} (h:BG w) (m:In w x) (J:i<w.length):∃w',M8 i (w.reverse,co w x)=(w'.reverse,co w' x)/\JJ w x w'/\i<=w'.length:=by
 unfold M8
 split
 ·exact⟨w,rfl,.refl h m,AA⟩
 rename_i j
 obtain⟨v,r,u,rfl,rfl⟩:∃v r u,w=v++r::u/\i=u.length:=by
  refine⟨w.take (w.length-1-i),w[w.length-1-i]'AA,w.drop (w.length-1-i+1),?_,by rw[List.length_drop];omega⟩;rw[<-List.drop_eq_getElem_cons,List.take_append_drop]
 have c:(v++r::u).reverse=u.reverse++r::v.reverse:=AZ
 have I:(v++r::u).reverse.drop (u.length+1)=v.reverse:=by
  rw[c,(AZ:u.reverse++r::v.reverse=(u.reverse++[r])++v.reverse)];exact List.drop_left' AZ
 have ht:(v++r::u).reverse.take u.length=u.reverse:=by
  rw[c];exact List.take_left' AZ
 simp only[I,ht,Bool.not_eq_true,Bool.or_eq_false_iff] at j ⊢
 obtain⟨F,G,h3,H⟩:=Y2 h (fun s f=>by
  have:=List.any_eq_false.1 j.2 s (List.mem_reverse.2 f);simpa using this)
 obtain⟨k1,k2⟩:=H m j.1;refine⟨v.map (CW u.length 0)++u,?_,⟨F,k1,G,h3,AZ,fun s f=>?_,fun q g=>?_⟩,AZ⟩
 ·rw[k2,List.reverse_append,List.map_reverse]
 ·rcases List.mem_append.1 f with f | f
  ·obtain⟨t,ht,rfl⟩:=List.mem_map.1 f;exact⟨t,List.mem_append_left _ ht,fun q g=>R7 _ _ _ q g⟩
  exact⟨s,List.mem_append_right _ (List.mem_cons_of_mem _ f),fun _ h=>h⟩
 rw[k2] at g;exact R7 _ _ _ q g
theorem WK:∀{i:Nat} {w:AH} {x:Re},BG w->In w x->i<=w.length->∃w',Ig i (w.reverse,co w x)=(w'.reverse,co w' x)/\JJ w x w'
 | 0,w,x,h,c,_=>⟨w,rfl,.refl h c⟩
 | i+1,w,x,h,c,f=>by
  obtain⟨j,e1,t1,l1⟩:=fF h c f;obtain⟨g,e2,t2⟩:=WK t1.red t1.mem l1;exact⟨g,by rw[Ig,e1,e2],t1.trans t2⟩
end
end Go.Abs
