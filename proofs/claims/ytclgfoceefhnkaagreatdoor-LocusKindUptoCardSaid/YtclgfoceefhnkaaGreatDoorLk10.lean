/- Part 11 of a proof. Conditions: each theorem's own. -/
import Derived.Test.YtclgfoceefhnkaaGreatDoorLk09
set_option linter.all false
set_option maxHeartbeats 80000000
set_option maxRecDepth 20000
namespace Go.Abs
def AP:List (List Rat)->List Rat->Re
 | [],a=>Re.ofRat (a.headD 0)
 | r::u,a=>AP u (a.take (2^u.length))+AP u (a.drop (2^u.length))*Re.sqrt (AP u r)
def rt (u:List (List Rat)) (r:List Rat):Re:=Re.sqrt (AP u r)
def In (u:List (List Rat)) (x:Re):Prop:=∃a:List Rat,a.length=2^u.length/\AP u a=x
def Ag:List (List Rat)->Prop
 | []=>True
 | r::u=>Ag u/\r.length=2^u.length/\0<AP u r/\¬∃w,In u w/\w*w=AP u r
noncomputable def co (u:List (List Rat)) (x:Re):List Rat:=by
 classical
 exact if h:In u x then Classical.choose h else []
variable {a:List Rat} {p x y:Re}
theorem Br (r:List Rat) (u:List (List Rat)):2^(r::u).length=2^u.length+2^u.length:=by
 rw[List.length_cons,Nat.pow_succ];omega
theorem CV:In [] x↔∃q,x=Re.ofRat q:=by
 constructor
 ·rintro⟨a,_,rfl⟩;exact⟨_,rfl⟩
 rintro⟨q,rfl⟩;exact⟨[q],rfl,rfl⟩
theorem Cd {r:List Rat} {u:List (List Rat)}:In (r::u) x↔∃p q,In u p/\In u q/\x=p+q*rt u r:=by
 constructor
 ·rintro⟨a,c,rfl⟩
  rw[Br] at c;exact⟨_,_,⟨a.take (2^u.length),by rw[List.length_take];omega,rfl⟩,⟨a.drop (2^u.length),by rw[List.length_drop];omega,rfl⟩,rfl⟩
 rintro⟨p,q,⟨a,c,rfl⟩,⟨b,d,rfl⟩,rfl⟩
 refine⟨a++b,by rw[Br,List.length_append];omega,?_⟩;rw[AP,<-c,List.take_left,List.drop_left];rfl
theorem Lz:∀(u:List (List Rat)) (a b:List Rat),a.length=2^u.length->b.length=2^u.length->AP u (List.zipWith (· + ·) a b)=AP u a+AP u b
 | [],a,b,c,d=>by
  match a,b,c,d with
  | [p],[q],_,_=>exact Re.ofRat_add p q
 | r::u,a,b,c,d=>by
  rw[Br] at c d;rw[AP,AP,AP,List.take_zipWith,List.drop_zipWith,Lz u _ _ (by rw[List.length_take];omega) (by rw[List.length_take];omega),Lz u _ _ (by rw[List.length_drop];omega) (by rw[List.length_drop];omega)]
  grind
theorem L0:∀(u:List (List Rat)) (a:List Rat),a.length=2^u.length->AP u (a.map (- ·))= -AP u a
 | [],a,c=>by
  match a,c with
  | [p],_=>exact Re.ofRat_neg p
 | r::u,a,c=>by
  rw[Br] at c;rw[AP,AP,<-List.map_take,<-List.map_drop,L0 u _ (by rw[List.length_take];omega),L0 u _ (by rw[List.length_drop];omega)]
  grind
theorem KJ:∀(u:List (List Rat)) (n:Nat),AP u (List.replicate n 0)=0
 |[],0|[],n+1=>rfl
 | r::u,n=>by rw[AP,List.take_replicate,List.drop_replicate,KJ,KJ];grind
theorem G8 (q:Rat):∀u,In u (Re.ofRat q)
 | []=>CV.2 ⟨q,rfl⟩
 | r::u=>Cd.2 ⟨_,_,G8 q u,⟨List.replicate (2^u.length) 0,List.length_replicate,KJ u _⟩,by grind⟩
theorem CH (u:List (List Rat)):In u 0:=G8 0 u
theorem Ty (u:List (List Rat)):In u 1:=G8 1 u
theorem C0 {u:List (List Rat)}:In u x->In u y->In u (x+y)
 |⟨a,f,c⟩,⟨b,g,d⟩=>⟨List.zipWith (· + ·) a b,by rw[List.length_zipWith];omega,by rw[Lz u a b f g,c,d]⟩
theorem GX {u:List (List Rat)}:In u x->In u (-x)
 |⟨a,c,d⟩=>⟨a.map (- ·),by rw[List.length_map,c],by rw[L0 u a c,d]⟩
theorem EZ {u:List (List Rat)} (h:In u x) (k:In u y):In u (x-y):=by
 have:=C0 h (GX k);rwa [show x+ -y=x-y by grind] at this
theorem CX {u:List (List Rat)} {r:List Rat} (h:Ag (r::u)):rt u r*rt u r=AP u r:=Re.Hk (by have:=h.2.2.1;grind)
theorem eQ (u:List (List Rat)) (r:List Rat):0<=rt u r:=Re.JT _
theorem CQ {u:List (List Rat)} {r:List Rat} (h:Ag (r::u)):In u (AP u r):=⟨r,h.2.1,rfl⟩
theorem G9 {u:List (List Rat)} {r:List Rat} (h:In u x):In (r::u) x:=Cd.2 ⟨x,0,h,CH u,by grind⟩
theorem Ix (u:List (List Rat)) (r:List Rat):In (r::u) (rt u r):=Cd.2 ⟨0,1,CH u,Ty u,by grind⟩
theorem Am:∀{u:List (List Rat)} {x y:Re},Ag u->In u x->In u y->In u (x*y)
 | [],x,y,_,f,g=>by
  obtain⟨p,rfl⟩:=CV.1 f;obtain⟨q,rfl⟩:=CV.1 g;exact CV.2 ⟨p*q,(Re.ofRat_mul p q).symm⟩
 | r::u,x,y,h,f,g=>by
  obtain⟨a,b,j,k,rfl⟩:=Cd.1 f;obtain⟨c,d,m,v,rfl⟩:=Cd.1 g;have z:=CX h;refine Cd.2 ⟨a*c+b*d*AP u r,a*d+b*c,C0 (Am h.1 j m) (Am h.1 (Am h.1 k v) (CQ h)),C0 (Am h.1 j v) (Am h.1 k m),?_⟩
  grind
theorem Ur {u:List (List Rat)} {r:List Rat} (h:Ag (r::u)) {w:Re} (hw:In u w):w*w≠AP u r:=fun e=>h.2.2.2 ⟨w,hw,e⟩
theorem EP:∀{u:List (List Rat)} {x:Re},Ag u->In u x->x≠0->∃y,In u y/\x*y=1
 | [],x,_,m,g=>by
  obtain⟨p,rfl⟩:=CV.1 m;have I:p≠0:=fun e=>g (by rw[e];rfl)
  refine⟨Re.ofRat p⁻¹,CV.2 ⟨_,rfl⟩,?_⟩;rw[<-Re.ofRat_mul,show p*p⁻¹=1 by grind];rfl
 | r::u,x,h,m,g=>by
  obtain⟨a,b,d,f,rfl⟩:=Cd.1 m;have J:=CX h
  have G:a*a-b*b*AP u r≠0:=by
   intro e
   by_cases j:b=0
   ·have C:a=0:=by
     have:a*a=0:=by grind
     rcases Re.FX this with e | e <;> exact e
    exact g (by grind)
   obtain⟨c,F,k⟩:=EP h.1 f j
   exact Ur h (Am h.1 d F) (by
    have e1:a*a=b*b*AP u r:=by grind
    have z:a*c*(a*c)=(b*c)*(b*c)*AP u r:=by grind
    rw[z,k];grind)
  obtain⟨y,v,H⟩:=EP h.1 (EZ (Am h.1 d d) (Am h.1 (Am h.1 f f) (CQ h))) G;refine⟨a*y+ -(b*y)*rt u r,Cd.2 ⟨_,_,Am h.1 d v,GX (Am h.1 f v),rfl⟩,?_⟩
  grind
theorem indep {u:List (List Rat)} {r:List Rat} (h:Ag (r::u)) {q f d:Re} (C:In u p) (F:In u q) (g:In u f) (j:In u d) (e:p+q*rt u r=f+d*rt u r):p=f/\q=d:=by
 have G:=CX h
 by_cases v:q-d=0
 ·have:q=d:=by grind
  subst this;exact⟨by grind,rfl⟩
 exfalso
 obtain⟨c,z,k⟩:=EP h.1 (EZ F j) v;refine Ur h (Am h.1 (EZ g C) z) ?_;have e1:(q-d)*rt u r=f-p:=by grind
 have m:(f-p)*c=rt u r*((q-d)*c):=by grind
 rw[m,k];grind
theorem OI:∀{u:List (List Rat)} {a b:List Rat},Ag u->a.length=2^u.length->b.length=2^u.length->AP u a=AP u b->a=b
 | [],a,b,_,c,d,e=>by
  match a,b,c,d with
  | [p],[q],_,_=>exact congrArg (fun x=>[x]) (Re.JB.1 e)
 | r::u,a,b,h,c,d,e=>by
  rw[Br] at c d;have l1:(a.take (2^u.length)).length=2^u.length:=by rw[List.length_take];omega
  have l2:(a.drop (2^u.length)).length=2^u.length:=by rw[List.length_drop];omega
  have l3:(b.take (2^u.length)).length=2^u.length:=by rw[List.length_take];omega
  have f:(b.drop (2^u.length)).length=2^u.length:=by rw[List.length_drop];omega
  obtain⟨e1,g⟩:=indep h ⟨_,l1,rfl⟩ ⟨_,l2,rfl⟩ ⟨_,l3,rfl⟩ ⟨_,f,rfl⟩ e;rw[<-List.take_append_drop (2^u.length) a,<-List.take_append_drop (2^u.length) b,OI h.1 l1 l3 e1,OI h.1 l2 f g]
theorem Sg {u:List (List Rat)} (h:In u x):(co u x).length=2^u.length/\AP u (co u x)=x:=by
 unfold co;rw[dif_pos h];exact Classical.choose_spec h
theorem Cz {u:List (List Rat)} (h:In u x):(co u x).length=2^u.length:=(Sg h).1
theorem EY {u:List (List Rat)} (h:In u x):AP u (co u x)=x:=(Sg h).2
theorem H2 {u:List (List Rat)} (h:Ag u) (c:a.length=2^u.length) (e:AP u a=x):co u x=a:=by
 have d:In u x:=⟨a,c,e⟩;exact OI h (Cz d) c ((EY d).trans e.symm)
theorem aI {u:List (List Rat)} (h:Ag u) (c:a.length=2^u.length):co u (AP u a)=a:=H2 h c rfl
theorem Lh {u:List (List Rat)} (h:Ag u) (c:In u x) (d:In u y):co u (x+y)=List.zipWith (· + ·) (co u x) (co u y):=
 H2 h (by rw[List.length_zipWith,Cz c,Cz d];omega) (by rw[Lz u _ _ (Cz c) (Cz d),EY c,EY d])
theorem KF {u:List (List Rat)} (h:Ag u) (c:In u x):co u (-x)=(co u x).map (- ·):=
 H2 h (by rw[List.length_map,Cz c]) (by rw[L0 u _ (Cz c),EY c])
theorem N6 {u:List (List Rat)} (h:Ag u):co u 0=List.replicate (2^u.length) 0:=H2 h List.length_replicate (KJ u _)
theorem DX {u:List (List Rat)} {r:List Rat} {q:Re} (h:Ag (r::u)) (c:In u p) (d:In u q) (f:x=p+q*rt u r):co (r::u) x=co u p++co u q:=by
 refine H2 h (by rw[List.length_append,Cz c,Cz d,Br]) ?_;rw[AP,<-Cz c,List.take_left,List.drop_left,EY c,EY d,f];rfl
theorem DY (q:Rat):co [] (Re.ofRat q)=[q]:=H2 (u:=[]) trivial rfl rfl
theorem KG (q:Rat):∀{u:List (List Rat)},Ag u->co u (Re.ofRat q)=q::List.replicate (2^u.length-1) 0
 | [],_=>DY q
 | r::u,h=>by
  rw[DX h (G8 q u) (CH u) (by grind),KG q h.1,N6 h.1,List.cons_append,List.replicate_append_replicate];have:1<=2^u.length:=Nat.one_le_two_pow;have:2^(r::u).length-1=2^u.length-1+2^u.length:=by rw[Br];omega
  rw[this]
theorem aK {u:List (List Rat)} {r:List Rat} {q:Re} (h:Ag (r::u)) (c:In u p) (d:In u q) (f:x=p+q*rt u r):(co (r::u) x).take (2^u.length)=co u p:=by
 rw[DX h c d f,<-Cz c,List.take_left]
theorem aJ {u:List (List Rat)} {r:List Rat} {q:Re} (h:Ag (r::u)) (c:In u p) (d:In u q) (f:x=p+q*rt u r):(co (r::u) x).drop (2^u.length)=co u q:=by
 rw[DX h c d f,<-Cz c,List.drop_left]
theorem KE {u:List (List Rat)} (h:Ag u) (f:In u x):(∀c∈co u x,c=0)↔x=0:=by
 constructor
 ·intro d;have:co u x=List.replicate (2^u.length) 0:=List.eq_replicate_iff.2 ⟨Cz f,d⟩;rw[<-EY f,this,KJ]
 rintro rfl c d;rw[N6 h] at d;exact (List.mem_replicate.1 d).2
theorem eP {u:List (List Rat)} {r:List Rat} (h:Ag (r::u)):rt u r≠0:=by
 intro e;have c:=CX h;have:=h.2.2.1;rw[e] at c
 grind
theorem Vz {u:List (List Rat)} {r:List Rat} (h:Ag (r::u)):0<rt u r:=by
 have:=eP h;have:=eQ u r
 grind
end Go.Abs
namespace Go.Abs
def Sq (u:List (List Rat)) (x:Re):Prop:=∃w,In u w/\w*w=x
variable {a b n t w x:Re} {r:List Rat} {u:List (List Rat)}
theorem NA:(2:Re)≠0:=by
 intro h
 have c:(0:Re)<1:=by
  have:=Re.Hc.2 (show (0:Rat)<1 by decide);exact this
 grind
theorem Uh {y:Re} (c:x≠0) (d:y≠0):x*y≠0:=fun h=>by rcases Re.FX h with e | e;exact c e;exact d e
theorem Wo (h:x*x=0):x=0:=by rcases Re.FX h with e | e <;> exact e
theorem Wi (h:Ag (r::u)) (G:In u a):Sq (r::u) a↔Sq u a\/∃i,In u i/\AP u r*i=1/\Sq u (a*i):=by
 have I:=CX h
 constructor
 ·rintro⟨w,hw,e⟩
  obtain⟨c,d,g,k,rfl⟩:=Cd.1 hw;have z:(c*c+d*d*AP u r)+(2*c*d)*rt u r=a+0*rt u r:=by grind
  have F:In u (2*c*d):=by
   have:=C0 (Am h.1 g k) (Am h.1 g k);rwa [show c*d+c*d=2*c*d by grind] at this
  obtain⟨H,C⟩:=indep h (C0 (Am h.1 g g) (Am h.1 (Am h.1 k k) (CQ h))) F G (CH u) z
  by_cases m:d=0
  ·left;exact⟨c,g,by grind⟩
  right
  have j:c=0:=by
   apply Classical.byContradiction;intro j;exact Uh (Uh NA j) m C
  obtain⟨i,v,f⟩:=EP h.1 (CQ h) (by have:=h.2.2.1;grind);exact⟨i,v,f,d,k,by grind⟩
 rintro (⟨w,hw,e⟩ |⟨i,v,f,w,hw,e⟩)
 ·exact⟨w,G9 hw,e⟩
 refine⟨0+w*rt u r,Cd.2 ⟨0,w,CH u,hw,rfl⟩,?_⟩;have:a=a*(AP u r*i):=by rw[f];grind
 grind
theorem Wl (h:Ag (r::u)) (z:In u a) (C:In u b) (hw:Sq (r::u) (a+b*rt u r)):∃c d,In u c/\In u d/\c*c+d*d*AP u r=a/\2*c*d=b:=by
 have F:=CX h;obtain⟨w,hw,e⟩:=hw;obtain⟨c,d,f,g,rfl⟩:=Cd.1 hw;have j:(c*c+d*d*AP u r)+(2*c*d)*rt u r=a+b*rt u r:=by grind
 have v:In u (2*c*d):=by
  have:=C0 (Am h.1 f g) (Am h.1 f g);rwa [show c*d+c*d=2*c*d by grind] at this
 obtain⟨k,m⟩:=indep h (C0 (Am h.1 f f) (Am h.1 (Am h.1 g g) (CQ h))) v z C j;exact⟨c,d,f,g,k,m⟩
theorem Wm (h:Ag (r::u)) (j:In u a) (k:In u b) (hw:Sq (r::u) (a+b*rt u r)):Sq u (a*a-b*b*AP u r):=by
 obtain⟨c,d,f,g,m,v⟩:=Wl h j k hw;exact⟨c*c-d*d*AP u r,EZ (Am h.1 f f) (Am h.1 (Am h.1 g g) (CQ h)),by grind⟩
theorem Wn (h:Ag (r::u)) (z:In u a) (C:In u b) (hw:Sq (r::u) (a+b*rt u r)) (g:n*n=a*a-b*b*AP u r) (ht:2*t=1):
  Sq u (t*(a+n))\/Sq u (t*(a-n)):=by
 obtain⟨c,d,v,F,k,m⟩:=Wl h z C hw;have hm:(n-(c*c-d*d*AP u r))*(n+(c*c-d*d*AP u r))=0:=by grind
 rcases Re.FX hm with e | e
 ·left
  have f:a+n=2*(c*c):=by clear g hm;grind
  have j:t*(2*(c*c))=2*t*(c*c):=by clear g hm k m f e;grind
  exact⟨c,v,by rw[f,j,ht];grind⟩
 right
 have f:a-n=2*(c*c):=by clear g hm;grind
 have j:t*(2*(c*c))=2*t*(c*c):=by clear g hm k m f e;grind
 exact⟨c,v,by rw[f,j,ht];grind⟩
theorem Wg {c i ρ s:Re} (H:n*n=a*a-b*b*ρ) (ht:2*t=1) (I:s*s=ρ) (hw:w*w=t*(a+n)) (f:(w+w)*i=1) (j:c=w+b*i*s):c*c=a+b*s:=by
 have d:w≠0:=by intro e;subst e;grind
 have k:2*(w*w)=a+n:=by rw[hw];grind
 have m:(a+n)*(a-n)=b*b*ρ:=by grind
 have v:2*(w*w)*(b*i*(b*i)*ρ)*2=b*b*ρ:=by
  have:2*(w*w)*(b*i*(b*i)*ρ)*2=b*b*ρ*(((w+w)*i)*((w+w)*i)):=by grind
  rw[this,f];grind
 have g:(a+n)*(2*(b*i*(b*i)*ρ)-(a-n))=0:=by grind
 have z:2*(b*i*(b*i)*ρ)-(a-n)=0:=by
  rcases Re.FX g with e | e
  ·exfalso
   have:2*(w*w)=0:=by grind
   rcases Re.FX this with e | e
   ·exact NA e
   exact d (Wo e)
  exact e
 have C:2*w*(b*i)=b:=by
  have:2*w*(b*i)=b*((w+w)*i):=by grind
  rw[this,f];grind
 have F:c*c=w*w+b*i*(b*i)*ρ+2*w*(b*i)*s:=by rw[j];grind
 have h:2*(w*w+b*i*(b*i)*ρ-a)=0:=by grind
 have G:w*w+b*i*(b*i)*ρ-a=0:=by
  rcases Re.FX h with e | e
  ·exact absurd e NA
  exact e
 grind
theorem Wh (h:Ag (r::u)) (c:b≠0) (j:n*n=a*a-b*b*AP u r) (ht:2*t=1) (hw:w*w=t*(a+n)):w≠0:=by
 intro e;subst e;have f:a+n=0:=by grind
 have d:b*b*AP u r=0:=by grind
 have g:=h.2.2.1;rcases Re.FX d with e | e
 ·exact c (Wo e)
 grind
theorem Wk {q:Rat}:Sq [] (Re.ofRat q)↔∃r:Rat,0<=r/\r*r=q:=by
 constructor
 ·rintro⟨w,hw,e⟩
  obtain⟨r,rfl⟩:=CV.1 hw;rw[<-Re.ofRat_mul,Re.JB] at e;rcases Rat.le_total (a:=0) (b:=r) with h | h
  ·exact⟨r,h,e⟩
  exact⟨-r,by grind,by grind⟩
 rintro⟨r,_,e⟩
 exact⟨Re.ofRat r,CV.2 ⟨r,rfl⟩,by rw[<-Re.ofRat_mul,e]⟩
end Go.Abs
namespace Go.Abs
def DN (D:Nat) (a:List Rat):Prop:=∀q∈a,∃n:Int,q*D=n
def MX (B:Nat) (a:List Rat):Prop:=∀q∈a,-(B:Rat)<=q/\q<=B
def Bd (k:Nat) (a:List Rat):Prop:=∃D:Nat,0<D/\D<=2^k/\DN D a/\MX (2^k) a
def TB (R:Nat) (u:List (List Rat)):Prop:=∀r∈u,Bd R r
def EE:Nat->Nat->Nat
 | 0,_=>0
 | h+1,R=>2*EE h R+R+2
def II:Nat->Nat->Nat->Nat
 | 0,_,s=>2*s
 | h+1,R,s=>s+EE h R+II h R (2*s+2*EE h R+R+1)
def GG:Nat->Nat->Nat
 | 0,_=>0
 | h+1,R=>3*EE h R+R+1+2*GG h R+II h R R
theorem bh {p q:Rat} (h:∃n:Int,p=n) (k:∃n:Int,q=n):∃n:Int,p+q=n:=by
 obtain⟨a,rfl⟩:=h;obtain⟨b,rfl⟩:=k;exact⟨a+b,by rw[Rat.intCast_add]⟩
theorem UA {p q:Rat} (h:∃n:Int,p=n) (k:∃n:Int,q=n):∃n:Int,p*q=n:=by
 obtain⟨a,rfl⟩:=h;obtain⟨b,rfl⟩:=k;exact⟨a*b,by rw[Rat.intCast_mul]⟩
theorem bj (k:Nat):∃n:Int,(k:Rat)=n:=⟨k,rfl⟩
theorem Fw (a b:Nat):((a*b:Nat):Rat)=(a:Rat)*b:=Rat.natCast_mul a b
theorem DN.mul_right {D:Nat} {a:List Rat} (h:DN D a) (c:Nat):DN (D*c) a:=fun q d=>by
 have:=UA (h q d) (bj c);rwa [Rat.mul_assoc,<-Fw] at this
theorem DN.dvd {D E:Nat} {a:List Rat} (h:DN D a) (d:D∣E):DN E a:=by
 obtain⟨c,rfl⟩:=d;exact h.mul_right c
theorem XP {a b:List Rat} {q:Rat} (h:q∈List.zipWith (· + ·) a b):∃x∈a,∃y∈b,q=x+y:=by
 obtain⟨i,c⟩:=List.mem_iff_getElem?.1 h;rw[List.getElem?_zipWith] at c;cases d:a[i]? with
 | none=>rw[d] at c;simp at c
 | some x=>
  cases f:b[i]? with
  | none=>rw[d,f] at c;simp at c
  | some y=>
   rw[d,f] at c;exact⟨x,List.mem_of_getElem? d,y,List.mem_of_getElem? f,(Option.some.inj c).symm⟩
theorem DN.add {D:Nat} {a b:List Rat} (h:DN D a) (k:DN D b):DN D (List.zipWith (· + ·) a b):=fun q c=>by
 obtain⟨x,d,y,f,rfl⟩:=XP c;have:=bh (h x d) (k y f);rwa [<-Rat.add_mul] at this
theorem DN.neg {D:Nat} {a:List Rat} (h:DN D a):DN D (a.map (- ·)):=fun q d=>by
 obtain⟨x,f,rfl⟩:=List.mem_map.1 d;obtain⟨n,c⟩:=h x f;exact⟨-n,by rw[Rat.intCast_neg,<-c,Rat.neg_mul]⟩
theorem MX.add {B C:Nat} {a b:List Rat} (h:MX B a) (k:MX C b):MX (B+C) (List.zipWith (· + ·) a b):=fun q c=>by
 obtain⟨x,d,y,f,rfl⟩:=XP c;have:=h x d;have:=k y f;rw[Rat.natCast_add]
 grind
theorem MX.neg {B:Nat} {a:List Rat} (h:MX B a):MX B (a.map (- ·)):=fun q c=>by
 obtain⟨x,d,rfl⟩:=List.mem_map.1 c;have:=h x d
 grind
theorem MX.mono {B C:Nat} {a:List Rat} (h:MX B a) (c:B<=C):MX C a:=fun q f=>by
 have:=h q f;have d:(B:Rat)<=C:=Rat.natCast_le_natCast.2 c
 grind
theorem DN.app {D:Nat} {a b:List Rat}:DN D (a++b)↔DN D a/\DN D b:=
 ⟨fun h=>⟨fun q c=>h q (List.mem_append_left _ c),fun q c=>h q (List.mem_append_right _ c)⟩,fun h q c=>(List.mem_append.1 c).elim (h.1 q) (h.2 q)⟩
theorem MX.app {B:Nat} {a b:List Rat}:MX B (a++b)↔MX B a/\MX B b:=
 ⟨fun h=>⟨fun q c=>h q (List.mem_append_left _ c),fun q c=>h q (List.mem_append_right _ c)⟩,fun h q c=>(List.mem_append.1 c).elim (h.1 q) (h.2 q)⟩
section
variable {u:List (List Rat)} {x y:Re}
theorem Sh (h:Ag u) (d:In u x) (c:In u y):co u (x-y)=List.zipWith (· + ·) (co u x) ((co u y).map (- ·)):=by
 rw[show x-y=x+ -y by grind,Lh h d (GX c),KF h c]
theorem DN.GN {D:Nat} (h:Ag u) (c:In u x) (d:In u y) (a:DN D (co u x)) (b:DN D (co u y)):DN D (co u (x+y)):=by rw[Lh h c d];exact a.add b
theorem DN.IS {D:Nat} (h:Ag u) (c:In u x) (d:In u y) (a:DN D (co u x)) (b:DN D (co u y)):DN D (co u (x-y)):=by rw[Sh h c d];exact a.add b.neg
theorem MX.GN {B C:Nat} (h:Ag u) (c:In u x) (d:In u y) (a:MX B (co u x)) (b:MX C (co u y)):MX (B+C) (co u (x+y)):=by rw[Lh h c d];exact a.add b
theorem MX.IS {B C:Nat} (h:Ag u) (c:In u x) (d:In u y) (a:MX B (co u x)) (b:MX C (co u y)):MX (B+C) (co u (x-y)):=by rw[Sh h c d];exact a.add b.neg
end
theorem L2:∀(u:List (List Rat)) (c:Rat) (a:List Rat),a.length=2^u.length->AP u (a.map (c* ·))=Re.ofRat c*AP u a
 | [],c,a,d=>by
  match a,d with
  | [p],_=>exact Re.ofRat_mul c p
 | r::u,c,a,d=>by
  rw[Br] at d;rw[AP,AP,<-List.map_take,<-List.map_drop,L2 u _ _ (by rw[List.length_take];omega),L2 u _ _ (by rw[List.length_drop];omega)]
  grind
theorem Sf {u:List (List Rat)} {x:Re} (h:Ag u) (d:In u x) (c:Rat):co u (Re.ofRat c*x)=(co u x).map (c* ·):=
 H2 h (by rw[List.length_map,Cz d]) (by rw[L2 u c _ (Cz d),EY d])
theorem Oc {u:List (List Rat)} {x:Re} (d:In u x) (c:Rat):In u (Re.ofRat c*x):=
 ⟨(co u x).map (c* ·),by rw[List.length_map,Cz d],by rw[L2 u c _ (Cz d),EY d]⟩
theorem Ir {u:List (List Rat)} {x:Re} (h:Ag u) (j:In u x) {D c:Nat}:DN (D*c) (co u x)↔DN D (co u (Re.ofRat c*x)):=by
 rw[Sf h j]
 constructor
 ·intro k q f;obtain⟨p,g,rfl⟩:=List.mem_map.1 f;obtain⟨n,d⟩:=k p g;exact⟨n,by rw[<-d,Fw];grind⟩
 intro k q f;obtain⟨n,d⟩:=k _ (List.mem_map.2 ⟨q,f,rfl⟩);exact⟨n,by rw[<-d,Fw];grind⟩
theorem DR (k:Nat):0<2^k:=Nat.two_pow_pos k
theorem Cg {a b:Nat} (h:a<=b:=by omega):2^a<=2^b:=Nat.pow_le_pow_right (by decide) h
theorem TB.tail {R:Nat} {r:List Rat} {u:List (List Rat)} (h:TB R (r::u)):TB R u:=fun x c=>h x (List.mem_cons_of_mem _ c)
theorem TB.head {R:Nat} {r:List Rat} {u:List (List Rat)} (h:TB R (r::u)):Bd R r:=h r List.mem_cons_self
theorem FW {r:List Rat} {u:List (List Rat)} (h:Ag (r::u)):co u (AP u r)=r:=aI h.1 h.2.1
theorem Se {r:List Rat} {u:List (List Rat)} {a b c d x y:Re} (h:Ag (r::u)) (f:In u a) (g:In u b) (j:In u c) (k:In u d) (m:x=a+b*rt u r) (v:y=c+d*rt u r):
  co (r::u) (x*y)=co u (a*c+b*d*AP u r)++co u (a*d+b*c):=by
 have z:=CX h;exact DX h (C0 (Am h.1 f j) (Am h.1 (Am h.1 g k) (CQ h))) (C0 (Am h.1 f k) (Am h.1 g j)) (by subst m;subst v;grind)
theorem Iq:∀{u:List (List Rat)} {R:Nat},Ag u->TB R u->∃K:Nat,0<K/\K<=2^EE u.length R/\∀{x y:Re} {D v:Nat},In u x->In u y->DN D (co u x)->DN v (co u y)->DN (D*v*K) (co u (x*y))
 | [],R,_,_=>⟨1,by decide,by simp[EE],fun {x y D v} J L h k=>by
  obtain⟨p,rfl⟩:=CV.1 J;obtain⟨q,rfl⟩:=CV.1 L;rw[DY] at h k;rw[<-Re.ofRat_mul,DY];intro z U;rw[List.mem_singleton.1 U];have:=UA (h p List.mem_cons_self) (k q List.mem_cons_self);rw[Fw,Fw];rwa [show p*(D:Rat)*(q*(v:Rat))=p*q*(D*v*(1:Nat)) by have:((1:Nat):Rat)=1:=rfl;grind] at this⟩
 | r::u,R,h,O=>by
  obtain⟨K,N,G,hm⟩:=Iq h.1 O.tail;obtain⟨E,Q,I,H,_⟩:=O.head;refine⟨K*K*E,Nat.mul_pos (Nat.mul_pos N N) Q,?_,fun {x y D v} J L f g=>?_⟩
  ·have M:K*K*E<=2^EE u.length R*2^EE u.length R*2^R:=Nat.mul_le_mul (Nat.mul_le_mul G G) I;rw[<-Nat.pow_add,<-Nat.pow_add] at M;exact Nat.le_trans M (Cg (by rw[List.length_cons,EE];omega))
  obtain⟨a,b,C,j,rfl⟩:=Cd.1 J;obtain⟨c,d,F,m,rfl⟩:=Cd.1 L;rw[DX h C j rfl,DN.app] at f;rw[DX h F m rfl,DN.app] at g;rw[Se h C j F m rfl rfl,DN.app];have T:DN E (co u (AP u r)):=by rw[FW h];exact H
  refine⟨DN.GN h.1 (Am h.1 C F) (Am h.1 (Am h.1 j m) (CQ h)) ((hm C F f.1 g.1).dvd ⟨K*E,by grind⟩) ((hm (Am h.1 j m) (CQ h) (hm j m f.2 g.2) T).dvd ⟨1,by grind⟩),
   DN.GN h.1 (Am h.1 C m) (Am h.1 j F) ((hm C m f.1 g.2).dvd ⟨K*E,by grind⟩) ((hm j F f.2 g.1).dvd ⟨K*E,by grind⟩)⟩
theorem Ou {p q:Rat} {B C:Nat} (h: -(B:Rat)<=p/\p<=B) (k: -(C:Rat)<=q/\q<=C): -((B*C:Nat):Rat)<=p*q/\p*q<=((B*C:Nat):Rat):=by
 rw[Fw];exact⟨ck h.2 h.1 k.2 k.1,JA h.2 h.1 k.2 k.1⟩
theorem HB:∀{u:List (List Rat)} {R:Nat},Ag u->TB R u->∀{x y:Re} {B C:Nat},In u x->In u y->MX B (co u x)->MX C (co u y)->MX (B*C*2^EE u.length R) (co u (x*y))
 | [],R,_,_,x,y,B,C,I,J,h,k=>by
  obtain⟨p,rfl⟩:=CV.1 I;obtain⟨q,rfl⟩:=CV.1 J;rw[DY] at h k;rw[<-Re.ofRat_mul,DY];intro z T;rw[List.mem_singleton.1 T];have:=Ou (h p List.mem_cons_self) (k q List.mem_cons_self);rwa [show B*C*2^EE ([]:List (List Rat)).length R=B*C by simp[EE]]
 | r::u,R,h,L,x,y,B,C,I,J,f,g=>by
  obtain⟨E,U,O,_,H⟩:=L.head;have G:=fun {x y:Re} {B C:Nat}=>HB (R:=R) (x:=x) (y:=y) (B:=B) (C:=C) h.1 L.tail
  obtain⟨a,b,v,j,rfl⟩:=Cd.1 I;obtain⟨c,d,F,m,rfl⟩:=Cd.1 J;rw[DX h v j rfl,MX.app] at f;rw[DX h F m rfl,MX.app] at g;rw[Se h v j F m rfl rfl,MX.app];have Q:MX (2^R) (co u (AP u r)):=by rw[FW h];exact H
  have e:EE (r::u).length R=EE u.length R+EE u.length R+R+2:=by rw[List.length_cons,EE];omega
  rw[e,Nat.pow_add,Nat.pow_add,Nat.pow_add];have M:=DR (EE u.length R);have N:=DR R
  generalize 2^EE u.length R=K at*
  generalize 2^R=S at*
  have k1:B*C*K<=B*C*(K*K*S):=Nat.mul_le_mul_left _ (by
   have:K*1<=K*(K*S):=Nat.mul_le_mul_left _ (Nat.mul_pos M N);rw[Nat.mul_assoc];omega)
  have k2:B*C*K*S*K=B*C*(K*K*S):=by grind
  refine⟨(MX.GN h.1 (Am h.1 v F) (Am h.1 (Am h.1 j m) (CQ h)) (G v F f.1 g.1) (G (Am h.1 j m) (CQ h) (G j m f.2 g.2) Q)).mono ?_,
   (MX.GN h.1 (Am h.1 v m) (Am h.1 j F) (G v m f.1 g.2) (G j F f.2 g.1)).mono ?_⟩
  ·rw[k2];grind
  grind
end Go.Abs
namespace Go.Abs
variable {R s t:Nat} {p q x y:Re} {r:List Rat} {u:List (List Rat)}
theorem Bd.mono {k l:Nat} {a:List Rat} (h:Bd k a) (c:k<=l):Bd l a:=by
 obtain⟨D,d,f,g,j⟩:=h;exact⟨D,d,Nat.le_trans f (Cg c),g,j.mono (Cg c)⟩
theorem Rz (h:Ag u) (c:In u x) (d:In u y) (a:Bd s (co u x)) (b:Bd t (co u y)):Bd (s+t+1) (co u (x+y)):=by
 obtain⟨D,f,g,j,k⟩:=a;obtain⟨E,k0,k1,k2,m⟩:=b;refine⟨D*E,Nat.mul_pos f k0,?_,DN.GN h c d (j.dvd ⟨E,rfl⟩) (k2.dvd ⟨D,Nat.mul_comm _ _⟩),(MX.GN h c d k m).mono ?_⟩
 ·have:=Nat.mul_le_mul g k1;rw[<-Nat.pow_add] at this;exact Nat.le_trans this (Cg)
 have v:2^s<=2^(s+t):=Cg;have z:2^t<=2^(s+t):=Cg;rw[Nat.pow_succ];omega
theorem R5 (h:Ag u) (j:In u x) (a:Bd s (co u x)):Bd s (co u (-x)):=by
 obtain⟨D,c,d,f,g⟩:=a;rw[KF h j];exact⟨D,c,d,f.neg,g.neg⟩
theorem Zx (h:Ag u) (d:In u x) (c:In u y) (a:Bd s (co u x)) (b:Bd t (co u y)):Bd (s+t+1) (co u (x-y)):=by
 rw[show x-y=x+ -y by grind];exact Rz h d (GX c) a (R5 h c b)
theorem Zv (h:Ag u) (d:TB R u) (f:In u x) (g:In u y) (a:Bd s (co u x)) (b:Bd t (co u y)):Bd (s+t+EE u.length R) (co u (x*y)):=by
 obtain⟨D,j,k,m,v⟩:=a;obtain⟨E,k0,k1,k2,C⟩:=b;obtain⟨K,z,c,hm⟩:=Iq h d;refine⟨D*E*K,Nat.mul_pos (Nat.mul_pos j k0) z,?_,hm f g m k2,(HB h d f g v C).mono ?_⟩
 ·have:=Nat.mul_le_mul (Nat.mul_le_mul k k1) c;rwa [<-Nat.pow_add,<-Nat.pow_add] at this
 rw[<-Nat.pow_add,<-Nat.pow_add];exact Nat.le_refl _
theorem Zw {q:Rat} (h:Ag u) (a:Bd s [q]):Bd s (co u (Re.ofRat q)):=by
 obtain⟨D,d,f,g,j⟩:=a;rw[KG q h];refine⟨D,d,f,fun z c=>?_,fun z c=>?_⟩
 ·rcases List.mem_cons.1 c with rfl | c
  ·exact g z List.mem_cons_self
  rw[(List.mem_replicate.1 c).2];exact⟨0,by rw[Rat.zero_mul];rfl⟩
 rcases List.mem_cons.1 c with rfl | c
 ·exact j z List.mem_cons_self
 rw[(List.mem_replicate.1 c).2];have:(0:Rat)<=((2^s:Nat):Rat):=Rat.natCast_nonneg
 grind
theorem R4 (h:Ag (r::u)) (j:In u p) (k:In u q) (a:Bd s (co (r::u) (p+q*rt u r))):Bd s (co u p)/\Bd s (co u q):=by
 obtain⟨D,f,g,c,d⟩:=a;rw[DX h j k rfl] at c d;exact⟨⟨D,f,g,(DN.app.1 c).1,(MX.app.1 d).1⟩,⟨D,f,g,(DN.app.1 c).2,(MX.app.1 d).2⟩⟩
theorem Zs (h:Ag (r::u)) (j:In u p) (k:In u q) (a:Bd s (co u p)) (b:Bd t (co u q)):Bd (s+t) (co (r::u) (p+q*rt u r)):=by
 obtain⟨D,c,d,f,g⟩:=a;obtain⟨E,k0,k1,k2,m⟩:=b;rw[DX h j k rfl];refine⟨D*E,Nat.mul_pos c k0,?_,DN.app.2 ⟨f.dvd ⟨E,rfl⟩,k2.dvd ⟨D,Nat.mul_comm _ _⟩⟩,MX.app.2 ⟨g.mono (Cg),m.mono (Cg)⟩⟩;have:=Nat.mul_le_mul d k1;rwa [<-Nat.pow_add] at this
theorem Nq (h:Ag (r::u)) (c:TB R (r::u)):Bd R (co u (AP u r)):=by rw[FW h];exact c.head
theorem R6 (h:Ag (r::u)) (g:TB R (r::u)) (d:In u p) (c:In u q) (a:Bd s (co (r::u) (p+q*rt u r))):
  Bd (2*s+2*EE u.length R+R+1) (co u (p*p-q*q*AP u r)):=by
 obtain⟨D,v,z,C,F⟩:=a;rw[DX h d c rfl] at C F;obtain⟨k,m⟩:=DN.app.1 C;obtain⟨mp,H⟩:=MX.app.1 F;obtain⟨K,G,f,hm⟩:=Iq h.1 g.tail;obtain⟨E,k0,k1,k2,J⟩:=g.head;have I:DN E (co u (AP u r)):=by rw[FW h];exact k2
 have j:MX (2^R) (co u (AP u r)):=by rw[FW h];exact J
 refine⟨D*D*K*E*K,Nat.mul_pos (Nat.mul_pos (Nat.mul_pos (Nat.mul_pos v v) G) k0) G,?_,DN.IS h.1 (Am h.1 d d) (Am h.1 (Am h.1 c c) (CQ h)) ((hm d d k k).dvd ⟨E*K,by grind⟩) (hm (Am h.1 c c) (CQ h) (hm c c m m) I),
  (MX.IS h.1 (Am h.1 d d) (Am h.1 (Am h.1 c c) (CQ h)) (HB h.1 g.tail d d mp mp) (HB h.1 g.tail (Am h.1 c c) (CQ h) (HB h.1 g.tail c c H H) j)).mono ?_⟩
 ·have:=Nat.mul_le_mul (Nat.mul_le_mul (Nat.mul_le_mul (Nat.mul_le_mul z z) f) k1) f;rw[<-Nat.pow_add,<-Nat.pow_add,<-Nat.pow_add,<-Nat.pow_add] at this;exact Nat.le_trans this (Cg)
 rw[<-Nat.pow_add,<-Nat.pow_add,<-Nat.pow_add,<-Nat.pow_add,Nat.pow_succ];have e1:2^(s+s+EE u.length R)<=2^(2*s+2*EE u.length R+R):=Cg;have L:2^(s+s+EE u.length R+R+EE u.length R)<=2^(2*s+2*EE u.length R+R):=Cg;omega
theorem Ul {a b:Nat} (h:a<=b):(a:Rat)<=b:=Rat.natCast_le_natCast.2 h
theorem Zu {q p:Rat} (h:Bd s [q]) (L:q*p=1):Bd (2*s) [p]:=by
 obtain⟨D,k,v,F,G⟩:=h;obtain⟨n,f⟩:=F q List.mem_cons_self;have H:=G q List.mem_cons_self;have Q:(0:Rat)<D:=Rat.natCast_pos.2 k
 have J:n≠0:=by
  intro e;subst e;have:(D:Rat)=q*D*p:=by grind
  rw[f] at this;have k:((0:Int):Rat)=0:=rfl
  grind
 have d:p*(n:Rat)=D:=by rw[<-f];grind
 have c:(n.natAbs:Rat)=n\/(n.natAbs:Rat)= -n:=by
  rcases Int.natAbs_eq n with e | e
  ·left
   have:((n.natAbs:Int):Rat)=(n:Rat):=congrArg _ e.symm;exact this
  right
  have:((n.natAbs:Int):Rat)=((-n:Int):Rat):=congrArg _ (by omega);rw[Rat.intCast_neg] at this;exact this
 have K:(1:Rat)<=n.natAbs:=by
  have:1<=n.natAbs:=by omega
  exact Ul this
 have g:n.natAbs<=D*2^s:=by
  have e1:=Ou (C:=D) H (q:=(D:Rat)) ⟨by grind,by grind⟩;rw[f,Nat.mul_comm] at e1;apply Rat.natCast_le_natCast.1;rcases c with e | e <;> rw[e] <;> grind
 refine⟨n.natAbs,by omega,?_,fun z j=>?_,fun z j=>?_⟩
 ·have:=Nat.mul_le_mul_right (2^s) v;rw[<-Nat.pow_add] at this;exact Nat.le_trans g (Nat.le_trans this (Cg))
 ·rw[List.mem_singleton.1 j];rcases c with e | e <;> rw[e]
  ·exact⟨D,d⟩
  exact⟨-D,by rw[Rat.intCast_neg,Rat.mul_neg,d];rfl⟩
 rw[List.mem_singleton.1 j];have M:(D:Rat)<=((2^(2*s):Nat):Rat):=Ul (Nat.le_trans v (Cg));have N:p=D\/True:= .inr trivial;have O:p*(n.natAbs:Rat)=D\/p*(n.natAbs:Rat)= -D:=by rcases c with e | e <;> rw[e] <;> grind
 generalize (n.natAbs:Rat)=m at*
 generalize ((2^(2*s):Nat):Rat)=S at*
 have T:p<=D:=by
  apply Classical.byContradiction;intro I;have:=Rat.mul_pos (a:=p-D) (b:=m) (by grind) (by grind);have:=Rat.mul_nonneg (a:=(D:Rat)) (b:=m-1) (by grind) (by grind)
  grind
 have U: -D<=p:=by
  apply Classical.byContradiction;intro I;have:=Rat.mul_pos (a:= -D-p) (b:=m) (by grind) (by grind);have:=Rat.mul_nonneg (a:=(D:Rat)) (b:=m-1) (by grind) (by grind)
  grind
 grind
theorem Lb:∀{u:List (List Rat)} {R:Nat} {x y:Re} {s:Nat},Ag u->TB R u->In u x->In u y->x*y=1->Bd s (co u x)->Bd (II u.length R s) (co u y)
 | [],R,x,y,s,_,_,H,L,e,h=>by
  obtain⟨p,rfl⟩:=CV.1 H;obtain⟨q,rfl⟩:=CV.1 L;rw[DY] at h ⊢;rw[<-Re.ofRat_mul] at e;exact Zu h (Re.JB.1 e)
 | r::u,R,x,y,s,h,k,H,L,e,J=>by
  obtain⟨a,b,f,c,rfl⟩:=Cd.1 H;have Y:=CX h;have T:=R6 h k f c J;have d:=EZ (Am h.1 f f) (Am h.1 (Am h.1 c c) (CQ h))
  have F:a*a-b*b*AP u r≠0:=by
   intro U;have e1:(a+b*rt u r)*(a-b*rt u r)=0:=by grind
   rcases Re.FX e1 with I | I
   ·rw[I] at e;have m:(0:Re)<1:=Re.Hc.2 (show (0:Rat)<1 by decide)
    grind
   obtain⟨W,X⟩:=indep h f (GX c) (CH u) (CH u) (show a+ -b*rt u r=0+0*rt u r by grind);have:a+b*rt u r=0:=by grind
   rw[this] at e;have m:(0:Re)<1:=Re.Hc.2 (show (0:Rat)<1 by decide)
   grind
  obtain⟨i,g,j⟩:=EP h.1 d F;have G:=Lb h.1 k.tail d g j T
  have N:y=a*i+ -(b*i)*rt u r:=by
   have:y=(a+b*rt u r)*y*((a-b*rt u r)*i):=by
    have:(a+b*rt u r)*y*((a-b*rt u r)*i)=y*((a*a-b*b*AP u r)*i):=by grind
    rw[this,j];grind
   rw[e] at this
   grind
  obtain⟨D,O,m,v,z⟩:=J;rw[DX h f c rfl] at v z;obtain⟨E,k0,k1,k2,M⟩:=G;obtain⟨K,Q,C,hm⟩:=Iq h.1 k.tail;rw[N,DX h (Am h.1 f g) (GX (Am h.1 c g)) rfl,KF h.1 (Am h.1 c g),List.length_cons,II];have m1:=HB h.1 k.tail f g (MX.app.1 z).1 M;have m2:=HB h.1 k.tail c g (MX.app.1 z).2 M;rw[<-Nat.pow_add,<-Nat.pow_add] at m1 m2;refine⟨D*E*K,Nat.mul_pos (Nat.mul_pos O k0) Q,?_,DN.app.2 ⟨hm f g (DN.app.1 v).1 k2,(hm c g (DN.app.1 v).2 k2).neg⟩,MX.app.2 ⟨m1.mono (Cg),(m2.mono (Cg)).neg⟩⟩;have:=Nat.mul_le_mul (Nat.mul_le_mul m k1) C;rw[<-Nat.pow_add,<-Nat.pow_add] at this;exact Nat.le_trans this (Cg)
end Go.Abs
namespace Go.Abs
variable {B:Nat} {u:List (List Rat)} {x:Re}
theorem bm {r:Rat} {n:Int} (h:r*r=n):∃m:Int,r=m:=by
 have d:(r*r).den=1:=by rw[h];rfl
 have c:(r*r).den=r.den*r.den:=by
  have g:Nat.gcd (r.num*r.num).natAbs (r.den*r.den)=1:=by
   rw[Int.natAbs_mul];exact Nat.Coprime.mul_left (Nat.Coprime.mul_right r.reduced r.reduced) (Nat.Coprime.mul_right r.reduced r.reduced)
  rw[Rat.mul_def,Rat.normalize_eq];simp only[g,Nat.div_one]
 rw[d] at c;have f:r.den=1:=Nat.eq_one_of_mul_eq_one_left c.symm;refine⟨r.num,?_⟩;have:=JK r;rw[f] at this;have e:((1:Nat):Rat)=1:=rfl
 grind
theorem U4 {Y:Nat} {c e:Re} (h:e=2*(c*c)):Re.ofRat ((2*Y:Nat):Rat)*c*(Re.ofRat ((2*Y:Nat):Rat)*c)=Re.ofRat ((2*Y*Y:Nat):Rat)*e:=by
 subst h;have d:Re.ofRat ((2:Nat):Rat)=2:=rfl;simp only[Fw,Re.ofRat_mul,d]
 grind
theorem S7:∀{u:List (List Rat)} {R:Nat},Ag u->TB R u->∃G:Nat,0<G/\G<=2^GG u.length R/\∀{x w:Re} {D:Nat},In u w->w*w=x->DN D (co u x)->DN (D*G) (co u w)
 | [],R,_,_=>⟨1,by decide,by simp[GG],fun {x w D} hw e h=>by
  obtain⟨p,rfl⟩:=CV.1 hw;subst e;rw[<-Re.ofRat_mul,DY] at h;rw[DY];intro z hz;rw[List.mem_singleton.1 hz];obtain⟨n,F⟩:=h _ List.mem_cons_self
  obtain⟨m,hm⟩:=bm (r:=p*D) (n:=n*D) (by
   rw[Rat.intCast_mul,<-F];have:((D:Int):Rat)=(D:Rat):=rfl
   grind)
  exact⟨m,by rw[Nat.mul_one];exact hm⟩⟩
 | r::u,R,h,O=>by
  obtain⟨G,hG,M,Q⟩:=S7 h.1 O.tail;obtain⟨K,Z,H,hm⟩:=Iq h.1 O.tail;obtain⟨E,hE,W,U,_⟩:=O.head;have hr:=CX h;have a5:DN E (co u (AP u r)):=by rw[FW h];exact U
  obtain⟨i,hi,T⟩:=EP h.1 (CQ h) (by have:=h.2.2.1;grind);obtain⟨I,hI,Y,X,_⟩:=Lb h.1 O.tail (CQ h) hi T (Nq h O);refine⟨2*(K*K*E)*G*G*I*K,Nat.mul_pos (Nat.mul_pos (Nat.mul_pos (Nat.mul_pos (Nat.mul_pos (by decide) (Nat.mul_pos (Nat.mul_pos Z Z) hE)) hG) hG) hI) Z,?_,fun {x w D} hw e J=>?_⟩
  ·have h1:=Nat.mul_le_mul (Nat.mul_le_mul (Nat.mul_le_mul (Nat.mul_le_mul (Nat.mul_le_mul (Nat.le_refl (2^1)) (Nat.mul_le_mul (Nat.mul_le_mul H H) W)) M) M) Y) H;simp only[<-Nat.pow_add] at h1;exact Nat.le_trans h1 (Cg (by rw[List.length_cons,GG];omega))
  obtain⟨c,d,k,v,rfl⟩:=Cd.1 hw
  have f:In u (2*c*d):=by
   have:=C0 (Am h.1 k v) (Am h.1 k v);rwa [show c*d+c*d=2*c*d by grind] at this
  have g:=CQ h;have j:=C0 (Am h.1 k k) (Am h.1 (Am h.1 v v) g);have ex:x=(c*c+d*d*AP u r)+(2*c*d)*rt u r:=by rw[<-e];grind
  rw[ex,DX h j f rfl,DN.app] at J
  generalize hA:c*c+d*d*AP u r=a at*
  generalize hB:2*c*d=b at*
  have F:=EZ (Am h.1 k k) (Am h.1 (Am h.1 v v) g)
  generalize hN:c*c-d*d*AP u r=n at*
  have N:=EZ (Am h.1 j j) (Am h.1 (Am h.1 f f) g);have a1:n*n=a*a-b*b*AP u r:=by grind
  have d1:DN (D*D*(K*K*E)) (co u (a*a-b*b*AP u r)):=
   DN.IS h.1 (Am h.1 j j) (Am h.1 (Am h.1 f f) g) ((hm j j J.1 J.1).dvd ⟨K*E,by grind⟩) ((hm (Am h.1 f f) g (hm f f J.2 J.2) a5).dvd ⟨1,by grind⟩)
  generalize K*K*E=C at*
  have d2:DN (D*C*G) (co u n):=by
   have k1:DN 1 (co u (Re.ofRat ((D*C*(D*C):Nat):Rat)*(a*a-b*b*AP u r))):=(Ir h.1 N).1 (d1.dvd ⟨C,by grind⟩);have k2:=Q (x:=Re.ofRat ((D*C*(D*C):Nat):Rat)*(a*a-b*b*AP u r)) (w:=Re.ofRat ((D*C:Nat):Rat)*n) (D:=1) (Oc F _) (by rw[Fw (D*C),Re.ofRat_mul,<-a1];grind) k1;exact ((Ir h.1 F).2 k2).dvd ⟨1,by grind⟩
  have L:DN (D*C*G) (co u a):=J.1.dvd ⟨C*G,by grind⟩;have d3:DN (D*C*G) (co u (a+n)):=DN.GN h.1 j F L d2;have d4:DN (D*C*G) (co u (a-n)):=DN.IS h.1 j F L d2
  have d5:DN (2*(D*C*G)*G) (co u c):=by
   have k1:DN 1 (co u (Re.ofRat ((2*(D*C*G)*(D*C*G):Nat):Rat)*(a+n))):=(Ir h.1 (C0 j F)).1 (d3.dvd ⟨2*(D*C*G),by grind⟩);have k2:=Q (x:=Re.ofRat ((2*(D*C*G)*(D*C*G):Nat):Rat)*(a+n)) (w:=Re.ofRat ((2*(D*C*G):Nat):Rat)*c) (D:=1) (Oc k _) (U4 (by clear Q hm k1;grind)) k1;exact ((Ir h.1 k).2 k2).dvd ⟨1,by grind⟩
  have d6:DN (D*C*G*I*K) (co u ((a-n)*i)):=hm (EZ j F) hi d4 X
  have d7:DN (2*(D*C*G*I*K)*G) (co u d):=by
   have a2:=Am h.1 (EZ j F) hi;have k1:DN 1 (co u (Re.ofRat ((2*(D*C*G*I*K)*(D*C*G*I*K):Nat):Rat)*((a-n)*i))):=(Ir h.1 a2).1 (d6.dvd ⟨2*(D*C*G*I*K),by grind⟩)
   have k2:=Q (x:=Re.ofRat ((2*(D*C*G*I*K)*(D*C*G*I*K):Nat):Rat)*((a-n)*i)) (w:=Re.ofRat ((2*(D*C*G*I*K):Nat):Rat)*d) (D:=1) (Oc v _) (U4 (by
    have e3:(a-n)*i=2*(d*d)*(AP u r*i):=by clear Q hm k1;grind
    rw[e3,T];grind)) k1
   exact ((Ir h.1 v).2 k2).dvd ⟨1,by grind⟩
  rw[DX h k v rfl,DN.app];exact⟨d5.dvd ⟨I*K,by grind⟩,d7.dvd ⟨1,by grind⟩⟩
theorem cO {p:Rat} (h:p*p<=((B*B:Nat):Rat)): -(B:Rat)<=p/\p<=B:=by
 rw[Fw] at h;have d:(0:Rat)<=B:=Rat.natCast_nonneg
 generalize (B:Rat)=b at*
 constructor
 ·apply Classical.byContradiction;intro c;have:=Rat.mul_pos (a:= -p-b) (b:= -p+b) (by grind) (by grind)
  grind
 apply Classical.byContradiction;intro c;have:=Rat.mul_pos (a:=p-b) (b:=p+b) (by grind) (by grind)
 grind
theorem MX.half {y:Re} (h:Ag u) (j:In u x) (f:In u y) (e:x=2*y) (k:MX (2*B) (co u x)):MX B (co u y):=by
 have c:x=Re.ofRat 2*y:=e;rw[c,Sf h f] at k;intro q d;have:=k _ (List.mem_map.2 ⟨q,d,rfl⟩);rw[Fw] at this;have g:((2:Nat):Rat)=2:=rfl
 grind
theorem Uk:∀{u:List (List Rat)} {R:Nat},Ag u->TB R u->∀{x w:Re} {B:Nat},In u w->w*w=x->MX (B*B) (co u x)->MX (B*2^GG u.length R) (co u w)
 | [],R,_,_,x,w,B,hw,e,h=>by
  obtain⟨p,rfl⟩:=CV.1 hw;subst e;rw[<-Re.ofRat_mul,DY] at h;rw[DY];intro z hz;rw[List.mem_singleton.1 hz];have:=cO (h _ List.mem_cons_self).2;simpa [GG] using this
 | r::u,R,h,M,x,w,B,hw,e,F=>by
  have L:=fun {x w:Re} {B:Nat}=>Uk (R:=R) (x:=x) (w:=w) (B:=B) h.1 M.tail
  have H:=fun {x y:Re} {B C:Nat}=>HB (R:=R) (x:=x) (y:=y) (B:=B) (C:=C) h.1 M.tail
  obtain⟨E,hE,a2,_,X⟩:=M.head;have hr:=CX h;have a1:MX (2^R) (co u (AP u r)):=by rw[FW h];exact X
  obtain⟨i,hi,O⟩:=EP h.1 (CQ h) (by have:=h.2.2.1;grind);obtain⟨I,hI,a5,_,Q⟩:=Lb h.1 M.tail (CQ h) hi O (Nq h M);obtain⟨c,d,k,j,rfl⟩:=Cd.1 hw
  have g:In u (2*c*d):=by
   have:=C0 (Am h.1 k j) (Am h.1 k j);rwa [show c*d+c*d=2*c*d by grind] at this
  have f:=CQ h;have m:=C0 (Am h.1 k k) (Am h.1 (Am h.1 j j) f);have ex:x=(c*c+d*d*AP u r)+(2*c*d)*rt u r:=by rw[<-e];grind
  rw[ex,DX h m g rfl,MX.app] at F
  generalize hA:c*c+d*d*AP u r=a at*
  generalize hB:2*c*d=b at*
  have N:=EZ (Am h.1 k k) (Am h.1 (Am h.1 j j) f)
  generalize hN:c*c-d*d*AP u r=n at*
  have Y:n*n=a*a-b*b*AP u r:=by clear L H;grind
  have m1:=MX.IS h.1 (Am h.1 m m) (Am h.1 (Am h.1 g g) f) (H m m F.1 F.1) (H (Am h.1 g g) f (H g g F.2 F.2) a1);have p0:=DR (EE u.length R);have p1:=DR R;have p2:=DR (GG u.length R);have p3:=DR (II u.length R R)
  have eG:2^GG (r::u).length R=2^EE u.length R*2^EE u.length R*2^EE u.length R*2^R*2*(2^GG u.length R*2^GG u.length R)*2^II u.length R R:=by
   have e2:(2:Nat)=2^1:=rfl;conv=>rhs;rw[show ∀q:Nat,q*2=q*2^1 from fun q=>rfl]
   simp only[<-Nat.pow_add]
   congr 1
   rw[List.length_cons,GG];omega
  rw[eG]
  generalize 2^EE u.length R=K at*
  generalize 2^R=S at*
  generalize 2^GG u.length R=G at*
  generalize 2^II u.length R R=J at*
  have W:1<=K*S:=Nat.mul_pos p0 p1;have v:1<=K*K*S:=Nat.mul_pos (Nat.mul_pos p0 p0) p1
  have Z:K+K*S*K<=2*(K*K*S)*(2*(K*K*S)):=by
   have t1:K*1<=K*(K*S):=Nat.mul_le_mul_left _ W;have t2:(K*K*S)*1<=(K*K*S)*(K*K*S):=Nat.mul_le_mul_left _ v
   grind
  have m2:MX (B*B*(2*(K*K*S))*G) (co u n):=by
   refine L (x:=a*a-b*b*AP u r) N Y (m1.mono ?_);have:=Nat.mul_le_mul_left (B*B*(B*B)) Z
   grind
  have U:1<=K*K*S*G:=Nat.mul_pos v p2
  have m3:MX (B*B*(2*(K*K*S)*G)) (co u (c*c)):=by
   refine MX.half h.1 (C0 m N) (Am h.1 k k) (by clear L H m1 m2;grind) ((MX.GN h.1 m N F.1 m2).mono ?_);have:=Nat.mul_le_mul_left (B*B) (show 1<=2*(K*K*S)*G by rw[Nat.mul_assoc];omega)
   grind
  have m4:MX (B*(2*(K*K*S)*G)*G) (co u c):=by
   refine L (x:=c*c) k rfl (m3.mono ?_);have t:2*(K*K*S)*G*1<=2*(K*K*S)*G*(2*(K*K*S)*G):=Nat.mul_le_mul_left _ (by rw[Nat.mul_assoc];omega);have:=Nat.mul_le_mul_left (B*B) t
   grind
  have m5:MX (B*B*(2*(K*K*S)*G)) (co u (d*d*AP u r)):=by
   refine MX.half h.1 (EZ m N) (Am h.1 (Am h.1 j j) f) (by clear L H m1 m2 m3;grind) ((MX.IS h.1 m N F.1 m2).mono ?_);have:=Nat.mul_le_mul_left (B*B) (show 1<=2*(K*K*S)*G by rw[Nat.mul_assoc];omega)
   grind
  have m6:MX (B*B*(2*(K*K*S)*G)*J*K) (co u (d*d)):=by
   have:=H (Am h.1 (Am h.1 j j) f) hi m5 Q;rwa [show d*d*AP u r*i=d*d by rw[show d*d*AP u r*i=d*d*(AP u r*i) by grind,O];grind] at this
  have m7:MX (B*(2*(K*K*S)*G*J*K)*G) (co u d):=by
   refine L (x:=d*d) j rfl (m6.mono ?_);have t0:1<=2*(K*K*S)*G*J*K:=Nat.mul_pos (Nat.mul_pos (by rw[Nat.mul_assoc];omega) p3) p0;have t:2*(K*K*S)*G*J*K*1<=2*(K*K*S)*G*J*K*(2*(K*K*S)*G*J*K):=Nat.mul_le_mul_left _ t0;have:=Nat.mul_le_mul_left (B*B) t
   grind
  rw[DX h k j rfl,MX.app];have T:1<=J*K:=Nat.mul_pos p3 p0;refine⟨m4.mono ?_,m7.mono ?_⟩
  ·have:=Nat.mul_le_mul_left (B*(2*(K*K*S)*G)*G) T
   grind
  grind
theorem R7 {R s:Nat} {w:Re} (h:Ag u) (d:TB R u) (hw:In u w) (e:w*w=x) (z:Bd s (co u x)):Bd (s+GG u.length R) (co u w):=by
 obtain⟨D,f,g,j,k⟩:=z;obtain⟨G,m,c,v⟩:=S7 h d;refine⟨D*G,Nat.mul_pos f m,?_,v hw e j,?_⟩
 ·have:=Nat.mul_le_mul g c;rwa [<-Nat.pow_add] at this
 have:=Uk h d hw e (B:=2^s) (k.mono (by rw[<-Nat.pow_add];exact Cg));rwa [<-Nat.pow_add] at this
end Go.Abs
namespace Go.Abs
structure Af (x:Int) (b:Bool) (l:List UInt32):Prop where
 neg:b=decide (x<0)
 BD:l=AS x.natAbs
variable {i n xi:Nat} {l o:List UInt32} {y:Int}
theorem AW (x:Int):∃b l,Af x b l:=⟨_,_,rfl,rfl⟩
theorem Af.nat {x:Int} {b:Bool} (h:Af x b l):AE l=x.natAbs:=by rw[h.BD,Aw]
theorem Af.Dz {x:Int} {b:Bool} (h:Af x b l):x=if b=true then -(AE l:Int) else AE l:=by
 rw[h.nat,h.neg];by_cases c:x<0 <;> simp[c] <;> omega
theorem Af.uniq {x:Int} {b b':Bool} {l':List UInt32} (h:Af x b l) (h':Af y b' l') (e:x=y):b=b'/\l=l':=by
 subst e;exact⟨h.neg.trans h'.neg.symm,h.BD.trans h'.BD.symm⟩
theorem Af.trim {x:Int} {b:Bool} (h:Af x b l):AS (AE l)=l:=by rw[h.nat,<-h.BD]
theorem Af.val {x:Int} {b:Bool} (d:AS n=l) (c:x=if b=true then -(n:Int) else n) (f:n=0->b=false):Af x b l:=by
 constructor
 ·rw[c];cases b
  ·simp
  have:n≠0:=fun e=>absurd (f e) (by simp)
  simp;omega
 rw[<-d,c];congr 1;split <;> omega
theorem Af.nil {x:Int} {b:Bool} (h:Af x b l):l=[]↔x=0:=by
 rw[h.BD,Dx];omega
theorem Af.Eo {x:Int} {b:Bool} (h:Af x b l):l.length=0↔x=0:=by
 rw[List.length_eq_zero_iff,h.nil]
def B7 (x:Int):Int:=if x<0 then -1 else if x=0 then 0 else 1
def BQ (a b:Int):Int:=if a<b then -1 else if b<a then 1 else 0
theorem Ow {x w:UInt32} (h:l[i]? =some x):AE (l.set i w)+2^(32*i)*x.toNat=AE l+2^(32*i)*w.toNat:=by
 induction l generalizing i with
 | nil=>simp at h
 | cons y l c=>
  cases i with
  | zero=>simp at h;subst h;simp[AE];omega
  | succ i=>
   have:=c (i:=i) (by simpa using h);rw[List.set_cons_succ,AE,AE,Dg]
   generalize 2^(32*i)=P at*
   grind
theorem Gi {w:UInt32} (h:n<=i:=by omega):(l.set i w).take n=l.take n:=by
 rw[List.take_set];rw[List.set_eq_of_length_le];rw[List.length_take];omega
theorem EI {w:UInt32} (h:i<l.length):(l.set i w).take (i+1)=l.take i++[w]:=by
 rw[List.take_succ_eq_append_getElem (by simpa using h),Gi (Nat.le_refl _)];simp
theorem I8 {A B Ew Ey yi:Nat} {w:UInt32} (c:i<o.length) (h:AE (o.take i)+B=A+2^(32*i)*Ew) (d:w.toNat+yi+Ew=xi+4294967296*Ey):
  AE ((o.set i w).take (i+1))+(B+2^(32*i)*yi)=(A+2^(32*i)*xi)+2^(32*(i+1))*Ey:=by
 rw[EI c,Dp,Dg,List.length_take,Nat.min_eq_left (by omega)]
 generalize 2^(32*i)=P at*
 have e:P*(w.toNat+yi+Ew)=P*(xi+4294967296*Ey):=by rw[d]
 grind
theorem Pz {N T c f yk old j:Nat} {q w:UInt32} {Y:Nat} {k:Nat} (m:j=i+k) (v:j<n) (z:o[j]? =some q) (F:q.toNat=old) (h:AE (o.take n)+2^(32*j)*c=T+xi*2^(32*i)*Y)
  (G:w.toNat+4294967296*f=c+xi*yk+old) (_:N=n):
  AE ((o.set j w).take n)+2^(32*(j+1))*f=T+xi*2^(32*i)*(Y+2^(32*k)*yk):=by
 have ht:(o.take n)[j]? =some q:=by rw[List.getElem?_take_of_lt v,z]
 have d:=Ow (w:=w) ht;rw[List.take_set,Dg];have C:2^(32*j)=2^(32*i)*2^(32*k):=by rw[m,Nat.mul_add,Nat.pow_add]
 generalize H:2^(32*j)=P at*
 have e:P*(w.toNat+4294967296*f)=P*(c+xi*yk+old):=by rw[G]
 rw[F] at d;have g:xi*2^(32*i)*(2^(32*k)*yk)=P*(xi*yk):=by rw[C];grind
 rw[Nat.mul_add,g]
 grind
theorem Uj {x:Int} {a b:Bool} (c:a=decide (x<0)) (d:b=decide (y<0)):x*y=if (a !=b)=true then -((x.natAbs*y.natAbs:Nat):Int) else ((x.natAbs*y.natAbs:Nat):Int):=by
 rw[Int.natCast_mul]
 by_cases f:x<0 <;> by_cases g:y<0 <;> simp[c,d,f,g]
 ·rw[show ((x.natAbs:Nat):Int)= -x by omega,show ((y.natAbs:Nat):Int)= -y by omega];grind
 ·rw[show ((x.natAbs:Nat):Int)= -x by omega,show ((y.natAbs:Nat):Int)=y by omega];grind
 ·rw[show ((x.natAbs:Nat):Int)=x by omega,show ((y.natAbs:Nat):Int)= -y by omega];grind
 rw[show ((x.natAbs:Nat):Int)=x by omega,show ((y.natAbs:Nat):Int)=y by omega]
theorem H0 (a b:Int):(a<b/\BQ a b= -1)\/(a=b/\BQ a b=0)\/(b<a/\BQ a b=1):=by
 unfold BQ
 split
 ·exact .inl ⟨by assumption,rfl⟩
 split
 ·exact .inr (.inr ⟨by assumption,rfl⟩)
 exact .inr (.inl ⟨by omega,rfl⟩)
theorem Es (x:Int):(x<0/\B7 x= -1)\/(x=0/\B7 x=0)\/(0<x/\B7 x=1):=by
 unfold B7
 split
 ·exact .inl ⟨by assumption,rfl⟩
 split
 ·exact .inr (.inl ⟨by assumption,rfl⟩)
 exact .inr (.inr ⟨by omega,rfl⟩)
theorem fH (x a b:Int): -9223372036854775808<=B7 x*BQ a b/\B7 x*BQ a b<9223372036854775808:=by
 rcases Es x with⟨_,h⟩ |⟨_,h⟩ |⟨_,h⟩ <;> rcases H0 a b with⟨_,k⟩ |⟨_,k⟩ |⟨_,k⟩ <;> rw[h,k] <;> decide
theorem aG {x:Int} (h:B7 x=B7 y):BQ x y=B7 x*BQ x.natAbs y.natAbs:=by
 rcases Es x with⟨d,c⟩ |⟨d,c⟩ |⟨d,c⟩ <;> rcases Es y with⟨k1,k2⟩ |⟨k1,k2⟩ |⟨k1,k2⟩ <;>
  rcases H0 x y with⟨p,q⟩ |⟨p,q⟩ |⟨p,q⟩ <;> rcases H0 x.natAbs y.natAbs with⟨u,v⟩ |⟨u,v⟩ |⟨u,v⟩ <;> rw[c,q,v] <;> rw[c,k2] at h <;> omega
theorem aF {x:Int} (h:B7 x≠B7 y):BQ x y=BQ (B7 x) (B7 y):=by
 rcases Es x with⟨d,c⟩ |⟨d,c⟩ |⟨d,c⟩ <;> rcases Es y with⟨k1,k2⟩ |⟨k1,k2⟩ |⟨k1,k2⟩ <;>
  rcases H0 x y with⟨p,q⟩ |⟨p,q⟩ |⟨p,q⟩ <;> rw[c,k2] at h ⊢ <;> rw[q] <;> first | rfl | omega
theorem WQ {x:Int} {b:Bool} (h:x=if b=true then -(n:Int) else n): -x=if (!b)=true then -(n:Int) else n:=by
 cases b <;> simp_all
theorem Mw {x:Int} {b:Bool} (h:x=if b=true then -(n:Int) else n) (f:n≠0):B7 x=if b=true then -1 else 1:=by
 rcases Es x with⟨d,c⟩ |⟨d,c⟩ |⟨d,c⟩ <;> rw[c] <;> cases b <;> simp at h ⊢ <;> omega
theorem add_same {x:Int} {b:Bool} (c:b=decide (x<0)) (d:b=decide (y<0)):x+y=if b=true then -((x.natAbs+y.natAbs:Nat):Int) else ((x.natAbs+y.natAbs:Nat):Int):=by
 cases b <;> simp at c d ⊢ <;> omega
theorem LQ {x:Int} {a b:Bool} (d:a=decide (x<0)) (f:b=decide (y<0)) (c:a≠b) (h:x.natAbs<=y.natAbs):x+y=if b=true then -((y.natAbs-x.natAbs:Nat):Int) else ((y.natAbs-x.natAbs:Nat):Int):=by
 cases a <;> cases b <;> simp at d f c ⊢ <;> omega
theorem HU {a b:Int} (h:BQ a b<0):a<b:=by rcases H0 a b with⟨_,k⟩ |⟨_,k⟩ |⟨_,k⟩ <;> omega
theorem HT {a b:Int} (h:0<=BQ a b):b<=a:=by rcases H0 a b with⟨_,k⟩ |⟨_,k⟩ |⟨_,k⟩ <;> omega
def Ef (b:Bool) (l:List UInt32):Bool:=match l.getLast? with
 | none=> !b
 | some x=>x !=0
theorem Hm {b:Bool}:Ef b l=true↔∃x,Af x b l:=by
 unfold Ef;cases h:l.getLast? with
 | none=>
  have:l=[]:=List.getLast?_eq_none_iff.1 h;subst this
  constructor
  ·intro j;exact⟨0,by simpa using j,rfl⟩
  rintro⟨x,c⟩
  have:=(c.nil).1 rfl;rw[c.neg,this];rfl
 | some w=>
  obtain⟨m,rfl⟩:=List.getLast?_eq_some_iff.1 h
  constructor
  ·intro hw;have hw:w≠0:=by simpa using hw
   have d:=Ny (o:=m) (w:=w) fun e=>hw (UInt32.toNat_inj.1 e)
   have g:AE (m++[w])≠0:=fun e=>by
    rw[e,E5] at d;simp at d
   exact⟨if b=true then -(AE (m++[w]):Int) else AE (m++[w]),.val d rfl fun e=>absurd e g⟩
  rintro⟨x,c⟩
  simp only[bne_iff_ne,ne_eq];rintro rfl;have f:=c.trim;rw[<-JZ,Hl] at f;have:=M8 m;rw[f] at this;simp at this;omega
end Go.Abs
namespace Go.Abs
variable {A B xi yi:Nat} {l o:List UInt32}
theorem IF {N k:Nat} (h:N<2^(32*k)):∃z:List UInt32,z.length=k/\AE z=N:=by
 refine⟨AS N++List.replicate (k-(AS N).length) 0,?_,?_⟩
 ·have:=Ep h;simp;omega
 rw[MW,HC,Aw];simp
theorem M9 (N i:Nat):N%2^(32*(i+1))=N%2^(32*i)+2^(32*i)*(N/2^(32*i)%4294967296):=by
 rw[Dg,Nat.mul_comm 4294967296,Nat.mod_mul]
theorem WU {x y r n:Nat} (k:x<4294967296) (z:n<=31):(x+4294967296*(y+4294967296*r))/2^n%4294967296=x/2^n+y*2^(32-n)%4294967296:=by
 obtain⟨d,j⟩:∃d,32-n=d:=⟨_,rfl⟩
 have e:(4294967296:Nat)=2^n*2^d:=by rw[<-Nat.pow_add,show n+d=32 by omega]
 have c:0<2^n:=Nat.two_pow_pos n;have C:0<2^d:=Nat.two_pow_pos d;rw[j];have e1:x+4294967296*(y+4294967296*r)=x+2^n*(2^d*(y+4294967296*r)):=by rw[<-Nat.mul_assoc,<-e]
 rw[e1,Nat.add_mul_div_left _ _ c];have m:x/2^n<2^d:=Nat.div_lt_of_lt_mul (by rw[<-e];exact k);have f:x/2^n+2^d*(y+4294967296*r)=(x/2^n+y*2^d)+4294967296*(2^d*r):=by rw[Nat.mul_add];grind
 rw[f,Nat.add_mul_mod_self_left];have g:y*2^d%4294967296=2^d*(y%2^n):=by rw[e,Nat.mul_comm (2^n),Nat.mul_comm y,Nat.mul_mod_mul_left]
 rw[Nat.add_mod,g]
 have v:2^d*(y%2^n)+2^d<=4294967296:=by
  have:y%2^n+1<=2^n:=Nat.mod_lt _ c;have:=Nat.mul_le_mul_left (2^d) this;rw[e,Nat.mul_comm (2^n)];rw[Nat.mul_add] at this;omega
 have h:x/2^n%4294967296=x/2^n:=Nat.mod_eq_of_lt (by omega);rw[h,Nat.mod_eq_of_lt (by omega)]
theorem JF {a b d:Nat} (h:a<2^d):a ||| (2^d*b)=a+2^d*b:=by
 rw[Nat.or_comm,<-Nat.two_pow_add_eq_or_of_lt h,Nat.add_comm]
theorem DH {i:Nat} {x:UInt32} (h:l[i]? =some x):AE (l.drop i)=x.toNat+4294967296*AE (l.drop (i+1)):=by
 have c:i<l.length:=by
  apply Classical.byContradiction;intro d;rw[List.getElem?_eq_none (by omega)] at h;exact absurd h (by simp)
 rw[List.drop_eq_getElem_cons c,AE];rw[List.getElem?_eq_getElem c] at h;rw[Option.some.inj h]
theorem Lr {i:Nat} (h:i<=l.length):AE l/2^(32*i)=AE (l.drop i):=by
 rw[E8 l i h,Nat.add_mul_div_left _ _ (Nat.two_pow_pos _)];have:=CI (l.take i);rw[List.length_take,Nat.min_eq_left h] at this;rw[Nat.div_eq_of_lt this,Nat.zero_add]
theorem Lu {i off:Nat} {w:UInt32}:(l.set (off+i) w).drop off=(l.drop off).set i w:=by
 rw[List.drop_set,if_neg (by omega)]
 congr 1
 omega
theorem gN {D Ew Ey i:Nat} {w:UInt32} (c:i<o.length) (h:AE (o.take i)+B*D=A+2^(32*i)*Ew) (d:w.toNat+yi*D+Ew=xi+4294967296*Ey):
  AE ((o.set i w).take (i+1))+(B+2^(32*i)*yi)*D=(A+2^(32*i)*xi)+2^(32*(i+1))*Ey:=by
 rw[EI c,Dp,Dg,List.length_take,Nat.min_eq_left (by omega)]
 generalize 2^(32*i)=P at*
 have e:P*(w.toNat+yi*D+Ew)=P*(xi+4294967296*Ey):=by rw[d]
 grind
theorem ZW {Le Lf i:Nat} {w:UInt32} (c:i<o.length) (h:AE (o.take i)+2^(32*i)*Le=A+B) (d:w.toNat+4294967296*Lf=xi+yi+Le):
  AE ((o.set i w).take (i+1))+2^(32*(i+1))*Lf=(A+2^(32*i)*xi)+(B+2^(32*i)*yi):=by
 rw[EI c,Dp,Dg,List.length_take,Nat.min_eq_left (by omega)]
 generalize 2^(32*i)=P at*
 have e:P*(w.toNat+4294967296*Lf)=P*(xi+yi+Le):=by rw[d]
 grind
end Go.Abs
namespace Go.Abs
variable {D P R R0 R2 S V V0 V2 high next r top u3:Nat}
theorem WB {u:List UInt32} {off len:Nat} (d:S<2^(32*len)) (g:off+len<=u.length):
  ∃z:List UInt32,z.length=u.length/\z.take off=u.take off/\z.drop (off+len)=u.drop (off+len)/\AE ((z.drop off).take len)=S:=by
 obtain⟨y,h,c⟩:=IF d;have f:(u.take off).length=off:=by rw[List.length_take];omega
 refine⟨u.take off++(y++u.drop (off+len)),?_,?_,?_,?_⟩
 ·simp;omega
 ·rw[List.take_append_of_le_length (by omega),List.take_of_length_le (by omega)]
 ·rw[<-List.drop_drop,List.drop_append_of_le_length (by omega),List.drop_eq_nil_of_le (by omega:(u.take off).length<=off),List.nil_append,List.drop_append_of_le_length (by omega),List.drop_eq_nil_of_le (by omega:y.length<=len),List.nil_append]
 rw[List.drop_append_of_le_length (by omega),List.drop_eq_nil_of_le (by omega:(u.take off).length<=off),List.nil_append,List.take_append_of_le_length (by omega),List.take_of_length_le (by omega),c]
theorem Ss (hR:R=R2*P+R0) (c:R0<P) (d:V=V2*P+V0) (h:R2<D*V2):R/V<D:=by
 have m:0<P:=by omega
 have f:0<V2:=by
  apply Nat.pos_of_ne_zero;intro e;subst e;simp at h
 apply Nat.div_lt_of_lt_mul;have g:(R2+1)*P<=D*V2*P:=Nat.mul_le_mul_right _ h;have j:V*D=D*V2*P+V0*D:=by rw[d];grind
 have k:(R2+1)*P=R2*P+P:=by grind
 omega
theorem Su (hR:R=R2*P+R0) (f:V=V2*P+V0) (g:V0<P) (h:D*V2<=R2) (C:D<=V2+1):D<=R/V+1:=by
 cases D with
 | zero=>exact Nat.zero_le _
 | succ D=>
  have c:0<V\/V=0:=by omega
  rcases c with c | c
  ·have:D<=R/V:=by
    rw[Nat.le_div_iff_mul_le c];have j:(D+1)*V2*P<=R2*P:=Nat.mul_le_mul_right _ h;have k:D*V=D*V2*P+D*V0:=by rw[f];grind
    have m:(D+1)*V2*P=D*V2*P+V2*P:=by grind
    have v:D*V0<=D*P:=Nat.mul_le_mul_left _ (by omega);have z:D*P<=V2*P:=Nat.mul_le_mul_right _ (by omega);omega
   exact Nat.succ_le_succ this
  have d:V2*P=0:=by omega
  have F:0<P:=by omega
  have:V2=0:=by
   rcases Nat.mul_eq_zero.1 d with e | e
   ·exact e
   omega
  exact Nat.le_trans (by omega:D+1<=1) (Nat.le_add_left _ _)
structure HJ (R V top high D r:Nat):Prop where
 sum:r+D*high=top
 up:R/V<=D
 MS:D<=4294967297
 rest:r<4294967296
theorem bO (hR:R=top*P+R0) (c:R0<P) (h:V=high*P+V0) (m:2147483648<=high) (j:high<4294967296) (ht:top<4294967296*(high+1)):HJ R V top high (top/high) (top%high):=by
 have hm:=Nat.div_add_mod top high;have k:=Nat.mod_lt top (by omega:0<high);refine⟨by rw[Nat.mul_comm] at hm;omega,?_,?_,by omega⟩
 ·have d:top<(top/high+1)*high:=by rw[Nat.add_mul,Nat.mul_comm];omega
  exact Nat.le_of_lt_succ (Ss hR c h d)
 have f:top<4294967298*high:=by omega
 have g:top/high<4294967298:=(Nat.div_lt_iff_lt_mul (by omega)).2 f;exact Nat.le_of_lt_succ g
theorem Th (g:HJ R V top high D r) (c:R/V<4294967296) (h:4294967296<=D:=by omega):R/V<=D-1:=by
 have:=g.up;exact Nat.le_sub_one_of_lt (Nat.lt_of_lt_of_le c h)
theorem Tj (g:HJ R V top high D r) (hR:R=(4294967296*top+u3)*P+R0) (c:R0<P) (d:V=(4294967296*high+next)*P+V0) (h:4294967296*r+u3<D*next):R/V<=D-1:=by
 have j:4294967296*top+u3<D*(4294967296*high+next):=by
  have e:=g.sum
  clear g hR d
  rw[<-e];have e1:D*(4294967296*high+next)=4294967296*(D*high)+D*next:=by grind
  have f:4294967296*(r+D*high)=4294967296*r+4294967296*(D*high):=by grind
  rw[e1,f]
  generalize D*high=Q at*
  generalize D*next=T at*
  omega
 exact Nat.le_sub_one_of_lt (Ss hR c d j)
theorem Tk (g:HJ R V top high D r) (c:R/V<=D-1) (f:0<D) (d:r+high<4294967296):HJ R V top high (D-1) (r+high):=by
 refine⟨?_,c,by have:=g.MS;omega,d⟩;have:=g.sum;obtain⟨D,rfl⟩:∃k,D=k+1:=⟨D-1,by omega⟩
 simp only[Nat.add_sub_cancel];rw[Nat.add_mul] at this;omega
structure Jk (R V D:Nat):Prop where
 up:R/V<=D
 low:D<=R/V+1
 word:D<4294967296
theorem Oy (g:HJ R V top high D r) (hR:R=(4294967296*top+u3)*P+R0) (f:V=(4294967296*high+next)*P+V0) (c:V0<P) (j:2147483648<=high)
  (d:D<4294967296) (h:D*next<=4294967296*r+u3:=by omega):Jk R V D:=by
 refine⟨g.up,Su hR f c ?_ (by omega),d⟩;have e:=g.sum;rw[<-e];have:D*(4294967296*high+next)=4294967296*(D*high)+D*next:=by grind
 have:4294967296*(r+D*high)=4294967296*r+4294967296*(D*high):=by grind
 omega
theorem Ox (g:HJ R V top high D r) (f:R/V<=D-1) (G:0<D) (hR:R=(4294967296*top+u3)*P+R0) (h:V=(4294967296*high+next)*P+V0) (d:V0<P) (I:2147483648<=high) (J:next<4294967296)
  (ht:top<4294967296*(high+1)) (j:4294967296<=r+high:=by omega):Jk R V (D-1):=by
 obtain⟨D,rfl⟩:∃k,D=k+1:=⟨D-1,by omega⟩
 simp only[Nat.add_sub_cancel] at f ⊢;have e:=g.sum;have hm:=g.MS;have m:(r+high)+D*high=top:=by rw[Nat.add_mul] at e;omega
 have c:D<4294967296:=by
  apply Classical.byContradiction;intro H;have:4294967296*high<=D*high:=Nat.mul_le_mul_right _ (by omega);omega
 refine⟨f,Su hR h d ?_ (by omega),c⟩;rw[<-m];have v:D*(4294967296*high+next)=4294967296*(D*high)+D*next:=by grind
 have z:4294967296*(r+high+D*high)=4294967296*(r+high)+4294967296*(D*high):=by grind
 have C:D*next<=4294967296*4294967296:=Nat.mul_le_mul (by omega) (by omega);have F:4294967296*4294967296<=4294967296*(r+high):=Nat.mul_le_mul_left _ j;omega
theorem Un {M:Nat} {b:Bool} (j:Jk R V D) (f:0<V) (h:S+V*D=R+M*b.toNat) (v:S<M):
  (b=false->D=R/V/\S=R%V)/\(b=true->D-1=R/V/\0<D/\(R%V<M->(S+V)%M=R%V)):=by
 have z:=Nat.div_add_mod R V;have C:=Nat.mod_lt R f;obtain⟨k,m,_⟩:=j
 generalize R/V=Q at*
 generalize R%V=T at*
 constructor
 ·rintro rfl;simp at h
  have c:D=Q:=by
   apply Classical.byContradiction;intro g;have:D=Q+1:=by omega
   rw[this,Nat.mul_add] at h;omega
  exact⟨c,by rw[c] at h;omega⟩
 rintro rfl;simp at h
 have c:D=Q+1:=by
  apply Classical.byContradiction;intro g;have:D=Q:=by omega
  rw[this] at h;omega
 refine⟨by omega,by omega,fun d=>?_⟩;rw[c,Nat.mul_add] at h;have:S+V=T+M*1:=by omega
 rw[this,Nat.add_mul_mod_self_left,Nat.mod_eq_of_lt d]
end Go.Abs
