/- Part 5 of a proof. Conditions: each theorem's own. -/
import Derived.Test.YtmifleedghiimaaGreatDoorRb03
set_option linter.all false
set_option maxHeartbeats 80000000
set_option maxRecDepth 20000
namespace Go.Abs
open Go.RowKit
section
def AU:AG->List Rat->Re
 | [],a=>Re.ofRat (a.headD 0)
 | r::u,a=>AU u (a.take (2^u.length))+AU u (a.drop (2^u.length))*Re.sqrt (AU u r)
def rt (u:AG) (r:List Rat):Re:=Re.sqrt (AU u r)
def In (u:AG) (x:Re):Prop:=∃a:List Rat,a.length=2^u.length/\AU u a=x
def BE:AG->Prop
 | []=>True
 | r::u=>BE u/\r.length=2^u.length/\0<AU u r/\¬∃w,In u w/\w*w=AU u r
noncomputable def co (u:AG) (x:Re):List Rat:=by
 classical
 exact if h:In u x then Classical.choose h else []
variable {a:List Rat} {p x y:Re}
def Cc (r:List Rat) (u:AG):2^(r::u).length=2^u.length+2^u.length:=by
 rw[List.length_cons,Nat.pow_succ];omega
def DZ:In [] x↔∃q,x=Re.ofRat q:=by
 constructor
 ·rintro⟨a,_,rfl⟩;exact⟨_,rfl⟩
 rintro⟨q,rfl⟩;exact⟨[q],rfl,rfl⟩
def DK {r:List Rat} {u:AG}:In (r::u) x↔∃p q,In u p/\In u q/\x=p+q*rt u r:=by
 constructor
 ·rintro⟨a,ha,rfl⟩
  rw[Cc] at ha;exact⟨_,_,⟨a.take (2^u.length),by rw[List.length_take];omega,rfl⟩,⟨a.drop (2^u.length),by rw[List.length_drop];omega,rfl⟩,rfl⟩
 rintro⟨p,q,⟨a,ha,rfl⟩,⟨b,hb,rfl⟩,rfl⟩
 refine⟨a++b,by rw[Cc,List.length_append];omega,?_⟩;rw[AU,<-ha,List.take_left,List.drop_left];rfl
def Rk:∀(u:AG) (a b:List Rat),a.length=2^u.length->b.length=2^u.length->AU u (List.zipWith (· + ·) a b)=AU u a+AU u b
 | [],a,b,ha,hb=>by
  match a,b,ha,hb with
  | [p],[q],_,_=>exact Re.ofRat_add p q
 | r::u,a,b,ha,hb=>by
  rw[Cc] at ha hb;rw[AU,AU,AU,List.take_zipWith,List.drop_zipWith,Rk u _ _ (by rw[List.length_take];omega) (by rw[List.length_take];omega),Rk u _ _ (by rw[List.length_drop];omega) (by rw[List.length_drop];omega)]
  grind
def Rl:∀(u:AG) (a:List Rat),a.length=2^u.length->AU u (a.map (- ·))= -AU u a
 | [],a,ha=>by
  match a,ha with
  | [p],_=>exact Re.ofRat_neg p
 | r::u,a,ha=>by
  rw[Cc] at ha;rw[AU,AU,<-List.map_take,<-List.map_drop,Rl u _ (by rw[List.length_take];omega),Rl u _ (by rw[List.length_drop];omega)]
  grind
def PF:∀(u:AG) (n:Nat),AU u (List.replicate n 0)=0
 |[],0|[],n+1=>rfl
 | r::u,n=>by rw[AU,List.take_replicate,List.drop_replicate,PF,PF];grind
def G8 (q:Rat):∀u,In u (Re.ofRat q)
 | []=>DZ.2 ⟨q,rfl⟩
 | r::u=>DK.2 ⟨_,_,G8 q u,⟨List.replicate (2^u.length) 0,List.length_replicate,PF u _⟩,by grind⟩
def C0 (u:AG):In u 0:=G8 0 u
def MJ (u:AG):In u 1:=G8 1 u
def EP {u:AG}:In u x->In u y->In u (x+y)
 |⟨a,ha,c⟩,⟨b,hb,f⟩=>⟨List.zipWith (· + ·) a b,by rw[List.length_zipWith];omega,by rw[Rk u a b ha hb,c,f]⟩
def Hi {u:AG}:In u x->In u (-x)
 |⟨a,ha,c⟩=>⟨a.map (- ·),by rw[List.length_map,ha],by rw[Rl u a ha,c]⟩
def Ga {u:AG} (h:In u x) (k:In u y):In u (x-y):=by
 have:=EP h (Hi k);rwa [show x+ -y=x-y by grind] at this
def De {u:AG} {r:List Rat} (h:BE (r::u)):rt u r*rt u r=AU u r:=Re.JH (by have:=h.2.2.1;grind)
def vP (u:AG) (r:List Rat):0<=rt u r:=Re.N4 _
def Ci {u:AG} {r:List Rat} (h:BE (r::u)):In u (AU u r):=⟨r,h.2.1,rfl⟩
def Gb {u:AG} {r:List Rat} (h:In u x):In (r::u) x:=DK.2 ⟨x,0,h,C0 u,by grind⟩
def KM (u:AG) (r:List Rat):In (r::u) (rt u r):=DK.2 ⟨0,1,C0 u,MJ u,by grind⟩
def BL:∀{u:AG} {x y:Re},BE u->In u x->In u y->In u (x*y)
 | [],x,y,_,f,g=>by
  obtain⟨p,rfl⟩:=DZ.1 f;obtain⟨q,rfl⟩:=DZ.1 g;exact DZ.2 ⟨p*q,(Re.ofRat_mul p q).symm⟩
 | r::u,x,y,h,f,g=>by
  obtain⟨a,b,ha,hb,rfl⟩:=DK.1 f;obtain⟨c,d,j,m,rfl⟩:=DK.1 g;have v:=De h;refine DK.2 ⟨a*c+b*d*AU u r,a*d+b*c,EP (BL h.1 ha j) (BL h.1 (BL h.1 hb m) (Ci h)),EP (BL h.1 ha m) (BL h.1 hb j),?_⟩
  grind
def eP {u:AG} {r:List Rat} (h:BE (r::u)) {w:Re} (hw:In u w):w*w≠AU u r:=fun e=>h.2.2.2 ⟨w,hw,e⟩
def FV:∀{u:AG} {x:Re},BE u->In u x->x≠0->∃y,In u y/\x*y=1
 | [],x,_,m,f=>by
  obtain⟨p,rfl⟩:=DZ.1 m;have J:p≠0:=fun e=>f (by rw[e];rfl)
  refine⟨Re.ofRat p⁻¹,DZ.2 ⟨_,rfl⟩,?_⟩;rw[<-Re.ofRat_mul,show p*p⁻¹=1 by grind];rfl
 | r::u,x,h,m,f=>by
  obtain⟨a,b,ha,hb,rfl⟩:=DK.1 m;have K:=De h
  have H:a*a-b*b*AU u r≠0:=by
   intro e
   by_cases g:b=0
   ·have F:a=0:=by
     have:a*a=0:=by grind
     rcases Re.F3 this with e | e <;> exact e
    exact f (by grind)
   obtain⟨c,G,j⟩:=FV h.1 hb g
   exact eP h (BL h.1 ha G) (by
    have e1:a*a=b*b*AU u r:=by grind
    have e2:a*c*(a*c)=(b*c)*(b*c)*AU u r:=by grind
    rw[e2,j];grind)
  obtain⟨y,v,I⟩:=FV h.1 (Ga (BL h.1 ha ha) (BL h.1 (BL h.1 hb hb) (Ci h))) H;refine⟨a*y+ -(b*y)*rt u r,DK.2 ⟨_,_,BL h.1 ha v,Hi (BL h.1 hb v),rfl⟩,?_⟩
  grind
def indep {u:AG} {r:List Rat} (h:BE (r::u)) {q g f:Re} (H:In u p) (I:In u q) (j:In u g) (m:In u f) (e:p+q*rt u r=g+f*rt u r):p=g/\q=f:=by
 have J:=De h
 by_cases F:q-f=0
 ·have:q=f:=by grind
  subst this;exact⟨by grind,rfl⟩
 exfalso
 obtain⟨c,G,v⟩:=FV h.1 (Ga I m) F;refine eP h (BL h.1 (Ga j H) G) ?_;have e1:(q-f)*rt u r=g-p:=by grind
 have e2:(g-p)*c=rt u r*((q-f)*c):=by grind
 rw[e2,v];grind
def VZ:∀{u:AG} {a b:List Rat},BE u->a.length=2^u.length->b.length=2^u.length->AU u a=AU u b->a=b
 | [],a,b,_,ha,hb,e=>by
  match a,b,ha,hb with
  | [p],[q],_,_=>exact congrArg (fun x=>[x]) (Re.MS.1 e)
 | r::u,a,b,h,ha,hb,e=>by
  rw[Cc] at ha hb;have l1:(a.take (2^u.length)).length=2^u.length:=by rw[List.length_take];omega
  have l2:(a.drop (2^u.length)).length=2^u.length:=by rw[List.length_drop];omega
  have l3:(b.take (2^u.length)).length=2^u.length:=by rw[List.length_take];omega
  have c:(b.drop (2^u.length)).length=2^u.length:=by rw[List.length_drop];omega
  obtain⟨e1,e2⟩:=indep h ⟨_,l1,rfl⟩ ⟨_,l2,rfl⟩ ⟨_,l3,rfl⟩ ⟨_,c,rfl⟩ e;rw[<-List.take_append_drop (2^u.length) a,<-List.take_append_drop (2^u.length) b,VZ h.1 l1 l3 e1,VZ h.1 l2 c e2]
def aQ {u:AG} (h:In u x):(co u x).length=2^u.length/\AU u (co u x)=x:=by
 unfold co;rw[dif_pos h];exact Classical.choose_spec h
def Dp {u:AG} (h:In u x):(co u x).length=2^u.length:=(aQ h).1
def FR {u:AG} (h:In u x):AU u (co u x)=x:=(aQ h).2
def MA {u:AG} (h:BE u) (ha:a.length=2^u.length) (e:AU u a=x):co u x=a:=by
 have c:In u x:=⟨a,ha,e⟩;exact VZ h (Dp c) ha ((FR c).trans e.symm)
def oy {u:AG} (h:BE u) (ha:a.length=2^u.length):co u (AU u a)=a:=MA h ha rfl
def Ot {u:AG} (h:BE u) (c:In u x) (f:In u y):co u (x+y)=List.zipWith (· + ·) (co u x) (co u y):=
 MA h (by rw[List.length_zipWith,Dp c,Dp f];omega) (by rw[Rk u _ _ (Dp c) (Dp f),FR c,FR f])
def M6 {u:AG} (h:BE u) (c:In u x):co u (-x)=(co u x).map (- ·):=
 MA h (by rw[List.length_map,Dp c]) (by rw[Rl u _ (Dp c),FR c])
def VH {u:AG} (h:BE u):co u 0=List.replicate (2^u.length) 0:=MA h List.length_replicate (PF u _)
def Dy {u:AG} {r:List Rat} {q:Re} (h:BE (r::u)) (c:In u p) (f:In u q) (g:x=p+q*rt u r):co (r::u) x=co u p++co u q:=by
 refine MA h (by rw[List.length_append,Dp c,Dp f,Cc]) ?_;rw[AU,<-Dp c,List.take_left,List.drop_left,FR c,FR f,g];rfl
def D5 (q:Rat):co [] (Re.ofRat q)=[q]:=MA (u:=[]) trivial rfl rfl
def JY (q:Rat):∀{u:AG},BE u->co u (Re.ofRat q)=q::List.replicate (2^u.length-1) 0
 | [],_=>D5 q
 | r::u,h=>by
  rw[Dy h (G8 q u) (C0 u) (by grind),JY q h.1,VH h.1,List.cons_append,List.replicate_append_replicate];have:1<=2^u.length:=Nat.one_le_two_pow;have:2^(r::u).length-1=2^u.length-1+2^u.length:=by rw[Cc];omega
  rw[this]
def o3 {u:AG} {r:List Rat} {q:Re} (h:BE (r::u)) (c:In u p) (f:In u q) (g:x=p+q*rt u r):(co (r::u) x).take (2^u.length)=co u p:=by
 rw[Dy h c f g,<-Dp c,List.take_left]
def oz {u:AG} {r:List Rat} {q:Re} (h:BE (r::u)) (c:In u p) (f:In u q) (g:x=p+q*rt u r):(co (r::u) x).drop (2^u.length)=co u q:=by
 rw[Dy h c f g,<-Dp c,List.drop_left]
def Ou {u:AG} (h:BE u) (g:In u x):(∀c∈co u x,c=0)↔x=0:=by
 constructor
 ·intro f;have:co u x=List.replicate (2^u.length) 0:=List.eq_replicate_iff.2 ⟨Dp g,f⟩;rw[<-FR g,this,PF]
 rintro rfl c f;rw[VH h] at f;exact (List.mem_replicate.1 f).2
def vO {u:AG} {r:List Rat} (h:BE (r::u)):rt u r≠0:=by
 intro e;have c:=De h;have:=h.2.2.1;rw[e] at c
 grind
def gT {u:AG} {r:List Rat} (h:BE (r::u)):0<rt u r:=by
 have:=vO h;have:=vP u r
 grind
end
section
def Sq (u:AG) (x:Re):Prop:=∃w,In u w/\w*w=x
variable {a b n t w x:Re} {r:List Rat} {u:AG}
def TR:(2:Re)≠0:=by
 intro h
 have c:(0:Re)<1:=by
  have:=Re.KR.2 (AD:(0:Rat)<1);exact this
 grind
def WQ {y:Re} (c:x≠0) (f:y≠0):x*y≠0:=fun h=>by rcases Re.F3 h with e | e;exact c e;exact f e
def jN (h:x*x=0):x=0:=by rcases Re.F3 h with e | e <;> exact e
def jG (h:BE (r::u)) (ha:In u a):Sq (r::u) a↔Sq u a\/∃i,In u i/\AU u r*i=1/\Sq u (a*i):=by
 have J:=De h
 constructor
 ·rintro⟨w,hw,e⟩
  obtain⟨c,d,g,m,rfl⟩:=DK.1 hw;have e2:(c*c+d*d*AU u r)+(2*c*d)*rt u r=a+0*rt u r:=by grind
  have H:In u (2*c*d):=by
   have:=EP (BL h.1 g m) (BL h.1 g m);rwa [show c*d+c*d=2*c*d by grind] at this
  obtain⟨I,G⟩:=indep h (EP (BL h.1 g g) (BL h.1 (BL h.1 m m) (Ci h))) H ha (C0 u) e2
  by_cases v:d=0
  ·left;exact⟨c,g,by grind⟩
  right
  have j:c=0:=by
   apply Classical.byContradiction;intro j;exact WQ (WQ TR j) v G
  obtain⟨i,F,f⟩:=FV h.1 (Ci h) (by have:=h.2.2.1;grind);exact⟨i,F,f,d,m,by grind⟩
 rintro (⟨w,hw,e⟩ |⟨i,F,f,w,hw,e⟩)
 ·exact⟨w,Gb hw,e⟩
 refine⟨0+w*rt u r,DK.2 ⟨0,w,C0 u,hw,rfl⟩,?_⟩;have:a=a*(AU u r*i):=by rw[f];grind
 grind
def jJ (h:BE (r::u)) (ha:In u a) (hb:In u b) (hw:Sq (r::u) (a+b*rt u r)):∃c d,In u c/\In u d/\c*c+d*d*AU u r=a/\2*c*d=b:=by
 have F:=De h;obtain⟨w,hw,e⟩:=hw;obtain⟨c,d,f,g,rfl⟩:=DK.1 hw;have e2:(c*c+d*d*AU u r)+(2*c*d)*rt u r=a+b*rt u r:=by grind
 have v:In u (2*c*d):=by
  have:=EP (BL h.1 f g) (BL h.1 f g);rwa [show c*d+c*d=2*c*d by grind] at this
 obtain⟨j,m⟩:=indep h (EP (BL h.1 f f) (BL h.1 (BL h.1 g g) (Ci h))) v ha hb e2;exact⟨c,d,f,g,j,m⟩
def jK (h:BE (r::u)) (ha:In u a) (hb:In u b) (hw:Sq (r::u) (a+b*rt u r)):Sq u (a*a-b*b*AU u r):=by
 obtain⟨c,d,f,g,j,m⟩:=jJ h ha hb hw;exact⟨c*c-d*d*AU u r,Ga (BL h.1 f f) (BL h.1 (BL h.1 g g) (Ci h)),by grind⟩
def jL (h:BE (r::u)) (ha:In u a) (hb:In u b) (hw:Sq (r::u) (a+b*rt u r)) (g:n*n=a*a-b*b*AU u r) (ht:2*t=1):
  Sq u (t*(a+n))\/Sq u (t*(a-n)):=by
 obtain⟨c,d,F,G,m,v⟩:=jJ h ha hb hw;have hm:(n-(c*c-d*d*AU u r))*(n+(c*c-d*d*AU u r))=0:=by grind
 rcases Re.F3 hm with e | e
 ·left
  have f:a+n=2*(c*c):=by clear g hm;grind
  have j:t*(2*(c*c))=2*t*(c*c):=by clear g hm m v f e;grind
  exact⟨c,F,by rw[f,j,ht];grind⟩
 right
 have f:a-n=2*(c*c):=by clear g hm;grind
 have j:t*(2*(c*c))=2*t*(c*c):=by clear g hm m v f e;grind
 exact⟨c,F,by rw[f,j,ht];grind⟩
def jE {c i ρ s:Re} (K:n*n=a*a-b*b*ρ) (ht:2*t=1) (L:s*s=ρ) (hw:w*w=t*(a+n)) (g:(w+w)*i=1) (m:c=w+b*i*s):c*c=a+b*s:=by
 have f:w≠0:=by intro e;subst e;grind
 have v:2*(w*w)=a+n:=by rw[hw];grind
 have F:(a+n)*(a-n)=b*b*ρ:=by grind
 have h3:2*(w*w)*(b*i*(b*i)*ρ)*2=b*b*ρ:=by
  have:2*(w*w)*(b*i*(b*i)*ρ)*2=b*b*ρ*(((w+w)*i)*((w+w)*i)):=by grind
  rw[this,g];grind
 have h:(a+n)*(2*(b*i*(b*i)*ρ)-(a-n))=0:=by grind
 have G:2*(b*i*(b*i)*ρ)-(a-n)=0:=by
  rcases Re.F3 h with e | e
  ·exfalso
   have:2*(w*w)=0:=by grind
   rcases Re.F3 this with e | e
   ·exact TR e
   exact f (jN e)
  exact e
 have H:2*w*(b*i)=b:=by
  have:2*w*(b*i)=b*((w+w)*i):=by grind
  rw[this,g];grind
 have I:c*c=w*w+b*i*(b*i)*ρ+2*w*(b*i)*s:=by rw[m];grind
 have j:2*(w*w+b*i*(b*i)*ρ-a)=0:=by grind
 have J:w*w+b*i*(b*i)*ρ-a=0:=by
  rcases Re.F3 j with e | e
  ·exact absurd e TR
  exact e
 grind
def jF (h:BE (r::u)) (c:b≠0) (j:n*n=a*a-b*b*AU u r) (ht:2*t=1) (hw:w*w=t*(a+n)):w≠0:=by
 intro e;subst e;have g:a+n=0:=by grind
 have f:b*b*AU u r=0:=by grind
 have h3:=h.2.2.1;rcases Re.F3 f with e | e
 ·exact c (jN e)
 grind
def jI {q:Rat}:Sq [] (Re.ofRat q)↔∃r:Rat,0<=r/\r*r=q:=by
 constructor
 ·rintro⟨w,hw,e⟩
  obtain⟨r,rfl⟩:=DZ.1 hw;rw[<-Re.ofRat_mul,Re.MS] at e;rcases Rat.le_total (a:=0) (b:=r) with h | h
  ·exact⟨r,h,e⟩
  exact⟨-r,by grind,by grind⟩
 rintro⟨r,_,e⟩
 exact⟨Re.ofRat r,DZ.2 ⟨r,rfl⟩,by rw[<-Re.ofRat_mul,e]⟩
end
section
def DN (D:Nat) (a:List Rat):Prop:=∀q∈a,∃n:Int,q*D=n
def MX (B:Nat) (a:List Rat):Prop:=∀q∈a,-(B:Rat)<=q/\q<=B
def Bd (k:Nat) (a:List Rat):Prop:=∃D:Nat,0<D/\D<=2^k/\DN D a/\MX (2^k) a
def TB (R:Nat) (u:AG):Prop:=∀r∈u,Bd R r
def EE:Nat->Nat->Nat
 | 0,_=>0
 | h+1,R=>2*EE h R+R+2
def II:Nat->Nat->Nat->Nat
 | 0,_,s=>2*s
 | h+1,R,s=>s+EE h R+II h R (2*s+2*EE h R+R+1)
def GG:Nat->Nat->Nat
 | 0,_=>0
 | h+1,R=>3*EE h R+R+1+2*GG h R+II h R R
def rK {p q:Rat} (h:∃n:Int,p=n) (k:∃n:Int,q=n):∃n:Int,p+q=n:=by
 obtain⟨a,rfl⟩:=h;obtain⟨b,rfl⟩:=k;exact⟨a+b,by rw[Rat.intCast_add]⟩
def cu {p q:Rat} (h:∃n:Int,p=n) (k:∃n:Int,q=n):∃n:Int,p*q=n:=by
 obtain⟨a,rfl⟩:=h;obtain⟨b,rfl⟩:=k;exact⟨a*b,by rw[Rat.intCast_mul]⟩
def rL (k:Nat):∃n:Int,(k:Rat)=n:=⟨k,rfl⟩
def Iz (a b:Nat):((a*b:Nat):Rat)=(a:Rat)*b:=Rat.natCast_mul a b
def DN.mul_right {D:Nat} {a:List Rat} (h:DN D a) (c:Nat):DN (D*c) a:=fun q f=>by
 have:=cu (h q f) (rL c);rwa [Rat.mul_assoc,<-Iz] at this
def DN.dvd {D E:Nat} {a:List Rat} (h:DN D a) (f:D∣E):DN E a:=by
 obtain⟨c,rfl⟩:=f;exact h.mul_right c
def kS {a b:List Rat} {q:Rat} (h:q∈List.zipWith (· + ·) a b):∃x∈a,∃y∈b,q=x+y:=by
 obtain⟨i,c⟩:=List.mem_iff_getElem?.1 h;rw[List.getElem?_zipWith] at c;cases ha:a[i]? with
 | none=>rw[ha] at c;simp at c
 | some x=>
  cases hb:b[i]? with
  | none=>rw[ha,hb] at c;simp at c
  | some y=>
   rw[ha,hb] at c;exact⟨x,List.mem_of_getElem? ha,y,List.mem_of_getElem? hb,(Option.some.inj c).symm⟩
def DN.add {D:Nat} {a b:List Rat} (h:DN D a) (k:DN D b):DN D (List.zipWith (· + ·) a b):=fun q c=>by
 obtain⟨x,f,y,g,rfl⟩:=kS c;have:=rK (h x f) (k y g);rwa [<-Rat.add_mul] at this
def DN.neg {D:Nat} {a:List Rat} (h:DN D a):DN D (a.map (- ·)):=fun q f=>by
 obtain⟨x,g,rfl⟩:=List.mem_map.1 f;obtain⟨n,c⟩:=h x g;exact⟨-n,by rw[Rat.intCast_neg,<-c,Rat.neg_mul]⟩
def MX.add {B C:Nat} {a b:List Rat} (h:MX B a) (k:MX C b):MX (B+C) (List.zipWith (· + ·) a b):=fun q c=>by
 obtain⟨x,f,y,g,rfl⟩:=kS c;have:=h x f;have:=k y g;rw[Rat.natCast_add]
 grind
def MX.neg {B:Nat} {a:List Rat} (h:MX B a):MX B (a.map (- ·)):=fun q c=>by
 obtain⟨x,f,rfl⟩:=List.mem_map.1 c;have:=h x f
 grind
def MX.mono {B C:Nat} {a:List Rat} (h:MX B a) (c:B<=C):MX C a:=fun q g=>by
 have:=h q g;have f:(B:Rat)<=C:=Rat.natCast_le_natCast.2 c
 grind
def DN.app {D:Nat} {a b:List Rat}:DN D (a++b)↔DN D a/\DN D b:=
 ⟨fun h=>⟨fun q c=>h q (List.mem_append_left _ c),fun q c=>h q (List.mem_append_right _ c)⟩,fun h q c=>(List.mem_append.1 c).elim (h.1 q) (h.2 q)⟩
def MX.app {B:Nat} {a b:List Rat}:MX B (a++b)↔MX B a/\MX B b:=
 ⟨fun h=>⟨fun q c=>h q (List.mem_append_left _ c),fun q c=>h q (List.mem_append_right _ c)⟩,fun h q c=>(List.mem_append.1 c).elim (h.1 q) (h.2 q)⟩
section
variable {u:AG} {x y:Re}
def aR (h:BE u) (f:In u x) (c:In u y):co u (x-y)=List.zipWith (· + ·) (co u x) ((co u y).map (- ·)):=by
 rw[show x-y=x+ -y by grind,Ot h f (Hi c),M6 h c]
def DN.G4 {D:Nat} (h:BE u) (c:In u x) (f:In u y) (a:DN D (co u x)) (b:DN D (co u y)):DN D (co u (x+y)):=by rw[Ot h c f];exact a.add b
def DN.Ke {D:Nat} (h:BE u) (c:In u x) (f:In u y) (a:DN D (co u x)) (b:DN D (co u y)):DN D (co u (x-y)):=by rw[aR h c f];exact a.add b.neg
def MX.G4 {B C:Nat} (h:BE u) (c:In u x) (f:In u y) (a:MX B (co u x)) (b:MX C (co u y)):MX (B+C) (co u (x+y)):=by rw[Ot h c f];exact a.add b
def MX.Ke {B C:Nat} (h:BE u) (c:In u x) (f:In u y) (a:MX B (co u x)) (b:MX C (co u y)):MX (B+C) (co u (x-y)):=by rw[aR h c f];exact a.add b.neg
end
def Ro:∀(u:AG) (c:Rat) (a:List Rat),a.length=2^u.length->AU u (a.map (c* ·))=Re.ofRat c*AU u a
 | [],c,a,ha=>by
  match a,ha with
  | [p],_=>exact Re.ofRat_mul c p
 | r::u,c,a,ha=>by
  rw[Cc] at ha;rw[AU,AU,<-List.map_take,<-List.map_drop,Ro u _ _ (by rw[List.length_take];omega),Ro u _ _ (by rw[List.length_drop];omega)]
  grind
def VG {u:AG} {x:Re} (h:BE u) (f:In u x) (c:Rat):co u (Re.ofRat c*x)=(co u x).map (c* ·):=
 MA h (by rw[List.length_map,Dp f]) (by rw[Ro u c _ (Dp f),FR f])
def PK {u:AG} {x:Re} (f:In u x) (c:Rat):In u (Re.ofRat c*x):=
 ⟨(co u x).map (c* ·),by rw[List.length_map,Dp f],by rw[Ro u c _ (Dp f),FR f]⟩
def NG {u:AG} {x:Re} (h:BE u) (m:In u x) {D c:Nat}:DN (D*c) (co u x)↔DN D (co u (Re.ofRat c*x)):=by
 rw[VG h m]
 constructor
 ·intro k q g;obtain⟨p,j,rfl⟩:=List.mem_map.1 g;obtain⟨n,f⟩:=k p j;exact⟨n,by rw[<-f,Iz];grind⟩
 intro k q g;obtain⟨n,f⟩:=k _ (List.mem_map.2 ⟨q,g,rfl⟩);exact⟨n,by rw[<-f,Iz];grind⟩
def D7 (k:Nat):0<2^k:=Nat.two_pow_pos k
def DF {a b:Nat} (h:a<=b:=by omega):2^a<=2^b:=Nat.pow_le_pow_right AD h
def TB.tail {R:Nat} {r:List Rat} {u:AG} (h:TB R (r::u)):TB R u:=fun x c=>h x (List.mem_cons_of_mem _ c)
def TB.head {R:Nat} {r:List Rat} {u:AG} (h:TB R (r::u)):Bd R r:=h r List.mem_cons_self
def F1 {r:List Rat} {u:AG} (h:BE (r::u)):co u (AU u r)=r:=oy h.1 h.2.1
def RB {r:List Rat} {u:AG} {a b c d x y:Re} (h:BE (r::u)) (ha:In u a) (hb:In u b) (f:In u c) (g:In u d) (j:x=a+b*rt u r) (m:y=c+d*rt u r):
  co (r::u) (x*y)=co u (a*c+b*d*AU u r)++co u (a*d+b*c):=by
 have v:=De h;exact Dy h (EP (BL h.1 ha f) (BL h.1 (BL h.1 hb g) (Ci h))) (EP (BL h.1 ha g) (BL h.1 hb f)) (by subst j;subst m;grind)
def MD:∀{u:AG} {R:Nat},BE u->TB R u->∃K:Nat,0<K/\K<=2^EE u.length R/\∀{x y:Re} {D m:Nat},In u x->In u y->DN D (co u x)->DN m (co u y)->DN (D*m*K) (co u (x*y))
 | [],R,_,_=>⟨1,AD,by simp[EE],fun {x y D m} I J h k=>by
  obtain⟨p,rfl⟩:=DZ.1 I;obtain⟨q,rfl⟩:=DZ.1 J;rw[D5] at h k;rw[<-Re.ofRat_mul,D5];intro z W;rw[List.mem_singleton.1 W];have:=cu (h p List.mem_cons_self) (k q List.mem_cons_self);rw[Iz,Iz];rwa [show p*(D:Rat)*(q*(m:Rat))=p*q*(D*m*(1:Nat)) by have:((1:Nat):Rat)=1:=rfl;grind] at this⟩
 | r::u,R,h,O=>by
  obtain⟨K,M,F,hm⟩:=MD h.1 O.tail;obtain⟨E,Q,H,G,_⟩:=O.head;refine⟨K*K*E,Nat.mul_pos (Nat.mul_pos M M) Q,?_,fun {x y D m} I J f g=>?_⟩
  ·have L:K*K*E<=2^EE u.length R*2^EE u.length R*2^R:=Nat.mul_le_mul (Nat.mul_le_mul F F) H;rw[<-Nat.pow_add,<-Nat.pow_add] at L;exact Nat.le_trans L (DF (by rw[List.length_cons,EE];omega))
  obtain⟨a,b,ha,hb,rfl⟩:=DK.1 I;obtain⟨c,d,v,j,rfl⟩:=DK.1 J;rw[Dy h ha hb rfl,DN.app] at f;rw[Dy h v j rfl,DN.app] at g;rw[RB h ha hb v j rfl rfl,DN.app];have U:DN E (co u (AU u r)):=by rw[F1 h];exact G
  refine⟨DN.G4 h.1 (BL h.1 ha v) (BL h.1 (BL h.1 hb j) (Ci h)) ((hm ha v f.1 g.1).dvd ⟨K*E,by grind⟩) ((hm (BL h.1 hb j) (Ci h) (hm hb j f.2 g.2) U).dvd ⟨1,by grind⟩),
   DN.G4 h.1 (BL h.1 ha j) (BL h.1 hb v) ((hm ha j f.1 g.2).dvd ⟨K*E,by grind⟩) ((hm hb v f.2 g.1).dvd ⟨K*E,by grind⟩)⟩
def WT {p q:Rat} {B C:Nat} (h: -(B:Rat)<=p/\p<=B) (k: -(C:Rat)<=q/\q<=C): -((B*C:Nat):Rat)<=p*q/\p*q<=((B*C:Nat):Rat):=by
 rw[Iz];exact⟨sx h.2 h.1 k.2 k.1,Nh h.2 h.1 k.2 k.1⟩
def Jl:∀{u:AG} {R:Nat},BE u->TB R u->∀{x y:Re} {B C:Nat},In u x->In u y->MX B (co u x)->MX C (co u y)->MX (B*C*2^EE u.length R) (co u (x*y))
 | [],R,_,_,x,y,B,C,G,H,h,k=>by
  obtain⟨p,rfl⟩:=DZ.1 G;obtain⟨q,rfl⟩:=DZ.1 H;rw[D5] at h k;rw[<-Re.ofRat_mul,D5];intro z Q;rw[List.mem_singleton.1 Q];have:=WT (h p List.mem_cons_self) (k q List.mem_cons_self);rwa [show B*C*2^EE ([]:AG).length R=B*C by simp[EE]]
 | r::u,R,h,I,x,y,B,C,G,H,f,g=>by
  obtain⟨E,U,M,_,F⟩:=I.head;have v:=fun {x y:Re} {B C:Nat}=>Jl (R:=R) (x:=x) (y:=y) (B:=B) (C:=C) h.1 I.tail
  obtain⟨a,b,ha,hb,rfl⟩:=DK.1 G;obtain⟨c,d,m,j,rfl⟩:=DK.1 H;rw[Dy h ha hb rfl,MX.app] at f;rw[Dy h m j rfl,MX.app] at g;rw[RB h ha hb m j rfl rfl,MX.app];have O:MX (2^R) (co u (AU u r)):=by rw[F1 h];exact F
  have e:EE (r::u).length R=EE u.length R+EE u.length R+R+2:=by rw[List.length_cons,EE];omega
  rw[e,Nat.pow_add,Nat.pow_add,Nat.pow_add];have J:=D7 (EE u.length R);have L:=D7 R
  generalize 2^EE u.length R=K at*
  generalize 2^R=S at*
  have k1:B*C*K<=B*C*(K*K*S):=Nat.mul_le_mul_left _ (by
   have:K*1<=K*(K*S):=Nat.mul_le_mul_left _ (Nat.mul_pos J L);rw[Nat.mul_assoc];omega)
  have k2:B*C*K*S*K=B*C*(K*K*S):=by grind
  refine⟨(MX.G4 h.1 (BL h.1 ha m) (BL h.1 (BL h.1 hb j) (Ci h)) (v ha m f.1 g.1) (v (BL h.1 hb j) (Ci h) (v hb j f.2 g.2) O)).mono ?_,
   (MX.G4 h.1 (BL h.1 ha j) (BL h.1 hb m) (v ha j f.1 g.2) (v hb m f.2 g.1)).mono ?_⟩
  ·rw[k2];grind
  grind
end
section
variable {R s t:Nat} {p q x y:Re} {r:List Rat} {u:AG}
def Bd.mono {k l:Nat} {a:List Rat} (h:Bd k a) (c:k<=l):Bd l a:=by
 obtain⟨D,f,g,j,h3⟩:=h;exact⟨D,f,Nat.le_trans g (DF c),j,h3.mono (DF c)⟩
def Um (h:BE u) (c:In u x) (f:In u y) (a:Bd s (co u x)) (b:Bd t (co u y)):Bd (s+t+1) (co u (x+y)):=by
 obtain⟨D,g,j,m,h3⟩:=a;obtain⟨E,k0,k1,k2,v⟩:=b;refine⟨D*E,Nat.mul_pos g k0,?_,DN.G4 h c f (m.dvd ⟨E,rfl⟩) (k2.dvd ⟨D,Nat.mul_comm _ _⟩),(MX.G4 h c f h3 v).mono ?_⟩
 ·have:=Nat.mul_le_mul j k1;rw[<-Nat.pow_add] at this;exact Nat.le_trans this (DF)
 have F:2^s<=2^(s+t):=DF;have G:2^t<=2^(s+t):=DF;rw[Nat.pow_succ];omega
def Zr (h:BE u) (j:In u x) (a:Bd s (co u x)):Bd s (co u (-x)):=by
 obtain⟨D,c,f,g,h3⟩:=a;rw[M6 h j];exact⟨D,c,f,g.neg,h3.neg⟩
def oJ (h:BE u) (f:In u x) (c:In u y) (a:Bd s (co u x)) (b:Bd t (co u y)):Bd (s+t+1) (co u (x-y)):=by
 rw[show x-y=x+ -y by grind];exact Um h f (Hi c) a (Zr h c b)
def Zq (h:BE u) (f:TB R u) (g:In u x) (j:In u y) (a:Bd s (co u x)) (b:Bd t (co u y)):Bd (s+t+EE u.length R) (co u (x*y)):=by
 obtain⟨D,m,v,F,h3⟩:=a;obtain⟨E,k0,k1,k2,H⟩:=b;obtain⟨K,G,c,hm⟩:=MD h f;refine⟨D*E*K,Nat.mul_pos (Nat.mul_pos m k0) G,?_,hm g j F k2,(Jl h f g j h3 H).mono ?_⟩
 ·have:=Nat.mul_le_mul (Nat.mul_le_mul v k1) c;rwa [<-Nat.pow_add,<-Nat.pow_add] at this
 rw[<-Nat.pow_add,<-Nat.pow_add];exact Nat.le_refl _
def oH {q:Rat} (h:BE u) (a:Bd s [q]):Bd s (co u (Re.ofRat q)):=by
 obtain⟨D,f,g,j,h3⟩:=a;rw[JY q h];refine⟨D,f,g,fun z c=>?_,fun z c=>?_⟩
 ·rcases List.mem_cons.1 c with rfl | c
  ·exact j z List.mem_cons_self
  rw[(List.mem_replicate.1 c).2];exact⟨0,by rw[Rat.zero_mul];rfl⟩
 rcases List.mem_cons.1 c with rfl | c
 ·exact h3 z List.mem_cons_self
 rw[(List.mem_replicate.1 c).2];have:(0:Rat)<=((2^s:Nat):Rat):=Rat.natCast_nonneg
 grind
def Zp (h:BE (r::u)) (j:In u p) (m:In u q) (a:Bd s (co (r::u) (p+q*rt u r))):Bd s (co u p)/\Bd s (co u q):=by
 obtain⟨D,f,g,c,h3⟩:=a;rw[Dy h j m rfl] at c h3;exact⟨⟨D,f,g,(DN.app.1 c).1,(MX.app.1 h3).1⟩,⟨D,f,g,(DN.app.1 c).2,(MX.app.1 h3).2⟩⟩
def Qo (h:BE (r::u)) (j:In u p) (m:In u q) (a:Bd s (co u p)) (b:Bd t (co u q)):Bd (s+t) (co (r::u) (p+q*rt u r)):=by
 obtain⟨D,c,f,g,h3⟩:=a;obtain⟨E,k0,k1,k2,v⟩:=b;rw[Dy h j m rfl];refine⟨D*E,Nat.mul_pos c k0,?_,DN.app.2 ⟨g.dvd ⟨E,rfl⟩,k2.dvd ⟨D,Nat.mul_comm _ _⟩⟩,MX.app.2 ⟨h3.mono (DF),v.mono (DF)⟩⟩;have:=Nat.mul_le_mul f k1;rwa [<-Nat.pow_add] at this
def Uo (h:BE (r::u)) (c:TB R (r::u)):Bd R (co u (AU u r)):=by rw[F1 h];exact c.head
def Zs (h:BE (r::u)) (j:TB R (r::u)) (f:In u p) (c:In u q) (a:Bd s (co (r::u) (p+q*rt u r))):
  Bd (2*s+2*EE u.length R+R+1) (co u (p*p-q*q*AU u r)):=by
 obtain⟨D,G,H,I,h3⟩:=a;rw[Dy h f c rfl] at I h3;obtain⟨v,F⟩:=DN.app.1 I;obtain⟨mp,L⟩:=MX.app.1 h3;obtain⟨K,J,g,hm⟩:=MD h.1 j.tail;obtain⟨E,k0,k1,k2,O⟩:=j.head;have M:DN E (co u (AU u r)):=by rw[F1 h];exact k2
 have m:MX (2^R) (co u (AU u r)):=by rw[F1 h];exact O
 refine⟨D*D*K*E*K,Nat.mul_pos (Nat.mul_pos (Nat.mul_pos (Nat.mul_pos G G) J) k0) J,?_,DN.Ke h.1 (BL h.1 f f) (BL h.1 (BL h.1 c c) (Ci h)) ((hm f f v v).dvd ⟨E*K,by grind⟩) (hm (BL h.1 c c) (Ci h) (hm c c F F) M),
  (MX.Ke h.1 (BL h.1 f f) (BL h.1 (BL h.1 c c) (Ci h)) (Jl h.1 j.tail f f mp mp) (Jl h.1 j.tail (BL h.1 c c) (Ci h) (Jl h.1 j.tail c c L L) m)).mono ?_⟩
 ·have:=Nat.mul_le_mul (Nat.mul_le_mul (Nat.mul_le_mul (Nat.mul_le_mul H H) g) k1) g;rw[<-Nat.pow_add,<-Nat.pow_add,<-Nat.pow_add,<-Nat.pow_add] at this;exact Nat.le_trans this (DF)
 rw[<-Nat.pow_add,<-Nat.pow_add,<-Nat.pow_add,<-Nat.pow_add,Nat.pow_succ];have e1:2^(s+s+EE u.length R)<=2^(2*s+2*EE u.length R+R):=DF;have e2:2^(s+s+EE u.length R+R+EE u.length R)<=2^(2*s+2*EE u.length R+R):=DF;omega
def eD {a b:Nat} (h:a<=b):(a:Rat)<=b:=Rat.natCast_le_natCast.2 h
def oG {q p:Rat} (h:Bd s [q]) (L:q*p=1):Bd (2*s) [p]:=by
 obtain⟨D,F,G,H,h3⟩:=h;obtain⟨n,g⟩:=H q List.mem_cons_self;have hb:=h3 q List.mem_cons_self;have U:(0:Rat)<D:=Rat.natCast_pos.2 F
 have J:n≠0:=by
  intro e;subst e;have:(D:Rat)=q*D*p:=by grind
  rw[g] at this;have F:((0:Int):Rat)=0:=rfl
  grind
 have f:p*(n:Rat)=D:=by rw[<-g];grind
 have c:(n.natAbs:Rat)=n\/(n.natAbs:Rat)= -n:=by
  rcases Int.natAbs_eq n with e | e
  ·left
   have:((n.natAbs:Int):Rat)=(n:Rat):=congrArg _ e.symm;exact this
  right
  have:((n.natAbs:Int):Rat)=((-n:Int):Rat):=congrArg _ AA;rw[Rat.intCast_neg] at this;exact this
 have K:(1:Rat)<=n.natAbs:=by
  have:1<=n.natAbs:=AA
  exact eD this
 have j:n.natAbs<=D*2^s:=by
  have e1:=WT (C:=D) hb (q:=(D:Rat)) ⟨by grind,by grind⟩;rw[g,Nat.mul_comm] at e1;apply Rat.natCast_le_natCast.1;rcases c with e | e <;> rw[e] <;> grind
 refine⟨n.natAbs,AA,?_,fun z v=>?_,fun z v=>?_⟩
 ·have:=Nat.mul_le_mul_right (2^s) G;rw[<-Nat.pow_add] at this;exact Nat.le_trans j (Nat.le_trans this (DF))
 ·rw[List.mem_singleton.1 v];rcases c with e | e <;> rw[e]
  ·exact⟨D,f⟩
  exact⟨-D,by rw[Rat.intCast_neg,Rat.mul_neg,f];rfl⟩
 rw[List.mem_singleton.1 v];have M:(D:Rat)<=((2^(2*s):Nat):Rat):=eD (Nat.le_trans G (DF));have O:p=D\/True:= .inr trivial;have Q:p*(n.natAbs:Rat)=D\/p*(n.natAbs:Rat)= -D:=by rcases c with e | e <;> rw[e] <;> grind
 generalize (n.natAbs:Rat)=m at*
 generalize ((2^(2*s):Nat):Rat)=S at*
 have W:p<=D:=by
  apply Classical.byContradiction;intro I;have:=Rat.mul_pos (a:=p-D) (b:=m) (by grind) (by grind);have:=Rat.mul_nonneg (a:=(D:Rat)) (b:=m-1) (by grind) (by grind)
  grind
 have Y: -D<=p:=by
  apply Classical.byContradiction;intro I;have:=Rat.mul_pos (a:= -D-p) (b:=m) (by grind) (by grind);have:=Rat.mul_nonneg (a:=(D:Rat)) (b:=m-1) (by grind) (by grind)
  grind
 grind
def KC:∀{u:AG} {R:Nat} {x y:Re} {s:Nat},BE u->TB R u->In u x->In u y->x*y=1->Bd s (co u x)->Bd (II u.length R s) (co u y)
 | [],R,x,y,s,_,_,J,L,e,h=>by
  obtain⟨p,rfl⟩:=DZ.1 J;obtain⟨q,rfl⟩:=DZ.1 L;rw[D5] at h ⊢;rw[<-Re.ofRat_mul] at e;exact oG h (Re.MS.1 e)
 | r::u,R,x,y,s,h,m,J,L,e,hb=>by
  obtain⟨a,b,ha,c,rfl⟩:=DK.1 J;have hr:=De h;have W:=Zs h m ha c hb;have f:=Ga (BL h.1 ha ha) (BL h.1 (BL h.1 c c) (Ci h))
  have H:a*a-b*b*AU u r≠0:=by
   intro Y;have e1:(a+b*rt u r)*(a-b*rt u r)=0:=by grind
   rcases Re.F3 e1 with e2 | e2
   ·rw[e2] at e;have v:(0:Re)<1:=Re.KR.2 (AD:(0:Rat)<1)
    grind
   obtain⟨Z,e4⟩:=indep h ha (Hi c) (C0 u) (C0 u) (show a+ -b*rt u r=0+0*rt u r by grind);have:a+b*rt u r=0:=by grind
   rw[this] at e;have v:(0:Re)<1:=Re.KR.2 (AD:(0:Rat)<1)
   grind
  obtain⟨i,g,j⟩:=FV h.1 f H;have I:=KC h.1 m.tail f g j W
  have O:y=a*i+ -(b*i)*rt u r:=by
   have:y=(a+b*rt u r)*y*((a-b*rt u r)*i):=by
    have:(a+b*rt u r)*y*((a-b*rt u r)*i)=y*((a*a-b*b*AU u r)*i):=by grind
    rw[this,j];grind
   rw[e] at this
   grind
  obtain⟨D,Q,v,F,h3⟩:=hb;rw[Dy h ha c rfl] at F h3;obtain⟨E,k0,k1,k2,M⟩:=I;obtain⟨K,U,G,hm⟩:=MD h.1 m.tail;rw[O,Dy h (BL h.1 ha g) (Hi (BL h.1 c g)) rfl,M6 h.1 (BL h.1 c g),List.length_cons,II];have m1:=Jl h.1 m.tail ha g (MX.app.1 h3).1 M;have m2:=Jl h.1 m.tail c g (MX.app.1 h3).2 M;rw[<-Nat.pow_add,<-Nat.pow_add] at m1 m2;refine⟨D*E*K,Nat.mul_pos (Nat.mul_pos Q k0) U,?_,DN.app.2 ⟨hm ha g (DN.app.1 F).1 k2,(hm c g (DN.app.1 F).2 k2).neg⟩,MX.app.2 ⟨m1.mono (DF),(m2.mono (DF)).neg⟩⟩;have:=Nat.mul_le_mul (Nat.mul_le_mul v k1) G;rw[<-Nat.pow_add,<-Nat.pow_add] at this;exact Nat.le_trans this (DF)
end
section
variable {B:Nat} {u:AG} {x:Re}
def rM {r:Rat} {n:Int} (h:r*r=n):∃m:Int,r=m:=by
 have f:(r*r).den=1:=by rw[h];rfl
 have c:(r*r).den=r.den*r.den:=by
  have g:Nat.gcd (r.num*r.num).natAbs (r.den*r.den)=1:=by
   rw[Int.natAbs_mul];exact Nat.Coprime.mul_left (Nat.Coprime.mul_right r.reduced r.reduced) (Nat.Coprime.mul_right r.reduced r.reduced)
  rw[Rat.mul_def,Rat.normalize_eq];simp only[g,Nat.div_one]
 rw[f] at c;have h3:r.den=1:=Nat.eq_one_of_mul_eq_one_left c.symm;refine⟨r.num,?_⟩;have:=Nw r;rw[h3] at this;have e:((1:Nat):Rat)=1:=rfl
 grind
def eY {Y:Nat} {c e:Re} (h:e=2*(c*c)):Re.ofRat ((2*Y:Nat):Rat)*c*(Re.ofRat ((2*Y:Nat):Rat)*c)=Re.ofRat ((2*Y*Y:Nat):Rat)*e:=by
 subst h;have e2:Re.ofRat ((2:Nat):Rat)=2:=rfl;simp only[Iz,Re.ofRat_mul,e2]
 grind
def az:∀{u:AG} {R:Nat},BE u->TB R u->∃G:Nat,0<G/\G<=2^GG u.length R/\∀{x w:Re} {D:Nat},In u w->w*w=x->DN D (co u x)->DN (D*G) (co u w)
 | [],R,_,_=>⟨1,AD,by simp[GG],fun {x w D} hw e h=>by
  obtain⟨p,rfl⟩:=DZ.1 hw;subst e;rw[<-Re.ofRat_mul,D5] at h;rw[D5];intro z hz;rw[List.mem_singleton.1 hz];obtain⟨n,F⟩:=h _ List.mem_cons_self
  obtain⟨m,hm⟩:=rM (r:=p*D) (n:=n*D) (by
   rw[Rat.intCast_mul,<-F];have:((D:Int):Rat)=(D:Rat):=rfl
   grind)
  exact⟨m,by rw[Nat.mul_one];exact hm⟩⟩
 | r::u,R,h,Q=>by
  obtain⟨G,hG,M,U⟩:=az h.1 Q.tail;obtain⟨K,hK,H,hm⟩:=MD h.1 Q.tail;obtain⟨E,hE,Z,Y,_⟩:=Q.head;have hr:=De h;have a7:DN E (co u (AU u r)):=by rw[F1 h];exact Y
  obtain⟨i,hi,W⟩:=FV h.1 (Ci h) (by have:=h.2.2.1;grind);obtain⟨I,hI,a2,a1,_⟩:=KC h.1 Q.tail (Ci h) hi W (Uo h Q);refine⟨2*(K*K*E)*G*G*I*K,Nat.mul_pos (Nat.mul_pos (Nat.mul_pos (Nat.mul_pos (Nat.mul_pos AD (Nat.mul_pos (Nat.mul_pos hK hK) hE)) hG) hG) hI) hK,?_,fun {x w D} hw e J=>?_⟩
  ·have h1:=Nat.mul_le_mul (Nat.mul_le_mul (Nat.mul_le_mul (Nat.mul_le_mul (Nat.mul_le_mul (Nat.le_refl (2^1)) (Nat.mul_le_mul (Nat.mul_le_mul H H) Z)) M) M) a2) H;simp only[<-Nat.pow_add] at h1;exact Nat.le_trans h1 (DF (by rw[List.length_cons,GG];omega))
  obtain⟨c,d,j,v,rfl⟩:=DK.1 hw
  have f:In u (2*c*d):=by
   have:=EP (BL h.1 j v) (BL h.1 j v);rwa [show c*d+c*d=2*c*d by grind] at this
  have g:=Ci h;have ha:=EP (BL h.1 j j) (BL h.1 (BL h.1 v v) g);have ex:x=(c*c+d*d*AU u r)+(2*c*d)*rt u r:=by rw[<-e];grind
  rw[ex,Dy h ha f rfl,DN.app] at J
  generalize hA:c*c+d*d*AU u r=a at*
  generalize hB:2*c*d=b at*
  have F:=Ga (BL h.1 j j) (BL h.1 (BL h.1 v v) g)
  generalize hN:c*c-d*d*AU u r=n at*
  have O:=Ga (BL h.1 ha ha) (BL h.1 (BL h.1 f f) g);have a5:n*n=a*a-b*b*AU u r:=by grind
  have d1:DN (D*D*(K*K*E)) (co u (a*a-b*b*AU u r)):=
   DN.Ke h.1 (BL h.1 ha ha) (BL h.1 (BL h.1 f f) g) ((hm ha ha J.1 J.1).dvd ⟨K*E,by grind⟩) ((hm (BL h.1 f f) g (hm f f J.2 J.2) a7).dvd ⟨1,by grind⟩)
  generalize K*K*E=C at*
  have d2:DN (D*C*G) (co u n):=by
   have k1:DN 1 (co u (Re.ofRat ((D*C*(D*C):Nat):Rat)*(a*a-b*b*AU u r))):=(NG h.1 O).1 (d1.dvd ⟨C,by grind⟩);have k2:=U (x:=Re.ofRat ((D*C*(D*C):Nat):Rat)*(a*a-b*b*AU u r)) (w:=Re.ofRat ((D*C:Nat):Rat)*n) (D:=1) (PK F _) (by rw[Iz (D*C),Re.ofRat_mul,<-a5];grind) k1;exact ((NG h.1 F).2 k2).dvd ⟨1,by grind⟩
  have L:DN (D*C*G) (co u a):=J.1.dvd ⟨C*G,by grind⟩;have d3:DN (D*C*G) (co u (a+n)):=DN.G4 h.1 ha F L d2;have d4:DN (D*C*G) (co u (a-n)):=DN.Ke h.1 ha F L d2
  have d5:DN (2*(D*C*G)*G) (co u c):=by
   have k1:DN 1 (co u (Re.ofRat ((2*(D*C*G)*(D*C*G):Nat):Rat)*(a+n))):=(NG h.1 (EP ha F)).1 (d3.dvd ⟨2*(D*C*G),by grind⟩);have k2:=U (x:=Re.ofRat ((2*(D*C*G)*(D*C*G):Nat):Rat)*(a+n)) (w:=Re.ofRat ((2*(D*C*G):Nat):Rat)*c) (D:=1) (PK j _) (eY (by clear U hm k1;grind)) k1;exact ((NG h.1 j).2 k2).dvd ⟨1,by grind⟩
  have d6:DN (D*C*G*I*K) (co u ((a-n)*i)):=hm (Ga ha F) hi d4 a1
  have d7:DN (2*(D*C*G*I*K)*G) (co u d):=by
   have a6:=BL h.1 (Ga ha F) hi;have k1:DN 1 (co u (Re.ofRat ((2*(D*C*G*I*K)*(D*C*G*I*K):Nat):Rat)*((a-n)*i))):=(NG h.1 a6).1 (d6.dvd ⟨2*(D*C*G*I*K),by grind⟩)
   have k2:=U (x:=Re.ofRat ((2*(D*C*G*I*K)*(D*C*G*I*K):Nat):Rat)*((a-n)*i)) (w:=Re.ofRat ((2*(D*C*G*I*K):Nat):Rat)*d) (D:=1) (PK v _) (eY (by
    have e3:(a-n)*i=2*(d*d)*(AU u r*i):=by clear U hm k1;grind
    rw[e3,W];grind)) k1
   exact ((NG h.1 v).2 k2).dvd ⟨1,by grind⟩
  rw[Dy h j v rfl,DN.app];exact⟨d5.dvd ⟨I*K,by grind⟩,d7.dvd ⟨1,by grind⟩⟩
def sQ {p:Rat} (h:p*p<=((B*B:Nat):Rat)): -(B:Rat)<=p/\p<=B:=by
 rw[Iz] at h;have f:(0:Rat)<=B:=Rat.natCast_nonneg
 generalize (B:Rat)=b at*
 constructor
 ·apply Classical.byContradiction;intro c;have:=Rat.mul_pos (a:= -p-b) (b:= -p+b) (by grind) (by grind)
  grind
 apply Classical.byContradiction;intro c;have:=Rat.mul_pos (a:=p-b) (b:=p+b) (by grind) (by grind)
 grind
def MX.half {y:Re} (h:BE u) (j:In u x) (g:In u y) (e:x=2*y) (k:MX (2*B) (co u x)):MX B (co u y):=by
 have c:x=Re.ofRat 2*y:=e;rw[c,VG h g] at k;intro q f;have:=k _ (List.mem_map.2 ⟨q,f,rfl⟩);rw[Iz] at this;have e2:((2:Nat):Rat)=2:=rfl
 grind
def eC:∀{u:AG} {R:Nat},BE u->TB R u->∀{x w:Re} {B:Nat},In u w->w*w=x->MX (B*B) (co u x)->MX (B*2^GG u.length R) (co u w)
 | [],R,_,_,x,w,B,hw,e,h=>by
  obtain⟨p,rfl⟩:=DZ.1 hw;subst e;rw[<-Re.ofRat_mul,D5] at h;rw[D5];intro z hz;rw[List.mem_singleton.1 hz];have:=sQ (h _ List.mem_cons_self).2;simpa [GG] using this
 | r::u,R,h,M,x,w,B,hw,e,F=>by
  have L:=fun {x w:Re} {B:Nat}=>eC (R:=R) (x:=x) (w:=w) (B:=B) h.1 M.tail
  have H:=fun {x y:Re} {B C:Nat}=>Jl (R:=R) (x:=x) (y:=y) (B:=B) (C:=C) h.1 M.tail
  obtain⟨E,hE,a7,_,a1⟩:=M.head;have hr:=De h;have a6:MX (2^R) (co u (AU u r)):=by rw[F1 h];exact a1
  obtain⟨i,hi,Q⟩:=FV h.1 (Ci h) (by have:=h.2.2.1;grind);obtain⟨I,hI,a8,_,U⟩:=KC h.1 M.tail (Ci h) hi Q (Uo h M);obtain⟨c,d,m,j,rfl⟩:=DK.1 hw
  have g:In u (2*c*d):=by
   have:=EP (BL h.1 m j) (BL h.1 m j);rwa [show c*d+c*d=2*c*d by grind] at this
  have f:=Ci h;have ha:=EP (BL h.1 m m) (BL h.1 (BL h.1 j j) f);have ex:x=(c*c+d*d*AU u r)+(2*c*d)*rt u r:=by rw[<-e];grind
  rw[ex,Dy h ha g rfl,MX.app] at F
  generalize hA:c*c+d*d*AU u r=a at*
  generalize hB:2*c*d=b at*
  have O:=Ga (BL h.1 m m) (BL h.1 (BL h.1 j j) f)
  generalize hN:c*c-d*d*AU u r=n at*
  have a2:n*n=a*a-b*b*AU u r:=by clear L H;grind
  have m1:=MX.Ke h.1 (BL h.1 ha ha) (BL h.1 (BL h.1 g g) f) (H ha ha F.1 F.1) (H (BL h.1 g g) f (H g g F.2 F.2) a6);have p0:=D7 (EE u.length R);have p1:=D7 R;have p2:=D7 (GG u.length R);have p3:=D7 (II u.length R R)
  have eG:2^GG (r::u).length R=2^EE u.length R*2^EE u.length R*2^EE u.length R*2^R*2*(2^GG u.length R*2^GG u.length R)*2^II u.length R R:=by
   have e2:(2:Nat)=2^1:=rfl;conv=>rhs;rw[show ∀q:Nat,q*2=q*2^1 from fun q=>rfl]
   simp only[<-Nat.pow_add]
   congr 1
   rw[List.length_cons,GG];omega
  rw[eG]
  generalize 2^EE u.length R=K at*
  generalize 2^R=S at*
  generalize 2^GG u.length R=G at*
  generalize 2^II u.length R R=J at*
  have Z:1<=K*S:=Nat.mul_pos p0 p1;have v:1<=K*K*S:=Nat.mul_pos (Nat.mul_pos p0 p0) p1
  have a5:K+K*S*K<=2*(K*K*S)*(2*(K*K*S)):=by
   have t1:K*1<=K*(K*S):=Nat.mul_le_mul_left _ Z;have t2:(K*K*S)*1<=(K*K*S)*(K*K*S):=Nat.mul_le_mul_left _ v
   grind
  have m2:MX (B*B*(2*(K*K*S))*G) (co u n):=by
   refine L (x:=a*a-b*b*AU u r) O a2 (m1.mono ?_);have:=Nat.mul_le_mul_left (B*B*(B*B)) a5
   grind
  have Y:1<=K*K*S*G:=Nat.mul_pos v p2
  have m3:MX (B*B*(2*(K*K*S)*G)) (co u (c*c)):=by
   refine MX.half h.1 (EP ha O) (BL h.1 m m) (by clear L H m1 m2;grind) ((MX.G4 h.1 ha O F.1 m2).mono ?_);have:=Nat.mul_le_mul_left (B*B) (show 1<=2*(K*K*S)*G by rw[Nat.mul_assoc];omega)
   grind
  have m4:MX (B*(2*(K*K*S)*G)*G) (co u c):=by
   refine L (x:=c*c) m rfl (m3.mono ?_);have t:2*(K*K*S)*G*1<=2*(K*K*S)*G*(2*(K*K*S)*G):=Nat.mul_le_mul_left _ (by rw[Nat.mul_assoc];omega);have:=Nat.mul_le_mul_left (B*B) t
   grind
  have m5:MX (B*B*(2*(K*K*S)*G)) (co u (d*d*AU u r)):=by
   refine MX.half h.1 (Ga ha O) (BL h.1 (BL h.1 j j) f) (by clear L H m1 m2 m3;grind) ((MX.Ke h.1 ha O F.1 m2).mono ?_);have:=Nat.mul_le_mul_left (B*B) (show 1<=2*(K*K*S)*G by rw[Nat.mul_assoc];omega)
   grind
  have m6:MX (B*B*(2*(K*K*S)*G)*J*K) (co u (d*d)):=by
   have:=H (BL h.1 (BL h.1 j j) f) hi m5 U;rwa [show d*d*AU u r*i=d*d by rw[show d*d*AU u r*i=d*d*(AU u r*i) by grind,Q];grind] at this
  have m7:MX (B*(2*(K*K*S)*G*J*K)*G) (co u d):=by
   refine L (x:=d*d) j rfl (m6.mono ?_);have t0:1<=2*(K*K*S)*G*J*K:=Nat.mul_pos (Nat.mul_pos (by rw[Nat.mul_assoc];omega) p3) p0;have t:2*(K*K*S)*G*J*K*1<=2*(K*K*S)*G*J*K*(2*(K*K*S)*G*J*K):=Nat.mul_le_mul_left _ t0;have:=Nat.mul_le_mul_left (B*B) t
   grind
  rw[Dy h m j rfl,MX.app];have W:1<=J*K:=Nat.mul_pos p3 p0;refine⟨m4.mono ?_,m7.mono ?_⟩
  ·have:=Nat.mul_le_mul_left (B*(2*(K*K*S)*G)*G) W
   grind
  grind
def Uq {R s:Nat} {w:Re} (h:BE u) (f:TB R u) (hw:In u w) (e:w*w=x) (H:Bd s (co u x)):Bd (s+GG u.length R) (co u w):=by
 obtain⟨D,g,j,m,h3⟩:=H;obtain⟨G,v,c,F⟩:=az h f;refine⟨D*G,Nat.mul_pos g v,?_,F hw e m,?_⟩
 ·have:=Nat.mul_le_mul j c;rwa [<-Nat.pow_add] at this
 have:=eC h f hw e (B:=2^s) (h3.mono (by rw[<-Nat.pow_add];exact DF));rwa [<-Nat.pow_add] at this
end
section
structure BQ (x:Int) (b:Bool) (l:List UInt32):Prop where
 neg:b=decide (x<0)
 Bx:l=Ah x.natAbs
variable {i n xi:Nat} {l o:List UInt32} {w:UInt32} {y:Int}
def BO (x:Int):∃b l,BQ x b l:=⟨_,_,rfl,rfl⟩
def BQ.nat {x:Int} {b:Bool} (h:BQ x b l):AI l=x.natAbs:=by rw[h.Bx,Bk]
def BQ.Fq {x:Int} {b:Bool} (h:BQ x b l):x=if b=true then -(AI l:Int) else AI l:=by
 rw[h.nat,h.neg];by_cases c:x<0 <;> simp[c] <;> omega
def BQ.uniq {x:Int} {b b':Bool} {l':List UInt32} (h:BQ x b l) (h':BQ y b' l') (e:x=y):b=b'/\l=l':=by
 subst e;exact⟨h.neg.trans h'.neg.symm,h.Bx.trans h'.Bx.symm⟩
def BQ.trim {x:Int} {b:Bool} (h:BQ x b l):Ah (AI l)=l:=by rw[h.nat,<-h.Bx]
def BQ.val {x:Int} {b:Bool} (f:Ah n=l) (c:x=if b=true then -(n:Int) else n) (h3:n=0->b=false):BQ x b l:=by
 constructor
 ·rw[c];cases b
  ·simp
  have:n≠0:=fun e=>absurd (h3 e) AS
  simp;omega
 rw[<-f,c];congr 1;split <;> omega
def BQ.nil {x:Int} {b:Bool} (h:BQ x b l):l=[]↔x=0:=by
 rw[h.Bx,F8];omega
def BQ.G9 {x:Int} {b:Bool} (h:BQ x b l):l.length=0↔x=0:=by
 rw[List.length_eq_zero_iff,h.nil]
def DI (x:Int):Int:=if x<0 then -1 else if x=0 then 0 else 1
def CO (a b:Int):Int:=if a<b then -1 else if b<a then 1 else 0
def WW {x:UInt32} (h:l[i]? =some x):AI (l.set i w)+2^(32*i)*x.toNat=AI l+2^(32*i)*w.toNat:=by
 induction l generalizing i with
 | nil=>simp at h
 | cons y l c=>
  cases i with
  | zero=>simp at h;subst h;simp[AI];omega
  | succ i=>
   have:=c (i:=i) (by simpa using h);rw[List.set_cons_succ,AI,AI,FX]
   generalize 2^(32*i)=P at*
   grind
def Jq (h:n<=i:=by omega):(l.set i w).take n=l.take n:=by
 rw[List.take_set];rw[List.set_eq_of_length_le];rw[List.length_take];omega
def Gg (h:i<l.length):(l.set i w).take (i+1)=l.take i++[w]:=by
 rw[List.take_succ_eq_append_getElem (by simpa using h),Jq (Nat.le_refl _)];simp
def Ng {A B He Hf yi:Nat} (c:i<o.length) (h:AI (o.take i)+B=A+2^(32*i)*He) (f:w.toNat+yi+He=xi+4294967296*Hf):
  AI ((o.set i w).take (i+1))+(B+2^(32*i)*yi)=(A+2^(32*i)*xi)+2^(32*(i+1))*Hf:=by
 rw[Gg c,Fj,FX,List.length_take,Nat.min_eq_left AA]
 generalize 2^(32*i)=P at*
 have e:P*(w.toNat+yi+He)=P*(xi+4294967296*Hf):=by rw[f]
 grind
def Xx {N T c g yk old j:Nat} {q:UInt32} {Y:Nat} {k:Nat} (m:j=i+k) (v:j<n) (F:o[j]? =some q) (H:q.toNat=old) (h:AI (o.take n)+2^(32*j)*c=T+xi*2^(32*i)*Y)
  (I:w.toNat+4294967296*g=c+xi*yk+old) (_:N=n):
  AI ((o.set j w).take n)+2^(32*(j+1))*g=T+xi*2^(32*i)*(Y+2^(32*k)*yk):=by
 have ht:(o.take n)[j]? =some q:=by rw[List.getElem?_take_of_lt v,F]
 have f:=WW (w:=w) ht;rw[List.take_set,FX];have G:2^(32*j)=2^(32*i)*2^(32*k):=by rw[m,Nat.mul_add,Nat.pow_add]
 generalize J:2^(32*j)=P at*
 have e:P*(w.toNat+4294967296*g)=P*(c+xi*yk+old):=by rw[I]
 rw[H] at f;have e2:xi*2^(32*i)*(2^(32*k)*yk)=P*(xi*yk):=by rw[G];grind
 rw[Nat.mul_add,e2]
 grind
def dy {x:Int} {a b:Bool} (ha:a=decide (x<0)) (hb:b=decide (y<0)):x*y=if (a !=b)=true then -((x.natAbs*y.natAbs:Nat):Int) else ((x.natAbs*y.natAbs:Nat):Int):=by
 rw[Int.natCast_mul]
 by_cases c:x<0 <;> by_cases f:y<0 <;> simp[ha,hb,c,f]
 ·rw[(AA:((x.natAbs:Nat):Int)= -x),(AA:((y.natAbs:Nat):Int)= -y)];grind
 ·rw[(AA:((x.natAbs:Nat):Int)= -x),(AA:((y.natAbs:Nat):Int)=y)];grind
 ·rw[(AA:((x.natAbs:Nat):Int)=x),(AA:((y.natAbs:Nat):Int)= -y)];grind
 rw[(AA:((x.natAbs:Nat):Int)=x),(AA:((y.natAbs:Nat):Int)=y)]
def L8 (a b:Int):(a<b/\CO a b= -1)\/(a=b/\CO a b=0)\/(b<a/\CO a b=1):=by
 unfold CO
 split
 ·exact .inl ⟨by assumption,rfl⟩
 split
 ·exact .inr (.inr ⟨by assumption,rfl⟩)
 exact .inr (.inl ⟨AA,rfl⟩)
def HW (x:Int):(x<0/\DI x= -1)\/(x=0/\DI x=0)\/(0<x/\DI x=1):=by
 unfold DI
 split
 ·exact .inl ⟨by assumption,rfl⟩
 split
 ·exact .inr (.inl ⟨by assumption,rfl⟩)
 exact .inr (.inr ⟨AA,rfl⟩)
def wi (x a b:Int): -9223372036854775808<=DI x*CO a b/\DI x*CO a b<9223372036854775808:=by
 rcases HW x with⟨_,h⟩ |⟨_,h⟩ |⟨_,h⟩ <;> rcases L8 a b with⟨_,k⟩ |⟨_,k⟩ |⟨_,k⟩ <;> rw[h,k] <;> decide
def ow {x:Int} (h:DI x=DI y):CO x y=DI x*CO x.natAbs y.natAbs:=by
 rcases HW x with⟨f,c⟩ |⟨f,c⟩ |⟨f,c⟩ <;> rcases HW y with⟨k1,k2⟩ |⟨k1,k2⟩ |⟨k1,k2⟩ <;>
  rcases L8 x y with⟨p,q⟩ |⟨p,q⟩ |⟨p,q⟩ <;> rcases L8 x.natAbs y.natAbs with⟨u,v⟩ |⟨u,v⟩ |⟨u,v⟩ <;> rw[c,q,v] <;> rw[c,k2] at h <;> omega
def ov {x:Int} (h:DI x≠DI y):CO x y=CO (DI x) (DI y):=by
 rcases HW x with⟨f,c⟩ |⟨f,c⟩ |⟨f,c⟩ <;> rcases HW y with⟨k1,k2⟩ |⟨k1,k2⟩ |⟨k1,k2⟩ <;>
  rcases L8 x y with⟨p,q⟩ |⟨p,q⟩ |⟨p,q⟩ <;> rw[c,k2] at h ⊢ <;> rw[q] <;> first | rfl | omega
def iT {x:Int} {b:Bool} (h:x=if b=true then -(n:Int) else n): -x=if (!b)=true then -(n:Int) else n:=by
 cases b <;> simp_all
def TA {x:Int} {b:Bool} (h:x=if b=true then -(n:Int) else n) (g:n≠0):DI x=if b=true then -1 else 1:=by
 rcases HW x with⟨f,c⟩ |⟨f,c⟩ |⟨f,c⟩ <;> rw[c] <;> cases b <;> simp at h ⊢ <;> omega
def add_same {x:Int} {b:Bool} (c:b=decide (x<0)) (f:b=decide (y<0)):x+y=if b=true then -((x.natAbs+y.natAbs:Nat):Int) else ((x.natAbs+y.natAbs:Nat):Int):=by
 cases b <;> simp at c f ⊢ <;> omega
def Qe {x:Int} {a b:Bool} (f:a=decide (x<0)) (g:b=decide (y<0)) (c:a≠b) (h:x.natAbs<=y.natAbs):x+y=if b=true then -((y.natAbs-x.natAbs:Nat):Int) else ((y.natAbs-x.natAbs:Nat):Int):=by
 cases a <;> cases b <;> simp at f g c ⊢ <;> omega
def Kw {a b:Int} (h:CO a b<0):a<b:=by rcases L8 a b with⟨_,k⟩ |⟨_,k⟩ |⟨_,k⟩ <;> omega
def Kv {a b:Int} (h:0<=CO a b):b<=a:=by rcases L8 a b with⟨_,k⟩ |⟨_,k⟩ |⟨_,k⟩ <;> omega
def HH (b:Bool) (l:List UInt32):Bool:=match l.getLast? with
 | none=> !b
 | some x=>x !=0
def Lk {b:Bool}:HH b l=true↔∃x,BQ x b l:=by
 unfold HH;cases h:l.getLast? with
 | none=>
  have:l=[]:=List.getLast?_eq_none_iff.1 h;subst this
  constructor
  ·intro hb;exact⟨0,by simpa using hb,rfl⟩
  rintro⟨x,c⟩
  have:=(c.nil).1 rfl;rw[c.neg,this];rfl
 | some w=>
  obtain⟨m,rfl⟩:=List.getLast?_eq_some_iff.1 h
  constructor
  ·intro hw;have hw:w≠0:=by simpa using hw
   have f:=Uy (o:=m) (w:=w) fun e=>hw (UInt32.toNat_inj.1 e)
   have j:AI (m++[w])≠0:=fun e=>by
    rw[e,Hm] at f;simp at f
   exact⟨if b=true then -(AI (m++[w]):Int) else AI (m++[w]),.val f rfl fun e=>absurd e j⟩
  rintro⟨x,c⟩
  simp only[bne_iff_ne,ne_eq];rintro rfl;have g:=c.trim;rw[<-N8,Lj] at g;have:=TO m;rw[g] at this;simp at this;omega
end
section
variable {A B xi yi:Nat} {l o:List UInt32} {w:UInt32}
def MY {N k:Nat} (h:N<2^(32*k)):∃z:List UInt32,z.length=k/\AI z=N:=by
 refine⟨Ah N++List.replicate (k-(Ah N).length) 0,?_,?_⟩
 ·have:=HS h;simp;omega
 rw[SX,KQ,Bk];simp
def TP (N i:Nat):N%2^(32*(i+1))=N%2^(32*i)+2^(32*i)*(N/2^(32*i)%4294967296):=by
 rw[FX,Nat.mul_comm 4294967296,Nat.mod_mul]
def iZ {x y r n:Nat} (j:x<4294967296) (F:n<=31):(x+4294967296*(y+4294967296*r))/2^n%4294967296=x/2^n+y*2^(32-n)%4294967296:=by
 obtain⟨d,h⟩:∃d,32-n=d:=⟨_,rfl⟩
 have e:(4294967296:Nat)=2^n*2^d:=by rw[<-Nat.pow_add,(AA:n+d=32)]
 have c:0<2^n:=Nat.two_pow_pos n;have G:0<2^d:=Nat.two_pow_pos d;rw[h];have e1:x+4294967296*(y+4294967296*r)=x+2^n*(2^d*(y+4294967296*r)):=by rw[<-Nat.mul_assoc,<-e]
 rw[e1,Nat.add_mul_div_left _ _ c];have m:x/2^n<2^d:=Nat.div_lt_of_lt_mul (by rw[<-e];exact j);have e2:x/2^n+2^d*(y+4294967296*r)=(x/2^n+y*2^d)+4294967296*(2^d*r):=by rw[Nat.mul_add];grind
 rw[e2,Nat.add_mul_mod_self_left];have f:y*2^d%4294967296=2^d*(y%2^n):=by rw[e,Nat.mul_comm (2^n),Nat.mul_comm y,Nat.mul_mod_mul_left]
 rw[Nat.add_mod,f]
 have v:2^d*(y%2^n)+2^d<=4294967296:=by
  have:y%2^n+1<=2^n:=Nat.mod_lt _ c;have:=Nat.mul_le_mul_left (2^d) this;rw[e,Nat.mul_comm (2^n)];rw[Nat.mul_add] at this;omega
 have g:x/2^n%4294967296=x/2^n:=Nat.mod_eq_of_lt AA;rw[g,Nat.mod_eq_of_lt AA]
def No {a b d:Nat} (h:a<2^d):a ||| (2^d*b)=a+2^d*b:=by
 rw[Nat.or_comm,<-Nat.two_pow_add_eq_or_of_lt h,Nat.add_comm]
def E3 {i:Nat} {x:UInt32} (h:l[i]? =some x):AI (l.drop i)=x.toNat+4294967296*AI (l.drop (i+1)):=by
 have c:i<l.length:=by
  apply Classical.byContradiction;intro f;rw[List.getElem?_eq_none AA] at h;exact absurd h AS
 rw[List.drop_eq_getElem_cons c,AI];rw[List.getElem?_eq_getElem c] at h;rw[Option.some.inj h]
def RJ {i:Nat} (h:i<=l.length):AI l/2^(32*i)=AI (l.drop i):=by
 rw[Ho l i h,Nat.add_mul_div_left _ _ (Nat.two_pow_pos _)];have:=Dj (l.take i);rw[List.length_take,Nat.min_eq_left h] at this;rw[Nat.div_eq_of_lt this,Nat.zero_add]
def RN {i off:Nat}:(l.set (off+i) w).drop off=(l.drop off).set i w:=by
 rw[List.drop_set,if_neg AA]
 congr 1
 omega
def x3 {D He Hf i:Nat} (c:i<o.length) (h:AI (o.take i)+B*D=A+2^(32*i)*He) (f:w.toNat+yi*D+He=xi+4294967296*Hf):
  AI ((o.set i w).take (i+1))+(B+2^(32*i)*yi)*D=(A+2^(32*i)*xi)+2^(32*(i+1))*Hf:=by
 rw[Gg c,Fj,FX,List.length_take,Nat.min_eq_left AA]
 generalize 2^(32*i)=P at*
 have e:P*(w.toNat+yi*D+He)=P*(xi+4294967296*Hf):=by rw[f]
 grind
def nk {Qz Q0 i:Nat} (c:i<o.length) (h:AI (o.take i)+2^(32*i)*Qz=A+B) (f:w.toNat+4294967296*Q0=xi+yi+Qz):
  AI ((o.set i w).take (i+1))+2^(32*(i+1))*Q0=(A+2^(32*i)*xi)+(B+2^(32*i)*yi):=by
 rw[Gg c,Fj,FX,List.length_take,Nat.min_eq_left AA]
 generalize 2^(32*i)=P at*
 have e:P*(w.toNat+4294967296*Q0)=P*(xi+yi+Qz):=by rw[f]
 grind
end
section
variable {D P R R0 R2 S V V0 V2 high next r top u3:Nat}
def g9 {u:List UInt32} {off len:Nat} (f:S<2^(32*len)) (h:off+len<=u.length):
  ∃z:List UInt32,z.length=u.length/\z.take off=u.take off/\z.drop (off+len)=u.drop (off+len)/\AI ((z.drop off).take len)=S:=by
 obtain⟨y,j,c⟩:=MY f;have g:(u.take off).length=off:=by rw[List.length_take];omega
 refine⟨u.take off++(y++u.drop (off+len)),?_,?_,?_,?_⟩
 ·simp;omega
 ·rw[List.take_append_of_le_length AA,List.take_of_length_le AA]
 ·rw[<-List.drop_drop,List.drop_append_of_le_length AA,List.drop_eq_nil_of_le (by omega:(u.take off).length<=off),List.nil_append,List.drop_append_of_le_length AA,List.drop_eq_nil_of_le (by omega:y.length<=len),List.nil_append]
 rw[List.drop_append_of_le_length AA,List.drop_eq_nil_of_le (by omega:(u.take off).length<=off),List.nil_append,List.take_append_of_le_length AA,List.take_of_length_le AA,c]
def af (hR:R=R2*P+R0) (c:R0<P) (hV:V=V2*P+V0) (h:R2<D*V2):R/V<D:=by
 have m:0<P:=AA
 have f:0<V2:=by
  apply Nat.pos_of_ne_zero;intro e;subst e;simp at h
 apply Nat.div_lt_of_lt_mul;have g:(R2+1)*P<=D*V2*P:=Nat.mul_le_mul_right _ h;have j:V*D=D*V2*P+V0*D:=by rw[hV];grind
 have h3:(R2+1)*P=R2*P+P:=by grind
 omega
def ah (hR:R=R2*P+R0) (hV:V=V2*P+V0) (g:V0<P) (h:D*V2<=R2) (G:D<=V2+1):D<=R/V+1:=by
 cases D with
 | zero=>exact Nat.zero_le _
 | succ D=>
  have c:0<V\/V=0:=AA
  rcases c with c | c
  ·have:D<=R/V:=by
    rw[Nat.le_div_iff_mul_le c];have j:(D+1)*V2*P<=R2*P:=Nat.mul_le_mul_right _ h;have m:D*V=D*V2*P+D*V0:=by rw[hV];grind
    have h3:(D+1)*V2*P=D*V2*P+V2*P:=by grind
    have v:D*V0<=D*P:=Nat.mul_le_mul_left _ AA;have F:D*P<=V2*P:=Nat.mul_le_mul_right _ AA;omega
   exact Nat.succ_le_succ this
  have f:V2*P=0:=AA
  have H:0<P:=AA
  have:V2=0:=by
   rcases Nat.mul_eq_zero.1 f with e | e
   ·exact e
   omega
  exact Nat.le_trans (by omega:D+1<=1) (Nat.le_add_left _ _)
structure Ki (R V top high D r:Nat):Prop where
 sum:r+D*high=top
 up:R/V<=D
 SR:D<=4294967297
 rest:r<4294967296
def qo (hR:R=top*P+R0) (c:R0<P) (hV:V=high*P+V0) (m:2147483648<=high) (h:high<4294967296) (ht:top<4294967296*(high+1)):Ki R V top high (top/high) (top%high):=by
 have hm:=Nat.div_add_mod top high;have j:=Nat.mod_lt top (by omega:0<high);refine⟨by rw[Nat.mul_comm] at hm;omega,?_,?_,AA⟩
 ·have f:top<(top/high+1)*high:=by rw[Nat.add_mul,Nat.mul_comm];omega
  exact Nat.le_of_lt_succ (af hR c hV f)
 have g:top<4294967298*high:=AA
 have h3:top/high<4294967298:=(Nat.div_lt_iff_lt_mul AA).2 g;exact Nat.le_of_lt_succ h3
def cJ (g:Ki R V top high D r) (c:R/V<4294967296) (h:4294967296<=D:=by omega):R/V<=D-1:=by
 have:=g.up;exact Nat.le_sub_one_of_lt (Nat.lt_of_lt_of_le c h)
def cK (g:Ki R V top high D r) (hR:R=(4294967296*top+u3)*P+R0) (c:R0<P) (hV:V=(4294967296*high+next)*P+V0) (h:4294967296*r+u3<D*next):R/V<=D-1:=by
 have f:4294967296*top+u3<D*(4294967296*high+next):=by
  have e:=g.sum
  clear g hR hV
  rw[<-e];have e1:D*(4294967296*high+next)=4294967296*(D*high)+D*next:=by grind
  have e2:4294967296*(r+D*high)=4294967296*r+4294967296*(D*high):=by grind
  rw[e1,e2]
  generalize D*high=Q at*
  generalize D*next=T at*
  omega
 exact Nat.le_sub_one_of_lt (af hR c hV f)
def cO (g:Ki R V top high D r) (c:R/V<=D-1) (h:0<D) (f:r+high<4294967296):Ki R V top high (D-1) (r+high):=by
 refine⟨?_,c,by have:=g.SR;omega,f⟩;have:=g.sum;obtain⟨D,rfl⟩:∃k,D=k+1:=⟨D-1,AA⟩
 simp only[Nat.add_sub_cancel];rw[Nat.add_mul] at this;omega
structure OR (R V D:Nat):Prop where
 up:R/V<=D
 low:D<=R/V+1
 word:D<4294967296
def WZ (g:Ki R V top high D r) (hR:R=(4294967296*top+u3)*P+R0) (hV:V=(4294967296*high+next)*P+V0) (c:V0<P) (j:2147483648<=high)
  (f:D<4294967296) (h:D*next<=4294967296*r+u3:=by omega):OR R V D:=by
 refine⟨g.up,ah hR hV c ?_ AA,f⟩;have e:=g.sum;rw[<-e];have:D*(4294967296*high+next)=4294967296*(D*high)+D*next:=by grind
 have:4294967296*(r+D*high)=4294967296*r+4294967296*(D*high):=by grind
 omega
def WY (g:Ki R V top high D r) (h:R/V<=D-1) (H:0<D) (hR:R=(4294967296*top+u3)*P+R0) (hV:V=(4294967296*high+next)*P+V0) (f:V0<P) (J:2147483648<=high) (K:next<4294967296)
  (ht:top<4294967296*(high+1)) (j:4294967296<=r+high:=by omega):OR R V (D-1):=by
 obtain⟨D,rfl⟩:∃k,D=k+1:=⟨D-1,AA⟩
 simp only[Nat.add_sub_cancel] at h ⊢;have e:=g.sum;have hm:=g.SR;have m:(r+high)+D*high=top:=by rw[Nat.add_mul] at e;omega
 have c:D<4294967296:=by
  apply Classical.byContradiction;intro I;have:4294967296*high<=D*high:=Nat.mul_le_mul_right _ AA;omega
 refine⟨h,ah hR hV f ?_ AA,c⟩;rw[<-m];have v:D*(4294967296*high+next)=4294967296*(D*high)+D*next:=by grind
 have F:4294967296*(r+high+D*high)=4294967296*(r+high)+4294967296*(D*high):=by grind
 have h3:D*next<=4294967296*4294967296:=Nat.mul_le_mul AA AA;have G:4294967296*4294967296<=4294967296*(r+high):=Nat.mul_le_mul_left _ j;omega
def eH {M:Nat} {b:Bool} (j:OR R V D) (hV:0<V) (h:S+V*D=R+M*b.toNat) (F:S<M):
  (b=false->D=R/V/\S=R%V)/\(b=true->D-1=R/V/\0<D/\(R%V<M->(S+V)%M=R%V)):=by
 have G:=Nat.div_add_mod R V;have H:=Nat.mod_lt R hV;obtain⟨m,v,_⟩:=j
 generalize R/V=Q at*
 generalize R%V=T at*
 constructor
 ·rintro rfl;simp at h
  have c:D=Q:=by
   apply Classical.byContradiction;intro g;have:D=Q+1:=AA
   rw[this,Nat.mul_add] at h;omega
  exact⟨c,by rw[c] at h;omega⟩
 rintro rfl;simp at h
 have c:D=Q+1:=by
  apply Classical.byContradiction;intro g;have:D=Q:=AA
  rw[this] at h;omega
 refine⟨AA,AA,fun f=>?_⟩;rw[c,Nat.mul_add] at h;have:S+V=T+M*1:=AA
 rw[this,Nat.add_mul_mod_self_left,Nat.mod_eq_of_lt f]
end
section
variable {A R V b i n q s:Nat} {u:List UInt32} {w x y:UInt32}
def x4 {D M:Nat} (g:OR R V D) (hV:0<V) (hR:R<M) (f:V<=M):∃(b:Bool) (S:Nat),S+V*D=R+M*b.toNat/\S<M:=by
 have j:=Nat.div_add_mod R V;have c:V*D<=V*(R/V+1):=Nat.mul_le_mul_left _ g.low;rw[Nat.mul_add] at c
 by_cases h:V*D<=R
 ·exact⟨false,R-V*D,by simp;omega,AA⟩
 refine⟨true,R+M-V*D,?_,AA⟩;simp
 generalize V*(R/V)=T at*
 omega
def yJ (c:u[i+n]? =some x) (j:u[i+n-1]? =some y) (hw:u[i+n-2]? =some w) (v:2<=n) (g:AI (u.drop (i+n+1))=0):
  AI (u.drop i)=(4294967296*(y.toNat+4294967296*x.toNat)+w.toNat)*2^(32*(n-2))+AI ((u.drop i).take (n-2)):=by
 have h:i+n<u.length:=by
  apply Classical.byContradiction;intro m;rw[List.getElem?_eq_none AA] at c;exact absurd c AS
 have f:=Ho (u.drop i) (n-2) (by rw[List.length_drop];omega);rw[List.drop_drop,(AA:i+(n-2)=i+n-2),E3 hw,(AA:i+n-2+1=i+n-1),E3 j,(AA:i+n-1+1=i+n),E3 c,g] at f;rw[f]
 generalize 2^(32*(n-2))=P
 grind
def yI {v:List UInt32} (hlen:v.length=n) (g:v[n-1]? =some y) (hw:v[n-2]? =some w) (h:2<=n):
  AI v=(4294967296*y.toNat+w.toNat)*2^(32*(n-2))+AI (v.take (n-2))/\AI v=y.toNat*2^(32*(n-1))+AI (v.take (n-1)):=by
 have c:=Ho v (n-2) AA;rw[E3 hw,(AA:n-2+1=n-1),E3 g,(AA:n-1+1=n),List.drop_eq_nil_of_le AA] at c;have f:=Ho v (n-1) AA;rw[E3 g,(AA:n-1+1=n),List.drop_eq_nil_of_le AA] at f
 constructor
 ·rw[c];simp only[AI];generalize 2^(32*(n-2))=P;grind
 rw[f];simp only[AI];generalize 2^(32*(n-1))=P;grind
def N7 {l:List UInt32}:AI (l.take n)<2^(32*n):=
 Nat.lt_of_lt_of_le (Dj _) (Nat.pow_le_pow_right AD (by rw[List.length_take];omega))
def Vu {l:List UInt32} (h:AI l<2^(32*n)) (c:n<=l.length):AI (l.drop n)=0:=by
 have f:=Ho l n c;apply Classical.byContradiction;intro g;have:2^(32*n)*1<=2^(32*n)*AI (l.drop n):=Nat.mul_le_mul_left _ AA;omega
def gM {z:List UInt32} {Q:Nat} (Et:z.length=u.length) (EB:z.take i=u.take i) (IY:z.drop (i+(n+1))=u.drop (i+(n+1))) (hlen:i+(n+1)<=u.length) (g:AI (u.drop (i+n+1))=0)
  (v:q=AI (u.drop i)/V) (m:AI ((z.drop i).take (n+1))=AI (u.drop i)%V) (j:A=AI u+2^(32*(i+1))*Q*V):
  AI (z.drop i)=AI (u.drop i)%V/\A=AI z+2^(32*i)*(q+4294967296*Q)*V:=by
 have c:AI (z.drop i)=AI (u.drop i)%V:=by
  have:=Ho (z.drop i) (n+1) (by rw[List.length_drop];omega);rw[List.drop_drop,IY,(AA:i+(n+1)=i+n+1),g,m] at this;simpa using this
 refine⟨c,?_⟩;have h:=Ho u i AA;have h3:=Ho z i AA;rw[EB,c] at h3;have f:=Nat.div_add_mod (AI (u.drop i)) V;rw[<-v] at f;rw[j,h,h3,FX,<-f]
 generalize 2^(32*i)=P
 grind
def iC (h:i+n<=u.length) (c:AI (u.drop (i+n))=0):AI ((u.drop i).take n)=AI (u.drop i):=by
 have:=Ho (u.drop i) n (by rw[List.length_drop];omega);rw[List.drop_drop,c] at this;simpa using this.symm
def Oo (j:(Ah b)[i]? =some x) (c:i+1=(Ah b).length):x.toNat≠0:=by
 intro f;have hb:b≠0:=fun e=>by subst e;simp[Hm] at c
 have g:=dY hb;have h:=DV j;rw[c,List.take_length,Bk,f] at h;have h3:=Dj ((Ah b).take i);rw[List.length_take,Nat.min_eq_left AA] at h3;rw[<-c,Nat.add_sub_cancel] at g;omega
def iW {k:Nat} (c:(Ah b).length=n) (g:1<=n) (G:(Ah b)[n-1]? =some x) (f:2^(k-1)<=x.toNat) (h:x.toNat<2^k) (M:1<=k) (v:k<=32) (O:s=32-k):
  (Ah (b*2^s)).length=n/\2147483648*2^(32*(n-1))<=b*2^s:=by
 have e1:2^(k-1)*2^s=2147483648:=by rw[<-Nat.pow_add,(AA:k-1+s=31)]
 have e2:2^k*2^s=4294967296:=by rw[<-Nat.pow_add,(AA:k+s=32)]
 have h3:=DV G;rw[(AA:n-1+1=n),<-c,List.take_length,Bk,c] at h3;have j:=Dj ((Ah b).take (n-1));rw[List.length_take,Nat.min_eq_left AA] at j;have F:2^(32*n)=4294967296*2^(32*(n-1)):=by rw[<-FX,(AA:n-1+1=n)]
 generalize m:2^(32*(n-1))=P at*
 have low:2147483648*P<=b*2^s:=by
  rw[<-e1,h3];have:2^(k-1)*2^s*P<=x.toNat*2^s*P:=Nat.mul_le_mul_right _ (Nat.mul_le_mul_right _ f);have:(AI (List.take (n-1) (Ah b))+P*x.toNat)*2^s=AI (List.take (n-1) (Ah b))*2^s+x.toNat*2^s*P:=by grind
  omega
 refine⟨?_,low⟩
 have up:b*2^s<2^(32*n):=by
  rw[F,<-e2];have H:b<(x.toNat+1)*P:=by rw[h3,Nat.add_mul,Nat.mul_comm P];omega
  have I:(x.toNat+1)*P<=2^k*P:=Nat.mul_le_mul_right _ h;have J:b*2^s<2^k*P*2^s:=(Nat.mul_lt_mul_right (Nat.two_pow_pos s)).2 AA;have:2^k*2^s*P=2^k*P*2^s:=by grind
  omega
 have K:=HS up;have L:=dS (n:=b*2^s) (k:=n-1) (by rw[m];omega);omega
def TC (l:List UInt32) (h:s<=31:=by omega):AI l*2^s<2^(32*(l.length+1)):=by
 rw[FX,Nat.mul_comm 4294967296];exact Nat.mul_lt_mul_of_lt_of_le (Dj l) (Nat.le_trans (Nat.pow_le_pow_right AD h:2^s<=2^31) AD) AD
def qv {c rest:Nat} (h:2147483648*2^(32*(n-1))<=V) (hV:V=c*2^(32*(n-1))+rest) (g:rest<2^(32*(n-1))):2147483648<=c:=by
 generalize 2^(32*(n-1))=P at*
 apply Classical.byContradiction;intro f;have:(c+1)*P<=2147483648*P:=Nat.mul_le_mul_right _ AA;rw[Nat.add_mul] at this;omega
def jU {l:List UInt32} {m:Nat} (hu:AI u=AI l*2^s) (j:s<=31) (hlen:u.length=l.length+1) (hm:m+n=l.length+1) (H:1<=n) (hV:2147483648*2^(32*(n-1))<=V):AI (u.drop m)<V:=by
 have c:=Ho u m AA;have f:=Dj l;have h3:2^(32*l.length)=2^(32*m)*2^(32*(n-1)):=by rw[<-Nat.pow_add,(AA:32*m+32*(n-1)=32*l.length)]
 have g:2^s<=2147483648:=Nat.le_trans (Nat.pow_le_pow_right AD j:2^s<=2^31) AD;have h:AI l*2^s<2^(32*l.length)*2147483648:=Nat.mul_lt_mul_of_lt_of_le f g AD;rw[hu,] at c;rw[h3] at h;have I:=Nat.two_pow_pos (32*m)
 generalize 2^(32*m)=P at*
 generalize 2^(32*(n-1))=N at*
 apply Classical.byContradiction;intro G;have v:P*(2147483648*N)<=P*AI (u.drop m):=Nat.mul_le_mul_left _ AA;have F:P*N*2147483648=P*(2147483648*N):=by grind
 omega
def yK (c:u[i+n]? =some x) (j:u[i+n-1]? =some y) (v:1<=n) (g:AI (u.drop (i+n+1))=0):
  AI (u.drop i)=(y.toNat+4294967296*x.toNat)*2^(32*(n-1))+AI ((u.drop i).take (n-1)):=by
 have h:i+n<u.length:=by
  apply Classical.byContradiction;intro m;rw[List.getElem?_eq_none AA] at c;exact absurd c AS
 have f:=Ho (u.drop i) (n-1) (by rw[List.length_drop];omega);rw[List.drop_drop,(AA:i+(n-1)=i+n-1),E3 j,(AA:i+n-1+1=i+n),E3 c,g] at f;rw[f]
 generalize 2^(32*(n-1))=P
 grind
def yH {top high P f c:Nat} (hR:R=top*P+f) (hV:V=high*P+c) (g:c<P) (h:R<4294967296*V):top<4294967296*(high+1):=by
 apply Classical.byContradiction;intro v;have j:4294967296*(high+1)*P<=top*P:=Nat.mul_le_mul_right _ AA;have m:4294967296*(high+1)*P=4294967296*(high*P)+4294967296*P:=by grind
 omega
def ax {a r:Nat} (g:A=a*2^s) (hV:V=b*2^s) (h:A=r+q*V) (I:r<V) (hb:0<b):q=a/b/\r/2^s=a%b:=by
 have j:=Nat.two_pow_pos s;have G:=Nat.div_add_mod a b;have H:=Nat.mod_lt a hb
 have e:a*2^s=(a%b)*2^s+(a/b)*V:=by rw[hV];conv=>lhs;rw[<-G]
                                    grind
 have f:(a%b)*2^s<V:=by rw[hV];exact (Nat.mul_lt_mul_right j).2 H
 have c:0<V:=AA
 have m:q=a/b:=by
  have v:A/V=q:=by rw[h,Nat.add_mul_div_right _ _ c,Nat.div_eq_of_lt I,Nat.zero_add]
  have F:A/V=a/b:=by rw[g,e,Nat.add_mul_div_right _ _ c,Nat.div_eq_of_lt f,Nat.zero_add]
  rw[<-v,F]
 refine⟨m,?_⟩;have:r=(a%b)*2^s:=by rw[g,e,m] at h;omega
 rw[this,Nat.mul_div_cancel _ j]
end
section
def DQ (x y:Int):Int:=if 0<=y then x/y else (-x)/(-y)
variable {N X:Nat} {b:Bool} {x y:Int}
def ND {a b q r:Int} (hb:0<b) (h:a=b*q+r) (c:0<=r) (f:r<b):a/b=q:=((Int.ediv_emod_unique hb).2 ⟨AA,c,f⟩).1
def aq (j:y≠0) (c:decide (x<0)=decide (y<0)):DQ x y=((x.natAbs/y.natAbs:Nat):Int):=by
 have f:=Nat.div_add_mod x.natAbs y.natAbs;have hm:=Nat.mod_lt x.natAbs (by omega:0<y.natAbs)
 generalize x.natAbs/y.natAbs=q at*
 generalize x.natAbs%y.natAbs=r at*
 have GO:(y.natAbs:Int)*q+r=x.natAbs:=by rw[<-f];simp
 unfold DQ
 by_cases h:0<=y
 ·rw[if_pos h]
  have:¬x<0:=by intro g;have:y<0:=by simpa [g] using c
                omega
  rw[(AA:(y.natAbs:Int)=y),(AA:(x.natAbs:Int)=x)] at GO;exact ND (r:=r) AA GO.symm AA AA
 rw[if_neg h]
 have:x<0:=by have:y<0:=AA
              simpa [this] using c
 rw[(AA:(y.natAbs:Int)= -y),(AA:(x.natAbs:Int)= -x)] at GO;exact ND (r:=r) AA GO.symm AA AA
def aj (m:y≠0) (g:decide (x<0)≠decide (y<0)) (j:x.natAbs%y.natAbs=0):DQ x y= -((x.natAbs/y.natAbs:Nat):Int):=by
 have f:=Nat.div_add_mod x.natAbs y.natAbs;rw[j] at f
 generalize x.natAbs/y.natAbs=q at*
 have GO:(y.natAbs:Int)*q=x.natAbs:=by rw[<-f];simp
 unfold DQ
 by_cases h:0<=y
 ·rw[if_pos h]
  have c:x<0:=by
   apply Classical.byContradiction;intro c;exact g (by rw[decide_eq_false c,decide_eq_false AA])
  rw[(AA:(y.natAbs:Int)=y),(AA:(x.natAbs:Int)= -x)] at GO;exact ND (r:=0) AA (by rw[Int.mul_neg,GO];omega) AA AA
 rw[if_neg h]
 have c:¬x<0:=by
  intro c;exact g (by rw[decide_eq_true c,decide_eq_true AA])
 rw[(AA:(y.natAbs:Int)= -y),(AA:(x.natAbs:Int)=x)] at GO;exact ND (r:=0) AA (by rw[Int.mul_neg,GO];omega) AA AA
def ak (m:y≠0) (f:decide (x<0)≠decide (y<0)) (j:x.natAbs%y.natAbs≠0):DQ x y= -((x.natAbs/y.natAbs+1:Nat):Int):=by
 have g:=Nat.div_add_mod x.natAbs y.natAbs;have hm:=Nat.mod_lt x.natAbs (by omega:0<y.natAbs)
 generalize x.natAbs/y.natAbs=q at*
 generalize x.natAbs%y.natAbs=r at*
 have GO:(y.natAbs:Int)*q+r=x.natAbs:=by rw[<-g];simp
 unfold DQ
 by_cases h:0<=y
 ·rw[if_pos h]
  have c:x<0:=by
   apply Classical.byContradiction;intro c;exact f (by rw[decide_eq_false c,decide_eq_false AA])
  rw[(AA:(y.natAbs:Int)=y),(AA:(x.natAbs:Int)= -x)] at GO;refine ND (r:=y-r) AA ?_ AA AA;rw[Int.natCast_add,Int.mul_neg,Int.mul_add];omega
 rw[if_neg h]
 have c:¬x<0:=by
  intro c;exact f (by rw[decide_eq_true c,decide_eq_true AA])
 rw[(AA:(y.natAbs:Int)= -y),(AA:(x.natAbs:Int)=x)] at GO;refine ND (r:= -y-r) AA ?_ AA AA;rw[Int.natCast_add,Int.mul_neg,Int.mul_add];omega
def I9 (x y:Int):Int:=x-y*DQ x y
def WV:(y.natAbs:Int)*((x.natAbs/y.natAbs:Nat):Int)+((x.natAbs%y.natAbs:Nat):Int)=x.natAbs:=by
 rw[<-Int.natCast_mul,<-Int.natCast_add,Nat.div_add_mod]
def su (hb:b=decide (y<0)) (j:y≠0) (c:decide (x<0)=decide (y<0)):I9 x y=if b=true then -((x.natAbs%y.natAbs:Nat):Int) else ((x.natAbs%y.natAbs:Nat):Int):=by
 have g:= @WV x y;unfold I9;rw[aq j c]
 generalize x.natAbs/y.natAbs=q at*
 generalize x.natAbs%y.natAbs=r at*
 by_cases h:y<0
 ·have f:x<0:=by simpa [h] using c
  rw[hb,decide_eq_true h,if_pos rfl];rw[(AA:(y.natAbs:Int)= -y),(AA:(x.natAbs:Int)= -x),Int.neg_mul] at g;omega
 have f:¬x<0:=by intro f;simp[f,h] at c
 rw[hb,decide_eq_false h,if_neg AS];rw[(AA:(y.natAbs:Int)=y),(AA:(x.natAbs:Int)=x)] at g;omega
def sr (m:y≠0) (g:decide (x<0)≠decide (y<0)) (j:x.natAbs%y.natAbs=0):I9 x y=if b=true then -((x.natAbs%y.natAbs:Nat):Int) else ((x.natAbs%y.natAbs:Nat):Int):=by
 have f:= @WV x y;unfold I9;rw[aj m g j];rw[j] at f ⊢
 generalize x.natAbs/y.natAbs=q at*
 have e:x-y* -(q:Int)=0:=by
  by_cases h:y<0
  ·have c:¬x<0:=by intro c;exact g (by rw[decide_eq_true c,decide_eq_true h])
   rw[(AA:(y.natAbs:Int)= -y),(AA:(x.natAbs:Int)=x),Int.neg_mul] at f;rw[Int.mul_neg];omega
  have c:x<0:=by apply Classical.byContradiction;intro c;exact g (by rw[decide_eq_false c,decide_eq_false h])
  rw[(AA:(y.natAbs:Int)=y),(AA:(x.natAbs:Int)= -x)] at f;rw[Int.mul_neg];omega
 rw[e];cases b <;> rfl
def ss (hb:b=decide (y<0)) (m:y≠0) (f:decide (x<0)≠decide (y<0)) (j:x.natAbs%y.natAbs≠0):
  I9 x y=if b=true then -((y.natAbs-x.natAbs%y.natAbs:Nat):Int) else ((y.natAbs-x.natAbs%y.natAbs:Nat):Int):=by
 have g:= @WV x y;have hm:=Nat.mod_lt x.natAbs (by omega:0<y.natAbs);unfold I9;rw[ak m f j]
 generalize x.natAbs/y.natAbs=q at*
 generalize x.natAbs%y.natAbs=r at*
 rw[Int.natCast_add,Int.mul_neg,Int.mul_add]
 by_cases h:y<0
 ·have c:¬x<0:=by intro c;exact f (by rw[decide_eq_true c,decide_eq_true h])
  rw[hb,decide_eq_true h,if_pos rfl];rw[(AA:(y.natAbs:Int)= -y),(AA:(x.natAbs:Int)=x),Int.neg_mul] at g;omega
 have c:x<0:=by apply Classical.byContradiction;intro c;exact f (by rw[decide_eq_false c,decide_eq_false h])
 rw[hb,decide_eq_false h,if_neg AS];rw[(AA:(y.natAbs:Int)=y),(AA:(x.natAbs:Int)= -x)] at g;omega
def jR (G:CH N<=X) (c:0<X):CH N<=(X+N/X)/2:=by
 have j:=PM N
 generalize CH N=s at*
 have m:X*(N/X)+N%X=N:=Nat.div_add_mod N X;have h3:=Nat.mod_lt N c
 generalize N/X=q at*
 rw[Nat.le_div_iff_mul_le AD];apply Classical.byContradiction;intro H;have v:X+q+1<=2*s:=AA
 obtain⟨d,rfl⟩:∃d,X=s+d:=⟨X-s,AA⟩
 have f:q+1<=s-d:=AA
 have g:(s+d)*(q+1)<=(s+d)*(s-d):=Nat.mul_le_mul_left _ f
 have F:(s+d)*(s-d)<=s*s:=by
  by_cases h:d<=s
  ·obtain⟨e,rfl⟩:∃e,s=e+d:=⟨s-d,AA⟩
   have:(e+d)*(e+d)=(e+d+d)*e+d*d:=by grind
   rw[Nat.add_sub_cancel];omega
  rw[(AA:s-d=0)];simp
 rw[Nat.mul_add] at g;omega
def xu (m:CH N<=X) (c:0<X) (h:X<=(X+N/X)/2):CH N=X:=by
 have f:X<=N/X:=AA
 have g:X*X<=N:=by
  have:=(Nat.le_div_iff_mul_le c).1 f;exact this
 have h3:=SN N;have j:X<CH N+1:=Nat.mul_self_lt_mul_self_iff.1 AA;omega
def xv (h:N≠0):CH N<=2^((Nat.log2 N+1)/2+1):=by
 apply Classical.byContradiction;intro j;have c:=PM N;have f:N<2^(Nat.log2 N+1):=(Nat.log2_lt h).1 (Nat.lt_succ_self _);have h3:2^((Nat.log2 N+1)/2+1)*2^((Nat.log2 N+1)/2+1)<=CH N*CH N:=Nat.mul_le_mul AA AA;rw[<-Nat.pow_add] at h3;have g:2^(Nat.log2 N+1)<=2^((Nat.log2 N+1)/2+1+((Nat.log2 N+1)/2+1)):=Nat.pow_le_pow_right AD AA;omega
end
section
structure Bn (q:Rat) (b1:Bool) (l1:List UInt32) (b2:Bool) (l2:List UInt32):Prop where
 num:BQ q.num b1 l1
 den:BQ (q.den:Int) b2 l2
variable {b' Zh b1 b2:Bool} {d y z:Int} {k:Nat} {l l' SD l1 l2:List UInt32}
def Ca (q:Rat):∃b1 l1 b2 l2,Bn q b1 l1 b2 l2:=⟨_,_,_,_,⟨rfl,rfl⟩,⟨rfl,rfl⟩⟩
def Bn.uniq {p q:Rat} {c1 c2:Bool} {m1 m2:List UInt32} (h:Bn p b1 l1 b2 l2) (h':Bn q c1 m1 c2 m2) (e:p=q):(b1=c1/\l1=m1)/\(b2=c2/\l2=m2):=by
 subst e;exact⟨h.num.uniq h'.num rfl,h.den.uniq h'.den rfl⟩
structure Ch (q:Rat):Prop where
 num:(Ah q.num.natAbs).length<=4000000000000
 den:(Ah q.den).length<=4000000000000
def Bn.small {q:Rat} (h:Bn q b1 l1 b2 l2) (s:Ch q):l1.length<=4000000000000/\l2.length<=4000000000000:=by
 rw[h.num.Bx,h.den.Bx];exact⟨s.num,by simpa using s.den⟩
def al (x:Int):DQ x 1=x:=by unfold DQ;simp
def SM {n:Int} (g:d≠0):(Rat.divInt n d).num=DQ n (if d<0 then -((Nat.gcd n.natAbs d.natAbs:Nat):Int) else ((Nat.gcd n.natAbs d.natAbs:Nat):Int)):=by
 rw[Rat.num_divInt];have f:Int.gcd d n=Nat.gcd n.natAbs d.natAbs:=by rw[Int.gcd_comm];rfl
 have c:0<Nat.gcd n.natAbs d.natAbs:=Nat.gcd_pos_of_pos_right _ AA;rw[f];unfold DQ
 by_cases h:d<0
 ·rw[if_pos h,if_neg AA,Int.sign_eq_neg_one_of_neg h,Int.neg_neg,Int.neg_one_mul]
 rw[if_neg h,if_pos AA,Int.sign_eq_one_of_pos AA,Int.one_mul]
def SL {n:Int} (f:d≠0):((Rat.divInt n d).den:Int)=DQ d (if d<0 then -((Nat.gcd n.natAbs d.natAbs:Nat):Int) else ((Nat.gcd n.natAbs d.natAbs:Nat):Int)):=by
 rw[Rat.den_divInt,if_neg f];have g:Int.gcd d n=Nat.gcd n.natAbs d.natAbs:=by rw[Int.gcd_comm];rfl
 have c:0<Nat.gcd n.natAbs d.natAbs:=Nat.gcd_pos_of_pos_right _ AA;rw[g,Int.natCast_ediv];unfold DQ
 by_cases h:d<0
 ·rw[if_pos h,if_neg AA,Int.neg_neg,(AA:(d.natAbs:Int)= -d)]
 rw[if_neg h,if_pos AA,(AA:(d.natAbs:Int)=d)]
def sX:Ah 1=[1]:=by decide +kernel
def W9 {x:Int} {b:Bool} (h:BQ x b l) (e:b=true):false=decide (x=1):=by
 have:=h.neg;rw[e] at this;have c:x<0:=by simpa using this.symm
 simp;omega
def fD {x:Int} {b:Bool} (h:BQ x b l) (e:¬l.length=1):false=decide (x=1):=by
 have c:x≠1:=by
  intro f;subst f;apply e;rw[h.Bx];exact congrArg List.length sX
 simp[c]
def XB {x:Int} {b:Bool} {w:UInt32} (h:BQ x b l) (hb:b=false) (e:l.length=1) (hw:l[0]? =some w):decide (w.toNat=1)=decide (x=1):=by
 have g:l=[w]:=by
  match l,e,hw with
  | [a],_,hw=>simp at hw;rw[hw]
 have c:=h.nat;rw[g] at c;have f:AI [w]=w.toNat:=by simp[AI]
 rw[f] at c;have h3:=h.neg;rw[hb] at h3;have j:¬x<0:=by simpa using h3.symm
 rw[Bool.eq_iff_iff];simp;omega
def SO (n:Nat):n<2^(32*(Ah n).length):=by
 have h:=Dj (Ah n);rwa [Bk] at h
def sW (a b:Nat):(Ah (a*b)).length<=(Ah a).length+(Ah b).length:=by
 apply HS;rw[Nat.mul_add,Nat.pow_add];exact Nat.mul_lt_mul_of_lt_of_le (SO a) (Nat.le_of_lt (SO b)) (Nat.pow_pos AD)
def sV {a b:Nat} (ha:(Ah a).length<=k) (hb:(Ah b).length<=k):(Ah (a+b)).length<=k+1:=by
 apply HS;have c:=Nat.lt_of_lt_of_le (SO a) (Nat.pow_le_pow_right (n:=2) AD (Nat.mul_le_mul_left 32 ha));have f:=Nat.lt_of_lt_of_le (SO b) (Nat.pow_le_pow_right (n:=2) AD (Nat.mul_le_mul_left 32 hb));rw[Nat.mul_add,Nat.pow_add];have h3:2^(32*k)*2<=2^(32*k)*2^(32*1):=Nat.mul_le_mul_left _ AD;omega
def BQ.Ek {x:Int} {b:Bool} (h:BQ x b l) (h':BQ y b' l') (c:BQ z Zh SD) (e:z=x*y):SD.length<=l.length+l'.length:=by
 rw[h.Bx,h'.Bx,c.Bx,e,Int.natAbs_mul];exact sW _ _
def BQ.Qf {x:Int} {b:Bool} (h:BQ x b l) (h':BQ y b' l') (f:BQ z Zh SD) (e:z=x+y) (g:l.length<=k) (c:l'.length<=k):SD.length<=k+1:=by
 rw[h.Bx] at g;rw[h'.Bx] at c;rw[f.Bx,e];exact Nat.le_trans (FW (Int.natAbs_add_le x y)) (sV g c)
def I2 (q:Rat):(q.den:Int)≠0:=by have:=q.den_nz;omega
def Ue (p q:Rat):p+q=Rat.divInt (p.num*q.den+q.num*p.den) ((p.den:Int)*q.den):=by
 have h:=Rat.divInt_add_divInt p.num q.num (I2 p) (I2 q);rwa [Rat.num_divInt_den,Rat.num_divInt_den] at h
def SU (p q:Rat):p*q=Rat.divInt (p.num*q.num) ((p.den:Int)*q.den):=by
 have h:=Rat.divInt_mul_divInt p.num q.num (d₁:=p.den) (d₂:=q.den);rwa [Rat.num_divInt_den,Rat.num_divInt_den] at h
def pS (p q:Rat):p/q=Rat.divInt (p.num*q.den) ((p.den:Int)*q.num):=by
 have h:=Rat.divInt_mul_divInt p.num q.den (d₁:=p.den) (d₂:=q.num);rw[<-Rat.inv_divInt q.num q.den,Rat.num_divInt_den,Rat.num_divInt_den] at h;rw[Rat.div_def,h]
def ar (x:Int):Rat.divInt x 1=(x:Rat):=Rat.num_divInt_den (x:Rat)
def aw (x:Int):(Rat.divInt x 1).num=x:=by rw[ar];rfl
def au (x:Int):(Rat.divInt x 1).den=1:=by rw[ar];rfl
def Kr {p q:Rat} (c:(p.den:Int)=1) (f:(q.den:Int)=1):(p+q).num=p.num+q.num/\(p+q).den=1:=by
 rw[Ue,c,f];simp only[Int.mul_one];exact⟨aw _,au _⟩
def mul_ones {p q:Rat} (c:(p.den:Int)=1) (f:(q.den:Int)=1):(p*q).num=p.num*q.num/\(p*q).den=1:=by
 rw[SU,c,f];simp only[Int.mul_one];exact⟨aw _,au _⟩
def jH (r:Rat):(r*r).num=r.num*r.num/\(r*r).den=r.den*r.den:=by
 have c:(r.num*r.num).natAbs.Coprime (r.den*r.den):=by
  rw[Int.natAbs_mul];have h:=r.reduced;exact Nat.Coprime.mul_right (Nat.Coprime.mul_left h h) (Nat.Coprime.mul_left h h)
 have f:r.den*r.den≠0:=Nat.mul_ne_zero r.den_nz r.den_nz;have h:=Rat.num_divInt_den (⟨r.num*r.num,r.den*r.den,f,c⟩:Rat);have g:=SU r r
 have h3:(⟨r.num*r.num,r.den*r.den,f,c⟩:Rat)=r*r:=by
  rw[g,<-h];exact congrArg _ (Int.natCast_mul _ _)
 rw[<-h3];exact⟨rfl,rfl⟩
def dE (n:Nat):CH (n*n)=n:=dF (Nat.le_refl _) (by rw[Nat.add_mul,Nat.mul_add];omega)
def jQ {r q:Rat} (f:0<=r) (h:r*r=q):((CH q.num.toNat:Nat):Int)=r.num/\r.num*r.num=q.num:=by
 have c:=(jH r).1;rw[h] at c;have j:0<=r.num:=Rat.num_nonneg.2 f;refine⟨?_,c.symm⟩;obtain⟨k,g⟩:=Int.eq_ofNat_of_zero_le j;rw[c,g];rw[show ((k:Int)*k).toNat=k*k by rw[<-Int.natCast_mul];rfl,dE]
def jP {r q:Rat} (f:0<=r) (h:r*r=q):((CH (q.den:Int).toNat:Nat):Int)=(r.den:Int)/\(r.den:Int)*r.den=(q.den:Int):=by
 have c:=(jH r).2;rw[h] at c;refine⟨?_,by rw[c];exact (Int.natCast_mul _ _).symm⟩;rw[c,Int.toNat_natCast,dE]
def jO {q:Rat} (f:((CH q.num.toNat:Nat):Int)*((CH q.num.toNat:Nat):Int)=q.num) (c:((CH (q.den:Int).toNat:Nat):Int)*((CH (q.den:Int).toNat:Nat):Int)=(q.den:Int)):∃r:Rat,0<=r/\r*r=q:=by
 refine⟨Rat.divInt ((CH q.num.toNat:Nat):Int) ((CH (q.den:Int).toNat:Nat):Int),?_,?_⟩
 ·exact Rat.divInt_nonneg (Int.natCast_nonneg _) (Int.natCast_nonneg _)
 rw[Rat.divInt_mul_divInt,f,c,Rat.num_divInt_den]
def GV (b1:Bool) (l1:List UInt32) (b2:Bool) (l2:List UInt32):Bool:=HH b1 l1&&(HH b2 l2&&(!b2&&(decide (l2≠[])&&decide (Nat.gcd (AI l1) (AI l2)=1))))
def OE:GV b1 l1 b2 l2=true↔∃q,Bn q b1 l1 b2 l2:=by
 unfold GV;simp only[Bool.and_eq_true,Bool.not_eq_true',decide_eq_true_eq]
 constructor
 ·rintro⟨m,v,h3,F,f⟩
  obtain⟨x,j⟩:=Lk.1 m;obtain⟨y,c⟩:=Lk.1 v;have G:y≠0:=fun e=>F (c.nil.2 e)
  have g:=c.neg;rw[h3] at g;have H:¬y<0:=by simpa using g.symm
  rw[j.nat,c.nat] at f;refine⟨⟨x,y.natAbs,AA,f⟩,j,?_⟩
  show BQ ((y.natAbs:Nat):Int) b2 l2
  rw[(AA:((y.natAbs:Nat):Int)=y)];exact c
 rintro⟨q,h⟩
 refine⟨Lk.2 ⟨_,h.num⟩,Lk.2 ⟨_,h.den⟩,?_,fun e=>q.den_nz (by have:=h.den.nil.1 e;omega),?_⟩
 ·rw[h.den.neg];simp
 rw[h.num.nat,h.den.nat,Int.natAbs_natCast];exact q.reduced
def Ef (q:Rat):Int:=DI q.num
def IT (p q:Rat):Int:=if p<q then -1 else if q<p then 1 else 0
end
section
def rp (q:Rat):el AJ:=((decide (q.num<0),Ah q.num.natAbs),(decide ((q.den:Int)<0),Ah q.den))
def F6 (q:Rat):Bn q (rp q).1.1 (rp q).1.2 (rp q).2.1 (rp q).2.2:=AK
def Bn.rp {q:Rat} {b1 b2:Bool} {l1 l2:List UInt32} (h:Bn q b1 l1 b2 l2):rp q=((b1,l1),(b2,l2)):=by
 have u:=h.uniq (F6 q) rfl;rw[u.1.1,u.1.2,u.2.1,u.2.2]
abbrev BV (X:List Rat):List (el AJ):=X.map rp
def FO (X:List Rat):Prop:=∀q∈X,Ch q
structure QO (ts:AG):Prop where
 small:∀x∈ts,FO x
 Vt:ts.length<=16
 form:∀i x,ts[i]? =some x->x.length=2^i
end
section
noncomputable def em (u:AG) (x:Re):List (el AJ):=BV (co u x)
def tw (u:AG):List (List (el AJ)):=u.reverse.map BV
structure BT (R:Nat) (u:AG):Prop where
 red:BE u
 tb:TB R u
 hR:R<=60000000000000
 ht:u.length<=16
structure El (u:AG) (s:Nat) (x:Re):Prop where
 mem:In u x
 bd:Bd s (co u x)
variable {R k n s t:Nat} {p x y:Re}
def dX (h:n<=2^(2*k)) (f:k<=60000000000000):(Ah n).length<=4000000000000:=by
 obtain⟨m,hm⟩:=xN 3999999999999;have c:n<2^(32*m):=Nat.lt_of_le_of_lt h (Nat.pow_lt_pow_right AD AA);have:=HS c;omega
def o8 {q:Rat} {D:Nat} {n:Int} (h:q*D=n) (j:0<D):q.den<=D:=by
 have c:=Nw q
 have f:((q.num*D:Int):Rat)=((n*q.den:Int):Rat):=by
  rw[Rat.intCast_mul,Rat.intCast_mul,<-h,<-c];have e1:((D:Int):Rat)=(D:Rat):=rfl;have e2:((q.den:Int):Rat)=(q.den:Rat):=rfl
  grind
 have h3:q.num*D=n*q.den:=Rat.intCast_inj.1 f
 have g:q.den∣q.num.natAbs*D:=by
  refine⟨n.natAbs,?_⟩;have:=congrArg Int.natAbs h3;rw[Int.natAbs_mul,Int.natAbs_mul,Int.natAbs_natCast,Int.natAbs_natCast] at this;rw[this,Nat.mul_comm]
 exact Nat.le_of_dvd j ((Nat.Coprime.symm q.reduced).dvd_of_dvd_mul_left g)
def Bd.Cy {a:List Rat} (h:Bd k a) (g:k<=60000000000000):FO a:=by
 obtain⟨D,m,v,F,h3⟩:=h;intro q j;obtain⟨n,G⟩:=F q j;have f:q.den<=2^k:=Nat.le_trans (o8 G m) v;have hb:=h3 q j
 have c:q.num.natAbs<=2^(2*k):=by
  have e1:=WT (C:=q.den) hb (q:=(q.den:Rat)) ⟨by have:(0:Rat)<=q.den:=Rat.natCast_nonneg;grind,by grind⟩;rw[Nw] at e1
  have e2:q.num.natAbs<=2^k*q.den:=by
   have H: -((2^k*q.den:Nat):Int)<=q.num:=by
    apply Rat.intCast_le_intCast.1;rw[Rat.intCast_neg];exact e1.1
   have I:q.num<=((2^k*q.den:Nat):Int):=Rat.intCast_le_intCast.1 e1.2;omega
  have:=Nat.mul_le_mul_left (2^k) f;rw[<-Nat.pow_add] at this;exact Nat.le_trans e2 (Nat.le_trans this (DF))
 exact⟨dX c g,dX (Nat.le_trans f (DF)) g⟩
def El.Cy {u:AG} (h:El u s x) (c:s<=60000000000000):FO (co u x):=h.bd.Cy c
def El.len {u:AG} (h:El u s x):(co u x).length=2^u.length:=Dp h.mem
def B9 {u:AG} (h:In u x):(em u x).length=2^u.length:=by rw[em,List.length_map,Dp h]
def Cq (u:AG):(tw u).length=u.length:=by rw[tw,List.length_map,List.length_reverse]
def Ea (h:n<=16:=by omega):2^n<=65536:=Nat.le_trans (DF h) AD
def P8 (r:List Rat) (u:AG):tw (r::u)=tw u++[BV r]:=by rw[tw,List.reverse_cons,List.map_append];rfl
def Ey (r:List Rat) (u:AG):(tw (r::u)).take ((tw (r::u)).length-1)=tw u:=by
 rw[P8,List.length_append,Cq];simp[List.take_left' (Cq u)]
def HG (r:List Rat) (u:AG):(tw (r::u))[(tw (r::u)).length-1]? =some (BV r):=by
 rw[P8,List.length_append,Cq];simp[List.getElem?_append_right (Nat.le_of_eq (Cq u))];rw[Cq,Nat.sub_self];rfl
def F2 {r:List Rat} {u:AG} (h:BE (r::u)):BV r=em u (AU u r):=by rw[em,F1 h]
def DX {u:AG} {r:List Rat} {q:Re} (h:BE (r::u)) (f:In u p) (g:In u q) (j:x=p+q*rt u r):(em (r::u) x).take ((em (r::u) x).length/2)=em u p:=by
 have c:In (r::u) x:=DK.2 ⟨p,q,f,g,j⟩;rw[B9 c,Cc,(AA:(2^u.length+2^u.length)/2=2^u.length),em,em,BV,BV,<-List.map_take,o3 h f g j]
def DE {u:AG} {r:List Rat} {q:Re} (h:BE (r::u)) (f:In u p) (g:In u q) (j:x=p+q*rt u r):(em (r::u) x).drop ((em (r::u) x).length/2)=em u q:=by
 have c:In (r::u) x:=DK.2 ⟨p,q,f,g,j⟩;rw[B9 c,Cc,(AA:(2^u.length+2^u.length)/2=2^u.length),em,em,BV,BV,<-List.map_drop,oz h f g j]
def Gp {u:AG} {r:List Rat} {q:Re} (h:BE (r::u)) (c:In u p) (f:In u q) (g:x=p+q*rt u r):em (r::u) x=em u p++em u q:=by
 rw[em,Dy h c f g,BV,List.map_append];rfl
def bC {u:AG} (h:BE u) (c:In u x) (f:In u y):em u (x+y)=BV (List.zipWith (· + ·) (co u x) (co u y)):=by rw[em,Ot h c f]
def bD {u:AG} (h:BE u) (c:In u x):em u (-x)=BV ((co u x).map (- ·)):=by rw[em,M6 h c]
def E5 (q:Rat):em [] (Re.ofRat q)=[rp q]:=by rw[em,D5];rfl
def VQ {u:AG} (h:BE u):em u 0=BV (List.replicate (2^u.length) 0):=by rw[em,VH h]
def BT.tail {r:List Rat} {u:AG} (h:BT R (r::u)):BT R u:=⟨h.red.1,h.tb.tail,h.hR,by have:=h.ht;rw[List.length_cons] at this;omega⟩
def EX {α:Type} {l:List α} {i:Nat} {x:α} (h:l[i]? =some x):i<l.length:=by
 apply Classical.byContradiction;intro c;rw[List.getElem?_eq_none AA] at h;exact absurd h AS
def Nx:∀{u:AG},BE u->∀(i:Nat) (x:List Rat),u.reverse[i]? =some x->x.length=2^i
 | [],_,i,x,h=>by simp at h
 | r::u,c,i,x,h=>by
  rw[List.reverse_cons] at h
  by_cases g:i<u.length
  ·rw[List.getElem?_append_left (by rw[List.length_reverse];exact g)] at h;exact Nx c.1 i x h
  rw[List.getElem?_append_right (by rw[List.length_reverse];omega),List.length_reverse] at h
  have f:i-u.length=0:=by
   have:=EX h;simp at this;omega
  rw[f] at h;have:r=x:=by simpa using h
  rw[<-this,c.2.1]
  congr 1;omega
def BT.IF {u:AG} (h:BT R u):QO u.reverse:=
 ⟨fun x c=>(h.tb x (List.mem_reverse.1 c)).Cy h.hR,by rw[List.length_reverse];exact h.ht,Nx h.red⟩
def El.D9 {r:List Rat} {u:AG} (h:BT R (r::u)):El u R (AU u r):=⟨Ci h.red,Uo h.red h.tb⟩
def El.parts {u:AG} {r:List Rat} (h:BE (r::u)) (g:El (r::u) s x):∃p q,x=p+q*rt u r/\El u s p/\El u s q:=by
 obtain⟨p,q,c,f,rfl⟩:=DK.1 g.mem;have:=Zp h c f g.bd;exact⟨p,q,rfl,⟨c,this.1⟩,⟨f,this.2⟩⟩
def El.mono {u:AG} (h:El u s x) (c:s<=t):El u t x:=⟨h.mem,h.bd.mono c⟩
def El.add {u:AG} (h:BE u) (c:El u s x) (f:El u t y):El u (s+t+1) (x+y):=⟨EP c.mem f.mem,Um h c.mem f.mem c.bd f.bd⟩
def El.sub {u:AG} (h:BE u) (c:El u s x) (f:El u t y):El u (s+t+1) (x-y):=⟨Ga c.mem f.mem,oJ h c.mem f.mem c.bd f.bd⟩
def El.neg {u:AG} (h:BE u) (c:El u s x):El u s (-x):=⟨Hi c.mem,Zr h c.mem c.bd⟩
def El.mul {u:AG} (h:BT R u) (c:El u s x) (f:El u t y):El u (s+t+EE u.length R) (x*y):=⟨BL h.red c.mem f.mem,Zq h.red h.tb c.mem f.mem c.bd f.bd⟩
def El.norm {u:AG} {r:List Rat} {q:Re} (h:BT R (r::u)) (c:In u p) (f:In u q) (g:El (r::u) s (p+q*rt u r)):El u (2*s+2*EE u.length R+R+1) (p*p-q*q*AU u r):=
 ⟨Ga (BL h.red.1 c c) (BL h.red.1 (BL h.red.1 f f) (Ci h.red)),Zs h.red h.tb c f g.bd⟩
def El.inv {u:AG} (h:BT R u) (c:El u s x) (f:In u y) (e:x*y=1):El u (II u.length R s) y:=⟨f,KC h.red h.tb c.mem f e c.bd⟩
def El.sqrt {u:AG} {w:Re} (h:BT R u) (c:El u s x) (hw:In u w) (e:w*w=x):El u (s+GG u.length R) w:=⟨hw,Uq h.red h.tb hw e c.bd⟩
def El.rat {u:AG} {q:Rat} (h:BE u) (c:Bd s [q]):El u s (Re.ofRat q):=⟨G8 q u,oH h c⟩
def GH:∀(h R s:Nat),2*s<=II h R s
 | 0,_,_=>Nat.le_refl _
 | h+1,R,s=>by
  have:=GH h R (2*s+2*EE h R+R+1);rw[II];omega
def eR {u:AG} {r:List Rat} {q:Re} (h:BE (r::u)) (f:In u p) (g:In u q) (c:p+q*rt u r≠0):p*p-q*q*AU u r≠0:=by
 intro j;have F:=De h;have e1:(p+q*rt u r)*(p-q*rt u r)=0:=by grind
 rcases Re.F3 e1 with e2 | e2
 ·exact c e2
 obtain⟨m,v⟩:=indep h f (Hi g) (C0 u) (C0 u) (show p+ -q*rt u r=0+0*rt u r by grind);exact c (by grind)
def Oh:Bd 1 [(1/2:Rat)]:=by
 refine⟨2,AD,AD,fun q c=>⟨1,?_⟩,fun q c=>?_⟩
 ·rw[List.mem_singleton.1 c];decide +kernel
 rw[List.mem_singleton.1 c];decide +kernel
def IP:Bd 0 [(0:Rat)]:=⟨1,AD,AD,fun q c=>⟨0,by rw[List.mem_singleton.1 c];decide +kernel⟩,fun q c=>by rw[List.mem_singleton.1 c];decide +kernel⟩
def Zo:Bd 0 [(1:Rat)]:=⟨1,AD,AD,fun q c=>⟨1,by rw[List.mem_singleton.1 c];decide +kernel⟩,fun q c=>by rw[List.mem_singleton.1 c];decide +kernel⟩
end
section
noncomputable def Bv (x:Re):Int:=by
 classical
 exact if x<0 then -1 else if x=0 then 0 else 1
def Gz (x:Re):(x<0/\Bv x= -1)\/(x=0/\Bv x=0)\/(0<x/\Bv x=1):=by
 unfold Bv
 by_cases h:x<0
 ·rw[if_pos h];exact .inl ⟨h,rfl⟩
 rw[if_neg h]
 by_cases c:x=0
 ·rw[if_pos c];exact .inr (.inl ⟨c,rfl⟩)
 rw[if_neg c];exact .inr (.inr ⟨by grind,rfl⟩)
def JG {x:Re} (h:0<x):Bv x=1:=by rcases Gz x with⟨a,b⟩ |⟨a,b⟩ |⟨a,b⟩ <;> grind
def Lf {x:Re} (h:x<0):Bv x= -1:=by rcases Gz x with⟨a,b⟩ |⟨a,b⟩ |⟨a,b⟩ <;> grind
def Ht:Bv 0=0:=by rcases Gz 0 with⟨a,b⟩ |⟨a,b⟩ |⟨a,b⟩ <;> grind
def G0 {x:Re}:Bv x=0↔x=0:=by
 rcases Gz x with⟨a,b⟩ |⟨a,b⟩ |⟨a,b⟩ <;> rw[b]
 ·constructor
  ·intro h;omega
  intro h;grind
 ·exact⟨fun _=>a,fun _=>rfl⟩
 constructor
 ·intro h;omega
 intro h;grind
def iK (x y:Re):Bv (x*y)=Bv x*Bv y:=by
 rcases Gz x with⟨a,b⟩ |⟨a,b⟩ |⟨a,b⟩ <;> rcases Gz y with⟨c,d⟩ |⟨c,d⟩ |⟨c,d⟩ <;> rw[b,d]
 ·have:=Re.mul_pos (x:= -x) (y:= -y) (by grind) (by grind);exact JG (by grind)
 ·rw[c,show x*0=0 by grind];exact Ht
 ·have:=Re.mul_pos (x:= -x) (y:=y) (by grind) (by grind);exact Lf (by grind)
 ·rw[a,show 0*y=0 by grind];exact Ht
 ·rw[a,show 0*y=0 by grind];exact Ht
 ·rw[a,show 0*y=0 by grind];exact Ht
 ·have:=Re.mul_pos (x:=x) (y:= -y) (by grind) (by grind);exact Lf (by grind)
 ·rw[c,show x*0=0 by grind];exact Ht
 exact JG (Re.mul_pos a c)
def iJ (x y:Re): -9223372036854775808<=Bv x*Bv y/\Bv x*Bv y<9223372036854775808:=by
 rcases Gz x with⟨a,b⟩ |⟨a,b⟩ |⟨a,b⟩ <;> rcases Gz y with⟨c,d⟩ |⟨c,d⟩ |⟨c,d⟩ <;> rw[b,d] <;> decide
section
variable {p q s ρ:Re}
def S8 (f:0<s) (h:q=0\/Bv p=Bv q):Bv (p+q*s)=Bv p:=by
 rcases h with h | h
 ·rw[h,show p+0*s=p by grind]
 rcases Gz p with⟨a,b⟩ |⟨a,b⟩ |⟨a,b⟩ <;> rcases Gz q with⟨c,d⟩ |⟨c,d⟩ |⟨c,d⟩ <;> rw[b,d] at h <;> try omega
 ·have:=Re.mul_pos (x:= -q) (y:=s) (by grind) f;rw[b];exact Lf (by grind)
 ·rw[b,a,c,show (0:Re)+0*s=0 by grind];exact Ht
 have:=Re.mul_pos (x:=q) (y:=s) c f;rw[b];exact JG (by grind)
def iQ (c:0<s) (h:p=0):Bv (p+q*s)=Bv q:=by
 rw[h,show 0+q*s=q*s by grind,iK,JG c,Int.mul_one]
def iP (f:0<s) (m:s*s=ρ) (g:p≠0) (j:q≠0) (h:Bv p≠Bv q):Bv (p+q*s)=Bv p*Bv (p*p-q*q*ρ):=by
 have e:p*p-q*q*ρ=(p-q*s)*(p+q*s):=by rw[<-m];grind
 rw[e,iK];rcases Gz p with⟨a,b⟩ |⟨a,b⟩ |⟨a,b⟩ <;> rcases Gz q with⟨c,d⟩ |⟨c,d⟩ |⟨c,d⟩ <;> rw[b,d] at h <;> first | (exact absurd rfl h) | (exact absurd a g) | (exact absurd c j) | skip
 ·have:=Re.mul_pos (x:=q) (y:=s) c f;rw[b,Lf (x:=p-q*s) (by grind)];omega
 have:=Re.mul_pos (x:= -q) (y:=s) (by grind) f;rw[b,JG (x:=p-q*s) (by grind)];omega
end
def iL (q:Rat):Bv (Re.ofRat q)=Ef q:=by
 have c:(0:Re)=Re.ofRat 0:=rfl;have f:Ef q=DI q.num:=rfl;rw[f];rcases HW q.num with⟨a,b⟩ |⟨a,b⟩ |⟨a,b⟩ <;> rw[b]
 ·exact Lf (by rw[c,Re.KR];rw[Rat.lt_iff];simp;exact a)
 ·rw[Rat.num_eq_zero.1 a];exact Ht
 exact JG (by rw[c,Re.KR];rw[Rat.lt_iff];simp;exact a)
def VV:Nat->Nat->Nat->Nat
 | 0,_,s=>s
 | h+1,R,s=>VV h R (2*s+2*EE h R+R+1)
def J4:∀(h R:Nat) {s t:Nat},s<=t->VV h R s<=VV h R t
 | 0,_,_,_,h=>h
 | h+1,R,_,_,c=>J4 h R AA
def Hc:∀(h R s:Nat),s<=VV h R s
 | 0,_,_=>Nat.le_refl _
 | h+1,R,s=>Nat.le_trans AA (Hc h R (2*s+2*EE h R+R+1))
def Yi (h R s:Nat):VV h R s<=VV (h+1) R s:=J4 h R AA
def OW {i h:Nat} (f:i<=h) (R s:Nat):VV i R s<=VV h R s:=by
 induction h with
 | zero=>rw[Nat.le_zero.1 f];exact Nat.le_refl _
 | succ h g=>
  rcases Nat.lt_or_ge i (h+1) with c | c
  ·exact Nat.le_trans (g AA) (Yi h R s)
  rw[(AA:i=h+1)];exact Nat.le_refl _
def pre (u:AG) (i:Nat):AG:=u.drop (u.length-i)
def LV {u:AG} {i:Nat} (h:i<=u.length):(pre u i).length=i:=by rw[pre,List.length_drop];omega
def KT {u:AG} {i:Nat}:(tw u).take i=tw (pre u i):=by
 rw[tw,tw,pre,<-List.map_take,List.reverse_drop]
 by_cases h:i<=u.length
 ·rw[(AA:u.length-(u.length-i)=i)]
 rw[(AA:u.length-i=0),Nat.sub_zero,List.take_of_length_le (by rw[List.length_reverse];omega),List.take_of_length_le (by rw[List.length_reverse];omega)]
def fh (u:AG):pre u u.length=u:=by rw[pre,Nat.sub_self,List.drop_zero]
def MZ {u:AG} {i:Nat} (h:i<u.length):∃r,pre u (i+1)=r::pre u i/\(tw u)[i]? =some (BV r):=by
 refine⟨u[u.length-(i+1)]'AA,?_,?_⟩
 ·rw[pre,pre,List.drop_eq_getElem_cons AA,(AA:u.length-(i+1)+1=u.length-i)]
 rw[tw,List.getElem?_map,List.getElem?_reverse h,(AA:u.length-1-i=u.length-(i+1)),List.getElem?_eq_getElem AA];rfl
def gA:∀{u:AG} (n:Nat),BE u->BE (u.drop n)
 |u,0,h|[],_+1,h=>h
 | _::u,n+1,h=>gA n h.1
def BT.pre {R:Nat} {u:AG} (h:BT R u) (i:Nat):BT R (pre u i):=
 ⟨gA _ h.red,fun r c=>h.tb r (List.mem_of_mem_drop c),h.hR,by have:=h.ht;rw[Go.Abs.pre,List.length_drop];omega⟩
def QQ:Nat->Nat->Nat->Nat
 | 0,_,s=>s
 | h+1,R,s=>max (QQ h R (3*s+3*EE h R+R+GG h R+3+II h R R)) (s+II h R (2*(3*s+3*EE h R+R+GG h R+3+II h R R+GG h R)+1)+EE h R)
def Lt:∀(h R:Nat) {s t:Nat},s<=t->II h R s<=II h R t
 | 0,_,_,_,h=>by rw[II,II];omega
 | h+1,R,s,t,c=>by
  have:=Lt h R (s:=2*s+2*EE h R+R+1) (t:=2*t+2*EE h R+R+1) AA;rw[II,II];omega
def QK:∀(h R:Nat) {s t:Nat},s<=t->QQ h R s<=QQ h R t
 | 0,_,_,_,h=>h
 | h+1,R,s,t,g=>by
  have c:=QK h R (s:=3*s+3*EE h R+R+GG h R+3+II h R R) (t:=3*t+3*EE h R+R+GG h R+3+II h R R) AA;have f:=Lt h R (s:=2*(3*s+3*EE h R+R+GG h R+3+II h R R+GG h R)+1) (t:=2*(3*t+3*EE h R+R+GG h R+3+II h R R+GG h R)+1) AA;rw[QQ,QQ];omega
def Jy:∀(h R s:Nat),s<=QQ h R s
 | 0,_,_=>Nat.le_refl _
 | h+1,R,s=>by have:=Jy h R (3*s+3*EE h R+R+GG h R+3+II h R R);rw[QQ];omega
def lL (h R s:Nat):QQ h R s<=QQ (h+1) R s:=by
 have:=QK h R (s:=s) (t:=3*s+3*EE h R+R+GG h R+3+II h R R) AA;rw[QQ];omega
def lK {i h:Nat} (f:i<=h) (R s:Nat):QQ i R s<=QQ h R s:=by
 induction h with
 | zero=>rw[Nat.le_zero.1 f];exact Nat.le_refl _
 | succ h g=>
  rcases Nat.lt_or_ge i (h+1) with c | c
  ·exact Nat.le_trans (g AA) (lL h R s)
  rw[(AA:i=h+1)];exact Nat.le_refl _
structure Fit (h R s:Nat):Prop where
 q:QQ h R s<=60000000000000
 v:VV h R (s+GG h R)<=60000000000000
 qR:QQ h R R<=60000000000000
 vR:VV h R R<=60000000000000
def Fit.v0 {h R s:Nat} (f:Fit h R s):VV h R s<=60000000000000:=Nat.le_trans (J4 h R AA) f.v
def Fit.s {h R s:Nat} (f:Fit h R s):s<=60000000000000:=Nat.le_trans (Jy h R s) f.q
def Fit.mono {h R s t:Nat} (f:Fit h R s) (ht:t<=s):Fit h R t:=⟨Nat.le_trans (QK h R ht) f.q,Nat.le_trans (J4 h R AA) f.v,f.qR,f.vR⟩
end
section
def Br (u w:AG):Prop:=∀x,In u x->In w x
def Br.refl (u:AG):Br u u:=fun _ h=>h
def Br.trans {u v w:AG} (h:Br u v) (k:Br v w):Br u w:=fun x c=>k x (h x c)
def O5:∀(v:AG) {u:AG},Br u (v++u)
 | [],u=>Br.refl u
 | _::v,_=>fun x c=>Gb (O5 v x c)
def O6 {u w:AG} (h:u<:+w):Br u w:=by
 obtain⟨v,rfl⟩:=h;exact O5 v
def Br.tail {u w:AG} {r:List Rat} (h:Br (r::u) w):Br u w:=fun x c=>h x (Gb c)
def Br.root {u w:AG} {r:List Rat} (h:Br (r::u) w):In w (rt u r):=h _ (KM u r)
def K4 {u w:AG} {r:List Rat} (hw:BE w) (h:Br u w) (g:In w (rt u r)):Br (r::u) w:=fun x j=>by
 obtain⟨p,q,c,f,rfl⟩:=DK.1 j;exact EP (h p c) (BL hw (h q f) g)
def NK (w:AG):Br [] w:=fun x c=>by
 obtain⟨q,rfl⟩:=DZ.1 c;exact G8 q w
noncomputable def Bb (u:AG) (v:Re):AG:=by
 classical
 exact if Sq u v then u else co u v::u
def FF {u:AG} {v:Re} (h:Sq u v):Bb u v=u:=by unfold Bb;rw[if_pos h]
def Ei {u:AG} {v:Re} (h:¬Sq u v):Bb u v=co u v::u:=by unfold Bb;rw[if_neg h]
def Qi (u:AG) (v:Re):u<:+Bb u v:=by
 by_cases h:Sq u v
 ·rw[FF h];exact List.suffix_refl u
 rw[Ei h];exact List.suffix_cons _ _
def Pn {u:AG} {v:Re} (h:BE u) (c:In u v) (f:0<v) (g:¬Sq u v):BE (co u v::u):=
 ⟨h,Dp c,by rw[FR c];exact f,by rw[FR c];exact g⟩
def XW {u:AG} {v:Re} (h:BE u) (g:In u v) (f:0<v):BE (Bb u v):=by
 by_cases c:Sq u v
 ·rw[FF c];exact h
 rw[Ei c];exact Pn h g f c
def Mg {u:AG} {v:Re} (c:In u v):rt u (co u v)=Re.sqrt v:=by rw[rt,FR c]
def N3 {u:AG} {v:Re} (c:0<=v):Sq u v↔In u (Re.sqrt v):=by
 constructor
 ·rintro⟨w,hw,e⟩
  have g:=Re.JH c;have f:=Re.N4 v
  by_cases h:0<=w
  ·rw[<-Re.N2 h f (by rw[e,g])];exact hw
  rw[<-Re.N2 (x:= -w) (by grind) f (by rw[g,<-e];grind)];exact Hi hw
 intro h;exact⟨_,h,Re.JH c⟩
def Ug {u:AG} {v:Re} (g:In u v) (f:0<=v):In (Bb u v) (Re.sqrt v):=by
 by_cases c:Sq u v
 ·rw[FF c];exact (N3 f).1 c
 rw[Ei c,<-Mg g];exact KM u _
noncomputable def ext (t:AG):AG->AG
 | []=>t
 | r::u=>Bb (ext t u) (AU u r)
def Rr (t:AG):∀u,t<:+ext t u
 | []=>List.suffix_refl t
 | r::u=>List.IsSuffix.trans (Rr t u) (Qi _ _)
def KX {t:AG} (ht:BE t):∀{u:AG},BE u->BE (ext t u)/\Br u (ext t u)
 | [],_=>⟨ht,NK _⟩
 | r::u,hu=>by
  obtain⟨h,c⟩:=KX ht hu.1;have f:=c _ (Ci hu);have g:=hu.2.2.1;have h3:=XW h f g;exact⟨h3,K4 h3 (c.trans (O6 (Qi _ _))) (Ug f (by grind))⟩
open Classical in
noncomputable def F7 (t u:AG):AG:=if u<:+t then t else if t<:+u then u else ext t u
def ur {t u:AG} (ht:BE t) (hu:BE u):BE (F7 t u)/\Br t (F7 t u)/\Br u (F7 t u):=by
 unfold F7
 split
 ·rename_i h;exact⟨ht,Br.refl t,O6 h⟩
 split
 ·rename_i h;exact⟨hu,O6 h,Br.refl u⟩
 obtain⟨c,f⟩:=KX ht hu;exact⟨c,O6 (Rr t u),f⟩
def bE:∀(v:AG) {u:AG} {x:Re},BE (v++u)->In u x->em (v++u) x=em u x++List.replicate (2^(v++u).length-2^u.length) (rp 0)
 | [],u,x,h,c=>AS
 | r::v,u,x,h,c=>by
  have f:=O5 v x c;have G:=bE v h.1 c;have j:2^u.length<=2^(v++u).length:=DF AS;have e:em (r::v++u) x=em (v++u) x++em (v++u) 0:=Gp h f (C0 _) (by grind);have F:em (v++u) 0=BV (List.replicate (2^(v++u).length) 0):=VQ h.1;rw[e,G,F,BV,List.map_replicate,List.append_assoc,List.replicate_append_replicate];have m:2^(r::v++u).length=2^(v++u).length+2^(v++u).length:=Cc r (v++u);have g:∀a b:Nat,b<=a->a-b+a=a+a-b:=fun a b h=>AA
  rw[m,<-g _ _ j]
def bH {u w:AG} {x:Re} (h:u<:+w) (hw:BE w) (c:In u x):em w x=em u x++List.replicate (2^w.length-2^u.length) (rp 0):=by
 obtain⟨v,rfl⟩:=h;exact bE v hw c
def XY {u w:AG} (h:u<:+w) (hw:BE w):BE u:=by
 obtain⟨v,rfl⟩:=h
 induction v with
 | nil=>exact hw
 | cons r v c=>exact c hw.1
structure Gam (T:AG->Prop) (R C S:Nat):Prop where
 BW:∀{u},T u->BT R u
 ht:∀{u},T u->u.length<=8
 nil:T []
 sub:∀{r u},T (r::u)->T u
 Bb:∀{t r u},T t->T (r::u)->Br u t->T (Bb t (AU u r))
 Cr:∀{u w s x},T u->T w->Br u w->El u s x->El w (s+C) x
 fit:∀{u},T u->Fit u.length R (S+C)
 mul:∀{u},T u->2*(S+C)+EE u.length R<=60000000000000
 RS:R<=S
section
variable {T:AG->Prop} {R C S:Nat}
def Gam.Kb (G:Gam T R C S) {u w:AG} (h:u<:+w) (hw:T w):T u:=by
 obtain⟨v,rfl⟩:=h
 induction v with
 | nil=>exact hw
 | cons r v c=>exact c (G.sub hw)
def Gam.ext (G:Gam T R C S) {t:AG} (ht:T t):∀{u:AG},T u->T (ext t u)
 | [],_=>ht
 | r::u,hu=>G.Bb (G.ext ht (G.sub hu)) hu (KX (G.BW ht).red (G.BW (G.sub hu)).red).2
def Gam.join (G:Gam T R C S) {t u:AG} (ht:T t) (hu:T u):T (F7 t u):=by
 unfold F7
 split
 ·exact ht
 split
 ·exact hu
 exact G.ext ht hu
end
def Kz {u:AG} {r:List Rat} (h:BE (r::u)):El (r::u) 0 (rt u r):=by
 have c:El u 0 0:=El.rat h.1 IP;have f:El u 0 1:=El.rat h.1 Zo;have:=Qo h c.mem f.mem c.bd f.bd;rw[show (0:Re)+1*rt u r=rt u r by grind] at this;exact⟨KM u r,this⟩
end
section
def Ip:∀{h h' R R':Nat},h<=h'->R<=R'->EE h R<=EE h' R'
 | 0,h',R,R',_,_=>Nat.zero_le _
 | h+1,0,R,R',c,_=>absurd c AA
 | h+1,h'+1,R,R',c,hR=>by
  have:=Ip (h:=h) (h':=h') AA hR;rw[EE,EE];omega
def IJ:∀{h h' R R' s s':Nat},h<=h'->R<=R'->s<=s'->II h R s<=II h' R' s'
 | 0,0,R,R',s,s',_,_,f=>by rw[II,II];omega
 | 0,h'+1,R,R',s,s',_,_,f=>by
  have:=GH h' R' (2*s'+2*EE h' R'+R'+1);rw[II,II];omega
 | h+1,0,R,R',s,s',c,_,_=>absurd c AA
 | h+1,h'+1,R,R',s,s',c,hR,f=>by
  have g:=Ip (h:=h) (h':=h') AA hR;have j:=IJ (h:=h) (h':=h') (s:=2*s+2*EE h R+R+1) (s':=2*s'+2*EE h' R'+R'+1) AA hR AA;rw[II,II];omega
def UH:∀{h h' R R':Nat},h<=h'->R<=R'->GG h R<=GG h' R'
 | 0,h',R,R',_,_=>by rw[GG];exact Nat.zero_le _
 | h+1,0,R,R',c,_=>absurd c AA
 | h+1,h'+1,R,R',c,hR=>by
  have f:=Ip (h:=h) (h':=h') AA hR;have g:=UH (h:=h) (h':=h') AA hR;have h3:=IJ (h:=h) (h':=h') (s:=R) (s':=R') AA hR hR;rw[GG,GG];omega
def CC:Nat->Nat->Nat->Nat->Nat
 | 0,_,_,_=>0
 | k+1,R0,h,R=>2*CC k R0 h R+R0+GG h R+EE h R+1
def Lr:∀{k k' R0 Jz h h' R R':Nat},k<=k'->R0<=Jz->h<=h'->R<=R'->CC k R0 h R<=CC k' Jz h' R'
 | 0,k',_,_,_,_,_,_,_,_,_,_=>by rw[CC];exact Nat.zero_le _
 | k+1,0,_,_,_,_,_,_,f,_,_,_=>absurd f AA
 | k+1,k'+1,R0,Jz,h,h',R,R',f,g,c,hR=>by
  have j:=Lr (k:=k) (k':=k') AA g c hR;have m:=Ip c hR;have h3:=UH c hR;rw[CC,CC];omega
def VN {D:Nat} {q:Rat} {n:Nat} (h:DN D [q]):DN D (q::List.replicate n 0):=fun z c=>by
 rcases List.mem_cons.1 c with rfl | c
 ·exact h _ List.mem_cons_self
 rw[List.eq_of_mem_replicate c];exact⟨0,AS⟩
def WU {B:Nat} {q:Rat} {n:Nat} (h:MX B [q]):MX B (q::List.replicate n 0):=fun z c=>by
 rcases List.mem_cons.1 c with rfl | c
 ·exact h _ List.mem_cons_self
 rw[List.eq_of_mem_replicate c];have:(0:Rat)<=B:=Rat.natCast_nonneg
 constructor <;> grind
def Zm {w:AG} {R:Nat} (hw:BE w) (G:TB R w):∀{u:AG} {R0:Nat},BE u->TB R0 u->Br u w->∃K:Nat,0<K/\K<=2^CC u.length R0 w.length R/\
  ∀{x:Re} {D B:Nat},In u x->(DN D (co u x)->DN (D*K) (co w x))/\(MX B (co u x)->MX (B*2^CC u.length R0 w.length R) (co w x))
 | [],R0,_,_,_=>⟨1,AD,by simp[CC],fun {x D B} hx=>by
  obtain⟨q,rfl⟩:=DZ.1 hx;rw[D5,JY q hw,Nat.mul_one];refine⟨VN,fun h=>?_⟩;rw[show B*2^CC ([]:AG).length R0 w.length R=B by simp[CC]];exact WU h⟩
 | r::u,R0,h,h0,v=>by
  obtain⟨K,hK,g,hb⟩:=Zm hw G h.1 h0.tail v.tail;obtain⟨E,O,Q,hm⟩:=MD hw G;obtain⟨D0,J,L,M,Z⟩:=h0.head;have hr:=De h;have a1:=Ci h;have c:=v.root;have b1:=hb (D:=D0) (B:=2^R0) a1;rw[F1 h] at b1
  have hv:Bd (R0+CC u.length R0 w.length R) (co w (AU u r)):=by
   refine⟨D0*K,Nat.mul_pos J hK,?_,b1.1 M,?_⟩
   ·rw[Nat.pow_add];exact Nat.mul_le_mul L g
   rw[Nat.pow_add];exact b1.2 Z
  obtain⟨F,hF,W,U,Y⟩:=Uq hw G c hr hv;refine⟨K*(F*E),Nat.mul_pos hK (Nat.mul_pos hF O),?_,fun {x D B} hx=>?_⟩
  ·have h1:=Nat.mul_le_mul g (Nat.mul_le_mul W Q);simp only[<-Nat.pow_add] at h1;exact Nat.le_trans h1 (DF (by rw[List.length_cons,CC];omega))
  obtain⟨p,q,H,I,rfl⟩:=DK.1 hx;rw[Dy h H I rfl,DN.app,MX.app];have m:=v.tail _ H;have f:=v.tail _ I;refine⟨fun j=>?_,fun j=>?_⟩
  ·have k1:=(hb (B:=0) H).1 j.1;have k2:=(hb (B:=0) I).1 j.2;have k3:=hm f c k2 U;exact DN.G4 hw m (BL hw f c) (k1.dvd ⟨F*E,by grind⟩) (k3.dvd ⟨1,by grind⟩)
  have k1:=(hb (D:=0) H).2 j.1;have k2:=(hb (D:=0) I).2 j.2;have k3:=Jl hw G f c k2 Y;refine (MX.G4 hw m (BL hw f c) k1 k3).mono ?_
  have e:B*2^CC u.length R0 w.length R*2^(R0+CC u.length R0 w.length R+GG w.length R)*2^EE w.length R=B*2^(CC u.length R0 w.length R+(R0+CC u.length R0 w.length R+GG w.length R)+EE w.length R):=by
   rw[Nat.mul_assoc,Nat.mul_assoc,<-Nat.pow_add,<-Nat.pow_add];congr 2;omega
  rw[e,<-Nat.mul_add];refine Nat.mul_le_mul_left B ?_;have e2:CC (r::u).length R0 w.length R=CC u.length R0 w.length R+(R0+CC u.length R0 w.length R+GG w.length R)+EE w.length R+1:=by rw[List.length_cons,CC];omega
  have h3:2^CC u.length R0 w.length R<=2^(CC u.length R0 w.length R+(R0+CC u.length R0 w.length R+GG w.length R)+EE w.length R):=DF;rw[e2,Nat.pow_succ];omega
def El.Cr {w u:AG} {R R0 s:Nat} {x:Re} (hw:BE w) (G:TB R w) (hu:BE u) (h:TB R0 u) (g:Br u w) (c:El u s x):El w (s+CC u.length R0 w.length R) x:=by
 obtain⟨K,F,f,hb⟩:=Zm hw G hu h g;obtain⟨D,j,m,h3,v⟩:=c.bd;refine⟨g _ c.mem,D*K,Nat.mul_pos j F,?_,(hb (B:=0) c.mem).1 h3,?_⟩
 ·rw[Nat.pow_add];exact Nat.mul_le_mul m f
 rw[Nat.pow_add];exact (hb (D:=0) c.mem).2 v
inductive Tf (P:AG->Prop):AG->Prop
 | nil:Tf P []
 | Bb {u:AG} {r0:List Rat} {u0:AG}:Tf P u->P (r0::u0)->Br u0 u->Tf P (Bb u (AU u0 r0))
structure C8 (P:AG->Prop) (R0:Nat):Prop where
 red:∀{u},P u->BE u
 tb:∀{u},P u->TB R0 u
 sub:∀{r u},P (r::u)->P u
section
variable {P:AG->Prop} {R0:Nat}
def Tf.red (I:C8 P R0) {u:AG} (h:Tf P u):BE u:=by
 induction h with
 | nil=>trivial
 | Bb _ c f g=>exact XW g (f _ (Ci (I.red c))) (I.red c).2.2.1
def nn {u:AG} {r:List Rat} (h:BE (r::u)):Bb u (AU u r)=r::u:=by rw[Ei h.2.2.2,F1 h]
def Tf.of (I:C8 P R0):∀{u:AG},P u->Tf P u
 | [],_=> .nil
 | r::u,h=>by
  have:=Tf.Bb (Tf.of I (I.sub h)) h (Br.refl u);rwa [nn (I.red h)] at this
def Tf.gen (I:C8 P R0) {w:AG} (h:Tf P w):∀{r:List Rat} {u:AG},w=r::u->Tf P u/\∃f c,P (f::c)/\AU c f=AU u r/\Br c u:=by
 induction h with
 | nil=>intro r u e;cases e
 | @Bb u1 f c ht j g v=>
  intro r u e
  by_cases m:Sq u1 (AU c f)
  ·rw[FF m] at e;exact v e
  rw[Ei m] at e;obtain⟨rfl,rfl⟩:=List.cons.inj e;exact⟨ht,f,c,j,(FR (g _ (Ci (I.red j)))).symm,g⟩
def Tf.sub (I:C8 P R0) {r:List Rat} {u:AG} (h:Tf P (r::u)):Tf P u:=(h.gen I rfl).1
def Tf.Uf (I:C8 P R0) {t u:AG} {r:List Rat} (ht:Tf P t) (h:Tf P (r::u)) (f:Br u t):Tf P (Go.Abs.Bb t (AU u r)):=by
 obtain⟨_,j,m,g,e,c⟩:=h.gen I rfl;rw[<-e];exact .Bb ht g (c.trans f)
def XX:∀{u:AG},BE u->Br u []->u=[]
 | [],_,_=>rfl
 | r::u,h,c=>by
  have hu:=XX h.1 c.tail;subst hu;exact absurd ⟨_,c.root,De h⟩ h.2.2.2
def gB {r q:List Rat} {s:List Rat} (h:BE [q,r]) (I:BE [s]) (J:Br [q,r] [s]):False:=by
 have F:=h.1;obtain⟨a,b,ha,hb,e⟩:=DK.1 J.tail.root;have L:=De F;have G:=De I;have g:BE ([]:AG):=trivial
 by_cases v:b=0
 ·exact F.2.2.2 ⟨a,ha,by rw[<-L,e,v];grind⟩
 obtain⟨d,K,O⟩:=FV g hb v
 by_cases m:a=0
 ·have j:In [r] (rt [] s):=by
   have:rt [] s=d*rt [] r:=by rw[e,m];grind
   rw[this];exact BL F (Gb K) (KM [] r)
  have H:Br [s] [r]:=K4 F (NK _) j;exact h.2.2.2 ⟨_,H _ J.root,De h⟩
 obtain⟨c,Q,M⟩:=FV g ha m
 have W:Re.ofRat (1/2)*(1+1)=1:=by
  rw[show (1:Re)=Re.ofRat 1 from rfl,<-Re.ofRat_add,<-Re.ofRat_mul,show (1/2:Rat)*(1+1)=1 by decide +kernel]
 have U:=Ci F;have hw:=Ci I
 have key:rt [] s=(AU [] r-a*a-b*b*AU [] s)*(c*d*Re.ofRat (1/2)):=by
  rw[<-L,<-G,e];generalize rt [] s=t at *;generalize Re.ofRat (1/2)=f at *;grind
 have j:In [] (rt [] s):=by
  rw[key];exact BL g (Ga (Ga U (BL g ha ha)) (BL g (BL g hb hb) hw)) (BL g (BL g Q K) (G8 _ []))
 exact I.2.2.2 ⟨_,j,G⟩
def RR (R0:Nat):Nat->Nat
 | 0=>R0
 | h+1=>max (RR R0 h) (R0+CC (min h 2) R0 h (RR R0 h))
def YZ {R0 h h':Nat} (c:h<=h'):RR R0 h<=RR R0 h':=by
 induction c with
 | refl=>exact Nat.le_refl _
 | step _ f=>exact Nat.le_trans f (Nat.le_max_left _ _)
def TB.mono {R R':Nat} {u:AG} (h:TB R u) (hR:R<=R'):TB R' u:=fun r c=>(h r c).mono hR
def Tf.tb (I:C8 P R0) (hm:∀{u},Tf P u->u.length<=3) {u:AG} (h:Tf P u):TB (RR R0 u.length) u:=by
 induction h with
 | nil=>intro r j;simp at j
 | @Bb u K f ht g m G=>
  by_cases J:Sq u (AU f K)
  ·rw[FF J];exact G
  have H:=hm (Tf.Bb ht g m);have F:=hm (Tf.of I g);rw[Ei J] at H ⊢;rw[List.length_cons] at H F;intro r j;rcases List.mem_cons.1 j with rfl | j
  ·have c:=I.red g;have v:El f R0 (AU f K):=⟨Ci c,by rw[F1 c];exact (I.tb g).head⟩;have:=(v.Cr (ht.red I) G c.1 (I.tb g).tail m).bd;refine this.mono ?_;rw[List.length_cons,RR]
   have M:f.length<=min u.length 2:=by
    have L:f.length<=2:=AA
    cases u with
    | nil=>rw[XX c.1 m];exact Nat.zero_le _
    | cons s u'=>
     cases u' with
     | nil=>
      cases f with
      | nil=>exact Nat.zero_le _
      | cons q u1=>
       cases u1 with
       | nil=>exact Nat.le_refl 1
       | cons r u2=>
        have:u2=[]:=List.eq_nil_of_length_eq_zero (by simp only[List.length_cons] at L;omega);subst this;exact (gB c.1 (ht.red I) m).elim
     | cons _ _=>simp only[List.length_cons];omega
   have:=Lr (k:=f.length) (k':=min u.length 2) (R0:=R0) (Jz:=R0) (h:=u.length) (h':=u.length) (R:=RR R0 u.length) (R':=RR R0 u.length) M (Nat.le_refl _) (Nat.le_refl _) (Nat.le_refl _);omega
  exact (G r j).mono (YZ (by rw[List.length_cons];omega))
def Tf.Vo (I:C8 P R0) (hm:∀{u},Tf P u->u.length<=3) {R C S:Nat} (hR:RR R0 3<=R) (g:R<=S) (v:CC 3 R 3 R<=C) (j:∀h,h<=3->Fit h R (S+C)) (F:2*(S+C)+EE 3 R<=60000000000000):Gam (Tf P) R C S:=by
 have c:∀{u},Tf P u->TB R u:=fun {u} h=>(h.tb I hm).mono (Nat.le_trans (YZ (hm h)) hR)
 refine⟨fun {u} h=>⟨h.red I,c h,AA,by have:=hm h;omega⟩,fun {u} h=>by have:=hm h;omega,.nil,fun {r u} h=>h.sub I,fun {t r u} ht h f=>ht.Uf I h f,fun {u w s x} hu hw f m=>?_,fun {u} h=>j _ (hm h),fun {u} h=>?_,g⟩
 ·refine (m.Cr (hw.red I) (c hw) (hu.red I) (c hu) f).mono ?_;have:=Lr (k:=u.length) (k':=3) (R0:=R) (Jz:=R) (h:=w.length) (h':=3) (R:=R) (R':=R) (hm hu) (Nat.le_refl _) (hm hw) (Nat.le_refl _);omega
 have:=Ip (h:=u.length) (h':=3) (R:=R) (R':=R) (hm h) (Nat.le_refl _);omega
def BZ:AG->List Re
 | []=>[]
 | r::u=>AU u r::BZ u
def Ll:∀u:AG,(BZ u).length=u.length
 | []=>rfl
 | r::u=>by rw[BZ,List.length_cons,List.length_cons,Ll u]
def OF:∀{u:AG} {v:Re},v∈BZ u->In u (Re.sqrt v)
 | [],v,h=>by simp[BZ] at h
 | r::u,v,h=>by
  rcases List.mem_cons.1 h with rfl | h
  ·exact KM u r
  exact Gb (OF h)
def Js:∀{u:AG},BE u->(BZ u).Nodup
 | [],_=>List.nodup_nil
 | r::u,h=>by
  rw[BZ,List.nodup_cons];refine⟨fun hm=>h.2.2.2 ⟨_,OF hm,Re.JH (by have:=h.2.2.1;grind)⟩,Js h.1⟩
def Tf.BZ (I:C8 P R0) {V:List Re} (hV:∀{u},P u->∀v∈BZ u,v∈V) {u:AG} (h:Tf P u):∀v∈Go.Abs.BZ u,v∈V:=by
 induction h with
 | nil=>intro v c;simp[Go.Abs.BZ] at c
 | @Bb u F G ht f m j=>
  by_cases g:Sq u (AU G F)
  ·rw[FF g];exact j
  rw[Ei g];intro v c;rcases List.mem_cons.1 c with rfl | c
  ·rw[FR (m _ (Ci (I.red f)))];exact hV f _ List.mem_cons_self
  exact j v c
def LM {α:Type}:∀{l m:List α},l.Nodup->(∀x∈l,x∈m)->l.length<=m.length
 | [],_,_,_=>Nat.zero_le _
 | x::l,m,h,hm=>by
  rw[List.nodup_cons] at h;obtain⟨a,b,rfl⟩:=List.append_of_mem (hm x List.mem_cons_self)
  have:=LM (l:=l) (m:=a++b) h.2 (fun y f=>by
   have g:=hm y (List.mem_cons_of_mem _ f);rcases List.mem_append.1 g with c | c
   ·exact List.mem_append_left _ c
   rcases List.mem_cons.1 c with rfl | c
   ·exact absurd f h.1
   exact List.mem_append_right _ c)
  rw[List.length_cons,List.length_append,List.length_cons];rw[List.length_append] at this;omega
def Tf.len (I:C8 P R0) {V:List Re} (hV:∀{u},P u->∀v∈Go.Abs.BZ u,v∈V) {u:AG} (h:Tf P u):u.length<=V.length:=by
 rw[<-Ll];exact LM (Js (h.red I)) (h.BZ I hV)
end
end
section
def HK (k i:Nat):Bool:=k/2^i%2==1
def Dv (i:Nat):Nat->List Rat->Bool
 | _,[]=>false
 | k,q::l=>(HK k i&&q !=0)||Dv i (k+1) l
def CV (i:Nat):Nat->List Rat->List Rat
 | _,[]=>[]
 | k,q::l=>if HK k i=true then CV i (k+1) l else q::CV i (k+1) l
variable {w:AG} {x:Re}
def We (i:Nat):∀(k:Nat) (a b:List Rat),Dv i k (a++b)=(Dv i k a||Dv i (k+a.length) b)
 | k,[],b=>by simp[Dv]
 | k,q::a,b=>by
  rw[List.cons_append,Dv,Dv,We i (k+1) a b,List.length_cons,Bool.or_assoc,(AA:k+1+a.length=k+(a.length+1))]
def Te (i:Nat):∀(k:Nat) (a b:List Rat),CV i k (a++b)=CV i k a++CV i (k+a.length) b
 | k,[],b=>by simp[CV]
 | k,q::a,b=>by
  rw[List.cons_append,CV,CV,Te i (k+1) a b,List.length_cons,(AA:k+1+a.length=k+(a.length+1))]
  split <;> simp
def Z0 (k i c:Nat):HK (k+2^(i+1)*c) i=HK k i:=by
 unfold HK;rw[Nat.pow_succ,Nat.mul_assoc,Nat.add_mul_div_left _ _ (Nat.two_pow_pos i),Nat.add_mul_mod_self_left]
def eW (i c:Nat):∀(k:Nat) (l:List Rat),Dv i (k+2^(i+1)*c) l=Dv i k l
 | _,[]=>rfl
 | k,q::l=>by
  rw[Dv,Dv,Z0,(AA:k+2^(i+1)*c+1=k+1+2^(i+1)*c),eW i c (k+1) l]
def kA (i c:Nat):∀(k:Nat) (l:List Rat),CV i (k+2^(i+1)*c) l=CV i k l
 | _,[]=>rfl
 | k,q::l=>by
  rw[CV,CV,Z0,(AA:k+2^(i+1)*c+1=k+1+2^(i+1)*c),kA i c (k+1) l]
def oP {k i:Nat} (h:k<2^i):HK k i=false:=by unfold HK;rw[Nat.div_eq_of_lt h];rfl
def Zy {k i:Nat} (h:2^i<=k) (c:k<2^i+2^i):HK k i=true:=by
 unfold HK
 have:k/2^i=1:=by
  rw[Nat.div_eq_iff (Nat.two_pow_pos i)];omega
 rw[this];rfl
def j9 (i:Nat):∀(k:Nat) (l:List Rat),k+l.length<=2^i->CV i k l=l
 | _,[],_=>rfl
 | k,q::l,h=>by
  rw[List.length_cons] at h;rw[CV,oP AA,j9 i (k+1) l AA];rfl
def j7 (i:Nat):∀(k:Nat) (l:List Rat),2^i<=k->k+l.length<=2^i+2^i->CV i k l=[]
 | _,[],_,_=>rfl
 | k,q::l,h,c=>by
  rw[List.length_cons] at c;rw[CV,Zy h AA,j7 i (k+1) l AA AA];rfl
def eV (i:Nat):∀(k:Nat) (l:List Rat),2^i<=k->k+l.length<=2^i+2^i->Dv i k l=false->∀q∈l,q=0
 | _,[],_,_,_=>AS
 | k,q::l,h,f,h3=>by
  rw[List.length_cons] at f;rw[Dv,Zy h AA] at h3;simp only[Bool.true_and,Bool.or_eq_false_iff,bne_eq_false_iff_eq] at h3;intro x c;rcases List.mem_cons.1 c with rfl | c
  ·exact h3.1
  exact eV i (k+1) l AA AA h3.2 x c
def Tg (i:Nat):∀(k:Nat) (l:List Rat),∀q∈CV i k l,q∈l
 | _,[],q,h=>h
 | k,x::l,q,h=>by
  rw[CV] at h
  split at h
  ·exact List.mem_cons_of_mem _ (Tg i (k+1) l q h)
  rcases List.mem_cons.1 h with rfl | h
  ·exact List.mem_cons_self
  exact List.mem_cons_of_mem _ (Tg i (k+1) l q h)
def a7 {r:List Rat} {u:AG}:∀{v:AG},BE (v++r::u)->(∀s∈v,Dv u.length 0 s=false)->
  BE (v.map (CV u.length 0)++u)/\Br (v.map (CV u.length 0)++u) (v++r::u)/\(∀x∈BZ (v.map (CV u.length 0)++u),x∈BZ (v++r::u))/\
  ∀{x:Re},In (v++r::u) x->Dv u.length 0 (co (v++r::u) x)=false->In (v.map (CV u.length 0)++u) x/\co (v.map (CV u.length 0)++u) x=CV u.length 0 (co (v++r::u) x)
 | [],h,_=>by
  refine⟨h.1,fun x c=>Gb c,fun x c=>List.mem_cons_of_mem _ c,fun {x} c H=>?_⟩;obtain⟨p,q,F,G,rfl⟩:=DK.1 c;have e:=Dy h F G rfl;have I:=Dp F;have lq:=Dp G;simp only[List.nil_append,List.map_nil] at*;rw[e,We,I,Nat.zero_add,Bool.or_eq_false_iff] at H;have K:q=0:=(Ou h.1 G).1 (eV _ _ _ (Nat.le_refl _) AA H.2);subst K;have ex:p+0*rt u r=p:=by grind
  rw[e,Te,I,Nat.zero_add,j9 _ _ _ AA,j7 _ _ _ (Nat.le_refl _) AA,List.append_nil,ex];exact⟨F,rfl⟩
 | s::v,h,H=>by
  have h:BE (s::(v++r::u)):=h;obtain⟨W,O,h3,J⟩:=a7 (v:=v) h.1 (fun t ht=>H t (List.mem_cons_of_mem _ ht));have L:=H s List.mem_cons_self;have M:In (v++r::u) (AU (v++r::u) s):=Ci h
  show BE (CV u.length 0 s::(v.map (CV u.length 0)++u))/\Br (CV u.length 0 s::(v.map (CV u.length 0)++u)) (s::(v++r::u))/\(∀x∈BZ (CV u.length 0 s::(v.map (CV u.length 0)++u)),x∈BZ (s::(v++r::u)))/\
   ∀{x:Re},In (s::(v++r::u)) x->Dv u.length 0 (co (s::(v++r::u)) x)=false->In (CV u.length 0 s::(v.map (CV u.length 0)++u)) x/\co (CV u.length 0 s::(v.map (CV u.length 0)++u)) x=CV u.length 0 (co (s::(v++r::u)) x)
  have cs:co (v++r::u) (AU (v++r::u) s)=s:=F1 h;obtain⟨k1,k2⟩:=J M (by rw[cs];exact L);rw[cs] at k2;have f:AU (v.map (CV u.length 0)++u) (CV u.length 0 s)=AU (v++r::u) s:=by rw[<-k2,FR k1]
  have j:BE (CV u.length 0 s::(v.map (CV u.length 0)++u)):=by
   refine⟨W,by rw[<-k2];exact Dp k1,by rw[f];exact h.2.2.1,?_⟩;rw[f]
   rintro⟨w,hw,e⟩
   exact h.2.2.2 ⟨w,O w hw,e⟩
  have g:rt (v.map (CV u.length 0)++u) (CV u.length 0 s)=rt (v++r::u) s:=by rw[rt,rt,f]
  have hlen:2^(v++r::u).length=2^(u.length+1)*2^v.length:=by rw[<-Nat.pow_add];congr 1;simp;omega
  refine⟨j,K4 h (O.trans fun x c=>Gb c) (by rw[g];exact KM _ _),fun x c=>?_,fun {x} c m=>?_⟩
  ·rcases List.mem_cons.1 c with rfl | c
   ·exact List.mem_cons.2 (.inl f)
   exact List.mem_cons_of_mem _ (h3 x c)
  obtain⟨p,q,F,G,rfl⟩:=DK.1 c;have e:=Dy h F G rfl;have I:=Dp F;rw[e,We,I,hlen,eW,Bool.or_eq_false_iff] at m;obtain⟨Q,Y⟩:=J F m.1;obtain⟨U,Z⟩:=J G m.2;rw[<-g];refine⟨DK.2 ⟨p,q,Q,U,rfl⟩,?_⟩;rw[g,e,Te,I,hlen,kA,<-Y,<-Z,<-g];exact Dy j Q U rfl
def N9 (i:Nat) (s:AG×List Rat):AG×List Rat:=
 if (Dv i 0 s.2||(s.1.drop (i+1)).any (Dv i 0))=true then s else (s.1.take i++(s.1.drop (i+1)).map (CV i 0),CV i 0 s.2)
def JJ:Nat->AG×List Rat->AG×List Rat
 | 0,s=>s
 | i+1,s=>JJ i (N9 i s)
structure J3 (w:AG) (x:Re) (w':AG):Prop where
 red:BE w'
 mem:In w' x
 Cr:Br w' w
 BZ:∀v∈BZ w',v∈BZ w
 len:w'.length<=w.length
 KV:∀s∈w',∃t∈w,∀q∈s,q∈t
 cos:∀q∈co w' x,q∈co w x
def J3.refl (h:BE w) (f:In w x):J3 w x w:=⟨h,f,Br.refl w,fun _ h=>h,Nat.le_refl _,fun s c=>⟨s,c,fun _ h=>h⟩,fun _ h=>h⟩
def J3.trans {w' c:AG} (h:J3 w x w') (k:J3 w' x c):J3 w x c:=
 ⟨k.red,k.mem,k.Cr.trans h.Cr,fun v F=>h.BZ v (k.BZ v F),Nat.le_trans k.len h.len,fun s m=>by
  obtain⟨t,ht,f⟩:=k.KV s m;obtain⟨t2,j,g⟩:=h.KV t ht;exact⟨t2,j,fun q G=>g q (f q G)⟩,fun q f=>h.cos q (k.cos q f)⟩
def jf {i:Nat} (h:BE w) (m:In w x) (J:i<w.length):∃w',N9 i (w.reverse,co w x)=(w'.reverse,co w' x)/\J3 w x w'/\i<=w'.length:=by
 unfold N9
 split
 ·exact⟨w,rfl,.refl h m,AA⟩
 rename_i j
 obtain⟨v,r,u,rfl,rfl⟩:∃v r u,w=v++r::u/\i=u.length:=by
  refine⟨w.take (w.length-1-i),w[w.length-1-i]'AA,w.drop (w.length-1-i+1),?_,by rw[List.length_drop];omega⟩;rw[<-List.drop_eq_getElem_cons,List.take_append_drop]
 have c:(v++r::u).reverse=u.reverse++r::v.reverse:=AS
 have I:(v++r::u).reverse.drop (u.length+1)=v.reverse:=by
  rw[c,(AS:u.reverse++r::v.reverse=(u.reverse++[r])++v.reverse)];exact List.drop_left' AS
 have ht:(v++r::u).reverse.take u.length=u.reverse:=by
  rw[c];exact List.take_left' AS
 simp only[I,ht,Bool.not_eq_true,Bool.or_eq_false_iff] at j ⊢
 obtain⟨F,G,h3,H⟩:=a7 h (fun s f=>by
  have:=List.any_eq_false.1 j.2 s (List.mem_reverse.2 f);simpa using this)
 obtain⟨k1,k2⟩:=H m j.1;refine⟨v.map (CV u.length 0)++u,?_,⟨F,k1,G,h3,AS,fun s f=>?_,fun q g=>?_⟩,AS⟩
 ·rw[k2,List.reverse_append,List.map_reverse]
 ·rcases List.mem_append.1 f with f | f
  ·obtain⟨t,ht,rfl⟩:=List.mem_map.1 f;exact⟨t,List.mem_append_left _ ht,fun q g=>Tg _ _ _ q g⟩
  exact⟨s,List.mem_append_right _ (List.mem_cons_of_mem _ f),fun _ h=>h⟩
 rw[k2] at g;exact Tg _ _ _ q g
def X0:∀{i:Nat} {w:AG} {x:Re},BE w->In w x->i<=w.length->∃w',JJ i (w.reverse,co w x)=(w'.reverse,co w' x)/\J3 w x w'
 | 0,w,x,h,c,_=>⟨w,rfl,.refl h c⟩
 | i+1,w,x,h,c,f=>by
  obtain⟨j,e1,t1,l1⟩:=jf h c f;obtain⟨g,e2,t2⟩:=X0 t1.red t1.mem l1;exact⟨g,by rw[JJ,e1,e2],t1.trans t2⟩
end
end Go.Abs
