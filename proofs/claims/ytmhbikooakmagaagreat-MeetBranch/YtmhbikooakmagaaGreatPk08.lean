/- Part 9 of a proof. Conditions: each theorem's own. -/
import Derived.Test.YtmhbikooakmagaaGreatPk07
set_option linter.all false
set_option maxHeartbeats 8000000
set_option maxRecDepth 20000
namespace Go.Abs
def AL:List (List Rat)->List Rat->Re
 | [],a=>Re.ofRat (a.headD 0)
 | r::u,a=>AL u (a.take (2^u.length))+AL u (a.drop (2^u.length))*Re.sqrt (AL u r)
def rt (u:List (List Rat)) (r:List Rat):Re:=Re.sqrt (AL u r)
def In (u:List (List Rat)) (x:Re):Prop:=∃a:List Rat,a.length=2^u.length/\AL u a=x
def AZ:List (List Rat)->Prop
 | []=>True
 | r::u=>AZ u/\r.length=2^u.length/\0<AL u r/\¬∃w,In u w/\w*w=AL u r
noncomputable def co (u:List (List Rat)) (x:Re):List Rat:=by
 classical
 exact if h:In u x then Classical.choose h else []
variable {a:List Rat} {p x y:Re}
theorem B4 (r:List Rat) (u:List (List Rat)):2^(r::u).length=2^u.length+2^u.length:=by
 rw[List.length_cons,Nat.pow_succ];omega
theorem Cp:In [] x↔∃q,x=Re.ofRat q:=by
 constructor
 ·rintro⟨a,_,rfl⟩;exact⟨_,rfl⟩
 rintro⟨q,rfl⟩;exact⟨[q],rfl,rfl⟩
theorem CV {r:List Rat} {u:List (List Rat)}:In (r::u) x↔∃p q,In u p/\In u q/\x=p+q*rt u r:=by
 constructor
 ·rintro⟨a,ha,rfl⟩
  rw[B4] at ha;exact⟨_,_,⟨a.take (2^u.length),by rw[List.length_take];omega,rfl⟩,⟨a.drop (2^u.length),by rw[List.length_drop];omega,rfl⟩,rfl⟩
 rintro⟨p,q,⟨a,ha,rfl⟩,⟨b,hb,rfl⟩,rfl⟩
 refine⟨a++b,by rw[B4,List.length_append];omega,?_⟩;rw[AL,<-ha,List.take_left,List.drop_left];rfl
theorem OO:∀(u:List (List Rat)) (a b:List Rat),a.length=2^u.length->b.length=2^u.length->AL u (List.zipWith (· + ·) a b)=AL u a+AL u b
 | [],a,b,ha,hb=>by
  match a,b,ha,hb with
  | [p],[q],_,_=>exact Re.ofRat_add p q
 | r::u,a,b,ha,hb=>by
  rw[B4] at ha hb;rw[AL,AL,AL,List.take_zipWith,List.drop_zipWith,OO u _ _ (by rw[List.length_take];omega) (by rw[List.length_take];omega),OO u _ _ (by rw[List.length_drop];omega) (by rw[List.length_drop];omega)]
  grind
theorem OP:∀(u:List (List Rat)) (a:List Rat),a.length=2^u.length->AL u (a.map (- ·))= -AL u a
 | [],a,ha=>by
  match a,ha with
  | [p],_=>exact Re.ofRat_neg p
 | r::u,a,ha=>by
  rw[B4] at ha;rw[AL,AL,<-List.map_take,<-List.map_drop,OP u _ (by rw[List.length_take];omega),OP u _ (by rw[List.length_drop];omega)]
  grind
theorem MS:∀(u:List (List Rat)) (n:Nat),AL u (List.replicate n 0)=0
 |[],0|[],n+1=>rfl
 | r::u,n=>by rw[AL,List.take_replicate,List.drop_replicate,MS,MS];grind
theorem Hj (q:Rat):∀u,In u (Re.ofRat q)
 | []=>Cp.2 ⟨q,rfl⟩
 | r::u=>CV.2 ⟨_,_,Hj q u,⟨List.replicate (2^u.length) 0,List.length_replicate,MS u _⟩,by grind⟩
theorem CG (u:List (List Rat)):In u 0:=Hj 0 u
theorem KA (u:List (List Rat)):In u 1:=Hj 1 u
theorem DK {u:List (List Rat)}:In u x->In u y->In u (x+y)
 |⟨a,ha,c⟩,⟨b,hb,d⟩=>⟨List.zipWith (· + ·) a b,by rw[List.length_zipWith];omega,by rw[OO u a b ha hb,c,d]⟩
theorem Gw {u:List (List Rat)}:In u x->In u (-x)
 |⟨a,ha,c⟩=>⟨a.map (- ·),by rw[List.length_map,ha],by rw[OP u a ha,c]⟩
theorem FY {u:List (List Rat)} (h:In u x) (k:In u y):In u (x-y):=by
 have:=DK h (Gw k);rwa [show x+ -y=x-y by grind] at this
theorem Cq {u:List (List Rat)} {r:List Rat} (h:AZ (r::u)):rt u r*rt u r=AL u r:=Re.HR (by have:=h.2.2.1;grind)
theorem mf (u:List (List Rat)) (r:List Rat):0<=rt u r:=Re.Jl _
theorem B8 {u:List (List Rat)} {r:List Rat} (h:AZ (r::u)):In u (AL u r):=⟨r,h.2.1,rfl⟩
theorem FZ {u:List (List Rat)} {r:List Rat} (h:In u x):In (r::u) x:=CV.2 ⟨x,0,h,CG u,by grind⟩
theorem Iq (u:List (List Rat)) (r:List Rat):In (r::u) (rt u r):=CV.2 ⟨0,1,CG u,KA u,by grind⟩
theorem Aj:∀{u:List (List Rat)} {x y:Re},AZ u->In u x->In u y->In u (x*y)
 | [],x,y,_,f,g=>by
  obtain⟨p,rfl⟩:=Cp.1 f;obtain⟨q,rfl⟩:=Cp.1 g;exact Cp.2 ⟨p*q,(Re.ofRat_mul p q).symm⟩
 | r::u,x,y,h,f,g=>by
  obtain⟨a,b,ha,hb,rfl⟩:=CV.1 f;obtain⟨c,d,hc,j,rfl⟩:=CV.1 g;have k:=Cq h;refine CV.2 ⟨a*c+b*d*AL u r,a*d+b*c,DK (Aj h.1 ha hc) (Aj h.1 (Aj h.1 hb j) (B8 h)),DK (Aj h.1 ha j) (Aj h.1 hb hc),?_⟩
  grind
theorem YJ {u:List (List Rat)} {r:List Rat} (h:AZ (r::u)) {w:Re} (hw:In u w):w*w≠AL u r:=fun e=>h.2.2.2 ⟨w,hw,e⟩
theorem EC:∀{u:List (List Rat)} {x:Re},AZ u->In u x->x≠0->∃y,In u y/\x*y=1
 | [],x,_,j,d=>by
  obtain⟨p,rfl⟩:=Cp.1 j;have F:p≠0:=fun e=>d (by rw[e];rfl)
  refine⟨Re.ofRat p⁻¹,Cp.2 ⟨_,rfl⟩,?_⟩;rw[<-Re.ofRat_mul,show p*p⁻¹=1 by grind];rfl
 | r::u,x,h,j,d=>by
  obtain⟨a,b,ha,hb,rfl⟩:=CV.1 j;have G:=Cq h
  have v:a*a-b*b*AL u r≠0:=by
   intro e
   by_cases f:b=0
   ·have m:a=0:=by
     have:a*a=0:=by grind
     rcases Re.Gu this with e | e <;> exact e
    exact d (by grind)
   obtain⟨c,hc,g⟩:=EC h.1 hb f
   exact YJ h (Aj h.1 ha hc) (by
    have C:a*a=b*b*AL u r:=by grind
    have e2:a*c*(a*c)=(b*c)*(b*c)*AL u r:=by grind
    rw[e2,g];grind)
  obtain⟨y,k,z⟩:=EC h.1 (FY (Aj h.1 ha ha) (Aj h.1 (Aj h.1 hb hb) (B8 h))) v;refine⟨a*y+ -(b*y)*rt u r,CV.2 ⟨_,_,Aj h.1 ha k,Gw (Aj h.1 hb k),rfl⟩,?_⟩
  grind
theorem indep {u:List (List Rat)} {r:List Rat} (h:AZ (r::u)) {q f d:Re} (v:In u p) (z:In u q) (g:In u f) (j:In u d) (e:p+q*rt u r=f+d*rt u r):p=f/\q=d:=by
 have F:=Cq h
 by_cases m:q-d=0
 ·have:q=d:=by grind
  subst this;exact⟨by grind,rfl⟩
 exfalso
 obtain⟨c,hc,k⟩:=EC h.1 (FY z j) m;refine YJ h (Aj h.1 (FY g v) hc) ?_;have C:(q-d)*rt u r=f-p:=by grind
 have e2:(f-p)*c=rt u r*((q-d)*c):=by grind
 rw[e2,k];grind
theorem Q0:∀{u:List (List Rat)} {a b:List Rat},AZ u->a.length=2^u.length->b.length=2^u.length->AL u a=AL u b->a=b
 | [],a,b,_,ha,hb,e=>by
  match a,b,ha,hb with
  | [p],[q],_,_=>exact congrArg (fun x=>[x]) (Re.F7.1 e)
 | r::u,a,b,h,ha,hb,e=>by
  rw[B4] at ha hb;have l1:(a.take (2^u.length)).length=2^u.length:=by rw[List.length_take];omega
  have l2:(a.drop (2^u.length)).length=2^u.length:=by rw[List.length_drop];omega
  have l3:(b.take (2^u.length)).length=2^u.length:=by rw[List.length_take];omega
  have c:(b.drop (2^u.length)).length=2^u.length:=by rw[List.length_drop];omega
  obtain⟨d,e2⟩:=indep h ⟨_,l1,rfl⟩ ⟨_,l2,rfl⟩ ⟨_,l3,rfl⟩ ⟨_,c,rfl⟩ e;rw[<-List.take_append_drop (2^u.length) a,<-List.take_append_drop (2^u.length) b,Q0 h.1 l1 l3 d,Q0 h.1 l2 c e2]
theorem WG {u:List (List Rat)} (h:In u x):(co u x).length=2^u.length/\AL u (co u x)=x:=by
 unfold co;rw[dif_pos h];exact Classical.choose_spec h
theorem Cr {u:List (List Rat)} (h:In u x):(co u x).length=2^u.length:=(WG h).1
theorem EB {u:List (List Rat)} (h:In u x):AL u (co u x)=x:=(WG h).2
theorem J3 {u:List (List Rat)} (h:AZ u) (ha:a.length=2^u.length) (e:AL u a=x):co u x=a:=by
 have c:In u x:=⟨a,ha,e⟩;exact Q0 h (Cr c) ha ((EB c).trans e.symm)
theorem gG {u:List (List Rat)} (h:AZ u) (ha:a.length=2^u.length):co u (AL u a)=a:=J3 h ha rfl
theorem ML {u:List (List Rat)} (h:AZ u) (c:In u x) (d:In u y):co u (x+y)=List.zipWith (· + ·) (co u x) (co u y):=
 J3 h (by rw[List.length_zipWith,Cr c,Cr d];omega) (by rw[OO u _ _ (Cr c) (Cr d),EB c,EB d])
theorem Ko {u:List (List Rat)} (h:AZ u) (c:In u x):co u (-x)=(co u x).map (- ·):=
 J3 h (by rw[List.length_map,Cr c]) (by rw[OP u _ (Cr c),EB c])
theorem Qn {u:List (List Rat)} (h:AZ u):co u 0=List.replicate (2^u.length) 0:=J3 h List.length_replicate (MS u _)
theorem Cz {u:List (List Rat)} {r:List Rat} {q:Re} (h:AZ (r::u)) (c:In u p) (d:In u q) (f:x=p+q*rt u r):co (r::u) x=co u p++co u q:=by
 refine J3 h (by rw[List.length_append,Cr c,Cr d,B4]) ?_;rw[AL,<-Cr c,List.take_left,List.drop_left,EB c,EB d,f];rfl
theorem De (q:Rat):co [] (Re.ofRat q)=[q]:=J3 (u:=[]) trivial rfl rfl
theorem IA (q:Rat):∀{u:List (List Rat)},AZ u->co u (Re.ofRat q)=q::List.replicate (2^u.length-1) 0
 | [],_=>De q
 | r::u,h=>by
  rw[Cz h (Hj q u) (CG u) (by grind),IA q h.1,Qn h.1,List.cons_append,List.replicate_append_replicate];have:1<=2^u.length:=Nat.one_le_two_pow;have:2^(r::u).length-1=2^u.length-1+2^u.length:=by rw[B4];omega
  rw[this]
theorem gI {u:List (List Rat)} {r:List Rat} {q:Re} (h:AZ (r::u)) (c:In u p) (d:In u q) (f:x=p+q*rt u r):(co (r::u) x).take (2^u.length)=co u p:=by
 rw[Cz h c d f,<-Cr c,List.take_left]
theorem gH {u:List (List Rat)} {r:List Rat} {q:Re} (h:AZ (r::u)) (c:In u p) (d:In u q) (f:x=p+q*rt u r):(co (r::u) x).drop (2^u.length)=co u q:=by
 rw[Cz h c d f,<-Cr c,List.drop_left]
theorem MM {u:List (List Rat)} (h:AZ u) (d:In u x):(∀c∈co u x,c=0)↔x=0:=by
 constructor
 ·intro hc;have:co u x=List.replicate (2^u.length) 0:=List.eq_replicate_iff.2 ⟨Cr d,hc⟩;rw[<-EB d,this,MS]
 rintro rfl c hc;rw[Qn h] at hc;exact (List.mem_replicate.1 hc).2
theorem me {u:List (List Rat)} {r:List Rat} (h:AZ (r::u)):rt u r≠0:=by
 intro e;have c:=Cq h;have:=h.2.2.1;rw[e] at c
 grind
theorem ZZ {u:List (List Rat)} {r:List Rat} (h:AZ (r::u)):0<rt u r:=by
 have:=me h;have:=mf u r
 grind
end Go.Abs
namespace Go.Abs
def Sq (u:List (List Rat)) (x:Re):Prop:=∃w,In u w/\w*w=x
variable {a b n t w x:Re} {r:List Rat} {u:List (List Rat)}
theorem PY:(2:Re)≠0:=by
 intro h
 have c:(0:Re)<1:=by
  have:=Re.G1.2 (show (0:Rat)<1 by decide);exact this
 grind
theorem Rk {y:Re} (c:x≠0) (d:y≠0):x*y≠0:=fun h=>by rcases Re.Gu h with e | e;exact c e;exact d e
theorem aG (h:x*x=0):x=0:=by rcases Re.Gu h with e | e <;> exact e
theorem Z9 (h:AZ (r::u)) (ha:In u a):Sq (r::u) a↔Sq u a\/∃i,In u i/\AL u r*i=1/\Sq u (a*i):=by
 have F:=Cq h
 constructor
 ·rintro⟨w,hw,e⟩
  obtain⟨c,d,hc,j,rfl⟩:=CV.1 hw;have e2:(c*c+d*d*AL u r)+(2*c*d)*rt u r=a+0*rt u r:=by grind
  have z:In u (2*c*d):=by
   have:=DK (Aj h.1 hc j) (Aj h.1 hc j);rwa [show c*d+c*d=2*c*d by grind] at this
  obtain⟨C,v⟩:=indep h (DK (Aj h.1 hc hc) (Aj h.1 (Aj h.1 j j) (B8 h))) z ha (CG u) e2
  by_cases k:d=0
  ·left;exact⟨c,hc,by grind⟩
  right
  have g:c=0:=by
   apply Classical.byContradiction;intro g;exact Rk (Rk PY g) k v
  obtain⟨i,m,f⟩:=EC h.1 (B8 h) (by have:=h.2.2.1;grind);exact⟨i,m,f,d,j,by grind⟩
 rintro (⟨w,hw,e⟩ |⟨i,m,f,w,hw,e⟩)
 ·exact⟨w,FZ hw,e⟩
 refine⟨0+w*rt u r,CV.2 ⟨0,w,CG u,hw,rfl⟩,?_⟩;have:a=a*(AL u r*i):=by rw[f];grind
 grind
theorem aC (h:AZ (r::u)) (ha:In u a) (hb:In u b) (hw:Sq (r::u) (a+b*rt u r)):∃c d,In u c/\In u d/\c*c+d*d*AL u r=a/\2*c*d=b:=by
 have m:=Cq h;obtain⟨w,hw,e⟩:=hw;obtain⟨c,d,hc,f,rfl⟩:=CV.1 hw;have e2:(c*c+d*d*AL u r)+(2*c*d)*rt u r=a+b*rt u r:=by grind
 have k:In u (2*c*d):=by
  have:=DK (Aj h.1 hc f) (Aj h.1 hc f);rwa [show c*d+c*d=2*c*d by grind] at this
 obtain⟨g,j⟩:=indep h (DK (Aj h.1 hc hc) (Aj h.1 (Aj h.1 f f) (B8 h))) k ha hb e2;exact⟨c,d,hc,f,g,j⟩
theorem aD (h:AZ (r::u)) (ha:In u a) (hb:In u b) (hw:Sq (r::u) (a+b*rt u r)):Sq u (a*a-b*b*AL u r):=by
 obtain⟨c,d,hc,f,g,j⟩:=aC h ha hb hw;exact⟨c*c-d*d*AL u r,FY (Aj h.1 hc hc) (Aj h.1 (Aj h.1 f f) (B8 h)),by grind⟩
theorem aE (h:AZ (r::u)) (ha:In u a) (hb:In u b) (hw:Sq (r::u) (a+b*rt u r)) (g:n*n=a*a-b*b*AL u r) (ht:2*t=1):
  Sq u (t*(a+n))\/Sq u (t*(a-n)):=by
 obtain⟨c,d,hc,v,k,m⟩:=aC h ha hb hw;have hm:(n-(c*c-d*d*AL u r))*(n+(c*c-d*d*AL u r))=0:=by grind
 rcases Re.Gu hm with e | e
 ·left
  have f:a+n=2*(c*c):=by clear g hm;grind
  have j:t*(2*(c*c))=2*t*(c*c):=by clear g hm k m f e;grind
  exact⟨c,hc,by rw[f,j,ht];grind⟩
 right
 have f:a-n=2*(c*c):=by clear g hm;grind
 have j:t*(2*(c*c))=2*t*(c*c):=by clear g hm k m f e;grind
 exact⟨c,hc,by rw[f,j,ht];grind⟩
theorem Z7 {c i ρ s:Re} (G:n*n=a*a-b*b*ρ) (ht:2*t=1) (H:s*s=ρ) (hw:w*w=t*(a+n)) (f:(w+w)*i=1) (j:c=w+b*i*s):c*c=a+b*s:=by
 have d:w≠0:=by intro e;subst e;grind
 have k:2*(w*w)=a+n:=by rw[hw];grind
 have m:(a+n)*(a-n)=b*b*ρ:=by grind
 have h3:2*(w*w)*(b*i*(b*i)*ρ)*2=b*b*ρ:=by
  have:2*(w*w)*(b*i*(b*i)*ρ)*2=b*b*ρ*(((w+w)*i)*((w+w)*i)):=by grind
  rw[this,f];grind
 have g:(a+n)*(2*(b*i*(b*i)*ρ)-(a-n))=0:=by grind
 have v:2*(b*i*(b*i)*ρ)-(a-n)=0:=by
  rcases Re.Gu g with e | e
  ·exfalso
   have:2*(w*w)=0:=by grind
   rcases Re.Gu this with e | e
   ·exact PY e
   exact d (aG e)
  exact e
 have z:2*w*(b*i)=b:=by
  have:2*w*(b*i)=b*((w+w)*i):=by grind
  rw[this,f];grind
 have C:c*c=w*w+b*i*(b*i)*ρ+2*w*(b*i)*s:=by rw[j];grind
 have h:2*(w*w+b*i*(b*i)*ρ-a)=0:=by grind
 have F:w*w+b*i*(b*i)*ρ-a=0:=by
  rcases Re.Gu h with e | e
  ·exact absurd e PY
  exact e
 grind
theorem Z8 (h:AZ (r::u)) (c:b≠0) (g:n*n=a*a-b*b*AL u r) (ht:2*t=1) (hw:w*w=t*(a+n)):w≠0:=by
 intro e;subst e;have f:a+n=0:=by grind
 have d:b*b*AL u r=0:=by grind
 have h3:=h.2.2.1;rcases Re.Gu d with e | e
 ·exact c (aG e)
 grind
theorem aB {q:Rat}:Sq [] (Re.ofRat q)↔∃r:Rat,0<=r/\r*r=q:=by
 constructor
 ·rintro⟨w,hw,e⟩
  obtain⟨r,rfl⟩:=Cp.1 hw;rw[<-Re.ofRat_mul,Re.F7] at e;rcases Rat.le_total (a:=0) (b:=r) with h | h
  ·exact⟨r,h,e⟩
  exact⟨-r,by grind,by grind⟩
 rintro⟨r,_,e⟩
 exact⟨Re.ofRat r,Cp.2 ⟨r,rfl⟩,by rw[<-Re.ofRat_mul,e]⟩
end Go.Abs
namespace Go.Abs
def DN (D:Nat) (a:List Rat):Prop:=∀q∈a,∃n:Int,q*D=n
def MX (B:Nat) (a:List Rat):Prop:=∀q∈a,-(B:Rat)<=q/\q<=B
def Bd (k:Nat) (a:List Rat):Prop:=∃D:Nat,0<D/\D<=2^k/\DN D a/\MX (2^k) a
def TB (R:Nat) (u:List (List Rat)):Prop:=∀r∈u,Bd R r
def EE:Nat->Nat->Nat
 | 0,_=>0
 | h+1,R=>2*EE h R+R+2
def II:Nat->Nat->Nat->Nat
 | 0,_,s=>2*s
 | h+1,R,s=>s+EE h R+II h R (2*s+2*EE h R+R+1)
def GG:Nat->Nat->Nat
 | 0,_=>0
 | h+1,R=>3*EE h R+R+1+2*GG h R+II h R R
theorem iV {p q:Rat} (h:∃n:Int,p=n) (k:∃n:Int,q=n):∃n:Int,p+q=n:=by
 obtain⟨a,rfl⟩:=h;obtain⟨b,rfl⟩:=k;exact⟨a+b,by rw[Rat.intCast_add]⟩
theorem XL {p q:Rat} (h:∃n:Int,p=n) (k:∃n:Int,q=n):∃n:Int,p*q=n:=by
 obtain⟨a,rfl⟩:=h;obtain⟨b,rfl⟩:=k;exact⟨a*b,by rw[Rat.intCast_mul]⟩
theorem iW (k:Nat):∃n:Int,(k:Rat)=n:=⟨k,rfl⟩
theorem Hd (a b:Nat):((a*b:Nat):Rat)=(a:Rat)*b:=Rat.natCast_mul a b
theorem DN.mul_right {D:Nat} {a:List Rat} (h:DN D a) (c:Nat):DN (D*c) a:=fun q d=>by
 have:=XL (h q d) (iW c);rwa [Rat.mul_assoc,<-Hd] at this
theorem DN.dvd {D E:Nat} {a:List Rat} (h:DN D a) (d:D∣E):DN E a:=by
 obtain⟨c,rfl⟩:=d;exact h.mul_right c
theorem bK {a b:List Rat} {q:Rat} (h:q∈List.zipWith (· + ·) a b):∃x∈a,∃y∈b,q=x+y:=by
 obtain⟨i,c⟩:=List.mem_iff_getElem?.1 h;rw[List.getElem?_zipWith] at c;cases ha:a[i]? with
 | none=>rw[ha] at c;simp at c
 | some x=>
  cases hb:b[i]? with
  | none=>rw[ha,hb] at c;simp at c
  | some y=>
   rw[ha,hb] at c;exact⟨x,List.mem_of_getElem? ha,y,List.mem_of_getElem? hb,(Option.some.inj c).symm⟩
theorem DN.add {D:Nat} {a b:List Rat} (h:DN D a) (k:DN D b):DN D (List.zipWith (· + ·) a b):=fun q c=>by
 obtain⟨x,d,y,f,rfl⟩:=bK c;have:=iV (h x d) (k y f);rwa [<-Rat.add_mul] at this
theorem DN.neg {D:Nat} {a:List Rat} (h:DN D a):DN D (a.map (- ·)):=fun q d=>by
 obtain⟨x,f,rfl⟩:=List.mem_map.1 d;obtain⟨n,c⟩:=h x f;exact⟨-n,by rw[Rat.intCast_neg,<-c,Rat.neg_mul]⟩
theorem MX.add {B C:Nat} {a b:List Rat} (h:MX B a) (k:MX C b):MX (B+C) (List.zipWith (· + ·) a b):=fun q c=>by
 obtain⟨x,d,y,f,rfl⟩:=bK c;have:=h x d;have:=k y f;rw[Rat.natCast_add]
 grind
theorem MX.neg {B:Nat} {a:List Rat} (h:MX B a):MX B (a.map (- ·)):=fun q c=>by
 obtain⟨x,d,rfl⟩:=List.mem_map.1 c;have:=h x d
 grind
theorem MX.mono {B C:Nat} {a:List Rat} (h:MX B a) (hc:B<=C):MX C a:=fun q d=>by
 have:=h q d;have c:(B:Rat)<=C:=Rat.natCast_le_natCast.2 hc
 grind
theorem DN.app {D:Nat} {a b:List Rat}:DN D (a++b)↔DN D a/\DN D b:=
 ⟨fun h=>⟨fun q c=>h q (List.mem_append_left _ c),fun q c=>h q (List.mem_append_right _ c)⟩,fun h q c=>(List.mem_append.1 c).elim (h.1 q) (h.2 q)⟩
theorem MX.app {B:Nat} {a b:List Rat}:MX B (a++b)↔MX B a/\MX B b:=
 ⟨fun h=>⟨fun q c=>h q (List.mem_append_left _ c),fun q c=>h q (List.mem_append_right _ c)⟩,fun h q c=>(List.mem_append.1 c).elim (h.1 q) (h.2 q)⟩
section
variable {u:List (List Rat)} {x y:Re}
theorem WH (h:AZ u) (d:In u x) (c:In u y):co u (x-y)=List.zipWith (· + ·) (co u x) ((co u y).map (- ·)):=by
 rw[show x-y=x+ -y by grind,ML h d (Gw c),Ko h c]
theorem DN.Fv {D:Nat} (h:AZ u) (c:In u x) (d:In u y) (a:DN D (co u x)) (b:DN D (co u y)):DN D (co u (x+y)):=by rw[ML h c d];exact a.add b
theorem DN.I6 {D:Nat} (h:AZ u) (c:In u x) (d:In u y) (a:DN D (co u x)) (b:DN D (co u y)):DN D (co u (x-y)):=by rw[WH h c d];exact a.add b.neg
theorem MX.Fv {B C:Nat} (h:AZ u) (c:In u x) (d:In u y) (a:MX B (co u x)) (b:MX C (co u y)):MX (B+C) (co u (x+y)):=by rw[ML h c d];exact a.add b
theorem MX.I6 {B C:Nat} (h:AZ u) (c:In u x) (d:In u y) (a:MX B (co u x)) (b:MX C (co u y)):MX (B+C) (co u (x-y)):=by rw[WH h c d];exact a.add b.neg
end
theorem OQ:∀(u:List (List Rat)) (c:Rat) (a:List Rat),a.length=2^u.length->AL u (a.map (c* ·))=Re.ofRat c*AL u a
 | [],c,a,ha=>by
  match a,ha with
  | [p],_=>exact Re.ofRat_mul c p
 | r::u,c,a,ha=>by
  rw[B4] at ha;rw[AL,AL,<-List.map_take,<-List.map_drop,OQ u _ _ (by rw[List.length_take];omega),OQ u _ _ (by rw[List.length_drop];omega)]
  grind
theorem Qm {u:List (List Rat)} {x:Re} (h:AZ u) (d:In u x) (c:Rat):co u (Re.ofRat c*x)=(co u x).map (c* ·):=
 J3 h (by rw[List.length_map,Cr d]) (by rw[OQ u c _ (Cr d),EB d])
theorem MV {u:List (List Rat)} {x:Re} (d:In u x) (c:Rat):In u (Re.ofRat c*x):=
 ⟨(co u x).map (c* ·),by rw[List.length_map,Cr d],by rw[OQ u c _ (Cr d),EB d]⟩
theorem Kr {u:List (List Rat)} {x:Re} (h:AZ u) (j:In u x) {D c:Nat}:DN (D*c) (co u x)↔DN D (co u (Re.ofRat c*x)):=by
 rw[Qm h j]
 constructor
 ·intro k q f;obtain⟨p,g,rfl⟩:=List.mem_map.1 f;obtain⟨n,d⟩:=k p g;exact⟨n,by rw[<-d,Hd];grind⟩
 intro k q f;obtain⟨n,d⟩:=k _ (List.mem_map.2 ⟨q,f,rfl⟩);exact⟨n,by rw[<-d,Hd];grind⟩
theorem C2 (k:Nat):0<2^k:=Nat.two_pow_pos k
theorem CQ {a b:Nat} (h:a<=b:=by omega):2^a<=2^b:=Nat.pow_le_pow_right (by decide) h
theorem TB.tail {R:Nat} {r:List Rat} {u:List (List Rat)} (h:TB R (r::u)):TB R u:=fun x c=>h x (List.mem_cons_of_mem _ c)
theorem TB.head {R:Nat} {r:List Rat} {u:List (List Rat)} (h:TB R (r::u)):Bd R r:=h r List.mem_cons_self
theorem Es {r:List Rat} {u:List (List Rat)} (h:AZ (r::u)):co u (AL u r)=r:=gG h.1 h.2.1
theorem OA {r:List Rat} {u:List (List Rat)} {a b c d x y:Re} (h:AZ (r::u)) (ha:In u a) (hb:In u b) (hc:In u c) (f:In u d) (g:x=a+b*rt u r) (j:y=c+d*rt u r):
  co (r::u) (x*y)=co u (a*c+b*d*AL u r)++co u (a*d+b*c):=by
 have k:=Cq h;exact Cz h (DK (Aj h.1 ha hc) (Aj h.1 (Aj h.1 hb f) (B8 h))) (DK (Aj h.1 ha f) (Aj h.1 hb hc)) (by subst g;subst j;grind)
theorem J5:∀{u:List (List Rat)} {R:Nat},AZ u->TB R u->∃K:Nat,0<K/\K<=2^EE u.length R/\∀{x y:Re} {D m:Nat},In u x->In u y->DN D (co u x)->DN m (co u y)->DN (D*m*K) (co u (x*y))
 | [],R,_,_=>⟨1,by decide,by simp[EE],fun {x y D m} G H h k=>by
  obtain⟨p,rfl⟩:=Cp.1 G;obtain⟨q,rfl⟩:=Cp.1 H;rw[De] at h k;rw[<-Re.ofRat_mul,De];intro z O;rw[List.mem_singleton.1 O];have:=XL (h p List.mem_cons_self) (k q List.mem_cons_self);rw[Hd,Hd];rwa [show p*(D:Rat)*(q*(m:Rat))=p*q*(D*m*(1:Nat)) by have:((1:Nat):Rat)=1:=rfl;grind] at this⟩
 | r::u,R,h,L=>by
  obtain⟨K,J,v,hm⟩:=J5 h.1 L.tail;obtain⟨E,M,F,C,_⟩:=L.head;refine⟨K*K*E,Nat.mul_pos (Nat.mul_pos J J) M,?_,fun {x y D m} G H f g=>?_⟩
  ·have I:K*K*E<=2^EE u.length R*2^EE u.length R*2^R:=Nat.mul_le_mul (Nat.mul_le_mul v v) F;rw[<-Nat.pow_add,<-Nat.pow_add] at I;exact Nat.le_trans I (CQ (by rw[List.length_cons,EE];omega))
  obtain⟨a,b,ha,hb,rfl⟩:=CV.1 G;obtain⟨c,d,hc,j,rfl⟩:=CV.1 H;rw[Cz h ha hb rfl,DN.app] at f;rw[Cz h hc j rfl,DN.app] at g;rw[OA h ha hb hc j rfl rfl,DN.app];have N:DN E (co u (AL u r)):=by rw[Es h];exact C
  refine⟨DN.Fv h.1 (Aj h.1 ha hc) (Aj h.1 (Aj h.1 hb j) (B8 h)) ((hm ha hc f.1 g.1).dvd ⟨K*E,by grind⟩) ((hm (Aj h.1 hb j) (B8 h) (hm hb j f.2 g.2) N).dvd ⟨1,by grind⟩),
   DN.Fv h.1 (Aj h.1 ha j) (Aj h.1 hb hc) ((hm ha j f.1 g.2).dvd ⟨K*E,by grind⟩) ((hm hb hc f.2 g.1).dvd ⟨K*E,by grind⟩)⟩
theorem Ro {p q:Rat} {B C:Nat} (h: -(B:Rat)<=p/\p<=B) (k: -(C:Rat)<=q/\q<=C): -((B*C:Nat):Rat)<=p*q/\p*q<=((B*C:Nat):Rat):=by
 rw[Hd];exact⟨j7 h.2 h.1 k.2 k.1,LK h.2 h.1 k.2 k.1⟩
theorem IK:∀{u:List (List Rat)} {R:Nat},AZ u->TB R u->∀{x y:Re} {B C:Nat},In u x->In u y->MX B (co u x)->MX C (co u y)->MX (B*C*2^EE u.length R) (co u (x*y))
 | [],R,_,_,x,y,B,C,F,G,h,k=>by
  obtain⟨p,rfl⟩:=Cp.1 F;obtain⟨q,rfl⟩:=Cp.1 G;rw[De] at h k;rw[<-Re.ofRat_mul,De];intro z N;rw[List.mem_singleton.1 N];have:=Ro (h p List.mem_cons_self) (k q List.mem_cons_self);rwa [show B*C*2^EE ([]:List (List Rat)).length R=B*C by simp[EE]]
 | r::u,R,h,H,x,y,B,C,F,G,f,g=>by
  obtain⟨E,O,L,_,v⟩:=H.head;have m:=fun {x y:Re} {B C:Nat}=>IK (R:=R) (x:=x) (y:=y) (B:=B) (C:=C) h.1 H.tail
  obtain⟨a,b,ha,hb,rfl⟩:=CV.1 F;obtain⟨c,d,hc,j,rfl⟩:=CV.1 G;rw[Cz h ha hb rfl,MX.app] at f;rw[Cz h hc j rfl,MX.app] at g;rw[OA h ha hb hc j rfl rfl,MX.app];have M:MX (2^R) (co u (AL u r)):=by rw[Es h];exact v
  have e:EE (r::u).length R=EE u.length R+EE u.length R+R+2:=by rw[List.length_cons,EE];omega
  rw[e,Nat.pow_add,Nat.pow_add,Nat.pow_add];have I:=C2 (EE u.length R);have J:=C2 R
  generalize 2^EE u.length R=K at*
  generalize 2^R=S at*
  have k1:B*C*K<=B*C*(K*K*S):=Nat.mul_le_mul_left _ (by
   have:K*1<=K*(K*S):=Nat.mul_le_mul_left _ (Nat.mul_pos I J);rw[Nat.mul_assoc];omega)
  have k2:B*C*K*S*K=B*C*(K*K*S):=by grind
  refine⟨(MX.Fv h.1 (Aj h.1 ha hc) (Aj h.1 (Aj h.1 hb j) (B8 h)) (m ha hc f.1 g.1) (m (Aj h.1 hb j) (B8 h) (m hb j f.2 g.2) M)).mono ?_,
   (MX.Fv h.1 (Aj h.1 ha j) (Aj h.1 hb hc) (m ha j f.1 g.2) (m hb hc f.2 g.1)).mono ?_⟩
  ·rw[k2];grind
  grind
end Go.Abs
namespace Go.Abs
variable {R s t:Nat} {p q x y:Re} {r:List Rat} {u:List (List Rat)}
theorem Bd.mono {k l:Nat} {a:List Rat} (h:Bd k a) (c:k<=l):Bd l a:=by
 obtain⟨D,d,f,g,h3⟩:=h;exact⟨D,d,Nat.le_trans f (CQ c),g,h3.mono (CQ c)⟩
theorem VU (h:AZ u) (c:In u x) (d:In u y) (a:Bd s (co u x)) (b:Bd t (co u y)):Bd (s+t+1) (co u (x+y)):=by
 obtain⟨D,f,g,j,h3⟩:=a;obtain⟨E,k0,k1,k2,k⟩:=b;refine⟨D*E,Nat.mul_pos f k0,?_,DN.Fv h c d (j.dvd ⟨E,rfl⟩) (k2.dvd ⟨D,Nat.mul_comm _ _⟩),(MX.Fv h c d h3 k).mono ?_⟩
 ·have:=Nat.mul_le_mul g k1;rw[<-Nat.pow_add] at this;exact Nat.le_trans this (CQ)
 have m:2^s<=2^(s+t):=CQ;have v:2^t<=2^(s+t):=CQ;rw[Nat.pow_succ];omega
theorem Va (h:AZ u) (g:In u x) (a:Bd s (co u x)):Bd s (co u (-x)):=by
 obtain⟨D,c,d,f,h3⟩:=a;rw[Ko h g];exact⟨D,c,d,f.neg,h3.neg⟩
theorem fX (h:AZ u) (d:In u x) (c:In u y) (a:Bd s (co u x)) (b:Bd t (co u y)):Bd (s+t+1) (co u (x-y)):=by
 rw[show x-y=x+ -y by grind];exact VU h d (Gw c) a (Va h c b)
theorem fU (h:AZ u) (d:TB R u) (f:In u x) (g:In u y) (a:Bd s (co u x)) (b:Bd t (co u y)):Bd (s+t+EE u.length R) (co u (x*y)):=by
 obtain⟨D,j,k,m,h3⟩:=a;obtain⟨E,k0,k1,k2,z⟩:=b;obtain⟨K,v,c,hm⟩:=J5 h d;refine⟨D*E*K,Nat.mul_pos (Nat.mul_pos j k0) v,?_,hm f g m k2,(IK h d f g h3 z).mono ?_⟩
 ·have:=Nat.mul_le_mul (Nat.mul_le_mul k k1) c;rwa [<-Nat.pow_add,<-Nat.pow_add] at this
 rw[<-Nat.pow_add,<-Nat.pow_add];exact Nat.le_refl _
theorem fV {q:Rat} (h:AZ u) (a:Bd s [q]):Bd s (co u (Re.ofRat q)):=by
 obtain⟨D,d,f,g,h3⟩:=a;rw[IA q h];refine⟨D,d,f,fun z c=>?_,fun z c=>?_⟩
 ·rcases List.mem_cons.1 c with rfl | c
  ·exact g z List.mem_cons_self
  rw[(List.mem_replicate.1 c).2];exact⟨0,by rw[Rat.zero_mul];rfl⟩
 rcases List.mem_cons.1 c with rfl | c
 ·exact h3 z List.mem_cons_self
 rw[(List.mem_replicate.1 c).2];have:(0:Rat)<=((2^s:Nat):Rat):=Rat.natCast_nonneg
 grind
theorem VZ (h:AZ (r::u)) (g:In u p) (j:In u q) (a:Bd s (co (r::u) (p+q*rt u r))):Bd s (co u p)/\Bd s (co u q):=by
 obtain⟨D,d,f,c,h3⟩:=a;rw[Cz h g j rfl] at c h3;exact⟨⟨D,d,f,(DN.app.1 c).1,(MX.app.1 h3).1⟩,⟨D,d,f,(DN.app.1 c).2,(MX.app.1 h3).2⟩⟩
theorem N2 (h:AZ (r::u)) (g:In u p) (j:In u q) (a:Bd s (co u p)) (b:Bd t (co u q)):Bd (s+t) (co (r::u) (p+q*rt u r)):=by
 obtain⟨D,c,d,f,h3⟩:=a;obtain⟨E,k0,k1,k2,k⟩:=b;rw[Cz h g j rfl];refine⟨D*E,Nat.mul_pos c k0,?_,DN.app.2 ⟨f.dvd ⟨E,rfl⟩,k2.dvd ⟨D,Nat.mul_comm _ _⟩⟩,MX.app.2 ⟨h3.mono (CQ),k.mono (CQ)⟩⟩;have:=Nat.mul_le_mul d k1;rwa [<-Nat.pow_add] at this
theorem QS (h:AZ (r::u)) (c:TB R (r::u)):Bd R (co u (AL u r)):=by rw[Es h];exact c.head
theorem Vb (h:AZ (r::u)) (g:TB R (r::u)) (d:In u p) (c:In u q) (a:Bd s (co (r::u) (p+q*rt u r))):
  Bd (2*s+2*EE u.length R+R+1) (co u (p*p-q*q*AL u r)):=by
 obtain⟨D,v,z,C,h3⟩:=a;rw[Cz h d c rfl] at C h3;obtain⟨k,m⟩:=DN.app.1 C;obtain⟨mp,G⟩:=MX.app.1 h3;obtain⟨K,F,f,hm⟩:=J5 h.1 g.tail;obtain⟨E,k0,k1,k2,I⟩:=g.head;have H:DN E (co u (AL u r)):=by rw[Es h];exact k2
 have j:MX (2^R) (co u (AL u r)):=by rw[Es h];exact I
 refine⟨D*D*K*E*K,Nat.mul_pos (Nat.mul_pos (Nat.mul_pos (Nat.mul_pos v v) F) k0) F,?_,DN.I6 h.1 (Aj h.1 d d) (Aj h.1 (Aj h.1 c c) (B8 h)) ((hm d d k k).dvd ⟨E*K,by grind⟩) (hm (Aj h.1 c c) (B8 h) (hm c c m m) H),
  (MX.I6 h.1 (Aj h.1 d d) (Aj h.1 (Aj h.1 c c) (B8 h)) (IK h.1 g.tail d d mp mp) (IK h.1 g.tail (Aj h.1 c c) (B8 h) (IK h.1 g.tail c c G G) j)).mono ?_⟩
 ·have:=Nat.mul_le_mul (Nat.mul_le_mul (Nat.mul_le_mul (Nat.mul_le_mul z z) f) k1) f;rw[<-Nat.pow_add,<-Nat.pow_add,<-Nat.pow_add,<-Nat.pow_add] at this;exact Nat.le_trans this (CQ)
 rw[<-Nat.pow_add,<-Nat.pow_add,<-Nat.pow_add,<-Nat.pow_add,Nat.pow_succ];have J:2^(s+s+EE u.length R)<=2^(2*s+2*EE u.length R+R):=CQ;have e2:2^(s+s+EE u.length R+R+EE u.length R)<=2^(2*s+2*EE u.length R+R):=CQ;omega
theorem YC {a b:Nat} (h:a<=b):(a:Rat)<=b:=Rat.natCast_le_natCast.2 h
theorem fT {q p:Rat} (h:Bd s [q]) (J:q*p=1):Bd (2*s) [p]:=by
 obtain⟨D,k,v,G,h3⟩:=h;obtain⟨n,f⟩:=G q List.mem_cons_self;have hb:=h3 q List.mem_cons_self;have N:(0:Rat)<D:=Rat.natCast_pos.2 k
 have H:n≠0:=by
  intro e;subst e;have:(D:Rat)=q*D*p:=by grind
  rw[f] at this;have k:((0:Int):Rat)=0:=rfl
  grind
 have d:p*(n:Rat)=D:=by rw[<-f];grind
 have c:(n.natAbs:Rat)=n\/(n.natAbs:Rat)= -n:=by
  rcases Int.natAbs_eq n with e | e
  ·left
   have:((n.natAbs:Int):Rat)=(n:Rat):=congrArg _ e.symm;exact this
  right
  have:((n.natAbs:Int):Rat)=((-n:Int):Rat):=congrArg _ (by omega);rw[Rat.intCast_neg] at this;exact this
 have I:(1:Rat)<=n.natAbs:=by
  have:1<=n.natAbs:=by omega
  exact YC this
 have g:n.natAbs<=D*2^s:=by
  have F:=Ro (C:=D) hb (q:=(D:Rat)) ⟨by grind,by grind⟩;rw[f,Nat.mul_comm] at F;apply Rat.natCast_le_natCast.1;rcases c with e | e <;> rw[e] <;> grind
 refine⟨n.natAbs,by omega,?_,fun z j=>?_,fun z j=>?_⟩
 ·have:=Nat.mul_le_mul_right (2^s) v;rw[<-Nat.pow_add] at this;exact Nat.le_trans g (Nat.le_trans this (CQ))
 ·rw[List.mem_singleton.1 j];rcases c with e | e <;> rw[e]
  ·exact⟨D,d⟩
  exact⟨-D,by rw[Rat.intCast_neg,Rat.mul_neg,d];rfl⟩
 rw[List.mem_singleton.1 j];have K:(D:Rat)<=((2^(2*s):Nat):Rat):=YC (Nat.le_trans v (CQ));have L:p=D\/True:= .inr trivial;have M:p*(n.natAbs:Rat)=D\/p*(n.natAbs:Rat)= -D:=by rcases c with e | e <;> rw[e] <;> grind
 generalize (n.natAbs:Rat)=m at*
 generalize ((2^(2*s):Nat):Rat)=S at*
 have O:p<=D:=by
  apply Classical.byContradiction;intro hc;have:=Rat.mul_pos (a:=p-D) (b:=m) (by grind) (by grind);have:=Rat.mul_nonneg (a:=(D:Rat)) (b:=m-1) (by grind) (by grind)
  grind
 have Q: -D<=p:=by
  apply Classical.byContradiction;intro hc;have:=Rat.mul_pos (a:= -D-p) (b:=m) (by grind) (by grind);have:=Rat.mul_nonneg (a:=(D:Rat)) (b:=m-1) (by grind) (by grind)
  grind
 grind
theorem Ii:∀{u:List (List Rat)} {R:Nat} {x y:Re} {s:Nat},AZ u->TB R u->In u x->In u y->x*y=1->Bd s (co u x)->Bd (II u.length R s) (co u y)
 | [],R,x,y,s,_,_,F,G,e,h=>by
  obtain⟨p,rfl⟩:=Cp.1 F;obtain⟨q,rfl⟩:=Cp.1 G;rw[De] at h ⊢;rw[<-Re.ofRat_mul] at e;exact fT h (Re.F7.1 e)
 | r::u,R,x,y,s,h,j,F,G,e,hb=>by
  obtain⟨a,b,ha,c,rfl⟩:=CV.1 F;have U:=Cq h;have N:=Vb h j ha c hb;have d:=FY (Aj h.1 ha ha) (Aj h.1 (Aj h.1 c c) (B8 h))
  have z:a*a-b*b*AL u r≠0:=by
   intro O;have I:(a+b*rt u r)*(a-b*rt u r)=0:=by grind
   rcases Re.Gu I with e2 | e2
   ·rw[e2] at e;have k:(0:Re)<1:=Re.G1.2 (show (0:Rat)<1 by decide)
    grind
   obtain⟨Q,T⟩:=indep h ha (Gw c) (CG u) (CG u) (show a+ -b*rt u r=0+0*rt u r by grind);have:a+b*rt u r=0:=by grind
   rw[this] at e;have k:(0:Re)<1:=Re.G1.2 (show (0:Rat)<1 by decide)
   grind
  obtain⟨i,f,g⟩:=EC h.1 d z;have C:=Ii h.1 j.tail d f g N
  have J:y=a*i+ -(b*i)*rt u r:=by
   have:y=(a+b*rt u r)*y*((a-b*rt u r)*i):=by
    have:(a+b*rt u r)*y*((a-b*rt u r)*i)=y*((a*a-b*b*AL u r)*i):=by grind
    rw[this,g];grind
   rw[e] at this
   grind
  obtain⟨D,L,k,m,h3⟩:=hb;rw[Cz h ha c rfl] at m h3;obtain⟨E,k0,k1,k2,H⟩:=C;obtain⟨K,M,v,hm⟩:=J5 h.1 j.tail;rw[J,Cz h (Aj h.1 ha f) (Gw (Aj h.1 c f)) rfl,Ko h.1 (Aj h.1 c f),List.length_cons,II];have m1:=IK h.1 j.tail ha f (MX.app.1 h3).1 H;have m2:=IK h.1 j.tail c f (MX.app.1 h3).2 H;rw[<-Nat.pow_add,<-Nat.pow_add] at m1 m2;refine⟨D*E*K,Nat.mul_pos (Nat.mul_pos L k0) M,?_,DN.app.2 ⟨hm ha f (DN.app.1 m).1 k2,(hm c f (DN.app.1 m).2 k2).neg⟩,MX.app.2 ⟨m1.mono (CQ),(m2.mono (CQ)).neg⟩⟩;have:=Nat.mul_le_mul (Nat.mul_le_mul k k1) v;rw[<-Nat.pow_add,<-Nat.pow_add] at this;exact Nat.le_trans this (CQ)
end Go.Abs
namespace Go.Abs
variable {B:Nat} {u:List (List Rat)} {x:Re}
theorem iZ {r:Rat} {n:Int} (h:r*r=n):∃m:Int,r=m:=by
 have d:(r*r).den=1:=by rw[h];rfl
 have c:(r*r).den=r.den*r.den:=by
  have f:Nat.gcd (r.num*r.num).natAbs (r.den*r.den)=1:=by
   rw[Int.natAbs_mul];exact Nat.Coprime.mul_left (Nat.Coprime.mul_right r.reduced r.reduced) (Nat.Coprime.mul_right r.reduced r.reduced)
  rw[Rat.mul_def,Rat.normalize_eq];simp only[f,Nat.div_one]
 rw[d] at c;have h3:r.den=1:=Nat.eq_one_of_mul_eq_one_left c.symm;refine⟨r.num,?_⟩;have:=LU r;rw[h3] at this;have e:((1:Nat):Rat)=1:=rfl
 grind
theorem YU {Y:Nat} {c e:Re} (h:e=2*(c*c)):Re.ofRat ((2*Y:Nat):Rat)*c*(Re.ofRat ((2*Y:Nat):Rat)*c)=Re.ofRat ((2*Y*Y:Nat):Rat)*e:=by
 subst h;have e2:Re.ofRat ((2:Nat):Rat)=2:=rfl;simp only[Hd,Re.ofRat_mul,e2]
 grind
theorem Wa:∀{u:List (List Rat)} {R:Nat},AZ u->TB R u->∃G:Nat,0<G/\G<=2^GG u.length R/\∀{x w:Re} {D:Nat},In u w->w*w=x->DN D (co u x)->DN (D*G) (co u w)
 | [],R,_,_=>⟨1,by decide,by simp[GG],fun {x w D} hw e h=>by
  obtain⟨p,rfl⟩:=Cp.1 hw;subst e;rw[<-Re.ofRat_mul,De] at h;rw[De];intro z hz;rw[List.mem_singleton.1 hz];obtain⟨n,k⟩:=h _ List.mem_cons_self
  obtain⟨m,hm⟩:=iZ (r:=p*D) (n:=n*D) (by
   rw[Rat.intCast_mul,<-k];have:((D:Int):Rat)=(D:Rat):=rfl
   grind)
  exact⟨m,by rw[Nat.mul_one];exact hm⟩⟩
 | r::u,R,h,M=>by
  obtain⟨G,hG,J,N⟩:=Wa h.1 M.tail;obtain⟨K,X,v,hm⟩:=J5 h.1 M.tail;obtain⟨E,hE,T,Q,_⟩:=M.head;have hr:=Cq h;have a2:DN E (co u (AL u r)):=by rw[Es h];exact Q
  obtain⟨i,Z,O⟩:=EC h.1 (B8 h) (by have:=h.2.2.1;grind);obtain⟨I,hI,W,U,_⟩:=Ii h.1 M.tail (B8 h) Z O (QS h M);refine⟨2*(K*K*E)*G*G*I*K,Nat.mul_pos (Nat.mul_pos (Nat.mul_pos (Nat.mul_pos (Nat.mul_pos (by decide) (Nat.mul_pos (Nat.mul_pos X X) hE)) hG) hG) hI) X,?_,fun {x w D} hw e F=>?_⟩
  ·have h1:=Nat.mul_le_mul (Nat.mul_le_mul (Nat.mul_le_mul (Nat.mul_le_mul (Nat.mul_le_mul (Nat.le_refl (2^1)) (Nat.mul_le_mul (Nat.mul_le_mul v v) T)) J) J) W) v;simp only[<-Nat.pow_add] at h1;exact Nat.le_trans h1 (CQ (by rw[List.length_cons,GG];omega))
  obtain⟨c,d,hc,j,rfl⟩:=CV.1 hw
  have f:In u (2*c*d):=by
   have:=DK (Aj h.1 hc j) (Aj h.1 hc j);rwa [show c*d+c*d=2*c*d by grind] at this
  have g:=B8 h;have ha:=DK (Aj h.1 hc hc) (Aj h.1 (Aj h.1 j j) g);have ex:x=(c*c+d*d*AL u r)+(2*c*d)*rt u r:=by rw[<-e];grind
  rw[ex,Cz h ha f rfl,DN.app] at F
  generalize hA:c*c+d*d*AL u r=a at*
  generalize hB:2*c*d=b at*
  have k:=FY (Aj h.1 hc hc) (Aj h.1 (Aj h.1 j j) g)
  generalize hN:c*c-d*d*AL u r=n at*
  have L:=FY (Aj h.1 ha ha) (Aj h.1 (Aj h.1 f f) g);have Y:n*n=a*a-b*b*AL u r:=by grind
  have d1:DN (D*D*(K*K*E)) (co u (a*a-b*b*AL u r)):=
   DN.I6 h.1 (Aj h.1 ha ha) (Aj h.1 (Aj h.1 f f) g) ((hm ha ha F.1 F.1).dvd ⟨K*E,by grind⟩) ((hm (Aj h.1 f f) g (hm f f F.2 F.2) a2).dvd ⟨1,by grind⟩)
  generalize K*K*E=C at*
  have d2:DN (D*C*G) (co u n):=by
   have k1:DN 1 (co u (Re.ofRat ((D*C*(D*C):Nat):Rat)*(a*a-b*b*AL u r))):=(Kr h.1 L).1 (d1.dvd ⟨C,by grind⟩);have k2:=N (x:=Re.ofRat ((D*C*(D*C):Nat):Rat)*(a*a-b*b*AL u r)) (w:=Re.ofRat ((D*C:Nat):Rat)*n) (D:=1) (MV k _) (by rw[Hd (D*C),Re.ofRat_mul,<-Y];grind) k1;exact ((Kr h.1 k).2 k2).dvd ⟨1,by grind⟩
  have H:DN (D*C*G) (co u a):=F.1.dvd ⟨C*G,by grind⟩;have d3:DN (D*C*G) (co u (a+n)):=DN.Fv h.1 ha k H d2;have d4:DN (D*C*G) (co u (a-n)):=DN.I6 h.1 ha k H d2
  have d5:DN (2*(D*C*G)*G) (co u c):=by
   have k1:DN 1 (co u (Re.ofRat ((2*(D*C*G)*(D*C*G):Nat):Rat)*(a+n))):=(Kr h.1 (DK ha k)).1 (d3.dvd ⟨2*(D*C*G),by grind⟩);have k2:=N (x:=Re.ofRat ((2*(D*C*G)*(D*C*G):Nat):Rat)*(a+n)) (w:=Re.ofRat ((2*(D*C*G):Nat):Rat)*c) (D:=1) (MV hc _) (YU (by clear N hm k1;grind)) k1;exact ((Kr h.1 hc).2 k2).dvd ⟨1,by grind⟩
  have d6:DN (D*C*G*I*K) (co u ((a-n)*i)):=hm (FY ha k) Z d4 U
  have d7:DN (2*(D*C*G*I*K)*G) (co u d):=by
   have a1:=Aj h.1 (FY ha k) Z;have k1:DN 1 (co u (Re.ofRat ((2*(D*C*G*I*K)*(D*C*G*I*K):Nat):Rat)*((a-n)*i))):=(Kr h.1 a1).1 (d6.dvd ⟨2*(D*C*G*I*K),by grind⟩)
   have k2:=N (x:=Re.ofRat ((2*(D*C*G*I*K)*(D*C*G*I*K):Nat):Rat)*((a-n)*i)) (w:=Re.ofRat ((2*(D*C*G*I*K):Nat):Rat)*d) (D:=1) (MV j _) (YU (by
    have e3:(a-n)*i=2*(d*d)*(AL u r*i):=by clear N hm k1;grind
    rw[e3,O];grind)) k1
   exact ((Kr h.1 j).2 k2).dvd ⟨1,by grind⟩
  rw[Cz h hc j rfl,DN.app];exact⟨d5.dvd ⟨I*K,by grind⟩,d7.dvd ⟨1,by grind⟩⟩
theorem jM {p:Rat} (h:p*p<=((B*B:Nat):Rat)): -(B:Rat)<=p/\p<=B:=by
 rw[Hd] at h;have c:(0:Rat)<=B:=Rat.natCast_nonneg
 generalize (B:Rat)=b at*
 constructor
 ·apply Classical.byContradiction;intro hc;have:=Rat.mul_pos (a:= -p-b) (b:= -p+b) (by grind) (by grind)
  grind
 apply Classical.byContradiction;intro hc;have:=Rat.mul_pos (a:=p-b) (b:=p+b) (by grind) (by grind)
 grind
theorem MX.half {y:Re} (h:AZ u) (g:In u x) (f:In u y) (e:x=2*y) (k:MX (2*B) (co u x)):MX B (co u y):=by
 have c:x=Re.ofRat 2*y:=e;rw[c,Qm h f] at k;intro q d;have:=k _ (List.mem_map.2 ⟨q,d,rfl⟩);rw[Hd] at this;have e2:((2:Nat):Rat)=2:=rfl
 grind
theorem YB:∀{u:List (List Rat)} {R:Nat},AZ u->TB R u->∀{x w:Re} {B:Nat},In u w->w*w=x->MX (B*B) (co u x)->MX (B*2^GG u.length R) (co u w)
 | [],R,_,_,x,w,B,hw,e,h=>by
  obtain⟨p,rfl⟩:=Cp.1 hw;subst e;rw[<-Re.ofRat_mul,De] at h;rw[De];intro z hz;rw[List.mem_singleton.1 hz];have:=jM (h _ List.mem_cons_self).2;simpa [GG] using this
 | r::u,R,h,H,x,w,B,hw,e,m=>by
  have F:=fun {x w:Re} {B:Nat}=>YB (R:=R) (x:=x) (w:=w) (B:=B) h.1 H.tail
  have v:=fun {x y:Re} {B C:Nat}=>IK (R:=R) (x:=x) (y:=y) (B:=B) (C:=C) h.1 H.tail
  obtain⟨E,hE,a1,_,W⟩:=H.head;have hr:=Cq h;have Z:MX (2^R) (co u (AL u r)):=by rw[Es h];exact W
  obtain⟨i,hi,M⟩:=EC h.1 (B8 h) (by have:=h.2.2.1;grind);obtain⟨I,hI,a2,_,O⟩:=Ii h.1 H.tail (B8 h) hi M (QS h H);obtain⟨c,d,hc,j,rfl⟩:=CV.1 hw
  have g:In u (2*c*d):=by
   have:=DK (Aj h.1 hc j) (Aj h.1 hc j);rwa [show c*d+c*d=2*c*d by grind] at this
  have f:=B8 h;have ha:=DK (Aj h.1 hc hc) (Aj h.1 (Aj h.1 j j) f);have ex:x=(c*c+d*d*AL u r)+(2*c*d)*rt u r:=by rw[<-e];grind
  rw[ex,Cz h ha g rfl,MX.app] at m
  generalize hA:c*c+d*d*AL u r=a at*
  generalize hB:2*c*d=b at*
  have L:=FY (Aj h.1 hc hc) (Aj h.1 (Aj h.1 j j) f)
  generalize hN:c*c-d*d*AL u r=n at*
  have X:n*n=a*a-b*b*AL u r:=by clear F v;grind
  have m1:=MX.I6 h.1 (Aj h.1 ha ha) (Aj h.1 (Aj h.1 g g) f) (v ha ha m.1 m.1) (v (Aj h.1 g g) f (v g g m.2 m.2) Z);have N:=C2 (EE u.length R);have p1:=C2 R;have p2:=C2 (GG u.length R);have p3:=C2 (II u.length R R)
  have eG:2^GG (r::u).length R=2^EE u.length R*2^EE u.length R*2^EE u.length R*2^R*2*(2^GG u.length R*2^GG u.length R)*2^II u.length R R:=by
   have e2:(2:Nat)=2^1:=rfl;conv=>rhs;rw[show ∀q:Nat,q*2=q*2^1 from fun q=>rfl]
   simp only[<-Nat.pow_add]
   congr 1
   rw[List.length_cons,GG];omega
  rw[eG]
  generalize 2^EE u.length R=K at*
  generalize 2^R=S at*
  generalize 2^GG u.length R=G at*
  generalize 2^II u.length R R=J at*
  have U:1<=K*S:=Nat.mul_pos N p1;have k:1<=K*K*S:=Nat.mul_pos (Nat.mul_pos N N) p1
  have Y:K+K*S*K<=2*(K*K*S)*(2*(K*K*S)):=by
   have t1:K*1<=K*(K*S):=Nat.mul_le_mul_left _ U;have t2:(K*K*S)*1<=(K*K*S)*(K*K*S):=Nat.mul_le_mul_left _ k
   grind
  have m2:MX (B*B*(2*(K*K*S))*G) (co u n):=by
   refine F (x:=a*a-b*b*AL u r) L X (m1.mono ?_);have:=Nat.mul_le_mul_left (B*B*(B*B)) Y
   grind
  have T:1<=K*K*S*G:=Nat.mul_pos k p2
  have m3:MX (B*B*(2*(K*K*S)*G)) (co u (c*c)):=by
   refine MX.half h.1 (DK ha L) (Aj h.1 hc hc) (by clear F v m1 m2;grind) ((MX.Fv h.1 ha L m.1 m2).mono ?_);have:=Nat.mul_le_mul_left (B*B) (show 1<=2*(K*K*S)*G by rw[Nat.mul_assoc];omega)
   grind
  have m4:MX (B*(2*(K*K*S)*G)*G) (co u c):=by
   refine F (x:=c*c) hc rfl (m3.mono ?_);have t:2*(K*K*S)*G*1<=2*(K*K*S)*G*(2*(K*K*S)*G):=Nat.mul_le_mul_left _ (by rw[Nat.mul_assoc];omega);have:=Nat.mul_le_mul_left (B*B) t
   grind
  have m5:MX (B*B*(2*(K*K*S)*G)) (co u (d*d*AL u r)):=by
   refine MX.half h.1 (FY ha L) (Aj h.1 (Aj h.1 j j) f) (by clear F v m1 m2 m3;grind) ((MX.I6 h.1 ha L m.1 m2).mono ?_);have:=Nat.mul_le_mul_left (B*B) (show 1<=2*(K*K*S)*G by rw[Nat.mul_assoc];omega)
   grind
  have m6:MX (B*B*(2*(K*K*S)*G)*J*K) (co u (d*d)):=by
   have:=v (Aj h.1 (Aj h.1 j j) f) hi m5 O;rwa [show d*d*AL u r*i=d*d by rw[show d*d*AL u r*i=d*d*(AL u r*i) by grind,M];grind] at this
  have m7:MX (B*(2*(K*K*S)*G*J*K)*G) (co u d):=by
   refine F (x:=d*d) j rfl (m6.mono ?_);have t0:1<=2*(K*K*S)*G*J*K:=Nat.mul_pos (Nat.mul_pos (by rw[Nat.mul_assoc];omega) p3) N;have t:2*(K*K*S)*G*J*K*1<=2*(K*K*S)*G*J*K*(2*(K*K*S)*G*J*K):=Nat.mul_le_mul_left _ t0;have:=Nat.mul_le_mul_left (B*B) t
   grind
  rw[Cz h hc j rfl,MX.app];have Q:1<=J*K:=Nat.mul_pos p3 N;refine⟨m4.mono ?_,m7.mono ?_⟩
  ·have:=Nat.mul_le_mul_left (B*(2*(K*K*S)*G)*G) Q
   grind
  grind
theorem QT {R s:Nat} {w:Re} (h:AZ u) (d:TB R u) (hw:In u w) (e:w*w=x) (v:Bd s (co u x)):Bd (s+GG u.length R) (co u w):=by
 obtain⟨D,f,g,j,h3⟩:=v;obtain⟨G,k,c,m⟩:=Wa h d;refine⟨D*G,Nat.mul_pos f k,?_,m hw e j,?_⟩
 ·have:=Nat.mul_le_mul g c;rwa [<-Nat.pow_add] at this
 have:=YB h d hw e (B:=2^s) (h3.mono (by rw[<-Nat.pow_add];exact CQ));rwa [<-Nat.pow_add] at this
end Go.Abs
namespace Go.Abs
structure As (x:Int) (b:Bool) (l:List UInt32):Prop where
 neg:b=decide (x<0)
 Bh:l=AQ x.natAbs
variable {i n xi:Nat} {l o:List UInt32} {y:Int}
theorem Al (x:Int):∃b l,As x b l:=⟨_,_,rfl,rfl⟩
theorem As.nat {x:Int} {b:Bool} (h:As x b l):AE l=x.natAbs:=by rw[h.Bh,BS]
theorem As.ET {x:Int} {b:Bool} (h:As x b l):x=if b=true then -(AE l:Int) else AE l:=by
 rw[h.nat,h.neg];by_cases c:x<0 <;> simp[c] <;> omega
theorem As.uniq {x:Int} {b b':Bool} {l':List UInt32} (h:As x b l) (h':As y b' l') (e:x=y):b=b'/\l=l':=by
 subst e;exact⟨h.neg.trans h'.neg.symm,h.Bh.trans h'.Bh.symm⟩
theorem As.trim {x:Int} {b:Bool} (h:As x b l):AQ (AE l)=l:=by rw[h.nat,<-h.Bh]
theorem As.val {x:Int} {b:Bool} (d:AQ n=l) (c:x=if b=true then -(n:Int) else n) (h3:n=0->b=false):As x b l:=by
 constructor
 ·rw[c];cases b
  ·simp
  have:n≠0:=fun e=>absurd (h3 e) (by simp)
  simp;omega
 rw[<-d,c];congr 1;split <;> omega
theorem As.nil {x:Int} {b:Bool} (h:As x b l):l=[]↔x=0:=by
 rw[h.Bh,F4];omega
theorem As.GR {x:Int} {b:Bool} (h:As x b l):l.length=0↔x=0:=by
 rw[List.length_eq_zero_iff,h.nil]
def CZ (x:Int):Int:=if x<0 then -1 else if x=0 then 0 else 1
def Bw (a b:Int):Int:=if a<b then -1 else if b<a then 1 else 0
theorem Rr {x w:UInt32} (h:l[i]? =some x):AE (l.set i w)+2^(32*i)*x.toNat=AE l+2^(32*i)*w.toNat:=by
 induction l generalizing i with
 | nil=>simp at h
 | cons y l c=>
  cases i with
  | zero=>simp at h;subst h;simp[AE];omega
  | succ i=>
   have:=c (i:=i) (by simpa using h);rw[List.set_cons_succ,AE,AE,EF]
   generalize 2^(32*i)=P at*
   grind
theorem IS {w:UInt32} (h:n<=i:=by omega):(l.set i w).take n=l.take n:=by
 rw[List.take_set];rw[List.set_eq_of_length_le];rw[List.length_take];omega
theorem Fi {w:UInt32} (h:i<l.length):(l.set i w).take (i+1)=l.take i++[w]:=by
 rw[List.take_succ_eq_append_getElem (by simpa using h),IS (Nat.le_refl _)];simp
theorem LI {A B Ga Gb yi:Nat} {w:UInt32} (c:i<o.length) (h:AE (o.take i)+B=A+2^(32*i)*Ga) (d:w.toNat+yi+Ga=xi+4294967296*Gb):
  AE ((o.set i w).take (i+1))+(B+2^(32*i)*yi)=(A+2^(32*i)*xi)+2^(32*(i+1))*Gb:=by
 rw[Fi c,EN,EF,List.length_take,Nat.min_eq_left (by omega)]
 generalize 2^(32*i)=P at*
 have e:P*(w.toNat+yi+Ga)=P*(xi+4294967296*Gb):=by rw[d]
 grind
theorem TH {N T c f yk old j:Nat} {q w:UInt32} {Y:Nat} {k:Nat} (g:j=i+k) (m:j<n) (v:o[j]? =some q) (C:q.toNat=old) (h:AE (o.take n)+2^(32*j)*c=T+xi*2^(32*i)*Y)
  (F:w.toNat+4294967296*f=c+xi*yk+old) (_:N=n):
  AE ((o.set j w).take n)+2^(32*(j+1))*f=T+xi*2^(32*i)*(Y+2^(32*k)*yk):=by
 have ht:(o.take n)[j]? =some q:=by rw[List.getElem?_take_of_lt m,v]
 have d:=Rr (w:=w) ht;rw[List.take_set,EF];have z:2^(32*j)=2^(32*i)*2^(32*k):=by rw[g,Nat.mul_add,Nat.pow_add]
 generalize G:2^(32*j)=P at*
 have e:P*(w.toNat+4294967296*f)=P*(c+xi*yk+old):=by rw[F]
 rw[C] at d;have e2:xi*2^(32*i)*(2^(32*k)*yk)=P*(xi*yk):=by rw[z];grind
 rw[Nat.mul_add,e2]
 grind
theorem X9 {x:Int} {a b:Bool} (ha:a=decide (x<0)) (hb:b=decide (y<0)):x*y=if (a !=b)=true then -((x.natAbs*y.natAbs:Nat):Int) else ((x.natAbs*y.natAbs:Nat):Int):=by
 rw[Int.natCast_mul]
 by_cases c:x<0 <;> by_cases d:y<0 <;> simp[ha,hb,c,d]
 ·rw[show ((x.natAbs:Nat):Int)= -x by omega,show ((y.natAbs:Nat):Int)= -y by omega];grind
 ·rw[show ((x.natAbs:Nat):Int)= -x by omega,show ((y.natAbs:Nat):Int)=y by omega];grind
 ·rw[show ((x.natAbs:Nat):Int)=x by omega,show ((y.natAbs:Nat):Int)= -y by omega];grind
 rw[show ((x.natAbs:Nat):Int)=x by omega,show ((y.natAbs:Nat):Int)=y by omega]
theorem Kn (a b:Int):(a<b/\Bw a b= -1)\/(a=b/\Bw a b=0)\/(b<a/\Bw a b=1):=by
 unfold Bw
 split
 ·exact .inl ⟨by assumption,rfl⟩
 split
 ·exact .inr (.inr ⟨by assumption,rfl⟩)
 exact .inr (.inl ⟨by omega,rfl⟩)
theorem GU (x:Int):(x<0/\CZ x= -1)\/(x=0/\CZ x=0)\/(0<x/\CZ x=1):=by
 unfold CZ
 split
 ·exact .inl ⟨by assumption,rfl⟩
 split
 ·exact .inr (.inl ⟨by assumption,rfl⟩)
 exact .inr (.inr ⟨by omega,rfl⟩)
theorem mz (x a b:Int): -9223372036854775808<=CZ x*Bw a b/\CZ x*Bw a b<9223372036854775808:=by
 rcases GU x with⟨_,h⟩ |⟨_,h⟩ |⟨_,h⟩ <;> rcases Kn a b with⟨_,k⟩ |⟨_,k⟩ |⟨_,k⟩ <;> rw[h,k] <;> decide
theorem gE {x:Int} (h:CZ x=CZ y):Bw x y=CZ x*Bw x.natAbs y.natAbs:=by
 rcases GU x with⟨d,c⟩ |⟨d,c⟩ |⟨d,c⟩ <;> rcases GU y with⟨k1,k2⟩ |⟨k1,k2⟩ |⟨k1,k2⟩ <;>
  rcases Kn x y with⟨p,q⟩ |⟨p,q⟩ |⟨p,q⟩ <;> rcases Kn x.natAbs y.natAbs with⟨u,v⟩ |⟨u,v⟩ |⟨u,v⟩ <;> rw[c,q,v] <;> rw[c,k2] at h <;> omega
theorem gD {x:Int} (h:CZ x≠CZ y):Bw x y=Bw (CZ x) (CZ y):=by
 rcases GU x with⟨d,c⟩ |⟨d,c⟩ |⟨d,c⟩ <;> rcases GU y with⟨k1,k2⟩ |⟨k1,k2⟩ |⟨k1,k2⟩ <;>
  rcases Kn x y with⟨p,q⟩ |⟨p,q⟩ |⟨p,q⟩ <;> rw[c,k2] at h ⊢ <;> rw[q] <;> first | rfl | omega
theorem Zu {x:Int} {b:Bool} (h:x=if b=true then -(n:Int) else n): -x=if (!b)=true then -(n:Int) else n:=by
 cases b <;> simp_all
theorem PS {x:Int} {b:Bool} (h:x=if b=true then -(n:Int) else n) (f:n≠0):CZ x=if b=true then -1 else 1:=by
 rcases GU x with⟨d,c⟩ |⟨d,c⟩ |⟨d,c⟩ <;> rw[c] <;> cases b <;> simp at h ⊢ <;> omega
theorem add_same {x:Int} {b:Bool} (c:b=decide (x<0)) (d:b=decide (y<0)):x+y=if b=true then -((x.natAbs+y.natAbs:Nat):Int) else ((x.natAbs+y.natAbs:Nat):Int):=by
 cases b <;> simp at c d ⊢ <;> omega
theorem Nt {x:Int} {a b:Bool} (d:a=decide (x<0)) (f:b=decide (y<0)) (c:a≠b) (h:x.natAbs<=y.natAbs):x+y=if b=true then -((y.natAbs-x.natAbs:Nat):Int) else ((y.natAbs-x.natAbs:Nat):Int):=by
 cases a <;> cases b <;> simp at d f c ⊢ <;> omega
theorem JK {a b:Int} (h:Bw a b<0):a<b:=by rcases Kn a b with⟨_,k⟩ |⟨_,k⟩ |⟨_,k⟩ <;> omega
theorem JJ {a b:Int} (h:0<=Bw a b):b<=a:=by rcases Kn a b with⟨_,k⟩ |⟨_,k⟩ |⟨_,k⟩ <;> omega
def Hx (b:Bool) (l:List UInt32):Bool:=match l.getLast? with
 | none=> !b
 | some x=>x !=0
theorem Lo {b:Bool}:Hx b l=true↔∃x,As x b l:=by
 unfold Hx;cases h:l.getLast? with
 | none=>
  have:l=[]:=List.getLast?_eq_none_iff.1 h;subst this
  constructor
  ·intro hb;exact⟨0,by simpa using hb,rfl⟩
  rintro⟨x,c⟩
  have:=(c.nil).1 rfl;rw[c.neg,this];rfl
 | some w=>
  obtain⟨m,rfl⟩:=List.getLast?_eq_some_iff.1 h
  constructor
  ·intro hw;have hw:w≠0:=by simpa using hw
   have hc:=Qa (o:=m) (w:=w) fun e=>hw (UInt32.toNat_inj.1 e)
   have f:AE (m++[w])≠0:=fun e=>by
    rw[e,Gy] at hc;simp at hc
   exact⟨if b=true then -(AE (m++[w]):Int) else AE (m++[w]),.val hc rfl fun e=>absurd e f⟩
  rintro⟨x,c⟩
  simp only[bne_iff_ne,ne_eq];rintro rfl;have d:=c.trim;rw[<-NT,KQ] at d;have:=TJ m;rw[d] at this;simp at this;omega
end Go.Abs
namespace Go.Abs
variable {A B xi yi:Nat} {l o:List UInt32}
theorem KI {N k:Nat} (h:N<2^(32*k)):∃z:List UInt32,z.length=k/\AE z=N:=by
 refine⟨AQ N++List.replicate (k-(AQ N).length) 0,?_,?_⟩
 ·have:=Gx h;simp;omega
 rw[Ox,It,BS];simp
theorem PX (N i:Nat):N%2^(32*(i+1))=N%2^(32*i)+2^(32*i)*(N/2^(32*i)%4294967296):=by
 rw[EF,Nat.mul_comm 4294967296,Nat.mod_mul]
theorem Zy {x y r n:Nat} (k:x<4294967296) (z:n<=31):(x+4294967296*(y+4294967296*r))/2^n%4294967296=x/2^n+y*2^(32-n)%4294967296:=by
 obtain⟨d,j⟩:∃d,32-n=d:=⟨_,rfl⟩
 have e:(4294967296:Nat)=2^n*2^d:=by rw[<-Nat.pow_add,show n+d=32 by omega]
 have c:0<2^n:=Nat.two_pow_pos n;have C:0<2^d:=Nat.two_pow_pos d;rw[j];have f:x+4294967296*(y+4294967296*r)=x+2^n*(2^d*(y+4294967296*r)):=by rw[<-Nat.mul_assoc,<-e]
 rw[f,Nat.add_mul_div_left _ _ c];have m:x/2^n<2^d:=Nat.div_lt_of_lt_mul (by rw[<-e];exact k);have e2:x/2^n+2^d*(y+4294967296*r)=(x/2^n+y*2^d)+4294967296*(2^d*r):=by rw[Nat.mul_add];grind
 rw[e2,Nat.add_mul_mod_self_left];have g:y*2^d%4294967296=2^d*(y%2^n):=by rw[e,Nat.mul_comm (2^n),Nat.mul_comm y,Nat.mul_mod_mul_left]
 rw[Nat.add_mod,g]
 have v:2^d*(y%2^n)+2^d<=4294967296:=by
  have:y%2^n+1<=2^n:=Nat.mod_lt _ c;have:=Nat.mul_le_mul_left (2^d) this;rw[e,Nat.mul_comm (2^n)];rw[Nat.mul_add] at this;omega
 have h:x/2^n%4294967296=x/2^n:=Nat.mod_eq_of_lt (by omega);rw[h,Nat.mod_eq_of_lt (by omega)]
theorem LN {a b d:Nat} (h:a<2^d):a ||| (2^d*b)=a+2^d*b:=by
 rw[Nat.or_comm,<-Nat.two_pow_add_eq_or_of_lt h,Nat.add_comm]
theorem Dt {i:Nat} {x:UInt32} (h:l[i]? =some x):AE (l.drop i)=x.toNat+4294967296*AE (l.drop (i+1)):=by
 have c:i<l.length:=by
  apply Classical.byContradiction;intro d;rw[List.getElem?_eq_none (by omega)] at h;exact absurd h (by simp)
 rw[List.drop_eq_getElem_cons c,AE];rw[List.getElem?_eq_getElem c] at h;rw[Option.some.inj h]
theorem OH {i:Nat} (h:i<=l.length):AE l/2^(32*i)=AE (l.drop i):=by
 rw[Gf l i h,Nat.add_mul_div_left _ _ (Nat.two_pow_pos _)];have:=Cu (l.take i);rw[List.length_take,Nat.min_eq_left h] at this;rw[Nat.div_eq_of_lt this,Nat.zero_add]
theorem OK {i off:Nat} {w:UInt32}:(l.set (off+i) w).drop off=(l.drop off).set i w:=by
 rw[List.drop_set,if_neg (by omega)]
 congr 1
 omega
theorem nu {D Ga Gb i:Nat} {w:UInt32} (c:i<o.length) (h:AE (o.take i)+B*D=A+2^(32*i)*Ga) (d:w.toNat+yi*D+Ga=xi+4294967296*Gb):
  AE ((o.set i w).take (i+1))+(B+2^(32*i)*yi)*D=(A+2^(32*i)*xi)+2^(32*(i+1))*Gb:=by
 rw[Fi c,EN,EF,List.length_take,Nat.min_eq_left (by omega)]
 generalize 2^(32*i)=P at*
 have e:P*(w.toNat+yi*D+Ga)=P*(xi+4294967296*Gb):=by rw[d]
 grind
theorem et {N7 N8 i:Nat} {w:UInt32} (c:i<o.length) (h:AE (o.take i)+2^(32*i)*N7=A+B) (d:w.toNat+4294967296*N8=xi+yi+N7):
  AE ((o.set i w).take (i+1))+2^(32*(i+1))*N8=(A+2^(32*i)*xi)+(B+2^(32*i)*yi):=by
 rw[Fi c,EN,EF,List.length_take,Nat.min_eq_left (by omega)]
 generalize 2^(32*i)=P at*
 have e:P*(w.toNat+4294967296*N8)=P*(xi+yi+N7):=by rw[d]
 grind
end Go.Abs
namespace Go.Abs
variable {D P R R0 R2 S V V0 V2 high next r top u3:Nat}
theorem Zj {u:List UInt32} {off len:Nat} (d:S<2^(32*len)) (g:off+len<=u.length):
  ∃z:List UInt32,z.length=u.length/\z.take off=u.take off/\z.drop (off+len)=u.drop (off+len)/\AE ((z.drop off).take len)=S:=by
 obtain⟨y,h,c⟩:=KI d;have f:(u.take off).length=off:=by rw[List.length_take];omega
 refine⟨u.take off++(y++u.drop (off+len)),?_,?_,?_,?_⟩
 ·simp;omega
 ·rw[List.take_append_of_le_length (by omega),List.take_of_length_le (by omega)]
 ·rw[<-List.drop_drop,List.drop_append_of_le_length (by omega),List.drop_eq_nil_of_le (by omega:(u.take off).length<=off),List.nil_append,List.drop_append_of_le_length (by omega),List.drop_eq_nil_of_le (by omega:y.length<=len),List.nil_append]
 rw[List.drop_append_of_le_length (by omega),List.drop_eq_nil_of_le (by omega:(u.take off).length<=off),List.nil_append,List.take_append_of_le_length (by omega),List.take_of_length_le (by omega),c]
theorem WN (hR:R=R2*P+R0) (c:R0<P) (hV:V=V2*P+V0) (h:R2<D*V2):R/V<D:=by
 have j:0<P:=by omega
 have d:0<V2:=by
  apply Nat.pos_of_ne_zero;intro e;subst e;simp at h
 apply Nat.div_lt_of_lt_mul;have f:(R2+1)*P<=D*V2*P:=Nat.mul_le_mul_right _ h;have g:V*D=D*V2*P+V0*D:=by rw[hV];grind
 have h3:(R2+1)*P=R2*P+P:=by grind
 omega
theorem WO (hR:R=R2*P+R0) (hV:V=V2*P+V0) (f:V0<P) (h:D*V2<=R2) (v:D<=V2+1):D<=R/V+1:=by
 cases D with
 | zero=>exact Nat.zero_le _
 | succ D=>
  have c:0<V\/V=0:=by omega
  rcases c with c | c
  ·have:D<=R/V:=by
    rw[Nat.le_div_iff_mul_le c];have g:(D+1)*V2*P<=R2*P:=Nat.mul_le_mul_right _ h;have j:D*V=D*V2*P+D*V0:=by rw[hV];grind
    have h3:(D+1)*V2*P=D*V2*P+V2*P:=by grind
    have k:D*V0<=D*P:=Nat.mul_le_mul_left _ (by omega);have m:D*P<=V2*P:=Nat.mul_le_mul_right _ (by omega);omega
   exact Nat.succ_le_succ this
  have d:V2*P=0:=by omega
  have z:0<P:=by omega
  have:V2=0:=by
   rcases Nat.mul_eq_zero.1 d with e | e
   ·exact e
   omega
  exact Nat.le_trans (by omega:D+1<=1) (Nat.le_add_left _ _)
structure I7 (R V top high D r:Nat):Prop where
 sum:r+D*high=top
 up:R/V<=D
 Ot:D<=4294967297
 rest:r<4294967296
theorem iC (hR:R=top*P+R0) (c:R0<P) (hV:V=high*P+V0) (j:2147483648<=high) (g:high<4294967296) (ht:top<4294967296*(high+1)):I7 R V top high (top/high) (top%high):=by
 have hm:=Nat.div_add_mod top high;have h:=Nat.mod_lt top (by omega:0<high);refine⟨by rw[Nat.mul_comm] at hm;omega,?_,?_,by omega⟩
 ·have d:top<(top/high+1)*high:=by rw[Nat.add_mul,Nat.mul_comm];omega
  exact Nat.le_of_lt_succ (WN hR c hV d)
 have f:top<4294967298*high:=by omega
 have h3:top/high<4294967298:=(Nat.div_lt_iff_lt_mul (by omega)).2 f;exact Nat.le_of_lt_succ h3
theorem XA (g:I7 R V top high D r) (c:R/V<4294967296) (h:4294967296<=D:=by omega):R/V<=D-1:=by
 have:=g.up;exact Nat.le_sub_one_of_lt (Nat.lt_of_lt_of_le c h)
theorem XB (g:I7 R V top high D r) (hR:R=(4294967296*top+u3)*P+R0) (c:R0<P) (hV:V=(4294967296*high+next)*P+V0) (h:4294967296*r+u3<D*next):R/V<=D-1:=by
 have f:4294967296*top+u3<D*(4294967296*high+next):=by
  have e:=g.sum
  clear g hR hV
  rw[<-e];have d:D*(4294967296*high+next)=4294967296*(D*high)+D*next:=by grind
  have e2:4294967296*(r+D*high)=4294967296*r+4294967296*(D*high):=by grind
  rw[d,e2]
  generalize D*high=Q at*
  generalize D*next=T at*
  omega
 exact Nat.le_sub_one_of_lt (WN hR c hV f)
theorem XC (g:I7 R V top high D r) (c:R/V<=D-1) (f:0<D) (d:r+high<4294967296):I7 R V top high (D-1) (r+high):=by
 refine⟨?_,c,by have:=g.Ot;omega,d⟩;have:=g.sum;obtain⟨D,rfl⟩:∃k,D=k+1:=⟨D-1,by omega⟩
 simp only[Nat.add_sub_cancel];rw[Nat.add_mul] at this;omega
structure Lw (R V D:Nat):Prop where
 up:R/V<=D
 low:D<=R/V+1
 word:D<4294967296
theorem Ru (g:I7 R V top high D r) (hR:R=(4294967296*top+u3)*P+R0) (hV:V=(4294967296*high+next)*P+V0) (c:V0<P) (f:2147483648<=high)
  (d:D<4294967296) (h:D*next<=4294967296*r+u3:=by omega):Lw R V D:=by
 refine⟨g.up,WO hR hV c ?_ (by omega),d⟩;have e:=g.sum;rw[<-e];have:D*(4294967296*high+next)=4294967296*(D*high)+D*next:=by grind
 have:4294967296*(r+D*high)=4294967296*r+4294967296*(D*high):=by grind
 omega
theorem Rs (g:I7 R V top high D r) (f:R/V<=D-1) (C:0<D) (hR:R=(4294967296*top+u3)*P+R0) (hV:V=(4294967296*high+next)*P+V0) (d:V0<P) (F:2147483648<=high) (G:next<4294967296)
  (ht:top<4294967296*(high+1)) (h:4294967296<=r+high:=by omega):Lw R V (D-1):=by
 obtain⟨D,rfl⟩:∃k,D=k+1:=⟨D-1,by omega⟩
 simp only[Nat.add_sub_cancel] at f ⊢;have e:=g.sum;have hm:=g.Ot;have j:(r+high)+D*high=top:=by rw[Nat.add_mul] at e;omega
 have c:D<4294967296:=by
  apply Classical.byContradiction;intro hc;have:4294967296*high<=D*high:=Nat.mul_le_mul_right _ (by omega);omega
 refine⟨f,WO hR hV d ?_ (by omega),c⟩;rw[<-j];have m:D*(4294967296*high+next)=4294967296*(D*high)+D*next:=by grind
 have v:4294967296*(r+high+D*high)=4294967296*(r+high)+4294967296*(D*high):=by grind
 have h3:D*next<=4294967296*4294967296:=Nat.mul_le_mul (by omega) (by omega);have z:4294967296*4294967296<=4294967296*(r+high):=Nat.mul_le_mul_left _ h;omega
theorem YE {M:Nat} {b:Bool} (f:Lw R V D) (hV:0<V) (h:S+V*D=R+M*b.toNat) (k:S<M):
  (b=false->D=R/V/\S=R%V)/\(b=true->D-1=R/V/\0<D/\(R%V<M->(S+V)%M=R%V)):=by
 have m:=Nat.div_add_mod R V;have v:=Nat.mod_lt R hV;obtain⟨g,j,_⟩:=f
 generalize R/V=Q at*
 generalize R%V=T at*
 constructor
 ·rintro rfl;simp at h
  have c:D=Q:=by
   apply Classical.byContradiction;intro hc;have:D=Q+1:=by omega
   rw[this,Nat.mul_add] at h;omega
  exact⟨c,by rw[c] at h;omega⟩
 rintro rfl;simp at h
 have c:D=Q+1:=by
  apply Classical.byContradiction;intro hc;have:D=Q:=by omega
  rw[this] at h;omega
 refine⟨by omega,by omega,fun d=>?_⟩;rw[c,Nat.mul_add] at h;have:S+V=T+M*1:=by omega
 rw[this,Nat.add_mul_mod_self_left,Nat.mod_eq_of_lt d]
end Go.Abs
