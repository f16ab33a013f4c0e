/- Part 8 of a proof. Conditions: each theorem's own. -/
import Derived.Test.YtclgfoceefhnkaaGreatDoorLn06
set_option linter.all false
set_option maxHeartbeats 80000000
set_option maxRecDepth 20000
namespace Go.Abs
section
def AM:List (List Rat)->List Rat->Re
 | [],a=>Re.ofRat (a.headD 0)
 | r::u,a=>AM u (a.take (2^u.length))+AM u (a.drop (2^u.length))*Re.sqrt (AM u r)
def rt (u:List (List Rat)) (r:List Rat):Re:=Re.sqrt (AM u r)
def In (u:List (List Rat)) (x:Re):Prop:=∃a:List Rat,a.length=2^u.length/\AM u a=x
def AU:List (List Rat)->Prop
 | []=>True
 | r::u=>AU u/\r.length=2^u.length/\0<AM u r/\¬∃w,In u w/\w*w=AM u r
noncomputable def co (u:List (List Rat)) (x:Re):List Rat:=by
 classical
 exact if h:In u x then Classical.choose h else []
variable {a:List Rat} {p x y:Re}
theorem B8 (r:List Rat) (u:List (List Rat)):2^(r::u).length=2^u.length+2^u.length:=by
 rw[List.length_cons,Nat.pow_succ];omega
theorem Ct:In [] x↔∃q,x=Re.ofRat q:=by
 constructor
 ·rintro⟨a,_,rfl⟩;exact⟨_,rfl⟩
 rintro⟨q,rfl⟩;exact⟨[q],rfl,rfl⟩
theorem Cd {r:List Rat} {u:List (List Rat)}:In (r::u) x↔∃p q,In u p/\In u q/\x=p+q*rt u r:=by
 constructor
 ·rintro⟨a,ha,rfl⟩
  rw[B8] at ha;exact⟨_,_,⟨a.take (2^u.length),by rw[List.length_take];omega,rfl⟩,⟨a.drop (2^u.length),by rw[List.length_drop];omega,rfl⟩,rfl⟩
 rintro⟨p,q,⟨a,ha,rfl⟩,⟨b,hb,rfl⟩,rfl⟩
 refine⟨a++b,by rw[B8,List.length_append];omega,?_⟩;rw[AM,<-ha,List.take_left,List.drop_left];rfl
theorem Ov:∀(u:List (List Rat)) (a b:List Rat),a.length=2^u.length->b.length=2^u.length->AM u (List.zipWith (· + ·) a b)=AM u a+AM u b
 | [],a,b,ha,hb=>by
  match a,b,ha,hb with
  | [p],[q],_,_=>exact Re.ofRat_add p q
 | r::u,a,b,ha,hb=>by
  rw[B8] at ha hb;rw[AM,AM,AM,List.take_zipWith,List.drop_zipWith,Ov u _ _ (by rw[List.length_take];omega) (by rw[List.length_take];omega),Ov u _ _ (by rw[List.length_drop];omega) (by rw[List.length_drop];omega)]
  grind
theorem Ow:∀(u:List (List Rat)) (a:List Rat),a.length=2^u.length->AM u (a.map (- ·))= -AM u a
 | [],a,ha=>by
  match a,ha with
  | [p],_=>exact Re.ofRat_neg p
 | r::u,a,ha=>by
  rw[B8] at ha;rw[AM,AM,<-List.map_take,<-List.map_drop,Ow u _ (by rw[List.length_take];omega),Ow u _ (by rw[List.length_drop];omega)]
  grind
theorem Mn:∀(u:List (List Rat)) (n:Nat),AM u (List.replicate n 0)=0
 |[],0|[],n+1=>rfl
 | r::u,n=>by rw[AM,List.take_replicate,List.drop_replicate,Mn,Mn];grind
theorem HN (q:Rat):∀u,In u (Re.ofRat q)
 | []=>Ct.2 ⟨q,rfl⟩
 | r::u=>Cd.2 ⟨_,_,HN q u,⟨List.replicate (2^u.length) 0,List.length_replicate,Mn u _⟩,by grind⟩
theorem CN (u:List (List Rat)):In u 0:=HN 0 u
theorem J3 (u:List (List Rat)):In u 1:=HN 1 u
theorem DR {u:List (List Rat)}:In u x->In u y->In u (x+y)
 |⟨a,ha,c⟩,⟨b,hb,d⟩=>⟨List.zipWith (· + ·) a b,by rw[List.length_zipWith];omega,by rw[Ov u a b ha hb,c,d]⟩
theorem F5 {u:List (List Rat)}:In u x->In u (-x)
 |⟨a,ha,c⟩=>⟨a.map (- ·),by rw[List.length_map,ha],by rw[Ow u a ha,c]⟩
theorem E5 {u:List (List Rat)} (h:In u x) (k:In u y):In u (x-y):=by
 have:=DR h (F5 k);rwa [show x+ -y=x-y by grind] at this
theorem Cu {u:List (List Rat)} {r:List Rat} (h:AU (r::u)):rt u r*rt u r=AM u r:=Re.G5 (by have:=h.2.2.1;grind)
theorem nz (u:List (List Rat)) (r:List Rat):0<=rt u r:=Re.Ll _
theorem B9 {u:List (List Rat)} {r:List Rat} (h:AU (r::u)):In u (AM u r):=⟨r,h.2.1,rfl⟩
theorem E6 {u:List (List Rat)} {r:List Rat} (h:In u x):In (r::u) x:=Cd.2 ⟨x,0,h,CN u,by grind⟩
theorem IU (u:List (List Rat)) (r:List Rat):In (r::u) (rt u r):=Cd.2 ⟨0,1,CN u,J3 u,by grind⟩
theorem Ag:∀{u:List (List Rat)} {x y:Re},AU u->In u x->In u y->In u (x*y)
 | [],x,y,_,f,g=>by
  obtain⟨p,rfl⟩:=Ct.1 f;obtain⟨q,rfl⟩:=Ct.1 g;exact Ct.2 ⟨p*q,(Re.ofRat_mul p q).symm⟩
 | r::u,x,y,h,f,g=>by
  obtain⟨a,b,ha,hb,rfl⟩:=Cd.1 f;obtain⟨c,d,j,k,rfl⟩:=Cd.1 g;have m:=Cu h;refine Cd.2 ⟨a*c+b*d*AM u r,a*d+b*c,DR (Ag h.1 ha j) (Ag h.1 (Ag h.1 hb k) (B9 h)),DR (Ag h.1 ha k) (Ag h.1 hb j),?_⟩
  grind
theorem Yk {u:List (List Rat)} {r:List Rat} (h:AU (r::u)) {w:Re} (hw:In u w):w*w≠AM u r:=fun e=>h.2.2.2 ⟨w,hw,e⟩
theorem Dv:∀{u:List (List Rat)} {x:Re},AU u->In u x->x≠0->∃y,In u y/\x*y=1
 | [],x,_,j,d=>by
  obtain⟨p,rfl⟩:=Ct.1 j;have G:p≠0:=fun e=>d (by rw[e];rfl)
  refine⟨Re.ofRat p⁻¹,Ct.2 ⟨_,rfl⟩,?_⟩;rw[<-Re.ofRat_mul,show p*p⁻¹=1 by grind];rfl
 | r::u,x,h,j,d=>by
  obtain⟨a,b,ha,hb,rfl⟩:=Cd.1 j;have H:=Cu h
  have C:a*a-b*b*AM u r≠0:=by
   intro e
   by_cases f:b=0
   ·have v:a=0:=by
     have:a*a=0:=by grind
     rcases Re.F3 this with e | e <;> exact e
    exact d (by grind)
   obtain⟨c,z,g⟩:=Dv h.1 hb f
   exact Yk h (Ag h.1 ha z) (by
    have e1:a*a=b*b*AM u r:=by grind
    have m:a*c*(a*c)=(b*c)*(b*c)*AM u r:=by grind
    rw[m,g];grind)
  obtain⟨y,k,F⟩:=Dv h.1 (E5 (Ag h.1 ha ha) (Ag h.1 (Ag h.1 hb hb) (B9 h))) C;refine⟨a*y+ -(b*y)*rt u r,Cd.2 ⟨_,_,Ag h.1 ha k,F5 (Ag h.1 hb k),rfl⟩,?_⟩
  grind
theorem indep {u:List (List Rat)} {r:List Rat} (h:AU (r::u)) {q f d:Re} (C:In u p) (F:In u q) (g:In u f) (j:In u d) (e:p+q*rt u r=f+d*rt u r):p=f/\q=d:=by
 have G:=Cu h
 by_cases v:q-d=0
 ·have:q=d:=by grind
  subst this;exact⟨by grind,rfl⟩
 exfalso
 obtain⟨c,z,k⟩:=Dv h.1 (E5 F j) v;refine Yk h (Ag h.1 (E5 g C) z) ?_;have e1:(q-d)*rt u r=f-p:=by grind
 have m:(f-p)*c=rt u r*((q-d)*c):=by grind
 rw[m,k];grind
theorem Rl:∀{u:List (List Rat)} {a b:List Rat},AU u->a.length=2^u.length->b.length=2^u.length->AM u a=AM u b->a=b
 | [],a,b,_,ha,hb,e=>by
  match a,b,ha,hb with
  | [p],[q],_,_=>exact congrArg (fun x=>[x]) (Re.Ib.1 e)
 | r::u,a,b,h,ha,hb,e=>by
  rw[B8] at ha hb;have l1:(a.take (2^u.length)).length=2^u.length:=by rw[List.length_take];omega
  have l2:(a.drop (2^u.length)).length=2^u.length:=by rw[List.length_drop];omega
  have l3:(b.take (2^u.length)).length=2^u.length:=by rw[List.length_take];omega
  have c:(b.drop (2^u.length)).length=2^u.length:=by rw[List.length_drop];omega
  obtain⟨e1,d⟩:=indep h ⟨_,l1,rfl⟩ ⟨_,l2,rfl⟩ ⟨_,l3,rfl⟩ ⟨_,c,rfl⟩ e;rw[<-List.take_append_drop (2^u.length) a,<-List.take_append_drop (2^u.length) b,Rl h.1 l1 l3 e1,Rl h.1 l2 c d]
theorem Wl {u:List (List Rat)} (h:In u x):(co u x).length=2^u.length/\AM u (co u x)=x:=by
 unfold co;rw[dif_pos h];exact Classical.choose_spec h
theorem C0 {u:List (List Rat)} (h:In u x):(co u x).length=2^u.length:=(Wl h).1
theorem EC {u:List (List Rat)} (h:In u x):AM u (co u x)=x:=(Wl h).2
theorem Js {u:List (List Rat)} (h:AU u) (ha:a.length=2^u.length) (e:AM u a=x):co u x=a:=by
 have c:In u x:=⟨a,ha,e⟩;exact Rl h (C0 c) ha ((EC c).trans e.symm)
theorem iK {u:List (List Rat)} (h:AU u) (ha:a.length=2^u.length):co u (AM u a)=a:=Js h ha rfl
theorem MW {u:List (List Rat)} (h:AU u) (c:In u x) (d:In u y):co u (x+y)=List.zipWith (· + ·) (co u x) (co u y):=
 Js h (by rw[List.length_zipWith,C0 c,C0 d];omega) (by rw[Ov u _ _ (C0 c) (C0 d),EC c,EC d])
theorem Kp {u:List (List Rat)} (h:AU u) (c:In u x):co u (-x)=(co u x).map (- ·):=
 Js h (by rw[List.length_map,C0 c]) (by rw[Ow u _ (C0 c),EC c])
theorem RQ {u:List (List Rat)} (h:AU u):co u 0=List.replicate (2^u.length) 0:=Js h List.length_replicate (Mn u _)
theorem DB {u:List (List Rat)} {r:List Rat} {q:Re} (h:AU (r::u)) (c:In u p) (d:In u q) (f:x=p+q*rt u r):co (r::u) x=co u p++co u q:=by
 refine Js h (by rw[List.length_append,C0 c,C0 d,B8]) ?_;rw[AM,<-C0 c,List.take_left,List.drop_left,EC c,EC d,f];rfl
theorem Dg (q:Rat):co [] (Re.ofRat q)=[q]:=Js (u:=[]) trivial rfl rfl
theorem Hj (q:Rat):∀{u:List (List Rat)},AU u->co u (Re.ofRat q)=q::List.replicate (2^u.length-1) 0
 | [],_=>Dg q
 | r::u,h=>by
  rw[DB h (HN q u) (CN u) (by grind),Hj q h.1,RQ h.1,List.cons_append,List.replicate_append_replicate];have:1<=2^u.length:=Nat.one_le_two_pow;have:2^(r::u).length-1=2^u.length-1+2^u.length:=by rw[B8];omega
  rw[this]
theorem iM {u:List (List Rat)} {r:List Rat} {q:Re} (h:AU (r::u)) (c:In u p) (d:In u q) (f:x=p+q*rt u r):(co (r::u) x).take (2^u.length)=co u p:=by
 rw[DB h c d f,<-C0 c,List.take_left]
theorem iL {u:List (List Rat)} {r:List Rat} {q:Re} (h:AU (r::u)) (c:In u p) (d:In u q) (f:x=p+q*rt u r):(co (r::u) x).drop (2^u.length)=co u q:=by
 rw[DB h c d f,<-C0 c,List.drop_left]
theorem MY {u:List (List Rat)} (h:AU u) (f:In u x):(∀c∈co u x,c=0)↔x=0:=by
 constructor
 ·intro d;have:co u x=List.replicate (2^u.length) 0:=List.eq_replicate_iff.2 ⟨C0 f,d⟩;rw[<-EC f,this,Mn]
 rintro rfl c d;rw[RQ h] at d;exact (List.mem_replicate.1 d).2
theorem ny {u:List (List Rat)} {r:List Rat} (h:AU (r::u)):rt u r≠0:=by
 intro e;have c:=Cu h;have:=h.2.2.1;rw[e] at c
 grind
theorem Zx {u:List (List Rat)} {r:List Rat} (h:AU (r::u)):0<rt u r:=by
 have:=ny h;have:=nz u r
 grind
end
section
def Sq (u:List (List Rat)) (x:Re):Prop:=∃w,In u w/\w*w=x
variable {a b n t w x:Re} {r:List Rat} {u:List (List Rat)}
theorem QF:(2:Re)≠0:=by
 intro h
 have c:(0:Re)<1:=by
  have:=Re.HT.2 (show (0:Rat)<1 by decide);exact this
 grind
theorem J8 {y:Re} (c:x≠0) (d:y≠0):x*y≠0:=fun h=>by rcases Re.F3 h with e | e;exact c e;exact d e
theorem a8 (h:x*x=0):x=0:=by rcases Re.F3 h with e | e <;> exact e
theorem ar (h:AU (r::u)) (ha:In u a):Sq (r::u) a↔Sq u a\/∃i,In u i/\AM u r*i=1/\Sq u (a*i):=by
 have H:=Cu h
 constructor
 ·rintro⟨w,hw,e⟩
  obtain⟨c,d,g,k,rfl⟩:=Cd.1 hw;have z:(c*c+d*d*AM u r)+(2*c*d)*rt u r=a+0*rt u r:=by grind
  have F:In u (2*c*d):=by
   have:=DR (Ag h.1 g k) (Ag h.1 g k);rwa [show c*d+c*d=2*c*d by grind] at this
  obtain⟨G,C⟩:=indep h (DR (Ag h.1 g g) (Ag h.1 (Ag h.1 k k) (B9 h))) F ha (CN u) z
  by_cases m:d=0
  ·left;exact⟨c,g,by grind⟩
  right
  have j:c=0:=by
   apply Classical.byContradiction;intro j;exact J8 (J8 QF j) m C
  obtain⟨i,v,f⟩:=Dv h.1 (B9 h) (by have:=h.2.2.1;grind);exact⟨i,v,f,d,k,by grind⟩
 rintro (⟨w,hw,e⟩ |⟨i,v,f,w,hw,e⟩)
 ·exact⟨w,E6 hw,e⟩
 refine⟨0+w*rt u r,Cd.2 ⟨0,w,CN u,hw,rfl⟩,?_⟩;have:a=a*(AM u r*i):=by rw[f];grind
 grind
theorem ax (h:AU (r::u)) (ha:In u a) (hb:In u b) (hw:Sq (r::u) (a+b*rt u r)):∃c d,In u c/\In u d/\c*c+d*d*AM u r=a/\2*c*d=b:=by
 have z:=Cu h;obtain⟨w,hw,e⟩:=hw;obtain⟨c,d,f,g,rfl⟩:=Cd.1 hw;have j:(c*c+d*d*AM u r)+(2*c*d)*rt u r=a+b*rt u r:=by grind
 have v:In u (2*c*d):=by
  have:=DR (Ag h.1 f g) (Ag h.1 f g);rwa [show c*d+c*d=2*c*d by grind] at this
 obtain⟨k,m⟩:=indep h (DR (Ag h.1 f f) (Ag h.1 (Ag h.1 g g) (B9 h))) v ha hb j;exact⟨c,d,f,g,k,m⟩
theorem ay (h:AU (r::u)) (ha:In u a) (hb:In u b) (hw:Sq (r::u) (a+b*rt u r)):Sq u (a*a-b*b*AM u r):=by
 obtain⟨c,d,f,g,j,k⟩:=ax h ha hb hw;exact⟨c*c-d*d*AM u r,E5 (Ag h.1 f f) (Ag h.1 (Ag h.1 g g) (B9 h)),by grind⟩
theorem az (h:AU (r::u)) (ha:In u a) (hb:In u b) (hw:Sq (r::u) (a+b*rt u r)) (g:n*n=a*a-b*b*AM u r) (ht:2*t=1):
  Sq u (t*(a+n))\/Sq u (t*(a-n)):=by
 obtain⟨c,d,v,z,k,m⟩:=ax h ha hb hw;have hm:(n-(c*c-d*d*AM u r))*(n+(c*c-d*d*AM u r))=0:=by grind
 rcases Re.F3 hm with e | e
 ·left
  have f:a+n=2*(c*c):=by clear g hm;grind
  have j:t*(2*(c*c))=2*t*(c*c):=by clear g hm k m f e;grind
  exact⟨c,v,by rw[f,j,ht];grind⟩
 right
 have f:a-n=2*(c*c):=by clear g hm;grind
 have j:t*(2*(c*c))=2*t*(c*c):=by clear g hm k m f e;grind
 exact⟨c,v,by rw[f,j,ht];grind⟩
theorem al {c i ρ s:Re} (G:n*n=a*a-b*b*ρ) (ht:2*t=1) (H:s*s=ρ) (hw:w*w=t*(a+n)) (f:(w+w)*i=1) (j:c=w+b*i*s):c*c=a+b*s:=by
 have d:w≠0:=by intro e;subst e;grind
 have k:2*(w*w)=a+n:=by rw[hw];grind
 have m:(a+n)*(a-n)=b*b*ρ:=by grind
 have h3:2*(w*w)*(b*i*(b*i)*ρ)*2=b*b*ρ:=by
  have:2*(w*w)*(b*i*(b*i)*ρ)*2=b*b*ρ*(((w+w)*i)*((w+w)*i)):=by grind
  rw[this,f];grind
 have g:(a+n)*(2*(b*i*(b*i)*ρ)-(a-n))=0:=by grind
 have v:2*(b*i*(b*i)*ρ)-(a-n)=0:=by
  rcases Re.F3 g with e | e
  ·exfalso
   have:2*(w*w)=0:=by grind
   rcases Re.F3 this with e | e
   ·exact QF e
   exact d (a8 e)
  exact e
 have z:2*w*(b*i)=b:=by
  have:2*w*(b*i)=b*((w+w)*i):=by grind
  rw[this,f];grind
 have C:c*c=w*w+b*i*(b*i)*ρ+2*w*(b*i)*s:=by rw[j];grind
 have h:2*(w*w+b*i*(b*i)*ρ-a)=0:=by grind
 have F:w*w+b*i*(b*i)*ρ-a=0:=by
  rcases Re.F3 h with e | e
  ·exact absurd e QF
  exact e
 grind
theorem aq (h:AU (r::u)) (c:b≠0) (g:n*n=a*a-b*b*AM u r) (ht:2*t=1) (hw:w*w=t*(a+n)):w≠0:=by
 intro e;subst e;have f:a+n=0:=by grind
 have d:b*b*AM u r=0:=by grind
 have h3:=h.2.2.1;rcases Re.F3 d with e | e
 ·exact c (a8 e)
 grind
theorem aw {q:Rat}:Sq [] (Re.ofRat q)↔∃r:Rat,0<=r/\r*r=q:=by
 constructor
 ·rintro⟨w,hw,e⟩
  obtain⟨r,rfl⟩:=Ct.1 hw;rw[<-Re.ofRat_mul,Re.Ib] at e;rcases Rat.le_total (a:=0) (b:=r) with h | h
  ·exact⟨r,h,e⟩
  exact⟨-r,by grind,by grind⟩
 rintro⟨r,_,e⟩
 exact⟨Re.ofRat r,Ct.2 ⟨r,rfl⟩,by rw[<-Re.ofRat_mul,e]⟩
end
section
def DN (D:Nat) (a:List Rat):Prop:=∀q∈a,∃n:Int,q*D=n
def MX (B:Nat) (a:List Rat):Prop:=∀q∈a,-(B:Rat)<=q/\q<=B
def Bd (k:Nat) (a:List Rat):Prop:=∃D:Nat,0<D/\D<=2^k/\DN D a/\MX (2^k) a
def TB (R:Nat) (u:List (List Rat)):Prop:=∀r∈u,Bd R r
def EE:Nat->Nat->Nat
 | 0,_=>0
 | h+1,R=>2*EE h R+R+2
def II:Nat->Nat->Nat->Nat
 | 0,_,s=>2*s
 | h+1,R,s=>s+EE h R+II h R (2*s+2*EE h R+R+1)
def GG:Nat->Nat->Nat
 | 0,_=>0
 | h+1,R=>3*EE h R+R+1+2*GG h R+II h R R
theorem kG {p q:Rat} (h:∃n:Int,p=n) (k:∃n:Int,q=n):∃n:Int,p+q=n:=by
 obtain⟨a,rfl⟩:=h;obtain⟨b,rfl⟩:=k;exact⟨a+b,by rw[Rat.intCast_add]⟩
theorem Xt {p q:Rat} (h:∃n:Int,p=n) (k:∃n:Int,q=n):∃n:Int,p*q=n:=by
 obtain⟨a,rfl⟩:=h;obtain⟨b,rfl⟩:=k;exact⟨a*b,by rw[Rat.intCast_mul]⟩
theorem kH (k:Nat):∃n:Int,(k:Rat)=n:=⟨k,rfl⟩
theorem HE (a b:Nat):((a*b:Nat):Rat)=(a:Rat)*b:=Rat.natCast_mul a b
theorem DN.mul_right {D:Nat} {a:List Rat} (h:DN D a) (c:Nat):DN (D*c) a:=fun q d=>by
 have:=Xt (h q d) (kH c);rwa [Rat.mul_assoc,<-HE] at this
theorem DN.dvd {D E:Nat} {a:List Rat} (h:DN D a) (d:D∣E):DN E a:=by
 obtain⟨c,rfl⟩:=d;exact h.mul_right c
theorem cW {a b:List Rat} {q:Rat} (h:q∈List.zipWith (· + ·) a b):∃x∈a,∃y∈b,q=x+y:=by
 obtain⟨i,c⟩:=List.mem_iff_getElem?.1 h;rw[List.getElem?_zipWith] at c;cases ha:a[i]? with
 | none=>rw[ha] at c;simp at c
 | some x=>
  cases hb:b[i]? with
  | none=>rw[ha,hb] at c;simp at c
  | some y=>
   rw[ha,hb] at c;exact⟨x,List.mem_of_getElem? ha,y,List.mem_of_getElem? hb,(Option.some.inj c).symm⟩
theorem DN.add {D:Nat} {a b:List Rat} (h:DN D a) (k:DN D b):DN D (List.zipWith (· + ·) a b):=fun q c=>by
 obtain⟨x,d,y,f,rfl⟩:=cW c;have:=kG (h x d) (k y f);rwa [<-Rat.add_mul] at this
theorem DN.neg {D:Nat} {a:List Rat} (h:DN D a):DN D (a.map (- ·)):=fun q d=>by
 obtain⟨x,f,rfl⟩:=List.mem_map.1 d;obtain⟨n,c⟩:=h x f;exact⟨-n,by rw[Rat.intCast_neg,<-c,Rat.neg_mul]⟩
theorem MX.add {B C:Nat} {a b:List Rat} (h:MX B a) (k:MX C b):MX (B+C) (List.zipWith (· + ·) a b):=fun q c=>by
 obtain⟨x,d,y,f,rfl⟩:=cW c;have:=h x d;have:=k y f;rw[Rat.natCast_add]
 grind
theorem MX.neg {B:Nat} {a:List Rat} (h:MX B a):MX B (a.map (- ·)):=fun q c=>by
 obtain⟨x,d,rfl⟩:=List.mem_map.1 c;have:=h x d
 grind
theorem MX.mono {B C:Nat} {a:List Rat} (h:MX B a) (c:B<=C):MX C a:=fun q f=>by
 have:=h q f;have d:(B:Rat)<=C:=Rat.natCast_le_natCast.2 c
 grind
theorem DN.app {D:Nat} {a b:List Rat}:DN D (a++b)↔DN D a/\DN D b:=
 ⟨fun h=>⟨fun q c=>h q (List.mem_append_left _ c),fun q c=>h q (List.mem_append_right _ c)⟩,fun h q c=>(List.mem_append.1 c).elim (h.1 q) (h.2 q)⟩
theorem MX.app {B:Nat} {a b:List Rat}:MX B (a++b)↔MX B a/\MX B b:=
 ⟨fun h=>⟨fun q c=>h q (List.mem_append_left _ c),fun q c=>h q (List.mem_append_right _ c)⟩,fun h q c=>(List.mem_append.1 c).elim (h.1 q) (h.2 q)⟩
section
variable {u:List (List Rat)} {x y:Re}
theorem Wn (h:AU u) (d:In u x) (c:In u y):co u (x-y)=List.zipWith (· + ·) (co u x) ((co u y).map (- ·)):=by
 rw[show x-y=x+ -y by grind,MW h d (F5 c),Kp h c]
theorem DN.FH {D:Nat} (h:AU u) (c:In u x) (d:In u y) (a:DN D (co u x)) (b:DN D (co u y)):DN D (co u (x+y)):=by rw[MW h c d];exact a.add b
theorem DN.Iq {D:Nat} (h:AU u) (c:In u x) (d:In u y) (a:DN D (co u x)) (b:DN D (co u y)):DN D (co u (x-y)):=by rw[Wn h c d];exact a.add b.neg
theorem MX.FH {B C:Nat} (h:AU u) (c:In u x) (d:In u y) (a:MX B (co u x)) (b:MX C (co u y)):MX (B+C) (co u (x+y)):=by rw[MW h c d];exact a.add b
theorem MX.Iq {B C:Nat} (h:AU u) (c:In u x) (d:In u y) (a:MX B (co u x)) (b:MX C (co u y)):MX (B+C) (co u (x-y)):=by rw[Wn h c d];exact a.add b.neg
end
theorem Ox:∀(u:List (List Rat)) (c:Rat) (a:List Rat),a.length=2^u.length->AM u (a.map (c* ·))=Re.ofRat c*AM u a
 | [],c,a,ha=>by
  match a,ha with
  | [p],_=>exact Re.ofRat_mul c p
 | r::u,c,a,ha=>by
  rw[B8] at ha;rw[AM,AM,<-List.map_take,<-List.map_drop,Ox u _ _ (by rw[List.length_take];omega),Ox u _ _ (by rw[List.length_drop];omega)]
  grind
theorem RP {u:List (List Rat)} {x:Re} (h:AU u) (d:In u x) (c:Rat):co u (Re.ofRat c*x)=(co u x).map (c* ·):=
 Js h (by rw[List.length_map,C0 d]) (by rw[Ox u c _ (C0 d),EC d])
theorem Mt {u:List (List Rat)} {x:Re} (d:In u x) (c:Rat):In u (Re.ofRat c*x):=
 ⟨(co u x).map (c* ·),by rw[List.length_map,C0 d],by rw[Ox u c _ (C0 d),EC d]⟩
theorem Kw {u:List (List Rat)} {x:Re} (h:AU u) (j:In u x) {D c:Nat}:DN (D*c) (co u x)↔DN D (co u (Re.ofRat c*x)):=by
 rw[RP h j]
 constructor
 ·intro k q f;obtain⟨p,g,rfl⟩:=List.mem_map.1 f;obtain⟨n,d⟩:=k p g;exact⟨n,by rw[<-d,HE];grind⟩
 intro k q f;obtain⟨n,d⟩:=k _ (List.mem_map.2 ⟨q,f,rfl⟩);exact⟨n,by rw[<-d,HE];grind⟩
theorem DI (k:Nat):0<2^k:=Nat.two_pow_pos k
theorem Cb {a b:Nat} (h:a<=b:=by omega):2^a<=2^b:=Nat.pow_le_pow_right (by decide) h
theorem TB.tail {R:Nat} {r:List Rat} {u:List (List Rat)} (h:TB R (r::u)):TB R u:=fun x c=>h x (List.mem_cons_of_mem _ c)
theorem TB.head {R:Nat} {r:List Rat} {u:List (List Rat)} (h:TB R (r::u)):Bd R r:=h r List.mem_cons_self
theorem EP {r:List Rat} {u:List (List Rat)} (h:AU (r::u)):co u (AM u r)=r:=iK h.1 h.2.1
theorem Oc {r:List Rat} {u:List (List Rat)} {a b c d x y:Re} (h:AU (r::u)) (ha:In u a) (hb:In u b) (f:In u c) (g:In u d) (j:x=a+b*rt u r) (k:y=c+d*rt u r):
  co (r::u) (x*y)=co u (a*c+b*d*AM u r)++co u (a*d+b*c):=by
 have m:=Cu h;exact DB h (DR (Ag h.1 ha f) (Ag h.1 (Ag h.1 hb g) (B9 h))) (DR (Ag h.1 ha g) (Ag h.1 hb f)) (by subst j;subst k;grind)
theorem Ju:∀{u:List (List Rat)} {R:Nat},AU u->TB R u->∃K:Nat,0<K/\K<=2^EE u.length R/\∀{x y:Re} {D m:Nat},In u x->In u y->DN D (co u x)->DN m (co u y)->DN (D*m*K) (co u (x*y))
 | [],R,_,_=>⟨1,by decide,by simp[EE],fun {x y D m} H I h k=>by
  obtain⟨p,rfl⟩:=Ct.1 H;obtain⟨q,rfl⟩:=Ct.1 I;rw[Dg] at h k;rw[<-Re.ofRat_mul,Dg];intro z Q;rw[List.mem_singleton.1 Q];have:=Xt (h p List.mem_cons_self) (k q List.mem_cons_self);rw[HE,HE];rwa [show p*(D:Rat)*(q*(m:Rat))=p*q*(D*m*(1:Nat)) by have:((1:Nat):Rat)=1:=rfl;grind] at this⟩
 | r::u,R,h,M=>by
  obtain⟨K,L,C,hm⟩:=Ju h.1 M.tail;obtain⟨E,N,G,F,_⟩:=M.head;refine⟨K*K*E,Nat.mul_pos (Nat.mul_pos L L) N,?_,fun {x y D m} H I f g=>?_⟩
  ·have J:K*K*E<=2^EE u.length R*2^EE u.length R*2^R:=Nat.mul_le_mul (Nat.mul_le_mul C C) G;rw[<-Nat.pow_add,<-Nat.pow_add] at J;exact Nat.le_trans J (Cb (by rw[List.length_cons,EE];omega))
  obtain⟨a,b,ha,hb,rfl⟩:=Cd.1 H;obtain⟨c,d,v,j,rfl⟩:=Cd.1 I;rw[DB h ha hb rfl,DN.app] at f;rw[DB h v j rfl,DN.app] at g;rw[Oc h ha hb v j rfl rfl,DN.app];have O:DN E (co u (AM u r)):=by rw[EP h];exact F
  refine⟨DN.FH h.1 (Ag h.1 ha v) (Ag h.1 (Ag h.1 hb j) (B9 h)) ((hm ha v f.1 g.1).dvd ⟨K*E,by grind⟩) ((hm (Ag h.1 hb j) (B9 h) (hm hb j f.2 g.2) O).dvd ⟨1,by grind⟩),
   DN.FH h.1 (Ag h.1 ha j) (Ag h.1 hb v) ((hm ha j f.1 g.2).dvd ⟨K*E,by grind⟩) ((hm hb v f.2 g.1).dvd ⟨K*E,by grind⟩)⟩
theorem SX {p q:Rat} {B C:Nat} (h: -(B:Rat)<=p/\p<=B) (k: -(C:Rat)<=q/\q<=C): -((B*C:Nat):Rat)<=p*q/\p*q<=((B*C:Nat):Rat):=by
 rw[HE];exact⟨lQ h.2 h.1 k.2 k.1,LP h.2 h.1 k.2 k.1⟩
theorem Hs:∀{u:List (List Rat)} {R:Nat},AU u->TB R u->∀{x y:Re} {B C:Nat},In u x->In u y->MX B (co u x)->MX C (co u y)->MX (B*C*2^EE u.length R) (co u (x*y))
 | [],R,_,_,x,y,B,C,G,H,h,k=>by
  obtain⟨p,rfl⟩:=Ct.1 G;obtain⟨q,rfl⟩:=Ct.1 H;rw[Dg] at h k;rw[<-Re.ofRat_mul,Dg];intro z O;rw[List.mem_singleton.1 O];have:=SX (h p List.mem_cons_self) (k q List.mem_cons_self);rwa [show B*C*2^EE ([]:List (List Rat)).length R=B*C by simp[EE]]
 | r::u,R,h,I,x,y,B,C,G,H,f,g=>by
  obtain⟨E,Q,M,_,F⟩:=I.head;have v:=fun {x y:Re} {B C:Nat}=>Hs (R:=R) (x:=x) (y:=y) (B:=B) (C:=C) h.1 I.tail
  obtain⟨a,b,ha,hb,rfl⟩:=Cd.1 G;obtain⟨c,d,m,j,rfl⟩:=Cd.1 H;rw[DB h ha hb rfl,MX.app] at f;rw[DB h m j rfl,MX.app] at g;rw[Oc h ha hb m j rfl rfl,MX.app];have N:MX (2^R) (co u (AM u r)):=by rw[EP h];exact F
  have e:EE (r::u).length R=EE u.length R+EE u.length R+R+2:=by rw[List.length_cons,EE];omega
  rw[e,Nat.pow_add,Nat.pow_add,Nat.pow_add];have J:=DI (EE u.length R);have L:=DI R
  generalize 2^EE u.length R=K at*
  generalize 2^R=S at*
  have k1:B*C*K<=B*C*(K*K*S):=Nat.mul_le_mul_left _ (by
   have:K*1<=K*(K*S):=Nat.mul_le_mul_left _ (Nat.mul_pos J L);rw[Nat.mul_assoc];omega)
  have k2:B*C*K*S*K=B*C*(K*K*S):=by grind
  refine⟨(MX.FH h.1 (Ag h.1 ha m) (Ag h.1 (Ag h.1 hb j) (B9 h)) (v ha m f.1 g.1) (v (Ag h.1 hb j) (B9 h) (v hb j f.2 g.2) N)).mono ?_,
   (MX.FH h.1 (Ag h.1 ha j) (Ag h.1 hb m) (v ha j f.1 g.2) (v hb m f.2 g.1)).mono ?_⟩
  ·rw[k2];grind
  grind
end
section
variable {R s t:Nat} {p q x y:Re} {r:List Rat} {u:List (List Rat)}
theorem Bd.mono {k l:Nat} {a:List Rat} (h:Bd k a) (c:k<=l):Bd l a:=by
 obtain⟨D,d,f,g,h3⟩:=h;exact⟨D,d,Nat.le_trans f (Cb c),g,h3.mono (Cb c)⟩
theorem WA (h:AU u) (c:In u x) (d:In u y) (a:Bd s (co u x)) (b:Bd t (co u y)):Bd (s+t+1) (co u (x+y)):=by
 obtain⟨D,f,g,j,h3⟩:=a;obtain⟨E,k0,k1,k2,k⟩:=b;refine⟨D*E,Nat.mul_pos f k0,?_,DN.FH h c d (j.dvd ⟨E,rfl⟩) (k2.dvd ⟨D,Nat.mul_comm _ _⟩),(MX.FH h c d h3 k).mono ?_⟩
 ·have:=Nat.mul_le_mul g k1;rw[<-Nat.pow_add] at this;exact Nat.le_trans this (Cb)
 have m:2^s<=2^(s+t):=Cb;have v:2^t<=2^(s+t):=Cb;rw[Nat.pow_succ];omega
theorem WD (h:AU u) (g:In u x) (a:Bd s (co u x)):Bd s (co u (-x)):=by
 obtain⟨D,c,d,f,h3⟩:=a;rw[Kp h g];exact⟨D,c,d,f.neg,h3.neg⟩
theorem gZ (h:AU u) (d:In u x) (c:In u y) (a:Bd s (co u x)) (b:Bd t (co u y)):Bd (s+t+1) (co u (x-y)):=by
 rw[show x-y=x+ -y by grind];exact WA h d (F5 c) a (WD h c b)
theorem gW (h:AU u) (d:TB R u) (f:In u x) (g:In u y) (a:Bd s (co u x)) (b:Bd t (co u y)):Bd (s+t+EE u.length R) (co u (x*y)):=by
 obtain⟨D,j,k,m,h3⟩:=a;obtain⟨E,k0,k1,k2,z⟩:=b;obtain⟨K,v,c,hm⟩:=Ju h d;refine⟨D*E*K,Nat.mul_pos (Nat.mul_pos j k0) v,?_,hm f g m k2,(Hs h d f g h3 z).mono ?_⟩
 ·have:=Nat.mul_le_mul (Nat.mul_le_mul k k1) c;rwa [<-Nat.pow_add,<-Nat.pow_add] at this
 rw[<-Nat.pow_add,<-Nat.pow_add];exact Nat.le_refl _
theorem gX {q:Rat} (h:AU u) (a:Bd s [q]):Bd s (co u (Re.ofRat q)):=by
 obtain⟨D,d,f,g,h3⟩:=a;rw[Hj q h];refine⟨D,d,f,fun z c=>?_,fun z c=>?_⟩
 ·rcases List.mem_cons.1 c with rfl | c
  ·exact g z List.mem_cons_self
  rw[(List.mem_replicate.1 c).2];exact⟨0,by rw[Rat.zero_mul];rfl⟩
 rcases List.mem_cons.1 c with rfl | c
 ·exact h3 z List.mem_cons_self
 rw[(List.mem_replicate.1 c).2];have:(0:Rat)<=((2^s:Nat):Rat):=Rat.natCast_nonneg
 grind
theorem WC (h:AU (r::u)) (g:In u p) (j:In u q) (a:Bd s (co (r::u) (p+q*rt u r))):Bd s (co u p)/\Bd s (co u q):=by
 obtain⟨D,d,f,c,h3⟩:=a;rw[DB h g j rfl] at c h3;exact⟨⟨D,d,f,(DN.app.1 c).1,(MX.app.1 h3).1⟩,⟨D,d,f,(DN.app.1 c).2,(MX.app.1 h3).2⟩⟩
theorem MN (h:AU (r::u)) (g:In u p) (j:In u q) (a:Bd s (co u p)) (b:Bd t (co u q)):Bd (s+t) (co (r::u) (p+q*rt u r)):=by
 obtain⟨D,c,d,f,h3⟩:=a;obtain⟨E,k0,k1,k2,k⟩:=b;rw[DB h g j rfl];refine⟨D*E,Nat.mul_pos c k0,?_,DN.app.2 ⟨f.dvd ⟨E,rfl⟩,k2.dvd ⟨D,Nat.mul_comm _ _⟩⟩,MX.app.2 ⟨h3.mono (Cb),k.mono (Cb)⟩⟩;have:=Nat.mul_le_mul d k1;rwa [<-Nat.pow_add] at this
theorem Q8 (h:AU (r::u)) (c:TB R (r::u)):Bd R (co u (AM u r)):=by rw[EP h];exact c.head
theorem WE (h:AU (r::u)) (g:TB R (r::u)) (d:In u p) (c:In u q) (a:Bd s (co (r::u) (p+q*rt u r))):
  Bd (2*s+2*EE u.length R+R+1) (co u (p*p-q*q*AM u r)):=by
 obtain⟨D,v,z,C,h3⟩:=a;rw[DB h d c rfl] at C h3;obtain⟨k,m⟩:=DN.app.1 C;obtain⟨mp,G⟩:=MX.app.1 h3;obtain⟨K,F,f,hm⟩:=Ju h.1 g.tail;obtain⟨E,k0,k1,k2,I⟩:=g.head;have H:DN E (co u (AM u r)):=by rw[EP h];exact k2
 have j:MX (2^R) (co u (AM u r)):=by rw[EP h];exact I
 refine⟨D*D*K*E*K,Nat.mul_pos (Nat.mul_pos (Nat.mul_pos (Nat.mul_pos v v) F) k0) F,?_,DN.Iq h.1 (Ag h.1 d d) (Ag h.1 (Ag h.1 c c) (B9 h)) ((hm d d k k).dvd ⟨E*K,by grind⟩) (hm (Ag h.1 c c) (B9 h) (hm c c m m) H),
  (MX.Iq h.1 (Ag h.1 d d) (Ag h.1 (Ag h.1 c c) (B9 h)) (Hs h.1 g.tail d d mp mp) (Hs h.1 g.tail (Ag h.1 c c) (B9 h) (Hs h.1 g.tail c c G G) j)).mono ?_⟩
 ·have:=Nat.mul_le_mul (Nat.mul_le_mul (Nat.mul_le_mul (Nat.mul_le_mul z z) f) k1) f;rw[<-Nat.pow_add,<-Nat.pow_add,<-Nat.pow_add,<-Nat.pow_add] at this;exact Nat.le_trans this (Cb)
 rw[<-Nat.pow_add,<-Nat.pow_add,<-Nat.pow_add,<-Nat.pow_add,Nat.pow_succ];have e1:2^(s+s+EE u.length R)<=2^(2*s+2*EE u.length R+R):=Cb;have J:2^(s+s+EE u.length R+R+EE u.length R)<=2^(2*s+2*EE u.length R+R):=Cb;omega
theorem Yb {a b:Nat} (h:a<=b):(a:Rat)<=b:=Rat.natCast_le_natCast.2 h
theorem gV {q p:Rat} (h:Bd s [q]) (J:q*p=1):Bd (2*s) [p]:=by
 obtain⟨D,k,v,F,h3⟩:=h;obtain⟨n,f⟩:=F q List.mem_cons_self;have hb:=h3 q List.mem_cons_self;have N:(0:Rat)<D:=Rat.natCast_pos.2 k
 have H:n≠0:=by
  intro e;subst e;have:(D:Rat)=q*D*p:=by grind
  rw[f] at this;have k:((0:Int):Rat)=0:=rfl
  grind
 have d:p*(n:Rat)=D:=by rw[<-f];grind
 have c:(n.natAbs:Rat)=n\/(n.natAbs:Rat)= -n:=by
  rcases Int.natAbs_eq n with e | e
  ·left
   have:((n.natAbs:Int):Rat)=(n:Rat):=congrArg _ e.symm;exact this
  right
  have:((n.natAbs:Int):Rat)=((-n:Int):Rat):=congrArg _ (by omega);rw[Rat.intCast_neg] at this;exact this
 have I:(1:Rat)<=n.natAbs:=by
  have:1<=n.natAbs:=by omega
  exact Yb this
 have g:n.natAbs<=D*2^s:=by
  have e1:=SX (C:=D) hb (q:=(D:Rat)) ⟨by grind,by grind⟩;rw[f,Nat.mul_comm] at e1;apply Rat.natCast_le_natCast.1;rcases c with e | e <;> rw[e] <;> grind
 refine⟨n.natAbs,by omega,?_,fun z j=>?_,fun z j=>?_⟩
 ·have:=Nat.mul_le_mul_right (2^s) v;rw[<-Nat.pow_add] at this;exact Nat.le_trans g (Nat.le_trans this (Cb))
 ·rw[List.mem_singleton.1 j];rcases c with e | e <;> rw[e]
  ·exact⟨D,d⟩
  exact⟨-D,by rw[Rat.intCast_neg,Rat.mul_neg,d];rfl⟩
 rw[List.mem_singleton.1 j];have K:(D:Rat)<=((2^(2*s):Nat):Rat):=Yb (Nat.le_trans v (Cb));have L:p=D\/True:= .inr trivial;have M:p*(n.natAbs:Rat)=D\/p*(n.natAbs:Rat)= -D:=by rcases c with e | e <;> rw[e] <;> grind
 generalize (n.natAbs:Rat)=m at*
 generalize ((2^(2*s):Nat):Rat)=S at*
 have O:p<=D:=by
  apply Classical.byContradiction;intro G;have:=Rat.mul_pos (a:=p-D) (b:=m) (by grind) (by grind);have:=Rat.mul_nonneg (a:=(D:Rat)) (b:=m-1) (by grind) (by grind)
  grind
 have Q: -D<=p:=by
  apply Classical.byContradiction;intro G;have:=Rat.mul_pos (a:= -D-p) (b:=m) (by grind) (by grind);have:=Rat.mul_nonneg (a:=(D:Rat)) (b:=m-1) (by grind) (by grind)
  grind
 grind
theorem GP:∀{u:List (List Rat)} {R:Nat} {x y:Re} {s:Nat},AU u->TB R u->In u x->In u y->x*y=1->Bd s (co u x)->Bd (II u.length R s) (co u y)
 | [],R,x,y,s,_,_,F,H,e,h=>by
  obtain⟨p,rfl⟩:=Ct.1 F;obtain⟨q,rfl⟩:=Ct.1 H;rw[Dg] at h ⊢;rw[<-Re.ofRat_mul] at e;exact gV h (Re.Ib.1 e)
 | r::u,R,x,y,s,h,j,F,H,e,hb=>by
  obtain⟨a,b,ha,c,rfl⟩:=Cd.1 F;have U:=Cu h;have N:=WE h j ha c hb;have d:=E5 (Ag h.1 ha ha) (Ag h.1 (Ag h.1 c c) (B9 h))
  have z:a*a-b*b*AM u r≠0:=by
   intro O;have e1:(a+b*rt u r)*(a-b*rt u r)=0:=by grind
   rcases Re.F3 e1 with G | G
   ·rw[G] at e;have k:(0:Re)<1:=Re.HT.2 (show (0:Rat)<1 by decide)
    grind
   obtain⟨Q,T⟩:=indep h ha (F5 c) (CN u) (CN u) (show a+ -b*rt u r=0+0*rt u r by grind);have:a+b*rt u r=0:=by grind
   rw[this] at e;have k:(0:Re)<1:=Re.HT.2 (show (0:Rat)<1 by decide)
   grind
  obtain⟨i,f,g⟩:=Dv h.1 d z;have C:=GP h.1 j.tail d f g N
  have J:y=a*i+ -(b*i)*rt u r:=by
   have:y=(a+b*rt u r)*y*((a-b*rt u r)*i):=by
    have:(a+b*rt u r)*y*((a-b*rt u r)*i)=y*((a*a-b*b*AM u r)*i):=by grind
    rw[this,g];grind
   rw[e] at this
   grind
  obtain⟨D,L,k,m,h3⟩:=hb;rw[DB h ha c rfl] at m h3;obtain⟨E,k0,k1,k2,I⟩:=C;obtain⟨K,M,v,hm⟩:=Ju h.1 j.tail;rw[J,DB h (Ag h.1 ha f) (F5 (Ag h.1 c f)) rfl,Kp h.1 (Ag h.1 c f),List.length_cons,II];have m1:=Hs h.1 j.tail ha f (MX.app.1 h3).1 I;have m2:=Hs h.1 j.tail c f (MX.app.1 h3).2 I;rw[<-Nat.pow_add,<-Nat.pow_add] at m1 m2;refine⟨D*E*K,Nat.mul_pos (Nat.mul_pos L k0) M,?_,DN.app.2 ⟨hm ha f (DN.app.1 m).1 k2,(hm c f (DN.app.1 m).2 k2).neg⟩,MX.app.2 ⟨m1.mono (Cb),(m2.mono (Cb)).neg⟩⟩;have:=Nat.mul_le_mul (Nat.mul_le_mul k k1) v;rw[<-Nat.pow_add,<-Nat.pow_add] at this;exact Nat.le_trans this (Cb)
end
section
variable {B:Nat} {u:List (List Rat)} {x:Re}
theorem kI {r:Rat} {n:Int} (h:r*r=n):∃m:Int,r=m:=by
 have d:(r*r).den=1:=by rw[h];rfl
 have c:(r*r).den=r.den*r.den:=by
  have f:Nat.gcd (r.num*r.num).natAbs (r.den*r.den)=1:=by
   rw[Int.natAbs_mul];exact Nat.Coprime.mul_left (Nat.Coprime.mul_right r.reduced r.reduced) (Nat.Coprime.mul_right r.reduced r.reduced)
  rw[Rat.mul_def,Rat.normalize_eq];simp only[f,Nat.div_one]
 rw[d] at c;have h3:r.den=1:=Nat.eq_one_of_mul_eq_one_left c.symm;refine⟨r.num,?_⟩;have:=Le r;rw[h3] at this;have e:((1:Nat):Rat)=1:=rfl
 grind
theorem Yu {Y:Nat} {c e:Re} (h:e=2*(c*c)):Re.ofRat ((2*Y:Nat):Rat)*c*(Re.ofRat ((2*Y:Nat):Rat)*c)=Re.ofRat ((2*Y*Y:Nat):Rat)*e:=by
 subst h;have d:Re.ofRat ((2:Nat):Rat)=2:=rfl;simp only[HE,Re.ofRat_mul,d]
 grind
theorem XB:∀{u:List (List Rat)} {R:Nat},AU u->TB R u->∃G:Nat,0<G/\G<=2^GG u.length R/\∀{x w:Re} {D:Nat},In u w->w*w=x->DN D (co u x)->DN (D*G) (co u w)
 | [],R,_,_=>⟨1,by decide,by simp[GG],fun {x w D} hw e h=>by
  obtain⟨p,rfl⟩:=Ct.1 hw;subst e;rw[<-Re.ofRat_mul,Dg] at h;rw[Dg];intro z hz;rw[List.mem_singleton.1 hz];obtain⟨n,v⟩:=h _ List.mem_cons_self
  obtain⟨m,hm⟩:=kI (r:=p*D) (n:=n*D) (by
   rw[Rat.intCast_mul,<-v];have:((D:Int):Rat)=(D:Rat):=rfl
   grind)
  exact⟨m,by rw[Nat.mul_one];exact hm⟩⟩
 | r::u,R,h,N=>by
  obtain⟨G,hG,L,O⟩:=XB h.1 N.tail;obtain⟨K,Y,F,hm⟩:=Ju h.1 N.tail;obtain⟨E,hE,U,T,_⟩:=N.head;have hr:=Cu h;have a2:DN E (co u (AM u r)):=by rw[EP h];exact T
  obtain⟨i,hi,Q⟩:=Dv h.1 (B9 h) (by have:=h.2.2.1;grind);obtain⟨I,hI,X,W,_⟩:=GP h.1 N.tail (B9 h) hi Q (Q8 h N);refine⟨2*(K*K*E)*G*G*I*K,Nat.mul_pos (Nat.mul_pos (Nat.mul_pos (Nat.mul_pos (Nat.mul_pos (by decide) (Nat.mul_pos (Nat.mul_pos Y Y) hE)) hG) hG) hI) Y,?_,fun {x w D} hw e H=>?_⟩
  ·have h1:=Nat.mul_le_mul (Nat.mul_le_mul (Nat.mul_le_mul (Nat.mul_le_mul (Nat.mul_le_mul (Nat.le_refl (2^1)) (Nat.mul_le_mul (Nat.mul_le_mul F F) U)) L) L) X) F;simp only[<-Nat.pow_add] at h1;exact Nat.le_trans h1 (Cb (by rw[List.length_cons,GG];omega))
  obtain⟨c,d,j,k,rfl⟩:=Cd.1 hw
  have f:In u (2*c*d):=by
   have:=DR (Ag h.1 j k) (Ag h.1 j k);rwa [show c*d+c*d=2*c*d by grind] at this
  have g:=B9 h;have ha:=DR (Ag h.1 j j) (Ag h.1 (Ag h.1 k k) g);have ex:x=(c*c+d*d*AM u r)+(2*c*d)*rt u r:=by rw[<-e];grind
  rw[ex,DB h ha f rfl,DN.app] at H
  generalize hA:c*c+d*d*AM u r=a at*
  generalize hB:2*c*d=b at*
  have v:=E5 (Ag h.1 j j) (Ag h.1 (Ag h.1 k k) g)
  generalize hN:c*c-d*d*AM u r=n at*
  have M:=E5 (Ag h.1 ha ha) (Ag h.1 (Ag h.1 f f) g);have Z:n*n=a*a-b*b*AM u r:=by grind
  have d1:DN (D*D*(K*K*E)) (co u (a*a-b*b*AM u r)):=
   DN.Iq h.1 (Ag h.1 ha ha) (Ag h.1 (Ag h.1 f f) g) ((hm ha ha H.1 H.1).dvd ⟨K*E,by grind⟩) ((hm (Ag h.1 f f) g (hm f f H.2 H.2) a2).dvd ⟨1,by grind⟩)
  generalize K*K*E=C at*
  have d2:DN (D*C*G) (co u n):=by
   have k1:DN 1 (co u (Re.ofRat ((D*C*(D*C):Nat):Rat)*(a*a-b*b*AM u r))):=(Kw h.1 M).1 (d1.dvd ⟨C,by grind⟩);have k2:=O (x:=Re.ofRat ((D*C*(D*C):Nat):Rat)*(a*a-b*b*AM u r)) (w:=Re.ofRat ((D*C:Nat):Rat)*n) (D:=1) (Mt v _) (by rw[HE (D*C),Re.ofRat_mul,<-Z];grind) k1;exact ((Kw h.1 v).2 k2).dvd ⟨1,by grind⟩
  have J:DN (D*C*G) (co u a):=H.1.dvd ⟨C*G,by grind⟩;have d3:DN (D*C*G) (co u (a+n)):=DN.FH h.1 ha v J d2;have d4:DN (D*C*G) (co u (a-n)):=DN.Iq h.1 ha v J d2
  have d5:DN (2*(D*C*G)*G) (co u c):=by
   have k1:DN 1 (co u (Re.ofRat ((2*(D*C*G)*(D*C*G):Nat):Rat)*(a+n))):=(Kw h.1 (DR ha v)).1 (d3.dvd ⟨2*(D*C*G),by grind⟩);have k2:=O (x:=Re.ofRat ((2*(D*C*G)*(D*C*G):Nat):Rat)*(a+n)) (w:=Re.ofRat ((2*(D*C*G):Nat):Rat)*c) (D:=1) (Mt j _) (Yu (by clear O hm k1;grind)) k1;exact ((Kw h.1 j).2 k2).dvd ⟨1,by grind⟩
  have d6:DN (D*C*G*I*K) (co u ((a-n)*i)):=hm (E5 ha v) hi d4 W
  have d7:DN (2*(D*C*G*I*K)*G) (co u d):=by
   have a1:=Ag h.1 (E5 ha v) hi;have k1:DN 1 (co u (Re.ofRat ((2*(D*C*G*I*K)*(D*C*G*I*K):Nat):Rat)*((a-n)*i))):=(Kw h.1 a1).1 (d6.dvd ⟨2*(D*C*G*I*K),by grind⟩)
   have k2:=O (x:=Re.ofRat ((2*(D*C*G*I*K)*(D*C*G*I*K):Nat):Rat)*((a-n)*i)) (w:=Re.ofRat ((2*(D*C*G*I*K):Nat):Rat)*d) (D:=1) (Mt k _) (Yu (by
    have e3:(a-n)*i=2*(d*d)*(AM u r*i):=by clear O hm k1;grind
    rw[e3,Q];grind)) k1
   exact ((Kw h.1 k).2 k2).dvd ⟨1,by grind⟩
  rw[DB h j k rfl,DN.app];exact⟨d5.dvd ⟨I*K,by grind⟩,d7.dvd ⟨1,by grind⟩⟩
theorem kx {p:Rat} (h:p*p<=((B*B:Nat):Rat)): -(B:Rat)<=p/\p<=B:=by
 rw[HE] at h;have d:(0:Rat)<=B:=Rat.natCast_nonneg
 generalize (B:Rat)=b at*
 constructor
 ·apply Classical.byContradiction;intro c;have:=Rat.mul_pos (a:= -p-b) (b:= -p+b) (by grind) (by grind)
  grind
 apply Classical.byContradiction;intro c;have:=Rat.mul_pos (a:=p-b) (b:=p+b) (by grind) (by grind)
 grind
theorem MX.half {y:Re} (h:AU u) (j:In u x) (f:In u y) (e:x=2*y) (k:MX (2*B) (co u x)):MX B (co u y):=by
 have c:x=Re.ofRat 2*y:=e;rw[c,RP h f] at k;intro q d;have:=k _ (List.mem_map.2 ⟨q,d,rfl⟩);rw[HE] at this;have g:((2:Nat):Rat)=2:=rfl
 grind
theorem Ya:∀{u:List (List Rat)} {R:Nat},AU u->TB R u->∀{x w:Re} {B:Nat},In u w->w*w=x->MX (B*B) (co u x)->MX (B*2^GG u.length R) (co u w)
 | [],R,_,_,x,w,B,hw,e,h=>by
  obtain⟨p,rfl⟩:=Ct.1 hw;subst e;rw[<-Re.ofRat_mul,Dg] at h;rw[Dg];intro z hz;rw[List.mem_singleton.1 hz];have:=kx (h _ List.mem_cons_self).2;simpa [GG] using this
 | r::u,R,h,L,x,w,B,hw,e,v=>by
  have H:=fun {x w:Re} {B:Nat}=>Ya (R:=R) (x:=x) (w:=w) (B:=B) h.1 L.tail
  have F:=fun {x y:Re} {B C:Nat}=>Hs (R:=R) (x:=x) (y:=y) (B:=B) (C:=C) h.1 L.tail
  obtain⟨E,hE,a1,_,W⟩:=L.head;have hr:=Cu h;have Z:MX (2^R) (co u (AM u r)):=by rw[EP h];exact W
  obtain⟨i,hi,N⟩:=Dv h.1 (B9 h) (by have:=h.2.2.1;grind);obtain⟨I,hI,a2,_,O⟩:=GP h.1 L.tail (B9 h) hi N (Q8 h L);obtain⟨c,d,k,j,rfl⟩:=Cd.1 hw
  have g:In u (2*c*d):=by
   have:=DR (Ag h.1 k j) (Ag h.1 k j);rwa [show c*d+c*d=2*c*d by grind] at this
  have f:=B9 h;have ha:=DR (Ag h.1 k k) (Ag h.1 (Ag h.1 j j) f);have ex:x=(c*c+d*d*AM u r)+(2*c*d)*rt u r:=by rw[<-e];grind
  rw[ex,DB h ha g rfl,MX.app] at v
  generalize hA:c*c+d*d*AM u r=a at*
  generalize hB:2*c*d=b at*
  have M:=E5 (Ag h.1 k k) (Ag h.1 (Ag h.1 j j) f)
  generalize hN:c*c-d*d*AM u r=n at*
  have X:n*n=a*a-b*b*AM u r:=by clear H F;grind
  have m1:=MX.Iq h.1 (Ag h.1 ha ha) (Ag h.1 (Ag h.1 g g) f) (F ha ha v.1 v.1) (F (Ag h.1 g g) f (F g g v.2 v.2) Z);have p0:=DI (EE u.length R);have p1:=DI R;have p2:=DI (GG u.length R);have p3:=DI (II u.length R R)
  have eG:2^GG (r::u).length R=2^EE u.length R*2^EE u.length R*2^EE u.length R*2^R*2*(2^GG u.length R*2^GG u.length R)*2^II u.length R R:=by
   have e2:(2:Nat)=2^1:=rfl;conv=>rhs;rw[show ∀q:Nat,q*2=q*2^1 from fun q=>rfl]
   simp only[<-Nat.pow_add]
   congr 1
   rw[List.length_cons,GG];omega
  rw[eG]
  generalize 2^EE u.length R=K at*
  generalize 2^R=S at*
  generalize 2^GG u.length R=G at*
  generalize 2^II u.length R R=J at*
  have U:1<=K*S:=Nat.mul_pos p0 p1;have m:1<=K*K*S:=Nat.mul_pos (Nat.mul_pos p0 p0) p1
  have Y:K+K*S*K<=2*(K*K*S)*(2*(K*K*S)):=by
   have t1:K*1<=K*(K*S):=Nat.mul_le_mul_left _ U;have t2:(K*K*S)*1<=(K*K*S)*(K*K*S):=Nat.mul_le_mul_left _ m
   grind
  have m2:MX (B*B*(2*(K*K*S))*G) (co u n):=by
   refine H (x:=a*a-b*b*AM u r) M X (m1.mono ?_);have:=Nat.mul_le_mul_left (B*B*(B*B)) Y
   grind
  have T:1<=K*K*S*G:=Nat.mul_pos m p2
  have m3:MX (B*B*(2*(K*K*S)*G)) (co u (c*c)):=by
   refine MX.half h.1 (DR ha M) (Ag h.1 k k) (by clear H F m1 m2;grind) ((MX.FH h.1 ha M v.1 m2).mono ?_);have:=Nat.mul_le_mul_left (B*B) (show 1<=2*(K*K*S)*G by rw[Nat.mul_assoc];omega)
   grind
  have m4:MX (B*(2*(K*K*S)*G)*G) (co u c):=by
   refine H (x:=c*c) k rfl (m3.mono ?_);have t:2*(K*K*S)*G*1<=2*(K*K*S)*G*(2*(K*K*S)*G):=Nat.mul_le_mul_left _ (by rw[Nat.mul_assoc];omega);have:=Nat.mul_le_mul_left (B*B) t
   grind
  have m5:MX (B*B*(2*(K*K*S)*G)) (co u (d*d*AM u r)):=by
   refine MX.half h.1 (E5 ha M) (Ag h.1 (Ag h.1 j j) f) (by clear H F m1 m2 m3;grind) ((MX.Iq h.1 ha M v.1 m2).mono ?_);have:=Nat.mul_le_mul_left (B*B) (show 1<=2*(K*K*S)*G by rw[Nat.mul_assoc];omega)
   grind
  have m6:MX (B*B*(2*(K*K*S)*G)*J*K) (co u (d*d)):=by
   have:=F (Ag h.1 (Ag h.1 j j) f) hi m5 O;rwa [show d*d*AM u r*i=d*d by rw[show d*d*AM u r*i=d*d*(AM u r*i) by grind,N];grind] at this
  have m7:MX (B*(2*(K*K*S)*G*J*K)*G) (co u d):=by
   refine H (x:=d*d) j rfl (m6.mono ?_);have t0:1<=2*(K*K*S)*G*J*K:=Nat.mul_pos (Nat.mul_pos (by rw[Nat.mul_assoc];omega) p3) p0;have t:2*(K*K*S)*G*J*K*1<=2*(K*K*S)*G*J*K*(2*(K*K*S)*G*J*K):=Nat.mul_le_mul_left _ t0;have:=Nat.mul_le_mul_left (B*B) t
   grind
  rw[DB h k j rfl,MX.app];have Q:1<=J*K:=Nat.mul_pos p3 p0;refine⟨m4.mono ?_,m7.mono ?_⟩
  ·have:=Nat.mul_le_mul_left (B*(2*(K*K*S)*G)*G) Q
   grind
  grind
theorem OQ {R s:Nat} {w:Re} (h:AU u) (d:TB R u) (hw:In u w) (e:w*w=x) (v:Bd s (co u x)):Bd (s+GG u.length R) (co u w):=by
 obtain⟨D,f,g,j,h3⟩:=v;obtain⟨G,k,c,m⟩:=XB h d;refine⟨D*G,Nat.mul_pos f k,?_,m hw e j,?_⟩
 ·have:=Nat.mul_le_mul g c;rwa [<-Nat.pow_add] at this
 have:=Ya h d hw e (B:=2^s) (h3.mono (by rw[<-Nat.pow_add];exact Cb));rwa [<-Nat.pow_add] at this
end
section
structure BA (x:Int) (b:Bool) (l:List UInt32):Prop where
 neg:b=decide (x<0)
 Bb:l=AP x.natAbs
variable {i n xi:Nat} {l o:List UInt32} {y:Int}
theorem Ak (x:Int):∃b l,BA x b l:=⟨_,_,rfl,rfl⟩
theorem BA.nat {x:Int} {b:Bool} (h:BA x b l):AD l=x.natAbs:=by rw[h.Bb,BS]
theorem BA.Eg {x:Int} {b:Bool} (h:BA x b l):x=if b=true then -(AD l:Int) else AD l:=by
 rw[h.nat,h.neg];by_cases c:x<0 <;> simp[c] <;> omega
theorem BA.uniq {x:Int} {b b':Bool} {l':List UInt32} (h:BA x b l) (h':BA y b' l') (e:x=y):b=b'/\l=l':=by
 subst e;exact⟨h.neg.trans h'.neg.symm,h.Bb.trans h'.Bb.symm⟩
theorem BA.trim {x:Int} {b:Bool} (h:BA x b l):AP (AD l)=l:=by rw[h.nat,<-h.Bb]
theorem BA.val {x:Int} {b:Bool} (d:AP n=l) (c:x=if b=true then -(n:Int) else n) (h3:n=0->b=false):BA x b l:=by
 constructor
 ·rw[c];cases b
  ·simp
  have:n≠0:=fun e=>absurd (h3 e) (by simp)
  simp;omega
 rw[<-d,c];congr 1;split <;> omega
theorem BA.nil {x:Int} {b:Bool} (h:BA x b l):l=[]↔x=0:=by
 rw[h.Bb,Ec];omega
theorem BA.Fp {x:Int} {b:Bool} (h:BA x b l):l.length=0↔x=0:=by
 rw[List.length_eq_zero_iff,h.nil]
def Cg (x:Int):Int:=if x<0 then -1 else if x=0 then 0 else 1
def Bu (a b:Int):Int:=if a<b then -1 else if b<a then 1 else 0
theorem Sc {x w:UInt32} (h:l[i]? =some x):AD (l.set i w)+2^(32*i)*x.toNat=AD l+2^(32*i)*w.toNat:=by
 induction l generalizing i with
 | nil=>simp at h
 | cons y l c=>
  cases i with
  | zero=>simp at h;subst h;simp[AD];omega
  | succ i=>
   have:=c (i:=i) (by simpa using h);rw[List.set_cons_succ,AD,AD,EG]
   generalize 2^(32*i)=P at*
   grind
theorem H2 {w:UInt32} (h:n<=i:=by omega):(l.set i w).take n=l.take n:=by
 rw[List.take_set];rw[List.set_eq_of_length_le];rw[List.length_take];omega
theorem FB {w:UInt32} (h:i<l.length):(l.set i w).take (i+1)=l.take i++[w]:=by
 rw[List.take_succ_eq_append_getElem (by simpa using h),H2 (Nat.le_refl _)];simp
theorem LO {A B Fy F1 yi:Nat} {w:UInt32} (c:i<o.length) (h:AD (o.take i)+B=A+2^(32*i)*Fy) (d:w.toNat+yi+Fy=xi+4294967296*F1):
  AD ((o.set i w).take (i+1))+(B+2^(32*i)*yi)=(A+2^(32*i)*xi)+2^(32*(i+1))*F1:=by
 rw[FB c,ET,EG,List.length_take,Nat.min_eq_left (by omega)]
 generalize 2^(32*i)=P at*
 have e:P*(w.toNat+yi+Fy)=P*(xi+4294967296*F1):=by rw[d]
 grind
theorem UH {N T c f yk old j:Nat} {q w:UInt32} {Y:Nat} {k:Nat} (m:j=i+k) (v:j<n) (z:o[j]? =some q) (F:q.toNat=old) (h:AD (o.take n)+2^(32*j)*c=T+xi*2^(32*i)*Y)
  (G:w.toNat+4294967296*f=c+xi*yk+old) (_:N=n):
  AD ((o.set j w).take n)+2^(32*(j+1))*f=T+xi*2^(32*i)*(Y+2^(32*k)*yk):=by
 have ht:(o.take n)[j]? =some q:=by rw[List.getElem?_take_of_lt v,z]
 have d:=Sc (w:=w) ht;rw[List.take_set,EG];have C:2^(32*j)=2^(32*i)*2^(32*k):=by rw[m,Nat.mul_add,Nat.pow_add]
 generalize H:2^(32*j)=P at*
 have e:P*(w.toNat+4294967296*f)=P*(c+xi*yk+old):=by rw[G]
 rw[F] at d;have g:xi*2^(32*i)*(2^(32*k)*yk)=P*(xi*yk):=by rw[C];grind
 rw[Nat.mul_add,g]
 grind
theorem YY {x:Int} {a b:Bool} (ha:a=decide (x<0)) (hb:b=decide (y<0)):x*y=if (a !=b)=true then -((x.natAbs*y.natAbs:Nat):Int) else ((x.natAbs*y.natAbs:Nat):Int):=by
 rw[Int.natCast_mul]
 by_cases c:x<0 <;> by_cases d:y<0 <;> simp[ha,hb,c,d]
 ·rw[show ((x.natAbs:Nat):Int)= -x by omega,show ((y.natAbs:Nat):Int)= -y by omega];grind
 ·rw[show ((x.natAbs:Nat):Int)= -x by omega,show ((y.natAbs:Nat):Int)=y by omega];grind
 ·rw[show ((x.natAbs:Nat):Int)=x by omega,show ((y.natAbs:Nat):Int)= -y by omega];grind
 rw[show ((x.natAbs:Nat):Int)=x by omega,show ((y.natAbs:Nat):Int)=y by omega]
theorem Jr (a b:Int):(a<b/\Bu a b= -1)\/(a=b/\Bu a b=0)\/(b<a/\Bu a b=1):=by
 unfold Bu
 split
 ·exact .inl ⟨by assumption,rfl⟩
 split
 ·exact .inr (.inr ⟨by assumption,rfl⟩)
 exact .inr (.inl ⟨by omega,rfl⟩)
theorem Fs (x:Int):(x<0/\Cg x= -1)\/(x=0/\Cg x=0)\/(0<x/\Cg x=1):=by
 unfold Cg
 split
 ·exact .inl ⟨by assumption,rfl⟩
 split
 ·exact .inr (.inl ⟨by assumption,rfl⟩)
 exact .inr (.inr ⟨by omega,rfl⟩)
theorem oU (x a b:Int): -9223372036854775808<=Cg x*Bu a b/\Cg x*Bu a b<9223372036854775808:=by
 rcases Fs x with⟨_,h⟩ |⟨_,h⟩ |⟨_,h⟩ <;> rcases Jr a b with⟨_,k⟩ |⟨_,k⟩ |⟨_,k⟩ <;> rw[h,k] <;> decide
theorem iI {x:Int} (h:Cg x=Cg y):Bu x y=Cg x*Bu x.natAbs y.natAbs:=by
 rcases Fs x with⟨d,c⟩ |⟨d,c⟩ |⟨d,c⟩ <;> rcases Fs y with⟨k1,k2⟩ |⟨k1,k2⟩ |⟨k1,k2⟩ <;>
  rcases Jr x y with⟨p,q⟩ |⟨p,q⟩ |⟨p,q⟩ <;> rcases Jr x.natAbs y.natAbs with⟨u,v⟩ |⟨u,v⟩ |⟨u,v⟩ <;> rw[c,q,v] <;> rw[c,k2] at h <;> omega
theorem iH {x:Int} (h:Cg x≠Cg y):Bu x y=Bu (Cg x) (Cg y):=by
 rcases Fs x with⟨d,c⟩ |⟨d,c⟩ |⟨d,c⟩ <;> rcases Fs y with⟨k1,k2⟩ |⟨k1,k2⟩ |⟨k1,k2⟩ <;>
  rcases Jr x y with⟨p,q⟩ |⟨p,q⟩ |⟨p,q⟩ <;> rw[c,k2] at h ⊢ <;> rw[q] <;> first | rfl | omega
theorem aP {x:Int} {b:Bool} (h:x=if b=true then -(n:Int) else n): -x=if (!b)=true then -(n:Int) else n:=by
 cases b <;> simp_all
theorem Py {x:Int} {b:Bool} (h:x=if b=true then -(n:Int) else n) (f:n≠0):Cg x=if b=true then -1 else 1:=by
 rcases Fs x with⟨d,c⟩ |⟨d,c⟩ |⟨d,c⟩ <;> rw[c] <;> cases b <;> simp at h ⊢ <;> omega
theorem add_same {x:Int} {b:Bool} (c:b=decide (x<0)) (d:b=decide (y<0)):x+y=if b=true then -((x.natAbs+y.natAbs:Nat):Int) else ((x.natAbs+y.natAbs:Nat):Int):=by
 cases b <;> simp at c d ⊢ <;> omega
theorem OD {x:Int} {a b:Bool} (d:a=decide (x<0)) (f:b=decide (y<0)) (c:a≠b) (h:x.natAbs<=y.natAbs):x+y=if b=true then -((y.natAbs-x.natAbs:Nat):Int) else ((y.natAbs-x.natAbs:Nat):Int):=by
 cases a <;> cases b <;> simp at d f c ⊢ <;> omega
theorem I4 {a b:Int} (h:Bu a b<0):a<b:=by rcases Jr a b with⟨_,k⟩ |⟨_,k⟩ |⟨_,k⟩ <;> omega
theorem I3 {a b:Int} (h:0<=Bu a b):b<=a:=by rcases Jr a b with⟨_,k⟩ |⟨_,k⟩ |⟨_,k⟩ <;> omega
def FZ (b:Bool) (l:List UInt32):Bool:=match l.getLast? with
 | none=> !b
 | some x=>x !=0
theorem JY {b:Bool}:FZ b l=true↔∃x,BA x b l:=by
 unfold FZ;cases h:l.getLast? with
 | none=>
  have:l=[]:=List.getLast?_eq_none_iff.1 h;subst this
  constructor
  ·intro hb;exact⟨0,by simpa using hb,rfl⟩
  rintro⟨x,c⟩
  have:=(c.nil).1 rfl;rw[c.neg,this];rfl
 | some w=>
  obtain⟨m,rfl⟩:=List.getLast?_eq_some_iff.1 h
  constructor
  ·intro hw;have hw:w≠0:=by simpa using hw
   have d:=RG (o:=m) (w:=w) fun e=>hw (UInt32.toNat_inj.1 e)
   have g:AD (m++[w])≠0:=fun e=>by
    rw[e,F8] at d;simp at d
   exact⟨if b=true then -(AD (m++[w]):Int) else AD (m++[w]),.val d rfl fun e=>absurd e g⟩
  rintro⟨x,c⟩
  simp only[bne_iff_ne,ne_eq];rintro rfl;have f:=c.trim;rw[<-Lq,JW] at f;have:=QD m;rw[f] at this;simp at this;omega
end
section
variable {A B xi yi:Nat} {l o:List UInt32}
theorem KG {N k:Nat} (h:N<2^(32*k)):∃z:List UInt32,z.length=k/\AD z=N:=by
 refine⟨AP N++List.replicate (k-(AP N).length) 0,?_,?_⟩
 ·have:=Fq h;simp;omega
 rw[PZ,IX,BS];simp
theorem QE (N i:Nat):N%2^(32*(i+1))=N%2^(32*i)+2^(32*i)*(N/2^(32*i)%4294967296):=by
 rw[EG,Nat.mul_comm 4294967296,Nat.mod_mul]
theorem aU {x y r n:Nat} (k:x<4294967296) (z:n<=31):(x+4294967296*(y+4294967296*r))/2^n%4294967296=x/2^n+y*2^(32-n)%4294967296:=by
 obtain⟨d,j⟩:∃d,32-n=d:=⟨_,rfl⟩
 have e:(4294967296:Nat)=2^n*2^d:=by rw[<-Nat.pow_add,show n+d=32 by omega]
 have c:0<2^n:=Nat.two_pow_pos n;have C:0<2^d:=Nat.two_pow_pos d;rw[j];have e1:x+4294967296*(y+4294967296*r)=x+2^n*(2^d*(y+4294967296*r)):=by rw[<-Nat.mul_assoc,<-e]
 rw[e1,Nat.add_mul_div_left _ _ c];have m:x/2^n<2^d:=Nat.div_lt_of_lt_mul (by rw[<-e];exact k);have f:x/2^n+2^d*(y+4294967296*r)=(x/2^n+y*2^d)+4294967296*(2^d*r):=by rw[Nat.mul_add];grind
 rw[f,Nat.add_mul_mod_self_left];have g:y*2^d%4294967296=2^d*(y%2^n):=by rw[e,Nat.mul_comm (2^n),Nat.mul_comm y,Nat.mul_mod_mul_left]
 rw[Nat.add_mod,g]
 have v:2^d*(y%2^n)+2^d<=4294967296:=by
  have:y%2^n+1<=2^n:=Nat.mod_lt _ c;have:=Nat.mul_le_mul_left (2^d) this;rw[e,Nat.mul_comm (2^n)];rw[Nat.mul_add] at this;omega
 have h:x/2^n%4294967296=x/2^n:=Nat.mod_eq_of_lt (by omega);rw[h,Nat.mod_eq_of_lt (by omega)]
theorem LX {a b d:Nat} (h:a<2^d):a ||| (2^d*b)=a+2^d*b:=by
 rw[Nat.or_comm,<-Nat.two_pow_add_eq_or_of_lt h,Nat.add_comm]
theorem Ds {i:Nat} {x:UInt32} (h:l[i]? =some x):AD (l.drop i)=x.toNat+4294967296*AD (l.drop (i+1)):=by
 have c:i<l.length:=by
  apply Classical.byContradiction;intro d;rw[List.getElem?_eq_none (by omega)] at h;exact absurd h (by simp)
 rw[List.drop_eq_getElem_cons c,AD];rw[List.getElem?_eq_getElem c] at h;rw[Option.some.inj h]
theorem Oj {i:Nat} (h:i<=l.length):AD l/2^(32*i)=AD (l.drop i):=by
 rw[GB l i h,Nat.add_mul_div_left _ _ (Nat.two_pow_pos _)];have:=Cv (l.take i);rw[List.length_take,Nat.min_eq_left h] at this;rw[Nat.div_eq_of_lt this,Nat.zero_add]
theorem Om {i off:Nat} {w:UInt32}:(l.set (off+i) w).drop off=(l.drop off).set i w:=by
 rw[List.drop_set,if_neg (by omega)]
 congr 1
 omega
theorem pH {D Fy F1 i:Nat} {w:UInt32} (c:i<o.length) (h:AD (o.take i)+B*D=A+2^(32*i)*Fy) (d:w.toNat+yi*D+Fy=xi+4294967296*F1):
  AD ((o.set i w).take (i+1))+(B+2^(32*i)*yi)*D=(A+2^(32*i)*xi)+2^(32*(i+1))*F1:=by
 rw[FB c,ET,EG,List.length_take,Nat.min_eq_left (by omega)]
 generalize 2^(32*i)=P at*
 have e:P*(w.toNat+yi*D+Fy)=P*(xi+4294967296*F1):=by rw[d]
 grind
theorem gG {OW OX i:Nat} {w:UInt32} (c:i<o.length) (h:AD (o.take i)+2^(32*i)*OW=A+B) (d:w.toNat+4294967296*OX=xi+yi+OW):
  AD ((o.set i w).take (i+1))+2^(32*(i+1))*OX=(A+2^(32*i)*xi)+(B+2^(32*i)*yi):=by
 rw[FB c,ET,EG,List.length_take,Nat.min_eq_left (by omega)]
 generalize 2^(32*i)=P at*
 have e:P*(w.toNat+4294967296*OX)=P*(xi+yi+OW):=by rw[d]
 grind
end
section
variable {D P R R0 R2 S V V0 V2 high next r top u3:Nat}
theorem Z8 {u:List UInt32} {off len:Nat} (d:S<2^(32*len)) (g:off+len<=u.length):
  ∃z:List UInt32,z.length=u.length/\z.take off=u.take off/\z.drop (off+len)=u.drop (off+len)/\AD ((z.drop off).take len)=S:=by
 obtain⟨y,h,c⟩:=KG d;have f:(u.take off).length=off:=by rw[List.length_take];omega
 refine⟨u.take off++(y++u.drop (off+len)),?_,?_,?_,?_⟩
 ·simp;omega
 ·rw[List.take_append_of_le_length (by omega),List.take_of_length_le (by omega)]
 ·rw[<-List.drop_drop,List.drop_append_of_le_length (by omega),List.drop_eq_nil_of_le (by omega:(u.take off).length<=off),List.nil_append,List.drop_append_of_le_length (by omega),List.drop_eq_nil_of_le (by omega:y.length<=len),List.nil_append]
 rw[List.drop_append_of_le_length (by omega),List.drop_eq_nil_of_le (by omega:(u.take off).length<=off),List.nil_append,List.take_append_of_le_length (by omega),List.take_of_length_le (by omega),c]
theorem Wz (hR:R=R2*P+R0) (c:R0<P) (hV:V=V2*P+V0) (h:R2<D*V2):R/V<D:=by
 have j:0<P:=by omega
 have d:0<V2:=by
  apply Nat.pos_of_ne_zero;intro e;subst e;simp at h
 apply Nat.div_lt_of_lt_mul;have f:(R2+1)*P<=D*V2*P:=Nat.mul_le_mul_right _ h;have g:V*D=D*V2*P+V0*D:=by rw[hV];grind
 have h3:(R2+1)*P=R2*P+P:=by grind
 omega
theorem W0 (hR:R=R2*P+R0) (hV:V=V2*P+V0) (f:V0<P) (h:D*V2<=R2) (v:D<=V2+1):D<=R/V+1:=by
 cases D with
 | zero=>exact Nat.zero_le _
 | succ D=>
  have c:0<V\/V=0:=by omega
  rcases c with c | c
  ·have:D<=R/V:=by
    rw[Nat.le_div_iff_mul_le c];have g:(D+1)*V2*P<=R2*P:=Nat.mul_le_mul_right _ h;have j:D*V=D*V2*P+D*V0:=by rw[hV];grind
    have h3:(D+1)*V2*P=D*V2*P+V2*P:=by grind
    have k:D*V0<=D*P:=Nat.mul_le_mul_left _ (by omega);have m:D*P<=V2*P:=Nat.mul_le_mul_right _ (by omega);omega
   exact Nat.succ_le_succ this
  have d:V2*P=0:=by omega
  have z:0<P:=by omega
  have:V2=0:=by
   rcases Nat.mul_eq_zero.1 d with e | e
   ·exact e
   omega
  exact Nat.le_trans (by omega:D+1<=1) (Nat.le_add_left _ _)
structure Iu (R V top high D r:Nat):Prop where
 sum:r+D*high=top
 up:R/V<=D
 PV:D<=4294967297
 rest:r<4294967296
theorem jt (hR:R=top*P+R0) (c:R0<P) (hV:V=high*P+V0) (j:2147483648<=high) (g:high<4294967296) (ht:top<4294967296*(high+1)):Iu R V top high (top/high) (top%high):=by
 have hm:=Nat.div_add_mod top high;have h:=Nat.mod_lt top (by omega:0<high);refine⟨by rw[Nat.mul_comm] at hm;omega,?_,?_,by omega⟩
 ·have d:top<(top/high+1)*high:=by rw[Nat.add_mul,Nat.mul_comm];omega
  exact Nat.le_of_lt_succ (Wz hR c hV d)
 have f:top<4294967298*high:=by omega
 have h3:top/high<4294967298:=(Nat.div_lt_iff_lt_mul (by omega)).2 f;exact Nat.le_of_lt_succ h3
theorem Xe (g:Iu R V top high D r) (c:R/V<4294967296) (h:4294967296<=D:=by omega):R/V<=D-1:=by
 have:=g.up;exact Nat.le_sub_one_of_lt (Nat.lt_of_lt_of_le c h)
theorem Xf (g:Iu R V top high D r) (hR:R=(4294967296*top+u3)*P+R0) (c:R0<P) (hV:V=(4294967296*high+next)*P+V0) (h:4294967296*r+u3<D*next):R/V<=D-1:=by
 have f:4294967296*top+u3<D*(4294967296*high+next):=by
  have e:=g.sum
  clear g hR hV
  rw[<-e];have e1:D*(4294967296*high+next)=4294967296*(D*high)+D*next:=by grind
  have d:4294967296*(r+D*high)=4294967296*r+4294967296*(D*high):=by grind
  rw[e1,d]
  generalize D*high=Q at*
  generalize D*next=T at*
  omega
 exact Nat.le_sub_one_of_lt (Wz hR c hV f)
theorem Xg (g:Iu R V top high D r) (c:R/V<=D-1) (f:0<D) (d:r+high<4294967296):Iu R V top high (D-1) (r+high):=by
 refine⟨?_,c,by have:=g.PV;omega,d⟩;have:=g.sum;obtain⟨D,rfl⟩:∃k,D=k+1:=⟨D-1,by omega⟩
 simp only[Nat.add_sub_cancel];rw[Nat.add_mul] at this;omega
structure L5 (R V D:Nat):Prop where
 up:R/V<=D
 low:D<=R/V+1
 word:D<4294967296
theorem Se (g:Iu R V top high D r) (hR:R=(4294967296*top+u3)*P+R0) (hV:V=(4294967296*high+next)*P+V0) (c:V0<P) (f:2147483648<=high)
  (d:D<4294967296) (h:D*next<=4294967296*r+u3:=by omega):L5 R V D:=by
 refine⟨g.up,W0 hR hV c ?_ (by omega),d⟩;have e:=g.sum;rw[<-e];have:D*(4294967296*high+next)=4294967296*(D*high)+D*next:=by grind
 have:4294967296*(r+D*high)=4294967296*r+4294967296*(D*high):=by grind
 omega
theorem Sd (g:Iu R V top high D r) (f:R/V<=D-1) (C:0<D) (hR:R=(4294967296*top+u3)*P+R0) (hV:V=(4294967296*high+next)*P+V0) (d:V0<P) (G:2147483648<=high) (H:next<4294967296)
  (ht:top<4294967296*(high+1)) (h:4294967296<=r+high:=by omega):L5 R V (D-1):=by
 obtain⟨D,rfl⟩:∃k,D=k+1:=⟨D-1,by omega⟩
 simp only[Nat.add_sub_cancel] at f ⊢;have e:=g.sum;have hm:=g.PV;have j:(r+high)+D*high=top:=by rw[Nat.add_mul] at e;omega
 have c:D<4294967296:=by
  apply Classical.byContradiction;intro F;have:4294967296*high<=D*high:=Nat.mul_le_mul_right _ (by omega);omega
 refine⟨f,W0 hR hV d ?_ (by omega),c⟩;rw[<-j];have m:D*(4294967296*high+next)=4294967296*(D*high)+D*next:=by grind
 have v:4294967296*(r+high+D*high)=4294967296*(r+high)+4294967296*(D*high):=by grind
 have h3:D*next<=4294967296*4294967296:=Nat.mul_le_mul (by omega) (by omega);have z:4294967296*4294967296<=4294967296*(r+high):=Nat.mul_le_mul_left _ h;omega
theorem Yd {M:Nat} {b:Bool} (g:L5 R V D) (hV:0<V) (h:S+V*D=R+M*b.toNat) (m:S<M):
  (b=false->D=R/V/\S=R%V)/\(b=true->D-1=R/V/\0<D/\(R%V<M->(S+V)%M=R%V)):=by
 have v:=Nat.div_add_mod R V;have z:=Nat.mod_lt R hV;obtain⟨j,k,_⟩:=g
 generalize R/V=Q at*
 generalize R%V=T at*
 constructor
 ·rintro rfl;simp at h
  have c:D=Q:=by
   apply Classical.byContradiction;intro f;have:D=Q+1:=by omega
   rw[this,Nat.mul_add] at h;omega
  exact⟨c,by rw[c] at h;omega⟩
 rintro rfl;simp at h
 have c:D=Q+1:=by
  apply Classical.byContradiction;intro f;have:D=Q:=by omega
  rw[this] at h;omega
 refine⟨by omega,by omega,fun d=>?_⟩;rw[c,Nat.mul_add] at h;have:S+V=T+M*1:=by omega
 rw[this,Nat.add_mul_mod_self_left,Nat.mod_eq_of_lt d]
end
end Go.Abs
