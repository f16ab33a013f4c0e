/- Part 16 of a proof. Conditions: each theorem's own. -/
import Derived.Test.YtpccjlcpbehglaaGreatPk14
set_option linter.all false
set_option maxHeartbeats 8000000
namespace Go.Abs
def evR:List (List Rat)→List Rat→Re
 | [],a=>Re.ofRat (a.headD 0)
 | r::u,a=>evR u (a.take (2^u.length))+evR u (a.drop (2^u.length))*Re.sqrt (evR u r)
def rt (u:List (List Rat)) (r:List Rat):Re:=Re.sqrt (evR u r)
def In (u:List (List Rat)) (x:Re):Prop:=∃a:List Rat,a.length=2^u.length∧evR u a=x
def Red:List (List Rat)→Prop
 | []=>True
 | r::u=>Red u∧r.length=2^u.length∧0<evR u r∧¬∃w,In u w∧w*w=evR u r
noncomputable def co (u:List (List Rat)) (x:Re):List Rat:=by
 classical
 exact if h:In u x then Classical.choose h else []
variable {a:List Rat} {p x y:Re}
theorem pow_len (r:List Rat) (u:List (List Rat)):2^(r::u).length=2^u.length+2^u.length:=by
 rw[List.length_cons,Nat.pow_succ];omega
theorem in_nil:In [] x↔∃q,x=Re.ofRat q:=by
 constructor
 ·rintro⟨a,_,rfl⟩;exact⟨_,rfl⟩
 ·rintro⟨q,rfl⟩;exact⟨[q],rfl,rfl⟩
theorem in_cons {r:List Rat} {u:List (List Rat)}:In (r::u) x↔∃p q,In u p∧In u q∧x=p+q*rt u r:=by
 constructor
 ·rintro⟨a,ha,rfl⟩
  rw[pow_len] at ha
  exact⟨_,_,⟨a.take (2^u.length),by rw[List.length_take];omega,rfl⟩,⟨a.drop (2^u.length),by rw[List.length_drop];omega,rfl⟩,rfl⟩
 ·rintro⟨p,q,⟨a,ha,rfl⟩,⟨b,hb,rfl⟩,rfl⟩
  refine⟨a++b,by rw[pow_len,List.length_append];omega,?_⟩
  rw[evR,←ha,List.take_left,List.drop_left];rfl
theorem evR_add:∀(u:List (List Rat)) (a b:List Rat),a.length=2^u.length→b.length=2^u.length→evR u (List.zipWith (· + ·) a b)=evR u a+evR u b
 | [],a,b,ha,hb=>by
  match a,b,ha,hb with
  | [p],[q],_,_=>exact Re.ofRat_add p q
 | r::u,a,b,ha,hb=>by
  rw[pow_len] at ha hb
  rw[evR,evR,evR,List.take_zipWith,List.drop_zipWith,evR_add u _ _ (by rw[List.length_take];omega) (by rw[List.length_take];omega),evR_add u _ _ (by rw[List.length_drop];omega) (by rw[List.length_drop];omega)]
  grind
theorem evR_neg:∀(u:List (List Rat)) (a:List Rat),a.length=2^u.length→evR u (a.map (- ·))= -evR u a
 | [],a,ha=>by
  match a,ha with
  | [p],_=>exact Re.ofRat_neg p
 | r::u,a,ha=>by
  rw[pow_len] at ha
  rw[evR,evR,←List.map_take,←List.map_drop,evR_neg u _ (by rw[List.length_take];omega),evR_neg u _ (by rw[List.length_drop];omega)]
  grind
theorem evR_zero:∀(u:List (List Rat)) (n:Nat),evR u (List.replicate n 0)=0
 | [],0=>rfl
 | [],n+1=>rfl
 | r::u,n=>by rw[evR,List.take_replicate,List.drop_replicate,evR_zero,evR_zero];grind
theorem in_rat (q:Rat):∀u,In u (Re.ofRat q)
 | []=>in_nil.2 ⟨q,rfl⟩
 | r::u=>in_cons.2 ⟨_,_,in_rat q u,⟨List.replicate (2^u.length) 0,List.length_replicate,evR_zero u _⟩,by grind⟩
theorem in_zero (u:List (List Rat)):In u 0:=in_rat 0 u
theorem in_one (u:List (List Rat)):In u 1:=in_rat 1 u
theorem in_add {u:List (List Rat)}:In u x→In u y→In u (x+y)
 |⟨a,ha,ea⟩,⟨b,hb,eb⟩=>⟨List.zipWith (· + ·) a b,by rw[List.length_zipWith];omega,by rw[evR_add u a b ha hb,ea,eb]⟩
theorem in_neg {u:List (List Rat)}:In u x→In u (-x)
 |⟨a,ha,ea⟩=>⟨a.map (- ·),by rw[List.length_map,ha],by rw[evR_neg u a ha,ea]⟩
theorem in_sub {u:List (List Rat)} (h:In u x) (k:In u y):In u (x-y):=by
 have:=in_add h (in_neg k)
 rwa [show x+ -y=x-y by grind] at this
theorem rt_sq {u:List (List Rat)} {r:List Rat} (h:Red (r::u)):rt u r*rt u r=evR u r:=Re.sqrt_sq (by have:=h.2.2.1;grind)
theorem rt_nn (u:List (List Rat)) (r:List Rat):0≤rt u r:=Re.sqrt_nn _
theorem in_rad {u:List (List Rat)} {r:List Rat} (h:Red (r::u)):In u (evR u r):=⟨r,h.2.1,rfl⟩
theorem in_up {u:List (List Rat)} {r:List Rat} (h:In u x):In (r::u) x:=in_cons.2 ⟨x,0,h,in_zero u,by grind⟩
theorem in_rt (u:List (List Rat)) (r:List Rat):In (r::u) (rt u r):=in_cons.2 ⟨0,1,in_zero u,in_one u,by grind⟩
theorem in_mul:∀{u:List (List Rat)} {x y:Re},Red u→In u x→In u y→In u (x*y)
 | [],x,y,_,hx,hy=>by
  obtain⟨p,rfl⟩:=in_nil.1 hx
  obtain⟨q,rfl⟩:=in_nil.1 hy
  exact in_nil.2 ⟨p*q,(Re.ofRat_mul p q).symm⟩
 | r::u,x,y,h,hx,hy=>by
  obtain⟨a,b,ha,hb,rfl⟩:=in_cons.1 hx
  obtain⟨c,d,hc,hd,rfl⟩:=in_cons.1 hy
  have hr:=rt_sq h
  refine in_cons.2 ⟨a*c+b*d*evR u r,a*d+b*c,in_add (in_mul h.1 ha hc) (in_mul h.1 (in_mul h.1 hb hd) (in_rad h)),in_add (in_mul h.1 ha hd) (in_mul h.1 hb hc),?_⟩
  grind
theorem nonsq {u:List (List Rat)} {r:List Rat} (h:Red (r::u)) {w:Re} (hw:In u w):w*w≠evR u r:=fun e=>h.2.2.2 ⟨w,hw,e⟩
theorem in_inv:∀{u:List (List Rat)} {x:Re},Red u→In u x→x≠0→∃y,In u y∧x*y=1
 | [],x,_,hx,h0=>by
  obtain⟨p,rfl⟩:=in_nil.1 hx
  have hp:p≠0:=fun e=>h0 (by rw[e];rfl)
  refine⟨Re.ofRat p⁻¹,in_nil.2 ⟨_,rfl⟩,?_⟩
  rw[←Re.ofRat_mul,show p*p⁻¹=1 by grind];rfl
 | r::u,x,h,hx,h0=>by
  obtain⟨a,b,ha,hb,rfl⟩:=in_cons.1 hx
  have hr:=rt_sq h
  have hn:a*a-b*b*evR u r≠0:=by
   intro e
   by_cases hb0:b=0
   ·have ha0:a=0:=by
     have:a*a=0:=by grind
     rcases Re.eq_zero_or this with e | e <;> exact e
    exact h0 (by grind)
   ·obtain⟨c,hc,hbc⟩:=in_inv h.1 hb hb0
    exact nonsq h (in_mul h.1 ha hc) (by
     have e1:a*a=b*b*evR u r:=by grind
     have e2:a*c*(a*c)=(b*c)*(b*c)*evR u r:=by grind
     rw[e2,hbc];grind)
  obtain⟨y,hy,hny⟩:=in_inv h.1 (in_sub (in_mul h.1 ha ha) (in_mul h.1 (in_mul h.1 hb hb) (in_rad h))) hn
  refine⟨a*y+ -(b*y)*rt u r,in_cons.2 ⟨_,_,in_mul h.1 ha hy,in_neg (in_mul h.1 hb hy),rfl⟩,?_⟩
  grind
theorem indep {u:List (List Rat)} {r:List Rat} (h:Red (r::u)) {q p' q':Re} (hp:In u p) (hq:In u q) (hp':In u p') (hq':In u q') (e:p+q*rt u r=p'+q'*rt u r):p=p'∧q=q':=by
 have hr:=rt_sq h
 by_cases h0:q-q'=0
 ·have:q=q':=by grind
  subst this
  exact⟨by grind,rfl⟩
 ·exfalso
  obtain⟨c,hc,hqc⟩:=in_inv h.1 (in_sub hq hq') h0
  refine nonsq h (in_mul h.1 (in_sub hp' hp) hc) ?_
  have e1:(q-q')*rt u r=p'-p:=by grind
  have e2:(p'-p)*c=rt u r*((q-q')*c):=by grind
  rw[e2,hqc];grind
theorem evR_inj:∀{u:List (List Rat)} {a b:List Rat},Red u→a.length=2^u.length→b.length=2^u.length→evR u a=evR u b→a=b
 | [],a,b,_,ha,hb,e=>by
  match a,b,ha,hb with
  | [p],[q],_,_=>exact congrArg (fun x=>[x]) (Re.ofRat_inj.1 e)
 | r::u,a,b,h,ha,hb,e=>by
  rw[pow_len] at ha hb
  have l1:(a.take (2^u.length)).length=2^u.length:=by rw[List.length_take];omega
  have l2:(a.drop (2^u.length)).length=2^u.length:=by rw[List.length_drop];omega
  have l3:(b.take (2^u.length)).length=2^u.length:=by rw[List.length_take];omega
  have l4:(b.drop (2^u.length)).length=2^u.length:=by rw[List.length_drop];omega
  obtain⟨e1,e2⟩:=indep h ⟨_,l1,rfl⟩ ⟨_,l2,rfl⟩ ⟨_,l3,rfl⟩ ⟨_,l4,rfl⟩ e
  rw[←List.take_append_drop (2^u.length) a,←List.take_append_drop (2^u.length) b,evR_inj h.1 l1 l3 e1,evR_inj h.1 l2 l4 e2]
theorem co_spec {u:List (List Rat)} (h:In u x):(co u x).length=2^u.length∧evR u (co u x)=x:=by
 unfold co
 rw[dif_pos h]
 exact Classical.choose_spec h
theorem co_len {u:List (List Rat)} (h:In u x):(co u x).length=2^u.length:=(co_spec h).1
theorem ev_co {u:List (List Rat)} (h:In u x):evR u (co u x)=x:=(co_spec h).2
theorem co_eq {u:List (List Rat)} (h:Red u) (ha:a.length=2^u.length) (e:evR u a=x):co u x=a:=by
 have hx:In u x:=⟨a,ha,e⟩
 exact evR_inj h (co_len hx) ha ((ev_co hx).trans e.symm)
theorem co_ev {u:List (List Rat)} (h:Red u) (ha:a.length=2^u.length):co u (evR u a)=a:=co_eq h ha rfl
theorem co_add {u:List (List Rat)} (h:Red u) (hx:In u x) (hy:In u y):co u (x+y)=List.zipWith (· + ·) (co u x) (co u y):=
 co_eq h (by rw[List.length_zipWith,co_len hx,co_len hy];omega) (by rw[evR_add u _ _ (co_len hx) (co_len hy),ev_co hx,ev_co hy])
theorem co_neg {u:List (List Rat)} (h:Red u) (hx:In u x):co u (-x)=(co u x).map (- ·):=
 co_eq h (by rw[List.length_map,co_len hx]) (by rw[evR_neg u _ (co_len hx),ev_co hx])
theorem co_zero {u:List (List Rat)} (h:Red u):co u 0=List.replicate (2^u.length) 0:=co_eq h List.length_replicate (evR_zero u _)
theorem co_cons {u:List (List Rat)} {r:List Rat} {q:Re} (h:Red (r::u)) (hp:In u p) (hq:In u q) (hx:x=p+q*rt u r):co (r::u) x=co u p++co u q:=by
 refine co_eq h (by rw[List.length_append,co_len hp,co_len hq,pow_len]) ?_
 rw[evR,←co_len hp,List.take_left,List.drop_left,ev_co hp,ev_co hq,hx];rfl
theorem co_nil (q:Rat):co [] (Re.ofRat q)=[q]:=co_eq (u:=[]) trivial rfl rfl
theorem co_rat (q:Rat):∀{u:List (List Rat)},Red u→co u (Re.ofRat q)=q::List.replicate (2^u.length-1) 0
 | [],_=>co_nil q
 | r::u,h=>by
  rw[co_cons h (in_rat q u) (in_zero u) (by grind),co_rat q h.1,co_zero h.1,List.cons_append,List.replicate_append_replicate]
  have:1≤2^u.length:=Nat.one_le_two_pow
  have:2^(r::u).length-1=2^u.length-1+2^u.length:=by rw[pow_len];omega
  rw[this]
theorem co_lo {u:List (List Rat)} {r:List Rat} {q:Re} (h:Red (r::u)) (hp:In u p) (hq:In u q) (hx:x=p+q*rt u r):(co (r::u) x).take (2^u.length)=co u p:=by
 rw[co_cons h hp hq hx,←co_len hp,List.take_left]
theorem co_hi {u:List (List Rat)} {r:List Rat} {q:Re} (h:Red (r::u)) (hp:In u p) (hq:In u q) (hx:x=p+q*rt u r):(co (r::u) x).drop (2^u.length)=co u q:=by
 rw[co_cons h hp hq hx,←co_len hp,List.drop_left]
theorem co_all {u:List (List Rat)} (h:Red u) (hx:In u x):(∀c∈co u x,c=0)↔x=0:=by
 constructor
 ·intro hc
  have:co u x=List.replicate (2^u.length) 0:=List.eq_replicate_iff.2 ⟨co_len hx,hc⟩
  rw[←ev_co hx,this,evR_zero]
 ·rintro rfl c hc
  rw[co_zero h] at hc
  exact (List.mem_replicate.1 hc).2
theorem rt_ne {u:List (List Rat)} {r:List Rat} (h:Red (r::u)):rt u r≠0:=by
 intro e
 have hr:=rt_sq h
 have:=h.2.2.1
 rw[e] at hr
 grind
theorem rt_pos {u:List (List Rat)} {r:List Rat} (h:Red (r::u)):0<rt u r:=by
 have:=rt_ne h
 have:=rt_nn u r
 grind
end Go.Abs
namespace Go.Abs
def Sq (u:List (List Rat)) (x:Re):Prop:=∃w,In u w∧w*w=x
variable {a b n t w x:Re} {r:List Rat} {u:List (List Rat)}
theorem two_ne:(2:Re)≠0:=by
 intro h
 have h1:(0:Re)<1:=by
  have:=Re.ofRat_lt.2 (show (0:Rat)<1 by decide)
  exact this
 grind
theorem mul_ne {y:Re} (hx:x≠0) (hy:y≠0):x*y≠0:=fun h=>by rcases Re.eq_zero_or h with e | e;exact hx e;exact hy e
theorem sq_zero (h:x*x=0):x=0:=by rcases Re.eq_zero_or h with e | e <;> exact e
theorem sq_low (h:Red (r::u)) (ha:In u a):Sq (r::u) a↔Sq u a∨∃i,In u i∧evR u r*i=1∧Sq u (a*i):=by
 have hr:=rt_sq h
 constructor
 ·rintro⟨w,hw,e⟩
  obtain⟨c,d,hc,hd,rfl⟩:=in_cons.1 hw
  have e2:(c*c+d*d*evR u r)+(2*c*d)*rt u r=a+0*rt u r:=by grind
  have h2:In u (2*c*d):=by
   have:=in_add (in_mul h.1 hc hd) (in_mul h.1 hc hd)
   rwa [show c*d+c*d=2*c*d by grind] at this
  obtain⟨e3,e4⟩:=indep h (in_add (in_mul h.1 hc hc) (in_mul h.1 (in_mul h.1 hd hd) (in_rad h))) h2 ha (in_zero u) e2
  by_cases hd0:d=0
  ·left;exact⟨c,hc,by grind⟩
  ·right
   have hc0:c=0:=by
    apply Classical.byContradiction
    intro hc0
    exact mul_ne (mul_ne two_ne hc0) hd0 e4
   obtain⟨i,hi,hri⟩:=in_inv h.1 (in_rad h) (by have:=h.2.2.1;grind)
   exact⟨i,hi,hri,d,hd,by grind⟩
 ·rintro (⟨w,hw,e⟩ |⟨i,hi,hri,w,hw,e⟩)
  ·exact⟨w,in_up hw,e⟩
  ·refine⟨0+w*rt u r,in_cons.2 ⟨0,w,in_zero u,hw,rfl⟩,?_⟩
   have:a=a*(evR u r*i):=by rw[hri];grind
   grind
theorem sq_norm (h:Red (r::u)) (ha:In u a) (hb:In u b) (hw:Sq (r::u) (a+b*rt u r)):∃c d,In u c∧In u d∧c*c+d*d*evR u r=a∧2*c*d=b:=by
 have hr:=rt_sq h
 obtain⟨w,hw,e⟩:=hw
 obtain⟨c,d,hc,hd,rfl⟩:=in_cons.1 hw
 have e2:(c*c+d*d*evR u r)+(2*c*d)*rt u r=a+b*rt u r:=by grind
 have h2:In u (2*c*d):=by
  have:=in_add (in_mul h.1 hc hd) (in_mul h.1 hc hd)
  rwa [show c*d+c*d=2*c*d by grind] at this
 obtain⟨e3,e4⟩:=indep h (in_add (in_mul h.1 hc hc) (in_mul h.1 (in_mul h.1 hd hd) (in_rad h))) h2 ha hb e2
 exact⟨c,d,hc,hd,e3,e4⟩
theorem sq_norm1 (h:Red (r::u)) (ha:In u a) (hb:In u b) (hw:Sq (r::u) (a+b*rt u r)):Sq u (a*a-b*b*evR u r):=by
 obtain⟨c,d,hc,hd,e3,e4⟩:=sq_norm h ha hb hw
 exact⟨c*c-d*d*evR u r,in_sub (in_mul h.1 hc hc) (in_mul h.1 (in_mul h.1 hd hd) (in_rad h)),by grind⟩
theorem sq_norm2 (h:Red (r::u)) (ha:In u a) (hb:In u b) (hw:Sq (r::u) (a+b*rt u r)) (hn:n*n=a*a-b*b*evR u r) (ht:2*t=1):
  Sq u (t*(a+n))∨Sq u (t*(a-n)):=by
 obtain⟨c,d,hc,hd,e3,e4⟩:=sq_norm h ha hb hw
 have hm:(n-(c*c-d*d*evR u r))*(n+(c*c-d*d*evR u r))=0:=by grind
 rcases Re.eq_zero_or hm with e | e
 ·left
  have h1:a+n=2*(c*c):=by clear hn hm;grind
  have h2:t*(2*(c*c))=2*t*(c*c):=by clear hn hm e3 e4 h1 e;grind
  exact⟨c,hc,by rw[h1,h2,ht];grind⟩
 ·right
  have h1:a-n=2*(c*c):=by clear hn hm;grind
  have h2:t*(2*(c*c))=2*t*(c*c):=by clear hn hm e3 e4 h1 e;grind
  exact⟨c,hc,by rw[h1,h2,ht];grind⟩
theorem sq_build {r' i ρ s:Re} (hn:n*n=a*a-b*b*ρ) (ht:2*t=1) (hs:s*s=ρ) (hw:w*w=t*(a+n)) (hi:(w+w)*i=1) (hr:r'=w+b*i*s):r'*r'=a+b*s:=by
 have hw0:w≠0:=by intro e;subst e;grind
 have h1:2*(w*w)=a+n:=by rw[hw];grind
 have h2:(a+n)*(a-n)=b*b*ρ:=by grind
 have h3:2*(w*w)*(b*i*(b*i)*ρ)*2=b*b*ρ:=by
  have:2*(w*w)*(b*i*(b*i)*ρ)*2=b*b*ρ*(((w+w)*i)*((w+w)*i)):=by grind
  rw[this,hi];grind
 have h4:(a+n)*(2*(b*i*(b*i)*ρ)-(a-n))=0:=by grind
 have h5:2*(b*i*(b*i)*ρ)-(a-n)=0:=by
  rcases Re.eq_zero_or h4 with e | e
  ·exfalso
   have:2*(w*w)=0:=by grind
   rcases Re.eq_zero_or this with e | e
   ·exact two_ne e
   ·exact hw0 (sq_zero e)
  ·exact e
 have h6:2*w*(b*i)=b:=by
  have:2*w*(b*i)=b*((w+w)*i):=by grind
  rw[this,hi];grind
 have h7:r'*r'=w*w+b*i*(b*i)*ρ+2*w*(b*i)*s:=by rw[hr];grind
 have h8:2*(w*w+b*i*(b*i)*ρ-a)=0:=by grind
 have h9:w*w+b*i*(b*i)*ρ-a=0:=by
  rcases Re.eq_zero_or h8 with e | e
  ·exact absurd e two_ne
  ·exact e
 grind
theorem sq_half_ne (h:Red (r::u)) (hb0:b≠0) (hn:n*n=a*a-b*b*evR u r) (ht:2*t=1) (hw:w*w=t*(a+n)):w≠0:=by
 intro e
 subst e
 have h1:a+n=0:=by grind
 have h2:b*b*evR u r=0:=by grind
 have h3:=h.2.2.1
 rcases Re.eq_zero_or h2 with e | e
 ·exact hb0 (sq_zero e)
 ·grind
theorem sq_nil {q:Rat}:Sq [] (Re.ofRat q)↔∃r:Rat,0≤r∧r*r=q:=by
 constructor
 ·rintro⟨w,hw,e⟩
  obtain⟨r,rfl⟩:=in_nil.1 hw
  rw[←Re.ofRat_mul,Re.ofRat_inj] at e
  rcases Rat.le_total (a:=0) (b:=r) with h | h
  ·exact⟨r,h,e⟩
  ·exact⟨-r,by grind,by grind⟩
 ·rintro⟨r,_,e⟩
  exact⟨Re.ofRat r,in_nil.2 ⟨r,rfl⟩,by rw[←Re.ofRat_mul,e]⟩
end Go.Abs
namespace Go.Abs
def DN (D:Nat) (a:List Rat):Prop:=∀q∈a,∃n:Int,q*D=n
def MX (B:Nat) (a:List Rat):Prop:=∀q∈a,-(B:Rat)≤q∧q≤B
def Bd (k:Nat) (a:List Rat):Prop:=∃D:Nat,0<D∧D≤2^k∧DN D a∧MX (2^k) a
def TB (R:Nat) (u:List (List Rat)):Prop:=∀r∈u,Bd R r
def EE:Nat→Nat→Nat
 | 0,_=>0
 | h+1,R=>2*EE h R+R+2
def II:Nat→Nat→Nat→Nat
 | 0,_,s=>2*s
 | h+1,R,s=>s+EE h R+II h R (2*s+2*EE h R+R+1)
def GG:Nat→Nat→Nat
 | 0,_=>0
 | h+1,R=>3*EE h R+R+1+2*GG h R+II h R R
theorem int_add {p q:Rat} (h:∃n:Int,p=n) (k:∃n:Int,q=n):∃n:Int,p+q=n:=by
 obtain⟨a,rfl⟩:=h;obtain⟨b,rfl⟩:=k;exact⟨a+b,by rw[Rat.intCast_add]⟩
theorem int_mul {p q:Rat} (h:∃n:Int,p=n) (k:∃n:Int,q=n):∃n:Int,p*q=n:=by
 obtain⟨a,rfl⟩:=h;obtain⟨b,rfl⟩:=k;exact⟨a*b,by rw[Rat.intCast_mul]⟩
theorem int_nat (k:Nat):∃n:Int,(k:Rat)=n:=⟨k,rfl⟩
theorem cast_mul (a b:Nat):((a*b:Nat):Rat)=(a:Rat)*b:=Rat.natCast_mul a b
theorem DN.mul_right {D:Nat} {a:List Rat} (h:DN D a) (c:Nat):DN (D*c) a:=fun q hq=>by
 have:=int_mul (h q hq) (int_nat c)
 rwa [Rat.mul_assoc,←cast_mul] at this
theorem DN.dvd {D E:Nat} {a:List Rat} (h:DN D a) (hd:D∣E):DN E a:=by
 obtain⟨c,rfl⟩:=hd;exact h.mul_right c
theorem zip_mem {a b:List Rat} {q:Rat} (h:q∈List.zipWith (· + ·) a b):∃x∈a,∃y∈b,q=x+y:=by
 obtain⟨i,hi⟩:=List.mem_iff_getElem?.1 h
 rw[List.getElem?_zipWith] at hi
 cases ha:a[i]? with
 | none=>rw[ha] at hi;simp at hi
 | some x=>
  cases hb:b[i]? with
  | none=>rw[ha,hb] at hi;simp at hi
  | some y=>
   rw[ha,hb] at hi
   exact⟨x,List.mem_of_getElem? ha,y,List.mem_of_getElem? hb,(Option.some.inj hi).symm⟩
theorem DN.add {D:Nat} {a b:List Rat} (h:DN D a) (k:DN D b):DN D (List.zipWith (· + ·) a b):=fun q hq=>by
 obtain⟨x,hx,y,hy,rfl⟩:=zip_mem hq
 have:=int_add (h x hx) (k y hy)
 rwa [←Rat.add_mul] at this
theorem DN.neg {D:Nat} {a:List Rat} (h:DN D a):DN D (a.map (- ·)):=fun q hq=>by
 obtain⟨x,hx,rfl⟩:=List.mem_map.1 hq
 obtain⟨n,hn⟩:=h x hx
 exact⟨-n,by rw[Rat.intCast_neg,←hn,Rat.neg_mul]⟩
theorem MX.add {B C:Nat} {a b:List Rat} (h:MX B a) (k:MX C b):MX (B+C) (List.zipWith (· + ·) a b):=fun q hq=>by
 obtain⟨x,hx,y,hy,rfl⟩:=zip_mem hq
 have:=h x hx;have:=k y hy
 rw[Rat.natCast_add]
 grind
theorem MX.neg {B:Nat} {a:List Rat} (h:MX B a):MX B (a.map (- ·)):=fun q hq=>by
 obtain⟨x,hx,rfl⟩:=List.mem_map.1 hq
 have:=h x hx
 grind
theorem MX.mono {B C:Nat} {a:List Rat} (h:MX B a) (hc:B≤C):MX C a:=fun q hq=>by
 have:=h q hq
 have hc':(B:Rat)≤C:=Rat.natCast_le_natCast.2 hc
 grind
theorem DN.app {D:Nat} {a b:List Rat}:DN D (a++b)↔DN D a∧DN D b:=
 ⟨fun h=>⟨fun q hq=>h q (List.mem_append_left _ hq),fun q hq=>h q (List.mem_append_right _ hq)⟩,fun h q hq=>(List.mem_append.1 hq).elim (h.1 q) (h.2 q)⟩
theorem MX.app {B:Nat} {a b:List Rat}:MX B (a++b)↔MX B a∧MX B b:=
 ⟨fun h=>⟨fun q hq=>h q (List.mem_append_left _ hq),fun q hq=>h q (List.mem_append_right _ hq)⟩,fun h q hq=>(List.mem_append.1 hq).elim (h.1 q) (h.2 q)⟩
section
variable {u:List (List Rat)} {x y:Re}
theorem co_sub (h:Red u) (hx:In u x) (hy:In u y):co u (x-y)=List.zipWith (· + ·) (co u x) ((co u y).map (- ·)):=by
 rw[show x-y=x+ -y by grind,co_add h hx (in_neg hy),co_neg h hy]
theorem DN.vadd {D:Nat} (h:Red u) (hx:In u x) (hy:In u y) (a:DN D (co u x)) (b:DN D (co u y)):DN D (co u (x+y)):=by rw[co_add h hx hy];exact a.add b
theorem DN.vsub {D:Nat} (h:Red u) (hx:In u x) (hy:In u y) (a:DN D (co u x)) (b:DN D (co u y)):DN D (co u (x-y)):=by rw[co_sub h hx hy];exact a.add b.neg
theorem MX.vadd {B C:Nat} (h:Red u) (hx:In u x) (hy:In u y) (a:MX B (co u x)) (b:MX C (co u y)):MX (B+C) (co u (x+y)):=by rw[co_add h hx hy];exact a.add b
theorem MX.vsub {B C:Nat} (h:Red u) (hx:In u x) (hy:In u y) (a:MX B (co u x)) (b:MX C (co u y)):MX (B+C) (co u (x-y)):=by rw[co_sub h hx hy];exact a.add b.neg
end
theorem evR_smul:∀(u:List (List Rat)) (c:Rat) (a:List Rat),a.length=2^u.length→evR u (a.map (c* ·))=Re.ofRat c*evR u a
 | [],c,a,ha=>by
  match a,ha with
  | [p],_=>exact Re.ofRat_mul c p
 | r::u,c,a,ha=>by
  rw[pow_len] at ha
  rw[evR,evR,←List.map_take,←List.map_drop,evR_smul u _ _ (by rw[List.length_take];omega),evR_smul u _ _ (by rw[List.length_drop];omega)]
  grind
theorem co_smul {u:List (List Rat)} {x:Re} (h:Red u) (hx:In u x) (c:Rat):co u (Re.ofRat c*x)=(co u x).map (c* ·):=
 co_eq h (by rw[List.length_map,co_len hx]) (by rw[evR_smul u c _ (co_len hx),ev_co hx])
theorem in_smul {u:List (List Rat)} {x:Re} (hx:In u x) (c:Rat):In u (Re.ofRat c*x):=
 ⟨(co u x).map (c* ·),by rw[List.length_map,co_len hx],by rw[evR_smul u c _ (co_len hx),ev_co hx]⟩
theorem dn_smul {u:List (List Rat)} {x:Re} (h:Red u) (hx:In u x) {D c:Nat}:DN (D*c) (co u x)↔DN D (co u (Re.ofRat c*x)):=by
 rw[co_smul h hx]
 constructor
 ·intro k q hq
  obtain⟨p,hp,rfl⟩:=List.mem_map.1 hq
  obtain⟨n,hn⟩:=k p hp
  exact⟨n,by rw[←hn,cast_mul];grind⟩
 ·intro k q hq
  obtain⟨n,hn⟩:=k _ (List.mem_map.2 ⟨q,hq,rfl⟩)
  exact⟨n,by rw[←hn,cast_mul];grind⟩
theorem pow_pos2 (k:Nat):0<2^k:=Nat.two_pow_pos k
theorem pow_le2 {a b:Nat} (h:a≤b):2^a≤2^b:=Nat.pow_le_pow_right (by decide) h
theorem TB.tail {R:Nat} {r:List Rat} {u:List (List Rat)} (h:TB R (r::u)):TB R u:=fun x hx=>h x (List.mem_cons_of_mem _ hx)
theorem TB.head {R:Nat} {r:List Rat} {u:List (List Rat)} (h:TB R (r::u)):Bd R r:=h r List.mem_cons_self
theorem co_rad {r:List Rat} {u:List (List Rat)} (h:Red (r::u)):co u (evR u r)=r:=co_ev h.1 h.2.1
theorem co_mul {r:List Rat} {u:List (List Rat)} {a b c d x y:Re} (h:Red (r::u)) (ha:In u a) (hb:In u b) (hc:In u c) (hd:In u d) (hx:x=a+b*rt u r) (hy:y=c+d*rt u r):
  co (r::u) (x*y)=co u (a*c+b*d*evR u r)++co u (a*d+b*c):=by
 have hr:=rt_sq h
 exact co_cons h (in_add (in_mul h.1 ha hc) (in_mul h.1 (in_mul h.1 hb hd) (in_rad h))) (in_add (in_mul h.1 ha hd) (in_mul h.1 hb hc)) (by subst hx;subst hy;grind)
theorem dn_mul:∀{u:List (List Rat)} {R:Nat},Red u→TB R u→∃K:Nat,0<K∧K≤2^EE u.length R∧∀{x y:Re} {D D':Nat},In u x→In u y→DN D (co u x)→DN D' (co u y)→DN (D*D'*K) (co u (x*y))
 | [],R,_,_=>⟨1,by decide,by simp[EE],fun {x y D D'} hx hy h k=>by
  obtain⟨p,rfl⟩:=in_nil.1 hx
  obtain⟨q,rfl⟩:=in_nil.1 hy
  rw[co_nil] at h k
  rw[←Re.ofRat_mul,co_nil]
  intro z hz
  rw[List.mem_singleton.1 hz]
  have:=int_mul (h p List.mem_cons_self) (k q List.mem_cons_self)
  rw[cast_mul,cast_mul]
  rwa [show p*(D:Rat)*(q*(D':Rat))=p*q*(D*D'*(1:Nat)) by have:((1:Nat):Rat)=1:=rfl;grind] at this⟩
 | r::u,R,h,hT=>by
  obtain⟨K,hK,hKl,hm⟩:=dn_mul h.1 hT.tail
  obtain⟨E,hE,hEl,hDr,_⟩:=hT.head
  refine⟨K*K*E,Nat.mul_pos (Nat.mul_pos hK hK) hE,?_,fun {x y D D'} hx hy hdx hdy=>?_⟩
  ·have h1:K*K*E≤2^EE u.length R*2^EE u.length R*2^R:=Nat.mul_le_mul (Nat.mul_le_mul hKl hKl) hEl
   rw[←Nat.pow_add,←Nat.pow_add] at h1
   exact Nat.le_trans h1 (pow_le2 (by rw[List.length_cons,EE];omega))
  ·obtain⟨a,b,ha,hb,rfl⟩:=in_cons.1 hx
   obtain⟨c,d,hc,hd,rfl⟩:=in_cons.1 hy
   rw[co_cons h ha hb rfl,DN.app] at hdx
   rw[co_cons h hc hd rfl,DN.app] at hdy
   rw[co_mul h ha hb hc hd rfl rfl,DN.app]
   have hr:DN E (co u (evR u r)):=by rw[co_rad h];exact hDr
   refine⟨DN.vadd h.1 (in_mul h.1 ha hc) (in_mul h.1 (in_mul h.1 hb hd) (in_rad h)) ((hm ha hc hdx.1 hdy.1).dvd ⟨K*E,by grind⟩) ((hm (in_mul h.1 hb hd) (in_rad h) (hm hb hd hdx.2 hdy.2) hr).dvd ⟨1,by grind⟩),
    DN.vadd h.1 (in_mul h.1 ha hd) (in_mul h.1 hb hc) ((hm ha hd hdx.1 hdy.2).dvd ⟨K*E,by grind⟩) ((hm hb hc hdx.2 hdy.1).dvd ⟨K*E,by grind⟩)⟩
theorem mx_mul1 {p q:Rat} {B C:Nat} (h: -(B:Rat)≤p∧p≤B) (k: -(C:Rat)≤q∧q≤C): -((B*C:Nat):Rat)≤p*q∧p*q≤((B*C:Nat):Rat):=by
 rw[cast_mul]
 exact⟨mul_bd' h.2 h.1 k.2 k.1,mul_bd h.2 h.1 k.2 k.1⟩
theorem mx_mul:∀{u:List (List Rat)} {R:Nat},Red u→TB R u→∀{x y:Re} {B C:Nat},In u x→In u y→MX B (co u x)→MX C (co u y)→MX (B*C*2^EE u.length R) (co u (x*y))
 | [],R,_,_,x,y,B,C,hx,hy,h,k=>by
  obtain⟨p,rfl⟩:=in_nil.1 hx
  obtain⟨q,rfl⟩:=in_nil.1 hy
  rw[co_nil] at h k
  rw[←Re.ofRat_mul,co_nil]
  intro z hz
  rw[List.mem_singleton.1 hz]
  have:=mx_mul1 (h p List.mem_cons_self) (k q List.mem_cons_self)
  rwa [show B*C*2^EE ([]:List (List Rat)).length R=B*C by simp[EE]]
 | r::u,R,h,hT,x,y,B,C,hx,hy,hmx,hmy=>by
  obtain⟨E,hE,hEl,_,hMr⟩:=hT.head
  have ih:=fun {x y:Re} {B C:Nat}=>mx_mul (R:=R) (x:=x) (y:=y) (B:=B) (C:=C) h.1 hT.tail
  obtain⟨a,b,ha,hb,rfl⟩:=in_cons.1 hx
  obtain⟨c,d,hc,hd,rfl⟩:=in_cons.1 hy
  rw[co_cons h ha hb rfl,MX.app] at hmx
  rw[co_cons h hc hd rfl,MX.app] at hmy
  rw[co_mul h ha hb hc hd rfl rfl,MX.app]
  have hr:MX (2^R) (co u (evR u r)):=by rw[co_rad h];exact hMr
  have e:EE (r::u).length R=EE u.length R+EE u.length R+R+2:=by rw[List.length_cons,EE];omega
  rw[e,Nat.pow_add,Nat.pow_add,Nat.pow_add]
  have h1:=pow_pos2 (EE u.length R)
  have h2:=pow_pos2 R
  generalize 2^EE u.length R=K at*
  generalize 2^R=S at*
  have k1:B*C*K≤B*C*(K*K*S):=Nat.mul_le_mul_left _ (by
   have:K*1≤K*(K*S):=Nat.mul_le_mul_left _ (Nat.mul_pos h1 h2)
   rw[Nat.mul_assoc];omega)
  have k2:B*C*K*S*K=B*C*(K*K*S):=by grind
  refine⟨(MX.vadd h.1 (in_mul h.1 ha hc) (in_mul h.1 (in_mul h.1 hb hd) (in_rad h)) (ih ha hc hmx.1 hmy.1) (ih (in_mul h.1 hb hd) (in_rad h) (ih hb hd hmx.2 hmy.2) hr)).mono ?_,
   (MX.vadd h.1 (in_mul h.1 ha hd) (in_mul h.1 hb hc) (ih ha hd hmx.1 hmy.2) (ih hb hc hmx.2 hmy.1)).mono ?_⟩
  ·rw[k2];grind
  ·grind
end Go.Abs
