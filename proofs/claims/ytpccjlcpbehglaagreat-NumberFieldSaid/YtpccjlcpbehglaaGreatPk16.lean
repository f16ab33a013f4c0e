/- Part 17 of a proof. Conditions: each theorem's own. -/
import Derived.Test.YtpccjlcpbehglaaGreatPk15
set_option linter.all false
set_option maxHeartbeats 8000000
namespace Go.Abs
variable {R s t:Nat} {p q x y:Re} {r:List Rat} {u:List (List Rat)}
theorem Bd.mono {k l:Nat} {a:List Rat} (h:Bd k a) (hl:k≤l):Bd l a:=by
 obtain⟨D,h0,h1,h2,h3⟩:=h
 exact⟨D,h0,Nat.le_trans h1 (pow_le2 hl),h2,h3.mono (pow_le2 hl)⟩
theorem bd_add (h:Red u) (hx:In u x) (hy:In u y) (a:Bd s (co u x)) (b:Bd t (co u y)):Bd (s+t+1) (co u (x+y)):=by
 obtain⟨D,h0,h1,h2,h3⟩:=a
 obtain⟨E,k0,k1,k2,k3⟩:=b
 refine⟨D*E,Nat.mul_pos h0 k0,?_,DN.vadd h hx hy (h2.dvd ⟨E,rfl⟩) (k2.dvd ⟨D,Nat.mul_comm _ _⟩),(MX.vadd h hx hy h3 k3).mono ?_⟩
 ·have:=Nat.mul_le_mul h1 k1
  rw[←Nat.pow_add] at this
  exact Nat.le_trans this (pow_le2 (by omega))
 ·have h4:2^s≤2^(s+t):=pow_le2 (by omega)
  have h5:2^t≤2^(s+t):=pow_le2 (by omega)
  rw[Nat.pow_succ];omega
theorem bd_neg (h:Red u) (hx:In u x) (a:Bd s (co u x)):Bd s (co u (-x)):=by
 obtain⟨D,h0,h1,h2,h3⟩:=a
 rw[co_neg h hx]
 exact⟨D,h0,h1,h2.neg,h3.neg⟩
theorem bd_sub (h:Red u) (hx:In u x) (hy:In u y) (a:Bd s (co u x)) (b:Bd t (co u y)):Bd (s+t+1) (co u (x-y)):=by
 rw[show x-y=x+ -y by grind]
 exact bd_add h hx (in_neg hy) a (bd_neg h hy b)
theorem bd_mul (h:Red u) (hT:TB R u) (hx:In u x) (hy:In u y) (a:Bd s (co u x)) (b:Bd t (co u y)):Bd (s+t+EE u.length R) (co u (x*y)):=by
 obtain⟨D,h0,h1,h2,h3⟩:=a
 obtain⟨E,k0,k1,k2,k3⟩:=b
 obtain⟨K,hK,hKl,hm⟩:=dn_mul h hT
 refine⟨D*E*K,Nat.mul_pos (Nat.mul_pos h0 k0) hK,?_,hm hx hy h2 k2,(mx_mul h hT hx hy h3 k3).mono ?_⟩
 ·have:=Nat.mul_le_mul (Nat.mul_le_mul h1 k1) hKl
  rwa [←Nat.pow_add,←Nat.pow_add] at this
 ·rw[←Nat.pow_add,←Nat.pow_add];exact Nat.le_refl _
theorem bd_rat {q:Rat} (h:Red u) (a:Bd s [q]):Bd s (co u (Re.ofRat q)):=by
 obtain⟨D,h0,h1,h2,h3⟩:=a
 rw[co_rat q h]
 refine⟨D,h0,h1,fun z hz=>?_,fun z hz=>?_⟩
 ·rcases List.mem_cons.1 hz with rfl | hz
  ·exact h2 z List.mem_cons_self
  ·rw[(List.mem_replicate.1 hz).2];exact⟨0,by rw[Rat.zero_mul];rfl⟩
 ·rcases List.mem_cons.1 hz with rfl | hz
  ·exact h3 z List.mem_cons_self
  ·rw[(List.mem_replicate.1 hz).2]
   have:(0:Rat)≤((2^s:Nat):Rat):=Rat.natCast_nonneg
   grind
theorem bd_lo (h:Red (r::u)) (hp:In u p) (hq:In u q) (a:Bd s (co (r::u) (p+q*rt u r))):Bd s (co u p)∧Bd s (co u q):=by
 obtain⟨D,h0,h1,h2,h3⟩:=a
 rw[co_cons h hp hq rfl] at h2 h3
 exact⟨⟨D,h0,h1,(DN.app.1 h2).1,(MX.app.1 h3).1⟩,⟨D,h0,h1,(DN.app.1 h2).2,(MX.app.1 h3).2⟩⟩
theorem bd_hi (h:Red (r::u)) (hp:In u p) (hq:In u q) (a:Bd s (co u p)) (b:Bd t (co u q)):Bd (s+t) (co (r::u) (p+q*rt u r)):=by
 obtain⟨D,h0,h1,h2,h3⟩:=a
 obtain⟨E,k0,k1,k2,k3⟩:=b
 rw[co_cons h hp hq rfl]
 refine⟨D*E,Nat.mul_pos h0 k0,?_,DN.app.2 ⟨h2.dvd ⟨E,rfl⟩,k2.dvd ⟨D,Nat.mul_comm _ _⟩⟩,MX.app.2 ⟨h3.mono (pow_le2 (by omega)),k3.mono (pow_le2 (by omega))⟩⟩
 have:=Nat.mul_le_mul h1 k1
 rwa [←Nat.pow_add] at this
theorem bd_rad (h:Red (r::u)) (hT:TB R (r::u)):Bd R (co u (evR u r)):=by rw[co_rad h];exact hT.head
theorem bd_norm (h:Red (r::u)) (hT:TB R (r::u)) (hp:In u p) (hq:In u q) (a:Bd s (co (r::u) (p+q*rt u r))):
  Bd (2*s+2*EE u.length R+R+1) (co u (p*p-q*q*evR u r)):=by
 obtain⟨D,h0,h1,h2,h3⟩:=a
 rw[co_cons h hp hq rfl] at h2 h3
 obtain⟨dp,dq⟩:=DN.app.1 h2
 obtain⟨mp,mq⟩:=MX.app.1 h3
 obtain⟨K,hK,hKl,hm⟩:=dn_mul h.1 hT.tail
 obtain⟨E,k0,k1,k2,k3⟩:=hT.head
 have hr:DN E (co u (evR u r)):=by rw[co_rad h];exact k2
 have hr':MX (2^R) (co u (evR u r)):=by rw[co_rad h];exact k3
 refine⟨D*D*K*E*K,Nat.mul_pos (Nat.mul_pos (Nat.mul_pos (Nat.mul_pos h0 h0) hK) k0) hK,?_,DN.vsub h.1 (in_mul h.1 hp hp) (in_mul h.1 (in_mul h.1 hq hq) (in_rad h)) ((hm hp hp dp dp).dvd ⟨E*K,by grind⟩) (hm (in_mul h.1 hq hq) (in_rad h) (hm hq hq dq dq) hr),
  (MX.vsub h.1 (in_mul h.1 hp hp) (in_mul h.1 (in_mul h.1 hq hq) (in_rad h)) (mx_mul h.1 hT.tail hp hp mp mp) (mx_mul h.1 hT.tail (in_mul h.1 hq hq) (in_rad h) (mx_mul h.1 hT.tail hq hq mq mq) hr')).mono ?_⟩
 ·have:=Nat.mul_le_mul (Nat.mul_le_mul (Nat.mul_le_mul (Nat.mul_le_mul h1 h1) hKl) k1) hKl
  rw[←Nat.pow_add,←Nat.pow_add,←Nat.pow_add,←Nat.pow_add] at this
  exact Nat.le_trans this (pow_le2 (by omega))
 ·rw[←Nat.pow_add,←Nat.pow_add,←Nat.pow_add,←Nat.pow_add,Nat.pow_succ]
  have e1:2^(s+s+EE u.length R)≤2^(2*s+2*EE u.length R+R):=pow_le2 (by omega)
  have e2:2^(s+s+EE u.length R+R+EE u.length R)≤2^(2*s+2*EE u.length R+R):=pow_le2 (by omega)
  omega
theorem nat_cast_le {a b:Nat} (h:a≤b):(a:Rat)≤b:=Rat.natCast_le_natCast.2 h
theorem bd_inv0 {q p:Rat} (h:Bd s [q]) (hpq:q*p=1):Bd (2*s) [p]:=by
 obtain⟨D,h0,h1,h2,h3⟩:=h
 obtain⟨n,hn⟩:=h2 q List.mem_cons_self
 have hb:=h3 q List.mem_cons_self
 have hD:(0:Rat)<D:=Rat.natCast_pos.2 h0
 have hn0:n≠0:=by
  intro e;subst e
  have:(D:Rat)=q*D*p:=by grind
  rw[hn] at this
  have h0:((0:Int):Rat)=0:=rfl
  grind
 have hpn:p*(n:Rat)=D:=by rw[←hn];grind
 have habs:(n.natAbs:Rat)=n∨(n.natAbs:Rat)= -n:=by
  rcases Int.natAbs_eq n with e | e
  ·left
   have:((n.natAbs:Int):Rat)=(n:Rat):=congrArg _ e.symm
   exact this
  ·right
   have:((n.natAbs:Int):Rat)=((-n:Int):Rat):=congrArg _ (by omega)
   rw[Rat.intCast_neg] at this
   exact this
 have hna:(1:Rat)≤n.natAbs:=by
  have:1≤n.natAbs:=by omega
  exact nat_cast_le this
 have hnb:n.natAbs≤D*2^s:=by
  have e1:=mx_mul1 (C:=D) hb (q:=(D:Rat)) ⟨by grind,by grind⟩
  rw[hn,Nat.mul_comm] at e1
  apply Rat.natCast_le_natCast.1
  rcases habs with e | e <;> rw[e] <;> grind
 refine⟨n.natAbs,by omega,?_,fun z hz=>?_,fun z hz=>?_⟩
 ·have:=Nat.mul_le_mul_right (2^s) h1
  rw[←Nat.pow_add] at this
  exact Nat.le_trans hnb (Nat.le_trans this (pow_le2 (by omega)))
 ·rw[List.mem_singleton.1 hz]
  rcases habs with e | e <;> rw[e]
  ·exact⟨D,hpn⟩
  ·exact⟨-D,by rw[Rat.intCast_neg,Rat.mul_neg,hpn];rfl⟩
 ·rw[List.mem_singleton.1 hz]
  have h5:(D:Rat)≤((2^(2*s):Nat):Rat):=nat_cast_le (Nat.le_trans h1 (pow_le2 (by omega)))
  have h6:p=D∨True:= .inr trivial
  have h7:p*(n.natAbs:Rat)=D∨p*(n.natAbs:Rat)= -D:=by rcases habs with e | e <;> rw[e] <;> grind
  generalize (n.natAbs:Rat)=m at*
  generalize ((2^(2*s):Nat):Rat)=S at*
  have p1:p≤D:=by
   apply Classical.byContradiction;intro hc
   have:=Rat.mul_pos (a:=p-D) (b:=m) (by grind) (by grind)
   have:=Rat.mul_nonneg (a:=(D:Rat)) (b:=m-1) (by grind) (by grind)
   grind
  have p2: -D≤p:=by
   apply Classical.byContradiction;intro hc
   have:=Rat.mul_pos (a:= -D-p) (b:=m) (by grind) (by grind)
   have:=Rat.mul_nonneg (a:=(D:Rat)) (b:=m-1) (by grind) (by grind)
   grind
  grind
theorem bd_inv:∀{u:List (List Rat)} {R:Nat} {x y:Re} {s:Nat},Red u→TB R u→In u x→In u y→x*y=1→Bd s (co u x)→Bd (II u.length R s) (co u y)
 | [],R,x,y,s,_,_,hx,hy,e,h=>by
  obtain⟨p,rfl⟩:=in_nil.1 hx
  obtain⟨q,rfl⟩:=in_nil.1 hy
  rw[co_nil] at h ⊢
  rw[←Re.ofRat_mul] at e
  exact bd_inv0 h (Re.ofRat_inj.1 e)
 | r::u,R,x,y,s,h,hT,hx,hy,e,hb=>by
  obtain⟨a,b,ha,hb',rfl⟩:=in_cons.1 hx
  have hr:=rt_sq h
  have hN:=bd_norm h hT ha hb' hb
  have hNin:=in_sub (in_mul h.1 ha ha) (in_mul h.1 (in_mul h.1 hb' hb') (in_rad h))
  have hN0:a*a-b*b*evR u r≠0:=by
   intro e0
   have e1:(a+b*rt u r)*(a-b*rt u r)=0:=by grind
   rcases Re.eq_zero_or e1 with e2 | e2
   ·rw[e2] at e
    have h1:(0:Re)<1:=Re.ofRat_lt.2 (show (0:Rat)<1 by decide)
    grind
   ·obtain⟨e3,e4⟩:=indep h ha (in_neg hb') (in_zero u) (in_zero u) (show a+ -b*rt u r=0+0*rt u r by grind)
    have:a+b*rt u r=0:=by grind
    rw[this] at e
    have h1:(0:Re)<1:=Re.ofRat_lt.2 (show (0:Rat)<1 by decide)
    grind
  obtain⟨i,hi,hNi⟩:=in_inv h.1 hNin hN0
  have hib:=bd_inv h.1 hT.tail hNin hi hNi hN
  have ey:y=a*i+ -(b*i)*rt u r:=by
   have:y=(a+b*rt u r)*y*((a-b*rt u r)*i):=by
    have:(a+b*rt u r)*y*((a-b*rt u r)*i)=y*((a*a-b*b*evR u r)*i):=by grind
    rw[this,hNi];grind
   rw[e] at this
   grind
  obtain⟨D,h0,h1,h2,h3⟩:=hb
  rw[co_cons h ha hb' rfl] at h2 h3
  obtain⟨E,k0,k1,k2,k3⟩:=hib
  obtain⟨K,hK,hKl,hm⟩:=dn_mul h.1 hT.tail
  rw[ey,co_cons h (in_mul h.1 ha hi) (in_neg (in_mul h.1 hb' hi)) rfl,co_neg h.1 (in_mul h.1 hb' hi),List.length_cons,II]
  have m1:=mx_mul h.1 hT.tail ha hi (MX.app.1 h3).1 k3
  have m2:=mx_mul h.1 hT.tail hb' hi (MX.app.1 h3).2 k3
  rw[←Nat.pow_add,←Nat.pow_add] at m1 m2
  refine⟨D*E*K,Nat.mul_pos (Nat.mul_pos h0 k0) hK,?_,DN.app.2 ⟨hm ha hi (DN.app.1 h2).1 k2,(hm hb' hi (DN.app.1 h2).2 k2).neg⟩,MX.app.2 ⟨m1.mono (pow_le2 (by omega)),(m2.mono (pow_le2 (by omega))).neg⟩⟩
  have:=Nat.mul_le_mul (Nat.mul_le_mul h1 k1) hKl
  rw[←Nat.pow_add,←Nat.pow_add] at this
  exact Nat.le_trans this (pow_le2 (by omega))
end Go.Abs
namespace Go.Abs
variable {B:Nat} {u:List (List Rat)} {x:Re}
theorem int_sqrt {r:Rat} {n:Int} (h:r*r=n):∃m:Int,r=m:=by
 have h1:(r*r).den=1:=by rw[h];rfl
 have h2:(r*r).den=r.den*r.den:=by
  have hn:Nat.gcd (r.num*r.num).natAbs (r.den*r.den)=1:=by
   rw[Int.natAbs_mul]
   exact Nat.Coprime.mul_left (Nat.Coprime.mul_right r.reduced r.reduced) (Nat.Coprime.mul_right r.reduced r.reduced)
  rw[Rat.mul_def,Rat.normalize_eq]
  simp only[hn,Nat.div_one]
 rw[h1] at h2
 have h3:r.den=1:=Nat.eq_one_of_mul_eq_one_left h2.symm
 refine⟨r.num,?_⟩
 have:=rat_mul_den r
 rw[h3] at this
 have e:((1:Nat):Rat)=1:=rfl
 grind
theorem of_two {Y:Nat} {c e:Re} (h:e=2*(c*c)):Re.ofRat ((2*Y:Nat):Rat)*c*(Re.ofRat ((2*Y:Nat):Rat)*c)=Re.ofRat ((2*Y*Y:Nat):Rat)*e:=by
 subst h
 have e2:Re.ofRat ((2:Nat):Rat)=2:=rfl
 simp only[cast_mul,Re.ofRat_mul,e2]
 grind
theorem dn_sqrt:∀{u:List (List Rat)} {R:Nat},Red u→TB R u→∃G:Nat,0<G∧G≤2^GG u.length R∧∀{x w:Re} {D:Nat},In u w→w*w=x→DN D (co u x)→DN (D*G) (co u w)
 | [],R,_,_=>⟨1,by decide,by simp[GG],fun {x w D} hw e h=>by
  obtain⟨p,rfl⟩:=in_nil.1 hw
  subst e
  rw[←Re.ofRat_mul,co_nil] at h
  rw[co_nil]
  intro z hz
  rw[List.mem_singleton.1 hz]
  obtain⟨n,hn⟩:=h _ List.mem_cons_self
  obtain⟨m,hm⟩:=int_sqrt (r:=p*D) (n:=n*D) (by
   rw[Rat.intCast_mul,←hn]
   have:((D:Int):Rat)=(D:Rat):=rfl
   grind)
  exact⟨m,by rw[Nat.mul_one];exact hm⟩⟩
 | r::u,R,h,hT=>by
  obtain⟨G,hG,hGl,hg⟩:=dn_sqrt h.1 hT.tail
  obtain⟨K,hK,hKl,hm⟩:=dn_mul h.1 hT.tail
  obtain⟨E,hE,hEl,hDr,_⟩:=hT.head
  have hr:=rt_sq h
  have hrD:DN E (co u (evR u r)):=by rw[co_rad h];exact hDr
  obtain⟨i,hi,hri⟩:=in_inv h.1 (in_rad h) (by have:=h.2.2.1;grind)
  obtain⟨I,hI,hIl,hId,_⟩:=bd_inv h.1 hT.tail (in_rad h) hi hri (bd_rad h hT)
  refine⟨2*(K*K*E)*G*G*I*K,Nat.mul_pos (Nat.mul_pos (Nat.mul_pos (Nat.mul_pos (Nat.mul_pos (by decide) (Nat.mul_pos (Nat.mul_pos hK hK) hE)) hG) hG) hI) hK,?_,fun {x w D} hw e hx=>?_⟩
  ·have h1:=Nat.mul_le_mul (Nat.mul_le_mul (Nat.mul_le_mul (Nat.mul_le_mul (Nat.mul_le_mul (Nat.le_refl (2^1)) (Nat.mul_le_mul (Nat.mul_le_mul hKl hKl) hEl)) hGl) hGl) hIl) hKl
   simp only[←Nat.pow_add] at h1
   exact Nat.le_trans h1 (pow_le2 (by rw[List.length_cons,GG];omega))
  ·obtain⟨c,d,hc,hd,rfl⟩:=in_cons.1 hw
   have hcd:In u (2*c*d):=by
    have:=in_add (in_mul h.1 hc hd) (in_mul h.1 hc hd)
    rwa [show c*d+c*d=2*c*d by grind] at this
   have hrho:=in_rad h
   have ha:=in_add (in_mul h.1 hc hc) (in_mul h.1 (in_mul h.1 hd hd) hrho)
   have ex:x=(c*c+d*d*evR u r)+(2*c*d)*rt u r:=by rw[←e];grind
   rw[ex,co_cons h ha hcd rfl,DN.app] at hx
   generalize hA:c*c+d*d*evR u r=a at*
   generalize hB:2*c*d=b at*
   have hn:=in_sub (in_mul h.1 hc hc) (in_mul h.1 (in_mul h.1 hd hd) hrho)
   generalize hN:c*c-d*d*evR u r=n at*
   have hNin:=in_sub (in_mul h.1 ha ha) (in_mul h.1 (in_mul h.1 hcd hcd) hrho)
   have hNN:n*n=a*a-b*b*evR u r:=by grind
   have d1:DN (D*D*(K*K*E)) (co u (a*a-b*b*evR u r)):=
    DN.vsub h.1 (in_mul h.1 ha ha) (in_mul h.1 (in_mul h.1 hcd hcd) hrho) ((hm ha ha hx.1 hx.1).dvd ⟨K*E,by grind⟩) ((hm (in_mul h.1 hcd hcd) hrho (hm hcd hcd hx.2 hx.2) hrD).dvd ⟨1,by grind⟩)
   generalize K*K*E=C at*
   have d2:DN (D*C*G) (co u n):=by
    have k1:DN 1 (co u (Re.ofRat ((D*C*(D*C):Nat):Rat)*(a*a-b*b*evR u r))):=(dn_smul h.1 hNin).1 (d1.dvd ⟨C,by grind⟩)
    have k2:=hg (x:=Re.ofRat ((D*C*(D*C):Nat):Rat)*(a*a-b*b*evR u r)) (w:=Re.ofRat ((D*C:Nat):Rat)*n) (D:=1) (in_smul hn _) (by rw[cast_mul (D*C),Re.ofRat_mul,←hNN];grind) k1
    exact ((dn_smul h.1 hn).2 k2).dvd ⟨1,by grind⟩
   have hD2:DN (D*C*G) (co u a):=hx.1.dvd ⟨C*G,by grind⟩
   have d3:DN (D*C*G) (co u (a+n)):=DN.vadd h.1 ha hn hD2 d2
   have d4:DN (D*C*G) (co u (a-n)):=DN.vsub h.1 ha hn hD2 d2
   have d5:DN (2*(D*C*G)*G) (co u c):=by
    have k1:DN 1 (co u (Re.ofRat ((2*(D*C*G)*(D*C*G):Nat):Rat)*(a+n))):=(dn_smul h.1 (in_add ha hn)).1 (d3.dvd ⟨2*(D*C*G),by grind⟩)
    have k2:=hg (x:=Re.ofRat ((2*(D*C*G)*(D*C*G):Nat):Rat)*(a+n)) (w:=Re.ofRat ((2*(D*C*G):Nat):Rat)*c) (D:=1) (in_smul hc _) (of_two (by clear hg hm k1;grind)) k1
    exact ((dn_smul h.1 hc).2 k2).dvd ⟨1,by grind⟩
   have d6:DN (D*C*G*I*K) (co u ((a-n)*i)):=hm (in_sub ha hn) hi d4 hId
   have d7:DN (2*(D*C*G*I*K)*G) (co u d):=by
    have hin:=in_mul h.1 (in_sub ha hn) hi
    have k1:DN 1 (co u (Re.ofRat ((2*(D*C*G*I*K)*(D*C*G*I*K):Nat):Rat)*((a-n)*i))):=(dn_smul h.1 hin).1 (d6.dvd ⟨2*(D*C*G*I*K),by grind⟩)
    have k2:=hg (x:=Re.ofRat ((2*(D*C*G*I*K)*(D*C*G*I*K):Nat):Rat)*((a-n)*i)) (w:=Re.ofRat ((2*(D*C*G*I*K):Nat):Rat)*d) (D:=1) (in_smul hd _) (of_two (by
     have e3:(a-n)*i=2*(d*d)*(evR u r*i):=by clear hg hm k1;grind
     rw[e3,hri];grind)) k1
    exact ((dn_smul h.1 hd).2 k2).dvd ⟨1,by grind⟩
   rw[co_cons h hc hd rfl,DN.app]
   exact⟨d5.dvd ⟨I*K,by grind⟩,d7.dvd ⟨1,by grind⟩⟩
theorem le_of_sq {p:Rat} (h:p*p≤((B*B:Nat):Rat)): -(B:Rat)≤p∧p≤B:=by
 rw[cast_mul] at h
 have h0:(0:Rat)≤B:=Rat.natCast_nonneg
 generalize (B:Rat)=b at*
 constructor
 ·apply Classical.byContradiction;intro hc
  have:=Rat.mul_pos (a:= -p-b) (b:= -p+b) (by grind) (by grind)
  grind
 ·apply Classical.byContradiction;intro hc
  have:=Rat.mul_pos (a:=p-b) (b:=p+b) (by grind) (by grind)
  grind
theorem MX.half {y:Re} (h:Red u) (hx:In u x) (hy:In u y) (e:x=2*y) (k:MX (2*B) (co u x)):MX B (co u y):=by
 have ey:x=Re.ofRat 2*y:=e
 rw[ey,co_smul h hy] at k
 intro q hq
 have:=k _ (List.mem_map.2 ⟨q,hq,rfl⟩)
 rw[cast_mul] at this
 have e2:((2:Nat):Rat)=2:=rfl
 grind
theorem mx_sqrt:∀{u:List (List Rat)} {R:Nat},Red u→TB R u→∀{x w:Re} {B:Nat},In u w→w*w=x→MX (B*B) (co u x)→MX (B*2^GG u.length R) (co u w)
 | [],R,_,_,x,w,B,hw,e,h=>by
  obtain⟨p,rfl⟩:=in_nil.1 hw
  subst e
  rw[←Re.ofRat_mul,co_nil] at h
  rw[co_nil]
  intro z hz
  rw[List.mem_singleton.1 hz]
  have:=le_of_sq (h _ List.mem_cons_self).2
  simpa [GG] using this
 | r::u,R,h,hT,x,w,B,hw,e,hx=>by
  have ih:=fun {x w:Re} {B:Nat}=>mx_sqrt (R:=R) (x:=x) (w:=w) (B:=B) h.1 hT.tail
  have im:=fun {x y:Re} {B C:Nat}=>mx_mul (R:=R) (x:=x) (y:=y) (B:=B) (C:=C) h.1 hT.tail
  obtain⟨E,hE,hEl,_,hMr⟩:=hT.head
  have hr:=rt_sq h
  have hrM:MX (2^R) (co u (evR u r)):=by rw[co_rad h];exact hMr
  obtain⟨i,hi,hri⟩:=in_inv h.1 (in_rad h) (by have:=h.2.2.1;grind)
  obtain⟨I,hI,hIl,_,hIm⟩:=bd_inv h.1 hT.tail (in_rad h) hi hri (bd_rad h hT)
  obtain⟨c,d,hc,hd,rfl⟩:=in_cons.1 hw
  have hcd:In u (2*c*d):=by
   have:=in_add (in_mul h.1 hc hd) (in_mul h.1 hc hd)
   rwa [show c*d+c*d=2*c*d by grind] at this
  have hrho:=in_rad h
  have ha:=in_add (in_mul h.1 hc hc) (in_mul h.1 (in_mul h.1 hd hd) hrho)
  have ex:x=(c*c+d*d*evR u r)+(2*c*d)*rt u r:=by rw[←e];grind
  rw[ex,co_cons h ha hcd rfl,MX.app] at hx
  generalize hA:c*c+d*d*evR u r=a at*
  generalize hB:2*c*d=b at*
  have hn:=in_sub (in_mul h.1 hc hc) (in_mul h.1 (in_mul h.1 hd hd) hrho)
  generalize hN:c*c-d*d*evR u r=n at*
  have hNN:n*n=a*a-b*b*evR u r:=by clear ih im;grind
  have m1:=MX.vsub h.1 (in_mul h.1 ha ha) (in_mul h.1 (in_mul h.1 hcd hcd) hrho) (im ha ha hx.1 hx.1) (im (in_mul h.1 hcd hcd) hrho (im hcd hcd hx.2 hx.2) hrM)
  have p0:=pow_pos2 (EE u.length R)
  have p1:=pow_pos2 R
  have p2:=pow_pos2 (GG u.length R)
  have p3:=pow_pos2 (II u.length R R)
  have eG:2^GG (r::u).length R=2^EE u.length R*2^EE u.length R*2^EE u.length R*2^R*2*(2^GG u.length R*2^GG u.length R)*2^II u.length R R:=by
   have e2:(2:Nat)=2^1:=rfl
   conv=>rhs;rw[show ∀q:Nat,q*2=q*2^1 from fun q=>rfl]
   simp only[←Nat.pow_add]
   congr 1
   rw[List.length_cons,GG];omega
  rw[eG]
  generalize 2^EE u.length R=K at*
  generalize 2^R=S at*
  generalize 2^GG u.length R=G at*
  generalize 2^II u.length R R=J at*
  have hKS:1≤K*S:=Nat.mul_pos p0 p1
  have hKKS:1≤K*K*S:=Nat.mul_pos (Nat.mul_pos p0 p0) p1
  have hT2:K+K*S*K≤2*(K*K*S)*(2*(K*K*S)):=by
   have t1:K*1≤K*(K*S):=Nat.mul_le_mul_left _ hKS
   have t2:(K*K*S)*1≤(K*K*S)*(K*K*S):=Nat.mul_le_mul_left _ hKKS
   grind
  have m2:MX (B*B*(2*(K*K*S))*G) (co u n):=by
   refine ih (x:=a*a-b*b*evR u r) hn hNN (m1.mono ?_)
   have:=Nat.mul_le_mul_left (B*B*(B*B)) hT2
   grind
  have hKKSG:1≤K*K*S*G:=Nat.mul_pos hKKS p2
  have m3:MX (B*B*(2*(K*K*S)*G)) (co u (c*c)):=by
   refine MX.half h.1 (in_add ha hn) (in_mul h.1 hc hc) (by clear ih im m1 m2;grind) ((MX.vadd h.1 ha hn hx.1 m2).mono ?_)
   have:=Nat.mul_le_mul_left (B*B) (show 1≤2*(K*K*S)*G by rw[Nat.mul_assoc];omega)
   grind
  have m4:MX (B*(2*(K*K*S)*G)*G) (co u c):=by
   refine ih (x:=c*c) hc rfl (m3.mono ?_)
   have t:2*(K*K*S)*G*1≤2*(K*K*S)*G*(2*(K*K*S)*G):=Nat.mul_le_mul_left _ (by rw[Nat.mul_assoc];omega)
   have:=Nat.mul_le_mul_left (B*B) t
   grind
  have m5:MX (B*B*(2*(K*K*S)*G)) (co u (d*d*evR u r)):=by
   refine MX.half h.1 (in_sub ha hn) (in_mul h.1 (in_mul h.1 hd hd) hrho) (by clear ih im m1 m2 m3;grind) ((MX.vsub h.1 ha hn hx.1 m2).mono ?_)
   have:=Nat.mul_le_mul_left (B*B) (show 1≤2*(K*K*S)*G by rw[Nat.mul_assoc];omega)
   grind
  have m6:MX (B*B*(2*(K*K*S)*G)*J*K) (co u (d*d)):=by
   have:=im (in_mul h.1 (in_mul h.1 hd hd) hrho) hi m5 hIm
   rwa [show d*d*evR u r*i=d*d by rw[show d*d*evR u r*i=d*d*(evR u r*i) by grind,hri];grind] at this
  have m7:MX (B*(2*(K*K*S)*G*J*K)*G) (co u d):=by
   refine ih (x:=d*d) hd rfl (m6.mono ?_)
   have t0:1≤2*(K*K*S)*G*J*K:=Nat.mul_pos (Nat.mul_pos (by rw[Nat.mul_assoc];omega) p3) p0
   have t:2*(K*K*S)*G*J*K*1≤2*(K*K*S)*G*J*K*(2*(K*K*S)*G*J*K):=Nat.mul_le_mul_left _ t0
   have:=Nat.mul_le_mul_left (B*B) t
   grind
  rw[co_cons h hc hd rfl,MX.app]
  have hJK:1≤J*K:=Nat.mul_pos p3 p0
  refine⟨m4.mono ?_,m7.mono ?_⟩
  ·have:=Nat.mul_le_mul_left (B*(2*(K*K*S)*G)*G) hJK
   grind
  ·grind
theorem bd_sqrt {R s:Nat} {w:Re} (h:Red u) (hT:TB R u) (hw:In u w) (e:w*w=x) (hx:Bd s (co u x)):Bd (s+GG u.length R) (co u w):=by
 obtain⟨D,h0,h1,h2,h3⟩:=hx
 obtain⟨G,hG,hGl,hg⟩:=dn_sqrt h hT
 refine⟨D*G,Nat.mul_pos h0 hG,?_,hg hw e h2,?_⟩
 ·have:=Nat.mul_le_mul h1 hGl
  rwa [←Nat.pow_add] at this
 ·have:=mx_sqrt h hT hw e (B:=2^s) (h3.mono (by rw[←Nat.pow_add];exact pow_le2 (by omega)))
  rwa [←Nat.pow_add] at this
end Go.Abs
namespace Go.Abs
structure IsI (x:Int) (b:Bool) (l:List UInt32):Prop where
 neg:b=decide (x<0)
 mag:l=limbs x.natAbs
variable {i n xi:Nat} {l o:List UInt32} {y:Int}
theorem isI_ex (x:Int):∃b l,IsI x b l:=⟨_,_,rfl,rfl⟩
theorem IsI.nat {x:Int} {b:Bool} (h:IsI x b l):natL l=x.natAbs:=by rw[h.mag,natL_limbs]
theorem IsI.sgn {x:Int} {b:Bool} (h:IsI x b l):x=if b=true then -(natL l:Int) else natL l:=by
 rw[h.nat,h.neg];by_cases h0:x<0 <;> simp[h0] <;> omega
theorem IsI.uniq {x:Int} {b b':Bool} {l':List UInt32} (h:IsI x b l) (h':IsI y b' l') (e:x=y):b=b'∧l=l':=by
 subst e;exact⟨h.neg.trans h'.neg.symm,h.mag.trans h'.mag.symm⟩
theorem IsI.trim {x:Int} {b:Bool} (h:IsI x b l):limbs (natL l)=l:=by rw[h.nat,←h.mag]
theorem IsI.val {x:Int} {b:Bool} (h1:limbs n=l) (h2:x=if b=true then -(n:Int) else n) (h3:n=0→b=false):IsI x b l:=by
 constructor
 ·rw[h2]
  cases b
  ·simp
  ·have:n≠0:=fun e=>absurd (h3 e) (by simp)
   simp;omega
 ·rw[←h1,h2];congr 1;split <;> omega
theorem IsI.nil {x:Int} {b:Bool} (h:IsI x b l):l=[]↔x=0:=by
 rw[h.mag,limbs_eq_nil];omega
theorem IsI.len0 {x:Int} {b:Bool} (h:IsI x b l):l.length=0↔x=0:=by
 rw[List.length_eq_zero_iff,h.nil]
def sgnI (x:Int):Int:=if x<0 then -1 else if x=0 then 0 else 1
def cmpZ (a b:Int):Int:=if a<b then -1 else if b<a then 1 else 0
theorem natL_set {x w:UInt32} (h:l[i]? =some x):natL (l.set i w)+2^(32*i)*x.toNat=natL l+2^(32*i)*w.toNat:=by
 induction l generalizing i with
 | nil=>simp at h
 | cons y l ih=>
  cases i with
  | zero=>simp at h;subst h;simp[natL];omega
  | succ i=>
   have:=ih (i:=i) (by simpa using h)
   rw[List.set_cons_succ,natL,natL,pow32]
   generalize 2^(32*i)=P at*
   grind
theorem take_set_le {w:UInt32} (h:n≤i):(l.set i w).take n=l.take n:=by
 rw[List.take_set]
 rw[List.set_eq_of_length_le]
 rw[List.length_take];omega
theorem take_set_succ {w:UInt32} (h:i<l.length):(l.set i w).take (i+1)=l.take i++[w]:=by
 rw[List.take_succ_eq_append_getElem (by simpa using h),take_set_le (Nat.le_refl _)]
 simp
theorem minus_step {A B bor bor' yi:Nat} {w:UInt32} (hi:i<o.length) (h:natL (o.take i)+B=A+2^(32*i)*bor) (hs:w.toNat+yi+bor=xi+4294967296*bor'):
  natL ((o.set i w).take (i+1))+(B+2^(32*i)*yi)=(A+2^(32*i)*xi)+2^(32*(i+1))*bor':=by
 rw[take_set_succ hi,natL_snoc,pow32,List.length_take,Nat.min_eq_left (by omega)]
 generalize 2^(32*i)=P at*
 have e:P*(w.toNat+yi+bor)=P*(xi+4294967296*bor'):=by rw[hs]
 grind
theorem times_step {N T c c' yk old j:Nat} {q w:UInt32} {Y:Nat} {k:Nat} (hj:j=i+k) (hn:j<n) (ho:o[j]? =some q) (hq:q.toNat=old) (h:natL (o.take n)+2^(32*j)*c=T+xi*2^(32*i)*Y)
  (hs:w.toNat+4294967296*c'=c+xi*yk+old) (_:N=n):
  natL ((o.set j w).take n)+2^(32*(j+1))*c'=T+xi*2^(32*i)*(Y+2^(32*k)*yk):=by
 have ht:(o.take n)[j]? =some q:=by rw[List.getElem?_take_of_lt hn,ho]
 have hset:=natL_set (w:=w) ht
 rw[List.take_set,pow32]
 have hp:2^(32*j)=2^(32*i)*2^(32*k):=by rw[hj,Nat.mul_add,Nat.pow_add]
 generalize hP:2^(32*j)=P at*
 have e:P*(w.toNat+4294967296*c')=P*(c+xi*yk+old):=by rw[hs]
 rw[hq] at hset
 have e2:xi*2^(32*i)*(2^(32*k)*yk)=P*(xi*yk):=by rw[hp];grind
 rw[Nat.mul_add,e2]
 grind
theorem mul_sgn {x:Int} {a b:Bool} (ha:a=decide (x<0)) (hb:b=decide (y<0)):x*y=if (a !=b)=true then -((x.natAbs*y.natAbs:Nat):Int) else ((x.natAbs*y.natAbs:Nat):Int):=by
 rw[Int.natCast_mul]
 by_cases hx:x<0 <;> by_cases hy:y<0 <;> simp[ha,hb,hx,hy]
 ·rw[show ((x.natAbs:Nat):Int)= -x by omega,show ((y.natAbs:Nat):Int)= -y by omega];grind
 ·rw[show ((x.natAbs:Nat):Int)= -x by omega,show ((y.natAbs:Nat):Int)=y by omega];grind
 ·rw[show ((x.natAbs:Nat):Int)=x by omega,show ((y.natAbs:Nat):Int)= -y by omega];grind
 ·rw[show ((x.natAbs:Nat):Int)=x by omega,show ((y.natAbs:Nat):Int)=y by omega]
theorem cmpZ_cases (a b:Int):(a<b∧cmpZ a b= -1)∨(a=b∧cmpZ a b=0)∨(b<a∧cmpZ a b=1):=by
 unfold cmpZ
 split
 ·exact .inl ⟨by assumption,rfl⟩
 ·split
  ·exact .inr (.inr ⟨by assumption,rfl⟩)
  ·exact .inr (.inl ⟨by omega,rfl⟩)
theorem sgnI_cases (x:Int):(x<0∧sgnI x= -1)∨(x=0∧sgnI x=0)∨(0<x∧sgnI x=1):=by
 unfold sgnI
 split
 ·exact .inl ⟨by assumption,rfl⟩
 ·split
  ·exact .inr (.inl ⟨by assumption,rfl⟩)
  ·exact .inr (.inr ⟨by omega,rfl⟩)
theorem sgn_cmp_in (x a b:Int): -9223372036854775808≤sgnI x*cmpZ a b∧sgnI x*cmpZ a b<9223372036854775808:=by
 rcases sgnI_cases x with⟨_,h⟩ |⟨_,h⟩ |⟨_,h⟩ <;> rcases cmpZ_cases a b with⟨_,k⟩ |⟨_,k⟩ |⟨_,k⟩ <;> rw[h,k] <;> decide
theorem cmp_same {x:Int} (h:sgnI x=sgnI y):cmpZ x y=sgnI x*cmpZ x.natAbs y.natAbs:=by
 rcases sgnI_cases x with⟨h1,h2⟩ |⟨h1,h2⟩ |⟨h1,h2⟩ <;> rcases sgnI_cases y with⟨k1,k2⟩ |⟨k1,k2⟩ |⟨k1,k2⟩ <;>
  rcases cmpZ_cases x y with⟨p,q⟩ |⟨p,q⟩ |⟨p,q⟩ <;> rcases cmpZ_cases x.natAbs y.natAbs with⟨u,v⟩ |⟨u,v⟩ |⟨u,v⟩ <;> rw[h2,q,v] <;> rw[h2,k2] at h <;> omega
theorem cmp_diff {x:Int} (h:sgnI x≠sgnI y):cmpZ x y=cmpZ (sgnI x) (sgnI y):=by
 rcases sgnI_cases x with⟨h1,h2⟩ |⟨h1,h2⟩ |⟨h1,h2⟩ <;> rcases sgnI_cases y with⟨k1,k2⟩ |⟨k1,k2⟩ |⟨k1,k2⟩ <;>
  rcases cmpZ_cases x y with⟨p,q⟩ |⟨p,q⟩ |⟨p,q⟩ <;> rw[h2,k2] at h ⊢ <;> rw[q] <;> first | rfl | omega
theorem sgn_neg {x:Int} {b:Bool} (h:x=if b=true then -(n:Int) else n): -x=if (!b)=true then -(n:Int) else n:=by
 cases b <;> simp_all
theorem sgnI_of {x:Int} {b:Bool} (h:x=if b=true then -(n:Int) else n) (h0:n≠0):sgnI x=if b=true then -1 else 1:=by
 rcases sgnI_cases x with⟨h1,h2⟩ |⟨h1,h2⟩ |⟨h1,h2⟩ <;> rw[h2] <;> cases b <;> simp at h ⊢ <;> omega
theorem add_same {x:Int} {b:Bool} (hx:b=decide (x<0)) (hy:b=decide (y<0)):x+y=if b=true then -((x.natAbs+y.natAbs:Nat):Int) else ((x.natAbs+y.natAbs:Nat):Int):=by
 cases b <;> simp at hx hy ⊢ <;> omega
theorem add_diff {x:Int} {a b:Bool} (hx:a=decide (x<0)) (hy:b=decide (y<0)) (hab:a≠b) (h:x.natAbs≤y.natAbs):x+y=if b=true then -((y.natAbs-x.natAbs:Nat):Int) else ((y.natAbs-x.natAbs:Nat):Int):=by
 cases a <;> cases b <;> simp at hx hy hab ⊢ <;> omega
theorem cmpZ_lt {a b:Int} (h:cmpZ a b<0):a<b:=by rcases cmpZ_cases a b with⟨_,k⟩ |⟨_,k⟩ |⟨_,k⟩ <;> omega
theorem cmpZ_ge {a b:Int} (h:0≤cmpZ a b):b≤a:=by rcases cmpZ_cases a b with⟨_,k⟩ |⟨_,k⟩ |⟨_,k⟩ <;> omega
def validI (b:Bool) (l:List UInt32):Bool:=match l.getLast? with
 | none=> !b
 | some x=>x !=0
theorem validI_iff {b:Bool}:validI b l=true↔∃x,IsI x b l:=by
 unfold validI
 cases h:l.getLast? with
 | none=>
  have:l=[]:=List.getLast?_eq_none_iff.1 h
  subst this
  constructor
  ·intro hb;exact⟨0,by simpa using hb,rfl⟩
  ·rintro⟨x,hx⟩
   have:=(hx.nil).1 rfl
   rw[hx.neg,this];rfl
 | some w=>
  obtain⟨m,rfl⟩:=List.getLast?_eq_some_iff.1 h
  constructor
  ·intro hw
   have hw:w≠0:=by simpa using hw
   have hc:=canon_snoc (o:=m) (w:=w) fun e=>hw (UInt32.toNat_inj.1 e)
   have h0:natL (m++[w])≠0:=fun e=>by
    rw[e,limbs_zero] at hc
    simp at hc
   exact⟨if b=true then -(natL (m++[w]):Int) else natL (m++[w]),.val hc rfl fun e=>absurd e h0⟩
  ·rintro⟨x,hx⟩
   simp only[bne_iff_ne,ne_eq]
   rintro rfl
   have h1:=hx.trim
   rw[←trimL_eq,trimL_zero] at h1
   have:=trimL_len m
   rw[h1] at this
   simp at this
   omega
end Go.Abs
namespace Go.Abs
variable {A B xi yi:Nat} {l o:List UInt32}
theorem pad_ex {N k:Nat} (h:N<2^(32*k)):∃z:List UInt32,z.length=k∧natL z=N:=by
 refine⟨limbs N++List.replicate (k-(limbs N).length) 0,?_,?_⟩
 ·have:=limbs_len_le h
  simp;omega
 ·rw[natL_append,natL_replicate,natL_limbs];simp
theorem trunc_succ (N i:Nat):N%2^(32*(i+1))=N%2^(32*i)+2^(32*i)*(N/2^(32*i)%4294967296):=by
 rw[pow32,Nat.mul_comm 4294967296,Nat.mod_mul]
theorem shr_word {x y r n:Nat} (hx:x<4294967296) (hn:n≤31):(x+4294967296*(y+4294967296*r))/2^n%4294967296=x/2^n+y*2^(32-n)%4294967296:=by
 obtain⟨d,hd⟩:∃d,32-n=d:=⟨_,rfl⟩
 have e:(4294967296:Nat)=2^n*2^d:=by rw[←Nat.pow_add,show n+d=32 by omega]
 have hp:0<2^n:=Nat.two_pow_pos n
 have hq:0<2^d:=Nat.two_pow_pos d
 rw[hd]
 have e1:x+4294967296*(y+4294967296*r)=x+2^n*(2^d*(y+4294967296*r)):=by rw[←Nat.mul_assoc,←e]
 rw[e1,Nat.add_mul_div_left _ _ hp]
 have hx':x/2^n<2^d:=Nat.div_lt_of_lt_mul (by rw[←e];exact hx)
 have e2:x/2^n+2^d*(y+4294967296*r)=(x/2^n+y*2^d)+4294967296*(2^d*r):=by rw[Nat.mul_add];grind
 rw[e2,Nat.add_mul_mod_self_left]
 have e3:y*2^d%4294967296=2^d*(y%2^n):=by rw[e,Nat.mul_comm (2^n),Nat.mul_comm y,Nat.mul_mod_mul_left]
 rw[Nat.add_mod,e3]
 have h4:2^d*(y%2^n)+2^d≤4294967296:=by
  have:y%2^n+1≤2^n:=Nat.mod_lt _ hp
  have:=Nat.mul_le_mul_left (2^d) this
  rw[e,Nat.mul_comm (2^n)]
  rw[Nat.mul_add] at this
  omega
 have h5:x/2^n%4294967296=x/2^n:=Nat.mod_eq_of_lt (by omega)
 rw[h5,Nat.mod_eq_of_lt (by omega)]
theorem or_add {a b d:Nat} (h:a<2^d):a ||| (2^d*b)=a+2^d*b:=by
 rw[Nat.or_comm,←Nat.two_pow_add_eq_or_of_lt h,Nat.add_comm]
theorem drop_word {i:Nat} {x:UInt32} (h:l[i]? =some x):natL (l.drop i)=x.toNat+4294967296*natL (l.drop (i+1)):=by
 have hi:i<l.length:=by
  apply Classical.byContradiction;intro hn;rw[List.getElem?_eq_none (by omega)] at h;exact absurd h (by simp)
 rw[List.drop_eq_getElem_cons hi,natL]
 rw[List.getElem?_eq_getElem hi] at h
 rw[Option.some.inj h]
theorem div_pow_drop {i:Nat} (h:i≤l.length):natL l/2^(32*i)=natL (l.drop i):=by
 rw[natL_take_add_drop l i h,Nat.add_mul_div_left _ _ (Nat.two_pow_pos _)]
 have:=natL_lt (l.take i)
 rw[List.length_take,Nat.min_eq_left h] at this
 rw[Nat.div_eq_of_lt this,Nat.zero_add]
theorem drop_set_ge {i off:Nat} {w:UInt32}:(l.set (off+i) w).drop off=(l.drop off).set i w:=by
 rw[List.drop_set,if_neg (by omega)]
 congr 1
 omega
theorem sub_step {D bor bor' i:Nat} {w:UInt32} (hi:i<o.length) (h:natL (o.take i)+B*D=A+2^(32*i)*bor) (hs:w.toNat+yi*D+bor=xi+4294967296*bor'):
  natL ((o.set i w).take (i+1))+(B+2^(32*i)*yi)*D=(A+2^(32*i)*xi)+2^(32*(i+1))*bor':=by
 rw[take_set_succ hi,natL_snoc,pow32,List.length_take,Nat.min_eq_left (by omega)]
 generalize 2^(32*i)=P at*
 have e:P*(w.toNat+yi*D+bor)=P*(xi+4294967296*bor'):=by rw[hs]
 grind
theorem add_step {car car' i:Nat} {w:UInt32} (hi:i<o.length) (h:natL (o.take i)+2^(32*i)*car=A+B) (hs:w.toNat+4294967296*car'=xi+yi+car):
  natL ((o.set i w).take (i+1))+2^(32*(i+1))*car'=(A+2^(32*i)*xi)+(B+2^(32*i)*yi):=by
 rw[take_set_succ hi,natL_snoc,pow32,List.length_take,Nat.min_eq_left (by omega)]
 generalize 2^(32*i)=P at*
 have e:P*(w.toNat+4294967296*car')=P*(xi+yi+car):=by rw[hs]
 grind
end Go.Abs
