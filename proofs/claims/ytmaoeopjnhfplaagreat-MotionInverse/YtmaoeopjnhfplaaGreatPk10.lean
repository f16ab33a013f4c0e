/- Part 11 of a proof. Conditions: each theorem's own. -/
import Derived.Test.YtmaoeopjnhfplaaGreatPk09
set_option linter.all false
set_option maxHeartbeats 8000000
set_option maxRecDepth 20000
open Go.Proofs
namespace Go.Abs
noncomputable def Bi (x:Re):Int:=by
 classical
 exact if x<0 then -1 else if x=0 then 0 else 1
theorem GR (x:Re):(x<0/\Bi x= -1)\/(x=0/\Bi x=0)\/(0<x/\Bi x=1):=by
 unfold Bi
 by_cases h:x<0
 ·rw[if_pos h];exact .inl ⟨h,rfl⟩
 rw[if_neg h]
 by_cases d:x=0
 ·rw[if_pos d];exact .inr (.inl ⟨d,rfl⟩)
 rw[if_neg d];exact .inr (.inr ⟨by grind,rfl⟩)
theorem EI {x:Re} (h:0<x):Bi x=1:=by rcases GR x with⟨a,b⟩ |⟨a,b⟩ |⟨a,b⟩ <;> grind
theorem KU {x:Re} (h:x<0):Bi x= -1:=by rcases GR x with⟨a,b⟩ |⟨a,b⟩ |⟨a,b⟩ <;> grind
theorem GA:Bi 0=0:=by rcases GR 0 with⟨a,b⟩ |⟨a,b⟩ |⟨a,b⟩ <;> grind
theorem FV {x:Re}:Bi x=0↔x=0:=by
 rcases GR x with⟨a,b⟩ |⟨a,b⟩ |⟨a,b⟩ <;> rw[b]
 ·constructor
  ·intro h;omega
  intro h;grind
 ·exact⟨fun _=>a,fun _=>rfl⟩
 constructor
 ·intro h;omega
 intro h;grind
theorem V8 (x y:Re):Bi (x*y)=Bi x*Bi y:=by
 rcases GR x with⟨a,b⟩ |⟨a,b⟩ |⟨a,b⟩ <;> rcases GR y with⟨c,d⟩ |⟨c,d⟩ |⟨c,d⟩ <;> rw[b,d]
 ·have:=Re.mul_pos (x:= -x) (y:= -y) (by grind) (by grind);exact EI (by grind)
 ·rw[c,show x*0=0 by grind];exact GA
 ·have:=Re.mul_pos (x:= -x) (y:=y) (by grind) (by grind);exact KU (by grind)
 ·rw[a,show 0*y=0 by grind];exact GA
 ·rw[a,show 0*y=0 by grind];exact GA
 ·rw[a,show 0*y=0 by grind];exact GA
 ·have:=Re.mul_pos (x:=x) (y:= -y) (by grind) (by grind);exact KU (by grind)
 ·rw[c,show x*0=0 by grind];exact GA
 exact EI (Re.mul_pos a c)
theorem de (x y:Re): -9223372036854775808<=Bi x*Bi y/\Bi x*Bi y<9223372036854775808:=by
 rcases GR x with⟨a,b⟩ |⟨a,b⟩ |⟨a,b⟩ <;> rcases GR y with⟨c,d⟩ |⟨c,d⟩ |⟨c,d⟩ <;> rw[b,d] <;> decide
section
variable {p q s ρ:Re}
theorem SE (f:0<s) (h:q=0\/Bi p=Bi q):Bi (p+q*s)=Bi p:=by
 rcases h with h | h
 ·rw[h,show p+0*s=p by grind]
 rcases GR p with⟨a,b⟩ |⟨a,b⟩ |⟨a,b⟩ <;> rcases GR q with⟨c,d⟩ |⟨c,d⟩ |⟨c,d⟩ <;> rw[b,d] at h <;> try omega
 ·have:=Re.mul_pos (x:= -q) (y:=s) (by grind) f;rw[b];exact KU (by grind)
 ·rw[b,a,c,show (0:Re)+0*s=0 by grind];exact GA
 have:=Re.mul_pos (x:=q) (y:=s) c f;rw[b];exact EI (by grind)
theorem dh (d:0<s) (h:p=0):Bi (p+q*s)=Bi q:=by
 rw[h,show 0+q*s=q*s by grind,V8,EI d,Int.mul_one]
theorem dg (f:0<s) (k:s*s=ρ) (g:p≠0) (j:q≠0) (h:Bi p≠Bi q):Bi (p+q*s)=Bi p*Bi (p*p-q*q*ρ):=by
 have e:p*p-q*q*ρ=(p-q*s)*(p+q*s):=by rw[<-k];grind
 rw[e,V8];rcases GR p with⟨a,b⟩ |⟨a,b⟩ |⟨a,b⟩ <;> rcases GR q with⟨c,d⟩ |⟨c,d⟩ |⟨c,d⟩ <;> rw[b,d] at h <;> first | (exact absurd rfl h) | (exact absurd a g) | (exact absurd c j) | skip
 ·have:=Re.mul_pos (x:=q) (y:=s) c f;rw[b,KU (x:=p-q*s) (by grind)];omega
 have:=Re.mul_pos (x:= -q) (y:=s) (by grind) f;rw[b,EI (x:=p-q*s) (by grind)];omega
end
theorem df (q:Rat):Bi (Re.ofRat q)=GB q:=by
 have d:(0:Re)=Re.ofRat 0:=rfl;have f:GB q=DB q.num:=rfl;rw[f];rcases HW q.num with⟨a,b⟩ |⟨a,b⟩ |⟨a,b⟩ <;> rw[b]
 ·exact KU (by rw[d,Re.GP];rw[Rat.lt_iff];simp;exact a)
 ·rw[Rat.num_eq_zero.1 a];exact GA
 exact EI (by rw[d,Re.GP];rw[Rat.lt_iff];simp;exact a)
def VV:Nat->Nat->Nat->Nat
 | 0,_,s=>s
 | h+1,R,s=>VV h R (2*s+2*EE h R+R+1)
theorem Jt:∀(h R:Nat) {s t:Nat},s<=t->VV h R s<=VV h R t
 | 0,_,_,_,h=>h
 | h+1,R,_,_,d=>Jt h R (by omega)
theorem HZ:∀(h R s:Nat),s<=VV h R s
 | 0,_,_=>Nat.le_refl _
 | h+1,R,s=>Nat.le_trans (by omega) (HZ h R (2*s+2*EE h R+R+1))
theorem XC (h R s:Nat):VV h R s<=VV (h+1) R s:=Jt h R (by omega)
theorem No {i h:Nat} (f:i<=h) (R s:Nat):VV i R s<=VV h R s:=by
 induction h with
 | zero=>rw[Nat.le_zero.1 f];exact Nat.le_refl _
 | succ h g=>
  rcases Nat.lt_or_ge i (h+1) with d | d
  ·exact Nat.le_trans (g (by omega)) (XC h R s)
  rw[show i=h+1 by omega];exact Nat.le_refl _
def pre (u:List (List Rat)) (i:Nat):List (List Rat):=u.drop (u.length-i)
theorem LF {u:List (List Rat)} {i:Nat} (h:i<=u.length):(pre u i).length=i:=by rw[pre,List.length_drop];omega
theorem KH {u:List (List Rat)} {i:Nat}:(tw u).take i=tw (pre u i):=by
 rw[tw,tw,pre,<-List.map_take,List.reverse_drop]
 by_cases h:i<=u.length
 ·rw[show u.length-(u.length-i)=i by omega]
 rw[show u.length-i=0 by omega,Nat.sub_zero,List.take_of_length_le (by rw[List.length_reverse];omega),List.take_of_length_le (by rw[List.length_reverse];omega)]
theorem bz (u:List (List Rat)):pre u u.length=u:=by rw[pre,Nat.sub_self,List.drop_zero]
theorem LG {u:List (List Rat)} {i:Nat} (h:i<u.length):∃r,pre u (i+1)=r::pre u i/\(tw u)[i]? =some (Be r):=by
 refine⟨u[u.length-(i+1)]'(by omega),?_,?_⟩
 ·rw[pre,pre,List.drop_eq_getElem_cons (by omega),show u.length-(i+1)+1=u.length-i by omega]
 rw[tw,List.getElem?_map,List.getElem?_reverse h,show u.length-1-i=u.length-(i+1) by omega,List.getElem?_eq_getElem (by omega)];rfl
theorem cp:∀{u:List (List Rat)} (n:Nat),BF u->BF (u.drop n)
 |u,0,h|[],_+1,h=>h
 | _::u,n+1,h=>cp n h.1
theorem Bb.pre {R:Nat} {u:List (List Rat)} (h:Bb R u) (i:Nat):Bb R (pre u i):=
 ⟨cp _ h.red,fun r d=>h.tb r (List.mem_of_mem_drop d),h.hR,by have:=h.ht;rw[Go.Abs.pre,List.length_drop];omega⟩
def QQ:Nat->Nat->Nat->Nat
 | 0,_,s=>s
 | h+1,R,s=>max (QQ h R (3*s+3*EE h R+R+GG h R+3+II h R R)) (s+II h R (2*(3*s+3*EE h R+R+GG h R+3+II h R R+GG h R)+1)+EE h R)
theorem LX:∀(h R:Nat) {s t:Nat},s<=t->II h R s<=II h R t
 | 0,_,_,_,h=>by rw[II,II];omega
 | h+1,R,s,t,d=>by
  have:=LX h R (s:=2*s+2*EE h R+R+1) (t:=2*t+2*EE h R+R+1) (by omega);rw[II,II];omega
theorem Pn:∀(h R:Nat) {s t:Nat},s<=t->QQ h R s<=QQ h R t
 | 0,_,_,_,h=>h
 | h+1,R,s,t,g=>by
  have d:=Pn h R (s:=3*s+3*EE h R+R+GG h R+3+II h R R) (t:=3*t+3*EE h R+R+GG h R+3+II h R R) (by omega);have f:=LX h R (s:=2*(3*s+3*EE h R+R+GG h R+3+II h R R+GG h R)+1) (t:=2*(3*t+3*EE h R+R+GG h R+3+II h R R+GG h R)+1) (by omega);rw[QQ,QQ];omega
theorem Jq:∀(h R s:Nat),s<=QQ h R s
 | 0,_,_=>Nat.le_refl _
 | h+1,R,s=>by have:=Jq h R (3*s+3*EE h R+R+GG h R+3+II h R R);rw[QQ];omega
theorem gZ (h R s:Nat):QQ h R s<=QQ (h+1) R s:=by
 have:=Pn h R (s:=s) (t:=3*s+3*EE h R+R+GG h R+3+II h R R) (by omega);rw[QQ];omega
theorem gY {i h:Nat} (f:i<=h) (R s:Nat):QQ i R s<=QQ h R s:=by
 induction h with
 | zero=>rw[Nat.le_zero.1 f];exact Nat.le_refl _
 | succ h g=>
  rcases Nat.lt_or_ge i (h+1) with d | d
  ·exact Nat.le_trans (g (by omega)) (gZ h R s)
  rw[show i=h+1 by omega];exact Nat.le_refl _
structure Fit (h R s:Nat):Prop where
 q:QQ h R s<=60000000000000
 v:VV h R (s+GG h R)<=60000000000000
 qR:QQ h R R<=60000000000000
 vR:VV h R R<=60000000000000
theorem Fit.v0 {h R s:Nat} (f:Fit h R s):VV h R s<=60000000000000:=Nat.le_trans (Jt h R (by omega)) f.v
theorem Fit.s {h R s:Nat} (f:Fit h R s):s<=60000000000000:=Nat.le_trans (Jq h R s) f.q
theorem Fit.mono {h R s t:Nat} (f:Fit h R s) (ht:t<=s):Fit h R t:=⟨Nat.le_trans (Pn h R ht) f.q,Nat.le_trans (Jt h R (by omega)) f.v,f.qR,f.vR⟩
end Go.Abs
namespace Go.Abs
def Bl (u w:List (List Rat)):Prop:=∀x,In u x->In w x
theorem Bl.refl (u:List (List Rat)):Bl u u:=fun _ h=>h
theorem Bl.trans {u v w:List (List Rat)} (h:Bl u v) (k:Bl v w):Bl u w:=fun x d=>k x (h x d)
theorem OH:∀(v:List (List Rat)) {u:List (List Rat)},Bl u (v++u)
 | [],u=>Bl.refl u
 | _::v,_=>fun x d=>Fh (OH v x d)
theorem OI {u w:List (List Rat)} (h:u<:+w):Bl u w:=by
 obtain⟨v,rfl⟩:=h;exact OH v
theorem Bl.tail {u w:List (List Rat)} {r:List Rat} (h:Bl (r::u) w):Bl u w:=fun x d=>h x (Fh d)
theorem Bl.root {u w:List (List Rat)} {r:List Rat} (h:Bl (r::u) w):In w (rt u r):=h _ (J7 u r)
theorem Kn {u w:List (List Rat)} {r:List Rat} (hw:BF w) (h:Bl u w) (g:In w (rt u r)):Bl (r::u) w:=fun x j=>by
 obtain⟨p,q,d,f,rfl⟩:=Cq.1 j;exact ES (h p d) (BN hw (h q f) g)
theorem MZ (w:List (List Rat)):Bl [] w:=fun x d=>by
 obtain⟨q,rfl⟩:=Dl.1 d;exact He q w
noncomputable def Aj (u:List (List Rat)) (v:Re):List (List Rat):=by
 classical
 exact if Sq u v then u else co u v::u
theorem ED {u:List (List Rat)} {v:Re} (h:Sq u v):Aj u v=u:=by unfold Aj;rw[if_pos h]
theorem C8 {u:List (List Rat)} {v:Re} (h:¬Sq u v):Aj u v=co u v::u:=by unfold Aj;rw[if_neg h]
theorem QC (u:List (List Rat)) (v:Re):u<:+Aj u v:=by
 by_cases h:Sq u v
 ·rw[ED h];exact List.suffix_refl u
 rw[C8 h];exact List.suffix_cons _ _
theorem H4 {u:List (List Rat)} {v:Re} (h:BF u) (d:In u v) (f:0<v) (g:¬Sq u v):BF (co u v::u):=
 ⟨h,EF d,by rw[FR d];exact f,by rw[FR d];exact g⟩
theorem Vo {u:List (List Rat)} {v:Re} (h:BF u) (g:In u v) (f:0<v):BF (Aj u v):=by
 by_cases d:Sq u v
 ·rw[ED d];exact h
 rw[C8 d];exact H4 h g f d
theorem HA {u:List (List Rat)} {v:Re} (d:In u v):rt u (co u v)=Re.sqrt v:=by rw[rt,FR d]
theorem I7 {u:List (List Rat)} {v:Re} (d:0<=v):Sq u v↔In u (Re.sqrt v):=by
 constructor
 ·rintro⟨w,hw,e⟩
  have g:=Re.Ev d;have f:=Re.Gg v
  by_cases h:0<=w
  ·rw[<-Re.LQ h f (by rw[e,g])];exact hw
  rw[<-Re.LQ (x:= -w) (by grind) f (by rw[g,<-e];grind)];exact Hw hw
 intro h;exact⟨_,h,Re.Ev d⟩
theorem Sy {u:List (List Rat)} {v:Re} (g:In u v) (f:0<=v):In (Aj u v) (Re.sqrt v):=by
 by_cases d:Sq u v
 ·rw[ED d];exact (I7 f).1 d
 rw[C8 d,<-HA g];exact J7 u _
noncomputable def ext (t:List (List Rat)):List (List Rat)->List (List Rat)
 | []=>t
 | r::u=>Aj (ext t u) (Al u r)
theorem Qk (t:List (List Rat)):∀u,t<:+ext t u
 | []=>List.suffix_refl t
 | r::u=>List.IsSuffix.trans (Qk t u) (QC _ _)
theorem Jf {t:List (List Rat)} (ht:BF t):∀{u:List (List Rat)},BF u->BF (ext t u)/\Bl u (ext t u)
 | [],_=>⟨ht,MZ _⟩
 | r::u,hu=>by
  obtain⟨h,d⟩:=Jf ht hu.1;have f:=d _ (CO hu);have g:=hu.2.2.1;have h3:=Vo h f g;exact⟨h3,Kn h3 (d.trans (OI (QC _ _))) (Sy f (by grind))⟩
open Classical in
noncomputable def FZ (t u:List (List Rat)):List (List Rat):=if u<:+t then t else if t<:+u then u else ext t u
theorem qd {t u:List (List Rat)} (ht:BF t) (hu:BF u):BF (FZ t u)/\Bl t (FZ t u)/\Bl u (FZ t u):=by
 unfold FZ
 split
 ·rename_i h;exact⟨ht,Bl.refl t,OI h⟩
 split
 ·rename_i h;exact⟨hu,OI h,Bl.refl u⟩
 obtain⟨d,f⟩:=Jf ht hu;exact⟨d,OI (Qk t u),f⟩
theorem ZI:∀(v:List (List Rat)) {u:List (List Rat)} {x:Re},BF (v++u)->In u x->em (v++u) x=em u x++List.replicate (2^(v++u).length-2^u.length) (rp 0)
 | [],u,x,h,d=>by simp
 | r::v,u,x,h,d=>by
  have f:=OH v x d;have t:=ZI v h.1 d;have j:2^u.length<=2^(v++u).length:=C0 (by simp);have e:em (r::v++u) x=em (v++u) x++em (v++u) 0:=Gk h f (CZ _) (by grind);have o:em (v++u) 0=Be (List.replicate (2^(v++u).length) 0):=Tv h.1;rw[e,t,o,Be,List.map_replicate,List.append_assoc,List.replicate_append_replicate];have k:2^(r::v++u).length=2^(v++u).length+2^(v++u).length:=CW r (v++u);have g:∀a b:Nat,b<=a->a-b+a=a+a-b:=fun a b h=>by omega
  rw[k,<-g _ _ j]
theorem ZL {u w:List (List Rat)} {x:Re} (h:u<:+w) (hw:BF w) (d:In u x):em w x=em u x++List.replicate (2^w.length-2^u.length) (rp 0):=by
 obtain⟨v,rfl⟩:=h;exact ZI v hw d
theorem Vq {u w:List (List Rat)} (h:u<:+w) (hw:BF w):BF u:=by
 obtain⟨v,rfl⟩:=h
 induction v with
 | nil=>exact hw
 | cons r v d=>exact d hw.1
structure Gam (T:List (List Rat)->Prop) (R C S:Nat):Prop where
 BJ:∀{u},T u->Bb R u
 ht:∀{u},T u->u.length<=8
 nil:T []
 sub:∀{r u},T (r::u)->T u
 Aj:∀{t r u},T t->T (r::u)->Bl u t->T (Aj t (Al u r))
 CV:∀{u w s x},T u->T w->Bl u w->El u s x->El w (s+C) x
 fit:∀{u},T u->Fit u.length R (S+C)
 mul:∀{u},T u->2*(S+C)+EE u.length R<=60000000000000
 RS:R<=S
section
variable {T:List (List Rat)->Prop} {R C S:Nat}
theorem Gam.I8 (G:Gam T R C S) {u w:List (List Rat)} (h:u<:+w) (hw:T w):T u:=by
 obtain⟨v,rfl⟩:=h
 induction v with
 | nil=>exact hw
 | cons r v d=>exact d (G.sub hw)
theorem Gam.ext (G:Gam T R C S) {t:List (List Rat)} (ht:T t):∀{u:List (List Rat)},T u->T (ext t u)
 | [],_=>ht
 | r::u,hu=>G.Aj (G.ext ht (G.sub hu)) hu (Jf (G.BJ ht).red (G.BJ (G.sub hu)).red).2
theorem Gam.join (G:Gam T R C S) {t u:List (List Rat)} (ht:T t) (hu:T u):T (FZ t u):=by
 unfold FZ
 split
 ·exact ht
 split
 ·exact hu
 exact G.ext ht hu
end
theorem Im {u:List (List Rat)} {r:List Rat} (h:BF (r::u)):El (r::u) 0 (rt u r):=by
 have d:El u 0 0:=El.rat h.1 Gz;have f:El u 0 1:=El.rat h.1 kD;have:=J3 h d.mem f.mem d.bd f.bd;rw[show (0:Re)+1*rt u r=rt u r by grind] at this;exact⟨J7 u r,this⟩
end Go.Abs
namespace Go.Abs
theorem Gw:∀{h h' R R':Nat},h<=h'->R<=R'->EE h R<=EE h' R'
 | 0,h',R,R',_,_=>Nat.zero_le _
 | h+1,0,R,R',d,_=>absurd d (by omega)
 | h+1,h'+1,R,R',d,hR=>by
  have:=Gw (h:=h) (h':=h') (by omega) hR;rw[EE,EE];omega
theorem GI:∀{h h' R R' s s':Nat},h<=h'->R<=R'->s<=s'->II h R s<=II h' R' s'
 | 0,0,R,R',s,s',_,_,f=>by rw[II,II];omega
 | 0,h'+1,R,R',s,s',_,_,f=>by
  have:=GH h' R' (2*s'+2*EE h' R'+R'+1);rw[II,II];omega
 | h+1,0,R,R',s,s',d,_,_=>absurd d (by omega)
 | h+1,h'+1,R,R',s,s',d,hR,f=>by
  have g:=Gw (h:=h) (h':=h') (by omega) hR;have j:=GI (h:=h) (h':=h') (s:=2*s+2*EE h R+R+1) (s':=2*s'+2*EE h' R'+R'+1) (by omega) hR (by omega);rw[II,II];omega
theorem Nh:∀{h h' R R':Nat},h<=h'->R<=R'->GG h R<=GG h' R'
 | 0,h',R,R',_,_=>by rw[GG];exact Nat.zero_le _
 | h+1,0,R,R',d,_=>absurd d (by omega)
 | h+1,h'+1,R,R',d,hR=>by
  have f:=Gw (h:=h) (h':=h') (by omega) hR;have g:=Nh (h:=h) (h':=h') (by omega) hR;have h3:=GI (h:=h) (h':=h') (s:=R) (s':=R') (by omega) hR hR;rw[GG,GG];omega
def CC:Nat->Nat->Nat->Nat->Nat
 | 0,_,_,_=>0
 | k+1,R0,h,R=>2*CC k R0 h R+R0+GG h R+EE h R+1
theorem LU:∀{k k' R0 Jr h h' R R':Nat},k<=k'->R0<=Jr->h<=h'->R<=R'->CC k R0 h R<=CC k' Jr h' R'
 | 0,k',_,_,_,_,_,_,_,_,_,_=>by rw[CC];exact Nat.zero_le _
 | k+1,0,_,_,_,_,_,_,f,_,_,_=>absurd f (by omega)
 | k+1,k'+1,R0,Jr,h,h',R,R',f,g,d,hR=>by
  have j:=LU (k:=k) (k':=k') (by omega) g d hR;have o:=Gw d hR;have h3:=Nh d hR;rw[CC,CC];omega
theorem Ts {D:Nat} {q:Rat} {n:Nat} (h:DN D [q]):DN D (q::List.replicate n 0):=fun z d=>by
 rcases List.mem_cons.1 d with rfl | d
 ·exact h _ List.mem_cons_self
 rw[List.eq_of_mem_replicate d];exact⟨0,by simp⟩
theorem U3 {B:Nat} {q:Rat} {n:Nat} (h:MX B [q]):MX B (q::List.replicate n 0):=fun z d=>by
 rcases List.mem_cons.1 d with rfl | d
 ·exact h _ List.mem_cons_self
 rw[List.eq_of_mem_replicate d];have:(0:Rat)<=B:=Rat.natCast_nonneg
 constructor <;> grind
theorem YG {w:List (List Rat)} {R:Nat} (hw:BF w) (t:TB R w):∀{u:List (List Rat)} {R0:Nat},BF u->TB R0 u->Bl u w->∃K:Nat,0<K/\K<=2^CC u.length R0 w.length R/\
  ∀{x:Re} {D B:Nat},In u x->(DN D (co u x)->DN (D*K) (co w x))/\(MX B (co u x)->MX (B*2^CC u.length R0 w.length R) (co w x))
 | [],R0,_,_,_=>⟨1,by decide,by simp[CC],fun {x D B} V=>by
  obtain⟨q,rfl⟩:=Dl.1 V;rw[Ew,JO q hw,Nat.mul_one];refine⟨Ts,fun h=>?_⟩;rw[show B*2^CC ([]:List (List Rat)).length R0 w.length R=B by simp[CC]];exact U3 h⟩
 | r::u,R0,h,Y,o=>by
  obtain⟨K,hK,g,hb⟩:=YG hw t h.1 Y.tail o.tail;obtain⟨E,J,L,hm⟩:=Ln hw t;obtain⟨X,G,H,I,Q⟩:=Y.head;have hr:=DO h;have U:=CO h;have d:=o.root;have b1:=hb (D:=X) (B:=2^R0) U;rw[FQ h] at b1
  have hv:Bd (R0+CC u.length R0 w.length R) (co w (Al u r)):=by
   refine⟨X*K,Nat.mul_pos G hK,?_,b1.1 I,?_⟩
   ·rw[Nat.pow_add];exact Nat.mul_le_mul H g
   rw[Nat.pow_add];exact b1.2 Q
  obtain⟨F,hF,N,M,O⟩:=N4 hw t d hr hv;refine⟨K*(F*E),Nat.mul_pos hK (Nat.mul_pos hF J),?_,fun {x D B} V=>?_⟩
  ·have Z:=Nat.mul_le_mul g (Nat.mul_le_mul N L);simp only[<-Nat.pow_add] at Z;exact Nat.le_trans Z (C0 (by rw[List.length_cons,CC];omega))
  obtain⟨p,q,v,A,rfl⟩:=Cq.1 V;rw[EJ h v A rfl,DN.app,MX.app];have k:=o.tail _ v;have f:=o.tail _ A;refine⟨fun j=>?_,fun j=>?_⟩
  ·have k1:=(hb (B:=0) v).1 j.1;have k2:=(hb (B:=0) A).1 j.2;have W:=hm f d k2 M;exact DN.Gu hw k (BN hw f d) (k1.dvd ⟨F*E,by grind⟩) (W.dvd ⟨1,by grind⟩)
  have k1:=(hb (D:=0) v).2 j.1;have k2:=(hb (D:=0) A).2 j.2;have W:=JZ hw t f d k2 O;refine (MX.Gu hw k (BN hw f d) k1 W).mono ?_
  have e:B*2^CC u.length R0 w.length R*2^(R0+CC u.length R0 w.length R+GG w.length R)*2^EE w.length R=B*2^(CC u.length R0 w.length R+(R0+CC u.length R0 w.length R+GG w.length R)+EE w.length R):=by
   rw[Nat.mul_assoc,Nat.mul_assoc,<-Nat.pow_add,<-Nat.pow_add];congr 2;omega
  rw[e,<-Nat.mul_add];refine Nat.mul_le_mul_left B ?_;have e2:CC (r::u).length R0 w.length R=CC u.length R0 w.length R+(R0+CC u.length R0 w.length R+GG w.length R)+EE w.length R+1:=by rw[List.length_cons,CC];omega
  have h3:2^CC u.length R0 w.length R<=2^(CC u.length R0 w.length R+(R0+CC u.length R0 w.length R+GG w.length R)+EE w.length R):=C0;rw[e2,Nat.pow_succ];omega
theorem El.CV {w u:List (List Rat)} {R R0 s:Nat} {x:Re} (hw:BF w) (t:TB R w) (hu:BF u) (h:TB R0 u) (g:Bl u w) (d:El u s x):El w (s+CC u.length R0 w.length R) x:=by
 obtain⟨K,r,f,hb⟩:=YG hw t hu h g;obtain⟨D,j,k,h3,o⟩:=d.bd;refine⟨g _ d.mem,D*K,Nat.mul_pos j r,?_,(hb (B:=0) d.mem).1 h3,?_⟩
 ·rw[Nat.pow_add];exact Nat.mul_le_mul k f
 rw[Nat.pow_add];exact (hb (D:=0) d.mem).2 o
inductive Tf (P:List (List Rat)->Prop):List (List Rat)->Prop
 | nil:Tf P []
 | Aj {u:List (List Rat)} {r0:List Rat} {u0:List (List Rat)}:Tf P u->P (r0::u0)->Bl u0 u->Tf P (Aj u (Al u0 r0))
structure CA (P:List (List Rat)->Prop) (R0:Nat):Prop where
 red:∀{u},P u->BF u
 tb:∀{u},P u->TB R0 u
 sub:∀{r u},P (r::u)->P u
section
variable {P:List (List Rat)->Prop} {R0:Nat}
theorem Tf.red (I:CA P R0) {u:List (List Rat)} (h:Tf P u):BF u:=by
 induction h with
 | nil=>trivial
 | Aj _ d f g=>exact Vo g (f _ (CO (I.red d))) (I.red d).2.2.1
theorem jo {u:List (List Rat)} {r:List Rat} (h:BF (r::u)):Aj u (Al u r)=r::u:=by rw[C8 h.2.2.2,FQ h]
theorem Tf.of (I:CA P R0):∀{u:List (List Rat)},P u->Tf P u
 | [],_=> .nil
 | r::u,h=>by
  have:=Tf.Aj (Tf.of I (I.sub h)) h (Bl.refl u);rwa [jo (I.red h)] at this
theorem Tf.gen (I:CA P R0) {w:List (List Rat)} (h:Tf P w):∀{r:List Rat} {u:List (List Rat)},w=r::u->Tf P u/\∃f d,P (f::d)/\Al d f=Al u r/\Bl d u:=by
 induction h with
 | nil=>intro r u e;cases e
 | @Aj t f d ht j g o=>
  intro r u e
  by_cases k:Sq t (Al d f)
  ·rw[ED k] at e;exact o e
  rw[C8 k] at e;obtain⟨rfl,rfl⟩:=List.cons.inj e;exact⟨ht,f,d,j,(FR (g _ (CO (I.red j)))).symm,g⟩
theorem Tf.sub (I:CA P R0) {r:List Rat} {u:List (List Rat)} (h:Tf P (r::u)):Tf P u:=(h.gen I rfl).1
theorem Tf.Nw (I:CA P R0) {t u:List (List Rat)} {r:List Rat} (ht:Tf P t) (h:Tf P (r::u)) (f:Bl u t):Tf P (Go.Abs.Aj t (Al u r)):=by
 obtain⟨_,j,k,g,e,d⟩:=h.gen I rfl;rw[<-e];exact .Aj ht g (d.trans f)
theorem Vp:∀{u:List (List Rat)},BF u->Bl u []->u=[]
 | [],_,_=>rfl
 | r::u,h,d=>by
  have hu:=Vp h.1 d.tail;subst hu;exact absurd ⟨_,d.root,DO h⟩ h.2.2.2
theorem cq {r q:List Rat} {s:List Rat} (h:BF [q,r]) (B:BF [s]) (D:Bl [q,r] [s]):False:=by
 have u:=h.1;obtain⟨a,b,ha,hb,e⟩:=Cq.1 D.tail.root;have G:=DO u;have v:=DO B;have g:BF ([]:List (List Rat)):=trivial
 by_cases o:b=0
 ·exact u.2.2.2 ⟨a,ha,by rw[<-G,e,o];grind⟩
 obtain⟨d,F,I⟩:=Em g hb o
 by_cases k:a=0
 ·have j:In [r] (rt [] s):=by
   have:rt [] s=d*rt [] r:=by rw[e,k];grind
   rw[this];exact BN u (Fh F) (J7 [] r)
  have A:Bl [s] [r]:=Kn u (MZ _) j;exact h.2.2.2 ⟨_,A _ D.root,DO h⟩
 obtain⟨c,hc,H⟩:=Em g ha k
 have K:Re.ofRat (1/2)*(1+1)=1:=by
  rw[show (1:Re)=Re.ofRat 1 from rfl,<-Re.ofRat_add,<-Re.ofRat_mul,show (1/2:Rat)*(1+1)=1 by decide +kernel]
 have J:=CO u;have hw:=CO B
 have key:rt [] s=(Al [] r-a*a-b*b*Al [] s)*(c*d*Re.ofRat (1/2)):=by
  rw[<-G,<-v,e];generalize rt [] s=t at *;generalize Re.ofRat (1/2)=f at *;grind
 have j:In [] (rt [] s):=by
  rw[key];exact BN g (GM (GM J (BN g ha ha)) (BN g (BN g hb hb) hw)) (BN g (BN g hc F) (He _ []))
 exact B.2.2.2 ⟨_,j,v⟩
def RR (R0:Nat):Nat->Nat
 | 0=>R0
 | h+1=>max (RR R0 h) (R0+CC (min h 2) R0 h (RR R0 h))
theorem W5 {R0 h h':Nat} (d:h<=h'):RR R0 h<=RR R0 h':=by
 induction d with
 | refl=>exact Nat.le_refl _
 | step _ f=>exact Nat.le_trans f (Nat.le_max_left _ _)
theorem TB.mono {R R':Nat} {u:List (List Rat)} (h:TB R u) (hR:R<=R'):TB R' u:=fun r d=>(h r d).mono hR
theorem Tf.tb (I:CA P R0) (hm:∀{u},Tf P u->u.length<=3) {u:List (List Rat)} (h:Tf P u):TB (RR R0 u.length) u:=by
 induction h with
 | nil=>intro r j;simp at j
 | @Aj u F f ht g o A=>
  by_cases D:Sq u (Al f F)
  ·rw[ED D];exact A
  have B:=hm (Tf.Aj ht g o);have v:=hm (Tf.of I g);rw[C8 D] at B ⊢;rw[List.length_cons] at B v;intro r j;rcases List.mem_cons.1 j with rfl | j
  ·have d:=I.red g;have t:El f R0 (Al f F):=⟨CO d,by rw[FQ d];exact (I.tb g).head⟩;have:=(t.CV (ht.red I) A d.1 (I.tb g).tail o).bd;refine this.mono ?_;rw[List.length_cons,RR]
   have H:f.length<=min u.length 2:=by
    have G:f.length<=2:=by omega
    cases u with
    | nil=>rw[Vp d.1 o];exact Nat.zero_le _
    | cons s J=>
     cases J with
     | nil=>
      cases f with
      | nil=>exact Nat.zero_le _
      | cons q K=>
       cases K with
       | nil=>exact Nat.le_refl 1
       | cons r L=>
        have:L=[]:=List.eq_nil_of_length_eq_zero (by simp only[List.length_cons] at G;omega);subst this;exact (cq d.1 (ht.red I) o).elim
     | cons _ _=>simp only[List.length_cons];omega
   have:=LU (k:=f.length) (k':=min u.length 2) (R0:=R0) (Jr:=R0) (h:=u.length) (h':=u.length) (R:=RR R0 u.length) (R':=RR R0 u.length) H (Nat.le_refl _) (Nat.le_refl _) (Nat.le_refl _);omega
  exact (A r j).mono (W5 (by rw[List.length_cons];omega))
theorem Tf.UH (I:CA P R0) (hm:∀{u},Tf P u->u.length<=3) {R C S:Nat} (hR:RR R0 3<=R) (g:R<=S) (v:CC 3 R 3 R<=C) (j:∀h,h<=3->Fit h R (S+C)) (A:2*(S+C)+EE 3 R<=60000000000000):Gam (Tf P) R C S:=by
 have d:∀{u},Tf P u->TB R u:=fun {u} h=>(h.tb I hm).mono (Nat.le_trans (W5 (hm h)) hR)
 refine⟨fun {u} h=>⟨h.red I,d h,by omega,by have:=hm h;omega⟩,fun {u} h=>by have:=hm h;omega,.nil,fun {r u} h=>h.sub I,fun {t r u} ht h f=>ht.Nw I h f,fun {u w s x} hu hw f o=>?_,fun {u} h=>j _ (hm h),fun {u} h=>?_,g⟩
 ·refine (o.CV (hw.red I) (d hw) (hu.red I) (d hu) f).mono ?_;have:=LU (k:=u.length) (k':=3) (R0:=R) (Jr:=R) (h:=w.length) (h':=3) (R:=R) (R':=R) (hm hu) (Nat.le_refl _) (hm hw) (Nat.le_refl _);omega
 have:=Gw (h:=u.length) (h':=3) (R:=R) (R':=R) (hm h) (Nat.le_refl _);omega
def BP:List (List Rat)->List Re
 | []=>[]
 | r::u=>Al u r::BP u
theorem Jl:∀u:List (List Rat),(BP u).length=u.length
 | []=>rfl
 | r::u=>by rw[BP,List.length_cons,List.length_cons,Jl u]
theorem Nf:∀{u:List (List Rat)} {v:Re},v∈BP u->In u (Re.sqrt v)
 | [],v,h=>by simp[BP] at h
 | r::u,v,h=>by
  rcases List.mem_cons.1 h with rfl | h
  ·exact J7 u r
  exact Fh (Nf h)
theorem HE:∀{u:List (List Rat)},BF u->(BP u).Nodup
 | [],_=>List.nodup_nil
 | r::u,h=>by
  rw[BP,List.nodup_cons];refine⟨fun hm=>h.2.2.2 ⟨_,Nf hm,Re.Ev (by have:=h.2.2.1;grind)⟩,HE h.1⟩
theorem Tf.BP (I:CA P R0) {V:List Re} (hV:∀{u},P u->∀v∈BP u,v∈V) {u:List (List Rat)} (h:Tf P u):∀v∈Go.Abs.BP u,v∈V:=by
 induction h with
 | nil=>intro v d;simp[Go.Abs.BP] at d
 | @Aj u o r ht f k j=>
  by_cases g:Sq u (Al r o)
  ·rw[ED g];exact j
  rw[C8 g];intro v d;rcases List.mem_cons.1 d with rfl | d
  ·rw[FR (k _ (CO (I.red f)))];exact hV f _ List.mem_cons_self
  exact j v d
theorem Ja {α:Type}:∀{l m:List α},l.Nodup->(∀x∈l,x∈m)->l.length<=m.length
 | [],_,_,_=>Nat.zero_le _
 | x::l,m,h,hm=>by
  rw[List.nodup_cons] at h;obtain⟨a,b,rfl⟩:=List.append_of_mem (hm x List.mem_cons_self)
  have:=Ja (l:=l) (m:=a++b) h.2 (fun y f=>by
   have g:=hm y (List.mem_cons_of_mem _ f);rcases List.mem_append.1 g with d | d
   ·exact List.mem_append_left _ d
   rcases List.mem_cons.1 d with rfl | d
   ·exact absurd f h.1
   exact List.mem_append_right _ d)
  rw[List.length_cons,List.length_append,List.length_cons];rw[List.length_append] at this;omega
theorem Tf.len (I:CA P R0) {V:List Re} (hV:∀{u},P u->∀v∈Go.Abs.BP u,v∈V) {u:List (List Rat)} (h:Tf P u):u.length<=V.length:=by
 rw[<-Jl];exact Ja (HE (h.red I)) (h.BP I hV)
end
end Go.Abs
namespace Go.Abs
def HM (k i:Nat):Bool:=k/2^i%2==1
def EL (i:Nat):Nat->List Rat->Bool
 | _,[]=>false
 | k,q::l=>(HM k i&&q !=0)||EL i (k+1) l
def CJ (i:Nat):Nat->List Rat->List Rat
 | _,[]=>[]
 | k,q::l=>if HM k i=true then CJ i (k+1) l else q::CJ i (k+1) l
variable {w:List (List Rat)} {x:Re}
theorem VF (i:Nat):∀(k:Nat) (a b:List Rat),EL i k (a++b)=(EL i k a||EL i (k+a.length) b)
 | k,[],b=>by simp[EL]
 | k,q::a,b=>by
  rw[List.cons_append,EL,EL,VF i (k+1) a b,List.length_cons,Bool.or_assoc,show k+1+a.length=k+(a.length+1) by omega]
theorem SO (i:Nat):∀(k:Nat) (a b:List Rat),CJ i k (a++b)=CJ i k a++CJ i (k+a.length) b
 | k,[],b=>by simp[CJ]
 | k,q::a,b=>by
  rw[List.cons_append,CJ,CJ,SO i (k+1) a b,List.length_cons,show k+1+a.length=k+(a.length+1) by omega]
  split <;> simp
theorem YN (k i c:Nat):HM (k+2^(i+1)*c) i=HM k i:=by
 unfold HM;rw[Nat.pow_succ,Nat.mul_assoc,Nat.add_mul_div_left _ _ (Nat.two_pow_pos i),Nat.add_mul_mod_self_left]
theorem bO (i c:Nat):∀(k:Nat) (l:List Rat),EL i (k+2^(i+1)*c) l=EL i k l
 | _,[]=>rfl
 | k,q::l=>by
  rw[EL,EL,YN,show k+2^(i+1)*c+1=k+1+2^(i+1)*c by omega,bO i c (k+1) l]
theorem fK (i c:Nat):∀(k:Nat) (l:List Rat),CJ i (k+2^(i+1)*c) l=CJ i k l
 | _,[]=>rfl
 | k,q::l=>by
  rw[CJ,CJ,YN,show k+2^(i+1)*c+1=k+1+2^(i+1)*c by omega,fK i c (k+1) l]
theorem kL {k i:Nat} (h:k<2^i):HM k i=false:=by unfold HM;rw[Nat.div_eq_of_lt h];rfl
theorem YM {k i:Nat} (h:2^i<=k) (d:k<2^i+2^i):HM k i=true:=by
 unfold HM
 have:k/2^i=1:=by
  rw[Nat.div_eq_iff (Nat.two_pow_pos i)];omega
 rw[this];rfl
theorem fJ (i:Nat):∀(k:Nat) (l:List Rat),k+l.length<=2^i->CJ i k l=l
 | _,[],_=>rfl
 | k,q::l,h=>by
  rw[List.length_cons] at h;rw[CJ,kL (by omega),fJ i (k+1) l (by omega)];rfl
theorem fH (i:Nat):∀(k:Nat) (l:List Rat),2^i<=k->k+l.length<=2^i+2^i->CJ i k l=[]
 | _,[],_,_=>rfl
 | k,q::l,h,d=>by
  rw[List.length_cons] at d;rw[CJ,YM h (by omega),fH i (k+1) l (by omega) (by omega)];rfl
theorem bM (i:Nat):∀(k:Nat) (l:List Rat),2^i<=k->k+l.length<=2^i+2^i->EL i k l=false->∀q∈l,q=0
 | _,[],_,_,_=>by simp
 | k,q::l,h,f,h3=>by
  rw[List.length_cons] at f;rw[EL,YM h (by omega)] at h3;simp only[Bool.true_and,Bool.or_eq_false_iff,bne_eq_false_iff_eq] at h3;intro x d;rcases List.mem_cons.1 d with rfl | d
  ·exact h3.1
  exact bM i (k+1) l (by omega) (by omega) h3.2 x d
theorem SP (i:Nat):∀(k:Nat) (l:List Rat),∀q∈CJ i k l,q∈l
 | _,[],q,h=>h
 | k,x::l,q,h=>by
  rw[CJ] at h
  split at h
  ·exact List.mem_cons_of_mem _ (SP i (k+1) l q h)
  rcases List.mem_cons.1 h with rfl | h
  ·exact List.mem_cons_self
  exact List.mem_cons_of_mem _ (SP i (k+1) l q h)
theorem ZE {r:List Rat} {u:List (List Rat)}:∀{v:List (List Rat)},BF (v++r::u)->(∀s∈v,EL u.length 0 s=false)->
  BF (v.map (CJ u.length 0)++u)/\Bl (v.map (CJ u.length 0)++u) (v++r::u)/\(∀x∈BP (v.map (CJ u.length 0)++u),x∈BP (v++r::u))/\
  ∀{x:Re},In (v++r::u) x->EL u.length 0 (co (v++r::u) x)=false->In (v.map (CJ u.length 0)++u) x/\co (v.map (CJ u.length 0)++u) x=CJ u.length 0 (co (v++r::u) x)
 | [],h,_=>by
  refine⟨h.1,fun x d=>Fh d,fun x d=>List.mem_cons_of_mem _ d,fun {x} d B=>?_⟩;obtain⟨p,q,o,A,rfl⟩:=Cq.1 d;have e:=EJ h o A rfl;have D:=EF o;have Q:=EF A;simp only[List.nil_append,List.map_nil] at*;rw[e,VF,D,Nat.zero_add,Bool.or_eq_false_iff] at B;have G:q=0:=(OD h.1 A).1 (bM _ _ _ (Nat.le_refl _) (by omega) B.2);subst G;have ex:p+0*rt u r=p:=by grind
  rw[e,SO,D,Nat.zero_add,fJ _ _ _ (by omega),fH _ _ _ (Nat.le_refl _) (by omega),List.append_nil,ex];exact⟨o,rfl⟩
 | s::v,h,B=>by
  have h:BF (s::(v++r::u)):=h;obtain⟨M,J,h3,F⟩:=ZE (v:=v) h.1 (fun t ht=>B t (List.mem_cons_of_mem _ ht));have H:=B s List.mem_cons_self;have I:In (v++r::u) (Al (v++r::u) s):=CO h
  show BF (CJ u.length 0 s::(v.map (CJ u.length 0)++u))/\Bl (CJ u.length 0 s::(v.map (CJ u.length 0)++u)) (s::(v++r::u))/\(∀x∈BP (CJ u.length 0 s::(v.map (CJ u.length 0)++u)),x∈BP (s::(v++r::u)))/\
   ∀{x:Re},In (s::(v++r::u)) x->EL u.length 0 (co (s::(v++r::u)) x)=false->In (CJ u.length 0 s::(v.map (CJ u.length 0)++u)) x/\co (CJ u.length 0 s::(v.map (CJ u.length 0)++u)) x=CJ u.length 0 (co (s::(v++r::u)) x)
  have cs:co (v++r::u) (Al (v++r::u) s)=s:=FQ h;obtain⟨k1,k2⟩:=F I (by rw[cs];exact H);rw[cs] at k2;have f:Al (v.map (CJ u.length 0)++u) (CJ u.length 0 s)=Al (v++r::u) s:=by rw[<-k2,FR k1]
  have j:BF (CJ u.length 0 s::(v.map (CJ u.length 0)++u)):=by
   refine⟨M,by rw[<-k2];exact EF k1,by rw[f];exact h.2.2.1,?_⟩;rw[f]
   rintro⟨w,hw,e⟩
   exact h.2.2.2 ⟨w,J w hw,e⟩
  have g:rt (v.map (CJ u.length 0)++u) (CJ u.length 0 s)=rt (v++r::u) s:=by rw[rt,rt,f]
  have hlen:2^(v++r::u).length=2^(u.length+1)*2^v.length:=by rw[<-Nat.pow_add];congr 1;simp;omega
  refine⟨j,Kn h (J.trans fun x d=>Fh d) (by rw[g];exact J7 _ _),fun x d=>?_,fun {x} d k=>?_⟩
  ·rcases List.mem_cons.1 d with rfl | d
   ·exact List.mem_cons.2 (.inl f)
   exact List.mem_cons_of_mem _ (h3 x d)
  obtain⟨p,q,o,A,rfl⟩:=Cq.1 d;have e:=EJ h o A rfl;have D:=EF o;rw[e,VF,D,hlen,bO,Bool.or_eq_false_iff] at k;obtain⟨K,N⟩:=F o k.1;obtain⟨L,O⟩:=F A k.2;rw[<-g];refine⟨Cq.2 ⟨p,q,K,L,rfl⟩,?_⟩;rw[g,e,SO,D,hlen,fK,<-N,<-O,<-g];exact EJ j K L rfl
def NW (i:Nat) (s:List (List Rat)×List Rat):List (List Rat)×List Rat:=
 if (EL i 0 s.2||(s.1.drop (i+1)).any (EL i 0))=true then s else (s.1.take i++(s.1.drop (i+1)).map (CJ i 0),CJ i 0 s.2)
def I9:Nat->List (List Rat)×List Rat->List (List Rat)×List Rat
 | 0,s=>s
 | i+1,s=>I9 i (NW i s)
structure Js (w:List (List Rat)) (x:Re) (w':List (List Rat)):Prop where
 red:BF w'
 mem:In w' x
 CV:Bl w' w
 BP:∀v∈BP w',v∈BP w
 len:w'.length<=w.length
 Je:∀s∈w',∀q∈s,∃t∈w,q∈t
 cos:∀q∈co w' x,q∈co w x
theorem Js.refl (h:BF w) (g:In w x):Js w x w:=⟨h,g,Bl.refl w,fun _ h=>h,Nat.le_refl _,fun s f q d=>⟨s,f,d⟩,fun _ h=>h⟩
theorem Js.trans {w' f:List (List Rat)} (h:Js w x w') (k:Js w' x f):Js w x f:=
 ⟨k.red,k.mem,k.CV.trans h.CV,fun v j=>h.BP v (k.BP v j),Nat.le_trans k.len h.len,fun s g q d=>by
  obtain⟨t,ht,d⟩:=k.Je s g q d;exact h.Je t ht q d,fun q d=>h.cos q (k.cos q d)⟩
theorem eo {i:Nat} (h:BF w) (j:In w x) (D:i<w.length):∃w',NW i (w.reverse,co w x)=(w'.reverse,co w' x)/\Js w x w'/\i<=w'.length:=by
 unfold NW
 split
 ·exact⟨w,rfl,.refl h j,by omega⟩
 rename_i hc
 obtain⟨v,r,u,rfl,rfl⟩:∃v r u,w=v++r::u/\i=u.length:=by
  refine⟨w.take (w.length-1-i),w[w.length-1-i]'(by omega),w.drop (w.length-1-i+1),?_,by rw[List.length_drop];omega⟩;rw[<-List.drop_eq_getElem_cons,List.take_append_drop]
 have d:(v++r::u).reverse=u.reverse++r::v.reverse:=by simp
 have B:(v++r::u).reverse.drop (u.length+1)=v.reverse:=by
  rw[d,show u.reverse++r::v.reverse=(u.reverse++[r])++v.reverse by simp];exact List.drop_left' (by simp)
 have ht:(v++r::u).reverse.take u.length=u.reverse:=by
  rw[d];exact List.take_left' (by simp)
 simp only[B,ht,Bool.not_eq_true,Bool.or_eq_false_iff] at hc ⊢
 obtain⟨k,o,h3,A⟩:=ZE h (fun s f=>by
  have:=List.any_eq_false.1 hc.2 s (List.mem_reverse.2 f);simpa using this)
 obtain⟨k1,k2⟩:=A j hc.1;refine⟨v.map (CJ u.length 0)++u,?_,⟨k,k1,o,h3,by simp,fun s f q g=>?_,fun q g=>?_⟩,by simp⟩
 ·rw[k2,List.reverse_append,List.map_reverse]
 ·rcases List.mem_append.1 f with f | f
  ·obtain⟨t,ht,rfl⟩:=List.mem_map.1 f;exact⟨t,List.mem_append_left _ ht,SP _ _ _ q g⟩
  exact⟨s,List.mem_append_right _ (List.mem_cons_of_mem _ f),g⟩
 rw[k2] at g;exact SP _ _ _ q g
theorem WY:∀{i:Nat} {w:List (List Rat)} {x:Re},BF w->In w x->i<=w.length->∃w',I9 i (w.reverse,co w x)=(w'.reverse,co w' x)/\Js w x w'
 | 0,w,x,h,d,_=>⟨w,rfl,.refl h d⟩
 | i+1,w,x,h,d,f=>by
  obtain⟨j,e1,t1,l1⟩:=eo h d f;obtain⟨g,e2,t2⟩:=WY t1.red t1.mem l1;exact⟨g,by rw[I9,e1,e2],t1.trans t2⟩
end Go.Abs
namespace Go.Abs
open Go.RowKit
variable {a b m n p:Int} {e i:Nat}
theorem Se.lt {x:UInt8} (_:Se n x):x.toNat<256:=x.toNat_lt
theorem Nn.lt {x:UInt32} (_:Nn n x):x.toNat<4294967296:=x.toNat_lt
theorem Bv (k:Nat):BG k k:=⟨rfl⟩
theorem BG.of {k:Nat} (h:n=k):BG n k:=⟨h⟩
theorem BS (h:true=(a==b)):a=b:=by simpa using h.symm
theorem BR (h:false=(a==b)):a≠b:=by simpa using h.symm
theorem Et (h:true=(a !=b)):a≠b:=by simpa using h.symm
theorem Es (h:false=(a !=b)):a=b:=by simpa using h.symm
theorem BY (h:true=decide (a<b)):a<b:=by simpa using h.symm
theorem BX (h:false=decide (a<b)):b<=a:=by simpa using h.symm
theorem Mq (h:true=decide (a<=b)):a<=b:=by simpa using h.symm
theorem Mp (h:false=decide (a<=b)):b<a:=by simpa using h.symm
theorem Cu (h:true=decide (a>b)):b<a:=by simpa using h.symm
theorem Ct (h:false=decide (a>b)):a<=b:=by simpa using h.symm
theorem Gn (h:true=decide (a >= b)):b<=a:=by simpa using h.symm
theorem Gm (h:false=decide (a >= b)):a<b:=by simpa using h.symm
theorem Fp {a:Bool} (h:true= !a):a=false:=by simpa using h.symm
theorem Fo {a:Bool} (h:false= !a):a=true:=by simpa using h.symm
theorem QI {a b:Bool} (h:true=(a==b)):a=b:=by simpa using h.symm
theorem QH {a b:Bool} (h:false=(a==b)):a≠b:=by simpa using h.symm
theorem YP {a b:Bool} (h:true=(a !=b)):a≠b:=by simpa using h.symm
theorem YO {a b:Bool} (h:false=(a !=b)):a=b:=by simpa using h.symm
theorem wrap_u32 (h:n=IntKind.u32.wrap m):n=m%4294967296:=h
theorem wrap_u64 (h:n=IntKind.u64.wrap m):n=m%18446744073709551616:=h
theorem wrap_i64 (h:n=IntKind.i64.wrap m):n=(m+9223372036854775808)%18446744073709551616-9223372036854775808:=by
 have e:IntKind.i64.wrap m=if (true&&decide (m%18446744073709551616 >= 9223372036854775808))=true then m%18446744073709551616-18446744073709551616 else m%18446744073709551616:=rfl
 rw[h,e]
 split
 ·rename_i hc
  simp only[Bool.true_and,decide_eq_true_eq] at hc;omega
 rename_i hc
 simp only[Bool.true_and,decide_eq_true_eq] at hc;omega
theorem Fv (h:n=a.fdiv (2^e)) (d:2^e=p):n=a/p:=by
 rw[h,<-d,Int.fdiv_eq_ediv_of_nonneg _ (by have:=Int.pow_pos (n:=2) (m:=e) (by decide);omega)]
theorem L3 (h:n=IntKind.u64.wrap (a*2^e)) (d:2^e=p):n=(a*p)%18446744073709551616:=by rw[<-d];exact h
theorem Ao {α:Type} {l:List α} (h:i<l.length):∃x,l[i]? =some x:=⟨l[i],by simp[h]⟩
theorem Cy (h:0<=n/\n<4294967296):∃w:UInt32,Nn n w:=⟨UInt32.ofNat n.toNat,⟨by rw[UInt32.toNat_ofNat'];omega⟩⟩
theorem Cv {w:UInt32} (h:Nn n w):Bg Bo [.int .u32 n] (cells .u32 w):=by
 refine⟨?_,trivial⟩
 show AC.int .u32 _=AC.int .u32 n
 rw[h.eq]
theorem Hv {α:Type} {l:List α} {x:α} (h:l[i]? =some x):i<l.length:=by
 apply Classical.byContradiction;intro d;rw[List.getElem?_eq_none (by omega)] at h;exact absurd h (by simp)
theorem Cb {α:Type} {l:List α} {x:α} (h:l[i]? =some x):l.take (i+1)=l.take i++[x]:=by
 have d:=Hv h;rw[List.take_succ_eq_append_getElem d];rw[List.getElem?_eq_getElem d] at h;rw[Option.some.inj h]
theorem E8 {t:T} {l m:List (el t)} {n k:Nat} (h:l=m) (d:n=k):AC.own t l n=AC.own t m k:=by rw[h,d]
end Go.Abs
namespace Go.Abs
open Go.RowKit
variable {a b n:Nat} {c y:Int} {l m z:List UInt32}
theorem GU (W:AQ l=n) (G:z=BH n):CF 322 [.one (.sl .u32 l)] (.one (.sl .u32 z)):=by
 have G:Cr l=z:=by rw[G,<-W,PR]
 refine Av Tryz.func322 fun E hE=>?_
 conv=>cbv
 refine .inr ?_;obtain⟨M,r⟩:=xJ fun vs N k=>∃m:List UInt32,vs=[.one (.sl .u32 m)]/\Cr m=z/\k=m.length
 refine⟨[0],[],M,⟨l.length,by rw[r];exact⟨l,rfl,G,rfl⟩⟩,?_⟩;intro vs N Y K;rw[r] at K;obtain⟨m,rfl,t,V⟩:=K;conv=>cbv
 rintro n4 ⟨e4,f4⟩;conv=>cbv
 intro n5 I;conv=>cbv
 cases n5 <;> conv=>cbv
 ·have X:=Ct I;have D:m=[]:=List.eq_nil_of_length_eq_zero (by omega);exact AF ⟨⟨rfl,congrArg _ (by rw[<-t,D];rfl),trivial⟩,trivial⟩
 have X:=Cu I;rintro n9 ⟨e9,f9⟩;conv=>cbv
 intro f R;conv=>cbv
 refine Ah ?_;obtain⟨g,d⟩:=Ao (l:=m) (i:=(f).toNat) (by omega);refine⟨g,fun _=>⟨by omega,d⟩,?_⟩;try conv=>cbv
 intro a1 o;have O:=o.eq;have f12:=o.lt;conv=>cbv
 intro H v;conv=>cbv
 cases H <;> conv=>cbv
 ·have A:=BR v;have F:g≠0:=fun h=>by subst h;exact A o.eq
  have e2:m=m.take (f).toNat++[g]:=by have:=Cb d;rw[List.take_of_length_le (by omega)] at this;exact this
  exact AF ⟨⟨rfl,congrArg _ (by rw[<-t,e2,NV F]),trivial⟩,trivial⟩
 have A:=BS v;refine .inr ?_;rintro a2 ⟨Q,f17⟩;conv=>cbv
 intro a5 U;conv=>cbv
 refine Ah ?_;intro Z L;conv=>cbv
 refine AY ?_;intro B J;conv=>cbv
 intro u j;conv=>cbv
 refine⟨u.length,?_,?_⟩
 ·rw[j];simp;omega
 rw[r];have el:u=m.take (f).toNat:=by rw[j,show B=(f).toNat by omega];simp
 refine⟨u,rfl,?_,rfl⟩;obtain rfl:g=0:=UInt32.toNat_inj.1 (by show _=0;omega)
 have e2:m=m.take (f).toNat++[0]:=by
  have:=Cb d;rw[List.take_of_length_le (by omega)] at this;exact this
 rw[el,<-t];conv=>rhs;rw[e2]
 rw[L4]
theorem Zu (x:Int):CF 349 [.one (.int .i64 x)] (.one (.bool false)):=by
 refine Av Tryz.func349 fun E f=>?_
 conv=>cbv
 intro g d;conv=>cbv
 exact AF ⟨⟨rfl,congrArg _ (by rw[d];simp),trivial⟩,trivial⟩
theorem Zv (x:Int):CF 374 [.one (.int .u32 x)] (.one (.bool false)):=by
 refine Av Tryz.func374 fun E f=>?_
 conv=>cbv
 intro g d;conv=>cbv
 exact AF ⟨⟨rfl,congrArg _ (by rw[d];simp),trivial⟩,trivial⟩
theorem Wq {x:Int} (hc:c=CH x y):CF 320 [.one (.int .i64 x),.one (.int .i64 y)] (.one (.int .i64 c)):=by
 refine Av Tryz.func320 fun E o=>?_
 conv=>cbv
 refine AB o (Zu _) ?_;conv=>cbv
 refine AB o (Zu _) ?_;conv=>cbv
 intro j d;conv=>cbv
 cases j <;> conv=>cbv
 ·have g:=BX d;intro k f;conv=>cbv
  cases k <;> conv=>cbv
  ·have h:=Ct f;exact AF ⟨⟨rfl,congrArg _ (by rw[hc];unfold CH;split <;> (try split) <;> omega),trivial⟩,trivial⟩
  have h:=Cu f;exact AF ⟨⟨rfl,congrArg _ (by rw[hc];unfold CH;split <;> (try split) <;> omega),trivial⟩,trivial⟩
 have g:=BY d;exact AF ⟨⟨rfl,congrArg _ (by rw[hc];unfold CH;split <;> (try split) <;> omega),trivial⟩,trivial⟩
theorem fW {x:Int} (hc:c=CH x y):CF 350 [.one (.int .u32 x),.one (.int .u32 y)] (.one (.int .i64 c)):=by
 refine Av Tryz.func350 fun E o=>?_
 conv=>cbv
 refine AB o (Zv _) ?_;conv=>cbv
 refine AB o (Zv _) ?_;conv=>cbv
 intro j d;conv=>cbv
 cases j <;> conv=>cbv
 ·have g:=BX d;intro k f;conv=>cbv
  cases k <;> conv=>cbv
  ·have h:=Ct f;exact AF ⟨⟨rfl,congrArg _ (by rw[hc];unfold CH;split <;> (try split) <;> omega),trivial⟩,trivial⟩
  have h:=Cu f;exact AF ⟨⟨rfl,congrArg _ (by rw[hc];unfold CH;split <;> (try split) <;> omega),trivial⟩,trivial⟩
 have g:=BY d;exact AF ⟨⟨rfl,congrArg _ (by rw[hc];unfold CH;split <;> (try split) <;> omega),trivial⟩,trivial⟩
theorem NX {m:Nat} (Z:n<=l.length) (hl:l.length<=140737488355328) (hm:m=(Cr (l.take n)).length):Jo Tryz.prog 322 (.BI .u32 0 0 0 n) (.arr 0 .u32 l) [] (.one (.BI .u32 0 0 0 m)) (.arr 0 .u32 l):=by
 refine N2 Tryz.func322 (by kernel_rfl) rfl fun E hE=>?_
 conv=>cbv
 refine .inr ?_;obtain⟨N,j⟩:=xJ fun vs G k=>∃q:Nat,vs=[.one (.BI .u32 0 0 0 q)]/\G=[.arr 0 .u32 l]/\q<=l.length/\m=(Cr (l.take q)).length/\k=q
 refine⟨[0],[0],N,⟨n,by rw[j];exact⟨n,rfl,rfl,Z,hm,rfl⟩⟩,?_⟩;intro vs G a1 K;rw[j] at K;obtain⟨q,rfl,rfl,hq,o,Y⟩:=K;conv=>cbv
 intro n4 W;have e4:=W.eq;conv=>cbv
 intro n5 H;conv=>cbv
 cases n5 <;> conv=>cbv
 ·have k5:=Ct H;refine⟨fun _=>⟨⟨⟨rfl,.inr (.inr ⟨rfl,rfl,congrArg (AC.BI .u32 0 0 0) (by rw[o,show q=0 by omega];rfl)⟩),trivial⟩,trivial⟩,rfl,by simp⟩,fun _=>rfl⟩
 have k5:=Cu H;intro n9 X;have e9:=X.eq;conv=>cbv
 intro a2 U;conv=>cbv
 refine Ah ?_;refine AY ?_;intro r L;conv=>cbv
 obtain⟨t,d⟩:=Ao (l:=l) (i:=r) (by omega);refine⟨t,fun _=>d,?_⟩;try conv=>cbv
 intro a5 g;have Q:=g.eq;have f12:=g.lt;conv=>cbv
 intro D u;conv=>cbv
 cases D <;> conv=>cbv
 ·have v:=BR u;have B:t≠0:=fun h=>by subst h;exact v g.eq
  refine⟨fun _=>⟨⟨⟨rfl,.inr (.inr ⟨rfl,rfl,congrArg (AC.BI .u32 0 0 0) (by rw[o,show q=r+1 by omega,Cb d,NV B,List.length_append,List.length_take];simp;omega)⟩),trivial⟩,trivial⟩,rfl,by simp⟩,fun _=>rfl⟩
 have v:=BS u;refine .inr ?_;intro a6 A;have R:=A.eq;conv=>cbv
 intro a7 V;conv=>cbv
 refine Ah ?_;refine AY ?_;intro O I;conv=>cbv
 rintro F f ⟨M,J⟩;conv=>cbv
 refine⟨f,?_,?_⟩
 ·omega
 rw[j];obtain rfl:F=0:=by omega
 refine⟨f,rfl,rfl,by omega,?_,rfl⟩;obtain rfl:t=0:=UInt32.toNat_inj.1 (by show _=0;omega);rw[o,show q=f+1 by omega,Cb (x:=0) (by rw[show f=r by omega];exact d),L4]
theorem bh {zn:Nat} (hl:l=BH a) (hm:m=BH b) (hz:z=BH (a+b)) (an:zn=z.length) (sl:l.length<=17592186044416) (sm:m.length<=17592186044416):CF 371 [.one (.sl .u32 l),.one (.sl .u32 m)] (.one (.own .u32 z zn)):=by
 refine Av Tryz.func371 fun E hE=>?_
 conv=>cbv
 rintro aW ⟨aK,f10⟩;conv=>cbv
 rintro aX ⟨aL,f12⟩;conv=>cbv
 intro aB a7;conv=>cbv
 obtain⟨av,F⟩:=xK fun vs bl=>∃(p q:Nat) (x y:List UInt32),vs=[.one (.sl .u32 x),.one (.sl .u32 y)]/\x=BH p/\y=BH q/\p+q=a+b/\y.length<=x.length/\x.length<=17592186044416
 refine .inl ⟨[0,1],[],av,?_,?_⟩
 ·intro vs bl hj;rw[F] at hj;obtain⟨p,q,x,y,rfl,hx,hy,N,al,aU⟩:=hj;conv=>cbv
  rintro aY ⟨aM,f17⟩;conv=>cbv
  intro aZ aR;conv=>cbv
  refine Ah ?_;refine⟨fun _=>⟨by omega,by omega,by show _*4<=140737488355328;omega⟩,?_⟩;intro X (Y:List UInt32) U;have O:=U.1;have v:Y=List.replicate X (0:el .u32):=U.2;have aJ:Y.length=X:=by rw[v,List.length_replicate]
  conv=>cbv
  intro aC W;have aN:=W.eq;have f21:=W.le;conv=>cbv
  refine .inr ?_
  obtain⟨J0,M⟩:∃J:List AV->List BA->Nat->Prop,J=fun vs bl k=>∃(o:List UInt32) (n c' i':Nat) (c L i:Int),vs=[.one (.sl .u32 x),.one (.sl .u32 y),.one (.BI .u32 19 0 0 n),.one (.int .u64 c),.one (.sl .u32 x),.one (.int .i64 L),.one (.int .i64 i)]/\
   bl=[.arr 0 .u32 o]/\(n=o.length/\o.length=i'/\EY L x.length/\BG i i'/\i'<=x.length/\BG c c'/\c'<=1)/\
   AQ o+2^(32*i')*c'=AQ (x.take i')+AQ (y.take i')/\k=x.length-i':=⟨_,rfl⟩
  refine⟨[0,1,5,6,20,21,22],[19],J0,⟨x.length-0,by rw[M];exact⟨Y,X,0,0,0,aC,0,rfl,rfl,⟨by rw[v,List.length_replicate],by rw[v,List.length_replicate,O];rfl,W,Bv 0,by omega,Bv 0,by omega⟩,by rw[v,O];simp[AQ],rfl⟩⟩,?_⟩;intro vs bl aV hj;rw[M] at hj;obtain⟨o,n,c',i',c,L,i,rfl,rfl,⟨hn,ho,hL,hi,aT,hc,aS⟩,hinv,r⟩:=hj;conv=>cbv
  have eL:=hL.eq;have ei:=hi.eq;have ec:=hc.eq;intro aD a8;conv=>cbv
  cases aD <;> conv=>cbv
  ·have ay:=BX a8;intro E5 ai;conv=>cbv
   refine .inr ?_;cases E5 <;> conv=>cbv
   ·have aA:=Ct ai;have r:i'=x.length:=by omega
    have g:AQ o=p+q:=by rw[r,FD (Nat.le_refl _),FD al,hx,hy,Br,Br,show c'=0 by omega] at hinv;omega
    exact AF ⟨⟨rfl,.inr (.inl ⟨_,_,by decide,rfl,rfl,hn,rfl,E8 (by rw[hz,<-N];exact (YS g (by rw[ho,r,hx])).symm) (by rw[an,hz,<-N,<-YS g (by rw[ho,r,hx])])⟩),trivial⟩,trivial⟩
   have aA:=Cu ai;intro aF aj;conv=>cbv
   have aj:=wrap_u32 aj;obtain⟨A,H⟩:=Cy (n:=aF) (by omega);have aH:=H.eq;have aI:=H.lt;refine⟨[A],fun _=>⟨rfl,by decide,rfl,⟨rfl,Cv H,trivial⟩⟩,.inl ?_⟩;try conv=>cbv
   refine .inl ⟨[A],fun _=>⟨rfl,by (first | rfl | omega),⟨_,rfl,by simp <;> omega,by simp⟩,by show (o.length+1)*4<=140737488355328;(try simp only[List.length_take,List.length_drop]);omega⟩,?_⟩;intro (ao:List UInt32) aG V;have Q:ao=(o:List UInt32)++([A]:List UInt32):=V.1;have ak:aG=List.length (α:=UInt32) ao:=V.2;conv=>cbv
   have r:i'=x.length:=by omega
   have g:AQ (o++[A])=p+q:=by rw[Fk,show A.toNat=c' by omega,ho,<-Br p,<-Br q,<-hx,<-hy];rw[r,FD (Nat.le_refl _),FD al] at hinv;rw[r];exact hinv
   have hw:A.toNat≠0:=by omega
   exact AF ⟨⟨rfl,.inr (.inl ⟨_,_,by decide,rfl,rfl,ak,rfl,E8 (by rw[hz,<-N,<-g,TO hw,Q]) (by rw[an,hz,<-N,<-g,TO hw,Q])⟩),trivial⟩,trivial⟩
  have ay:=BY a8;refine .inr ?_;obtain⟨a2,I⟩:=Ao (l:=x) (i:=i') (by omega);refine⟨a2,fun _=>⟨by omega,by rw[show (i).toNat=i' by omega];exact I⟩,?_⟩;try conv=>cbv
  intro b0 aa;have aO:=aa.eq;have f26:=aa.lt;conv=>cbv
  intro b1 ab;conv=>cbv
  have ab:=wrap_u64 ab;intro aq ad;conv=>cbv
  have ad:=wrap_u64 ad;rintro b2 ⟨aP,f33⟩;conv=>cbv
  intro aE ae;conv=>cbv
  refine .inr ?_;cases aE <;> conv=>cbv
  ·have az:=BX ae;intro Z B;conv=>cbv
   have B:=wrap_u32 B;obtain⟨f,d⟩:=Cy (n:=Z) (by omega);have a5:=d.eq;have a6:=d.lt;refine⟨[f],fun _=>⟨rfl,by decide,rfl,⟨rfl,Cv d,trivial⟩⟩,.inl ?_⟩;try conv=>cbv
   refine .inl ⟨[f],fun _=>⟨rfl,by (first | rfl | omega),⟨_,rfl,by simp <;> omega,by simp⟩,by show (o.length+1)*4<=140737488355328;(try simp only[List.length_take,List.length_drop]);omega⟩,?_⟩;intro (t:List UInt32) K j;have h:t=(o:List UInt32)++([f]:List UInt32):=j.1;have G:K=List.length (α:=UInt32) t:=j.2;conv=>cbv
   intro u D;conv=>cbv
   refine AY ?_;have D:=Fv (p:=4294967296) D rfl;intro a1 aw;conv=>cbv
   refine Ah ?_;refine⟨x.length-(i'+1),?_,?_⟩
   ·omega
   rw[M];refine⟨t,K,u.toNat,i'+1,u,L,a1,rfl,rfl,⟨G,by rw[h];simp;omega,hL,⟨by omega⟩,by omega,⟨by omega⟩,by omega⟩,?_,rfl⟩;rw[h,DL I,FD (l:=y) (i:=i'+1) (by omega)];have hs:=QO (xi:=a2.toNat) (yi:=0) (s:=aq.toNat) (w:=f) ho hinv (by omega) (by omega);rw[show u.toNat=aq.toNat/4294967296 by omega];rw[hs];rw[FD (l:=y) (i:=i') (by omega)];omega
  have az:=BY ae;obtain⟨au,R⟩:=Ao (l:=y) (i:=i') (by omega);refine⟨au,fun _=>⟨by omega,by rw[show (i).toNat=i' by omega];exact R⟩,?_⟩;try conv=>cbv
  intro b3 af;have aQ:=af.eq;have f39:=af.lt;conv=>cbv
  intro b4 ag;conv=>cbv
  have ag:=wrap_u64 ag;intro ar ah;conv=>cbv
  have ah:=wrap_u64 ah;intro Z B;conv=>cbv
  have B:=wrap_u32 B;obtain⟨f,d⟩:=Cy (n:=Z) (by omega);have a5:=d.eq;have a6:=d.lt;refine⟨[f],fun _=>⟨rfl,by decide,rfl,⟨rfl,Cv d,trivial⟩⟩,.inl ?_⟩;try conv=>cbv
  refine .inl ⟨[f],fun _=>⟨rfl,by (first | rfl | omega),⟨_,rfl,by simp <;> omega,by simp⟩,by show (o.length+1)*4<=140737488355328;(try simp only[List.length_take,List.length_drop]);omega⟩,?_⟩;intro (t:List UInt32) K j;have h:t=(o:List UInt32)++([f]:List UInt32):=j.1;have G:K=List.length (α:=UInt32) t:=j.2;conv=>cbv
  intro u D;conv=>cbv
  refine AY ?_;have D:=Fv (p:=4294967296) D rfl;intro a1 aw;conv=>cbv
  refine Ah ?_;refine⟨x.length-(i'+1),?_,?_⟩
  ·omega
  rw[M];refine⟨t,K,u.toNat,i'+1,u,L,a1,rfl,rfl,⟨G,by rw[h];simp;omega,hL,⟨by omega⟩,by omega,⟨by omega⟩,by omega⟩,?_,rfl⟩;rw[h,DL I,DL R];have hs:=QO (xi:=a2.toNat) (yi:=au.toNat) (s:=ar.toNat) (w:=f) ho hinv (by omega) (by omega);rw[show u.toNat=ar.toNat/4294967296 by omega];rw[hs]
 cases aB <;> conv=>cbv
 ·have ax:=BX a7;rw[F];exact⟨a,b,_,_,rfl,hl,hm,rfl,by omega,by omega⟩
 have ax:=BY a7;rw[F];exact⟨b,a,_,_,rfl,hm,hl,Nat.add_comm _ _,by omega,by omega⟩
theorem bg (d:l=BH a) (hm:m=BH b) (f:z=BH (a+b)) (sl:l.length<=17592186044416) (g:m.length<=17592186044416):CF 371 [.one (.sl .u32 l),.one (.sl .u32 m)] (.one (.sl .u32 z)):=Ek (bh d hm f rfl sl g)
end Go.Abs
namespace Go.Abs
open Go.RowKit
variable {b:Bool} {l z:List UInt32} {x:Int}
theorem Gt {n:Bool} (o:x=if n=true then -(AQ l:Int) else AQ l) (h:BZ x b z):CF 292 [.one (.bool n),.one (.sl .u32 l)] (.agg (B3 b z)):=by
 refine Av Tryz.func292 fun E t=>?_
 conv=>cbv
 obtain⟨v,d⟩:=xU (BH (AQ l));refine AB t (GU rfl d) ?_;conv=>cbv
 intro B g;have A:=g.eq;have f8:=g.le;conv=>cbv
 intro u k;conv=>cbv
 cases u <;> conv=>cbv
 ·have r:=BR k;have j:AQ l≠0:=fun e=>r (by have:=g.eq;rw[d,e] at this;exact this)
  have f:BZ x n v:= .val d.symm o (fun e=>absurd e j);exact AF ⟨⟨rfl,congrArg _ ((f.uniq h rfl).1.symm),congrArg _ ((f.uniq h rfl).2.symm),trivial⟩,trivial⟩
 have r:=BS k;have j:AQ l=0:=by have e:=g.eq;rw[d] at e;exact G3.1 (List.length_eq_zero_iff.1 (by omega))
 have f:BZ x false []:= .val (n:=0) rfl (by rw[o,j];simp) (fun _=>rfl);exact AF ⟨⟨rfl,congrArg _ ((f.uniq h rfl).1.symm),.inr (.inl ⟨_,congrArg _ ((f.uniq h rfl).2.symm)⟩),trivial⟩,trivial⟩
theorem Md {n:Int} {k:Nat} (H:BG n k) (M:k<18446744073709551616) (I:z=BH k):CF 293 [.one (.int .u64 n)] (.one (.sl .u32 z)):=by
 have L:=H.eq;refine Av Tryz.func293 fun E G=>?_
 conv=>cbv
 intro n4 A;conv=>cbv
 have A:=wrap_u32 A;intro N B;conv=>cbv
 refine AY ?_;have B:=Fv (p:=4294967296) B rfl;intro K D;conv=>cbv
 have D:=wrap_u32 D;obtain⟨g,d⟩:=Cy (n:=n4) (by omega);have r:=d.eq;have u:=d.lt;obtain⟨h,f⟩:=Cy (n:=K) (by omega);have t:=f.eq;have v:=f.lt;refine⟨[g,h],fun _=>⟨rfl,by decide,rfl,⟨rfl,Cv d,⟨rfl,Cv f,trivial⟩⟩⟩,.inl ?_⟩;try conv=>cbv
 obtain⟨J,j⟩:=xN ((Cr ([g,h].take 2)).length);obtain⟨F,o⟩:=GC (by simp) j;refine .inr (.inr (.inl ⟨[],.one (.BI .u32 0 0 0 J),.arr 0 .u32 [g,h],fun _=>⟨by first | decide | simp[DD,DI],trivial⟩,fun _=>⟨Fb G (NX (by simp) (by simp) j),rfl,rfl⟩,?_⟩));try conv=>cbv
 exact AF ⟨⟨rfl,.inl ⟨_,rfl,by simp;omega,congrArg _ (by rw[List.drop_zero,o,I];congr 1;simp[AQ];omega)⟩,trivial⟩,trivial⟩
theorem MA (j:z=l) (v:l.length<=17592186044416):CF 291 [.one (.sl .u32 l)] (.one (.sl .u32 z)):=by
 refine Av Tryz.func291 fun E u=>?_
 conv=>cbv
 intro n4 r;conv=>cbv
 refine⟨fun o=>?_,?_⟩
 ·conv=>cbv
  have g:l=[]:=by rw[r] at o;simpa using o
  exact AF ⟨⟨rfl,.inr (.inl ⟨_,congrArg _ (by rw[j,g])⟩),trivial⟩,trivial⟩
 refine⟨[],fun _=>⟨rfl,by decide,rfl,trivial⟩,.inl ?_⟩;try conv=>cbv
 refine .inl ⟨l,fun _=>⟨rfl,by (first | rfl | omega),rfl,by show (0+l.length)*4<=140737488355328;(try simp only[List.length_take,List.length_drop]);omega⟩,?_⟩;intro (k:List UInt32) t f;have h:k=([]:List UInt32)++(l:List UInt32):=f.1;have d:t=List.length (α:=UInt32) k:=f.2;conv=>cbv
 exact AF ⟨⟨rfl,.inl ⟨_,rfl,by rw[d];simp,congrArg _ (by rw[j,d,h];simp)⟩,trivial⟩,trivial⟩
theorem Pj (H: -9223372036854775808<=x/\x<9223372036854775808) (t:BZ x b z):CF 250 [.one (.int .i64 x)] (.agg (B3 b z)):=by
 refine Av Tryz.func250 fun E o=>?_
 conv=>cbv
 intro I A;conv=>cbv
 have A:=wrap_u64 A;intro G B;conv=>cbv
 refine .inr ?_;cases G <;> conv=>cbv
 ·have F:=BX B;intro u j;conv=>cbv
  obtain⟨v,f⟩:=xU (BH x.natAbs);refine AB o (Md (BG.of (k:=x.natAbs) (by omega)) (by omega) f) ?_;conv=>cbv
  obtain⟨g,h,d⟩:=BU (x);refine AB (r:= .agg [.bool g,.sl .u32 h]) o (Gt (by rw[f,Br,j];simp;omega) d) ?_;try conv=>cbv
  exact AF ⟨⟨rfl,congrArg _ ((d.uniq t rfl).1.symm),congrArg _ ((d.uniq t rfl).2.symm),trivial⟩,trivial⟩
 have F:=BY B;intro J D;conv=>cbv
 have D:=wrap_u64 D;intro u j;conv=>cbv
 obtain⟨v,f⟩:=xU (BH x.natAbs);refine AB o (Md (BG.of (k:=x.natAbs) (by omega)) (by omega) f) ?_;conv=>cbv
 obtain⟨g,h,d⟩:=BU (x);refine AB (r:= .agg [.bool g,.sl .u32 h]) o (Gt (by rw[f,Br,j];simp;omega) d) ?_;try conv=>cbv
 exact AF ⟨⟨rfl,congrArg _ ((d.uniq t rfl).1.symm),congrArg _ ((d.uniq t rfl).2.symm),trivial⟩,trivial⟩
end Go.Abs
