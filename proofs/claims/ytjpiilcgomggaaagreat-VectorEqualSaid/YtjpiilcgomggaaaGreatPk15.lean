/- Part 16 of a proof. Conditions: each theorem's own. -/
import Derived.Test.YtjpiilcgomggaaaGreatPk14
set_option linter.all false
set_option maxHeartbeats 8000000
namespace Go.Abs
noncomputable def Ao (x:Re):Int:=by
 classical
 exact if x<0 then -1 else if x=0 then 0 else 1
theorem DV (x:Re):(x<0/\Ao x= -1)\/(x=0/\Ao x=0)\/(0<x/\Ao x=1):=by
 unfold Ao
 by_cases h:x<0
 ·rw[if_pos h];exact .inl ⟨h,rfl⟩
 rw[if_neg h]
 by_cases c:x=0
 ·rw[if_pos c];exact .inr (.inl ⟨c,rfl⟩)
 rw[if_neg c];exact .inr (.inr ⟨by grind,rfl⟩)
theorem Ev {x:Re} (h:0<x):Ao x=1:=by rcases DV x with⟨a,b⟩ |⟨a,b⟩ |⟨a,b⟩ <;> grind
theorem Ht {x:Re} (h:x<0):Ao x= -1:=by rcases DV x with⟨a,b⟩ |⟨a,b⟩ |⟨a,b⟩ <;> grind
theorem Ew:Ao 0=0:=by rcases DV 0 with⟨a,b⟩ |⟨a,b⟩ |⟨a,b⟩ <;> grind
theorem I6 {x:Re}:Ao x=0↔x=0:=by
 rcases DV x with⟨a,b⟩ |⟨a,b⟩ |⟨a,b⟩ <;> rw[b]
 ·constructor
  ·intro h;omega
  intro h;grind
 ·exact⟨fun _=>a,fun _=>rfl⟩
 constructor
 ·intro h;omega
 intro h;grind
theorem SY (x y:Re):Ao (x*y)=Ao x*Ao y:=by
 rcases DV x with⟨a,b⟩ |⟨a,b⟩ |⟨a,b⟩ <;> rcases DV y with⟨c,d⟩ |⟨c,d⟩ |⟨c,d⟩ <;> rw[b,d]
 ·have:=Re.mul_pos (x:= -x) (y:= -y) (by grind) (by grind);exact Ev (by grind)
 ·rw[c,show x*0=0 by grind];exact Ew
 ·have:=Re.mul_pos (x:= -x) (y:=y) (by grind) (by grind);exact Ht (by grind)
 ·rw[a,show 0*y=0 by grind];exact Ew
 ·rw[a,show 0*y=0 by grind];exact Ew
 ·rw[a,show 0*y=0 by grind];exact Ew
 ·have:=Re.mul_pos (x:=x) (y:= -y) (by grind) (by grind);exact Ht (by grind)
 ·rw[c,show x*0=0 by grind];exact Ew
 exact Ev (Re.mul_pos a c)
theorem SX (x y:Re): -9223372036854775808<=Ao x*Ao y/\Ao x*Ao y<9223372036854775808:=by
 rcases DV x with⟨a,b⟩ |⟨a,b⟩ |⟨a,b⟩ <;> rcases DV y with⟨c,d⟩ |⟨c,d⟩ |⟨c,d⟩ <;> rw[b,d] <;> decide
section
variable {p q s ρ:Re}
theorem Kv (f:0<s) (h:q=0\/Ao p=Ao q):Ao (p+q*s)=Ao p:=by
 rcases h with h | h
 ·rw[h,show p+0*s=p by grind]
 rcases DV p with⟨a,b⟩ |⟨a,b⟩ |⟨a,b⟩ <;> rcases DV q with⟨c,d⟩ |⟨c,d⟩ |⟨c,d⟩ <;> rw[b,d] at h <;> try omega
 ·have:=Re.mul_pos (x:= -q) (y:=s) (by grind) f;rw[b];exact Ht (by grind)
 ·rw[b,a,c,show (0:Re)+0*s=0 by grind];exact Ew
 have:=Re.mul_pos (x:=q) (y:=s) c f;rw[b];exact Ev (by grind)
theorem Sf (c:0<s) (h:p=0):Ao (p+q*s)=Ao q:=by
 rw[h,show 0+q*s=q*s by grind,SY,Ev c,Int.mul_one]
theorem Se (f:0<s) (k:s*s=ρ) (g:p≠0) (j:q≠0) (h:Ao p≠Ao q):Ao (p+q*s)=Ao p*Ao (p*p-q*q*ρ):=by
 have e:p*p-q*q*ρ=(p-q*s)*(p+q*s):=by rw[<-k];grind
 rw[e,SY];rcases DV p with⟨a,b⟩ |⟨a,b⟩ |⟨a,b⟩ <;> rcases DV q with⟨c,d⟩ |⟨c,d⟩ |⟨c,d⟩ <;> rw[b,d] at h <;> first | (exact absurd rfl h) | (exact absurd a g) | (exact absurd c j) | skip
 ·have:=Re.mul_pos (x:=q) (y:=s) c f;rw[b,Ht (x:=p-q*s) (by grind)];omega
 have:=Re.mul_pos (x:= -q) (y:=s) (by grind) f;rw[b,Ev (x:=p-q*s) (by grind)];omega
end
theorem SZ (q:Rat):Ao (Re.ofRat q)=C1 q:=by
 have c:(0:Re)=Re.ofRat 0:=rfl;have d:C1 q=BO q.num:=rfl;rw[d];rcases Dj q.num with⟨a,b⟩ |⟨a,b⟩ |⟨a,b⟩ <;> rw[b]
 ·exact Ht (by rw[c,Re.FH];rw[Rat.lt_iff];simp;exact a)
 ·rw[Rat.num_eq_zero.1 a];exact Ew
 exact Ev (by rw[c,Re.FH];rw[Rat.lt_iff];simp;exact a)
def VV:Nat->Nat->Nat->Nat
 | 0,_,s=>s
 | h+1,R,s=>VV h R (2*s+2*EE h R+R+1)
theorem FQ:∀(h R:Nat) {s t:Nat},s<=t->VV h R s<=VV h R t
 | 0,_,_,_,h=>h
 | h+1,R,_,_,c=>FQ h R (by omega)
theorem Dn:∀(h R s:Nat),s<=VV h R s
 | 0,_,_=>Nat.le_refl _
 | h+1,R,s=>Nat.le_trans (by omega) (Dn h R (2*s+2*EE h R+R+1))
theorem OH (h R s:Nat):VV h R s<=VV (h+1) R s:=FQ h R (by omega)
theorem H9 {i h:Nat} (d:i<=h) (R s:Nat):VV i R s<=VV h R s:=by
 induction h with
 | zero=>rw[Nat.le_zero.1 d];exact Nat.le_refl _
 | succ h f=>
  rcases Nat.lt_or_ge i (h+1) with c | c
  ·exact Nat.le_trans (f (by omega)) (OH h R s)
  rw[show i=h+1 by omega];exact Nat.le_refl _
def pre (u:List (List Rat)) (i:Nat):List (List Rat):=u.drop (u.length-i)
theorem GO {u:List (List Rat)} {i:Nat} (h:i<=u.length):(pre u i).length=i:=by rw[pre,List.length_drop];omega
theorem Fi {u:List (List Rat)} {i:Nat}:(tw u).take i=tw (pre u i):=by
 rw[tw,tw,pre,<-List.map_take,List.reverse_drop]
 by_cases h:i<=u.length
 ·rw[show u.length-(u.length-i)=i by omega]
 rw[show u.length-i=0 by omega,Nat.sub_zero,List.take_of_length_le (by rw[List.length_reverse];omega),List.take_of_length_le (by rw[List.length_reverse];omega)]
theorem Rq (u:List (List Rat)):pre u u.length=u:=by rw[pre,Nat.sub_self,List.drop_zero]
theorem GP {u:List (List Rat)} {i:Nat} (h:i<u.length):∃r,pre u (i+1)=r::pre u i/\(tw u)[i]? =some (AW r):=by
 refine⟨u[u.length-(i+1)]'(by omega),?_,?_⟩
 ·rw[pre,pre,List.drop_eq_getElem_cons (by omega),show u.length-(i+1)+1=u.length-i by omega]
 rw[tw,List.getElem?_map,List.getElem?_reverse h,show u.length-1-i=u.length-(i+1) by omega,List.getElem?_eq_getElem (by omega)];rfl
theorem Rx:∀{u:List (List Rat)} (n:Nat),AQ u->AQ (u.drop n)
 |u,0,h|[],_+1,h=>h
 | _::u,n+1,h=>Rx n h.1
theorem AU.pre {R:Nat} {u:List (List Rat)} (h:AU R u) (i:Nat):AU R (pre u i):=
 ⟨Rx _ h.red,fun r c=>h.tb r (List.mem_of_mem_drop c),h.hR,by have:=h.ht;rw[Go.Abs.pre,List.length_drop];omega⟩
def QQ:Nat->Nat->Nat->Nat
 | 0,_,s=>s
 | h+1,R,s=>max (QQ h R (3*s+3*EE h R+R+GG h R+3+II h R R)) (s+II h R (2*(3*s+3*EE h R+R+GG h R+3+II h R R+GG h R)+1)+EE h R)
theorem Ga:∀(h R:Nat) {s t:Nat},s<=t->II h R s<=II h R t
 | 0,_,_,_,h=>by rw[II,II];omega
 | h+1,R,s,t,c=>by
  have:=Ga h R (s:=2*s+2*EE h R+R+1) (t:=2*t+2*EE h R+R+1) (by omega);rw[II,II];omega
theorem JH:∀(h R:Nat) {s t:Nat},s<=t->QQ h R s<=QQ h R t
 | 0,_,_,_,h=>h
 | h+1,R,s,t,f=>by
  have c:=JH h R (s:=3*s+3*EE h R+R+GG h R+3+II h R R) (t:=3*t+3*EE h R+R+GG h R+3+II h R R) (by omega);have d:=Ga h R (s:=2*(3*s+3*EE h R+R+GG h R+3+II h R R+GG h R)+1) (t:=2*(3*t+3*EE h R+R+GG h R+3+II h R R+GG h R)+1) (by omega);rw[QQ,QQ];omega
theorem FO:∀(h R s:Nat),s<=QQ h R s
 | 0,_,_=>Nat.le_refl _
 | h+1,R,s=>by have:=FO h R (3*s+3*EE h R+R+GG h R+3+II h R R);rw[QQ];omega
theorem T5 (h R s:Nat):QQ h R s<=QQ (h+1) R s:=by
 have:=JH h R (s:=s) (t:=3*s+3*EE h R+R+GG h R+3+II h R R) (by omega);rw[QQ];omega
theorem T4 {i h:Nat} (d:i<=h) (R s:Nat):QQ i R s<=QQ h R s:=by
 induction h with
 | zero=>rw[Nat.le_zero.1 d];exact Nat.le_refl _
 | succ h f=>
  rcases Nat.lt_or_ge i (h+1) with c | c
  ·exact Nat.le_trans (f (by omega)) (T5 h R s)
  rw[show i=h+1 by omega];exact Nat.le_refl _
structure Fit (h R s:Nat):Prop where
 q:QQ h R s<=60000000000000
 v:VV h R (s+GG h R)<=60000000000000
 qR:QQ h R R<=60000000000000
 vR:VV h R R<=60000000000000
theorem Fit.v0 {h R s:Nat} (f:Fit h R s):VV h R s<=60000000000000:=Nat.le_trans (FQ h R (by omega)) f.v
theorem Fit.s {h R s:Nat} (f:Fit h R s):s<=60000000000000:=Nat.le_trans (FO h R s) f.q
theorem Fit.mono {h R s t:Nat} (f:Fit h R s) (ht:t<=s):Fit h R t:=⟨Nat.le_trans (JH h R ht) f.q,Nat.le_trans (FQ h R (by omega)) f.v,f.qR,f.vR⟩
end Go.Abs
namespace Go.Abs
def Av (u w:List (List Rat)):Prop:=∀x,In u x->In w x
theorem Av.refl (u:List (List Rat)):Av u u:=fun _ h=>h
theorem Av.trans {u v w:List (List Rat)} (h:Av u v) (k:Av v w):Av u w:=fun x hx=>k x (h x hx)
theorem Jt:∀(v:List (List Rat)) {u:List (List Rat)},Av u (v++u)
 | [],u=>Av.refl u
 | _::v,_=>fun x hx=>FZ (Jt v x hx)
theorem IV {u w:List (List Rat)} (h:u<:+w):Av u w:=by
 obtain⟨v,rfl⟩:=h;exact Jt v
theorem Av.tail {u w:List (List Rat)} {r:List Rat} (h:Av (r::u) w):Av u w:=fun x hx=>h x (FZ hx)
theorem Av.root {u w:List (List Rat)} {r:List Rat} (h:Av (r::u) w):In w (rt u r):=h _ (GD u r)
theorem QE {u w:List (List Rat)} {r:List Rat} (hw:AQ w) (h:Av u w) (f:In w (rt u r)):Av (r::u) w:=fun x hx=>by
 obtain⟨p,q,c,d,rfl⟩:=Bo.1 hx;exact B3 (h p c) (Ab hw (h q d) f)
theorem Wf (w:List (List Rat)):Av [] w:=fun x hx=>by
 obtain⟨q,rfl⟩:=Bb.1 hx;exact FY q w
noncomputable def Aa (u:List (List Rat)) (v:Re):List (List Rat):=by
 classical
 exact if Sq u v then u else co u v::u
theorem CY {u:List (List Rat)} {v:Re} (h:Sq u v):Aa u v=u:=by unfold Aa;rw[if_pos h]
theorem C4 {u:List (List Rat)} {v:Re} (h:¬Sq u v):Aa u v=co u v::u:=by unfold Aa;rw[if_neg h]
theorem HE (u:List (List Rat)) (v:Re):u<:+Aa u v:=by
 by_cases h:Sq u v
 ·rw[CY h];exact List.suffix_refl u
 rw[C4 h];exact List.suffix_cons _ _
theorem Kj {u:List (List Rat)} {v:Re} (h:AQ u) (c:In u v) (d:0<v) (f:¬Sq u v):AQ (co u v::u):=
 ⟨h,B6 c,by rw[DA c];exact d,by rw[DA c];exact f⟩
theorem NC {u:List (List Rat)} {v:Re} (h:AQ u) (f:In u v) (d:0<v):AQ (Aa u v):=by
 by_cases c:Sq u v
 ·rw[CY c];exact h
 rw[C4 c];exact Kj h f d c
theorem Gs {u:List (List Rat)} {v:Re} (c:In u v):rt u (co u v)=Re.sqrt v:=by rw[rt,DA c]
theorem Hv {u:List (List Rat)} {v:Re} (c:0<=v):Sq u v↔In u (Re.sqrt v):=by
 constructor
 ·rintro⟨w,hw,e⟩
  have f:=Re.CB c;have d:=Re.DO v
  by_cases h:0<=w
  ·rw[<-Re.Fq h d (by rw[e,f])];exact hw
  rw[<-Re.Fq (x:= -w) (by grind) d (by rw[f,<-e];grind)];exact FD hw
 intro h;exact⟨_,h,Re.CB c⟩
theorem Lk {u:List (List Rat)} {v:Re} (f:In u v) (d:0<=v):In (Aa u v) (Re.sqrt v):=by
 by_cases c:Sq u v
 ·rw[CY c];exact (Hv d).1 c
 rw[C4 c,<-Gs f];exact GD u _
noncomputable def ext (t:List (List Rat)):List (List Rat)->List (List Rat)
 | []=>t
 | r::u=>Aa (ext t u) (AI u r)
theorem QG (t:List (List Rat)):∀u,t<:+ext t u
 | []=>List.suffix_refl t
 | r::u=>List.IsSuffix.trans (QG t u) (HE _ _)
theorem GS {t:List (List Rat)} (ht:AQ t):∀{u:List (List Rat)},AQ u->AQ (ext t u)/\Av u (ext t u)
 | [],_=>⟨ht,Wf _⟩
 | r::u,hu=>by
  obtain⟨h,c⟩:=GS ht hu.1;have f:=c _ (Bg hu);have g:=hu.2.2.1;have d:=NC h f g;exact⟨d,QE d (c.trans (IV (HE _ _))) (Lk f (by grind))⟩
open Classical in
noncomputable def CJ (t u:List (List Rat)):List (List Rat):=if u<:+t then t else if t<:+u then u else ext t u
theorem Ya {t u:List (List Rat)} (ht:AQ t) (hu:AQ u):AQ (CJ t u)/\Av t (CJ t u)/\Av u (CJ t u):=by
 unfold CJ
 split
 ·rename_i h;exact⟨ht,Av.refl t,IV h⟩
 split
 ·rename_i h;exact⟨hu,IV h,Av.refl u⟩
 obtain⟨c,d⟩:=GS ht hu;exact⟨c,IV (QG t u),d⟩
theorem join_self (t:List (List Rat)):CJ t t=t:=by unfold CJ;rw[if_pos (List.suffix_refl t)]
theorem QA:∀(v:List (List Rat)) {u:List (List Rat)} {x:Re},AQ (v++u)->In u x->em (v++u) x=em u x++List.replicate (2^(v++u).length-2^u.length) (rp 0)
 | [],u,x,h,hx=>by simp
 | r::v,u,x,h,hx=>by
  have c:=Jt v x hx;have k:=QA v h.1 hx;have f:2^u.length<=2^(v++u).length:=Bh (by simp);have e:em (r::v++u) x=em (v++u) x++em (v++u) 0:=DI h c (BM _) (by grind);have j:em (v++u) 0=AW (List.replicate (2^(v++u).length) 0):=MD h.1;rw[e,k,j,AW,List.map_replicate,List.append_assoc,List.replicate_append_replicate];have g:2^(r::v++u).length=2^(v++u).length+2^(v++u).length:=BE r (v++u);have d:∀a b:Nat,b<=a->a-b+a=a+a-b:=fun a b h=>by omega
  rw[g,<-d _ _ f]
theorem QD {u w:List (List Rat)} {x:Re} (h:u<:+w) (hw:AQ w) (hx:In u x):em w x=em u x++List.replicate (2^w.length-2^u.length) (rp 0):=by
 obtain⟨v,rfl⟩:=h;exact QA v hw hx
theorem Fj {u w:List (List Rat)} (h:u<:+w) (hw:AQ w):AQ u:=by
 obtain⟨v,rfl⟩:=h
 induction v with
 | nil=>exact hw
 | cons r v c=>exact c hw.1
structure Gam (T:List (List Rat)->Prop) (R C S:Nat):Prop where
 AN:∀{u},T u->AU R u
 ht:∀{u},T u->u.length<=8
 nil:T []
 sub:∀{r u},T (r::u)->T u
 Aa:∀{t r u},T t->T (r::u)->Av u t->T (Aa t (AI u r))
 BA:∀{u w s x},T u->T w->Av u w->El u s x->El w (s+C) x
 fit:∀{u},T u->Fit u.length R (S+C)
 mul:∀{u},T u->2*(S+C)+EE u.length R<=60000000000000
 RS:R<=S
section
variable {T:List (List Rat)->Prop} {R C S:Nat}
theorem Gam.GX (G:Gam T R C S) {u w:List (List Rat)} (h:u<:+w) (hw:T w):T u:=by
 obtain⟨v,rfl⟩:=h
 induction v with
 | nil=>exact hw
 | cons r v c=>exact c (G.sub hw)
theorem Gam.ext (G:Gam T R C S) {t:List (List Rat)} (ht:T t):∀{u:List (List Rat)},T u->T (ext t u)
 | [],_=>ht
 | r::u,hu=>G.Aa (G.ext ht (G.sub hu)) hu (GS (G.AN ht).red (G.AN (G.sub hu)).red).2
theorem Gam.join (G:Gam T R C S) {t u:List (List Rat)} (ht:T t) (hu:T u):T (CJ t u):=by
 unfold CJ
 split
 ·exact ht
 split
 ·exact hu
 exact G.ext ht hu
end
theorem F6 {u:List (List Rat)} {r:List Rat} (h:AQ (r::u)):El (r::u) 0 (rt u r):=by
 have c:El u 0 0:=El.rat h.1 EK;have d:El u 0 1:=El.rat h.1 Vw;have:=PF h c.mem d.mem c.bd d.bd;rw[show (0:Re)+1*rt u r=rt u r by grind] at this;exact⟨GD u r,this⟩
end Go.Abs
namespace Go.Abs
theorem Ft:∀{h h' R R':Nat},h<=h'->R<=R'->EE h R<=EE h' R'
 | 0,h',R,R',_,_=>Nat.zero_le _
 | h+1,0,R,R',c,_=>absurd c (by omega)
 | h+1,h'+1,R,R',c,hR=>by
  have:=Ft (h:=h) (h':=h') (by omega) hR;rw[EE,EE];omega
theorem N2:∀{h h' R R' s s':Nat},h<=h'->R<=R'->s<=s'->II h R s<=II h' R' s'
 | 0,0,R,R',s,s',_,_,d=>by rw[II,II];omega
 | 0,h'+1,R,R',s,s',_,_,d=>by
  have:=C3 h' R' (2*s'+2*EE h' R'+R'+1);rw[II,II];omega
 | h+1,0,R,R',s,s',c,_,_=>absurd c (by omega)
 | h+1,h'+1,R,R',s,s',c,hR,d=>by
  have f:=Ft (h:=h) (h':=h') (by omega) hR;have g:=N2 (h:=h) (h':=h') (s:=2*s+2*EE h R+R+1) (s':=2*s'+2*EE h' R'+R'+1) (by omega) hR (by omega);rw[II,II];omega
theorem JD:∀{h h' R R':Nat},h<=h'->R<=R'->GG h R<=GG h' R'
 | 0,h',R,R',_,_=>by rw[GG];exact Nat.zero_le _
 | h+1,0,R,R',c,_=>absurd c (by omega)
 | h+1,h'+1,R,R',c,hR=>by
  have d:=Ft (h:=h) (h':=h') (by omega) hR;have f:=JD (h:=h) (h':=h') (by omega) hR;have g:=N2 (h:=h) (h':=h') (s:=R) (s':=R') (by omega) hR hR;rw[GG,GG];omega
def CC:Nat->Nat->Nat->Nat->Nat
 | 0,_,_,_=>0
 | k+1,R0,h,R=>2*CC k R0 h R+R0+GG h R+EE h R+1
theorem LM:∀{k k' R0 H5 h h' R R':Nat},k<=k'->R0<=H5->h<=h'->R<=R'->CC k R0 h R<=CC k' H5 h' R'
 | 0,k',_,_,_,_,_,_,_,_,_,_=>by rw[CC];exact Nat.zero_le _
 | k+1,0,_,_,_,_,_,_,d,_,_,_=>absurd d (by omega)
 | k+1,k'+1,R0,H5,h,h',R,R',d,f,c,hR=>by
  have g:=LM (k:=k) (k':=k') (by omega) f c hR;have j:=Ft c hR;have l:=JD c hR;rw[CC,CC];omega
theorem WZ {D:Nat} {q:Rat} {n:Nat} (h:DN D [q]):DN D (q::List.replicate n 0):=fun z c=>by
 rcases List.mem_cons.1 c with rfl | c
 ·exact h _ List.mem_cons_self
 rw[List.eq_of_mem_replicate c];exact⟨0,by simp⟩
theorem Xs {B:Nat} {q:Rat} {n:Nat} (h:MX B [q]):MX B (q::List.replicate n 0):=fun z c=>by
 rcases List.mem_cons.1 c with rfl | c
 ·exact h _ List.mem_cons_self
 rw[List.eq_of_mem_replicate c];have:(0:Rat)<=B:=Rat.natCast_nonneg
 constructor <;> grind
theorem PE {w:List (List Rat)} {R:Nat} (hw:AQ w) (hT:TB R w):∀{u:List (List Rat)} {R0:Nat},AQ u->TB R0 u->Av u w->∃K:Nat,0<K/\K<=2^CC u.length R0 w.length R/\
  ∀{x:Re} {D B:Nat},In u x->(DN D (co u x)->DN (D*K) (co w x))/\(MX B (co u x)->MX (B*2^CC u.length R0 w.length R) (co w x))
 | [],R0,_,_,_=>⟨1,by decide,by simp[CC],fun {x D B} hx=>by
  obtain⟨q,rfl⟩:=Bb.1 hx;rw[Bn,HK q hw,Nat.mul_one];refine⟨WZ,fun h=>?_⟩;rw[show B*2^CC ([]:List (List Rat)).length R0 w.length R=B by simp[CC]];exact Xs h⟩
 | r::u,R0,h,Q,l=>by
  obtain⟨K,V,f,g⟩:=PE hw hT h.1 Q.tail l.tail;obtain⟨E,A,G,hm⟩:=HP hw hT;obtain⟨O,v,y,z,L⟩:=Q.head;have Y:=Bk h;have M:=Bg h;have c:=l.root;have b1:=g (D:=O) (B:=2^R0) M;rw[EM h] at b1
  have Z:Bd (R0+CC u.length R0 w.length R) (co w (AI u r)):=by
   refine⟨O*K,Nat.mul_pos v V,?_,b1.1 z,?_⟩
   ·rw[Nat.pow_add];exact Nat.mul_le_mul y f
   rw[Nat.pow_add];exact b1.2 L
  obtain⟨F,X,I,H,J⟩:=PJ hw hT c Y Z;refine⟨K*(F*E),Nat.mul_pos V (Nat.mul_pos X A),?_,fun {x D B} hx=>?_⟩
  ·have U:=Nat.mul_le_mul f (Nat.mul_le_mul I G);simp only[<-Nat.pow_add] at U;exact Nat.le_trans U (Bh (by rw[List.length_cons,CC];omega))
  obtain⟨p,q,o,t,rfl⟩:=Bo.1 hx;rw[CT h o t rfl,DN.app,MX.app];have k:=l.tail _ o;have d:=l.tail _ t;refine⟨fun j=>?_,fun j=>?_⟩
  ·have k1:=(g (B:=0) o).1 j.1;have k2:=(g (B:=0) t).1 j.2;have N:=hm d c k2 H;exact DN.E1 hw k (Ab hw d c) (k1.dvd ⟨F*E,by grind⟩) (N.dvd ⟨1,by grind⟩)
  have k1:=(g (D:=0) o).2 j.1;have k2:=(g (D:=0) t).2 j.2;have N:=Fc hw hT d c k2 J;refine (MX.E1 hw k (Ab hw d c) k1 N).mono ?_
  have e:B*2^CC u.length R0 w.length R*2^(R0+CC u.length R0 w.length R+GG w.length R)*2^EE w.length R=B*2^(CC u.length R0 w.length R+(R0+CC u.length R0 w.length R+GG w.length R)+EE w.length R):=by
   rw[Nat.mul_assoc,Nat.mul_assoc,<-Nat.pow_add,<-Nat.pow_add];congr 2;omega
  rw[e,<-Nat.mul_add];refine Nat.mul_le_mul_left B ?_;have W:CC (r::u).length R0 w.length R=CC u.length R0 w.length R+(R0+CC u.length R0 w.length R+GG w.length R)+EE w.length R+1:=by rw[List.length_cons,CC];omega
  have h3:2^CC u.length R0 w.length R<=2^(CC u.length R0 w.length R+(R0+CC u.length R0 w.length R+GG w.length R)+EE w.length R):=Bh (by omega);rw[W,Nat.pow_succ];omega
theorem El.BA {w u:List (List Rat)} {R R0 s:Nat} {x:Re} (hw:AQ w) (hT:TB R w) (hu:AQ u) (g:TB R0 u) (d:Av u w) (hx:El u s x):El w (s+CC u.length R0 w.length R) x:=by
 obtain⟨K,o,c,f⟩:=PE hw hT hu g d;obtain⟨D,h,j,k,l⟩:=hx.bd;refine⟨d _ hx.mem,D*K,Nat.mul_pos h o,?_,(f (B:=0) hx.mem).1 k,?_⟩
 ·rw[Nat.pow_add];exact Nat.mul_le_mul j c
 rw[Nat.pow_add];exact (f (D:=0) hx.mem).2 l
inductive Tf (P:List (List Rat)->Prop):List (List Rat)->Prop
 | nil:Tf P []
 | Aa {u:List (List Rat)} {r0:List Rat} {u0:List (List Rat)}:Tf P u->P (r0::u0)->Av u0 u->Tf P (Aa u (AI u0 r0))
structure D3 (P:List (List Rat)->Prop) (R0:Nat):Prop where
 red:∀{u},P u->AQ u
 tb:∀{u},P u->TB R0 u
 sub:∀{r u},P (r::u)->P u
section
variable {P:List (List Rat)->Prop} {R0:Nat}
theorem Tf.red (I:D3 P R0) {u:List (List Rat)} (h:Tf P u):AQ u:=by
 induction h with
 | nil=>trivial
 | Aa _ c d f=>exact NC f (d _ (Bg (I.red c))) (I.red c).2.2.1
theorem Ox {u:List (List Rat)} {r:List Rat} (h:AQ (r::u)):Aa u (AI u r)=r::u:=by rw[C4 h.2.2.2,EM h]
theorem Tf.of (I:D3 P R0):∀{u:List (List Rat)},P u->Tf P u
 | [],_=> .nil
 | r::u,h=>by
  have:=Tf.Aa (Tf.of I (I.sub h)) h (Av.refl u);rwa [Ox (I.red h)] at this
theorem Tf.gen (I:D3 P R0) {w:List (List Rat)} (h:Tf P w):∀{r:List Rat} {u:List (List Rat)},w=r::u->Tf P u/\∃d c,P (d::c)/\AI c d=AI u r/\Av c u:=by
 induction h with
 | nil=>intro r u e;cases e
 | @Aa l d c ht g f k=>
  intro r u e
  by_cases j:Sq l (AI c d)
  ·rw[CY j] at e;exact k e
  rw[C4 j] at e;obtain⟨rfl,rfl⟩:=List.cons.inj e;exact⟨ht,d,c,g,(DA (f _ (Bg (I.red g)))).symm,f⟩
theorem Tf.sub (I:D3 P R0) {r:List Rat} {u:List (List Rat)} (h:Tf P (r::u)):Tf P u:=(h.gen I rfl).1
theorem Tf.Vg (I:D3 P R0) {t u:List (List Rat)} {r:List Rat} (ht:Tf P t) (h:Tf P (r::u)) (d:Av u t):Tf P (Go.Abs.Aa t (AI u r)):=by
 obtain⟨_,g,j,f,e,c⟩:=h.gen I rfl;rw[<-e];exact .Aa ht f (c.trans d)
def RR (R0:Nat):Nat->Nat
 | 0=>R0
 | h+1=>max (RR R0 h) (R0+CC 2 R0 h (RR R0 h))
theorem OB {R0 h h':Nat} (c:h<=h'):RR R0 h<=RR R0 h':=by
 induction c with
 | refl=>exact Nat.le_refl _
 | step _ d=>exact Nat.le_trans d (Nat.le_max_left _ _)
theorem TB.mono {R R':Nat} {u:List (List Rat)} (h:TB R u) (hR:R<=R'):TB R' u:=fun r c=>(h r c).mono hR
theorem Tf.tb (I:D3 P R0) (hm:∀{u},Tf P u->u.length<=3) {u:List (List Rat)} (h:Tf P u):TB (RR R0 u.length) u:=by
 induction h with
 | nil=>intro r f;simp at f
 | @Aa u y g ht d t o=>
  by_cases x:Sq u (AI g y)
  ·rw[CY x];exact o
  have v:=hm (Tf.Aa ht d t);have l:=hm (Tf.of I d);rw[C4 x] at v ⊢;rw[List.length_cons] at v l;intro r f;rcases List.mem_cons.1 f with rfl | f
  ·have c:=I.red d;have j:El g R0 (AI g y):=⟨Bg c,by rw[EM c];exact (I.tb d).head⟩;have:=(j.BA (ht.red I) o c.1 (I.tb d).tail t).bd;refine this.mono ?_;rw[List.length_cons,RR];have:=LM (k:=g.length) (k':=2) (R0:=R0) (H5:=R0) (h:=u.length) (h':=u.length) (R:=RR R0 u.length) (R':=RR R0 u.length) (by omega) (Nat.le_refl _) (Nat.le_refl _) (Nat.le_refl _);omega
  exact (o r f).mono (OB (by rw[List.length_cons];omega))
theorem Tf.J5 (I:D3 P R0) (hm:∀{u},Tf P u->u.length<=3) {R C S:Nat} (hR:RR R0 3<=R) (f:R<=S) (j:CC 3 R 3 R<=C) (g:∀h,h<=3->Fit h R (S+C)) (l:2*(S+C)+EE 3 R<=60000000000000):Gam (Tf P) R C S:=by
 have c:∀{u},Tf P u->TB R u:=fun {u} h=>(h.tb I hm).mono (Nat.le_trans (OB (hm h)) hR)
 refine⟨fun {u} h=>⟨h.red I,c h,by omega,by have:=hm h;omega⟩,fun {u} h=>by have:=hm h;omega,.nil,fun {r u} h=>h.sub I,fun {t r u} ht h d=>ht.Vg I h d,fun {u w s x} hu hw d hx=>?_,fun {u} h=>g _ (hm h),fun {u} h=>?_,f⟩
 ·refine (hx.BA (hw.red I) (c hw) (hu.red I) (c hu) d).mono ?_;have:=LM (k:=u.length) (k':=3) (R0:=R) (H5:=R) (h:=w.length) (h':=3) (R:=R) (R':=R) (hm hu) (Nat.le_refl _) (hm hw) (Nat.le_refl _);omega
 have:=Ft (h:=u.length) (h':=3) (R:=R) (R':=R) (hm h) (Nat.le_refl _);omega
def A3:List (List Rat)->List Re
 | []=>[]
 | r::u=>AI u r::A3 u
theorem JA:∀u:List (List Rat),(A3 u).length=u.length
 | []=>rfl
 | r::u=>by rw[A3,List.length_cons,List.length_cons,JA u]
theorem Nn:∀{u:List (List Rat)} {v:Re},v∈A3 u->In u (Re.sqrt v)
 | [],v,h=>by simp[A3] at h
 | r::u,v,h=>by
  rcases List.mem_cons.1 h with rfl | h
  ·exact GD u r
  exact FZ (Nn h)
theorem LB:∀{u:List (List Rat)},AQ u->(A3 u).Nodup
 | [],_=>List.nodup_nil
 | r::u,h=>by
  rw[A3,List.nodup_cons];refine⟨fun hm=>h.2.2.2 ⟨_,Nn hm,Re.CB (by have:=h.2.2.1;grind)⟩,LB h.1⟩
theorem Tf.A3 (I:D3 P R0) {V:List Re} (k:∀{u},P u->∀v∈A3 u,v∈V) {u:List (List Rat)} (h:Tf P u):∀v∈Go.Abs.A3 u,v∈V:=by
 induction h with
 | nil=>intro v c;simp[Go.Abs.A3] at c
 | @Aa u l o ht d j g=>
  by_cases f:Sq u (AI o l)
  ·rw[CY f];exact g
  rw[C4 f];intro v c;rcases List.mem_cons.1 c with rfl | c
  ·rw[DA (j _ (Bg (I.red d)))];exact k d _ List.mem_cons_self
  exact g v c
theorem Im {α:Type}:∀{l m:List α},l.Nodup->(∀x∈l,x∈m)->l.length<=m.length
 | [],_,_,_=>Nat.zero_le _
 | x::l,m,h,hm=>by
  rw[List.nodup_cons] at h;obtain⟨a,b,rfl⟩:=List.append_of_mem (hm x List.mem_cons_self)
  have:=Im (l:=l) (m:=a++b) h.2 (fun y d=>by
   have f:=hm y (List.mem_cons_of_mem _ d);rcases List.mem_append.1 f with c | c
   ·exact List.mem_append_left _ c
   rcases List.mem_cons.1 c with rfl | c
   ·exact absurd d h.1
   exact List.mem_append_right _ c)
  rw[List.length_cons,List.length_append,List.length_cons];rw[List.length_append] at this;omega
theorem Tf.len (I:D3 P R0) {V:List Re} (c:∀{u},P u->∀v∈Go.Abs.A3 u,v∈V) {u:List (List Rat)} (h:Tf P u):u.length<=V.length:=by
 rw[<-JA];exact Im (LB (h.red I)) (h.A3 I c)
end
end Go.Abs
namespace Go.Abs
def De (k i:Nat):Bool:=k/2^i%2==1
def Be (i:Nat):Nat->List Rat->Bool
 | _,[]=>false
 | k,q::l=>(De k i&&q !=0)||Be i (k+1) l
def Az (i:Nat):Nat->List Rat->List Rat
 | _,[]=>[]
 | k,q::l=>if De k i=true then Az i (k+1) l else q::Az i (k+1) l
variable {w:List (List Rat)} {x:Re}
theorem Mv (i:Nat):∀(k:Nat) (a b:List Rat),Be i k (a++b)=(Be i k a||Be i (k+a.length) b)
 | k,[],b=>by simp[Be]
 | k,q::a,b=>by
  rw[List.cons_append,Be,Be,Mv i (k+1) a b,List.length_cons,Bool.or_assoc,show k+1+a.length=k+(a.length+1) by omega]
theorem LC (i:Nat):∀(k:Nat) (a b:List Rat),Az i k (a++b)=Az i k a++Az i (k+a.length) b
 | k,[],b=>by simp[Az]
 | k,q::a,b=>by
  rw[List.cons_append,Az,Az,LC i (k+1) a b,List.length_cons,show k+1+a.length=k+(a.length+1) by omega]
  split <;> simp
theorem PR (k i c:Nat):De (k+2^(i+1)*c) i=De k i:=by
 unfold De;rw[Nat.pow_succ,Nat.mul_assoc,Nat.add_mul_div_left _ _ (Nat.two_pow_pos i),Nat.add_mul_mod_self_left]
theorem RU (i c:Nat):∀(k:Nat) (l:List Rat),Be i (k+2^(i+1)*c) l=Be i k l
 | _,[]=>rfl
 | k,q::l=>by
  rw[Be,Be,PR,show k+2^(i+1)*c+1=k+1+2^(i+1)*c by omega,RU i c (k+1) l]
theorem TX (i c:Nat):∀(k:Nat) (l:List Rat),Az i (k+2^(i+1)*c) l=Az i k l
 | _,[]=>rfl
 | k,q::l=>by
  rw[Az,Az,PR,show k+2^(i+1)*c+1=k+1+2^(i+1)*c by omega,TX i c (k+1) l]
theorem V6 {k i:Nat} (h:k<2^i):De k i=false:=by unfold De;rw[Nat.div_eq_of_lt h];rfl
theorem PQ {k i:Nat} (h:2^i<=k) (c:k<2^i+2^i):De k i=true:=by
 unfold De
 have:k/2^i=1:=by
  rw[Nat.div_eq_iff (Nat.two_pow_pos i)];omega
 rw[this];rfl
theorem TW (i:Nat):∀(k:Nat) (l:List Rat),k+l.length<=2^i->Az i k l=l
 | _,[],_=>rfl
 | k,q::l,h=>by
  rw[List.length_cons] at h;rw[Az,V6 (by omega),TW i (k+1) l (by omega)];rfl
theorem TU (i:Nat):∀(k:Nat) (l:List Rat),2^i<=k->k+l.length<=2^i+2^i->Az i k l=[]
 | _,[],_,_=>rfl
 | k,q::l,h,c=>by
  rw[List.length_cons] at c;rw[Az,PQ h (by omega),TU i (k+1) l (by omega) (by omega)];rfl
theorem RT (i:Nat):∀(k:Nat) (l:List Rat),2^i<=k->k+l.length<=2^i+2^i->Be i k l=false->∀q∈l,q=0
 | _,[],_,_,_=>by simp
 | k,q::l,h,d,c=>by
  rw[List.length_cons] at d;rw[Be,PQ h (by omega)] at c;simp only[Bool.true_and,Bool.or_eq_false_iff,bne_eq_false_iff_eq] at c;intro x hx;rcases List.mem_cons.1 hx with rfl | hx
  ·exact c.1
  exact RT i (k+1) l (by omega) (by omega) c.2 x hx
theorem LD (i:Nat):∀(k:Nat) (l:List Rat),∀q∈Az i k l,q∈l
 | _,[],q,h=>h
 | k,x::l,q,h=>by
  rw[Az] at h
  split at h
  ·exact List.mem_cons_of_mem _ (LD i (k+1) l q h)
  rcases List.mem_cons.1 h with rfl | h
  ·exact List.mem_cons_self
  exact List.mem_cons_of_mem _ (LD i (k+1) l q h)
theorem P3 {r:List Rat} {u:List (List Rat)}:∀{v:List (List Rat)},AQ (v++r::u)->(∀s∈v,Be u.length 0 s=false)->
  AQ (v.map (Az u.length 0)++u)/\Av (v.map (Az u.length 0)++u) (v++r::u)/\(∀x∈A3 (v.map (Az u.length 0)++u),x∈A3 (v++r::u))/\
  ∀{x:Re},In (v++r::u) x->Be u.length 0 (co (v++r::u) x)=false->In (v.map (Az u.length 0)++u) x/\co (v.map (Az u.length 0)++u) x=Az u.length 0 (co (v++r::u) x)
 | [],h,_=>by
  refine⟨h.1,fun x hx=>FZ hx,fun x hx=>List.mem_cons_of_mem _ hx,fun {x} hx l=>?_⟩;obtain⟨p,q,j,k,rfl⟩:=Bo.1 hx;have e:=CT h j k rfl;have o:=B6 j;have L:=B6 k;simp only[List.nil_append,List.map_nil] at*;rw[e,Mv,o,Nat.zero_add,Bool.or_eq_false_iff] at l;have z:q=0:=(IQ h.1 k).1 (RT _ _ _ (Nat.le_refl _) (by omega) l.2);subst z;have ex:p+0*rt u r=p:=by grind
  rw[e,LC,o,Nat.zero_add,TW _ _ _ (by omega),TU _ _ _ (Nat.le_refl _) (by omega),List.append_nil,ex];exact⟨j,rfl⟩
 | s::v,h,l=>by
  have h:AQ (s::(v++r::u)):=h;obtain⟨H,D,I,y⟩:=P3 (v:=v) h.1 (fun t ht=>l t (List.mem_cons_of_mem _ ht));have A:=l s List.mem_cons_self;have B:In (v++r::u) (AI (v++r::u) s):=Bg h
  show AQ (Az u.length 0 s::(v.map (Az u.length 0)++u))/\Av (Az u.length 0 s::(v.map (Az u.length 0)++u)) (s::(v++r::u))/\(∀x∈A3 (Az u.length 0 s::(v.map (Az u.length 0)++u)),x∈A3 (s::(v++r::u)))/\
   ∀{x:Re},In (s::(v++r::u)) x->Be u.length 0 (co (s::(v++r::u)) x)=false->In (Az u.length 0 s::(v.map (Az u.length 0)++u)) x/\co (Az u.length 0 s::(v.map (Az u.length 0)++u)) x=Az u.length 0 (co (s::(v++r::u)) x)
  have cs:co (v++r::u) (AI (v++r::u) s)=s:=EM h;obtain⟨k1,k2⟩:=y B (by rw[cs];exact A);rw[cs] at k2;have c:AI (v.map (Az u.length 0)++u) (Az u.length 0 s)=AI (v++r::u) s:=by rw[<-k2,DA k1]
  have f:AQ (Az u.length 0 s::(v.map (Az u.length 0)++u)):=by
   refine⟨H,by rw[<-k2];exact B6 k1,by rw[c];exact h.2.2.1,?_⟩;rw[c]
   rintro⟨w,hw,e⟩
   exact h.2.2.2 ⟨w,D w hw,e⟩
  have d:rt (v.map (Az u.length 0)++u) (Az u.length 0 s)=rt (v++r::u) s:=by rw[rt,rt,c]
  have hlen:2^(v++r::u).length=2^(u.length+1)*2^v.length:=by rw[<-Nat.pow_add];congr 1;simp;omega
  refine⟨f,QE h (D.trans fun x hx=>FZ hx) (by rw[d];exact GD _ _),fun x hx=>?_,fun {x} hx g=>?_⟩
  ·rcases List.mem_cons.1 hx with rfl | hx
   ·exact List.mem_cons.2 (.inl c)
   exact List.mem_cons_of_mem _ (I x hx)
  obtain⟨p,q,j,k,rfl⟩:=Bo.1 hx;have e:=CT h j k rfl;have o:=B6 j;rw[e,Mv,o,hlen,RU,Bool.or_eq_false_iff] at g;obtain⟨F,J⟩:=y j g.1;obtain⟨G,K⟩:=y k g.2;rw[<-d];refine⟨Bo.2 ⟨p,q,F,G,rfl⟩,?_⟩;rw[d,e,LC,o,hlen,TX,<-J,<-K,<-d];exact CT f F G rfl
def H0 (i:Nat) (s:List (List Rat)×List Rat):List (List Rat)×List Rat:=
 if (Be i 0 s.2||(s.1.drop (i+1)).any (Be i 0))=true then s else (s.1.take i++(s.1.drop (i+1)).map (Az i 0),Az i 0 s.2)
def Ex:Nat->List (List Rat)×List Rat->List (List Rat)×List Rat
 | 0,s=>s
 | i+1,s=>Ex i (H0 i s)
structure FP (w:List (List Rat)) (x:Re) (w':List (List Rat)):Prop where
 red:AQ w'
 mem:In w' x
 BA:Av w' w
 A3:∀v∈A3 w',v∈A3 w
 len:w'.length<=w.length
 EU:∀s∈w',∀q∈s,∃t∈w,q∈t
 cos:∀q∈co w' x,q∈co w x
theorem FP.refl (h:AQ w) (hx:In w x):FP w x w:=⟨h,hx,Av.refl w,fun _ h=>h,Nat.le_refl _,fun s d q c=>⟨s,d,c⟩,fun _ h=>h⟩
theorem FP.trans {w' d:List (List Rat)} (h:FP w x w') (k:FP w' x d):FP w x d:=
 ⟨k.red,k.mem,k.BA.trans h.BA,fun v g=>h.A3 v (k.A3 v g),Nat.le_trans k.len h.len,fun s f q c=>by
  obtain⟨t,ht,c⟩:=k.EU s f q c;exact h.EU t ht q c,fun q c=>h.cos q (k.cos q c)⟩
theorem TJ {i:Nat} (h:AQ w) (hx:In w x) (z:i<w.length):∃w',H0 i (w.reverse,co w x)=(w'.reverse,co w' x)/\FP w x w'/\i<=w'.length:=by
 unfold H0
 split
 ·exact⟨w,rfl,.refl h hx,by omega⟩
 rename_i g
 obtain⟨v,r,u,rfl,rfl⟩:∃v r u,w=v++r::u/\i=u.length:=by
  refine⟨w.take (w.length-1-i),w[w.length-1-i]'(by omega),w.drop (w.length-1-i+1),?_,by rw[List.length_drop];omega⟩;rw[<-List.drop_eq_getElem_cons,List.take_append_drop]
 have c:(v++r::u).reverse=u.reverse++r::v.reverse:=by simp
 have y:(v++r::u).reverse.drop (u.length+1)=v.reverse:=by
  rw[c,show u.reverse++r::v.reverse=(u.reverse++[r])++v.reverse by simp];exact List.drop_left' (by simp)
 have ht:(v++r::u).reverse.take u.length=u.reverse:=by
  rw[c];exact List.take_left' (by simp)
 simp only[y,ht,Bool.not_eq_true,Bool.or_eq_false_iff] at g ⊢
 obtain⟨j,k,l,o⟩:=P3 h (fun s d=>by
  have:=List.any_eq_false.1 g.2 s (List.mem_reverse.2 d);simpa using this)
 obtain⟨k1,k2⟩:=o hx g.1;refine⟨v.map (Az u.length 0)++u,?_,⟨j,k1,k,l,by simp,fun s d q f=>?_,fun q f=>?_⟩,by simp⟩
 ·rw[k2,List.reverse_append,List.map_reverse]
 ·rcases List.mem_append.1 d with d | d
  ·obtain⟨t,ht,rfl⟩:=List.mem_map.1 d;exact⟨t,List.mem_append_left _ ht,LD _ _ _ q f⟩
  exact⟨s,List.mem_append_right _ (List.mem_cons_of_mem _ d),f⟩
 rw[k2] at f;exact LD _ _ _ q f
theorem Nj:∀{i:Nat} {w:List (List Rat)} {x:Re},AQ w->In w x->i<=w.length->∃w',Ex i (w.reverse,co w x)=(w'.reverse,co w' x)/\FP w x w'
 | 0,w,x,h,hx,_=>⟨w,rfl,.refl h hx⟩
 | i+1,w,x,h,hx,f=>by
  obtain⟨j,c,t1,l1⟩:=TJ h hx f;obtain⟨g,d,t2⟩:=Nj t1.red t1.mem l1;exact⟨g,by rw[Ex,c,d],t1.trans t2⟩
end Go.Abs
namespace Go.Abs
open Go.RowKit
variable {a b m n p:Int} {e i:Nat}
theorem LY.lt {x:UInt8} (_:LY n x):x.toNat<256:=x.toNat_lt
theorem H8.lt {x:UInt32} (_:H8 n x):x.toNat<4294967296:=x.toNat_lt
theorem Ai (k:Nat):AK k k:=⟨rfl⟩
theorem AK.of {k:Nat} (h:n=k):AK n k:=⟨h⟩
theorem Ad (h:true=(a==b)):a=b:=by simpa using h.symm
theorem Ac (h:false=(a==b)):a≠b:=by simpa using h.symm
theorem DL (h:true=(a !=b)):a≠b:=by simpa using h.symm
theorem DK (h:false=(a !=b)):a=b:=by simpa using h.symm
theorem AS (h:true=decide (a<b)):a<b:=by simpa using h.symm
theorem AR (h:false=decide (a<b)):b<=a:=by simpa using h.symm
theorem He (h:true=decide (a<=b)):a<=b:=by simpa using h.symm
theorem Hd (h:false=decide (a<=b)):b<a:=by simpa using h.symm
theorem Ba (h:true=decide (a>b)):b<a:=by simpa using h.symm
theorem BZ (h:false=decide (a>b)):a<=b:=by simpa using h.symm
theorem DD (h:true=decide (a >= b)):b<=a:=by simpa using h.symm
theorem DC (h:false=decide (a >= b)):a<b:=by simpa using h.symm
theorem Cp {a:Bool} (h:true= !a):a=false:=by simpa using h.symm
theorem Co {a:Bool} (h:false= !a):a=true:=by simpa using h.symm
theorem PO {a b:Bool} (h:true=(a==b)):a=b:=by simpa using h.symm
theorem PM {a b:Bool} (h:false=(a==b)):a≠b:=by simpa using h.symm
theorem PT {a b:Bool} (h:true=(a !=b)):a≠b:=by simpa using h.symm
theorem PS {a b:Bool} (h:false=(a !=b)):a=b:=by simpa using h.symm
theorem wrap_u32 (h:n=IntKind.u32.wrap m):n=m%4294967296:=h
theorem wrap_u64 (h:n=IntKind.u64.wrap m):n=m%18446744073709551616:=h
theorem wrap_i64 (h:n=IntKind.i64.wrap m):n=(m+9223372036854775808)%18446744073709551616-9223372036854775808:=by
 have e:IntKind.i64.wrap m=if (true&&decide (m%18446744073709551616 >= 9223372036854775808))=true then m%18446744073709551616-18446744073709551616 else m%18446744073709551616:=rfl
 rw[h,e]
 split
 ·rename_i c
  simp only[Bool.true_and,decide_eq_true_eq] at c;omega
 rename_i c
 simp only[Bool.true_and,decide_eq_true_eq] at c;omega
theorem Ct (h:n=a.fdiv (2^e)) (c:2^e=p):n=a/p:=by
 rw[h,<-c,Int.fdiv_eq_ediv_of_nonneg _ (by have:=Int.pow_pos (n:=2) (m:=e) (by decide);omega)]
theorem Gt (h:n=IntKind.u64.wrap (a*2^e)) (c:2^e=p):n=(a*p)%18446744073709551616:=by rw[<-c];exact h
theorem AF {α:Type} {l:List α} (h:i<l.length):∃x,l[i]? =some x:=⟨l[i],by simp[h]⟩
theorem BK (h:0<=n/\n<4294967296):∃w:UInt32,H8 n w:=⟨UInt32.ofNat n.toNat,⟨by rw[UInt32.toNat_ofNat'];omega⟩⟩
theorem BJ {w:UInt32} (h:H8 n w):Ae Ak [.int .u32 n] (cells .u32 w):=by
 refine⟨?_,trivial⟩
 show AC.int .u32 _=AC.int .u32 n
 rw[h.eq]
theorem D6 {α:Type} {l:List α} {x:α} (h:l[i]? =some x):i<l.length:=by
 apply Classical.byContradiction;intro c;rw[List.getElem?_eq_none (by omega)] at h;exact absurd h (by simp)
theorem BG {α:Type} {l:List α} {x:α} (h:l[i]? =some x):l.take (i+1)=l.take i++[x]:=by
 have c:=D6 h;rw[List.take_succ_eq_append_getElem c];rw[List.getElem?_eq_getElem c] at h;rw[Option.some.inj h]
theorem CH {t:T} {l m:List (el t)} {n k:Nat} (h:l=m) (c:n=k):AC.own t l n=AC.own t m k:=by rw[h,c]
end Go.Abs
