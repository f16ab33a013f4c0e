/- Part 17 of a proof. Conditions: each theorem's own. -/
import Derived.Test.YtfilemenbchajaaGreatPk15
set_option linter.all false
set_option maxHeartbeats 8000000
set_option maxRecDepth 20000
namespace Go.Abs
noncomputable def BJ (x:Re):Int:=by
 classical
 exact if x<0 then -1 else if x=0 then 0 else 1
theorem EP (x:Re):(x<0/\BJ x= -1)\/(x=0/\BJ x=0)\/(0<x/\BJ x=1):=by
 unfold BJ
 by_cases h:x<0
 ·rw[if_pos h];exact .inl ⟨h,rfl⟩
 rw[if_neg h]
 by_cases c:x=0
 ·rw[if_pos c];exact .inr (.inl ⟨c,rfl⟩)
 rw[if_neg c];exact .inr (.inr ⟨by grind,rfl⟩)
theorem Fq {x:Re} (h:0<x):BJ x=1:=by rcases EP x with⟨a,b⟩ |⟨a,b⟩ |⟨a,b⟩ <;> grind
theorem JH {x:Re} (h:x<0):BJ x= -1:=by rcases EP x with⟨a,b⟩ |⟨a,b⟩ |⟨a,b⟩ <;> grind
theorem Dw:BJ 0=0:=by rcases EP 0 with⟨a,b⟩ |⟨a,b⟩ |⟨a,b⟩ <;> grind
theorem Dv {x:Re}:BJ x=0↔x=0:=by
 rcases EP x with⟨a,b⟩ |⟨a,b⟩ |⟨a,b⟩ <;> rw[b]
 ·constructor
  ·intro h;omega
  intro h;grind
 ·exact⟨fun _=>a,fun _=>rfl⟩
 constructor
 ·intro h;omega
 intro h;grind
theorem Va (x y:Re):BJ (x*y)=BJ x*BJ y:=by
 rcases EP x with⟨a,b⟩ |⟨a,b⟩ |⟨a,b⟩ <;> rcases EP y with⟨c,d⟩ |⟨c,d⟩ |⟨c,d⟩ <;> rw[b,d]
 ·have:=Re.mul_pos (x:= -x) (y:= -y) (by grind) (by grind);exact Fq (by grind)
 ·rw[c,show x*0=0 by grind];exact Dw
 ·have:=Re.mul_pos (x:= -x) (y:=y) (by grind) (by grind);exact JH (by grind)
 ·rw[a,show 0*y=0 by grind];exact Dw
 ·rw[a,show 0*y=0 by grind];exact Dw
 ·rw[a,show 0*y=0 by grind];exact Dw
 ·have:=Re.mul_pos (x:=x) (y:= -y) (by grind) (by grind);exact JH (by grind)
 ·rw[c,show x*0=0 by grind];exact Dw
 exact Fq (Re.mul_pos a c)
theorem VZ (x y:Re): -9223372036854775808<=BJ x*BJ y/\BJ x*BJ y<9223372036854775808:=by
 rcases EP x with⟨a,b⟩ |⟨a,b⟩ |⟨a,b⟩ <;> rcases EP y with⟨c,d⟩ |⟨c,d⟩ |⟨c,d⟩ <;> rw[b,d] <;> decide
section
variable {p q s ρ:Re}
theorem Mo (f:0<s) (h:q=0\/BJ p=BJ q):BJ (p+q*s)=BJ p:=by
 rcases h with h | h
 ·rw[h,show p+0*s=p by grind]
 rcases EP p with⟨a,b⟩ |⟨a,b⟩ |⟨a,b⟩ <;> rcases EP q with⟨c,d⟩ |⟨c,d⟩ |⟨c,d⟩ <;> rw[b,d] at h <;> try omega
 ·have:=Re.mul_pos (x:= -q) (y:=s) (by grind) f;rw[b];exact JH (by grind)
 ·rw[b,a,c,show (0:Re)+0*s=0 by grind];exact Dw
 have:=Re.mul_pos (x:=q) (y:=s) c f;rw[b];exact Fq (by grind)
theorem Vf (c:0<s) (h:p=0):BJ (p+q*s)=BJ q:=by
 rw[h,show 0+q*s=q*s by grind,Va,Fq c,Int.mul_one]
theorem Vc (f:0<s) (k:s*s=ρ) (g:p≠0) (j:q≠0) (h:BJ p≠BJ q):BJ (p+q*s)=BJ p*BJ (p*p-q*q*ρ):=by
 have e:p*p-q*q*ρ=(p-q*s)*(p+q*s):=by rw[<-k];grind
 rw[e,Va];rcases EP p with⟨a,b⟩ |⟨a,b⟩ |⟨a,b⟩ <;> rcases EP q with⟨c,d⟩ |⟨c,d⟩ |⟨c,d⟩ <;> rw[b,d] at h <;> first | (exact absurd rfl h) | (exact absurd a g) | (exact absurd c j) | skip
 ·have:=Re.mul_pos (x:=q) (y:=s) c f;rw[b,JH (x:=p-q*s) (by grind)];omega
 have:=Re.mul_pos (x:= -q) (y:=s) (by grind) f;rw[b,Fq (x:=p-q*s) (by grind)];omega
end
theorem Vb (q:Rat):BJ (Re.ofRat q)=Dk q:=by
 have c:(0:Re)=Re.ofRat 0:=rfl;have d:Dk q=Bu q.num:=rfl;rw[d];rcases Ee q.num with⟨a,b⟩ |⟨a,b⟩ |⟨a,b⟩ <;> rw[b]
 ·exact JH (by rw[c,Re.HO];rw[Rat.lt_iff];simp;exact a)
 ·rw[Rat.num_eq_zero.1 a];exact Dw
 exact Fq (by rw[c,Re.HO];rw[Rat.lt_iff];simp;exact a)
def VV:Nat->Nat->Nat->Nat
 | 0,_,s=>s
 | h+1,R,s=>VV h R (2*s+2*EE h R+R+1)
theorem GV:∀(h R:Nat) {s t:Nat},s<=t->VV h R s<=VV h R t
 | 0,_,_,_,h=>h
 | h+1,R,_,_,c=>GV h R (by omega)
theorem Ei:∀(h R s:Nat),s<=VV h R s
 | 0,_,_=>Nat.le_refl _
 | h+1,R,s=>Nat.le_trans (by omega) (Ei h R (2*s+2*EE h R+R+1))
theorem Qe (h R s:Nat):VV h R s<=VV (h+1) R s:=GV h R (by omega)
theorem Jb {i h:Nat} (d:i<=h) (R s:Nat):VV i R s<=VV h R s:=by
 induction h with
 | zero=>rw[Nat.le_zero.1 d];exact Nat.le_refl _
 | succ h f=>
  rcases Nat.lt_or_ge i (h+1) with c | c
  ·exact Nat.le_trans (f (by omega)) (Qe h R s)
  rw[show i=h+1 by omega];exact Nat.le_refl _
def pre (u:List (List Rat)) (i:Nat):List (List Rat):=u.drop (u.length-i)
theorem HR {u:List (List Rat)} {i:Nat} (h:i<=u.length):(pre u i).length=i:=by rw[pre,List.length_drop];omega
theorem Gk {u:List (List Rat)} {i:Nat}:(tw u).take i=tw (pre u i):=by
 rw[tw,tw,pre,<-List.map_take,List.reverse_drop]
 by_cases h:i<=u.length
 ·rw[show u.length-(u.length-i)=i by omega]
 rw[show u.length-i=0 by omega,Nat.sub_zero,List.take_of_length_le (by rw[List.length_reverse];omega),List.take_of_length_le (by rw[List.length_reverse];omega)]
theorem Ui (u:List (List Rat)):pre u u.length=u:=by rw[pre,Nat.sub_self,List.drop_zero]
theorem HS {u:List (List Rat)} {i:Nat} (h:i<u.length):∃r,pre u (i+1)=r::pre u i/\(tw u)[i]? =some (Ao r):=by
 refine⟨u[u.length-(i+1)]'(by omega),?_,?_⟩
 ·rw[pre,pre,List.drop_eq_getElem_cons (by omega),show u.length-(i+1)+1=u.length-i by omega]
 rw[tw,List.getElem?_map,List.getElem?_reverse h,show u.length-1-i=u.length-(i+1) by omega,List.getElem?_eq_getElem (by omega)];rfl
theorem Uw:∀{u:List (List Rat)} (n:Nat),Ab u->Ab (u.drop n)
 |u,0,h|[],_+1,h=>h
 | _::u,n+1,h=>Uw n h.1
theorem Al.pre {R:Nat} {u:List (List Rat)} (h:Al R u) (i:Nat):Al R (pre u i):=
 ⟨Uw _ h.red,fun r c=>h.tb r (List.mem_of_mem_drop c),h.hR,by have:=h.ht;rw[Go.Abs.pre,List.length_drop];omega⟩
def QQ:Nat->Nat->Nat->Nat
 | 0,_,s=>s
 | h+1,R,s=>max (QQ h R (3*s+3*EE h R+R+GG h R+3+II h R R)) (s+II h R (2*(3*s+3*EE h R+R+GG h R+3+II h R R+GG h R)+1)+EE h R)
theorem Hh:∀(h R:Nat) {s t:Nat},s<=t->II h R s<=II h R t
 | 0,_,_,_,h=>by rw[II,II];omega
 | h+1,R,s,t,c=>by
  have:=Hh h R (s:=2*s+2*EE h R+R+1) (t:=2*t+2*EE h R+R+1) (by omega);rw[II,II];omega
theorem Kv:∀(h R:Nat) {s t:Nat},s<=t->QQ h R s<=QQ h R t
 | 0,_,_,_,h=>h
 | h+1,R,s,t,f=>by
  have c:=Kv h R (s:=3*s+3*EE h R+R+GG h R+3+II h R R) (t:=3*t+3*EE h R+R+GG h R+3+II h R R) (by omega);have d:=Hh h R (s:=2*(3*s+3*EE h R+R+GG h R+3+II h R R+GG h R)+1) (t:=2*(3*t+3*EE h R+R+GG h R+3+II h R R+GG h R)+1) (by omega);rw[QQ,QQ];omega
theorem GS:∀(h R s:Nat),s<=QQ h R s
 | 0,_,_=>Nat.le_refl _
 | h+1,R,s=>by have:=GS h R (3*s+3*EE h R+R+GG h R+3+II h R R);rw[QQ];omega
theorem XB (h R s:Nat):QQ h R s<=QQ (h+1) R s:=by
 have:=Kv h R (s:=s) (t:=3*s+3*EE h R+R+GG h R+3+II h R R) (by omega);rw[QQ];omega
theorem XA {i h:Nat} (d:i<=h) (R s:Nat):QQ i R s<=QQ h R s:=by
 induction h with
 | zero=>rw[Nat.le_zero.1 d];exact Nat.le_refl _
 | succ h f=>
  rcases Nat.lt_or_ge i (h+1) with c | c
  ·exact Nat.le_trans (f (by omega)) (XB h R s)
  rw[show i=h+1 by omega];exact Nat.le_refl _
structure Fit (h R s:Nat):Prop where
 q:QQ h R s<=60000000000000
 v:VV h R (s+GG h R)<=60000000000000
 qR:QQ h R R<=60000000000000
 vR:VV h R R<=60000000000000
theorem Fit.v0 {h R s:Nat} (f:Fit h R s):VV h R s<=60000000000000:=Nat.le_trans (GV h R (by omega)) f.v
theorem Fit.s {h R s:Nat} (f:Fit h R s):s<=60000000000000:=Nat.le_trans (GS h R s) f.q
theorem Fit.mono {h R s t:Nat} (f:Fit h R s) (ht:t<=s):Fit h R t:=⟨Nat.le_trans (Kv h R ht) f.q,Nat.le_trans (GV h R (by omega)) f.v,f.qR,f.vR⟩
end Go.Abs
namespace Go.Abs
def BK (u w:List (List Rat)):Prop:=∀x,In u x->In w x
theorem BK.refl (u:List (List Rat)):BK u u:=fun _ h=>h
theorem BK.trans {u v w:List (List Rat)} (h:BK u v) (k:BK v w):BK u w:=fun x c=>k x (h x c)
theorem Li:∀(v:List (List Rat)) {u:List (List Rat)},BK u (v++u)
 | [],u=>BK.refl u
 | _::v,_=>fun x c=>Ge (Li v x c)
theorem Lj {u w:List (List Rat)} (h:u<:+w):BK u w:=by
 obtain⟨v,rfl⟩:=h;exact Li v
theorem BK.tail {u w:List (List Rat)} {r:List Rat} (h:BK (r::u) w):BK u w:=fun x c=>h x (Ge c)
theorem BK.root {u w:List (List Rat)} {r:List Rat} (h:BK (r::u) w):In w (rt u r):=h _ (H0 u r)
theorem Io {u w:List (List Rat)} {r:List Rat} (hw:Ab w) (h:BK u w) (f:In w (rt u r)):BK (r::u) w:=fun x g=>by
 obtain⟨p,q,c,d,rfl⟩:=CM.1 g;exact Cp (h p c) (Ar hw (h q d) f)
theorem Ip (w:List (List Rat)):BK [] w:=fun x c=>by
 obtain⟨q,rfl⟩:=CI.1 c;exact Ds q w
noncomputable def Ax (u:List (List Rat)) (v:Re):List (List Rat):=by
 classical
 exact if Sq u v then u else co u v::u
theorem EW {u:List (List Rat)} {v:Re} (h:Sq u v):Ax u v=u:=by unfold Ax;rw[if_pos h]
theorem D9 {u:List (List Rat)} {v:Re} (h:¬Sq u v):Ax u v=co u v::u:=by unfold Ax;rw[if_neg h]
theorem LJ (u:List (List Rat)) (v:Re):u<:+Ax u v:=by
 by_cases h:Sq u v
 ·rw[EW h];exact List.suffix_refl u
 rw[D9 h];exact List.suffix_cons _ _
theorem PL {u:List (List Rat)} {v:Re} (h:Ab u) (c:In u v) (d:0<v) (f:¬Sq u v):Ab (co u v::u):=
 ⟨h,CQ c,by rw[Df c];exact d,by rw[Df c];exact f⟩
theorem PI {u:List (List Rat)} {v:Re} (h:Ab u) (f:In u v) (d:0<v):Ab (Ax u v):=by
 by_cases c:Sq u v
 ·rw[EW c];exact h
 rw[D9 c];exact PL h f d c
theorem Kc {u:List (List Rat)} {v:Re} (c:In u v):rt u (co u v)=Re.sqrt v:=by rw[rt,Df c]
theorem Ki {u:List (List Rat)} {v:Re} (c:0<=v):Sq u v↔In u (Re.sqrt v):=by
 constructor
 ·rintro⟨w,hw,e⟩
  have f:=Re.E9 c;have d:=Re.GN v
  by_cases h:0<=w
  ·rw[<-Re.Gs h d (by rw[e,f])];exact hw
  rw[<-Re.Gs (x:= -w) (by grind) d (by rw[f,<-e];grind)];exact Fc hw
 intro h;exact⟨_,h,Re.E9 c⟩
theorem LI {u:List (List Rat)} {v:Re} (f:In u v) (d:0<=v):In (Ax u v) (Re.sqrt v):=by
 by_cases c:Sq u v
 ·rw[EW c];exact (Ki d).1 c
 rw[D9 c,<-Kc f];exact H0 u _
noncomputable def ext (t:List (List Rat)):List (List Rat)->List (List Rat)
 | []=>t
 | r::u=>Ax (ext t u) (AN u r)
theorem OE (t:List (List Rat)):∀u,t<:+ext t u
 | []=>List.suffix_refl t
 | r::u=>List.IsSuffix.trans (OE t u) (LJ _ _)
theorem HW {t:List (List Rat)} (ht:Ab t):∀{u:List (List Rat)},Ab u->Ab (ext t u)/\BK u (ext t u)
 | [],_=>⟨ht,Ip _⟩
 | r::u,hu=>by
  obtain⟨g,c⟩:=HW ht hu.1;have d:=c _ (CG hu);have f:=hu.2.2.1;have h3:=PI g d f;exact⟨h3,Io h3 (c.trans (Lj (LJ _ _))) (LI d (by grind))⟩
open Classical in
noncomputable def DO (t u:List (List Rat)):List (List Rat):=if u<:+t then t else if t<:+u then u else ext t u
theorem dm {t u:List (List Rat)} (ht:Ab t) (hu:Ab u):Ab (DO t u)/\BK t (DO t u)/\BK u (DO t u):=by
 unfold DO
 split
 ·rename_i h;exact⟨ht,BK.refl t,Lj h⟩
 split
 ·rename_i h;exact⟨hu,Lj h,BK.refl u⟩
 obtain⟨c,d⟩:=HW ht hu;exact⟨c,Lj (OE t u),d⟩
theorem Sg:∀(v:List (List Rat)) {u:List (List Rat)} {x:Re},Ab (v++u)->In u x->em (v++u) x=em u x++List.replicate (2^(v++u).length-2^u.length) (rp 0)
 | [],u,x,h,c=>by simp
 | r::v,u,x,h,c=>by
  have d:=Li v x c;have l:=Sg v h.1 c;have g:2^u.length<=2^(v++u).length:=CX (by simp);have e:em (r::v++u) x=em (v++u) x++em (v++u) 0:=EA h d (Bp _) (by grind);have k:em (v++u) 0=Ao (List.replicate (2^(v++u).length) 0):=N9 h.1;rw[e,l,k,Ao,List.map_replicate,List.append_assoc,List.replicate_append_replicate];have j:2^(r::v++u).length=2^(v++u).length+2^(v++u).length:=Bc r (v++u);have f:∀a b:Nat,b<=a->a-b+a=a+a-b:=fun a b h=>by omega
  rw[j,<-f _ _ g]
theorem Sj {u w:List (List Rat)} {x:Re} (h:u<:+w) (hw:Ab w) (c:In u x):em w x=em u x++List.replicate (2^w.length-2^u.length) (rp 0):=by
 obtain⟨v,rfl⟩:=h;exact Sg v hw c
theorem Uy {u w:List (List Rat)} (h:u<:+w) (hw:Ab w):Ab u:=by
 obtain⟨v,rfl⟩:=h
 induction v with
 | nil=>exact hw
 | cons r v c=>exact c hw.1
structure Gam (T:List (List Rat)->Prop) (R C S:Nat):Prop where
 AU:∀{u},T u->Al R u
 ht:∀{u},T u->u.length<=8
 nil:T []
 sub:∀{r u},T (r::u)->T u
 Ax:∀{t r u},T t->T (r::u)->BK u t->T (Ax t (AN u r))
 Be:∀{u w s x},T u->T w->BK u w->El u s x->El w (s+C) x
 fit:∀{u},T u->Fit u.length R (S+C)
 mul:∀{u},T u->2*(S+C)+EE u.length R<=60000000000000
 RS:R<=S
section
variable {T:List (List Rat)->Prop} {R C S:Nat}
theorem Gam.Hb (G:Gam T R C S) {u w:List (List Rat)} (h:u<:+w) (hw:T w):T u:=by
 obtain⟨v,rfl⟩:=h
 induction v with
 | nil=>exact hw
 | cons r v c=>exact c (G.sub hw)
theorem Gam.ext (G:Gam T R C S) {t:List (List Rat)} (ht:T t):∀{u:List (List Rat)},T u->T (ext t u)
 | [],_=>ht
 | r::u,hu=>G.Ax (G.ext ht (G.sub hu)) hu (HW (G.AU ht).red (G.AU (G.sub hu)).red).2
theorem Gam.join (G:Gam T R C S) {t u:List (List Rat)} (ht:T t) (hu:T u):T (DO t u):=by
 unfold DO
 split
 ·exact ht
 split
 ·exact hu
 exact G.ext ht hu
end
theorem Im {u:List (List Rat)} {r:List Rat} (h:Ab (r::u)):El (r::u) 0 (rt u r):=by
 have c:El u 0 0:=El.rat h.1 Gb;have d:El u 0 1:=El.rat h.1 Y5;have:=Y4 h c.mem d.mem c.bd d.bd;rw[show (0:Re)+1*rt u r=rt u r by grind] at this;exact⟨H0 u r,this⟩
end Go.Abs
namespace Go.Abs
theorem He:∀{h h' R R':Nat},h<=h'->R<=R'->EE h R<=EE h' R'
 | 0,h',R,R',_,_=>Nat.zero_le _
 | h+1,0,R,R',c,_=>absurd c (by omega)
 | h+1,h'+1,R,R',c,hR=>by
  have:=He (h:=h) (h':=h') (by omega) hR;rw[EE,EE];omega
theorem Kr:∀{h h' R R' s s':Nat},h<=h'->R<=R'->s<=s'->II h R s<=II h' R' s'
 | 0,0,R,R',s,s',_,_,d=>by rw[II,II];omega
 | 0,h'+1,R,R',s,s',_,_,d=>by
  have:=Dn h' R' (2*s'+2*EE h' R'+R'+1);rw[II,II];omega
 | h+1,0,R,R',s,s',c,_,_=>absurd c (by omega)
 | h+1,h'+1,R,R',s,s',c,hR,d=>by
  have f:=He (h:=h) (h':=h') (by omega) hR;have g:=Kr (h:=h) (h':=h') (s:=2*s+2*EE h R+R+1) (s':=2*s'+2*EE h' R'+R'+1) (by omega) hR (by omega);rw[II,II];omega
theorem QM:∀{h h' R R':Nat},h<=h'->R<=R'->GG h R<=GG h' R'
 | 0,h',R,R',_,_=>by rw[GG];exact Nat.zero_le _
 | h+1,0,R,R',c,_=>absurd c (by omega)
 | h+1,h'+1,R,R',c,hR=>by
  have d:=He (h:=h) (h':=h') (by omega) hR;have f:=QM (h:=h) (h':=h') (by omega) hR;have h3:=Kr (h:=h) (h':=h') (s:=R) (s':=R') (by omega) hR hR;rw[GG,GG];omega
def CC:Nat->Nat->Nat->Nat->Nat
 | 0,_,_,_=>0
 | k+1,R0,h,R=>2*CC k R0 h R+R0+GG h R+EE h R+1
theorem JV:∀{k k' R0 Hj h h' R R':Nat},k<=k'->R0<=Hj->h<=h'->R<=R'->CC k R0 h R<=CC k' Hj h' R'
 | 0,k',_,_,_,_,_,_,_,_,_,_=>by rw[CC];exact Nat.zero_le _
 | k+1,0,_,_,_,_,_,_,d,_,_,_=>absurd d (by omega)
 | k+1,k'+1,R0,Hj,h,h',R,R',d,f,c,hR=>by
  have g:=JV (k:=k) (k':=k') (by omega) f c hR;have j:=He c hR;have h3:=QM c hR;rw[CC,CC];omega
theorem Zm {D:Nat} {q:Rat} {n:Nat} (h:DN D [q]):DN D (q::List.replicate n 0):=fun z c=>by
 rcases List.mem_cons.1 c with rfl | c
 ·exact h _ List.mem_cons_self
 rw[List.eq_of_mem_replicate c];exact⟨0,by simp⟩
theorem cC {B:Nat} {q:Rat} {n:Nat} (h:MX B [q]):MX B (q::List.replicate n 0):=fun z c=>by
 rcases List.mem_cons.1 c with rfl | c
 ·exact h _ List.mem_cons_self
 rw[List.eq_of_mem_replicate c];have:(0:Rat)<=B:=Rat.natCast_nonneg
 constructor <;> grind
theorem Ra {w:List (List Rat)} {R:Nat} (hw:Ab w) (l:TB R w):∀{u:List (List Rat)} {R0:Nat},Ab u->TB R0 u->BK u w->∃K:Nat,0<K/\K<=2^CC u.length R0 w.length R/\
  ∀{x:Re} {D B:Nat},In u x->(DN D (co u x)->DN (D*K) (co w x))/\(MX B (co u x)->MX (B*2^CC u.length R0 w.length R) (co w x))
 | [],R0,_,_,_=>⟨1,by decide,by simp[CC],fun {x D B} N=>by
  obtain⟨q,rfl⟩:=CI.1 N;rw[Co,Ih q hw,Nat.mul_one];refine⟨Zm,fun h=>?_⟩;rw[show B*2^CC ([]:List (List Rat)).length R0 w.length R=B by simp[CC]];exact cC h⟩
 | r::u,R0,h,U,k=>by
  obtain⟨K,W,f,hb⟩:=Ra hw l h.1 U.tail k.tail;obtain⟨E,A,G,hm⟩:=Ik hw l;obtain⟨Q,v,y,z,L⟩:=U.head;have Z:=CO h;have M:=CG h;have c:=k.root;have b1:=hb (D:=Q) (B:=2^R0) M;rw[Ez h] at b1
  have hv:Bd (R0+CC u.length R0 w.length R) (co w (AN u r)):=by
   refine⟨Q*K,Nat.mul_pos v W,?_,b1.1 z,?_⟩
   ·rw[Nat.pow_add];exact Nat.mul_le_mul y f
   rw[Nat.pow_add];exact b1.2 L
  obtain⟨F,Y,I,H,J⟩:=Ri hw l c Z hv;refine⟨K*(F*E),Nat.mul_pos W (Nat.mul_pos Y A),?_,fun {x D B} N=>?_⟩
  ·have V:=Nat.mul_le_mul f (Nat.mul_le_mul I G);simp only[<-Nat.pow_add] at V;exact Nat.le_trans V (CX (by rw[List.length_cons,CC];omega))
  obtain⟨p,q,o,t,rfl⟩:=CM.1 N;rw[Cr h o t rfl,DN.app,MX.app];have j:=k.tail _ o;have d:=k.tail _ t;refine⟨fun g=>?_,fun g=>?_⟩
  ·have k1:=(hb (B:=0) o).1 g.1;have k2:=(hb (B:=0) t).1 g.2;have O:=hm d c k2 H;exact DN.Fv hw j (Ar hw d c) (k1.dvd ⟨F*E,by grind⟩) (O.dvd ⟨1,by grind⟩)
  have k1:=(hb (D:=0) o).2 g.1;have k2:=(hb (D:=0) t).2 g.2;have O:=Gg hw l d c k2 J;refine (MX.Fv hw j (Ar hw d c) k1 O).mono ?_
  have e:B*2^CC u.length R0 w.length R*2^(R0+CC u.length R0 w.length R+GG w.length R)*2^EE w.length R=B*2^(CC u.length R0 w.length R+(R0+CC u.length R0 w.length R+GG w.length R)+EE w.length R):=by
   rw[Nat.mul_assoc,Nat.mul_assoc,<-Nat.pow_add,<-Nat.pow_add];congr 2;omega
  rw[e,<-Nat.mul_add];refine Nat.mul_le_mul_left B ?_;have X:CC (r::u).length R0 w.length R=CC u.length R0 w.length R+(R0+CC u.length R0 w.length R+GG w.length R)+EE w.length R+1:=by rw[List.length_cons,CC];omega
  have h3:2^CC u.length R0 w.length R<=2^(CC u.length R0 w.length R+(R0+CC u.length R0 w.length R+GG w.length R)+EE w.length R):=CX (by omega);rw[X,Nat.pow_succ];omega
theorem El.Be {w u:List (List Rat)} {R R0 s:Nat} {x:Re} (hw:Ab w) (o:TB R w) (hu:Ab u) (g:TB R0 u) (f:BK u w) (c:El u s x):El w (s+CC u.length R0 w.length R) x:=by
 obtain⟨K,l,d,hb⟩:=Ra hw o hu g f;obtain⟨D,h,j,h3,k⟩:=c.bd;refine⟨f _ c.mem,D*K,Nat.mul_pos h l,?_,(hb (B:=0) c.mem).1 h3,?_⟩
 ·rw[Nat.pow_add];exact Nat.mul_le_mul j d
 rw[Nat.pow_add];exact (hb (D:=0) c.mem).2 k
inductive Tf (P:List (List Rat)->Prop):List (List Rat)->Prop
 | nil:Tf P []
 | Ax {u:List (List Rat)} {r0:List Rat} {u0:List (List Rat)}:Tf P u->P (r0::u0)->BK u0 u->Tf P (Ax u (AN u0 r0))
structure Db (P:List (List Rat)->Prop) (R0:Nat):Prop where
 red:∀{u},P u->Ab u
 tb:∀{u},P u->TB R0 u
 sub:∀{r u},P (r::u)->P u
section
variable {P:List (List Rat)->Prop} {R0:Nat}
theorem Tf.red (I:Db P R0) {u:List (List Rat)} (h:Tf P u):Ab u:=by
 induction h with
 | nil=>trivial
 | Ax _ c d f=>exact PI f (d _ (CG (I.red c))) (I.red c).2.2.1
theorem Yh {u:List (List Rat)} {r:List Rat} (h:Ab (r::u)):Ax u (AN u r)=r::u:=by rw[D9 h.2.2.2,Ez h]
theorem Tf.of (I:Db P R0):∀{u:List (List Rat)},P u->Tf P u
 | [],_=> .nil
 | r::u,h=>by
  have:=Tf.Ax (Tf.of I (I.sub h)) h (BK.refl u);rwa [Yh (I.red h)] at this
theorem Tf.gen (I:Db P R0) {w:List (List Rat)} (h:Tf P w):∀{r:List Rat} {u:List (List Rat)},w=r::u->Tf P u/\∃d c,P (d::c)/\AN c d=AN u r/\BK c u:=by
 induction h with
 | nil=>intro r u e;cases e
 | @Ax l d c ht g f k=>
  intro r u e
  by_cases j:Sq l (AN c d)
  ·rw[EW j] at e;exact k e
  rw[D9 j] at e;obtain⟨rfl,rfl⟩:=List.cons.inj e;exact⟨ht,d,c,g,(Df (f _ (CG (I.red g)))).symm,f⟩
theorem Tf.sub (I:Db P R0) {r:List Rat} {u:List (List Rat)} (h:Tf P (r::u)):Tf P u:=(h.gen I rfl).1
theorem Tf.RI (I:Db P R0) {t u:List (List Rat)} {r:List Rat} (ht:Tf P t) (h:Tf P (r::u)) (d:BK u t):Tf P (Go.Abs.Ax t (AN u r)):=by
 obtain⟨_,g,j,f,e,c⟩:=h.gen I rfl;rw[<-e];exact .Ax ht f (c.trans d)
theorem PK:∀{u:List (List Rat)},Ab u->BK u []->u=[]
 | [],_,_=>rfl
 | r::u,h,c=>by
  have hu:=PK h.1 c.tail;subst hu;exact absurd ⟨_,c.root,CO h⟩ h.2.2.2
theorem Ux {r q:List Rat} {s:List Rat} (h:Ab [q,r]) (x:Ab [s]) (y:BK [q,r] [s]):False:=by
 have o:=h.1;obtain⟨a,b,ha,hb,e⟩:=CM.1 y.tail.root;have A:=CO o;have u:=CO x;have g:Ab ([]:List (List Rat)):=trivial
 by_cases l:b=0
 ·exact o.2.2.2 ⟨a,ha,by rw[<-A,e,l];grind⟩
 obtain⟨d,z,D⟩:=EF g hb l
 by_cases k:a=0
 ·have j:In [r] (rt [] s):=by
   have:rt [] s=d*rt [] r:=by rw[e,k];grind
   rw[this];exact Ar o (Ge z) (H0 [] r)
  have v:BK [s] [r]:=Io o (Ip _) j;exact h.2.2.2 ⟨_,v _ y.root,CO h⟩
 obtain⟨c,F,B⟩:=EF g ha k
 have H:Re.ofRat (1/2)*(1+1)=1:=by
  rw[show (1:Re)=Re.ofRat 1 from rfl,<-Re.ofRat_add,<-Re.ofRat_mul,show (1/2:Rat)*(1+1)=1 by decide +kernel]
 have G:=CG o;have hw:=CG x
 have key:rt [] s=(AN [] r-a*a-b*b*AN [] s)*(c*d*Re.ofRat (1/2)):=by
  rw[<-A,<-u,e];generalize rt [] s=t at *;generalize Re.ofRat (1/2)=f at *;grind
 have j:In [] (rt [] s):=by
  rw[key];exact Ar g (EG (EG G (Ar g ha ha)) (Ar g (Ar g hb hb) hw)) (Ar g (Ar g F z) (Ds _ []))
 exact x.2.2.2 ⟨_,j,u⟩
def RR (R0:Nat):Nat->Nat
 | 0=>R0
 | h+1=>max (RR R0 h) (R0+CC (min h 2) R0 h (RR R0 h))
theorem QW {R0 h h':Nat} (c:h<=h'):RR R0 h<=RR R0 h':=by
 induction c with
 | refl=>exact Nat.le_refl _
 | step _ d=>exact Nat.le_trans d (Nat.le_max_left _ _)
theorem TB.mono {R R':Nat} {u:List (List Rat)} (h:TB R u) (hR:R<=R'):TB R' u:=fun r c=>(h r c).mono hR
theorem Tf.tb (I:Db P R0) (hm:∀{u},Tf P u->u.length<=3) {u:List (List Rat)} (h:Tf P u):TB (RR R0 u.length) u:=by
 induction h with
 | nil=>intro r g;simp at g
 | @Ax u y d ht f j t=>
  by_cases x:Sq u (AN d y)
  ·rw[EW x];exact t
  have v:=hm (Tf.Ax ht f j);have o:=hm (Tf.of I f);rw[D9 x] at v ⊢;rw[List.length_cons] at v o;intro r g;rcases List.mem_cons.1 g with rfl | g
  ·have c:=I.red f;have l:El d R0 (AN d y):=⟨CG c,by rw[Ez c];exact (I.tb f).head⟩;have:=(l.Be (ht.red I) t c.1 (I.tb f).tail j).bd;refine this.mono ?_;rw[List.length_cons,RR]
   have A:d.length<=min u.length 2:=by
    have z:d.length<=2:=by omega
    cases u with
    | nil=>rw[PK c.1 j];exact Nat.zero_le _
    | cons s B=>
     cases B with
     | nil=>
      cases d with
      | nil=>exact Nat.zero_le _
      | cons q D=>
       cases D with
       | nil=>exact Nat.le_refl 1
       | cons r F=>
        have:F=[]:=List.eq_nil_of_length_eq_zero (by simp only[List.length_cons] at z;omega);subst this;exact (Ux c.1 (ht.red I) j).elim
     | cons _ _=>simp only[List.length_cons];omega
   have:=JV (k:=d.length) (k':=min u.length 2) (R0:=R0) (Hj:=R0) (h:=u.length) (h':=u.length) (R:=RR R0 u.length) (R':=RR R0 u.length) A (Nat.le_refl _) (Nat.le_refl _) (Nat.le_refl _);omega
  exact (t r g).mono (QW (by rw[List.length_cons];omega))
theorem Tf.OG (I:Db P R0) (hm:∀{u},Tf P u->u.length<=3) {R C S:Nat} (hR:RR R0 3<=R) (f:R<=S) (l:CC 3 R 3 R<=C) (g:∀h,h<=3->Fit h R (S+C)) (o:2*(S+C)+EE 3 R<=60000000000000):Gam (Tf P) R C S:=by
 have c:∀{u},Tf P u->TB R u:=fun {u} h=>(h.tb I hm).mono (Nat.le_trans (QW (hm h)) hR)
 refine⟨fun {u} h=>⟨h.red I,c h,by omega,by have:=hm h;omega⟩,fun {u} h=>by have:=hm h;omega,.nil,fun {r u} h=>h.sub I,fun {t r u} ht h d=>ht.RI I h d,fun {u w s x} hu hw d j=>?_,fun {u} h=>g _ (hm h),fun {u} h=>?_,f⟩
 ·refine (j.Be (hw.red I) (c hw) (hu.red I) (c hu) d).mono ?_;have:=JV (k:=u.length) (k':=3) (R0:=R) (Hj:=R) (h:=w.length) (h':=3) (R:=R) (R':=R) (hm hu) (Nat.le_refl _) (hm hw) (Nat.le_refl _);omega
 have:=He (h:=u.length) (h':=3) (R:=R) (R':=R) (hm h) (Nat.le_refl _);omega
def BE:List (List Rat)->List Re
 | []=>[]
 | r::u=>AN u r::BE u
theorem JT:∀u:List (List Rat),(BE u).length=u.length
 | []=>rfl
 | r::u=>by rw[BE,List.length_cons,List.length_cons,JT u]
theorem JU:∀{u:List (List Rat)} {v:Re},v∈BE u->In u (Re.sqrt v)
 | [],v,h=>by simp[BE] at h
 | r::u,v,h=>by
  rcases List.mem_cons.1 h with rfl | h
  ·exact H0 u r
  exact Ge (JU h)
theorem Hc:∀{u:List (List Rat)},Ab u->(BE u).Nodup
 | [],_=>List.nodup_nil
 | r::u,h=>by
  rw[BE,List.nodup_cons];refine⟨fun hm=>h.2.2.2 ⟨_,JU hm,Re.E9 (by have:=h.2.2.1;grind)⟩,Hc h.1⟩
theorem Tf.BE (I:Db P R0) {V:List Re} (hV:∀{u},P u->∀v∈BE u,v∈V) {u:List (List Rat)} (h:Tf P u):∀v∈Go.Abs.BE u,v∈V:=by
 induction h with
 | nil=>intro v c;simp[Go.Abs.BE] at c
 | @Ax u k l ht d j g=>
  by_cases f:Sq u (AN l k)
  ·rw[EW f];exact g
  rw[D9 f];intro v c;rcases List.mem_cons.1 c with rfl | c
  ·rw[Df (j _ (CG (I.red d)))];exact hV d _ List.mem_cons_self
  exact g v c
theorem I8 {α:Type}:∀{l m:List α},l.Nodup->(∀x∈l,x∈m)->l.length<=m.length
 | [],_,_,_=>Nat.zero_le _
 | x::l,m,h,hm=>by
  rw[List.nodup_cons] at h;obtain⟨a,b,rfl⟩:=List.append_of_mem (hm x List.mem_cons_self)
  have:=I8 (l:=l) (m:=a++b) h.2 (fun y d=>by
   have f:=hm y (List.mem_cons_of_mem _ d);rcases List.mem_append.1 f with c | c
   ·exact List.mem_append_left _ c
   rcases List.mem_cons.1 c with rfl | c
   ·exact absurd d h.1
   exact List.mem_append_right _ c)
  rw[List.length_cons,List.length_append,List.length_cons];rw[List.length_append] at this;omega
theorem Tf.len (I:Db P R0) {V:List Re} (hV:∀{u},P u->∀v∈Go.Abs.BE u,v∈V) {u:List (List Rat)} (h:Tf P u):u.length<=V.length:=by
 rw[<-JT];exact I8 (Hc (h.red I)) (h.BE I hV)
end
end Go.Abs
namespace Go.Abs
def EY (k i:Nat):Bool:=k/2^i%2==1
def CN (i:Nat):Nat->List Rat->Bool
 | _,[]=>false
 | k,q::l=>(EY k i&&q !=0)||CN i (k+1) l
def BV (i:Nat):Nat->List Rat->List Rat
 | _,[]=>[]
 | k,q::l=>if EY k i=true then BV i (k+1) l else q::BV i (k+1) l
variable {w:List (List Rat)} {x:Re}
theorem Ow (i:Nat):∀(k:Nat) (a b:List Rat),CN i k (a++b)=(CN i k a||CN i (k+a.length) b)
 | k,[],b=>by simp[CN]
 | k,q::a,b=>by
  rw[List.cons_append,CN,CN,Ow i (k+1) a b,List.length_cons,Bool.or_assoc,show k+1+a.length=k+(a.length+1) by omega]
theorem My (i:Nat):∀(k:Nat) (a b:List Rat),BV i k (a++b)=BV i k a++BV i (k+a.length) b
 | k,[],b=>by simp[BV]
 | k,q::a,b=>by
  rw[List.cons_append,BV,BV,My i (k+1) a b,List.length_cons,show k+1+a.length=k+(a.length+1) by omega]
  split <;> simp
theorem Rq (k i c:Nat):EY (k+2^(i+1)*c) i=EY k i:=by
 unfold EY;rw[Nat.pow_succ,Nat.mul_assoc,Nat.add_mul_div_left _ _ (Nat.two_pow_pos i),Nat.add_mul_mod_self_left]
theorem UL (i c:Nat):∀(k:Nat) (l:List Rat),CN i (k+2^(i+1)*c) l=CN i k l
 | _,[]=>rfl
 | k,q::l=>by
  rw[CN,CN,Rq,show k+2^(i+1)*c+1=k+1+2^(i+1)*c by omega,UL i c (k+1) l]
theorem Wb (i c:Nat):∀(k:Nat) (l:List Rat),BV i (k+2^(i+1)*c) l=BV i k l
 | _,[]=>rfl
 | k,q::l=>by
  rw[BV,BV,Rq,show k+2^(i+1)*c+1=k+1+2^(i+1)*c by omega,Wb i c (k+1) l]
theorem ZC {k i:Nat} (h:k<2^i):EY k i=false:=by unfold EY;rw[Nat.div_eq_of_lt h];rfl
theorem Rp {k i:Nat} (h:2^i<=k) (c:k<2^i+2^i):EY k i=true:=by
 unfold EY
 have:k/2^i=1:=by
  rw[Nat.div_eq_iff (Nat.two_pow_pos i)];omega
 rw[this];rfl
theorem Wa (i:Nat):∀(k:Nat) (l:List Rat),k+l.length<=2^i->BV i k l=l
 | _,[],_=>rfl
 | k,q::l,h=>by
  rw[List.length_cons] at h;rw[BV,ZC (by omega),Wa i (k+1) l (by omega)];rfl
theorem WY (i:Nat):∀(k:Nat) (l:List Rat),2^i<=k->k+l.length<=2^i+2^i->BV i k l=[]
 | _,[],_,_=>rfl
 | k,q::l,h,c=>by
  rw[List.length_cons] at c;rw[BV,Rp h (by omega),WY i (k+1) l (by omega) (by omega)];rfl
theorem UK (i:Nat):∀(k:Nat) (l:List Rat),2^i<=k->k+l.length<=2^i+2^i->CN i k l=false->∀q∈l,q=0
 | _,[],_,_,_=>by simp
 | k,q::l,h,d,h3=>by
  rw[List.length_cons] at d;rw[CN,Rp h (by omega)] at h3;simp only[Bool.true_and,Bool.or_eq_false_iff,bne_eq_false_iff_eq] at h3;intro x c;rcases List.mem_cons.1 c with rfl | c
  ·exact h3.1
  exact UK i (k+1) l (by omega) (by omega) h3.2 x c
theorem Mz (i:Nat):∀(k:Nat) (l:List Rat),∀q∈BV i k l,q∈l
 | _,[],q,h=>h
 | k,x::l,q,h=>by
  rw[BV] at h
  split at h
  ·exact List.mem_cons_of_mem _ (Mz i (k+1) l q h)
  rcases List.mem_cons.1 h with rfl | h
  ·exact List.mem_cons_self
  exact List.mem_cons_of_mem _ (Mz i (k+1) l q h)
theorem Sc {r:List Rat} {u:List (List Rat)}:∀{v:List (List Rat)},Ab (v++r::u)->(∀s∈v,CN u.length 0 s=false)->
  Ab (v.map (BV u.length 0)++u)/\BK (v.map (BV u.length 0)++u) (v++r::u)/\(∀x∈BE (v.map (BV u.length 0)++u),x∈BE (v++r::u))/\
  ∀{x:Re},In (v++r::u) x->CN u.length 0 (co (v++r::u) x)=false->In (v.map (BV u.length 0)++u) x/\co (v.map (BV u.length 0)++u) x=BV u.length 0 (co (v++r::u) x)
 | [],h,_=>by
  refine⟨h.1,fun x c=>Ge c,fun x c=>List.mem_cons_of_mem _ c,fun {x} c o=>?_⟩;obtain⟨p,q,k,l,rfl⟩:=CM.1 c;have e:=Cr h k l rfl;have y:=CQ k;have L:=CQ l;simp only[List.nil_append,List.map_nil] at*;rw[e,Ow,y,Nat.zero_add,Bool.or_eq_false_iff] at o;have A:q=0:=(Ju h.1 l).1 (UK _ _ _ (Nat.le_refl _) (by omega) o.2);subst A;have ex:p+0*rt u r=p:=by grind
  rw[e,My,y,Nat.zero_add,Wa _ _ _ (by omega),WY _ _ _ (Nat.le_refl _) (by omega),List.append_nil,ex];exact⟨k,rfl⟩
 | s::v,h,o=>by
  have h:Ab (s::(v++r::u)):=h;obtain⟨I,F,h3,z⟩:=Sc (v:=v) h.1 (fun t ht=>o t (List.mem_cons_of_mem _ ht));have B:=o s List.mem_cons_self;have D:In (v++r::u) (AN (v++r::u) s):=CG h
  show Ab (BV u.length 0 s::(v.map (BV u.length 0)++u))/\BK (BV u.length 0 s::(v.map (BV u.length 0)++u)) (s::(v++r::u))/\(∀x∈BE (BV u.length 0 s::(v.map (BV u.length 0)++u)),x∈BE (s::(v++r::u)))/\
   ∀{x:Re},In (s::(v++r::u)) x->CN u.length 0 (co (s::(v++r::u)) x)=false->In (BV u.length 0 s::(v.map (BV u.length 0)++u)) x/\co (BV u.length 0 s::(v.map (BV u.length 0)++u)) x=BV u.length 0 (co (s::(v++r::u)) x)
  have cs:co (v++r::u) (AN (v++r::u) s)=s:=Ez h;obtain⟨k1,k2⟩:=z D (by rw[cs];exact B);rw[cs] at k2;have d:AN (v.map (BV u.length 0)++u) (BV u.length 0 s)=AN (v++r::u) s:=by rw[<-k2,Df k1]
  have g:Ab (BV u.length 0 s::(v.map (BV u.length 0)++u)):=by
   refine⟨I,by rw[<-k2];exact CQ k1,by rw[d];exact h.2.2.1,?_⟩;rw[d]
   rintro⟨w,hw,e⟩
   exact h.2.2.2 ⟨w,F w hw,e⟩
  have f:rt (v.map (BV u.length 0)++u) (BV u.length 0 s)=rt (v++r::u) s:=by rw[rt,rt,d]
  have hlen:2^(v++r::u).length=2^(u.length+1)*2^v.length:=by rw[<-Nat.pow_add];congr 1;simp;omega
  refine⟨g,Io h (F.trans fun x c=>Ge c) (by rw[f];exact H0 _ _),fun x c=>?_,fun {x} c j=>?_⟩
  ·rcases List.mem_cons.1 c with rfl | c
   ·exact List.mem_cons.2 (.inl d)
   exact List.mem_cons_of_mem _ (h3 x c)
  obtain⟨p,q,k,l,rfl⟩:=CM.1 c;have e:=Cr h k l rfl;have y:=CQ k;rw[e,Ow,y,hlen,UL,Bool.or_eq_false_iff] at j;obtain⟨G,J⟩:=z k j.1;obtain⟨H,K⟩:=z l j.2;rw[<-f];refine⟨CM.2 ⟨p,q,G,H,rfl⟩,?_⟩;rw[f,e,My,y,hlen,Wb,<-J,<-K,<-f];exact Cr g G H rfl
def JN (i:Nat) (s:List (List Rat)×List Rat):List (List Rat)×List Rat:=
 if (CN i 0 s.2||(s.1.drop (i+1)).any (CN i 0))=true then s else (s.1.take i++(s.1.drop (i+1)).map (BV i 0),BV i 0 s.2)
def Fs:Nat->List (List Rat)×List Rat->List (List Rat)×List Rat
 | 0,s=>s
 | i+1,s=>Fs i (JN i s)
structure GU (w:List (List Rat)) (x:Re) (w':List (List Rat)):Prop where
 red:Ab w'
 mem:In w' x
 Be:BK w' w
 BE:∀v∈BE w',v∈BE w
 len:w'.length<=w.length
 Fk:∀s∈w',∀q∈s,∃t∈w,q∈t
 cos:∀q∈co w' x,q∈co w x
theorem GU.refl (h:Ab w) (f:In w x):GU w x w:=⟨h,f,BK.refl w,fun _ h=>h,Nat.le_refl _,fun s d q c=>⟨s,d,c⟩,fun _ h=>h⟩
theorem GU.trans {w' d:List (List Rat)} (h:GU w x w') (k:GU w' x d):GU w x d:=
 ⟨k.red,k.mem,k.Be.trans h.Be,fun v g=>h.BE v (k.BE v g),Nat.le_trans k.len h.len,fun s f q c=>by
  obtain⟨t,ht,c⟩:=k.Fk s f q c;exact h.Fk t ht q c,fun q c=>h.cos q (k.cos q c)⟩
theorem WK {i:Nat} (h:Ab w) (j:In w x) (z:i<w.length):∃w',JN i (w.reverse,co w x)=(w'.reverse,co w' x)/\GU w x w'/\i<=w'.length:=by
 unfold JN
 split
 ·exact⟨w,rfl,.refl h j,by omega⟩
 rename_i g
 obtain⟨v,r,u,rfl,rfl⟩:∃v r u,w=v++r::u/\i=u.length:=by
  refine⟨w.take (w.length-1-i),w[w.length-1-i]'(by omega),w.drop (w.length-1-i+1),?_,by rw[List.length_drop];omega⟩;rw[<-List.drop_eq_getElem_cons,List.take_append_drop]
 have c:(v++r::u).reverse=u.reverse++r::v.reverse:=by simp
 have y:(v++r::u).reverse.drop (u.length+1)=v.reverse:=by
  rw[c,show u.reverse++r::v.reverse=(u.reverse++[r])++v.reverse by simp];exact List.drop_left' (by simp)
 have ht:(v++r::u).reverse.take u.length=u.reverse:=by
  rw[c];exact List.take_left' (by simp)
 simp only[y,ht,Bool.not_eq_true,Bool.or_eq_false_iff] at g ⊢
 obtain⟨k,l,h3,o⟩:=Sc h (fun s d=>by
  have:=List.any_eq_false.1 g.2 s (List.mem_reverse.2 d);simpa using this)
 obtain⟨k1,k2⟩:=o j g.1;refine⟨v.map (BV u.length 0)++u,?_,⟨k,k1,l,h3,by simp,fun s d q f=>?_,fun q f=>?_⟩,by simp⟩
 ·rw[k2,List.reverse_append,List.map_reverse]
 ·rcases List.mem_append.1 d with d | d
  ·obtain⟨t,ht,rfl⟩:=List.mem_map.1 d;exact⟨t,List.mem_append_left _ ht,Mz _ _ _ q f⟩
  exact⟨s,List.mem_append_right _ (List.mem_cons_of_mem _ d),f⟩
 rw[k2] at f;exact Mz _ _ _ q f
theorem P0:∀{i:Nat} {w:List (List Rat)} {x:Re},Ab w->In w x->i<=w.length->∃w',Fs i (w.reverse,co w x)=(w'.reverse,co w' x)/\GU w x w'
 | 0,w,x,h,c,_=>⟨w,rfl,.refl h c⟩
 | i+1,w,x,h,c,g=>by
  obtain⟨k,d,t1,l1⟩:=WK h c g;obtain⟨j,f,t2⟩:=P0 t1.red t1.mem l1;exact⟨j,by rw[Fs,d,f],t1.trans t2⟩
end Go.Abs
namespace Go.Abs
open Go.RowKit
variable {a b m n p:Int} {e i:Nat}
theorem NH.lt {x:UInt8} (_:NH n x):x.toNat<256:=x.toNat_lt
theorem Ja.lt {x:UInt32} (_:Ja n x):x.toNat<4294967296:=x.toNat_lt
theorem BC (k:Nat):AS k k:=⟨rfl⟩
theorem AS.of {k:Nat} (h:n=k):AS n k:=⟨h⟩
theorem Av (h:true=(a==b)):a=b:=by simpa using h.symm
theorem Au (h:false=(a==b)):a≠b:=by simpa using h.symm
theorem Dh (h:true=(a !=b)):a≠b:=by simpa using h.symm
theorem Dg (h:false=(a !=b)):a=b:=by simpa using h.symm
theorem Ae (h:true=decide (a<b)):a<b:=by simpa using h.symm
theorem Ad (h:false=decide (a<b)):b<=a:=by simpa using h.symm
theorem I2 (h:true=decide (a<=b)):a<=b:=by simpa using h.symm
theorem I1 (h:false=decide (a<=b)):b<a:=by simpa using h.symm
theorem CB (h:true=decide (a>b)):b<a:=by simpa using h.symm
theorem CA (h:false=decide (a>b)):a<=b:=by simpa using h.symm
theorem ED (h:true=decide (a >= b)):b<=a:=by simpa using h.symm
theorem EC (h:false=decide (a >= b)):a<b:=by simpa using h.symm
theorem CK {a:Bool} (h:true= !a):a=false:=by simpa using h.symm
theorem CJ {a:Bool} (h:false= !a):a=true:=by simpa using h.symm
theorem Ro {a b:Bool} (h:true=(a==b)):a=b:=by simpa using h.symm
theorem Rl {a b:Bool} (h:false=(a==b)):a≠b:=by simpa using h.symm
theorem LP {a b:Bool} (h:true=(a !=b)):a≠b:=by simpa using h.symm
theorem LO {a b:Bool} (h:false=(a !=b)):a=b:=by simpa using h.symm
theorem wrap_u32 (h:n=IntKind.u32.wrap m):n=m%4294967296:=h
theorem wrap_u64 (h:n=IntKind.u64.wrap m):n=m%18446744073709551616:=h
theorem wrap_i64 (h:n=IntKind.i64.wrap m):n=(m+9223372036854775808)%18446744073709551616-9223372036854775808:=by
 have e:IntKind.i64.wrap m=if (true&&decide (m%18446744073709551616 >= 9223372036854775808))=true then m%18446744073709551616-18446744073709551616 else m%18446744073709551616:=rfl
 rw[h,e]
 split
 ·rename_i c
  simp only[Bool.true_and,decide_eq_true_eq] at c;omega
 rename_i c
 simp only[Bool.true_and,decide_eq_true_eq] at c;omega
theorem Da (h:n=a.fdiv (2^e)) (c:2^e=p):n=a/p:=by
 rw[h,<-c,Int.fdiv_eq_ediv_of_nonneg _ (by have:=Int.pow_pos (n:=2) (m:=e) (by decide);omega)]
theorem ID (h:n=IntKind.u64.wrap (a*2^e)) (c:2^e=p):n=(a*p)%18446744073709551616:=by rw[<-c];exact h
theorem AG {α:Type} {l:List α} (h:i<l.length):∃x,l[i]? =some x:=⟨l[i],by simp[h]⟩
theorem Bm (h:0<=n/\n<4294967296):∃w:UInt32,Ja n w:=⟨UInt32.ofNat n.toNat,⟨by rw[UInt32.toNat_ofNat'];omega⟩⟩
theorem Bl {w:UInt32} (h:Ja n w):Aw BF [.int .u32 n] (cells .u32 w):=by
 refine⟨?_,trivial⟩
 show AC.int .u32 _=AC.int .u32 n
 rw[h.eq]
theorem E0 {α:Type} {l:List α} {x:α} (h:l[i]? =some x):i<l.length:=by
 apply Classical.byContradiction;intro c;rw[List.getElem?_eq_none (by omega)] at h;exact absurd h (by simp)
theorem Bi {α:Type} {l:List α} {x:α} (h:l[i]? =some x):l.take (i+1)=l.take i++[x]:=by
 have c:=E0 h;rw[List.take_succ_eq_append_getElem c];rw[List.getElem?_eq_getElem c] at h;rw[Option.some.inj h]
theorem C2 {t:T} {l m:List (el t)} {n k:Nat} (h:l=m) (c:n=k):AC.own t l n=AC.own t m k:=by rw[h,c]
end Go.Abs
