/- Part 11 of a proof. Conditions: each theorem's own. -/
import Derived.Test.YtmaoeopjnhfplaaGreatQk09
set_option linter.all false
set_option maxHeartbeats 8000000
set_option maxRecDepth 20000
open Go.Proofs
namespace Go.Abs
noncomputable def BU (x:Re):Int:=by
 classical
 exact if x<0 then -1 else if x=0 then 0 else 1
theorem Fb (x:Re):(x<0/\BU x= -1)\/(x=0/\BU x=0)\/(0<x/\BU x=1):=by
 unfold BU
 by_cases h:x<0
 ·rw[if_pos h];exact .inl ⟨h,rfl⟩
 rw[if_neg h]
 by_cases d:x=0
 ·rw[if_pos d];exact .inr (.inl ⟨d,rfl⟩)
 rw[if_neg d];exact .inr (.inr ⟨by grind,rfl⟩)
theorem FH {x:Re} (h:0<x):BU x=1:=by rcases Fb x with⟨a,b⟩ |⟨a,b⟩ |⟨a,b⟩ <;> grind
theorem KM {x:Re} (h:x<0):BU x= -1:=by rcases Fb x with⟨a,b⟩ |⟨a,b⟩ |⟨a,b⟩ <;> grind
theorem F3:BU 0=0:=by rcases Fb 0 with⟨a,b⟩ |⟨a,b⟩ |⟨a,b⟩ <;> grind
theorem GX {x:Re}:BU x=0↔x=0:=by
 rcases Fb x with⟨a,b⟩ |⟨a,b⟩ |⟨a,b⟩ <;> rw[b]
 ·constructor
  ·intro h;omega
  intro h;grind
 ·exact⟨fun _=>a,fun _=>rfl⟩
 constructor
 ·intro h;omega
 intro h;grind
theorem TR (x y:Re):BU (x*y)=BU x*BU y:=by
 rcases Fb x with⟨a,b⟩ |⟨a,b⟩ |⟨a,b⟩ <;> rcases Fb y with⟨c,d⟩ |⟨c,d⟩ |⟨c,d⟩ <;> rw[b,d]
 ·have:=Re.mul_pos (x:= -x) (y:= -y) (by grind) (by grind);exact FH (by grind)
 ·rw[c,show x*0=0 by grind];exact F3
 ·have:=Re.mul_pos (x:= -x) (y:=y) (by grind) (by grind);exact KM (by grind)
 ·rw[a,show 0*y=0 by grind];exact F3
 ·rw[a,show 0*y=0 by grind];exact F3
 ·rw[a,show 0*y=0 by grind];exact F3
 ·have:=Re.mul_pos (x:=x) (y:= -y) (by grind) (by grind);exact KM (by grind)
 ·rw[c,show x*0=0 by grind];exact F3
 exact FH (Re.mul_pos a c)
theorem Z8 (x y:Re): -9223372036854775808<=BU x*BU y/\BU x*BU y<9223372036854775808:=by
 rcases Fb x with⟨a,b⟩ |⟨a,b⟩ |⟨a,b⟩ <;> rcases Fb y with⟨c,d⟩ |⟨c,d⟩ |⟨c,d⟩ <;> rw[b,d] <;> decide
section
variable {p q s ρ:Re}
theorem PJ (f:0<s) (h:q=0\/BU p=BU q):BU (p+q*s)=BU p:=by
 rcases h with h | h
 ·rw[h,show p+0*s=p by grind]
 rcases Fb p with⟨a,b⟩ |⟨a,b⟩ |⟨a,b⟩ <;> rcases Fb q with⟨c,d⟩ |⟨c,d⟩ |⟨c,d⟩ <;> rw[b,d] at h <;> try omega
 ·have:=Re.mul_pos (x:= -q) (y:=s) (by grind) f;rw[b];exact KM (by grind)
 ·rw[b,a,c,show (0:Re)+0*s=0 by grind];exact F3
 have:=Re.mul_pos (x:=q) (y:=s) c f;rw[b];exact FH (by grind)
theorem aB (d:0<s) (h:p=0):BU (p+q*s)=BU q:=by
 rw[h,show 0+q*s=q*s by grind,TR,FH d,Int.mul_one]
theorem aA (f:0<s) (k:s*s=ρ) (g:p≠0) (j:q≠0) (h:BU p≠BU q):BU (p+q*s)=BU p*BU (p*p-q*q*ρ):=by
 have e:p*p-q*q*ρ=(p-q*s)*(p+q*s):=by rw[<-k];grind
 rw[e,TR];rcases Fb p with⟨a,b⟩ |⟨a,b⟩ |⟨a,b⟩ <;> rcases Fb q with⟨c,d⟩ |⟨c,d⟩ |⟨c,d⟩ <;> rw[b,d] at h <;> first | (exact absurd rfl h) | (exact absurd a g) | (exact absurd c j) | skip
 ·have:=Re.mul_pos (x:=q) (y:=s) c f;rw[b,KM (x:=p-q*s) (by grind)];omega
 have:=Re.mul_pos (x:= -q) (y:=s) (by grind) f;rw[b,FH (x:=p-q*s) (by grind)];omega
end
theorem Z9 (q:Rat):BU (Re.ofRat q)=FQ q:=by
 have d:(0:Re)=Re.ofRat 0:=rfl;have f:FQ q=Cg q.num:=rfl;rw[f];rcases GY q.num with⟨a,b⟩ |⟨a,b⟩ |⟨a,b⟩ <;> rw[b]
 ·exact KM (by rw[d,Re.GC];rw[Rat.lt_iff];simp;exact a)
 ·rw[Rat.num_eq_zero.1 a];exact F3
 exact FH (by rw[d,Re.GC];rw[Rat.lt_iff];simp;exact a)
def VV:Nat->Nat->Nat->Nat
 | 0,_,s=>s
 | h+1,R,s=>VV h R (2*s+2*EE h R+R+1)
theorem IL:∀(h R:Nat) {s t:Nat},s<=t->VV h R s<=VV h R t
 | 0,_,_,_,h=>h
 | h+1,R,_,_,d=>IL h R (by omega)
theorem Gb:∀(h R s:Nat),s<=VV h R s
 | 0,_,_=>Nat.le_refl _
 | h+1,R,s=>Nat.le_trans (by omega) (Gb h R (2*s+2*EE h R+R+1))
theorem U5 (h R s:Nat):VV h R s<=VV (h+1) R s:=IL h R (by omega)
theorem Lv {i h:Nat} (f:i<=h) (R s:Nat):VV i R s<=VV h R s:=by
 induction h with
 | zero=>rw[Nat.le_zero.1 f];exact Nat.le_refl _
 | succ h g=>
  rcases Nat.lt_or_ge i (h+1) with d | d
  ·exact Nat.le_trans (g (by omega)) (U5 h R s)
  rw[show i=h+1 by omega];exact Nat.le_refl _
def pre (u:List (List Rat)) (i:Nat):List (List Rat):=u.drop (u.length-i)
theorem JY {u:List (List Rat)} {i:Nat} (h:i<=u.length):(pre u i).length=i:=by rw[pre,List.length_drop];omega
theorem Im {u:List (List Rat)} {i:Nat}:(tw u).take i=tw (pre u i):=by
 rw[tw,tw,pre,<-List.map_take,List.reverse_drop]
 by_cases h:i<=u.length
 ·rw[show u.length-(u.length-i)=i by omega]
 rw[show u.length-i=0 by omega,Nat.sub_zero,List.take_of_length_le (by rw[List.length_reverse];omega),List.take_of_length_le (by rw[List.length_reverse];omega)]
theorem ZH (u:List (List Rat)):pre u u.length=u:=by rw[pre,Nat.sub_self,List.drop_zero]
theorem KG {u:List (List Rat)} {i:Nat} (h:i<u.length):∃r,pre u (i+1)=r::pre u i/\(tw u)[i]? =some (BN r):=by
 refine⟨u[u.length-(i+1)]'(by omega),?_,?_⟩
 ·rw[pre,pre,List.drop_eq_getElem_cons (by omega),show u.length-(i+1)+1=u.length-i by omega]
 rw[tw,List.getElem?_map,List.getElem?_reverse h,show u.length-1-i=u.length-(i+1) by omega,List.getElem?_eq_getElem (by omega)];rfl
theorem ZY:∀{u:List (List Rat)} (n:Nat),Al u->Al (u.drop n)
 |u,0,h|[],_+1,h=>h
 | _::u,n+1,h=>ZY n h.1
theorem BJ.pre {R:Nat} {u:List (List Rat)} (h:BJ R u) (i:Nat):BJ R (pre u i):=
 ⟨ZY _ h.red,fun r d=>h.tb r (List.mem_of_mem_drop d),h.hR,by have:=h.ht;rw[Go.Abs.pre,List.length_drop];omega⟩
def QQ:Nat->Nat->Nat->Nat
 | 0,_,s=>s
 | h+1,R,s=>max (QQ h R (3*s+3*EE h R+R+GG h R+3+II h R R)) (s+II h R (2*(3*s+3*EE h R+R+GG h R+3+II h R R+GG h R)+1)+EE h R)
theorem Ji:∀(h R:Nat) {s t:Nat},s<=t->II h R s<=II h R t
 | 0,_,_,_,h=>by rw[II,II];omega
 | h+1,R,s,t,d=>by
  have:=Ji h R (s:=2*s+2*EE h R+R+1) (t:=2*t+2*EE h R+R+1) (by omega);rw[II,II];omega
theorem NT:∀(h R:Nat) {s t:Nat},s<=t->QQ h R s<=QQ h R t
 | 0,_,_,_,h=>h
 | h+1,R,s,t,g=>by
  have d:=NT h R (s:=3*s+3*EE h R+R+GG h R+3+II h R R) (t:=3*t+3*EE h R+R+GG h R+3+II h R R) (by omega);have f:=Ji h R (s:=2*(3*s+3*EE h R+R+GG h R+3+II h R R+GG h R)+1) (t:=2*(3*t+3*EE h R+R+GG h R+3+II h R R+GG h R)+1) (by omega);rw[QQ,QQ];omega
theorem IH:∀(h R s:Nat),s<=QQ h R s
 | 0,_,_=>Nat.le_refl _
 | h+1,R,s=>by have:=IH h R (3*s+3*EE h R+R+GG h R+3+II h R R);rw[QQ];omega
theorem cR (h R s:Nat):QQ h R s<=QQ (h+1) R s:=by
 have:=NT h R (s:=s) (t:=3*s+3*EE h R+R+GG h R+3+II h R R) (by omega);rw[QQ];omega
theorem cQ {i h:Nat} (f:i<=h) (R s:Nat):QQ i R s<=QQ h R s:=by
 induction h with
 | zero=>rw[Nat.le_zero.1 f];exact Nat.le_refl _
 | succ h g=>
  rcases Nat.lt_or_ge i (h+1) with d | d
  ·exact Nat.le_trans (g (by omega)) (cR h R s)
  rw[show i=h+1 by omega];exact Nat.le_refl _
structure Fit (h R s:Nat):Prop where
 q:QQ h R s<=60000000000000
 v:VV h R (s+GG h R)<=60000000000000
 qR:QQ h R R<=60000000000000
 vR:VV h R R<=60000000000000
theorem Fit.v0 {h R s:Nat} (f:Fit h R s):VV h R s<=60000000000000:=Nat.le_trans (IL h R (by omega)) f.v
theorem Fit.s {h R s:Nat} (f:Fit h R s):s<=60000000000000:=Nat.le_trans (IH h R s) f.q
theorem Fit.mono {h R s t:Nat} (f:Fit h R s) (ht:t<=s):Fit h R t:=⟨Nat.le_trans (NT h R ht) f.q,Nat.le_trans (IL h R (by omega)) f.v,f.qR,f.vR⟩
end Go.Abs
namespace Go.Abs
def Be (u w:List (List Rat)):Prop:=∀x,In u x->In w x
theorem Be.refl (u:List (List Rat)):Be u u:=fun _ h=>h
theorem Be.trans {u v w:List (List Rat)} (h:Be u v) (k:Be v w):Be u w:=fun x d=>k x (h x d)
theorem MN:∀(v:List (List Rat)) {u:List (List Rat)},Be u (v++u)
 | [],u=>Be.refl u
 | _::v,_=>fun x d=>Fj (MN v x d)
theorem MO {u w:List (List Rat)} (h:u<:+w):Be u w:=by
 obtain⟨v,rfl⟩:=h;exact MN v
theorem Be.tail {u w:List (List Rat)} {r:List Rat} (h:Be (r::u) w):Be u w:=fun x d=>h x (Fj d)
theorem Be.root {u w:List (List Rat)} {r:List Rat} (h:Be (r::u) w):In w (rt u r):=h _ (IY u r)
theorem JF {u w:List (List Rat)} {r:List Rat} (hw:Al w) (h:Be u w) (g:In w (rt u r)):Be (r::u) w:=fun x j=>by
 obtain⟨p,q,d,f,rfl⟩:=CZ.1 j;exact DP (h p d) (BD hw (h q f) g)
theorem Ko (w:List (List Rat)):Be [] w:=fun x d=>by
 obtain⟨q,rfl⟩:=Cs.1 d;exact HS q w
noncomputable def BT (u:List (List Rat)) (v:Re):List (List Rat):=by
 classical
 exact if Sq u v then u else co u v::u
theorem Et {u:List (List Rat)} {v:Re} (h:Sq u v):BT u v=u:=by unfold BT;rw[if_pos h]
theorem Dk {u:List (List Rat)} {v:Re} (h:¬Sq u v):BT u v=co u v::u:=by unfold BT;rw[if_neg h]
theorem Np (u:List (List Rat)) (v:Re):u<:+BT u v:=by
 by_cases h:Sq u v
 ·rw[Et h];exact List.suffix_refl u
 rw[Dk h];exact List.suffix_cons _ _
theorem M1 {u:List (List Rat)} {v:Re} (h:Al u) (d:In u v) (f:0<v) (g:¬Sq u v):Al (co u v::u):=
 ⟨h,Cv d,by rw[E0 d];exact f,by rw[E0 d];exact g⟩
theorem S5 {u:List (List Rat)} {v:Re} (h:Al u) (g:In u v) (f:0<v):Al (BT u v):=by
 by_cases d:Sq u v
 ·rw[Et d];exact h
 rw[Dk d];exact M1 h g f d
theorem KL {u:List (List Rat)} {v:Re} (d:In u v):rt u (co u v)=Re.sqrt v:=by rw[rt,E0 d]
theorem Lf {u:List (List Rat)} {v:Re} (d:0<=v):Sq u v↔In u (Re.sqrt v):=by
 constructor
 ·rintro⟨w,hw,e⟩
  have g:=Re.GZ d;have f:=Re.H8 v
  by_cases h:0<=w
  ·rw[<-Re.KP h f (by rw[e,g])];exact hw
  rw[<-Re.KP (x:= -w) (by grind) f (by rw[g,<-e];grind)];exact Gu hw
 intro h;exact⟨_,h,Re.GZ d⟩
theorem QG {u:List (List Rat)} {v:Re} (g:In u v) (f:0<=v):In (BT u v) (Re.sqrt v):=by
 by_cases d:Sq u v
 ·rw[Et d];exact (Lf f).1 d
 rw[Dk d,<-KL g];exact IY u _
noncomputable def ext (t:List (List Rat)):List (List Rat)->List (List Rat)
 | []=>t
 | r::u=>BT (ext t u) (AP u r)
theorem OK (t:List (List Rat)):∀u,t<:+ext t u
 | []=>List.suffix_refl t
 | r::u=>List.IsSuffix.trans (OK t u) (Np _ _)
theorem Ip {t:List (List Rat)} (ht:Al t):∀{u:List (List Rat)},Al u->Al (ext t u)/\Be u (ext t u)
 | [],_=>⟨ht,Ko _⟩
 | r::u,hu=>by
  obtain⟨h,d⟩:=Ip ht hu.1;have f:=d _ (B6 hu);have g:=hu.2.2.1;have h3:=S5 h f g;exact⟨h3,JF h3 (d.trans (MO (Np _ _))) (QG f (by grind))⟩
open Classical in
noncomputable def FO (t u:List (List Rat)):List (List Rat):=if u<:+t then t else if t<:+u then u else ext t u
theorem lf {t u:List (List Rat)} (ht:Al t) (hu:Al u):Al (FO t u)/\Be t (FO t u)/\Be u (FO t u):=by
 unfold FO
 split
 ·rename_i h;exact⟨ht,Be.refl t,MO h⟩
 split
 ·rename_i h;exact⟨hu,MO h,Be.refl u⟩
 obtain⟨d,f⟩:=Ip ht hu;exact⟨d,MO (OK t u),f⟩
theorem W6:∀(v:List (List Rat)) {u:List (List Rat)} {x:Re},Al (v++u)->In u x->em (v++u) x=em u x++List.replicate (2^(v++u).length-2^u.length) (rp 0)
 | [],u,x,h,d=>by simp
 | r::v,u,x,h,d=>by
  have f:=MN v x d;have t:=W6 v h.1 d;have j:2^u.length<=2^(v++u).length:=CW (by simp);have e:em (r::v++u) x=em (v++u) x++em (v++u) 0:=Fx h f (CK _) (by grind);have o:em (v++u) 0=BN (List.replicate (2^(v++u).length) 0):=Qw h.1;rw[e,t,o,BN,List.map_replicate,List.append_assoc,List.replicate_append_replicate];have k:2^(r::v++u).length=2^(v++u).length+2^(v++u).length:=B3 r (v++u);have g:∀a b:Nat,b<=a->a-b+a=a+a-b:=fun a b h=>by omega
  rw[k,<-g _ _ j]
theorem W9 {u w:List (List Rat)} {x:Re} (h:u<:+w) (hw:Al w) (d:In u x):em w x=em u x++List.replicate (2^w.length-2^u.length) (rp 0):=by
 obtain⟨v,rfl⟩:=h;exact W6 v hw d
theorem S7 {u w:List (List Rat)} (h:u<:+w) (hw:Al w):Al u:=by
 obtain⟨v,rfl⟩:=h
 induction v with
 | nil=>exact hw
 | cons r v d=>exact d hw.1
structure Gam (T:List (List Rat)->Prop) (R C S:Nat):Prop where
 BM:∀{u},T u->BJ R u
 ht:∀{u},T u->u.length<=8
 nil:T []
 sub:∀{r u},T (r::u)->T u
 BT:∀{t r u},T t->T (r::u)->Be u t->T (BT t (AP u r))
 CG:∀{u w s x},T u->T w->Be u w->El u s x->El w (s+C) x
 fit:∀{u},T u->Fit u.length R (S+C)
 mul:∀{u},T u->2*(S+C)+EE u.length R<=60000000000000
 RS:R<=S
section
variable {T:List (List Rat)->Prop} {R C S:Nat}
theorem Gam.Iv (G:Gam T R C S) {u w:List (List Rat)} (h:u<:+w) (hw:T w):T u:=by
 obtain⟨v,rfl⟩:=h
 induction v with
 | nil=>exact hw
 | cons r v d=>exact d (G.sub hw)
theorem Gam.ext (G:Gam T R C S) {t:List (List Rat)} (ht:T t):∀{u:List (List Rat)},T u->T (ext t u)
 | [],_=>ht
 | r::u,hu=>G.BT (G.ext ht (G.sub hu)) hu (Ip (G.BM ht).red (G.BM (G.sub hu)).red).2
theorem Gam.join (G:Gam T R C S) {t u:List (List Rat)} (ht:T t) (hu:T u):T (FO t u):=by
 unfold FO
 split
 ·exact ht
 split
 ·exact hu
 exact G.ext ht hu
end
theorem JE {u:List (List Rat)} {r:List Rat} (h:Al (r::u)):El (r::u) 0 (rt u r):=by
 have d:El u 0 0:=El.rat h.1 G7;have f:El u 0 1:=El.rat h.1 fY;have:=Ns h d.mem f.mem d.bd f.bd;rw[show (0:Re)+1*rt u r=rt u r by grind] at this;exact⟨IY u r,this⟩
end Go.Abs
namespace Go.Abs
theorem Hk:∀{h h' R R':Nat},h<=h'->R<=R'->EE h R<=EE h' R'
 | 0,h',R,R',_,_=>Nat.zero_le _
 | h+1,0,R,R',d,_=>absurd d (by omega)
 | h+1,h'+1,R,R',d,hR=>by
  have:=Hk (h:=h) (h':=h') (by omega) hR;rw[EE,EE];omega
theorem IG:∀{h h' R R' s s':Nat},h<=h'->R<=R'->s<=s'->II h R s<=II h' R' s'
 | 0,0,R,R',s,s',_,_,f=>by rw[II,II];omega
 | 0,h'+1,R,R',s,s',_,_,f=>by
  have:=FT h' R' (2*s'+2*EE h' R'+R'+1);rw[II,II];omega
 | h+1,0,R,R',s,s',d,_,_=>absurd d (by omega)
 | h+1,h'+1,R,R',s,s',d,hR,f=>by
  have g:=Hk (h:=h) (h':=h') (by omega) hR;have j:=IG (h:=h) (h':=h') (s:=2*s+2*EE h R+R+1) (s':=2*s'+2*EE h' R'+R'+1) (by omega) hR (by omega);rw[II,II];omega
theorem Pk:∀{h h' R R':Nat},h<=h'->R<=R'->GG h R<=GG h' R'
 | 0,h',R,R',_,_=>by rw[GG];exact Nat.zero_le _
 | h+1,0,R,R',d,_=>absurd d (by omega)
 | h+1,h'+1,R,R',d,hR=>by
  have f:=Hk (h:=h) (h':=h') (by omega) hR;have g:=Pk (h:=h) (h':=h') (by omega) hR;have h3:=IG (h:=h) (h':=h') (s:=R) (s':=R') (by omega) hR hR;rw[GG,GG];omega
def CC:Nat->Nat->Nat->Nat->Nat
 | 0,_,_,_=>0
 | k+1,R0,h,R=>2*CC k R0 h R+R0+GG h R+EE h R+1
theorem Jf:∀{k k' R0 IJ h h' R R':Nat},k<=k'->R0<=IJ->h<=h'->R<=R'->CC k R0 h R<=CC k' IJ h' R'
 | 0,k',_,_,_,_,_,_,_,_,_,_=>by rw[CC];exact Nat.zero_le _
 | k+1,0,_,_,_,_,_,_,f,_,_,_=>absurd f (by omega)
 | k+1,k'+1,R0,IJ,h,h',R,R',f,g,d,hR=>by
  have j:=Jf (k:=k) (k':=k') (by omega) g d hR;have o:=Hk d hR;have h3:=Pk d hR;rw[CC,CC];omega
theorem Qu {D:Nat} {q:Rat} {n:Nat} (h:DN D [q]):DN D (q::List.replicate n 0):=fun z d=>by
 rcases List.mem_cons.1 d with rfl | d
 ·exact h _ List.mem_cons_self
 rw[List.eq_of_mem_replicate d];exact⟨0,by simp⟩
theorem R7 {B:Nat} {q:Rat} {n:Nat} (h:MX B [q]):MX B (q::List.replicate n 0):=fun z d=>by
 rcases List.mem_cons.1 d with rfl | d
 ·exact h _ List.mem_cons_self
 rw[List.eq_of_mem_replicate d];have:(0:Rat)<=B:=Rat.natCast_nonneg
 constructor <;> grind
theorem V4 {w:List (List Rat)} {R:Nat} (hw:Al w) (t:TB R w):∀{u:List (List Rat)} {R0:Nat},Al u->TB R0 u->Be u w->∃K:Nat,0<K/\K<=2^CC u.length R0 w.length R/\
  ∀{x:Re} {D B:Nat},In u x->(DN D (co u x)->DN (D*K) (co w x))/\(MX B (co u x)->MX (B*2^CC u.length R0 w.length R) (co w x))
 | [],R0,_,_,_=>⟨1,by decide,by simp[CC],fun {x D B} V=>by
  obtain⟨q,rfl⟩:=Cs.1 V;rw[Dl,Hs q hw,Nat.mul_one];refine⟨Qu,fun h=>?_⟩;rw[show B*2^CC ([]:List (List Rat)).length R0 w.length R=B by simp[CC]];exact R7 h⟩
 | r::u,R0,h,Y,o=>by
  obtain⟨K,hK,g,hb⟩:=V4 hw t h.1 Y.tail o.tail;obtain⟨E,J,L,hm⟩:=Js hw t;obtain⟨X,G,H,I,Q⟩:=Y.head;have hr:=Ct h;have U:=B6 h;have d:=o.root;have b1:=hb (D:=X) (B:=2^R0) U;rw[FL h] at b1
  have hv:Bd (R0+CC u.length R0 w.length R) (co w (AP u r)):=by
   refine⟨X*K,Nat.mul_pos G hK,?_,b1.1 I,?_⟩
   ·rw[Nat.pow_add];exact Nat.mul_le_mul H g
   rw[Nat.pow_add];exact b1.2 Q
  obtain⟨F,hF,N,M,O⟩:=QT hw t d hr hv;refine⟨K*(F*E),Nat.mul_pos hK (Nat.mul_pos hF J),?_,fun {x D B} V=>?_⟩
  ·have Z:=Nat.mul_le_mul g (Nat.mul_le_mul N L);simp only[<-Nat.pow_add] at Z;exact Nat.le_trans Z (CW (by rw[List.length_cons,CC];omega))
  obtain⟨p,q,v,A,rfl⟩:=CZ.1 V;rw[C4 h v A rfl,DN.app,MX.app];have k:=o.tail _ v;have f:=o.tail _ A;refine⟨fun j=>?_,fun j=>?_⟩
  ·have k1:=(hb (B:=0) v).1 j.1;have k2:=(hb (B:=0) A).1 j.2;have W:=hm f d k2 M;exact DN.F5 hw k (BD hw f d) (k1.dvd ⟨F*E,by grind⟩) (W.dvd ⟨1,by grind⟩)
  have k1:=(hb (D:=0) v).2 j.1;have k2:=(hb (D:=0) A).2 j.2;have W:=H2 hw t f d k2 O;refine (MX.F5 hw k (BD hw f d) k1 W).mono ?_
  have e:B*2^CC u.length R0 w.length R*2^(R0+CC u.length R0 w.length R+GG w.length R)*2^EE w.length R=B*2^(CC u.length R0 w.length R+(R0+CC u.length R0 w.length R+GG w.length R)+EE w.length R):=by
   rw[Nat.mul_assoc,Nat.mul_assoc,<-Nat.pow_add,<-Nat.pow_add];congr 2;omega
  rw[e,<-Nat.mul_add];refine Nat.mul_le_mul_left B ?_;have e2:CC (r::u).length R0 w.length R=CC u.length R0 w.length R+(R0+CC u.length R0 w.length R+GG w.length R)+EE w.length R+1:=by rw[List.length_cons,CC];omega
  have h3:2^CC u.length R0 w.length R<=2^(CC u.length R0 w.length R+(R0+CC u.length R0 w.length R+GG w.length R)+EE w.length R):=CW;rw[e2,Nat.pow_succ];omega
theorem El.CG {w u:List (List Rat)} {R R0 s:Nat} {x:Re} (hw:Al w) (t:TB R w) (hu:Al u) (h:TB R0 u) (g:Be u w) (d:El u s x):El w (s+CC u.length R0 w.length R) x:=by
 obtain⟨K,r,f,hb⟩:=V4 hw t hu h g;obtain⟨D,j,k,h3,o⟩:=d.bd;refine⟨g _ d.mem,D*K,Nat.mul_pos j r,?_,(hb (B:=0) d.mem).1 h3,?_⟩
 ·rw[Nat.pow_add];exact Nat.mul_le_mul k f
 rw[Nat.pow_add];exact (hb (D:=0) d.mem).2 o
inductive Tf (P:List (List Rat)->Prop):List (List Rat)->Prop
 | nil:Tf P []
 | BT {u:List (List Rat)} {r0:List Rat} {u0:List (List Rat)}:Tf P u->P (r0::u0)->Be u0 u->Tf P (BT u (AP u0 r0))
structure CY (P:List (List Rat)->Prop) (R0:Nat):Prop where
 red:∀{u},P u->Al u
 tb:∀{u},P u->TB R0 u
 sub:∀{r u},P (r::u)->P u
section
variable {P:List (List Rat)->Prop} {R0:Nat}
theorem Tf.red (I:CY P R0) {u:List (List Rat)} (h:Tf P u):Al u:=by
 induction h with
 | nil=>trivial
 | BT _ d f g=>exact S5 g (f _ (B6 (I.red d))) (I.red d).2.2.1
theorem fF {u:List (List Rat)} {r:List Rat} (h:Al (r::u)):BT u (AP u r)=r::u:=by rw[Dk h.2.2.2,FL h]
theorem Tf.of (I:CY P R0):∀{u:List (List Rat)},P u->Tf P u
 | [],_=> .nil
 | r::u,h=>by
  have:=Tf.BT (Tf.of I (I.sub h)) h (Be.refl u);rwa [fF (I.red h)] at this
theorem Tf.gen (I:CY P R0) {w:List (List Rat)} (h:Tf P w):∀{r:List Rat} {u:List (List Rat)},w=r::u->Tf P u/\∃f d,P (f::d)/\AP d f=AP u r/\Be d u:=by
 induction h with
 | nil=>intro r u e;cases e
 | @BT t f d ht j g o=>
  intro r u e
  by_cases k:Sq t (AP d f)
  ·rw[Et k] at e;exact o e
  rw[Dk k] at e;obtain⟨rfl,rfl⟩:=List.cons.inj e;exact⟨ht,f,d,j,(E0 (g _ (B6 (I.red j)))).symm,g⟩
theorem Tf.sub (I:CY P R0) {r:List Rat} {u:List (List Rat)} (h:Tf P (r::u)):Tf P u:=(h.gen I rfl).1
theorem Tf.QF (I:CY P R0) {t u:List (List Rat)} {r:List Rat} (ht:Tf P t) (h:Tf P (r::u)) (f:Be u t):Tf P (Go.Abs.BT t (AP u r)):=by
 obtain⟨_,j,k,g,e,d⟩:=h.gen I rfl;rw[<-e];exact .BT ht g (d.trans f)
theorem S6:∀{u:List (List Rat)},Al u->Be u []->u=[]
 | [],_,_=>rfl
 | r::u,h,d=>by
  have hu:=S6 h.1 d.tail;subst hu;exact absurd ⟨_,d.root,Ct h⟩ h.2.2.2
theorem ZZ {r q:List Rat} {s:List Rat} (h:Al [q,r]) (B:Al [s]) (D:Be [q,r] [s]):False:=by
 have u:=h.1;obtain⟨a,b,ha,hb,e⟩:=CZ.1 D.tail.root;have G:=Ct u;have v:=Ct B;have g:Al ([]:List (List Rat)):=trivial
 by_cases o:b=0
 ·exact u.2.2.2 ⟨a,ha,by rw[<-G,e,o];grind⟩
 obtain⟨d,F,I⟩:=E1 g hb o
 by_cases k:a=0
 ·have j:In [r] (rt [] s):=by
   have:rt [] s=d*rt [] r:=by rw[e,k];grind
   rw[this];exact BD u (Fj F) (IY [] r)
  have A:Be [s] [r]:=JF u (Ko _) j;exact h.2.2.2 ⟨_,A _ D.root,Ct h⟩
 obtain⟨c,hc,H⟩:=E1 g ha k
 have K:Re.ofRat (1/2)*(1+1)=1:=by
  rw[show (1:Re)=Re.ofRat 1 from rfl,<-Re.ofRat_add,<-Re.ofRat_mul,show (1/2:Rat)*(1+1)=1 by decide +kernel]
 have J:=B6 u;have hw:=B6 B
 have key:rt [] s=(AP [] r-a*a-b*b*AP [] s)*(c*d*Re.ofRat (1/2)):=by
  rw[<-G,<-v,e];generalize rt [] s=t at *;generalize Re.ofRat (1/2)=f at *;grind
 have j:In [] (rt [] s):=by
  rw[key];exact BD g (Fi (Fi J (BD g ha ha)) (BD g (BD g hb hb) hw)) (BD g (BD g hc F) (HS _ []))
 exact B.2.2.2 ⟨_,j,v⟩
def RR (R0:Nat):Nat->Nat
 | 0=>R0
 | h+1=>max (RR R0 h) (R0+CC (min h 2) R0 h (RR R0 h))
theorem Uu {R0 h h':Nat} (d:h<=h'):RR R0 h<=RR R0 h':=by
 induction d with
 | refl=>exact Nat.le_refl _
 | step _ f=>exact Nat.le_trans f (Nat.le_max_left _ _)
theorem TB.mono {R R':Nat} {u:List (List Rat)} (h:TB R u) (hR:R<=R'):TB R' u:=fun r d=>(h r d).mono hR
theorem Tf.tb (I:CY P R0) (hm:∀{u},Tf P u->u.length<=3) {u:List (List Rat)} (h:Tf P u):TB (RR R0 u.length) u:=by
 induction h with
 | nil=>intro r j;simp at j
 | @BT u F f ht g o A=>
  by_cases D:Sq u (AP f F)
  ·rw[Et D];exact A
  have B:=hm (Tf.BT ht g o);have v:=hm (Tf.of I g);rw[Dk D] at B ⊢;rw[List.length_cons] at B v;intro r j;rcases List.mem_cons.1 j with rfl | j
  ·have d:=I.red g;have t:El f R0 (AP f F):=⟨B6 d,by rw[FL d];exact (I.tb g).head⟩;have:=(t.CG (ht.red I) A d.1 (I.tb g).tail o).bd;refine this.mono ?_;rw[List.length_cons,RR]
   have H:f.length<=min u.length 2:=by
    have G:f.length<=2:=by omega
    cases u with
    | nil=>rw[S6 d.1 o];exact Nat.zero_le _
    | cons s J=>
     cases J with
     | nil=>
      cases f with
      | nil=>exact Nat.zero_le _
      | cons q K=>
       cases K with
       | nil=>exact Nat.le_refl 1
       | cons r L=>
        have:L=[]:=List.eq_nil_of_length_eq_zero (by simp only[List.length_cons] at G;omega);subst this;exact (ZZ d.1 (ht.red I) o).elim
     | cons _ _=>simp only[List.length_cons];omega
   have:=Jf (k:=f.length) (k':=min u.length 2) (R0:=R0) (IJ:=R0) (h:=u.length) (h':=u.length) (R:=RR R0 u.length) (R':=RR R0 u.length) H (Nat.le_refl _) (Nat.le_refl _) (Nat.le_refl _);omega
  exact (A r j).mono (Uu (by rw[List.length_cons];omega))
theorem Tf.Q6 (I:CY P R0) (hm:∀{u},Tf P u->u.length<=3) {R C S:Nat} (hR:RR R0 3<=R) (g:R<=S) (v:CC 3 R 3 R<=C) (j:∀h,h<=3->Fit h R (S+C)) (A:2*(S+C)+EE 3 R<=60000000000000):Gam (Tf P) R C S:=by
 have d:∀{u},Tf P u->TB R u:=fun {u} h=>(h.tb I hm).mono (Nat.le_trans (Uu (hm h)) hR)
 refine⟨fun {u} h=>⟨h.red I,d h,by omega,by have:=hm h;omega⟩,fun {u} h=>by have:=hm h;omega,.nil,fun {r u} h=>h.sub I,fun {t r u} ht h f=>ht.QF I h f,fun {u w s x} hu hw f o=>?_,fun {u} h=>j _ (hm h),fun {u} h=>?_,g⟩
 ·refine (o.CG (hw.red I) (d hw) (hu.red I) (d hu) f).mono ?_;have:=Jf (k:=u.length) (k':=3) (R0:=R) (IJ:=R) (h:=w.length) (h':=3) (R:=R) (R':=R) (hm hu) (Nat.le_refl _) (hm hw) (Nat.le_refl _);omega
 have:=Hk (h:=u.length) (h':=3) (R:=R) (R':=R) (hm h) (Nat.le_refl _);omega
def BO:List (List Rat)->List Re
 | []=>[]
 | r::u=>AP u r::BO u
theorem Je:∀u:List (List Rat),(BO u).length=u.length
 | []=>rfl
 | r::u=>by rw[BO,List.length_cons,List.length_cons,Je u]
theorem Lp:∀{u:List (List Rat)} {v:Re},v∈BO u->In u (Re.sqrt v)
 | [],v,h=>by simp[BO] at h
 | r::u,v,h=>by
  rcases List.mem_cons.1 h with rfl | h
  ·exact IY u r
  exact Fj (Lp h)
theorem HH:∀{u:List (List Rat)},Al u->(BO u).Nodup
 | [],_=>List.nodup_nil
 | r::u,h=>by
  rw[BO,List.nodup_cons];refine⟨fun hm=>h.2.2.2 ⟨_,Lp hm,Re.GZ (by have:=h.2.2.1;grind)⟩,HH h.1⟩
theorem Tf.BO (I:CY P R0) {V:List Re} (hV:∀{u},P u->∀v∈BO u,v∈V) {u:List (List Rat)} (h:Tf P u):∀v∈Go.Abs.BO u,v∈V:=by
 induction h with
 | nil=>intro v d;simp[Go.Abs.BO] at d
 | @BT u o r ht f k j=>
  by_cases g:Sq u (AP r o)
  ·rw[Et g];exact j
  rw[Dk g];intro v d;rcases List.mem_cons.1 d with rfl | d
  ·rw[E0 (k _ (B6 (I.red f)))];exact hV f _ List.mem_cons_self
  exact j v d
theorem JR {α:Type}:∀{l m:List α},l.Nodup->(∀x∈l,x∈m)->l.length<=m.length
 | [],_,_,_=>Nat.zero_le _
 | x::l,m,h,hm=>by
  rw[List.nodup_cons] at h;obtain⟨a,b,rfl⟩:=List.append_of_mem (hm x List.mem_cons_self)
  have:=JR (l:=l) (m:=a++b) h.2 (fun y f=>by
   have g:=hm y (List.mem_cons_of_mem _ f);rcases List.mem_append.1 g with d | d
   ·exact List.mem_append_left _ d
   rcases List.mem_cons.1 d with rfl | d
   ·exact absurd f h.1
   exact List.mem_append_right _ d)
  rw[List.length_cons,List.length_append,List.length_cons];rw[List.length_append] at this;omega
theorem Tf.len (I:CY P R0) {V:List Re} (hV:∀{u},P u->∀v∈Go.Abs.BO u,v∈V) {u:List (List Rat)} (h:Tf P u):u.length<=V.length:=by
 rw[<-Je];exact JR (HH (h.red I)) (h.BO I hV)
end
end Go.Abs
namespace Go.Abs
def GP (k i:Nat):Bool:=k/2^i%2==1
def C1 (i:Nat):Nat->List Rat->Bool
 | _,[]=>false
 | k,q::l=>(GP k i&&q !=0)||C1 i (k+1) l
def Bw (i:Nat):Nat->List Rat->List Rat
 | _,[]=>[]
 | k,q::l=>if GP k i=true then Bw i (k+1) l else q::Bw i (k+1) l
variable {w:List (List Rat)} {x:Re}
theorem SI (i:Nat):∀(k:Nat) (a b:List Rat),C1 i k (a++b)=(C1 i k a||C1 i (k+a.length) b)
 | k,[],b=>by simp[C1]
 | k,q::a,b=>by
  rw[List.cons_append,C1,C1,SI i (k+1) a b,List.length_cons,Bool.or_assoc,show k+1+a.length=k+(a.length+1) by omega]
theorem PW (i:Nat):∀(k:Nat) (a b:List Rat),Bw i k (a++b)=Bw i k a++Bw i (k+a.length) b
 | k,[],b=>by simp[Bw]
 | k,q::a,b=>by
  rw[List.cons_append,Bw,Bw,PW i (k+1) a b,List.length_cons,show k+1+a.length=k+(a.length+1) by omega]
  split <;> simp
theorem WG (k i c:Nat):GP (k+2^(i+1)*c) i=GP k i:=by
 unfold GP;rw[Nat.pow_succ,Nat.mul_assoc,Nat.add_mul_div_left _ _ (Nat.two_pow_pos i),Nat.add_mul_mod_self_left]
theorem Yv (i c:Nat):∀(k:Nat) (l:List Rat),C1 i (k+2^(i+1)*c) l=C1 i k l
 | _,[]=>rfl
 | k,q::l=>by
  rw[C1,C1,WG,show k+2^(i+1)*c+1=k+1+2^(i+1)*c by omega,Yv i c (k+1) l]
theorem bL (i c:Nat):∀(k:Nat) (l:List Rat),Bw i (k+2^(i+1)*c) l=Bw i k l
 | _,[]=>rfl
 | k,q::l=>by
  rw[Bw,Bw,WG,show k+2^(i+1)*c+1=k+1+2^(i+1)*c by omega,bL i c (k+1) l]
theorem fq {k i:Nat} (h:k<2^i):GP k i=false:=by unfold GP;rw[Nat.div_eq_of_lt h];rfl
theorem WD {k i:Nat} (h:2^i<=k) (d:k<2^i+2^i):GP k i=true:=by
 unfold GP
 have:k/2^i=1:=by
  rw[Nat.div_eq_iff (Nat.two_pow_pos i)];omega
 rw[this];rfl
theorem bK (i:Nat):∀(k:Nat) (l:List Rat),k+l.length<=2^i->Bw i k l=l
 | _,[],_=>rfl
 | k,q::l,h=>by
  rw[List.length_cons] at h;rw[Bw,fq (by omega),bK i (k+1) l (by omega)];rfl
theorem bI (i:Nat):∀(k:Nat) (l:List Rat),2^i<=k->k+l.length<=2^i+2^i->Bw i k l=[]
 | _,[],_,_=>rfl
 | k,q::l,h,d=>by
  rw[List.length_cons] at d;rw[Bw,WD h (by omega),bI i (k+1) l (by omega) (by omega)];rfl
theorem Yu (i:Nat):∀(k:Nat) (l:List Rat),2^i<=k->k+l.length<=2^i+2^i->C1 i k l=false->∀q∈l,q=0
 | _,[],_,_,_=>by simp
 | k,q::l,h,f,h3=>by
  rw[List.length_cons] at f;rw[C1,WD h (by omega)] at h3;simp only[Bool.true_and,Bool.or_eq_false_iff,bne_eq_false_iff_eq] at h3;intro x d;rcases List.mem_cons.1 d with rfl | d
  ·exact h3.1
  exact Yu i (k+1) l (by omega) (by omega) h3.2 x d
theorem PX (i:Nat):∀(k:Nat) (l:List Rat),∀q∈Bw i k l,q∈l
 | _,[],q,h=>h
 | k,x::l,q,h=>by
  rw[Bw] at h
  split at h
  ·exact List.mem_cons_of_mem _ (PX i (k+1) l q h)
  rcases List.mem_cons.1 h with rfl | h
  ·exact List.mem_cons_self
  exact List.mem_cons_of_mem _ (PX i (k+1) l q h)
theorem W1 {r:List Rat} {u:List (List Rat)}:∀{v:List (List Rat)},Al (v++r::u)->(∀s∈v,C1 u.length 0 s=false)->
  Al (v.map (Bw u.length 0)++u)/\Be (v.map (Bw u.length 0)++u) (v++r::u)/\(∀x∈BO (v.map (Bw u.length 0)++u),x∈BO (v++r::u))/\
  ∀{x:Re},In (v++r::u) x->C1 u.length 0 (co (v++r::u) x)=false->In (v.map (Bw u.length 0)++u) x/\co (v.map (Bw u.length 0)++u) x=Bw u.length 0 (co (v++r::u) x)
 | [],h,_=>by
  refine⟨h.1,fun x d=>Fj d,fun x d=>List.mem_cons_of_mem _ d,fun {x} d B=>?_⟩;obtain⟨p,q,o,A,rfl⟩:=CZ.1 d;have e:=C4 h o A rfl;have D:=Cv o;have Q:=Cv A;simp only[List.nil_append,List.map_nil] at*;rw[e,SI,D,Nat.zero_add,Bool.or_eq_false_iff] at B;have G:q=0:=(MK h.1 A).1 (Yu _ _ _ (Nat.le_refl _) (by omega) B.2);subst G;have ex:p+0*rt u r=p:=by grind
  rw[e,PW,D,Nat.zero_add,bK _ _ _ (by omega),bI _ _ _ (Nat.le_refl _) (by omega),List.append_nil,ex];exact⟨o,rfl⟩
 | s::v,h,B=>by
  have h:Al (s::(v++r::u)):=h;obtain⟨M,J,h3,F⟩:=W1 (v:=v) h.1 (fun t ht=>B t (List.mem_cons_of_mem _ ht));have H:=B s List.mem_cons_self;have I:In (v++r::u) (AP (v++r::u) s):=B6 h
  show Al (Bw u.length 0 s::(v.map (Bw u.length 0)++u))/\Be (Bw u.length 0 s::(v.map (Bw u.length 0)++u)) (s::(v++r::u))/\(∀x∈BO (Bw u.length 0 s::(v.map (Bw u.length 0)++u)),x∈BO (s::(v++r::u)))/\
   ∀{x:Re},In (s::(v++r::u)) x->C1 u.length 0 (co (s::(v++r::u)) x)=false->In (Bw u.length 0 s::(v.map (Bw u.length 0)++u)) x/\co (Bw u.length 0 s::(v.map (Bw u.length 0)++u)) x=Bw u.length 0 (co (s::(v++r::u)) x)
  have cs:co (v++r::u) (AP (v++r::u) s)=s:=FL h;obtain⟨k1,k2⟩:=F I (by rw[cs];exact H);rw[cs] at k2;have f:AP (v.map (Bw u.length 0)++u) (Bw u.length 0 s)=AP (v++r::u) s:=by rw[<-k2,E0 k1]
  have j:Al (Bw u.length 0 s::(v.map (Bw u.length 0)++u)):=by
   refine⟨M,by rw[<-k2];exact Cv k1,by rw[f];exact h.2.2.1,?_⟩;rw[f]
   rintro⟨w,hw,e⟩
   exact h.2.2.2 ⟨w,J w hw,e⟩
  have g:rt (v.map (Bw u.length 0)++u) (Bw u.length 0 s)=rt (v++r::u) s:=by rw[rt,rt,f]
  have hlen:2^(v++r::u).length=2^(u.length+1)*2^v.length:=by rw[<-Nat.pow_add];congr 1;simp;omega
  refine⟨j,JF h (J.trans fun x d=>Fj d) (by rw[g];exact IY _ _),fun x d=>?_,fun {x} d k=>?_⟩
  ·rcases List.mem_cons.1 d with rfl | d
   ·exact List.mem_cons.2 (.inl f)
   exact List.mem_cons_of_mem _ (h3 x d)
  obtain⟨p,q,o,A,rfl⟩:=CZ.1 d;have e:=C4 h o A rfl;have D:=Cv o;rw[e,SI,D,hlen,Yv,Bool.or_eq_false_iff] at k;obtain⟨K,N⟩:=F o k.1;obtain⟨L,O⟩:=F A k.2;rw[<-g];refine⟨CZ.2 ⟨p,q,K,L,rfl⟩,?_⟩;rw[g,e,PW,D,hlen,bL,<-N,<-O,<-g];exact C4 j K L rfl
def Lk (i:Nat) (s:List (List Rat)×List Rat):List (List Rat)×List Rat:=
 if (C1 i 0 s.2||(s.1.drop (i+1)).any (C1 i 0))=true then s else (s.1.take i++(s.1.drop (i+1)).map (Bw i 0),Bw i 0 s.2)
def Hf:Nat->List (List Rat)×List Rat->List (List Rat)×List Rat
 | 0,s=>s
 | i+1,s=>Hf i (Lk i s)
structure IK (w:List (List Rat)) (x:Re) (w':List (List Rat)):Prop where
 red:Al w'
 mem:In w' x
 CG:Be w' w
 BO:∀v∈BO w',v∈BO w
 len:w'.length<=w.length
 H5:∀s∈w',∀q∈s,∃t∈w,q∈t
 cos:∀q∈co w' x,q∈co w x
theorem IK.refl (h:Al w) (g:In w x):IK w x w:=⟨h,g,Be.refl w,fun _ h=>h,Nat.le_refl _,fun s f q d=>⟨s,f,d⟩,fun _ h=>h⟩
theorem IK.trans {w' f:List (List Rat)} (h:IK w x w') (k:IK w' x f):IK w x f:=
 ⟨k.red,k.mem,k.CG.trans h.CG,fun v j=>h.BO v (k.BO v j),Nat.le_trans k.len h.len,fun s g q d=>by
  obtain⟨t,ht,d⟩:=k.H5 s g q d;exact h.H5 t ht q d,fun q d=>h.cos q (k.cos q d)⟩
theorem az {i:Nat} (h:Al w) (j:In w x) (D:i<w.length):∃w',Lk i (w.reverse,co w x)=(w'.reverse,co w' x)/\IK w x w'/\i<=w'.length:=by
 unfold Lk
 split
 ·exact⟨w,rfl,.refl h j,by omega⟩
 rename_i hc
 obtain⟨v,r,u,rfl,rfl⟩:∃v r u,w=v++r::u/\i=u.length:=by
  refine⟨w.take (w.length-1-i),w[w.length-1-i]'(by omega),w.drop (w.length-1-i+1),?_,by rw[List.length_drop];omega⟩;rw[<-List.drop_eq_getElem_cons,List.take_append_drop]
 have d:(v++r::u).reverse=u.reverse++r::v.reverse:=by simp
 have B:(v++r::u).reverse.drop (u.length+1)=v.reverse:=by
  rw[d,show u.reverse++r::v.reverse=(u.reverse++[r])++v.reverse by simp];exact List.drop_left' (by simp)
 have ht:(v++r::u).reverse.take u.length=u.reverse:=by
  rw[d];exact List.take_left' (by simp)
 simp only[B,ht,Bool.not_eq_true,Bool.or_eq_false_iff] at hc ⊢
 obtain⟨k,o,h3,A⟩:=W1 h (fun s f=>by
  have:=List.any_eq_false.1 hc.2 s (List.mem_reverse.2 f);simpa using this)
 obtain⟨k1,k2⟩:=A j hc.1;refine⟨v.map (Bw u.length 0)++u,?_,⟨k,k1,o,h3,by simp,fun s f q g=>?_,fun q g=>?_⟩,by simp⟩
 ·rw[k2,List.reverse_append,List.map_reverse]
 ·rcases List.mem_append.1 f with f | f
  ·obtain⟨t,ht,rfl⟩:=List.mem_map.1 f;exact⟨t,List.mem_append_left _ ht,PX _ _ _ q g⟩
  exact⟨s,List.mem_append_right _ (List.mem_cons_of_mem _ f),g⟩
 rw[k2] at g;exact PX _ _ _ q g
theorem UF:∀{i:Nat} {w:List (List Rat)} {x:Re},Al w->In w x->i<=w.length->∃w',Hf i (w.reverse,co w x)=(w'.reverse,co w' x)/\IK w x w'
 | 0,w,x,h,d,_=>⟨w,rfl,.refl h d⟩
 | i+1,w,x,h,d,g=>by
  obtain⟨k,f,t1,l1⟩:=az h d g;obtain⟨j,e2,t2⟩:=UF t1.red t1.mem l1;exact⟨j,by rw[Hf,f,e2],t1.trans t2⟩
end Go.Abs
namespace Go.Abs
open Go.RowKit
variable {a b m n p:Int} {e i:Nat}
theorem Pr.lt {x:UInt8} (_:Pr n x):x.toNat<256:=x.toNat_lt
theorem Lu.lt {x:UInt32} (_:Lu n x):x.toNat<4294967296:=x.toNat_lt
theorem Bf (k:Nat):Ag k k:=⟨rfl⟩
theorem Ag.of {k:Nat} (h:n=k):Ag n k:=⟨h⟩
theorem BS (h:true=(a==b)):a=b:=by simpa using h.symm
theorem BR (h:false=(a==b)):a≠b:=by simpa using h.symm
theorem DR (h:true=(a !=b)):a≠b:=by simpa using h.symm
theorem DQ (h:false=(a !=b)):a=b:=by simpa using h.symm
theorem BL (h:true=decide (a<b)):a<b:=by simpa using h.symm
theorem BK (h:false=decide (a<b)):b<=a:=by simpa using h.symm
theorem K4 (h:true=decide (a<=b)):a<=b:=by simpa using h.symm
theorem Kz (h:false=decide (a<=b)):b<a:=by simpa using h.symm
theorem Cd (h:true=decide (a>b)):b<a:=by simpa using h.symm
theorem Cc (h:false=decide (a>b)):a<=b:=by simpa using h.symm
theorem F1 (h:true=decide (a >= b)):b<=a:=by simpa using h.symm
theorem F0 (h:false=decide (a >= b)):a<b:=by simpa using h.symm
theorem FY {a:Bool} (h:true= !a):a=false:=by simpa using h.symm
theorem FX {a:Bool} (h:false= !a):a=true:=by simpa using h.symm
theorem WC {a b:Bool} (h:true=(a==b)):a=b:=by simpa using h.symm
theorem WB {a b:Bool} (h:false=(a==b)):a≠b:=by simpa using h.symm
theorem WI {a b:Bool} (h:true=(a !=b)):a≠b:=by simpa using h.symm
theorem WH {a b:Bool} (h:false=(a !=b)):a=b:=by simpa using h.symm
theorem wrap_u32 (h:n=IntKind.u32.wrap m):n=m%4294967296:=h
theorem wrap_u64 (h:n=IntKind.u64.wrap m):n=m%18446744073709551616:=h
theorem wrap_i64 (h:n=IntKind.i64.wrap m):n=(m+9223372036854775808)%18446744073709551616-9223372036854775808:=by
 have e:IntKind.i64.wrap m=if (true&&decide (m%18446744073709551616 >= 9223372036854775808))=true then m%18446744073709551616-18446744073709551616 else m%18446744073709551616:=rfl
 rw[h,e]
 split
 ·rename_i hc
  simp only[Bool.true_and,decide_eq_true_eq] at hc;omega
 rename_i hc
 simp only[Bool.true_and,decide_eq_true_eq] at hc;omega
theorem FI (h:n=a.fdiv (2^e)) (d:2^e=p):n=a/p:=by
 rw[h,<-d,Int.fdiv_eq_ediv_of_nonneg _ (by have:=Int.pow_pos (n:=2) (m:=e) (by decide);omega)]
theorem KN (h:n=IntKind.u64.wrap (a*2^e)) (d:2^e=p):n=(a*p)%18446744073709551616:=by rw[<-d];exact h
theorem AS {α:Type} {l:List α} (h:i<l.length):∃x,l[i]? =some x:=⟨l[i],by simp[h]⟩
theorem CU (h:0<=n/\n<4294967296):∃w:UInt32,Lu n w:=⟨UInt32.ofNat n.toNat,⟨by rw[UInt32.toNat_ofNat'];omega⟩⟩
theorem CT {w:UInt32} (h:Lu n w):BX Bl [.int .u32 n] (cells .u32 w):=by
 refine⟨?_,trivial⟩
 show AC.int .u32 _=AC.int .u32 n
 rw[h.eq]
theorem Gs {α:Type} {l:List α} {x:α} (h:l[i]? =some x):i<l.length:=by
 apply Classical.byContradiction;intro d;rw[List.getElem?_eq_none (by omega)] at h;exact absurd h (by simp)
theorem C7 {α:Type} {l:List α} {x:α} (h:l[i]? =some x):l.take (i+1)=l.take i++[x]:=by
 have d:=Gs h;rw[List.take_succ_eq_append_getElem d];rw[List.getElem?_eq_getElem d] at h;rw[Option.some.inj h]
theorem EK {t:T} {l m:List (el t)} {n k:Nat} (h:l=m) (d:n=k):AC.own t l n=AC.own t m k:=by rw[h,d]
end Go.Abs
namespace Go.Abs
open Go.RowKit
variable {a b n:Nat} {c y:Int} {l m z:List UInt32}
theorem Ff (X:AI l=n) (G:z=AW n):CF 322 [.one (.sl .u32 l)] (.one (.sl .u32 z)):=by
 have G:CR l=z:=by rw[G,<-X,NL]
 refine AO Tryz.func322 fun E hE=>?_
 conv=>cbv
 refine .inr ?_;obtain⟨M,r⟩:=xJ fun vs N k=>∃m:List UInt32,vs=[.one (.sl .u32 m)]/\CR m=z/\k=m.length
 refine⟨[],[0],[],M,⟨l.length,by rw[r];exact⟨l,rfl,G,rfl⟩⟩,?_⟩;intro vs N Z K;rw[r] at K;obtain⟨m,rfl,t,W⟩:=K;conv=>cbv
 rintro n4 ⟨e4,f4⟩;conv=>cbv
 intro n5 I;conv=>cbv
 cases n5 <;> conv=>cbv
 ·have Y:=Cc I;have D:m=[]:=List.eq_nil_of_length_eq_zero (by omega);exact AF ⟨⟨rfl,congrArg _ (by rw[<-t,D];rfl),trivial⟩,trivial⟩
 have Y:=Cd I;rintro n9 ⟨e9,f9⟩;conv=>cbv
 intro f U;conv=>cbv
 refine AQ ?_;obtain⟨g,d⟩:=AS (l:=m) (i:=(f).toNat) (by omega);refine⟨g,fun _=>⟨by omega,d⟩,?_⟩;try conv=>cbv
 intro a2 o;have O:=o.eq;have f12:=o.lt;conv=>cbv
 intro H v;conv=>cbv
 cases H <;> conv=>cbv
 ·have A:=BR v;have F:g≠0:=fun h=>by subst h;exact A o.eq
  have e2:m=m.take (f).toNat++[g]:=by have:=C7 d;rw[List.take_of_length_le (by omega)] at this;exact this
  exact AF ⟨⟨rfl,congrArg _ (by rw[<-t,e2,Lj F]),trivial⟩,trivial⟩
 have A:=BS v;refine .inr ?_;rintro a5 ⟨Q,f17⟩;conv=>cbv
 intro a6 V;conv=>cbv
 refine AQ ?_;intro a1 L;conv=>cbv
 refine AM ?_;intro B J;conv=>cbv
 intro u j;conv=>cbv
 refine⟨u.length,?_,?_⟩
 ·rw[j];simp;omega
 rw[r];have el:u=m.take (f).toNat:=by rw[j,show B=(f).toNat by omega];simp
 refine⟨u,rfl,?_,rfl⟩;obtain rfl:g=0:=UInt32.toNat_inj.1 (by show _=0;omega)
 have e2:m=m.take (f).toNat++[0]:=by
  have:=C7 d;rw[List.take_of_length_le (by omega)] at this;exact this
 rw[el,<-t];conv=>rhs;rw[e2]
 rw[KR]
theorem Xq (x:Int):CF 349 [.one (.int .i64 x)] (.one (.bool false)):=by
 refine AO Tryz.func349 fun E f=>?_
 conv=>cbv
 intro g d;conv=>cbv
 exact AF ⟨⟨rfl,congrArg _ (by rw[d];simp),trivial⟩,trivial⟩
theorem Xr (x:Int):CF 374 [.one (.int .u32 x)] (.one (.bool false)):=by
 refine AO Tryz.func374 fun E f=>?_
 conv=>cbv
 intro g d;conv=>cbv
 exact AF ⟨⟨rfl,congrArg _ (by rw[d];simp),trivial⟩,trivial⟩
theorem Uj {x:Int} (hc:c=Bv x y):CF 320 [.one (.int .i64 x),.one (.int .i64 y)] (.one (.int .i64 c)):=by
 refine AO Tryz.func320 fun E o=>?_
 conv=>cbv
 refine AB o (Xq _) ?_;conv=>cbv
 refine AB o (Xq _) ?_;conv=>cbv
 intro j d;conv=>cbv
 cases j <;> conv=>cbv
 ·have g:=BK d;intro k f;conv=>cbv
  cases k <;> conv=>cbv
  ·have h:=Cc f;exact AF ⟨⟨rfl,congrArg _ (by rw[hc];unfold Bv;split <;> (try split) <;> omega),trivial⟩,trivial⟩
  have h:=Cd f;exact AF ⟨⟨rfl,congrArg _ (by rw[hc];unfold Bv;split <;> (try split) <;> omega),trivial⟩,trivial⟩
 have g:=BL d;exact AF ⟨⟨rfl,congrArg _ (by rw[hc];unfold Bv;split <;> (try split) <;> omega),trivial⟩,trivial⟩
theorem bc {x:Int} (hc:c=Bv x y):CF 350 [.one (.int .u32 x),.one (.int .u32 y)] (.one (.int .i64 c)):=by
 refine AO Tryz.func350 fun E o=>?_
 conv=>cbv
 refine AB o (Xr _) ?_;conv=>cbv
 refine AB o (Xr _) ?_;conv=>cbv
 intro j d;conv=>cbv
 cases j <;> conv=>cbv
 ·have g:=BK d;intro k f;conv=>cbv
  cases k <;> conv=>cbv
  ·have h:=Cc f;exact AF ⟨⟨rfl,congrArg _ (by rw[hc];unfold Bv;split <;> (try split) <;> omega),trivial⟩,trivial⟩
  have h:=Cd f;exact AF ⟨⟨rfl,congrArg _ (by rw[hc];unfold Bv;split <;> (try split) <;> omega),trivial⟩,trivial⟩
 have g:=BL d;exact AF ⟨⟨rfl,congrArg _ (by rw[hc];unfold Bv;split <;> (try split) <;> omega),trivial⟩,trivial⟩
theorem Ll {m:Nat} (hn:n<=l.length) (hl:l.length<=140737488355328) (hm:m=(CR (l.take n)).length):IE Tryz.prog 322 (.AZ .u32 0 0 0 n) (.arr 0 .u32 l) [] (.one (.AZ .u32 0 0 0 m)) (.arr 0 .u32 l):=by
 refine L6 Tryz.func322 (by kernel_rfl) rfl fun E hE=>?_
 conv=>cbv
 refine .inr ?_;obtain⟨N,j⟩:=xJ fun vs G k=>∃q:Nat,vs=[.one (.AZ .u32 0 0 0 q)]/\G=[.arr 0 .u32 l]/\q<=l.length/\m=(CR (l.take q)).length/\k=q
 refine⟨[],[0],[0],N,⟨n,by rw[j];exact⟨n,rfl,rfl,hn,hm,rfl⟩⟩,?_⟩;intro vs G a1 K;rw[j] at K;obtain⟨q,rfl,rfl,hq,o,Z⟩:=K;conv=>cbv
 intro n4 X;have e4:=X.eq;conv=>cbv
 intro n5 H;conv=>cbv
 cases n5 <;> conv=>cbv
 ·have k5:=Cc H;refine⟨fun _=>⟨⟨⟨rfl,.inr (.inr ⟨rfl,rfl,congrArg (AC.AZ .u32 0 0 0) (by rw[o,show q=0 by omega];rfl)⟩),trivial⟩,trivial⟩,rfl,by simp⟩,fun _=>rfl⟩
 have k5:=Cd H;intro n9 Y;have e9:=Y.eq;conv=>cbv
 intro a2 V;conv=>cbv
 refine AQ ?_;refine AM ?_;intro r L;conv=>cbv
 obtain⟨t,d⟩:=AS (l:=l) (i:=r) (by omega);refine⟨t,fun _=>d,?_⟩;try conv=>cbv
 intro a5 g;have Q:=g.eq;have f12:=g.lt;conv=>cbv
 intro D u;conv=>cbv
 cases D <;> conv=>cbv
 ·have v:=BR u;have B:t≠0:=fun h=>by subst h;exact v g.eq
  refine⟨fun _=>⟨⟨⟨rfl,.inr (.inr ⟨rfl,rfl,congrArg (AC.AZ .u32 0 0 0) (by rw[o,show q=r+1 by omega,C7 d,Lj B,List.length_append,List.length_take];simp;omega)⟩),trivial⟩,trivial⟩,rfl,by simp⟩,fun _=>rfl⟩
 have v:=BS u;refine .inr ?_;intro a6 A;have U:=A.eq;conv=>cbv
 intro a7 W;conv=>cbv
 refine AQ ?_;refine AM ?_;intro O I;conv=>cbv
 rintro F f ⟨M,J⟩;conv=>cbv
 refine⟨f,?_,?_⟩
 ·omega
 rw[j];obtain rfl:F=0:=by omega
 refine⟨f,rfl,rfl,by omega,?_,rfl⟩;obtain rfl:t=0:=UInt32.toNat_inj.1 (by show _=0;omega);rw[o,show q=f+1 by omega,C7 (x:=0) (by rw[show f=r by omega];exact d),KR]
theorem ZA {zn:Nat} (hl:l=AW a) (hm:m=AW b) (hz:z=AW (a+b)) (ao:zn=z.length) (sl:l.length<=17592186044416) (sm:m.length<=17592186044416):CF 371 [.one (.sl .u32 l),.one (.sl .u32 m)] (.one (.own .u32 z zn)):=by
 refine AO Tryz.func371 fun E hE=>?_
 conv=>cbv
 rintro aX ⟨aL,f10⟩;conv=>cbv
 rintro aY ⟨aM,f12⟩;conv=>cbv
 intro aC a8;conv=>cbv
 obtain⟨aw,F⟩:=xK fun vs bl=>∃(p q:Nat) (x y:List UInt32),vs=[.one (.sl .u32 x),.one (.sl .u32 y)]/\x=AW p/\y=AW q/\p+q=a+b/\y.length<=x.length/\x.length<=17592186044416
 refine .inl ⟨[0,1],[],aw,?_,?_⟩
 ·intro vs bl hj;rw[F] at hj;obtain⟨p,q,x,y,rfl,hx,hy,N,an,aV⟩:=hj;conv=>cbv
  rintro aZ ⟨aN,f17⟩;conv=>cbv
  intro b0 aS;conv=>cbv
  refine AQ ?_;refine⟨fun _=>⟨by omega,by omega,by show _*4<=140737488355328;omega⟩,?_⟩;intro Y (Z:List UInt32) V;have O:=V.1;have v:Z=List.replicate Y (0:el .u32):=V.2;have aK:Z.length=Y:=by rw[v,List.length_replicate]
  conv=>cbv
  intro aD X;have aO:=X.eq;have f21:=X.le;conv=>cbv
  refine .inr ?_
  obtain⟨J0,M⟩:∃J:List AV->List AR->Nat->Prop,J=fun vs bl k=>∃(o:List UInt32) (n c' i':Nat) (c L i:Int),vs=[.one (.sl .u32 x),.one (.sl .u32 y),.one (.AZ .u32 19 0 0 n),.one (.int .u64 c),.one (.sl .u32 x),.one (.int .i64 L),.one (.int .i64 i)]/\
   bl=[.arr 0 .u32 o]/\(n=o.length/\o.length=i'/\DX L x.length/\Ag i i'/\i'<=x.length/\Ag c c'/\c'<=1)/\
   AI o+2^(32*i')*c'=AI (x.take i')+AI (y.take i')/\k=x.length-i':=⟨_,rfl⟩
  refine⟨[],[0,1,5,6,20,21,22],[19],J0,⟨x.length-0,by rw[M];exact⟨Z,Y,0,0,0,aD,0,rfl,rfl,⟨by rw[v,List.length_replicate],by rw[v,List.length_replicate,O];rfl,X,Bf 0,by omega,Bf 0,by omega⟩,by rw[v,O];simp[AI],rfl⟩⟩,?_⟩;intro vs bl aW hj;rw[M] at hj;obtain⟨o,n,c',i',c,L,i,rfl,rfl,⟨hn,ho,hL,hi,aU,hc,aT⟩,hinv,r⟩:=hj;conv=>cbv
  have eL:=hL.eq;have ei:=hi.eq;have ec:=hc.eq;intro aE aa;conv=>cbv
  cases aE <;> conv=>cbv
  ·have az:=BK aa;intro E2 aj;conv=>cbv
   refine .inr ?_;cases E2 <;> conv=>cbv
   ·have aB:=Cc aj;have r:i'=x.length:=by omega
    have g:AI o=p+q:=by rw[r,EJ (Nat.le_refl _),EJ an,hx,hy,BW,BW,show c'=0 by omega] at hinv;omega
    exact AF ⟨⟨rfl,.inr (.inl ⟨_,_,by decide,rfl,rfl,hn,rfl,EK (by rw[hz,<-N];exact (WL g (by rw[ho,r,hx])).symm) (by rw[ao,hz,<-N,<-WL g (by rw[ho,r,hx])])⟩),trivial⟩,trivial⟩
   have aB:=Cd aj;intro aG ak;conv=>cbv
   have ak:=wrap_u32 ak;obtain⟨A,H⟩:=CU (n:=aG) (by omega);have aI:=H.eq;have aJ:=H.lt;refine⟨[A],fun _=>⟨rfl,by decide,rfl,⟨rfl,CT H,trivial⟩⟩,.inl ?_⟩;try conv=>cbv
   refine .inl ⟨[A],fun _=>⟨rfl,by (first | rfl | omega),⟨_,rfl,by simp <;> omega,by simp⟩,by show (o.length+1)*4<=140737488355328;(try simp only[List.length_take,List.length_drop]);omega⟩,?_⟩;intro (aq:List UInt32) aH W;have Q:aq=(o:List UInt32)++([A]:List UInt32):=W.1;have al:aH=List.length (α:=UInt32) aq:=W.2;conv=>cbv
   have r:i'=x.length:=by omega
   have g:AI (o++[A])=p+q:=by rw[FC,show A.toNat=c' by omega,ho,<-BW p,<-BW q,<-hx,<-hy];rw[r,EJ (Nat.le_refl _),EJ an] at hinv;rw[r];exact hinv
   have hw:A.toNat≠0:=by omega
   exact AF ⟨⟨rfl,.inr (.inl ⟨_,_,by decide,rfl,rfl,al,rfl,EK (by rw[hz,<-N,<-g,Qa hw,Q]) (by rw[ao,hz,<-N,<-g,Qa hw,Q])⟩),trivial⟩,trivial⟩
  have az:=BL aa;refine .inr ?_;obtain⟨a5,I⟩:=AS (l:=x) (i:=i') (by omega);refine⟨a5,fun _=>⟨by omega,by rw[show (i).toNat=i' by omega];exact I⟩,?_⟩;try conv=>cbv
  intro b1 ab;have aP:=ab.eq;have f26:=ab.lt;conv=>cbv
  intro b2 ad;conv=>cbv
  have ad:=wrap_u64 ad;intro ar ae;conv=>cbv
  have ae:=wrap_u64 ae;rintro b3 ⟨aQ,f33⟩;conv=>cbv
  intro aF af;conv=>cbv
  refine .inr ?_;cases aF <;> conv=>cbv
  ·have aA:=BK af;intro a1 B;conv=>cbv
   have B:=wrap_u32 B;obtain⟨f,d⟩:=CU (n:=a1) (by omega);have a6:=d.eq;have a7:=d.lt;refine⟨[f],fun _=>⟨rfl,by decide,rfl,⟨rfl,CT d,trivial⟩⟩,.inl ?_⟩;try conv=>cbv
   refine .inl ⟨[f],fun _=>⟨rfl,by (first | rfl | omega),⟨_,rfl,by simp <;> omega,by simp⟩,by show (o.length+1)*4<=140737488355328;(try simp only[List.length_take,List.length_drop]);omega⟩,?_⟩;intro (t:List UInt32) K j;have h:t=(o:List UInt32)++([f]:List UInt32):=j.1;have G:K=List.length (α:=UInt32) t:=j.2;conv=>cbv
   intro u D;conv=>cbv
   refine AM ?_;have D:=FI (p:=4294967296) D rfl;intro a2 ax;conv=>cbv
   refine AQ ?_;refine⟨x.length-(i'+1),?_,?_⟩
   ·omega
   rw[M];refine⟨t,K,u.toNat,i'+1,u,L,a2,rfl,rfl,⟨G,by rw[h];simp;omega,hL,⟨by omega⟩,by omega,⟨by omega⟩,by omega⟩,?_,rfl⟩;rw[h,Cq I,EJ (l:=y) (i:=i'+1) (by omega)];have hs:=N0 (xi:=a5.toNat) (yi:=0) (s:=ar.toNat) (w:=f) ho hinv (by omega) (by omega);rw[show u.toNat=ar.toNat/4294967296 by omega];rw[hs];rw[EJ (l:=y) (i:=i') (by omega)];omega
  have aA:=BL af;obtain⟨av,U⟩:=AS (l:=y) (i:=i') (by omega);refine⟨av,fun _=>⟨by omega,by rw[show (i).toNat=i' by omega];exact U⟩,?_⟩;try conv=>cbv
  intro b4 ag;have aR:=ag.eq;have f39:=ag.lt;conv=>cbv
  intro b5 ah;conv=>cbv
  have ah:=wrap_u64 ah;intro au ai;conv=>cbv
  have ai:=wrap_u64 ai;intro a1 B;conv=>cbv
  have B:=wrap_u32 B;obtain⟨f,d⟩:=CU (n:=a1) (by omega);have a6:=d.eq;have a7:=d.lt;refine⟨[f],fun _=>⟨rfl,by decide,rfl,⟨rfl,CT d,trivial⟩⟩,.inl ?_⟩;try conv=>cbv
  refine .inl ⟨[f],fun _=>⟨rfl,by (first | rfl | omega),⟨_,rfl,by simp <;> omega,by simp⟩,by show (o.length+1)*4<=140737488355328;(try simp only[List.length_take,List.length_drop]);omega⟩,?_⟩;intro (t:List UInt32) K j;have h:t=(o:List UInt32)++([f]:List UInt32):=j.1;have G:K=List.length (α:=UInt32) t:=j.2;conv=>cbv
  intro u D;conv=>cbv
  refine AM ?_;have D:=FI (p:=4294967296) D rfl;intro a2 ax;conv=>cbv
  refine AQ ?_;refine⟨x.length-(i'+1),?_,?_⟩
  ·omega
  rw[M];refine⟨t,K,u.toNat,i'+1,u,L,a2,rfl,rfl,⟨G,by rw[h];simp;omega,hL,⟨by omega⟩,by omega,⟨by omega⟩,by omega⟩,?_,rfl⟩;rw[h,Cq I,Cq U];have hs:=N0 (xi:=a5.toNat) (yi:=av.toNat) (s:=au.toNat) (w:=f) ho hinv (by omega) (by omega);rw[show u.toNat=au.toNat/4294967296 by omega];rw[hs]
 cases aC <;> conv=>cbv
 ·have ay:=BK a8;rw[F];exact⟨a,b,_,_,rfl,hl,hm,rfl,by omega,by omega⟩
 have ay:=BL a8;rw[F];exact⟨b,a,_,_,rfl,hm,hl,Nat.add_comm _ _,by omega,by omega⟩
theorem Y9 (d:l=AW a) (hm:m=AW b) (f:z=AW (a+b)) (sl:l.length<=17592186044416) (g:m.length<=17592186044416):CF 371 [.one (.sl .u32 l),.one (.sl .u32 m)] (.one (.sl .u32 z)):=Dc (ZA d hm f rfl sl g)
end Go.Abs
namespace Go.Abs
open Go.RowKit
variable {b:Bool} {l z:List UInt32} {x:Int}
theorem F4 {n:Bool} (o:x=if n=true then -(AI l:Int) else AI l) (h:BH x b z):CF 292 [.one (.bool n),.one (.sl .u32 l)] (.agg (Bi b z)):=by
 refine AO Tryz.func292 fun E t=>?_
 conv=>cbv
 obtain⟨v,d⟩:=xU (AW (AI l));refine AB t (Ff rfl d) ?_;conv=>cbv
 intro B g;have A:=g.eq;have f8:=g.le;conv=>cbv
 intro u k;conv=>cbv
 cases u <;> conv=>cbv
 ·have r:=BR k;have j:AI l≠0:=fun e=>r (by have:=g.eq;rw[d,e] at this;exact this)
  have f:BH x n v:= .val d.symm o (fun e=>absurd e j);exact AF ⟨⟨rfl,congrArg _ ((f.uniq h rfl).1.symm),congrArg _ ((f.uniq h rfl).2.symm),trivial⟩,trivial⟩
 have r:=BS k;have j:AI l=0:=by have e:=g.eq;rw[d] at e;exact GB.1 (List.length_eq_zero_iff.1 (by omega))
 have f:BH x false []:= .val (n:=0) rfl (by rw[o,j];simp) (fun _=>rfl);exact AF ⟨⟨rfl,congrArg _ ((f.uniq h rfl).1.symm),.inr (.inl ⟨_,congrArg _ ((f.uniq h rfl).2.symm)⟩),trivial⟩,trivial⟩
theorem Kr {n:Int} {k:Nat} (H:Ag n k) (M:k<18446744073709551616) (I:z=AW k):CF 293 [.one (.int .u64 n)] (.one (.sl .u32 z)):=by
 have L:=H.eq;refine AO Tryz.func293 fun E G=>?_
 conv=>cbv
 intro n4 A;conv=>cbv
 have A:=wrap_u32 A;intro N B;conv=>cbv
 refine AM ?_;have B:=FI (p:=4294967296) B rfl;intro K D;conv=>cbv
 have D:=wrap_u32 D;obtain⟨g,d⟩:=CU (n:=n4) (by omega);have r:=d.eq;have u:=d.lt;obtain⟨h,f⟩:=CU (n:=K) (by omega);have t:=f.eq;have v:=f.lt;refine⟨[g,h],fun _=>⟨rfl,by decide,rfl,⟨rfl,CT d,⟨rfl,CT f,trivial⟩⟩⟩,.inl ?_⟩;try conv=>cbv
 obtain⟨J,j⟩:=xN ((CR ([g,h].take 2)).length);obtain⟨F,o⟩:=FR (by simp) j;refine .inr (.inr (.inl ⟨[],.one (.AZ .u32 0 0 0 J),.arr 0 .u32 [g,h],fun _=>⟨by first | decide | simp[Ci,Co],trivial⟩,fun _=>⟨E7 G (Ll (by simp) (by simp) j),rfl,rfl⟩,?_⟩));try conv=>cbv
 exact AF ⟨⟨rfl,.inl ⟨_,rfl,by simp;omega,congrArg _ (by rw[List.drop_zero,o,I];congr 1;simp[AI];omega)⟩,trivial⟩,trivial⟩
theorem KV (j:z=l) (v:l.length<=17592186044416):CF 291 [.one (.sl .u32 l)] (.one (.sl .u32 z)):=by
 refine AO Tryz.func291 fun E u=>?_
 conv=>cbv
 intro n4 r;conv=>cbv
 refine⟨fun o=>?_,?_⟩
 ·conv=>cbv
  have g:l=[]:=by rw[r] at o;simpa using o
  exact AF ⟨⟨rfl,.inr (.inl ⟨_,congrArg _ (by rw[j,g])⟩),trivial⟩,trivial⟩
 refine⟨[],fun _=>⟨rfl,by decide,rfl,trivial⟩,.inl ?_⟩;try conv=>cbv
 refine .inl ⟨l,fun _=>⟨rfl,by (first | rfl | omega),rfl,by show (0+l.length)*4<=140737488355328;(try simp only[List.length_take,List.length_drop]);omega⟩,?_⟩;intro (k:List UInt32) t f;have h:k=([]:List UInt32)++(l:List UInt32):=f.1;have d:t=List.length (α:=UInt32) k:=f.2;conv=>cbv
 exact AF ⟨⟨rfl,.inl ⟨_,rfl,by rw[d];simp,congrArg _ (by rw[j,d,h];simp)⟩,trivial⟩,trivial⟩
theorem NQ (H: -9223372036854775808<=x/\x<9223372036854775808) (t:BH x b z):CF 250 [.one (.int .i64 x)] (.agg (Bi b z)):=by
 refine AO Tryz.func250 fun E o=>?_
 conv=>cbv
 intro I A;conv=>cbv
 have A:=wrap_u64 A;intro G B;conv=>cbv
 refine .inr ?_;cases G <;> conv=>cbv
 ·have F:=BK B;intro u j;conv=>cbv
  obtain⟨v,f⟩:=xU (AW x.natAbs);refine AB o (Kr (Ag.of (k:=x.natAbs) (by omega)) (by omega) f) ?_;conv=>cbv
  obtain⟨g,h,d⟩:=BE (x);refine AB (r:= .agg [.bool g,.sl .u32 h]) o (F4 (by rw[f,BW,j];simp;omega) d) ?_;try conv=>cbv
  exact AF ⟨⟨rfl,congrArg _ ((d.uniq t rfl).1.symm),congrArg _ ((d.uniq t rfl).2.symm),trivial⟩,trivial⟩
 have F:=BL B;intro J D;conv=>cbv
 have D:=wrap_u64 D;intro u j;conv=>cbv
 obtain⟨v,f⟩:=xU (AW x.natAbs);refine AB o (Kr (Ag.of (k:=x.natAbs) (by omega)) (by omega) f) ?_;conv=>cbv
 obtain⟨g,h,d⟩:=BE (x);refine AB (r:= .agg [.bool g,.sl .u32 h]) o (F4 (by rw[f,BW,j];simp;omega) d) ?_;try conv=>cbv
 exact AF ⟨⟨rfl,congrArg _ ((d.uniq t rfl).1.symm),congrArg _ ((d.uniq t rfl).2.symm),trivial⟩,trivial⟩
end Go.Abs
