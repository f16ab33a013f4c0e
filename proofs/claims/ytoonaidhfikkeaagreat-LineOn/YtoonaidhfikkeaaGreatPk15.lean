/- Part 16 of a proof. Conditions: each theorem's own. -/
import Derived.Test.YtoonaidhfikkeaaGreatPk14
set_option linter.all false
set_option maxHeartbeats 8000000
namespace Go.Abs
noncomputable def At (x:Re):Int:=by
 classical
 exact if x<0 then -1 else if x=0 then 0 else 1
theorem Dp (x:Re):(x<0/\At x= -1)\/(x=0/\At x=0)\/(0<x/\At x=1):=by
 unfold At
 by_cases h:x<0
 ·rw[if_pos h];exact .inl ⟨h,rfl⟩
 rw[if_neg h]
 by_cases c:x=0
 ·rw[if_pos c];exact .inr (.inl ⟨c,rfl⟩)
 rw[if_neg c];exact .inr (.inr ⟨by grind,rfl⟩)
theorem FQ {x:Re} (h:0<x):At x=1:=by rcases Dp x with⟨a,b⟩ |⟨a,b⟩ |⟨a,b⟩ <;> grind
theorem I6 {x:Re} (h:x<0):At x= -1:=by rcases Dp x with⟨a,b⟩ |⟨a,b⟩ |⟨a,b⟩ <;> grind
theorem E0:At 0=0:=by rcases Dp 0 with⟨a,b⟩ |⟨a,b⟩ |⟨a,b⟩ <;> grind
theorem Ez {x:Re}:At x=0↔x=0:=by
 rcases Dp x with⟨a,b⟩ |⟨a,b⟩ |⟨a,b⟩ <;> rw[b]
 ·constructor
  ·intro h;omega
  intro h;grind
 ·exact⟨fun _=>a,fun _=>rfl⟩
 constructor
 ·intro h;omega
 intro h;grind
theorem Se (x y:Re):At (x*y)=At x*At y:=by
 rcases Dp x with⟨a,b⟩ |⟨a,b⟩ |⟨a,b⟩ <;> rcases Dp y with⟨c,d⟩ |⟨c,d⟩ |⟨c,d⟩ <;> rw[b,d]
 ·have:=Re.mul_pos (x:= -x) (y:= -y) (by grind) (by grind);exact FQ (by grind)
 ·rw[c,show x*0=0 by grind];exact E0
 ·have:=Re.mul_pos (x:= -x) (y:=y) (by grind) (by grind);exact I6 (by grind)
 ·rw[a,show 0*y=0 by grind];exact E0
 ·rw[a,show 0*y=0 by grind];exact E0
 ·rw[a,show 0*y=0 by grind];exact E0
 ·have:=Re.mul_pos (x:=x) (y:= -y) (by grind) (by grind);exact I6 (by grind)
 ·rw[c,show x*0=0 by grind];exact E0
 exact FQ (Re.mul_pos a c)
theorem Sd (x y:Re): -9223372036854775808<=At x*At y/\At x*At y<9223372036854775808:=by
 rcases Dp x with⟨a,b⟩ |⟨a,b⟩ |⟨a,b⟩ <;> rcases Dp y with⟨c,d⟩ |⟨c,d⟩ |⟨c,d⟩ <;> rw[b,d] <;> decide
section
variable {p q s ρ:Re}
theorem Kt (f:0<s) (h:q=0\/At p=At q):At (p+q*s)=At p:=by
 rcases h with h | h
 ·rw[h,show p+0*s=p by grind]
 rcases Dp p with⟨a,b⟩ |⟨a,b⟩ |⟨a,b⟩ <;> rcases Dp q with⟨c,d⟩ |⟨c,d⟩ |⟨c,d⟩ <;> rw[b,d] at h <;> try omega
 ·have:=Re.mul_pos (x:= -q) (y:=s) (by grind) f;rw[b];exact I6 (by grind)
 ·rw[b,a,c,show (0:Re)+0*s=0 by grind];exact E0
 have:=Re.mul_pos (x:=q) (y:=s) c f;rw[b];exact FQ (by grind)
theorem Sh (c:0<s) (h:p=0):At (p+q*s)=At q:=by
 rw[h,show 0+q*s=q*s by grind,Se,FQ c,Int.mul_one]
theorem Sg (f:0<s) (k:s*s=ρ) (g:p≠0) (j:q≠0) (h:At p≠At q):At (p+q*s)=At p*At (p*p-q*q*ρ):=by
 have e:p*p-q*q*ρ=(p-q*s)*(p+q*s):=by rw[<-k];grind
 rw[e,Se];rcases Dp p with⟨a,b⟩ |⟨a,b⟩ |⟨a,b⟩ <;> rcases Dp q with⟨c,d⟩ |⟨c,d⟩ |⟨c,d⟩ <;> rw[b,d] at h <;> first | (exact absurd rfl h) | (exact absurd a g) | (exact absurd c j) | skip
 ·have:=Re.mul_pos (x:=q) (y:=s) c f;rw[b,I6 (x:=p-q*s) (by grind)];omega
 have:=Re.mul_pos (x:= -q) (y:=s) (by grind) f;rw[b,FQ (x:=p-q*s) (by grind)];omega
end
theorem Sf (q:Rat):At (Re.ofRat q)=C0 q:=by
 have c:(0:Re)=Re.ofRat 0:=rfl;have d:C0 q=BR q.num:=rfl;rw[d];rcases Dq q.num with⟨a,b⟩ |⟨a,b⟩ |⟨a,b⟩ <;> rw[b]
 ·exact I6 (by rw[c,Re.GN];rw[Rat.lt_iff];simp;exact a)
 ·rw[Rat.num_eq_zero.1 a];exact E0
 exact FQ (by rw[c,Re.GN];rw[Rat.lt_iff];simp;exact a)
def VV:Nat->Nat->Nat->Nat
 | 0,_,s=>s
 | h+1,R,s=>VV h R (2*s+2*EE h R+R+1)
theorem FX:∀(h R:Nat) {s t:Nat},s<=t->VV h R s<=VV h R t
 | 0,_,_,_,h=>h
 | h+1,R,_,_,c=>FX h R (by omega)
theorem Du:∀(h R s:Nat),s<=VV h R s
 | 0,_,_=>Nat.le_refl _
 | h+1,R,s=>Nat.le_trans (by omega) (Du h R (2*s+2*EE h R+R+1))
theorem OP (h R s:Nat):VV h R s<=VV (h+1) R s:=FX h R (by omega)
theorem H8 {i h:Nat} (d:i<=h) (R s:Nat):VV i R s<=VV h R s:=by
 induction h with
 | zero=>rw[Nat.le_zero.1 d];exact Nat.le_refl _
 | succ h f=>
  rcases Nat.lt_or_ge i (h+1) with c | c
  ·exact Nat.le_trans (f (by omega)) (OP h R s)
  rw[show i=h+1 by omega];exact Nat.le_refl _
def pre (u:List (List Rat)) (i:Nat):List (List Rat):=u.drop (u.length-i)
theorem GQ {u:List (List Rat)} {i:Nat} (h:i<=u.length):(pre u i).length=i:=by rw[pre,List.length_drop];omega
theorem Fq {u:List (List Rat)} {i:Nat}:(tw u).take i=tw (pre u i):=by
 rw[tw,tw,pre,<-List.map_take,List.reverse_drop]
 by_cases h:i<=u.length
 ·rw[show u.length-(u.length-i)=i by omega]
 rw[show u.length-i=0 by omega,Nat.sub_zero,List.take_of_length_le (by rw[List.length_reverse];omega),List.take_of_length_le (by rw[List.length_reverse];omega)]
theorem Rr (u:List (List Rat)):pre u u.length=u:=by rw[pre,Nat.sub_self,List.drop_zero]
theorem GR {u:List (List Rat)} {i:Nat} (h:i<u.length):∃r,pre u (i+1)=r::pre u i/\(tw u)[i]? =some (AW r):=by
 refine⟨u[u.length-(i+1)]'(by omega),?_,?_⟩
 ·rw[pre,pre,List.drop_eq_getElem_cons (by omega),show u.length-(i+1)+1=u.length-i by omega]
 rw[tw,List.getElem?_map,List.getElem?_reverse h,show u.length-1-i=u.length-(i+1) by omega,List.getElem?_eq_getElem (by omega)];rfl
theorem Rz:∀{u:List (List Rat)} (n:Nat),AQ u->AQ (u.drop n)
 |u,0,h|[],_+1,h=>h
 | _::u,n+1,h=>Rz n h.1
theorem AU.pre {R:Nat} {u:List (List Rat)} (h:AU R u) (i:Nat):AU R (pre u i):=
 ⟨Rz _ h.red,fun r c=>h.tb r (List.mem_of_mem_drop c),h.hR,by have:=h.ht;rw[Go.Abs.pre,List.length_drop];omega⟩
def QQ:Nat->Nat->Nat->Nat
 | 0,_,s=>s
 | h+1,R,s=>max (QQ h R (3*s+3*EE h R+R+GG h R+3+II h R R)) (s+II h R (2*(3*s+3*EE h R+R+GG h R+3+II h R R+GG h R)+1)+EE h R)
theorem Gc:∀(h R:Nat) {s t:Nat},s<=t->II h R s<=II h R t
 | 0,_,_,_,h=>by rw[II,II];omega
 | h+1,R,s,t,c=>by
  have:=Gc h R (s:=2*s+2*EE h R+R+1) (t:=2*t+2*EE h R+R+1) (by omega);rw[II,II];omega
theorem JG:∀(h R:Nat) {s t:Nat},s<=t->QQ h R s<=QQ h R t
 | 0,_,_,_,h=>h
 | h+1,R,s,t,f=>by
  have c:=JG h R (s:=3*s+3*EE h R+R+GG h R+3+II h R R) (t:=3*t+3*EE h R+R+GG h R+3+II h R R) (by omega);have d:=Gc h R (s:=2*(3*s+3*EE h R+R+GG h R+3+II h R R+GG h R)+1) (t:=2*(3*t+3*EE h R+R+GG h R+3+II h R R+GG h R)+1) (by omega);rw[QQ,QQ];omega
theorem FV:∀(h R s:Nat),s<=QQ h R s
 | 0,_,_=>Nat.le_refl _
 | h+1,R,s=>by have:=FV h R (3*s+3*EE h R+R+GG h R+3+II h R R);rw[QQ];omega
theorem UH (h R s:Nat):QQ h R s<=QQ (h+1) R s:=by
 have:=JG h R (s:=s) (t:=3*s+3*EE h R+R+GG h R+3+II h R R) (by omega);rw[QQ];omega
theorem UG {i h:Nat} (d:i<=h) (R s:Nat):QQ i R s<=QQ h R s:=by
 induction h with
 | zero=>rw[Nat.le_zero.1 d];exact Nat.le_refl _
 | succ h f=>
  rcases Nat.lt_or_ge i (h+1) with c | c
  ·exact Nat.le_trans (f (by omega)) (UH h R s)
  rw[show i=h+1 by omega];exact Nat.le_refl _
structure Fit (h R s:Nat):Prop where
 q:QQ h R s<=60000000000000
 v:VV h R (s+GG h R)<=60000000000000
 qR:QQ h R R<=60000000000000
 vR:VV h R R<=60000000000000
theorem Fit.v0 {h R s:Nat} (f:Fit h R s):VV h R s<=60000000000000:=Nat.le_trans (FX h R (by omega)) f.v
theorem Fit.s {h R s:Nat} (f:Fit h R s):s<=60000000000000:=Nat.le_trans (FV h R s) f.q
theorem Fit.mono {h R s t:Nat} (f:Fit h R s) (ht:t<=s):Fit h R t:=⟨Nat.le_trans (JG h R ht) f.q,Nat.le_trans (FX h R (by omega)) f.v,f.qR,f.vR⟩
end Go.Abs
namespace Go.Abs
def Aq (u w:List (List Rat)):Prop:=∀x,In u x->In w x
theorem Aq.refl (u:List (List Rat)):Aq u u:=fun _ h=>h
theorem Aq.trans {u v w:List (List Rat)} (h:Aq u v) (k:Aq v w):Aq u w:=fun x c=>k x (h x c)
theorem IW:∀(v:List (List Rat)) {u:List (List Rat)},Aq u (v++u)
 | [],u=>Aq.refl u
 | _::v,_=>fun x c=>FJ (IW v x c)
theorem IY {u w:List (List Rat)} (h:u<:+w):Aq u w:=by
 obtain⟨v,rfl⟩:=h;exact IW v
theorem Aq.tail {u w:List (List Rat)} {r:List Rat} (h:Aq (r::u) w):Aq u w:=fun x c=>h x (FJ c)
theorem Aq.root {u w:List (List Rat)} {r:List Rat} (h:Aq (r::u) w):In w (rt u r):=h _ (FI u r)
theorem IX {u w:List (List Rat)} {r:List Rat} (hw:AQ w) (h:Aq u w) (f:In w (rt u r)):Aq (r::u) w:=fun x g=>by
 obtain⟨p,q,c,d,rfl⟩:=Bt.1 g;exact B6 (h p c) (Aa hw (h q d) f)
theorem Jr (w:List (List Rat)):Aq [] w:=fun x c=>by
 obtain⟨q,rfl⟩:=Bj.1 c;exact En q w
noncomputable def Ag (u:List (List Rat)) (v:Re):List (List Rat):=by
 classical
 exact if Sq u v then u else co u v::u
theorem DA {u:List (List Rat)} {v:Re} (h:Sq u v):Ag u v=u:=by unfold Ag;rw[if_pos h]
theorem DK {u:List (List Rat)} {v:Re} (h:¬Sq u v):Ag u v=co u v::u:=by unfold Ag;rw[if_neg h]
theorem JX (u:List (List Rat)) (v:Re):u<:+Ag u v:=by
 by_cases h:Sq u v
 ·rw[DA h];exact List.suffix_refl u
 rw[DK h];exact List.suffix_cons _ _
theorem R4 {u:List (List Rat)} {v:Re} (h:AQ u) (c:In u v) (d:0<v) (f:¬Sq u v):AQ (co u v::u):=
 ⟨h,CB c,by rw[DC c];exact d,by rw[DC c];exact f⟩
theorem NI {u:List (List Rat)} {v:Re} (h:AQ u) (f:In u v) (d:0<v):AQ (Ag u v):=by
 by_cases c:Sq u v
 ·rw[DA c];exact h
 rw[DK c];exact R4 h f d c
theorem Hr {u:List (List Rat)} {v:Re} (c:In u v):rt u (co u v)=Re.sqrt v:=by rw[rt,DC c]
theorem I8 {u:List (List Rat)} {v:Re} (c:0<=v):Sq u v↔In u (Re.sqrt v):=by
 constructor
 ·rintro⟨w,hw,e⟩
  have f:=Re.C1 c;have d:=Re.D6 v
  by_cases h:0<=w
  ·rw[<-Re.Fx h d (by rw[e,f])];exact hw
  rw[<-Re.Fx (x:= -w) (by grind) d (by rw[f,<-e];grind)];exact Em hw
 intro h;exact⟨_,h,Re.C1 c⟩
theorem Lm {u:List (List Rat)} {v:Re} (f:In u v) (d:0<=v):In (Ag u v) (Re.sqrt v):=by
 by_cases c:Sq u v
 ·rw[DA c];exact (I8 d).1 c
 rw[DK c,<-Hr f];exact FI u _
noncomputable def ext (t:List (List Rat)):List (List Rat)->List (List Rat)
 | []=>t
 | r::u=>Ag (ext t u) (AI u r)
theorem MJ (t:List (List Rat)):∀u,t<:+ext t u
 | []=>List.suffix_refl t
 | r::u=>List.IsSuffix.trans (MJ t u) (JX _ _)
theorem GV {t:List (List Rat)} (ht:AQ t):∀{u:List (List Rat)},AQ u->AQ (ext t u)/\Aq u (ext t u)
 | [],_=>⟨ht,Jr _⟩
 | r::u,hu=>by
  obtain⟨h,c⟩:=GV ht hu.1;have f:=c _ (Bh hu);have g:=hu.2.2.1;have d:=NI h f g;exact⟨d,IX d (c.trans (IY (JX _ _))) (Lm f (by grind))⟩
open Classical in
noncomputable def Bw (t u:List (List Rat)):List (List Rat):=if u<:+t then t else if t<:+u then u else ext t u
theorem Yi {t u:List (List Rat)} (ht:AQ t) (hu:AQ u):AQ (Bw t u)/\Aq t (Bw t u)/\Aq u (Bw t u):=by
 unfold Bw
 split
 ·rename_i h;exact⟨ht,Aq.refl t,IY h⟩
 split
 ·rename_i h;exact⟨hu,IY h,Aq.refl u⟩
 obtain⟨c,d⟩:=GV ht hu;exact⟨c,IY (MJ t u),d⟩
theorem join_self (t:List (List Rat)):Bw t t=t:=by unfold Bw;rw[if_pos (List.suffix_refl t)]
theorem QG:∀(v:List (List Rat)) {u:List (List Rat)} {x:Re},AQ (v++u)->In u x->em (v++u) x=em u x++List.replicate (2^(v++u).length-2^u.length) (rp 0)
 | [],u,x,h,c=>by simp
 | r::v,u,x,h,c=>by
  have d:=IW v x c;have l:=QG v h.1 c;have g:2^u.length<=2^(v++u).length:=Bn (by simp);have e:em (r::v++u) x=em (v++u) x++em (v++u) 0:=DL h d (BP _) (by grind);have k:em (v++u) 0=AW (List.replicate (2^(v++u).length) 0):=MF h.1;rw[e,l,k,AW,List.map_replicate,List.append_assoc,List.replicate_append_replicate];have j:2^(r::v++u).length=2^(v++u).length+2^(v++u).length:=BI r (v++u);have f:∀a b:Nat,b<=a->a-b+a=a+a-b:=fun a b h=>by omega
  rw[j,<-f _ _ g]
theorem QJ {u w:List (List Rat)} {x:Re} (h:u<:+w) (hw:AQ w) (c:In u x):em w x=em u x++List.replicate (2^w.length-2^u.length) (rp 0):=by
 obtain⟨v,rfl⟩:=h;exact QG v hw c
theorem Fs {u w:List (List Rat)} (h:u<:+w) (hw:AQ w):AQ u:=by
 obtain⟨v,rfl⟩:=h
 induction v with
 | nil=>exact hw
 | cons r v c=>exact c hw.1
structure Gam (T:List (List Rat)->Prop) (R C S:Nat):Prop where
 AL:∀{u},T u->AU R u
 ht:∀{u},T u->u.length<=8
 nil:T []
 sub:∀{r u},T (r::u)->T u
 Ag:∀{t r u},T t->T (r::u)->Aq u t->T (Ag t (AI u r))
 BF:∀{u w s x},T u->T w->Aq u w->El u s x->El w (s+C) x
 fit:∀{u},T u->Fit u.length R (S+C)
 mul:∀{u},T u->2*(S+C)+EE u.length R<=60000000000000
 RS:R<=S
section
variable {T:List (List Rat)->Prop} {R C S:Nat}
theorem Gam.GY (G:Gam T R C S) {u w:List (List Rat)} (h:u<:+w) (hw:T w):T u:=by
 obtain⟨v,rfl⟩:=h
 induction v with
 | nil=>exact hw
 | cons r v c=>exact c (G.sub hw)
theorem Gam.ext (G:Gam T R C S) {t:List (List Rat)} (ht:T t):∀{u:List (List Rat)},T u->T (ext t u)
 | [],_=>ht
 | r::u,hu=>G.Ag (G.ext ht (G.sub hu)) hu (GV (G.AL ht).red (G.AL (G.sub hu)).red).2
theorem Gam.join (G:Gam T R C S) {t u:List (List Rat)} (ht:T t) (hu:T u):T (Bw t u):=by
 unfold Bw
 split
 ·exact ht
 split
 ·exact hu
 exact G.ext ht hu
end
theorem HQ {u:List (List Rat)} {r:List Rat} (h:AQ (r::u)):El (r::u) 0 (rt u r):=by
 have c:El u 0 0:=El.rat h.1 EM;have d:El u 0 1:=El.rat h.1 WA;have:=PO h c.mem d.mem c.bd d.bd;rw[show (0:Re)+1*rt u r=rt u r by grind] at this;exact⟨FI u r,this⟩
end Go.Abs
namespace Go.Abs
theorem GZ:∀{h h' R R':Nat},h<=h'->R<=R'->EE h R<=EE h' R'
 | 0,h',R,R',_,_=>Nat.zero_le _
 | h+1,0,R,R',c,_=>absurd c (by omega)
 | h+1,h'+1,R,R',c,hR=>by
  have:=GZ (h:=h) (h':=h') (by omega) hR;rw[EE,EE];omega
theorem LK:∀{h h' R R' s s':Nat},h<=h'->R<=R'->s<=s'->II h R s<=II h' R' s'
 | 0,0,R,R',s,s',_,_,d=>by rw[II,II];omega
 | 0,h'+1,R,R',s,s',_,_,d=>by
  have:=C4 h' R' (2*s'+2*EE h' R'+R'+1);rw[II,II];omega
 | h+1,0,R,R',s,s',c,_,_=>absurd c (by omega)
 | h+1,h'+1,R,R',s,s',c,hR,d=>by
  have f:=GZ (h:=h) (h':=h') (by omega) hR;have g:=LK (h:=h) (h':=h') (s:=2*s+2*EE h R+R+1) (s':=2*s'+2*EE h' R'+R'+1) (by omega) hR (by omega);rw[II,II];omega
theorem OA:∀{h h' R R':Nat},h<=h'->R<=R'->GG h R<=GG h' R'
 | 0,h',R,R',_,_=>by rw[GG];exact Nat.zero_le _
 | h+1,0,R,R',c,_=>absurd c (by omega)
 | h+1,h'+1,R,R',c,hR=>by
  have d:=GZ (h:=h) (h':=h') (by omega) hR;have f:=OA (h:=h) (h':=h') (by omega) hR;have g:=LK (h:=h) (h':=h') (s:=R) (s':=R') (by omega) hR hR;rw[GG,GG];omega
def CC:Nat->Nat->Nat->Nat->Nat
 | 0,_,_,_=>0
 | k+1,R0,h,R=>2*CC k R0 h R+R0+GG h R+EE h R+1
theorem LJ:∀{k k' R0 H4 h h' R R':Nat},k<=k'->R0<=H4->h<=h'->R<=R'->CC k R0 h R<=CC k' H4 h' R'
 | 0,k',_,_,_,_,_,_,_,_,_,_=>by rw[CC];exact Nat.zero_le _
 | k+1,0,_,_,_,_,_,_,d,_,_,_=>absurd d (by omega)
 | k+1,k'+1,R0,H4,h,h',R,R',d,f,c,hR=>by
  have g:=LJ (k:=k) (k':=k') (by omega) f c hR;have j:=GZ c hR;have l:=OA c hR;rw[CC,CC];omega
theorem Wg {D:Nat} {q:Rat} {n:Nat} (h:DN D [q]):DN D (q::List.replicate n 0):=fun z c=>by
 rcases List.mem_cons.1 c with rfl | c
 ·exact h _ List.mem_cons_self
 rw[List.eq_of_mem_replicate c];exact⟨0,by simp⟩
theorem Xv {B:Nat} {q:Rat} {n:Nat} (h:MX B [q]):MX B (q::List.replicate n 0):=fun z c=>by
 rcases List.mem_cons.1 c with rfl | c
 ·exact h _ List.mem_cons_self
 rw[List.eq_of_mem_replicate c];have:(0:Rat)<=B:=Rat.natCast_nonneg
 constructor <;> grind
theorem PM {w:List (List Rat)} {R:Nat} (hw:AQ w) (l:TB R w):∀{u:List (List Rat)} {R0:Nat},AQ u->TB R0 u->Aq u w->∃K:Nat,0<K/\K<=2^CC u.length R0 w.length R/\
  ∀{x:Re} {D B:Nat},In u x->(DN D (co u x)->DN (D*K) (co w x))/\(MX B (co u x)->MX (B*2^CC u.length R0 w.length R) (co w x))
 | [],R0,_,_,_=>⟨1,by decide,by simp[CC],fun {x D B} N=>by
  obtain⟨q,rfl⟩:=Bj.1 N;rw[Bv,IT q hw,Nat.mul_one];refine⟨Wg,fun h=>?_⟩;rw[show B*2^CC ([]:List (List Rat)).length R0 w.length R=B by simp[CC]];exact Xv h⟩
 | r::u,R0,h,U,k=>by
  obtain⟨K,W,f,hb⟩:=PM hw l h.1 U.tail k.tail;obtain⟨E,A,G,hm⟩:=HO hw l;obtain⟨Q,v,y,z,L⟩:=U.head;have Z:=Bg h;have M:=Bh h;have c:=k.root;have b1:=hb (D:=Q) (B:=2^R0) M;rw[EP h] at b1
  have hv:Bd (R0+CC u.length R0 w.length R) (co w (AI u r)):=by
   refine⟨Q*K,Nat.mul_pos v W,?_,b1.1 z,?_⟩
   ·rw[Nat.pow_add];exact Nat.mul_le_mul y f
   rw[Nat.pow_add];exact b1.2 L
  obtain⟨F,Y,I,H,J⟩:=PT hw l c Z hv;refine⟨K*(F*E),Nat.mul_pos W (Nat.mul_pos Y A),?_,fun {x D B} N=>?_⟩
  ·have V:=Nat.mul_le_mul f (Nat.mul_le_mul I G);simp only[<-Nat.pow_add] at V;exact Nat.le_trans V (Bn (by rw[List.length_cons,CC];omega))
  obtain⟨p,q,o,t,rfl⟩:=Bt.1 N;rw[CO h o t rfl,DN.app,MX.app];have j:=k.tail _ o;have d:=k.tail _ t;refine⟨fun g=>?_,fun g=>?_⟩
  ·have k1:=(hb (B:=0) o).1 g.1;have k2:=(hb (B:=0) t).1 g.2;have O:=hm d c k2 H;exact DN.E5 hw j (Aa hw d c) (k1.dvd ⟨F*E,by grind⟩) (O.dvd ⟨1,by grind⟩)
  have k1:=(hb (D:=0) o).2 g.1;have k2:=(hb (D:=0) t).2 g.2;have O:=Fk hw l d c k2 J;refine (MX.E5 hw j (Aa hw d c) k1 O).mono ?_
  have e:B*2^CC u.length R0 w.length R*2^(R0+CC u.length R0 w.length R+GG w.length R)*2^EE w.length R=B*2^(CC u.length R0 w.length R+(R0+CC u.length R0 w.length R+GG w.length R)+EE w.length R):=by
   rw[Nat.mul_assoc,Nat.mul_assoc,<-Nat.pow_add,<-Nat.pow_add];congr 2;omega
  rw[e,<-Nat.mul_add];refine Nat.mul_le_mul_left B ?_;have X:CC (r::u).length R0 w.length R=CC u.length R0 w.length R+(R0+CC u.length R0 w.length R+GG w.length R)+EE w.length R+1:=by rw[List.length_cons,CC];omega
  have h3:2^CC u.length R0 w.length R<=2^(CC u.length R0 w.length R+(R0+CC u.length R0 w.length R+GG w.length R)+EE w.length R):=Bn (by omega);rw[X,Nat.pow_succ];omega
theorem El.BF {w u:List (List Rat)} {R R0 s:Nat} {x:Re} (hw:AQ w) (r:TB R w) (hu:AQ u) (g:TB R0 u) (f:Aq u w) (c:El u s x):El w (s+CC u.length R0 w.length R) x:=by
 obtain⟨K,o,d,hb⟩:=PM hw r hu g f;obtain⟨D,h,j,k,l⟩:=c.bd;refine⟨f _ c.mem,D*K,Nat.mul_pos h o,?_,(hb (B:=0) c.mem).1 k,?_⟩
 ·rw[Nat.pow_add];exact Nat.mul_le_mul j d
 rw[Nat.pow_add];exact (hb (D:=0) c.mem).2 l
inductive Tf (P:List (List Rat)->Prop):List (List Rat)->Prop
 | nil:Tf P []
 | Ag {u:List (List Rat)} {r0:List Rat} {u0:List (List Rat)}:Tf P u->P (r0::u0)->Aq u0 u->Tf P (Ag u (AI u0 r0))
structure De (P:List (List Rat)->Prop) (R0:Nat):Prop where
 red:∀{u},P u->AQ u
 tb:∀{u},P u->TB R0 u
 sub:∀{r u},P (r::u)->P u
section
variable {P:List (List Rat)->Prop} {R0:Nat}
theorem Tf.red (I:De P R0) {u:List (List Rat)} (h:Tf P u):AQ u:=by
 induction h with
 | nil=>trivial
 | Ag _ c d f=>exact NI f (d _ (Bh (I.red c))) (I.red c).2.2.1
theorem O6 {u:List (List Rat)} {r:List Rat} (h:AQ (r::u)):Ag u (AI u r)=r::u:=by rw[DK h.2.2.2,EP h]
theorem Tf.of (I:De P R0):∀{u:List (List Rat)},P u->Tf P u
 | [],_=> .nil
 | r::u,h=>by
  have:=Tf.Ag (Tf.of I (I.sub h)) h (Aq.refl u);rwa [O6 (I.red h)] at this
theorem Tf.gen (I:De P R0) {w:List (List Rat)} (h:Tf P w):∀{r:List Rat} {u:List (List Rat)},w=r::u->Tf P u/\∃d c,P (d::c)/\AI c d=AI u r/\Aq c u:=by
 induction h with
 | nil=>intro r u e;cases e
 | @Ag l d c ht g f k=>
  intro r u e
  by_cases j:Sq l (AI c d)
  ·rw[DA j] at e;exact k e
  rw[DK j] at e;obtain⟨rfl,rfl⟩:=List.cons.inj e;exact⟨ht,d,c,g,(DC (f _ (Bh (I.red g)))).symm,f⟩
theorem Tf.sub (I:De P R0) {r:List Rat} {u:List (List Rat)} (h:Tf P (r::u)):Tf P u:=(h.gen I rfl).1
theorem Tf.Vq (I:De P R0) {t u:List (List Rat)} {r:List Rat} (ht:Tf P t) (h:Tf P (r::u)) (d:Aq u t):Tf P (Go.Abs.Ag t (AI u r)):=by
 obtain⟨_,g,j,f,e,c⟩:=h.gen I rfl;rw[<-e];exact .Ag ht f (c.trans d)
theorem R3:∀{u:List (List Rat)},AQ u->Aq u []->u=[]
 | [],_,_=>rfl
 | r::u,h,c=>by
  have hu:=R3 h.1 c.tail;subst hu;exact absurd ⟨_,c.root,Bg h⟩ h.2.2.2
theorem Yh {r q:List Rat} {s:List Rat} (h:AQ [q,r]) (y:AQ [s]) (z:Aq [q,r] [s]):False:=by
 have o:=h.1;obtain⟨a,b,v,hb,e⟩:=Bt.1 z.tail.root;have B:=Bg o;have u:=Bg y;have g:AQ ([]:List (List Rat)):=trivial
 by_cases l:b=0
 ·exact o.2.2.2 ⟨a,v,by rw[<-B,e,l];grind⟩
 obtain⟨d,A,F⟩:=DE g hb l
 by_cases k:a=0
 ·have j:In [r] (rt [] s):=by
   have:rt [] s=d*rt [] r:=by rw[e,k];grind
   rw[this];exact Aa o (FJ A) (FI [] r)
  have x:Aq [s] [r]:=IX o (Jr _) j;exact h.2.2.2 ⟨_,x _ z.root,Bg h⟩
 obtain⟨c,G,D⟩:=DE g v k
 have I:Re.ofRat (1/2)*(1+1)=1:=by
  rw[show (1:Re)=Re.ofRat 1 from rfl,<-Re.ofRat_add,<-Re.ofRat_mul,show (1/2:Rat)*(1+1)=1 by decide +kernel]
 have H:=Bh o;have hw:=Bh y
 have key:rt [] s=(AI [] r-a*a-b*b*AI [] s)*(c*d*Re.ofRat (1/2)):=by
  rw[<-B,<-u,e];generalize rt [] s=t at *;generalize Re.ofRat (1/2)=f at *;grind
 have j:In [] (rt [] s):=by
  rw[key];exact Aa g (DQ (DQ H (Aa g v v)) (Aa g (Aa g hb hb) hw)) (Aa g (Aa g G A) (En _ []))
 exact y.2.2.2 ⟨_,j,u⟩
def RR (R0:Nat):Nat->Nat
 | 0=>R0
 | h+1=>max (RR R0 h) (R0+CC (min h 2) R0 h (RR R0 h))
theorem OJ {R0 h h':Nat} (c:h<=h'):RR R0 h<=RR R0 h':=by
 induction c with
 | refl=>exact Nat.le_refl _
 | step _ d=>exact Nat.le_trans d (Nat.le_max_left _ _)
theorem TB.mono {R R':Nat} {u:List (List Rat)} (h:TB R u) (hR:R<=R'):TB R' u:=fun r c=>(h r c).mono hR
theorem Tf.tb (I:De P R0) (hm:∀{u},Tf P u->u.length<=3) {u:List (List Rat)} (h:Tf P u):TB (RR R0 u.length) u:=by
 induction h with
 | nil=>intro r g;simp at g
 | @Ag u y d ht f j t=>
  by_cases x:Sq u (AI d y)
  ·rw[DA x];exact t
  have v:=hm (Tf.Ag ht f j);have o:=hm (Tf.of I f);rw[DK x] at v ⊢;rw[List.length_cons] at v o;intro r g;rcases List.mem_cons.1 g with rfl | g
  ·have c:=I.red f;have l:El d R0 (AI d y):=⟨Bh c,by rw[EP c];exact (I.tb f).head⟩;have:=(l.BF (ht.red I) t c.1 (I.tb f).tail j).bd;refine this.mono ?_;rw[List.length_cons,RR]
   have A:d.length<=min u.length 2:=by
    have z:d.length<=2:=by omega
    cases u with
    | nil=>rw[R3 c.1 j];exact Nat.zero_le _
    | cons s B=>
     cases B with
     | nil=>
      cases d with
      | nil=>exact Nat.zero_le _
      | cons q D=>
       cases D with
       | nil=>exact Nat.le_refl 1
       | cons r F=>
        have:F=[]:=List.eq_nil_of_length_eq_zero (by simp only[List.length_cons] at z;omega);subst this;exact (Yh c.1 (ht.red I) j).elim
     | cons _ _=>simp only[List.length_cons];omega
   have:=LJ (k:=d.length) (k':=min u.length 2) (R0:=R0) (H4:=R0) (h:=u.length) (h':=u.length) (R:=RR R0 u.length) (R':=RR R0 u.length) A (Nat.le_refl _) (Nat.le_refl _) (Nat.le_refl _);omega
  exact (t r g).mono (OJ (by rw[List.length_cons];omega))
theorem Tf.Jz (I:De P R0) (hm:∀{u},Tf P u->u.length<=3) {R C S:Nat} (hR:RR R0 3<=R) (f:R<=S) (l:CC 3 R 3 R<=C) (g:∀h,h<=3->Fit h R (S+C)) (hM:2*(S+C)+EE 3 R<=60000000000000):Gam (Tf P) R C S:=by
 have c:∀{u},Tf P u->TB R u:=fun {u} h=>(h.tb I hm).mono (Nat.le_trans (OJ (hm h)) hR)
 refine⟨fun {u} h=>⟨h.red I,c h,by omega,by have:=hm h;omega⟩,fun {u} h=>by have:=hm h;omega,.nil,fun {r u} h=>h.sub I,fun {t r u} ht h d=>ht.Vq I h d,fun {u w s x} hu hw d j=>?_,fun {u} h=>g _ (hm h),fun {u} h=>?_,f⟩
 ·refine (j.BF (hw.red I) (c hw) (hu.red I) (c hu) d).mono ?_;have:=LJ (k:=u.length) (k':=3) (R0:=R) (H4:=R) (h:=w.length) (h':=3) (R:=R) (R':=R) (hm hu) (Nat.le_refl _) (hm hw) (Nat.le_refl _);omega
 have:=GZ (h:=u.length) (h':=3) (R:=R) (R':=R) (hm h) (Nat.le_refl _);omega
def BA:List (List Rat)->List Re
 | []=>[]
 | r::u=>AI u r::BA u
theorem JB:∀u:List (List Rat),(BA u).length=u.length
 | []=>rfl
 | r::u=>by rw[BA,List.length_cons,List.length_cons,JB u]
theorem Nv:∀{u:List (List Rat)} {v:Re},v∈BA u->In u (Re.sqrt v)
 | [],v,h=>by simp[BA] at h
 | r::u,v,h=>by
  rcases List.mem_cons.1 h with rfl | h
  ·exact FI u r
  exact FJ (Nv h)
theorem K8:∀{u:List (List Rat)},AQ u->(BA u).Nodup
 | [],_=>List.nodup_nil
 | r::u,h=>by
  rw[BA,List.nodup_cons];refine⟨fun hm=>h.2.2.2 ⟨_,Nv hm,Re.C1 (by have:=h.2.2.1;grind)⟩,K8 h.1⟩
theorem Tf.BA (I:De P R0) {V:List Re} (k:∀{u},P u->∀v∈BA u,v∈V) {u:List (List Rat)} (h:Tf P u):∀v∈Go.Abs.BA u,v∈V:=by
 induction h with
 | nil=>intro v c;simp[Go.Abs.BA] at c
 | @Ag u l o ht d j g=>
  by_cases f:Sq u (AI o l)
  ·rw[DA f];exact g
  rw[DK f];intro v c;rcases List.mem_cons.1 c with rfl | c
  ·rw[DC (j _ (Bh (I.red d)))];exact k d _ List.mem_cons_self
  exact g v c
theorem Iq {α:Type}:∀{l m:List α},l.Nodup->(∀x∈l,x∈m)->l.length<=m.length
 | [],_,_,_=>Nat.zero_le _
 | x::l,m,h,hm=>by
  rw[List.nodup_cons] at h;obtain⟨a,b,rfl⟩:=List.append_of_mem (hm x List.mem_cons_self)
  have:=Iq (l:=l) (m:=a++b) h.2 (fun y d=>by
   have f:=hm y (List.mem_cons_of_mem _ d);rcases List.mem_append.1 f with c | c
   ·exact List.mem_append_left _ c
   rcases List.mem_cons.1 c with rfl | c
   ·exact absurd d h.1
   exact List.mem_append_right _ c)
  rw[List.length_cons,List.length_append,List.length_cons];rw[List.length_append] at this;omega
theorem Tf.len (I:De P R0) {V:List Re} (c:∀{u},P u->∀v∈Go.Abs.BA u,v∈V) {u:List (List Rat)} (h:Tf P u):u.length<=V.length:=by
 rw[<-JB];exact Iq (K8 (h.red I)) (h.BA I c)
end
end Go.Abs
namespace Go.Abs
def Dh (k i:Nat):Bool:=k/2^i%2==1
def Bm (i:Nat):Nat->List Rat->Bool
 | _,[]=>false
 | k,q::l=>(Dh k i&&q !=0)||Bm i (k+1) l
def Az (i:Nat):Nat->List Rat->List Rat
 | _,[]=>[]
 | k,q::l=>if Dh k i=true then Az i (k+1) l else q::Az i (k+1) l
variable {w:List (List Rat)} {x:Re}
theorem Mz (i:Nat):∀(k:Nat) (a b:List Rat),Bm i k (a++b)=(Bm i k a||Bm i (k+a.length) b)
 | k,[],b=>by simp[Bm]
 | k,q::a,b=>by
  rw[List.cons_append,Bm,Bm,Mz i (k+1) a b,List.length_cons,Bool.or_assoc,show k+1+a.length=k+(a.length+1) by omega]
theorem K9 (i:Nat):∀(k:Nat) (a b:List Rat),Az i k (a++b)=Az i k a++Az i (k+a.length) b
 | k,[],b=>by simp[Az]
 | k,q::a,b=>by
  rw[List.cons_append,Az,Az,K9 i (k+1) a b,List.length_cons,show k+1+a.length=k+(a.length+1) by omega]
  split <;> simp
theorem PZ (k i c:Nat):Dh (k+2^(i+1)*c) i=Dh k i:=by
 unfold Dh;rw[Nat.pow_succ,Nat.mul_assoc,Nat.add_mul_div_left _ _ (Nat.two_pow_pos i),Nat.add_mul_mod_self_left]
theorem RT (i c:Nat):∀(k:Nat) (l:List Rat),Bm i (k+2^(i+1)*c) l=Bm i k l
 | _,[]=>rfl
 | k,q::l=>by
  rw[Bm,Bm,PZ,show k+2^(i+1)*c+1=k+1+2^(i+1)*c by omega,RT i c (k+1) l]
theorem Ta (i c:Nat):∀(k:Nat) (l:List Rat),Az i (k+2^(i+1)*c) l=Az i k l
 | _,[]=>rfl
 | k,q::l=>by
  rw[Az,Az,PZ,show k+2^(i+1)*c+1=k+1+2^(i+1)*c by omega,Ta i c (k+1) l]
theorem WI {k i:Nat} (h:k<2^i):Dh k i=false:=by unfold Dh;rw[Nat.div_eq_of_lt h];rfl
theorem PY {k i:Nat} (h:2^i<=k) (c:k<2^i+2^i):Dh k i=true:=by
 unfold Dh
 have:k/2^i=1:=by
  rw[Nat.div_eq_iff (Nat.two_pow_pos i)];omega
 rw[this];rfl
theorem TZ (i:Nat):∀(k:Nat) (l:List Rat),k+l.length<=2^i->Az i k l=l
 | _,[],_=>rfl
 | k,q::l,h=>by
  rw[List.length_cons] at h;rw[Az,WI (by omega),TZ i (k+1) l (by omega)];rfl
theorem TX (i:Nat):∀(k:Nat) (l:List Rat),2^i<=k->k+l.length<=2^i+2^i->Az i k l=[]
 | _,[],_,_=>rfl
 | k,q::l,h,c=>by
  rw[List.length_cons] at c;rw[Az,PY h (by omega),TX i (k+1) l (by omega) (by omega)];rfl
theorem RQ (i:Nat):∀(k:Nat) (l:List Rat),2^i<=k->k+l.length<=2^i+2^i->Bm i k l=false->∀q∈l,q=0
 | _,[],_,_,_=>by simp
 | k,q::l,h,f,c=>by
  rw[List.length_cons] at f;rw[Bm,PY h (by omega)] at c;simp only[Bool.true_and,Bool.or_eq_false_iff,bne_eq_false_iff_eq] at c;intro x d;rcases List.mem_cons.1 d with rfl | d
  ·exact c.1
  exact RQ i (k+1) l (by omega) (by omega) c.2 x d
theorem LA (i:Nat):∀(k:Nat) (l:List Rat),∀q∈Az i k l,q∈l
 | _,[],q,h=>h
 | k,x::l,q,h=>by
  rw[Az] at h
  split at h
  ·exact List.mem_cons_of_mem _ (LA i (k+1) l q h)
  rcases List.mem_cons.1 h with rfl | h
  ·exact List.mem_cons_self
  exact List.mem_cons_of_mem _ (LA i (k+1) l q h)
theorem QC {r:List Rat} {u:List (List Rat)}:∀{v:List (List Rat)},AQ (v++r::u)->(∀s∈v,Bm u.length 0 s=false)->
  AQ (v.map (Az u.length 0)++u)/\Aq (v.map (Az u.length 0)++u) (v++r::u)/\(∀x∈BA (v.map (Az u.length 0)++u),x∈BA (v++r::u))/\
  ∀{x:Re},In (v++r::u) x->Bm u.length 0 (co (v++r::u) x)=false->In (v.map (Az u.length 0)++u) x/\co (v.map (Az u.length 0)++u) x=Az u.length 0 (co (v++r::u) x)
 | [],h,_=>by
  refine⟨h.1,fun x c=>FJ c,fun x c=>List.mem_cons_of_mem _ c,fun {x} c o=>?_⟩;obtain⟨p,q,k,l,rfl⟩:=Bt.1 c;have e:=CO h k l rfl;have y:=CB k;have M:=CB l;simp only[List.nil_append,List.map_nil] at*;rw[e,Mz,y,Nat.zero_add,Bool.or_eq_false_iff] at o;have A:q=0:=(IQ h.1 l).1 (RQ _ _ _ (Nat.le_refl _) (by omega) o.2);subst A;have ex:p+0*rt u r=p:=by grind
  rw[e,K9,y,Nat.zero_add,TZ _ _ _ (by omega),TX _ _ _ (Nat.le_refl _) (by omega),List.append_nil,ex];exact⟨k,rfl⟩
 | s::v,h,o=>by
  have h:AQ (s::(v++r::u)):=h;obtain⟨I,F,J,z⟩:=QC (v:=v) h.1 (fun t ht=>o t (List.mem_cons_of_mem _ ht));have B:=o s List.mem_cons_self;have D:In (v++r::u) (AI (v++r::u) s):=Bh h
  show AQ (Az u.length 0 s::(v.map (Az u.length 0)++u))/\Aq (Az u.length 0 s::(v.map (Az u.length 0)++u)) (s::(v++r::u))/\(∀x∈BA (Az u.length 0 s::(v.map (Az u.length 0)++u)),x∈BA (s::(v++r::u)))/\
   ∀{x:Re},In (s::(v++r::u)) x->Bm u.length 0 (co (s::(v++r::u)) x)=false->In (Az u.length 0 s::(v.map (Az u.length 0)++u)) x/\co (Az u.length 0 s::(v.map (Az u.length 0)++u)) x=Az u.length 0 (co (s::(v++r::u)) x)
  have cs:co (v++r::u) (AI (v++r::u) s)=s:=EP h;obtain⟨k1,k2⟩:=z D (by rw[cs];exact B);rw[cs] at k2;have d:AI (v.map (Az u.length 0)++u) (Az u.length 0 s)=AI (v++r::u) s:=by rw[<-k2,DC k1]
  have g:AQ (Az u.length 0 s::(v.map (Az u.length 0)++u)):=by
   refine⟨I,by rw[<-k2];exact CB k1,by rw[d];exact h.2.2.1,?_⟩;rw[d]
   rintro⟨w,hw,e⟩
   exact h.2.2.2 ⟨w,F w hw,e⟩
  have f:rt (v.map (Az u.length 0)++u) (Az u.length 0 s)=rt (v++r::u) s:=by rw[rt,rt,d]
  have hlen:2^(v++r::u).length=2^(u.length+1)*2^v.length:=by rw[<-Nat.pow_add];congr 1;simp;omega
  refine⟨g,IX h (F.trans fun x c=>FJ c) (by rw[f];exact FI _ _),fun x c=>?_,fun {x} c j=>?_⟩
  ·rcases List.mem_cons.1 c with rfl | c
   ·exact List.mem_cons.2 (.inl d)
   exact List.mem_cons_of_mem _ (J x c)
  obtain⟨p,q,k,l,rfl⟩:=Bt.1 c;have e:=CO h k l rfl;have y:=CB k;rw[e,Mz,y,hlen,RT,Bool.or_eq_false_iff] at j;obtain⟨G,K⟩:=z k j.1;obtain⟨H,L⟩:=z l j.2;rw[<-f];refine⟨Bt.2 ⟨p,q,G,H,rfl⟩,?_⟩;rw[f,e,K9,y,hlen,Ta,<-K,<-L,<-f];exact CO g G H rfl
def Hz (i:Nat) (s:List (List Rat)×List Rat):List (List Rat)×List Rat:=
 if (Bm i 0 s.2||(s.1.drop (i+1)).any (Bm i 0))=true then s else (s.1.take i++(s.1.drop (i+1)).map (Az i 0),Az i 0 s.2)
def E1:Nat->List (List Rat)×List Rat->List (List Rat)×List Rat
 | 0,s=>s
 | i+1,s=>E1 i (Hz i s)
structure FW (w:List (List Rat)) (x:Re) (w':List (List Rat)):Prop where
 red:AQ w'
 mem:In w' x
 BF:Aq w' w
 BA:∀v∈BA w',v∈BA w
 len:w'.length<=w.length
 EH:∀s∈w',∀q∈s,∃t∈w,q∈t
 cos:∀q∈co w' x,q∈co w x
theorem FW.refl (h:AQ w) (f:In w x):FW w x w:=⟨h,f,Aq.refl w,fun _ h=>h,Nat.le_refl _,fun s d q c=>⟨s,d,c⟩,fun _ h=>h⟩
theorem FW.trans {w' d:List (List Rat)} (h:FW w x w') (k:FW w' x d):FW w x d:=
 ⟨k.red,k.mem,k.BF.trans h.BF,fun v g=>h.BA v (k.BA v g),Nat.le_trans k.len h.len,fun s f q c=>by
  obtain⟨t,ht,c⟩:=k.EH s f q c;exact h.EH t ht q c,fun q c=>h.cos q (k.cos q c)⟩
theorem TL {i:Nat} (h:AQ w) (j:In w x) (A:i<w.length):∃w',Hz i (w.reverse,co w x)=(w'.reverse,co w' x)/\FW w x w'/\i<=w'.length:=by
 unfold Hz
 split
 ·exact⟨w,rfl,.refl h j,by omega⟩
 rename_i g
 obtain⟨v,r,u,rfl,rfl⟩:∃v r u,w=v++r::u/\i=u.length:=by
  refine⟨w.take (w.length-1-i),w[w.length-1-i]'(by omega),w.drop (w.length-1-i+1),?_,by rw[List.length_drop];omega⟩;rw[<-List.drop_eq_getElem_cons,List.take_append_drop]
 have c:(v++r::u).reverse=u.reverse++r::v.reverse:=by simp
 have z:(v++r::u).reverse.drop (u.length+1)=v.reverse:=by
  rw[c,show u.reverse++r::v.reverse=(u.reverse++[r])++v.reverse by simp];exact List.drop_left' (by simp)
 have ht:(v++r::u).reverse.take u.length=u.reverse:=by
  rw[c];exact List.take_left' (by simp)
 simp only[z,ht,Bool.not_eq_true,Bool.or_eq_false_iff] at g ⊢
 obtain⟨k,l,o,y⟩:=QC h (fun s d=>by
  have:=List.any_eq_false.1 g.2 s (List.mem_reverse.2 d);simpa using this)
 obtain⟨k1,k2⟩:=y j g.1;refine⟨v.map (Az u.length 0)++u,?_,⟨k,k1,l,o,by simp,fun s d q f=>?_,fun q f=>?_⟩,by simp⟩
 ·rw[k2,List.reverse_append,List.map_reverse]
 ·rcases List.mem_append.1 d with d | d
  ·obtain⟨t,ht,rfl⟩:=List.mem_map.1 d;exact⟨t,List.mem_append_left _ ht,LA _ _ _ q f⟩
  exact⟨s,List.mem_append_right _ (List.mem_cons_of_mem _ d),f⟩
 rw[k2] at f;exact LA _ _ _ q f
theorem Np:∀{i:Nat} {w:List (List Rat)} {x:Re},AQ w->In w x->i<=w.length->∃w',E1 i (w.reverse,co w x)=(w'.reverse,co w' x)/\FW w x w'
 | 0,w,x,h,c,_=>⟨w,rfl,.refl h c⟩
 | i+1,w,x,h,c,g=>by
  obtain⟨k,d,t1,l1⟩:=TL h c g;obtain⟨j,f,t2⟩:=Np t1.red t1.mem l1;exact⟨j,by rw[E1,d,f],t1.trans t2⟩
end Go.Abs
namespace Go.Abs
open Go.RowKit
variable {a b m n p:Int} {e i:Nat}
theorem LU.lt {x:UInt8} (_:LU n x):x.toNat<256:=x.toNat_lt
theorem H7.lt {x:UInt32} (_:H7 n x):x.toNat<4294967296:=x.toNat_lt
theorem LS.lt {x:UInt64} (_:LS n x):x.toNat<18446744073709551616:=x.toNat_lt
theorem Ah (k:Nat):AK k k:=⟨rfl⟩
theorem AK.of {k:Nat} (h:n=k):AK n k:=⟨h⟩
theorem Ad (h:true=(a==b)):a=b:=by simpa using h.symm
theorem Ab (h:false=(a==b)):a≠b:=by simpa using h.symm
theorem DS (h:true=(a !=b)):a≠b:=by simpa using h.symm
theorem DR (h:false=(a !=b)):a=b:=by simpa using h.symm
theorem AS (h:true=decide (a<b)):a<b:=by simpa using h.symm
theorem AR (h:false=decide (a<b)):b<=a:=by simpa using h.symm
theorem He (h:true=decide (a<=b)):a<=b:=by simpa using h.symm
theorem Hd (h:false=decide (a<=b)):b<a:=by simpa using h.symm
theorem Be (h:true=decide (a>b)):b<a:=by simpa using h.symm
theorem Bc (h:false=decide (a>b)):a<=b:=by simpa using h.symm
theorem DP (h:true=decide (a >= b)):b<=a:=by simpa using h.symm
theorem DO (h:false=decide (a >= b)):a<b:=by simpa using h.symm
theorem Cs {a:Bool} (h:true= !a):a=false:=by simpa using h.symm
theorem Cr {a:Bool} (h:false= !a):a=true:=by simpa using h.symm
theorem PX {a b:Bool} (h:true=(a==b)):a=b:=by simpa using h.symm
theorem PW {a b:Bool} (h:false=(a==b)):a≠b:=by simpa using h.symm
theorem Pb {a b:Bool} (h:true=(a !=b)):a≠b:=by simpa using h.symm
theorem Pa {a b:Bool} (h:false=(a !=b)):a=b:=by simpa using h.symm
theorem wrap_u32 (h:n=IntKind.u32.wrap m):n=m%4294967296:=h
theorem wrap_u64 (h:n=IntKind.u64.wrap m):n=m%18446744073709551616:=h
theorem wrap_i64 (h:n=IntKind.i64.wrap m):n=(m+9223372036854775808)%18446744073709551616-9223372036854775808:=by
 have e:IntKind.i64.wrap m=if (true&&decide (m%18446744073709551616 >= 9223372036854775808))=true then m%18446744073709551616-18446744073709551616 else m%18446744073709551616:=rfl
 rw[h,e]
 split
 ·rename_i c
  simp only[Bool.true_and,decide_eq_true_eq] at c;omega
 rename_i c
 simp only[Bool.true_and,decide_eq_true_eq] at c;omega
theorem Cv (h:n=a.fdiv (2^e)) (c:2^e=p):n=a/p:=by
 rw[h,<-c,Int.fdiv_eq_ediv_of_nonneg _ (by have:=Int.pow_pos (n:=2) (m:=e) (by decide);omega)]
theorem Gw (h:n=IntKind.u64.wrap (a*2^e)) (c:2^e=p):n=(a*p)%18446744073709551616:=by rw[<-c];exact h
theorem AG {α:Type} {l:List α} (h:i<l.length):∃x,l[i]? =some x:=⟨l[i],by simp[h]⟩
theorem BN (h:0<=n/\n<4294967296):∃w:UInt32,H7 n w:=⟨UInt32.ofNat n.toNat,⟨by rw[UInt32.toNat_ofNat'];omega⟩⟩
theorem BM {w:UInt32} (h:H7 n w):Ac Ak [.int .u32 n] (cells .u32 w):=by
 refine⟨?_,trivial⟩
 show AC.int .u32 _=AC.int .u32 n
 rw[h.eq]
theorem D9 {α:Type} {l:List α} {x:α} (h:l[i]? =some x):i<l.length:=by
 apply Classical.byContradiction;intro c;rw[List.getElem?_eq_none (by omega)] at h;exact absurd h (by simp)
theorem BJ {α:Type} {l:List α} {x:α} (h:l[i]? =some x):l.take (i+1)=l.take i++[x]:=by
 have c:=D9 h;rw[List.take_succ_eq_append_getElem c];rw[List.getElem?_eq_getElem c] at h;rw[Option.some.inj h]
theorem CM {t:T} {l m:List (el t)} {n k:Nat} (h:l=m) (c:n=k):AC.own t l n=AC.own t m k:=by rw[h,c]
end Go.Abs
