/- Part 24 of a proof. Conditions: each theorem's own. -/
import Derived.Test.YtclgfoceefhnkaaGreatDoorLk22
set_option linter.all false
set_option maxHeartbeats 80000000
set_option maxRecDepth 20000
open Go.Proofs
namespace Go.Abs
open Go.RowKit
def Ei (w:List (List Rat)) (RL:List LR):List (List Rat)->Prop
 | []=>True
 | r::u=>Ei w RL u/\∃wk,wk<:+w/\In wk (rt u r)/\RL[u.length]? =some (em wk (rt u r))
variable {A C:LR} {K R S a k mm n:Nat} {RL T:List LR} {TT:List (List Rat)->Prop} {p q x:Re} {r:List Rat} {u w:List (List Rat)}
theorem Ei.mono {w':List (List Rat)} {X:List LR} (h:w<:+w'):∀{u:List (List Rat)},Ei w RL u->Ei w' (RL++X) u
 | [],_=>trivial
 | r::u,⟨c,g,d,f,b⟩=>⟨c.mono h,g,d.trans h,f,by rw[List.getElem?_append_left (FI b)];exact b⟩
noncomputable def Dy (t:List (List Rat)):List (List Rat)->List LR
 | []=>[]
 | r::u=>Dy t u++[em (ext t (r::u)) (rt u r)]
theorem Km (t:List (List Rat)):∀u,(Dy t u).length=u.length
 | []=>rfl
 | r::u=>by rw[Dy,List.length_append,Km t u];rfl
theorem Kn {t:List (List Rat)} (ht:Ag t):∀{u:List (List Rat)},Ag u->Ei (ext t u) (Dy t u) u
 | [],_=>trivial
 | r::u,hu=>by
  refine⟨(Kn ht hu.1).mono (LW _ _),ext t (r::u),List.suffix_refl _,(IK ht hu).2.root,?_⟩;rw[Dy,List.getElem?_append_right (by rw[Km];omega),Km,Nat.sub_self];rfl
theorem OK {t:List (List Rat)} (ht:Ag t):∀{u:List (List Rat)},Ag u->Bb u t->ext t u=t
 | [],_,_=>rfl
 | r::u,hu,h=>by
  rw[ext,OK ht hu.1 h.tail];exact FR ⟨rt u r,h.root,CX hu⟩
def NL (f:FuncId) (S:Nat) (w u:List (List Rat)):Prop:=∀{T RL:List LR} {A C:LR} {x:Re},T=tw w->Ei w RL u->A=em u x->El u S x->C=em w x->
 CF f [.agg [.sl (.sl AA) T,.sl (.sl AA) RL],.one (.sl AA A)] (.one (.sl AA C))
def NM (f:FuncId) (S:Nat) (w u:List (List Rat)):Prop:=∀{T RL:List LR} {A C:LR} {x:Re} {mm:Nat},T=tw w->Ei w RL u->mm=RL.length->A=em u x->El u S x->C=em w x->
 D7 Tryz.prog f [.agg [.sl (.sl AA) T,.AQ (.sl AA) 0 0 0 mm],.one (.sl AA A)] (.arr 0 (.sl AA) RL) (.one (.sl AA C))
theorem VU {b:Nat}:2^a<2^b↔a<b:=Nat.pow_lt_pow_iff_right (by decide)
theorem I1 (c:a=2^n+2^n) (h:2^(k+1)<a):k<n:=by
 have b:a=2^(n+1):=by rw[c,Nat.pow_succ];omega
 rw[b,VU] at h;omega
theorem I0 (c:a=2^n+2^n) (h:¬2^(k+1)<a):n<=k:=by
 have b:a=2^(n+1):=by rw[c,Nat.pow_succ];omega
 rw[b,VU] at h;omega
theorem bY {u:List (List Rat)} {x:Re} (G:Gam TT R K S) (hw:TT w) (y:T=tw w) {q:Rat} (m:A=em [] (Re.ofRat q)) (z:Bt q) (s:C=em w (Re.ofRat q)):CF 341 [.agg [.sl (.sl AA) T,.sl (.sl AA) RL],.one (.sl AA A)] (.one (.sl AA C)):=by
 have d:A=[rp q]:=m.trans (Dl q);have o:A.length=1:=by rw[d];rfl
 refine AM Tryz.func341 fun E t=>?_
 conv=>cbv
 rintro D ⟨j,f10⟩;conv=>cbv
 intro g c;conv=>cbv
 cases g <;> conv=>cbv
 ·have f:=AN c;exact absurd f (by omega)
 have f:=AO c;obtain⟨h,b⟩:=AL (l:=A) (i:=0) (by omega);refine⟨h,fun _=>⟨by omega,b⟩,?_⟩;try conv=>cbv
 refine AB t (Ho (G.Ar hw) y (ED d b) z s) ?_;conv=>cbv
 refine g2 rfl ?_;exact AD ⟨t2,trivial⟩
theorem ba (G:Gam TT R K S) (hw:TT w) (hT:T=tw w) (hu:TT (r::u)) (M:Bb (r::u) w) (ih:NL 341 S w u) (hR:Ei w RL (r::u)) (J:A=em (r::u) x) (hx:El (r::u) S x) (h:x=p+q*rt u r) (Q:El u S p) (U:El u S q) (h0:q=0) (hC:C=em w x):CF 341 [.agg [.sl (.sl AA) T,.sl (.sl AA) RL],.one (.sl AA A)] (.one (.sl AA C)):=by
 have g:=(G.Ar hu).red;have l:A.length=2^u.length+2^u.length:=by rw[J,BI hx.mem,Br]
 have aw:=DR u.length;have ar:(r::u).length<=8:=G.ht hu;have ab:(r::u).length=u.length+1:=rfl;have hmul:=G.mul hw;have W:El w K (rt u r):=by have:=G.CG hu hw M (Is g);rwa [Nat.zero_add] at this
 obtain⟨wk,ax,ae,O⟩:=hR.2;obtain⟨rk,V⟩:=xR (em wk (rt u r));rw[<-V] at O;refine AM Tryz.func341 fun E hE=>?_
 conv=>cbv
 rintro aA ⟨ah,f10⟩;conv=>cbv
 intro a2 i;conv=>cbv
 cases a2 <;> conv=>cbv
 ·have z:=AN i;rintro aB ⟨ai,f19⟩;conv=>cbv
  intro a5 an;conv=>cbv
  refine g2 ⟨by omega,by omega,i64 (by omega)⟩ ?_;refine .inr ?_;obtain⟨J0,c⟩:=xJ fun vs bl k=>∃(k':Nat) (D Y:Int),vs=[.one (.sl AA A),.one (.Ae 2 0 0),.one (.int .i64 D),.one (.int .i64 Y)]/\bl=[.var 0 [.sl (.sl AA) T,.sl (.sl AA) RL]]/\(AR D (A.length/2)/\AR Y k'/\k'<=u.length)/\k=u.length-k'
  refine⟨[],[1,2,5,6],[2],J0,⟨u.length-0,by rw[c];exact⟨0,a5,0,rfl,rfl,⟨⟨by omega⟩,Ak 0,by omega⟩,rfl⟩⟩,?_⟩;intro vs bl ay hj;rw[c] at hj;obtain⟨k',D,Y,rfl,rfl,⟨m,N,av⟩,au⟩:=hj;conv=>cbv
  have ak:=m.eq;have al:=N.eq;intro aC ao;conv=>cbv
  refine AI ?_;intro aD I;conv=>cbv
  refine AH ?_;rintro aE ⟨aj,f25⟩;conv=>cbv
  have af:=(EG (k:=k'+1) I (by omega)).eq;intro a6 j;conv=>cbv
  cases a6 <;> conv=>cbv
  ·have X:=AY j;have P:k'=u.length:=by have:=I0 l (show ¬2^(k'+1)<A.length by omega);omega
   intro m32 ad;conv=>cbv
   refine AH ?_;intro H aa;conv=>cbv
   intro Z s;conv=>cbv
   have d:Z=em u p:=by rw[s,List.drop_zero,show H=A.length/2 by omega,J,CE g Q.mem U.mem h]
   obtain⟨aF,b⟩:=xR (em w (p));refine AB hE (ih hT hR.1 d Q b) ?_;conv=>cbv
   refine g2 rfl ?_;intro az y;conv=>cbv
   refine AH ?_;rintro F ag ⟨a8,o⟩;conv=>cbv
   intro a1 t;conv=>cbv
   have f:a1=em u q:=by rw[t,show F=A.length/2 by omega,o,y,List.take_length,J,B6 g Q.mem U.mem h]
   refine AB hE (Hx (G.Ar (G.sub hu)).red U.mem f h0) ?_;conv=>cbv
   exact AD ⟨⟨rfl,congrArg _ (by rw[hC,b];congr 1;rw[h,h0];clear ih;grind),trivial⟩,trivial⟩
  have X:=AZ j;refine .inr ?_;have P:k'<u.length:=I1 l (show 2^(k'+1)<A.length by omega);intro a7 aq;conv=>cbv
  refine AI ?_;refine⟨u.length-(k'+1),?_,?_⟩
  ·omega
  rw[c];exact⟨k'+1,D,a7,rfl,rfl,⟨m,⟨by omega⟩,by omega⟩,rfl⟩
 have z:=AO i;exact absurd z (by omega)
theorem bZ (G:Gam TT R K S) (hw:TT w) (J:T=tw w) (hu:TT (r::u)) (c:Bb (r::u) w) (ih:NL 341 S w u) (hR:Ei w RL (r::u)) (hA:A=em (r::u) x) (hx:El (r::u) S x) (f:x=p+q*rt u r) (W:El u S p) (t:El u S q) (h0:q≠0) (hC:C=em w x):CF 341 [.agg [.sl (.sl AA) T,.sl (.sl AA) RL],.one (.sl AA A)] (.one (.sl AA C)):=by
 have d:=(G.Ar hu).red;have F:A.length=2^u.length+2^u.length:=by rw[hA,BI hx.mem,Br]
 have aH:=DR u.length;have aE:(r::u).length<=8:=G.ht hu;have ao:(r::u).length=u.length+1:=rfl;have hmul:=G.mul hw;have b:El w K (rt u r):=by have:=G.CG hu hw c (Is d);rwa [Nat.zero_add] at this
 obtain⟨wk,aa,X,I⟩:=hR.2;obtain⟨rk,Y⟩:=xR (em wk (rt u r));rw[<-Y] at I;refine AM Tryz.func341 fun E y=>?_
 conv=>cbv
 rintro aL ⟨aw,f10⟩;conv=>cbv
 intro ag z;conv=>cbv
 cases ag <;> conv=>cbv
 ·have Z:=AN z;rintro aM ⟨ax,f19⟩;conv=>cbv
  intro ah aB;conv=>cbv
  refine g2 ⟨by omega,by omega,i64 (by omega)⟩ ?_;refine .inr ?_;obtain⟨J0,l⟩:=xJ fun vs bl k=>∃(k':Nat) (hv kk:Int),vs=[.one (.sl AA A),.one (.Ae 2 0 0),.one (.int .i64 hv),.one (.int .i64 kk)]/\bl=[.var 0 [.sl (.sl AA) T,.sl (.sl AA) RL]]/\(AR hv (A.length/2)/\AR kk k'/\k'<=u.length)/\k=u.length-k'
  refine⟨[],[1,2,5,6],[2],J0,⟨u.length-0,by rw[l];exact⟨0,ah,0,rfl,rfl,⟨⟨by omega⟩,Ak 0,by omega⟩,rfl⟩⟩,?_⟩;intro vs bl aI hj;rw[l] at hj;obtain⟨k',hv,kk,rfl,rfl,⟨H,a7,aG⟩,aF⟩:=hj;conv=>cbv
  have az:=H.eq;have aA:=a7.eq;intro aN aC;conv=>cbv
  refine AI ?_;intro aO a6;conv=>cbv
  refine AH ?_;rintro aP ⟨ay,f25⟩;conv=>cbv
  have ar:=(EG (k:=k'+1) a6 (by omega)).eq;intro ai D;conv=>cbv
  cases ai <;> conv=>cbv
  ·have ab:=AY D;have a8:k'=u.length:=by have:=I0 F (show ¬2^(k'+1)<A.length by omega);omega
   intro m32 aq;conv=>cbv
   refine AH ?_;intro a5 an;conv=>cbv
   intro ad O;conv=>cbv
   have m:ad=em u p:=by rw[O,List.drop_zero,show a5=A.length/2 by omega,hA,CE d W.mem t.mem f]
   obtain⟨aQ,g⟩:=xR (em w (p));refine AB y (ih J hR.1 m W g) ?_;conv=>cbv
   refine g2 rfl ?_;intro aJ U;conv=>cbv
   refine AH ?_;rintro a1 au ⟨ak,M⟩;conv=>cbv
   intro ae P;conv=>cbv
   have o:ae=em u q:=by rw[P,show a1=A.length/2 by omega,M,U,List.take_length,hA,B6 d W.mem t.mem f]
   refine AB y (Gv (G.Ar (G.sub hu)).red t.mem o h0) ?_;conv=>cbv
   intro aK V;conv=>cbv
   refine AH ?_;rintro a2 av ⟨al,N⟩;conv=>cbv
   intro af Q;conv=>cbv
   have s:af=em u q:=by rw[Q,show a2=A.length/2 by omega,N,V,List.take_length,hA,B6 d W.mem t.mem f]
   obtain⟨aR,h⟩:=xR (em w (q));refine AB y (ih J hR.1 s t h) ?_;conv=>cbv
   refine⟨rk,fun _=>⟨by omega,by rw[show kk.toNat=u.length by omega];exact I⟩,?_⟩;try conv=>cbv
   obtain⟨aS,i⟩:=xR (em w (rt u r));refine AB y (PH (G.Ar hw) J Y X aa i) ?_;conv=>cbv
   obtain⟨aT,j⟩:=xR (em w (q*rt u r));refine AB y (GP (G.Ar hw) J h i (G.CG (G.sub hu) hw c.tail t) b (by omega) j) ?_;conv=>cbv
   refine g2 rfl ?_;refine AB (r:= .one (.sl AA C)) y (Jg (G.Ar hw) J g j (G.CG (G.sub hu) hw c.tail W) ((G.CG (G.sub hu) hw c.tail t).mul (G.Ar hw) b) (by omega) (by omega) (by rw[hC,f])) ?_;conv=>cbv
   exact AD ⟨t2,trivial⟩
  have ab:=AZ D;refine .inr ?_;have a8:k'<u.length:=I1 F (show 2^(k'+1)<A.length by omega);intro aj aD;conv=>cbv
  refine AI ?_;refine⟨u.length-(k'+1),?_,?_⟩
  ·omega
  rw[l];exact⟨k'+1,hv,aj,rfl,rfl,⟨H,⟨by omega⟩,by omega⟩,rfl⟩
 have Z:=AO z;exact absurd Z (by omega)
theorem bc {u:List (List Rat)} {x:Re} (z:mm=RL.length) (G:Gam TT R K S) (hw:TT w) (y:T=tw w) {q:Rat} (m:A=em [] (Re.ofRat q)) (D:Bt q) (s:C=em w (Re.ofRat q)):D7 Tryz.prog 341 [.agg [.sl (.sl AA) T,.AQ (.sl AA) 0 0 0 mm],.one (.sl AA A)] (.arr 0 (.sl AA) RL) (.one (.sl AA C)):=by
 have d:A=[rp q]:=m.trans (Dl q);have o:A.length=1:=by rw[d];rfl
 refine Gz Tryz.func341 (by kernel_rfl) rfl fun E t=>?_
 conv=>cbv
 rintro F ⟨j,f10⟩;conv=>cbv
 intro g c;conv=>cbv
 cases g <;> conv=>cbv
 ·have f:=AN c;exact absurd f (by omega)
 have f:=AO c;obtain⟨h,b⟩:=AL (l:=A) (i:=0) (by omega);refine⟨h,fun _=>⟨by omega,b⟩,?_⟩;try conv=>cbv
 refine AB t (Ho (G.Ar hw) y (ED d b) D s) ?_;conv=>cbv
 refine g2 rfl ?_;refine fun _=>⟨⟨⟨t2,trivial⟩,rfl,by simp⟩,rfl⟩
theorem bg (U:mm=RL.length) (G:Gam TT R K S) (hw:TT w) (hT:T=tw w) (hu:TT (r::u)) (N:Bb (r::u) w) (ih:NM 341 S w u) (hR:Ei w RL (r::u)) (M:A=em (r::u) x) (hx:El (r::u) S x) (h:x=p+q*rt u r) (V:El u S p) (W:El u S q) (h0:q=0) (hC:C=em w x):D7 Tryz.prog 341 [.agg [.sl (.sl AA) T,.AQ (.sl AA) 0 0 0 mm],.one (.sl AA A)] (.arr 0 (.sl AA) RL) (.one (.sl AA C)):=by
 have g:=(G.Ar hu).red;have l:A.length=2^u.length+2^u.length:=by rw[M,BI hx.mem,Br]
 have ax:=DR u.length;have au:(r::u).length<=8:=G.ht hu;have ad:(r::u).length=u.length+1:=rfl;have hmul:=G.mul hw;have Y:El w K (rt u r):=by have:=G.CG hu hw N (Is g);rwa [Nat.zero_add] at this
 obtain⟨wk,ay,af,P⟩:=hR.2;obtain⟨rk,X⟩:=xR (em wk (rt u r));rw[<-X] at P;refine Gz Tryz.func341 (by kernel_rfl) rfl fun E hE=>?_
 conv=>cbv
 rintro aB ⟨ai,f10⟩;conv=>cbv
 intro a2 i;conv=>cbv
 cases a2 <;> conv=>cbv
 ·have z:=AN i;rintro aC ⟨aj,f19⟩;conv=>cbv
  intro a5 ao;conv=>cbv
  refine g2 ⟨by omega,by omega,i64 (by omega)⟩ ?_;refine .inr ?_;obtain⟨J0,c⟩:=xJ fun vs bl k=>∃(k':Nat) (F kk:Int),vs=[.one (.sl AA A),.one (.Ae 2 0 0),.one (.int .i64 F),.one (.int .i64 kk)]/\bl=[.arr 0 (.sl AA) RL,.var 0 [.sl (.sl AA) T,.AQ (.sl AA) 0 0 0 mm]]/\(AR F (A.length/2)/\AR kk k'/\k'<=u.length)/\k=u.length-k'
  refine⟨[],[1,2,5,6],[0,2],J0,⟨u.length-0,by rw[c];exact⟨0,a5,0,rfl,rfl,⟨⟨by omega⟩,Ak 0,by omega⟩,rfl⟩⟩,?_⟩;intro vs bl az hj;rw[c] at hj;obtain⟨k',F,kk,rfl,rfl,⟨m,O,aw⟩,av⟩:=hj;conv=>cbv
  have al:=m.eq;have an:=O.eq;intro aD aq;conv=>cbv
  refine AI ?_;intro aE J;conv=>cbv
  refine AH ?_;rintro aF ⟨ak,f25⟩;conv=>cbv
  have ag:=(EG (k:=k'+1) J (by omega)).eq;intro a6 j;conv=>cbv
  cases a6 <;> conv=>cbv
  ·have Z:=AY j;have Q:k'=u.length:=by have:=I0 l (show ¬2^(k'+1)<A.length by omega);omega
   intro m32 ae;conv=>cbv
   refine AH ?_;intro I ab;conv=>cbv
   intro D s;conv=>cbv
   have d:D=em u p:=by rw[s,List.drop_zero,show I=A.length/2 by omega,M,CE g V.mem W.mem h]
   obtain⟨a8,b⟩:=xR (em w (p));refine .inr (.inr (.inl ⟨0,.arr 0 (.sl AA) RL,[.agg [.sl (.sl AA) T,.AQ (.sl AA) 0 0 0 mm],.one (.sl AA D)],.one (.sl AA a8),fun _=>⟨rfl,⟨⟨rfl,⟨⟨rfl,rfl⟩,rfl⟩,trivial⟩,rfl,trivial⟩⟩,fun _=>FL hE (ih hT hR.1 U d V b),?_⟩));try conv=>cbv
   refine g2 rfl ?_;intro aA y;conv=>cbv
   refine AH ?_;rintro H ah ⟨aa,o⟩;conv=>cbv
   intro a1 t;conv=>cbv
   have f:a1=em u q:=by rw[t,show H=A.length/2 by omega,o,y,List.take_length,M,B6 g V.mem W.mem h]
   refine AB hE (Hx (G.Ar (G.sub hu)).red W.mem f h0) ?_;conv=>cbv
   refine fun _=>⟨⟨⟨⟨rfl,congrArg _ (by rw[hC,b];congr 1;rw[h,h0];clear ih;grind),trivial⟩,trivial⟩,rfl,by simp⟩,rfl⟩
  have Z:=AZ j;refine .inr ?_;have Q:k'<u.length:=I1 l (show 2^(k'+1)<A.length by omega);intro a7 ar;conv=>cbv
  refine AI ?_;refine⟨u.length-(k'+1),?_,?_⟩
  ·omega
  rw[c];exact⟨k'+1,F,a7,rfl,rfl,⟨m,⟨by omega⟩,by omega⟩,rfl⟩
 have z:=AO i;exact absurd z (by omega)
theorem bf (a5:mm=RL.length) (G:Gam TT R K S) (hw:TT w) (U:T=tw w) (hu:TT (r::u)) (c:Bb (r::u) w) (ih:NM 341 S w u) (hR:Ei w RL (r::u)) (hA:A=em (r::u) x) (hx:El (r::u) S x) (h:x=p+q*rt u r) (hp:El u S p) (H:El u S q) (h0:q≠0) (hC:C=em w x):D7 Tryz.prog 341 [.agg [.sl (.sl AA) T,.AQ (.sl AA) 0 0 0 mm],.one (.sl AA A)] (.arr 0 (.sl AA) RL) (.one (.sl AA C)):=by
 have g:=(G.Ar hu).red;have P:A.length=2^u.length+2^u.length:=by rw[hA,BI hx.mem,Br]
 have aQ:=DR u.length;have aN:(r::u).length<=8:=G.ht hu;have az:(r::u).length=u.length+1:=rfl;have hmul:=G.mul hw;have b:El w K (rt u r):=by have:=G.CG hu hw c (Is g);rwa [Nat.zero_add] at this
 obtain⟨wk,aj,a6,d⟩:=hR.2;obtain⟨rk,f⟩:=xR (em wk (rt u r));rw[<-f] at d;refine Gz Tryz.func341 (by kernel_rfl) rfl fun E M=>?_
 conv=>cbv
 rintro aU ⟨aF,f10⟩;conv=>cbv
 intro an N;conv=>cbv
 cases an <;> conv=>cbv
 ·have a8:=AN N;rintro aV ⟨aG,f19⟩;conv=>cbv
  intro ao aK;conv=>cbv
  refine g2 ⟨by omega,by omega,i64 (by omega)⟩ ?_;refine .inr ?_;obtain⟨J0,y⟩:=xJ fun vs bl k=>∃(k':Nat) (hv kk:Int),vs=[.one (.sl AA A),.one (.Ae 2 0 0),.one (.int .i64 hv),.one (.int .i64 kk)]/\bl=[.arr 0 (.sl AA) RL,.var 0 [.sl (.sl AA) T,.AQ (.sl AA) 0 0 0 mm]]/\(AR hv (A.length/2)/\AR kk k'/\k'<=u.length)/\k=u.length-k'
  refine⟨[],[1,2,5,6],[0,2],J0,⟨u.length-0,by rw[y];exact⟨0,ao,0,rfl,rfl,⟨⟨by omega⟩,Ak 0,by omega⟩,rfl⟩⟩,?_⟩;intro vs bl aR hj;rw[y] at hj;obtain⟨k',hv,kk,rfl,rfl,⟨Q,ah,aP⟩,aO⟩:=hj;conv=>cbv
  have aI:=Q.eq;have aJ:=ah.eq;intro aW aL;conv=>cbv
  refine AI ?_;intro aX ag;conv=>cbv
  refine AH ?_;rintro aY ⟨aH,f25⟩;conv=>cbv
  have aC:=(EG (k:=k'+1) ag (by omega)).eq;intro aq O;conv=>cbv
  cases aq <;> conv=>cbv
  ·have ak:=AY O;have ai:k'=u.length:=by have:=I0 P (show ¬2^(k'+1)<A.length by omega);omega
   intro m32 aB;conv=>cbv
   refine AH ?_;intro af ay;conv=>cbv
   intro aa X;conv=>cbv
   have z:aa=em u p:=by rw[X,List.drop_zero,show af=A.length/2 by omega,hA,CE g hp.mem H.mem h]
   obtain⟨au,j⟩:=xR (em w (p));refine .inr (.inr (.inl ⟨0,.arr 0 (.sl AA) RL,[.agg [.sl (.sl AA) T,.AQ (.sl AA) 0 0 0 mm],.one (.sl AA aa)],.one (.sl AA au),fun _=>⟨rfl,⟨⟨rfl,⟨⟨rfl,rfl⟩,rfl⟩,trivial⟩,rfl,trivial⟩⟩,fun _=>FL M (ih U hR.1 a5 z hp j),?_⟩));try conv=>cbv
   refine g2 rfl ?_;intro aS a1;conv=>cbv
   refine AH ?_;rintro ad aD ⟨aw,V⟩;conv=>cbv
   intro al Y;conv=>cbv
   have D:al=em u q:=by rw[Y,show ad=A.length/2 by omega,V,a1,List.take_length,hA,B6 g hp.mem H.mem h]
   refine AB M (Gv (G.Ar (G.sub hu)).red H.mem D h0) ?_;conv=>cbv
   intro aT a2;conv=>cbv
   refine AH ?_;rintro ae aE ⟨ax,W⟩;conv=>cbv
   intro ab Z;conv=>cbv
   have F:ab=em u q:=by rw[Z,show ae=A.length/2 by omega,W,a2,List.take_length,hA,B6 g hp.mem H.mem h]
   obtain⟨av,m⟩:=xR (em w (q));refine .inr (.inr (.inl ⟨0,.arr 0 (.sl AA) RL,[.agg [.sl (.sl AA) T,.AQ (.sl AA) 0 0 0 mm],.one (.sl AA ab)],.one (.sl AA av),fun _=>⟨rfl,⟨⟨rfl,⟨⟨rfl,rfl⟩,rfl⟩,trivial⟩,rfl,trivial⟩⟩,fun _=>FL M (ih U hR.1 a5 F H m),?_⟩));try conv=>cbv
   refine⟨fun _=>⟨by omega,by have:=FI d;omega⟩,?_⟩;intro a7 aA;conv=>cbv
   obtain⟨J,t⟩:=AL (l:=RL) (i:=a7) (by have:=FI d;omega);refine⟨J,fun _=>t,?_⟩;try conv=>cbv
   have I:J=rk:=by have:=t;rw[show a7=u.length by omega,d] at this;exact (Option.some.inj this).symm
   have f:J=em wk (rt u r):=I.trans f;obtain⟨aZ,o⟩:=xR (em w (rt u r));refine AB M (PH (G.Ar hw) U f a6 aj o) ?_;conv=>cbv
   obtain⟨b0,s⟩:=xR (em w (q*rt u r));refine AB M (GP (G.Ar hw) U m o (G.CG (G.sub hu) hw c.tail H) b (by omega) s) ?_;conv=>cbv
   refine g2 rfl ?_;refine AB (r:= .one (.sl AA C)) M (Jg (G.Ar hw) U j s (G.CG (G.sub hu) hw c.tail hp) ((G.CG (G.sub hu) hw c.tail H).mul (G.Ar hw) b) (by omega) (by omega) (by rw[hC,h])) ?_;conv=>cbv
   refine fun _=>⟨⟨⟨t2,trivial⟩,rfl,by simp⟩,rfl⟩
  have ak:=AZ O;refine .inr ?_;have ai:k'<u.length:=I1 P (show 2^(k'+1)<A.length by omega);intro ar aM;conv=>cbv
  refine AI ?_;refine⟨u.length-(k'+1),?_,?_⟩
  ·omega
  rw[y];exact⟨k'+1,hv,ar,rfl,rfl,⟨Q,⟨by omega⟩,by omega⟩,rfl⟩
 have a8:=AO N;exact absurd a8 (by omega)
theorem Tv (G:Gam TT R K S) (hw:TT w):∀{u:List (List Rat)},TT u->Bb u w->NL 341 S w u:=by
 intro u
 induction u with
 | nil=>
  intro hu c T RL A C x i hR g b h;obtain⟨q,rfl⟩:=CV.1 b.mem;have d:=b.B8 (by have:=G.mul hw;omega);rw[DY] at d;exact bY (u:=[]) (x:=0) G hw i g (d q List.mem_cons_self) h
 | cons r u m=>
  intro hu c T RL A C x i hR g b h;obtain⟨p,q,f,l,d⟩:=El.parts (G.Ar hu).red b
  by_cases j:q=0
  ·exact ba G hw i hu c (m (G.sub hu) c.tail) hR g b f l d j h
  exact bZ G hw i hu c (m (G.sub hu) c.tail) hR g b f l d j h
theorem imD (G:Gam TT R K S) (hw:TT w):∀{u:List (List Rat)},TT u->Bb u w->NM 341 S w u:=by
 intro u
 induction u with
 | nil=>
  intro hu d T RL A C x mm j hR b h c i;obtain⟨q,rfl⟩:=CV.1 c.mem;have f:=c.B8 (by have:=G.mul hw;omega);rw[DY] at f;exact bc (u:=[]) (x:=0) b G hw j h (f q List.mem_cons_self) i
 | cons r u o=>
  intro hu d T RL A C x mm j hR b h c i;obtain⟨p,q,g,m,f⟩:=El.parts (G.Ar hu).red c
  by_cases l:q=0
  ·exact bg b G hw j hu d (o (G.sub hu) d.tail) hR h c g m f l i
  exact bf b G hw j hu d (o (G.sub hu) d.tail) hR h c g m f l i
end Go.Abs
namespace Go.Abs
open Go.RowKit
variable {K R S:Nat} {T T2:List LR} {TT:List (List Rat)->Prop}
theorem QI {A B:LR} {R' s:Nat} {u:List (List Rat)} {v:Re} (h:Ah R u) (h':Ah R' (BM u v)) (l:(BM u v).length<=8) (g:T=tw u) (m:A=em u v) (j:El u s v) (o:Fit u.length R s) (f:0<=v) (b:T2=tw (BM u v)) (c:B=em (BM u v) (Re.sqrt v)):
  CF 227 [.one (.sl (.sl AA) T),.one (.sl AA A)] (.AJ [(false,[.sl (.sl AA) T2]),(false,[.sl AA B]),(false,[.int .i64 0])]):=by
 by_cases d:Sq u v
 ·rw[FR d] at b c;have i:T2=T:=b.trans g.symm;subst i;exact ZT h g m j o ((Px f).1 d) (Re.JT v) (Re.Hk f) c
 rw[Fu d] at h' l b c;rw[<-Pd j.mem] at c;exact ZU h g m j o (by rw[List.length_cons] at l;omega) f d rfl h' b c
theorem JI (u:List (List Rat)) (i:Nat):pre u i<:+u:=List.drop_suffix _ _
theorem Kc (u:List (List Rat)):pre u 0=[]:=by rw[pre,Nat.sub_zero,List.drop_length]
theorem EM (p:Prop):∃b:Bool,(b=true↔p):=by
 by_cases h:p
 ·exact⟨true,by simp[h]⟩
 exact⟨false,by simp[h]⟩
theorem Nt {X Y:List LR} {u w:List (List Rat)} {c:Bool} (hu:Ah R u) (hw:Ah R w) (b:X=tw u) (d:Y=tw w) (h:c=true↔w<:+u):CF 282 [.one (.sl (.sl AA) X),.one (.sl (.sl AA) Y)] (.one (.bool c)):=by
 cases c with
 | true=>exact Zz hu hw b d (h.1 rfl)
 | false=>exact Zy hu hw b d (fun k=>by have:=h.2 k;cases this)
noncomputable def nm (n:List (List Rat)×Re):el An:=(tw n.1,em n.1 n.2)
noncomputable def Bi (ns:List (List (List Rat)×Re)):List (List Rat):=ns.foldl (fun t n=>E2 t n.1) []
theorem cB (ns:List (List (List Rat)×Re)) (n:List (List Rat)×Re):Bi (ns++[n])=E2 (Bi ns) n.1:=by
 rw[Bi,List.foldl_append];rfl
theorem UL {ns:List (List (List Rat)×Re)} {i:Nat} {n:List (List Rat)×Re} (h:ns[i]? =some n):Bi (ns.take (i+1))=E2 (Bi (ns.take i)) n.1:=by
 rw[Ck h,cB]
theorem G3 {X:List (el An)} {ns:List (List (List Rat)×Re)} {i:Nat} {x:el An} (c:X=ns.map nm) (b:X[i]? =some x):∃u y,x.1=tw u/\x.2=em u y/\ns[i]? =some (u,y):=by
 rw[c,List.getElem?_map] at b;cases h:ns[i]? with
 | none=>rw[h] at b;simp at b
 | some n=>
  rw[h] at b;have e:nm n=x:=Option.some.inj b;exact⟨n.1,n.2,by rw[<-e];rfl,by rw[<-e];rfl,rfl⟩
theorem Gam.Bi (G:Gam TT R K S):∀{ns:List (List (List Rat)×Re)},(∀n∈ns,TT n.1)->TT (Bi ns):=by
 have key:∀(ns:List (List (List Rat)×Re)) (t:List (List Rat)),TT t->(∀n∈ns,TT n.1)->TT (ns.foldl (fun t n=>E2 t n.1) t):=by
  intro ns
  induction ns with
  | nil=>intro t ht _;exact ht
  | cons n ns b=>intro t ht h;exact b _ (G.join ht (h n List.mem_cons_self)) (fun m hm=>h m (List.mem_cons_of_mem _ hm))
 intro ns h;exact key ns [] G.nil h
theorem OE (G:Gam TT R K S) {ns:List (List (List Rat)×Re)} (h:∀n∈ns,TT n.1):∀n∈ns,Bb n.1 (Go.Abs.Bi ns):=by
 have key:∀(ns:List (List (List Rat)×Re)) (t:List (List Rat)),TT t->(∀n∈ns,TT n.1)->Bb t (ns.foldl (fun t n=>E2 t n.1) t)/\∀n∈ns,Bb n.1 (ns.foldl (fun t n=>E2 t n.1) t):=by
  intro ns
  induction ns with
  | nil=>intro t ht _;exact⟨Bb.refl t,fun n b=>by simp at b⟩
  | cons n ns g=>
   intro t ht h;have b:=h n List.mem_cons_self;have d:=dv (G.Ar ht).red (G.Ar b).red;obtain⟨c,f⟩:=g _ (G.join ht b) (fun m hm=>h m (List.mem_cons_of_mem _ hm));refine⟨d.2.1.trans c,fun m hm=>?_⟩;rcases List.mem_cons.1 hm with rfl | hm
   ·exact d.2.2.trans c
   exact f m hm
 exact (key ns [] G.nil h).2
theorem TL {U RL:List LR} {t u:List (List Rat)} (G:Gam TT R K S) (ht:TT t) (hu:TT u) (hT:T=tw t) (hU:U=tw u) (ad:T2=tw (ext t u)) (aa:RL=Dy t u):CF 340 [.one (.sl (.sl AA) T),.one (.sl (.sl AA) U)] (.AJ [(true,[.sl (.sl AA) T2,.sl (.sl AA) RL]),(false,[.int .i64 0])]):=by
 have ao:U.length=u.length:=by rw[hU,Bh]
 have au:=G.ht hu;have ab:=G.RS;refine AM Tryz.func340 fun E hE=>?_
 conv=>cbv
 intro al W;have an:=W.eq;have f15:=W.le;conv=>cbv
 refine .inr ?_
 obtain⟨J0,P⟩:∃J:List AV->List AG->Nat->Prop,J=fun vs bl k=>(∃(L i:Int),vs=[.one (.Ae 4 0 0),.one (.Ae 6 0 0),.one (.sl (.sl AA) U),.one (.int .i64 L),.one (.int .i64 i)]/\bl=[.var 0 [.nil,.nil],.var 0 [.sl (.sl AA) T,.nil],.dead 0]/\(Cl L U.length/\AR i 0)/\k=U.length)\/
  (∃(Ti o:List LR) (mm i':Nat) (L i:Int),vs=[.one (.Ae 4 0 0),.one (.Ae 6 0 0),.one (.sl (.sl AA) U),.one (.int .i64 L),.one (.int .i64 i)]/\bl=[.var 0 [.nil,.nil],.var 0 [.sl (.sl AA) Ti,.AQ (.sl AA) 39 0 0 mm],.arr 0 (.sl AA) o]/\(Cl L U.length/\AR i i'/\i'<=U.length/\mm=o.length)/\Ti=tw (ext t (pre u i'))/\o=Dy t (pre u i')/\k=U.length-i'):=⟨_,rfl⟩
 refine⟨[],[4,6,14,15,16],[4,6,39],J0,⟨U.length,by rw[P];exact .inl ⟨al,0,rfl,rfl,⟨W,Ak 0⟩,rfl⟩⟩,?_⟩;intro vs bl av hj;rw[P] at hj;rcases hj with⟨L,i,rfl,rfl,⟨hL,hi⟩,ak⟩ |⟨Ti,o,mm,i',L,i,rfl,rfl,⟨hL,hi,aq,Z⟩,z,hinv,ak⟩
 ·conv=>cbv
  have eL:=hL.eq;have ei:=hi.eq;obtain⟨i',Y⟩:=xN 0;have z:T=tw (ext t (pre u i')):=by rw[Y,Kc];exact hT
  intro a6 F;conv=>cbv
  cases a6 <;> conv=>cbv
  ·have B0:=AY F;have ah:u=[]:=List.eq_nil_of_length_eq_zero (by omega);exact AD ⟨⟨rfl,congrArg _ (by rw[ad,hT,ah];rfl),.inr (.inl ⟨_,congrArg _ (by rw[aa,ah];rfl)⟩),trivial⟩,t2,trivial⟩
  have B0:=AZ F;refine .inr ?_;obtain⟨D,m⟩:=AL (l:=U) (i:=i') (by omega);refine⟨D,fun _=>⟨by omega,by rw[show (i).toNat=i' by omega];exact m⟩,?_⟩;try conv=>cbv
  obtain⟨r,y,M⟩:=IG (u:=u) (i:=i') (by omega);have d:TT (pre u i'):=G.JU (JI u i') hu;have b:TT (r::pre u i'):=y ▸ G.JU (JI u (i'+1)) hu;have I:=(G.Ar b).red;have a2:D=em (pre u i') (AP (pre u i') r):=by rw[<-hU,m] at M;exact (Option.some.inj M).trans (Dw I)
  have c:TT (ext t (pre u i')):=G.ext ht d;have s:=(IK (G.Ar ht).red (G.Ar d).red).2;have H:El (pre u i') S (AP (pre u i') r):=(El.Cj (G.Ar b)).mono ab;have N:TT (BM (ext t (pre u i')) (AP (pre u i') r)):=G.BM c b s;have X:ext t (pre u (i'+1))=BM (ext t (pre u i')) (AP (pre u i') r):=by rw[y];rfl
  have a1:Dy t (pre u (i'+1))=Dy t (pre u i')++[em (BM (ext t (pre u i')) (AP (pre u i') r)) (Re.sqrt (AP (pre u i') r))]:=by rw[y];rfl
  obtain⟨a8,g⟩:=xR (em (ext t (pre u i')) (AP (pre u i') r));refine cL (r:= .one (.sl AA a8)) hE (Tv G c d s z (by rw[Y,Kc];trivial) a2 H g) ⟨⟨rfl,.inr ⟨_,rfl⟩,trivial⟩,rfl,trivial⟩ ?_;try conv=>cbv
  obtain⟨O,h⟩:=xV (tw (BM (ext t (pre u i')) (AP (pre u i') r)));obtain⟨f,j⟩:=xR (em (BM (ext t (pre u i')) (AP (pre u i') r)) (Re.sqrt (AP (pre u i') r)));refine AB (r:= .AJ [(false,[.sl (.sl AA) O]),(false,[.sl AA f]),(false,[.int .i64 0])]) hE (QI (G.Ar c) (G.Ar N) (G.ht N) z g (G.CG d c s H) (G.fit c) (by have:=I.2.2.1;grind) h j) ?_;try conv=>cbv
  refine g2 rfl ?_;refine BK ?_;conv=>cbv
  refine⟨[f],fun _=>⟨rfl,by decide,rfl,⟨rfl,by first | exact t1 | exact t2 | exact t4 | simp[Aq,BG,cells],trivial⟩⟩,.inr ?_⟩;try conv=>cbv
  refine .inl ⟨[f],fun _=>⟨rfl,by show (1)*24<=140737488355328;(try simp only[List.length_take,List.length_drop]);omega⟩,?_⟩;intro Q ai;conv=>cbv
  intro a7 aj;conv=>cbv
  refine AI ?_;refine⟨U.length-(i'+1),?_,?_⟩
  ·omega
  rw[P];exact .inr ⟨O,[f],Q,i'+1,L,a7,rfl,rfl,⟨hL,⟨by omega⟩,by omega,ai⟩,by rw[h,X],by rw[a1,j,Y,Kc];rfl,rfl⟩
 conv=>cbv
 have eL:=hL.eq;have ei:=hi.eq;have ar:o.length<=U.length:=by rw[hinv,Km,Hg (by omega)];omega
 intro a6 F;conv=>cbv
 cases a6 <;> conv=>cbv
 ·have B0:=AY F;have ag:pre u i'=u:=by rw[show i'=u.length by omega];exact VW u
  exact AD ⟨⟨rfl,congrArg _ (by rw[ad,z,ag]),.inl ⟨_,rfl,by omega,congrArg _ (by rw[aa,Z,List.drop_zero,List.take_length,hinv,ag])⟩,trivial⟩,t2,trivial⟩
 have B0:=AZ F;refine .inr ?_;obtain⟨D,m⟩:=AL (l:=U) (i:=i') (by omega);refine⟨D,fun _=>⟨by omega,by rw[show (i).toNat=i' by omega];exact m⟩,?_⟩;try conv=>cbv
 obtain⟨r,y,M⟩:=IG (u:=u) (i:=i') (by omega);have d:TT (pre u i'):=G.JU (JI u i') hu;have b:TT (r::pre u i'):=y ▸ G.JU (JI u (i'+1)) hu;have I:=(G.Ar b).red;have a2:D=em (pre u i') (AP (pre u i') r):=by rw[<-hU,m] at M;exact (Option.some.inj M).trans (Dw I)
 have c:TT (ext t (pre u i')):=G.ext ht d;have s:=(IK (G.Ar ht).red (G.Ar d).red).2;have H:El (pre u i') S (AP (pre u i') r):=(El.Cj (G.Ar b)).mono ab;have N:TT (BM (ext t (pre u i')) (AP (pre u i') r)):=G.BM c b s;have X:ext t (pre u (i'+1))=BM (ext t (pre u i')) (AP (pre u i') r):=by rw[y];rfl
 have a1:Dy t (pre u (i'+1))=Dy t (pre u i')++[em (BM (ext t (pre u i')) (AP (pre u i') r)) (Re.sqrt (AP (pre u i') r))]:=by rw[y];rfl
 obtain⟨a8,g⟩:=xR (em (ext t (pre u i')) (AP (pre u i') r));refine .inr (.inr (.inl ⟨39,.arr 0 (.sl AA) o,[.agg [.sl (.sl AA) Ti,.AQ (.sl AA) 0 0 0 mm],.one (.sl AA D)],.one (.sl AA a8),fun _=>⟨rfl,⟨⟨rfl,⟨⟨rfl,rfl⟩,rfl⟩,trivial⟩,rfl,trivial⟩⟩,fun _=>FL hE (imD G c d s z (by rw[hinv];exact Kn (G.Ar ht).red (G.Ar d).red) Z a2 H g),?_⟩));try conv=>cbv
 obtain⟨O,h⟩:=xV (tw (BM (ext t (pre u i')) (AP (pre u i') r)));obtain⟨f,j⟩:=xR (em (BM (ext t (pre u i')) (AP (pre u i') r)) (Re.sqrt (AP (pre u i') r)));refine AB (r:= .AJ [(false,[.sl (.sl AA) O]),(false,[.sl AA f]),(false,[.int .i64 0])]) hE (QI (G.Ar c) (G.Ar N) (G.ht N) z g (G.CG d c s H) (G.fit c) (by have:=I.2.2.1;grind) h j) ?_;try conv=>cbv
 refine g2 rfl ?_;refine BK ?_;conv=>cbv
 refine⟨[f],fun _=>⟨rfl,by decide,rfl,⟨rfl,by first | exact t1 | exact t2 | exact t4 | simp[Aq,BG,cells],trivial⟩⟩,.inr ?_⟩;try conv=>cbv
 refine .inl ⟨[f],fun _=>⟨rfl,Z,rfl,by show (o.length+1)*24<=140737488355328;(try simp only[List.length_take,List.length_drop]);omega⟩,?_⟩;intro (a5:List (el (.sl AA))) Q V;have ae:a5=(o:List (el (.sl AA)))++([f]:List (el (.sl AA))):=V.1;have af:Q=List.length (α:=(el (.sl AA))) a5:=V.2;conv=>cbv
 intro a7 aj;conv=>cbv
 refine AI ?_;refine⟨U.length-(i'+1),?_,?_⟩
 ·omega
 rw[P];exact .inr ⟨O,a5,Q,i'+1,L,a7,rfl,rfl,⟨hL,⟨by omega⟩,by omega,af⟩,by rw[h,X],by rw[ae,hinv,a1,j],rfl⟩
end Go.Abs
namespace Go.Abs
open Go.RowKit
variable {K R S:Nat} {L:List (el An)} {T:List LR} {TT:List (List Rat)->Prop}
theorem aM (G:Gam TT R K S) {ns:List (List (List Rat)×Re)} (J:∀n∈ns,TT n.1) (hL:L=ns.map nm) (hT:T=tw (Bi ns)):CF 339 [.one (.sl An L)] (.AJ [(false,[.sl (.sl AA) T]),(false,[.int .i64 0])]):=by
 have a2:L.length=ns.length:=by rw[hL,List.length_map]
 refine AM Tryz.func339 fun E U=>?_
 conv=>cbv
 intro W t;have a1:=t.eq;have f10:=t.le;conv=>cbv
 refine .inr ?_;obtain⟨J0,b⟩:=xJ fun vs Z k=>∃(O:List LR) (i':Nat) (n i:Int),vs=[.one (.sl (.sl AA) O),.one (.sl An L),.one (.int .i64 n),.one (.int .i64 i)]/\Z=[]/\(Cl n L.length/\AR i i'/\i'<=L.length)/\O=tw (Bi (ns.take i'))/\k=L.length-i'
 refine⟨[(4,.sl AA,false)],[4,9,10,11],[],J0,⟨L.length,by rw[b];exact⟨[],0,W,0,rfl,rfl,⟨t,Ak 0,by omega⟩,rfl,rfl⟩⟩,?_⟩;intro vs Z a8 hj;rw[b] at hj;obtain⟨O,i',n,i,rfl,rfl,⟨F,hi,a5⟩,c,a6⟩:=hj;conv=>cbv
 have en:=F.eq;have ei:=hi.eq;intro X H;conv=>cbv
 cases X <;> conv=>cbv
 ·have V:=AY H;exact AD ⟨⟨rfl,congrArg _ (by rw[hT,c,List.take_of_length_le (show ns.length<=i' by omega)]),trivial⟩,t2,trivial⟩
 have V:=AZ H;refine .inr ?_;obtain⟨Y,s⟩:=AL (l:=L) (i:=i') (by omega);refine⟨Y,fun _=>⟨by omega,by rw[show (i).toNat=i' by omega];exact s⟩,?_⟩;try conv=>cbv
 obtain⟨u,y,j,a7,M⟩:=G3 hL s;have hu:TT u:=J _ (List.mem_of_getElem? M);have h:=UL M;unfold E2 at h;have z:TT (Bi (ns.take i')):=G.Bi (fun n F=>J n (List.mem_of_mem_take F));refine .inr ?_;obtain⟨P,d⟩:=EM (u<:+(Bi (ns.take i')));refine AB U (Nt (G.Ar z) (G.Ar hu) c j d) ?_;conv=>cbv
 refine .inr ?_;cases P <;> conv=>cbv
 ·have m:=fun q=>Bool.false_ne_true (d.2 q)
  obtain⟨Q,f⟩:=EM ((Bi (ns.take i'))<:+u);refine AB U (Nt (G.Ar hu) (G.Ar z) j c f) ?_;conv=>cbv
  refine .inr ?_;cases Q <;> conv=>cbv
  ·have D:=fun q=>Bool.false_ne_true (f.2 q)
   obtain⟨aa,o⟩:=xV (tw (ext (Bi (ns.take i')) u));obtain⟨ab,N⟩:=xV (Dy (Bi (ns.take i')) u);refine AB U (TL G z hu c j o N) ?_;conv=>cbv
   refine BK ?_;conv=>cbv
   intro g I;conv=>cbv
   refine AI ?_;refine⟨L.length-(i'+1),?_,?_⟩
   ·omega
   rw[b];exact⟨_,i'+1,n,g,rfl,rfl,⟨F,⟨by omega⟩,by omega⟩,by rw[h,if_neg m,if_neg D,o],rfl⟩
  have D:=f.1 rfl;intro g I;conv=>cbv
  refine AI ?_;refine⟨L.length-(i'+1),?_,?_⟩
  ·omega
  rw[b];exact⟨_,i'+1,n,g,rfl,rfl,⟨F,⟨by omega⟩,by omega⟩,by rw[h,if_neg m,if_pos D];exact j,rfl⟩
 have m:=d.1 rfl;intro g I;conv=>cbv
 refine AI ?_;refine⟨L.length-(i'+1),?_,?_⟩
 ·omega
 rw[b];exact⟨_,i'+1,n,g,rfl,rfl,⟨F,⟨by omega⟩,by omega⟩,by rw[h,if_pos m,<-c],rfl⟩
theorem Xm (G:Gam TT R K S) {ns:List (List (List Rat)×Re)} (z:∀n∈ns,TT n.1) (hL:L=ns.map nm) (a6:∀n∈ns,El n.1 S n.2) (hlen:ns.length<=1000000) {O:List (el An)} (hO:O=ns.map (fun n=>nm (Bi ns,n.2))):CF 284 [.one (.sl An L)] (.AJ [(false,[.sl An O]),(false,[.int .i64 0])]):=by
 have af:L.length=ns.length:=by rw[hL,List.length_map]
 have b:TT (Bi ns):=G.Bi z;obtain⟨T,s⟩:=xV (tw (Bi ns));refine AM Tryz.func284 fun E P=>?_
 conv=>cbv
 refine AB P (aM G z hL s) ?_;conv=>cbv
 refine BK ?_;conv=>cbv
 intro a8 N;have ae:=N.eq;have f21:=N.le;conv=>cbv
 refine .inr ?_;obtain⟨J0,t⟩:=xJ fun vs bl k=>∃(o:List (el An)) (mm i':Nat) (n i:Int),vs=[.one (.sl (.sl AA) T),.one (.AQ An 6 0 0 mm),.one (.sl An L),.one (.int .i64 n),.one (.int .i64 i)]/\bl=[.arr 0 An o]/\(Cl n L.length/\AR i i'/\i'<=L.length/\mm=o.length)/\o=(ns.take i').map (fun n=>nm (Bi ns,n.2))/\k=L.length-i'
 refine⟨[(6,An,true)],[4,6,20,21,22],[6],J0,⟨L.length,by rw[t];exact⟨[],0,0,a8,0,rfl,rfl,⟨N,Ak 0,Nat.zero_le _,rfl⟩,rfl,rfl⟩⟩,?_⟩;intro vs bl aj hj;rw[t] at hj;obtain⟨o,mm,i',n,i,rfl,rfl,⟨hn,hi,ag,Q⟩,hinv,ah⟩:=hj;conv=>cbv
 have en:=hn.eq;have ei:=hi.eq;have ai:o.length<=L.length:=by rw[hinv,List.length_map,List.length_take];omega
 intro aa X;conv=>cbv
 cases aa <;> conv=>cbv
 ·have a7:=AY X;exact AD ⟨⟨rfl,.inl ⟨_,rfl,by omega,congrArg _ (by rw[hO,Q,hinv,List.drop_zero,List.take_length,List.take_of_length_le (show ns.length<=i' by omega)])⟩,trivial⟩,t2,trivial⟩
 have a7:=AZ X;refine .inr ?_;obtain⟨ad,M⟩:=AL (l:=L) (i:=i') (by omega);refine⟨ad,fun _=>⟨by omega,by rw[show (i).toNat=i' by omega];exact M⟩,?_⟩;try conv=>cbv
 obtain⟨u,y,Y,Z,U⟩:=G3 hL M;have V:=List.mem_of_getElem? U;have hu:TT u:=z _ V;have F:El u S y:=a6 _ V;have D:Bb u (Bi ns):=OE G z _ V;obtain⟨H,f⟩:=xR (em (Bi ns) y);obtain⟨a2,g⟩:=EM (u<:+Bi ns);refine AB P (Nt (G.Ar b) (G.Ar hu) s Y g) ?_;conv=>cbv
 refine .inr ?_;cases a2 <;> conv=>cbv
 ·have a1:=fun q=>Bool.false_ne_true (g.2 q)
  obtain⟨ab,J⟩:=xV (Dy (Bi ns) u);have I:=OK (G.Ar b).red (G.Ar hu).red D;refine AB (r:= .AJ [(true,[.sl (.sl AA) T,.sl (.sl AA) ab]),(false,[.int .i64 0])]) P (TL G b hu s Y (by rw[I];exact s) J) ?_;try conv=>cbv
  refine BK ?_;conv=>cbv
  refine AB (r:= .one (.sl AA H)) P (Tv G b hu D s (by rw[J];have:=Kn (G.Ar b).red (G.Ar hu).red;rwa [I] at this) Z F f) ?_;try conv=>cbv
  refine AB (r:= .agg [.sl (.sl AA) T,.sl AA H]) P (OA (G.Ar b) s f (G.CG hu b D F) (by have:=G.mul b;omega)) ?_;try conv=>cbv
  refine⟨[(T,H)],fun _=>⟨rfl,by decide,rfl,⟨rfl,by first | exact t1 | exact t2 | exact t4 | simp[Aq,BG,cells],trivial⟩⟩,.inr ?_⟩;try conv=>cbv
  refine .inl ⟨[(T,H)],fun _=>⟨rfl,Q,rfl,by show (o.length+1)*48<=140737488355328;(try simp only[List.length_take,List.length_drop]);omega⟩,?_⟩;intro (d:List (el An)) m c;have h:d=(o:List (el An))++([(T,H)]:List (el An)):=c.1;have j:m=List.length (α:=(el An)) d:=c.2;conv=>cbv
  intro W a5;conv=>cbv
  refine AI ?_;refine⟨L.length-(i'+1),?_,?_⟩
  ·omega
  rw[t];exact⟨d,m,i'+1,n,W,rfl,rfl,⟨hn,⟨by omega⟩,by omega,j⟩,by rw[h,hinv,Ck U,List.map_append];simp[nm,s,f],rfl⟩
 have a1:=g.1 rfl;refine AB P (PH (G.Ar b) s Z F.mem a1 f) ?_;conv=>cbv
 refine AB (r:= .agg [.sl (.sl AA) T,.sl AA H]) P (OA (G.Ar b) s f (G.CG hu b D F) (by have:=G.mul b;omega)) ?_;try conv=>cbv
 refine⟨[(T,H)],fun _=>⟨rfl,by decide,rfl,⟨rfl,by first | exact t1 | exact t2 | exact t4 | simp[Aq,BG,cells],trivial⟩⟩,.inr ?_⟩;try conv=>cbv
 refine .inl ⟨[(T,H)],fun _=>⟨rfl,Q,rfl,by show (o.length+1)*48<=140737488355328;(try simp only[List.length_take,List.length_drop]);omega⟩,?_⟩;intro (d:List (el An)) m c;have h:d=(o:List (el An))++([(T,H)]:List (el An)):=c.1;have j:m=List.length (α:=(el An)) d:=c.2;conv=>cbv
 intro W a5;conv=>cbv
 refine AI ?_;refine⟨L.length-(i'+1),?_,?_⟩
 ·omega
 rw[t];exact⟨d,m,i'+1,n,W,rfl,rfl,⟨hn,⟨by omega⟩,by omega,j⟩,by rw[h,hinv,Ck U,List.map_append];simp[nm,s,f],rfl⟩
noncomputable def Bm (u v:List (List Rat)):List (List Rat):=Bi [(u,0),(v,0)]
theorem aL (G:Gam TT R K S) {T1 T2:List LR} {A1 A2:LR} {u v:List (List Rat)} {x y:Re} (hu:TT u) (Y:TT v) (I:T1=tw u) (J:T2=tw v) (F:A1=em u x) (H:A2=em v y) (Z:El u S x) (hy:El v S y) {A B C:LR} {g:FuncId} (W:T=tw (Bm u v)) (Q:A=em (Bm u v) x) (U:B=em (Bm u v) y) (X:CF g [.one (.sl (.sl AA) T),.one (.sl AA A),.one (.sl AA B)] (.one (.sl AA C))):CF 252 [.agg (Ay T1 A1),.agg (Ay T2 A2),.one (.fn g)] (.AJ [(true,(Ay T C)),(false,[.int .i64 0])]):=by
 obtain⟨O,s⟩:∃z:List (el An),z=[(T,A),(T,B)]:=⟨_,rfl⟩
 have V:O.length=2:=by rw[s];rfl
 have M:O[0]? =some (T,A):=by rw[s];rfl
 have P:O[1]? =some (T,B):=by rw[s];rfl
 refine AM Tryz.func252 fun E N=>?_
 conv=>cbv
 refine⟨[(T1,A1),(T2,A2)],fun _=>⟨rfl,by decide,rfl,⟨rfl,by first | exact t1 | exact t2 | exact t4 | simp[Aq,BG,cells],⟨rfl,by first | exact t1 | exact t2 | exact t4 | simp[Aq,BG,cells],trivial⟩⟩⟩,.inr ?_⟩;try conv=>cbv
 refine AB (r:= .AJ [(false,[.sl An O]),(false,[.int .i64 0])]) N (Xm (ns:=[(u,x),(v,y)]) G (by intro n h;simp at h;rcases h with rfl | rfl;exact hu;exact Y) (by rw[I,J,F,H];rfl) (by intro n h;simp at h;rcases h with rfl | rfl;exact Z;exact hy) (by show 2<=1000000;decide) (by rw[s,W,Q,U];rfl)) ?_;try conv=>cbv
 refine BK ?_;conv=>cbv
 obtain⟨j,b⟩:=AL (l:=O) (i:=0) (by omega);refine⟨j,fun _=>⟨by omega,b⟩,?_⟩;try conv=>cbv
 obtain⟨m,c⟩:=AL (l:=O) (i:=0) (by omega);refine⟨m,fun _=>⟨by omega,c⟩,?_⟩;try conv=>cbv
 obtain⟨o,d⟩:=AL (l:=O) (i:=1) (by omega);refine⟨o,fun _=>⟨by omega,d⟩,?_⟩;try conv=>cbv
 have f:=Option.some.inj (b.symm.trans M);have t:=Option.some.inj (c.symm.trans M);have D:=Option.some.inj (d.symm.trans P);refine .inl ⟨[.one (.sl (.sl AA) j.1),.one (.sl AA m.2),.one (.sl AA o.2)],.one (.sl AA C),fun _=>t3,fun _=>ES N (by rw[f,t,D];exact X),?_⟩;try conv=>cbv
 refine g2 rfl ?_;exact AD ⟨⟨rfl,congrArg _ (by rw[f]),rfl,trivial⟩,t2,trivial⟩
end Go.Abs
namespace Go.Abs
open Go.RowKit
section
variable {TT:List (List Rat)->Prop} {R K S:Nat}
theorem Gam.Bm (G:Gam TT R K S) {u v:List (List Rat)} (hu:TT u) (d:TT v):TT (Go.Abs.Bm u v)/\Bb u (Go.Abs.Bm u v)/\Bb v (Go.Abs.Bm u v):=by
 have b:∀n∈[(u,(0:Re)),(v,0)],TT n.1:=by intro n c;simp at c;rcases c with rfl | rfl;exact hu;exact d
 have he:=OE G b;exact⟨G.Bi b,he (u,0) (by simp),he (v,0) (by simp)⟩
end
theorem HF (T0:List LR):∃z:List LR,z=T0:=⟨_,rfl⟩
theorem DS (T0:LR):∃z:LR,z=T0:=⟨_,rfl⟩
theorem Xq {TT:List (List Rat)->Prop} {R K S:Nat} (G:Gam TT R K S) {T1 T2:List LR} {A1 A2:LR} {u v:List (List Rat)} {x y:Re} (hu:TT u) (j:TT v) (f:T1=tw u) (g:T2=tw v) (c:A1=em u x) (d:A2=em v y) (z:El u S x) (D:El v S y) {T:List LR} {C:LR} (t:T=tw (Bm u v)) (F:C=em (Bm u v) (x*y)):CF 214 [.agg (Ay T1 A1),.agg (Ay T2 A2)] (.AJ [(true,(Ay T C)),(false,[.int .i64 0])]):=by
 obtain⟨b,h,i⟩:=G.Bm hu j;have l:=G.CG hu b h z;have m:=G.CG j b i D;have hmul:=G.mul b;obtain⟨A,o⟩:=DS (em (Bm u v) x);obtain⟨B,s⟩:=DS (em (Bm u v) y);refine AM Tryz.func214 fun E H=>?_
 conv=>cbv
 refine AB H (aL G hu j f g c d z D t o s (GP (G.Ar b) t o s l m (by omega) F)) ?_;conv=>cbv
 exact AD ⟨t3,t2,trivial⟩
theorem QZ {TT:List (List Rat)->Prop} {R K S:Nat} (G:Gam TT R K S) {T1:List LR} {A1:LR} {u:List (List Rat)} {x:Re} (hu:TT u) (c:T1=tw u) (b:A1=em u x) (f:El u S x) {C:LR} (g:C=em u (-x)):CF 71 [.agg (Ay T1 A1)] (.agg (Ay T1 C)):=by
 have hmul:=G.mul hu;refine AM Tryz.func71 fun E d=>?_
 conv=>cbv
 refine AB d (OA (G.Ar hu) c b f) ?_;conv=>cbv
 refine AB d (Qb (G.Ar hu) c b f (by omega) g) ?_;conv=>cbv
 exact AD ⟨t3,trivial⟩
theorem Xr {TT:List (List Rat)->Prop} {R K S:Nat} (G:Gam TT R K S) {T1:List LR} {A1:LR} {u:List (List Rat)} {x:Re} (hu:TT u) (d:T1=tw u) (b:A1=em u x) (h:El u S x) {c:Int} (g:c=BJ x):CF 70 [.agg (Ay T1 A1)] (.one (.int .i64 c)):=by
 refine AM Tryz.func70 fun E f=>?_
 conv=>cbv
 refine AB f (Jo (G.Ar hu) d b h ((G.fit hu).mono (Nat.le_add_right _ _)).v0 (G.fit hu).vR g) ?_;conv=>cbv
 exact AD ⟨t2,trivial⟩
theorem Xp {q:Rat} {b1 b2:Bool} {l1 l2:List UInt32} {C:LR} (b:BE q b1 l1 b2 l2) (f:Bt q) (c:C=em [] (Re.ofRat q)):CF 235 [.agg (BV b1 l1 b2 l2)] (.agg (Ay [] C)):=by
 refine AM Tryz.func235 fun E d=>?_
 conv=>cbv
 refine AB d (Si b f) ?_;conv=>cbv
 refine⟨[((b1,l1),(b2,l2))],fun _=>⟨rfl,by decide,rfl,⟨rfl,by first | exact t1 | exact t2 | exact t4 | simp[Aq,BG,cells],trivial⟩⟩,.inr ?_⟩;try conv=>cbv
 exact AD ⟨⟨rfl,Bo,congrArg _ (by rw[c,Dl,<-b.rp]),trivial⟩,trivial⟩
end Go.Abs
namespace Go.Abs
open Go.RowKit
structure D8 (h R s:Nat):Prop where
 q:SS h R s<=60000000000000
 v:VV h R (s+GG h R)<=60000000000000
 qR:SS h R R<=60000000000000
 vR:VV h R R<=60000000000000
variable {A B:LR} {R':Nat} {T T2:List LR} {r:List Rat} {u:List (List Rat)} {v x:Re}
theorem D8.v0 {h R s:Nat} (f:D8 h R s):VV h R s<=60000000000000:=Nat.le_trans (Gq h R (by omega)) f.v
theorem D8.s {h R s:Nat} (f:D8 h R s):s<=60000000000000:=Nat.le_trans (Qk h R s) f.q
theorem D8.mono {h R s t:Nat} (f:D8 h R s) (ht:t<=s):D8 h R t:=⟨Nat.le_trans (LF h R ht) f.q,Nat.le_trans (Gq h R (by omega)) f.v,f.qR,f.vR⟩
theorem X7:∀(h R s:Nat),SS h R s<=SS (h+1) R s:=fun h R s=>Nat.le_trans (LF h R (by unfold TQ;omega)) (Qj h R s)
theorem X6 {i h:Nat} (b:i<=h) (R s:Nat):SS i R s<=SS h R s:=by
 induction b with
 | refl=>exact Nat.le_refl _
 | step _ c=>exact Nat.le_trans c (X7 _ _ _)
theorem ZB {R s:Nat} (h:Ah R u) (D:T=tw u) (F:A=em u x) (H:El u s x) (o:D8 u.length R s) {w:Re} (hw:In u w) (d:w*w=x) (I:Gt u x w) (i:0<=v) (j:v*v=x) (z:B=em u v):CF 318 [.one (.sl (.sl AA) T),.one (.sl AA A)] (.AJ [(false,[.sl AA B]),(false,[.bool true])]):=by
 have l:=H.sqrt h hw d;refine AM Tryz.func318 fun E m=>?_
 conv=>cbv
 obtain⟨M,b⟩:=xR (em u w);refine AB m (I D F b) ?_;conv=>cbv
 refine BK ?_;conv=>cbv
 obtain⟨J,g⟩:=xI (BJ w);refine AB m (Fq h D b l o.v (Nat.le_trans (Eu _ _ _) o.v) o.vR g) ?_;conv=>cbv
 intro y f;conv=>cbv
 refine .inr ?_;cases y <;> conv=>cbv
 ·have t:=AY f;exact AD ⟨⟨rfl,congrArg _ (by rw[z,b];congr 1;have:¬w<0:=(fun G=>by have:=HZ.2 G;omega);exact Re.JS i (by grind) (j.trans d.symm)),trivial⟩,t2,trivial⟩
 have t:=AZ f;obtain⟨N,c⟩:=xR (em u (-w));refine AB m (Ia h b l c) ?_;conv=>cbv
 exact AD ⟨⟨rfl,congrArg _ (by rw[z,c];congr 1;have:w<0:=HZ.1 (by omega);exact Re.JS i (by grind) (by rw[j,<-d];grind)),trivial⟩,t2,trivial⟩
theorem ZA {B:LR} {R s:Nat} (h:Ah R u) (d:T=tw u) (b:A=em u x) (i:El u s x) (g:D8 u.length R s) {l:LR} (f:Gs u x l):CF 318 [.one (.sl (.sl AA) T),.one (.sl AA A)] (.AJ [(false,[.sl AA (([]:LR))]),(false,[.bool false])]):=by
 refine AM Tryz.func318 fun E c=>?_
 conv=>cbv
 refine AB c (f d b) ?_;conv=>cbv
 refine Cc ?_;conv=>cbv
 exact AD ⟨⟨rfl,Bo,trivial⟩,t2,trivial⟩
theorem ZC {R s:Nat} (h:Ah R u) (m:T=tw u) (j:A=em u x) (i:El u s x) (c:D8 u.length R s) (o:In u v) (f:0<=v) (b:v*v=x) (l:B=em u v):CF 318 [.one (.sl (.sl AA) T),.one (.sl AA A)] (.AJ [(false,[.sl AA B]),(false,[.bool true])]):=by
 rcases QF h i c.q c.vR with⟨w,hw,g,t⟩ |⟨d,_⟩
 ·exact ZB h m j i c hw g t f b l
 exact absurd ⟨v,o,b⟩ d
theorem Y9 {R s:Nat} (h:Ah R u) (i:T=tw u) (g:A=em u x) (f:El u s x) (b:D8 u.length R s) (c:¬Sq u x):CF 318 [.one (.sl (.sl AA) T),.one (.sl AA A)] (.AJ [(false,[.sl AA []]),(false,[.bool false])]):=by
 rcases QF h f b.q b.vR with⟨w,hw,d,m⟩ |⟨_,l,j⟩
 ·exact absurd ⟨w,hw,d⟩ c
 exact ZA (B:=[]) h i g f b j
theorem Q6 {R:Nat} (h:Ah R u) (I:T=tw u) (hv:VV u.length R R<=60000000000000) (hq:SS u.length R R<=60000000000000):CF 231 [.one (.sl (.sl AA) T)] (.one (.bool true)):=by
 have al:T.length=u.length:=by rw[I,Bh]
 have hR:=h.hR;refine AM Tryz.func231 fun E Y=>?_
 conv=>cbv
 refine .inr ?_;obtain⟨J0,g⟩:=xJ fun vs bl k=>∃(i':Nat) (i:Int),vs=[.one (.sl (.sl AA) T),.one (.int .i64 i)]/\(AR i i'/\i'<=T.length)/\k=T.length-i'
 refine⟨[],[0,3],[],J0,⟨T.length-0,by rw[g];exact⟨0,0,rfl,⟨Ak 0,by omega⟩,rfl⟩⟩,?_⟩;intro vs bl aq hj;rw[g] at hj;obtain⟨i',i,rfl,⟨hi,an⟩,ao⟩:=hj;conv=>cbv
 have ei:=hi.eq;rintro n8 ⟨e8,f8⟩;conv=>cbv
 intro n9 h9;conv=>cbv
 cases n9 <;> conv=>cbv
 ·have k9:=AY h9;exact AD ⟨t2,trivial⟩
 have k9:=AZ h9;refine .inr ?_;intro ar ah;conv=>cbv
 refine AH ?_;intro V ae;conv=>cbv
 intro a2 J;conv=>cbv
 obtain⟨aa,c⟩:=AL (l:=T) (i:=i') (by omega);refine⟨aa,fun _=>⟨by omega,by rw[show (i).toNat=i' by omega];exact c⟩,?_⟩;try conv=>cbv
 obtain⟨r,Q,P⟩:=IG (u:=u) (i:=i') (by omega);have t:Ag (r::pre u i'):=Q ▸ (h.pre (i'+1)).red;have y:∀x,T[i']? =some x->x=em (pre u i') (AP (pre u i') r):=fun x hx=>by rw[<-I,hx] at P;exact (Option.some.inj P).trans (Dw t)
 have D:=y _ c;have s:El (pre u i') R (AP (pre u i') r):=El.Cj (Q ▸ h.pre (i'+1));have j:a2=tw (pre u i'):=by rw[J,List.drop_zero,show V=i' by omega,I,HE]
 have O:(pre u i').length<=u.length:=by rw[Hg (by omega)];omega
 have z:VV (pre u i').length R R<=60000000000000:=Nat.le_trans (Jq O R R) hv;have Z:SS (pre u i').length R R<=60000000000000:=Nat.le_trans (X6 O R R) hq;refine AB Y (LI (h.pre i') j D s hR) ?_;conv=>cbv
 refine BK ?_;conv=>cbv
 intro au ai;conv=>cbv
 refine AH ?_;intro W af;conv=>cbv
 intro a5 M;conv=>cbv
 obtain⟨ab,d⟩:=AL (l:=T) (i:=i') (by omega);refine⟨ab,fun _=>⟨by omega,by rw[show (i).toNat=i' by omega];exact d⟩,?_⟩;try conv=>cbv
 have m:a5=tw (pre u i'):=by rw[M,List.drop_zero,show W=i' by omega,I,HE]
 have F:=y _ d;obtain⟨aw,b⟩:=xI (BJ (AP (pre u i') r));refine AB Y (Fq (h.pre i') m F s z hR z b) ?_;conv=>cbv
 intro a8 H;conv=>cbv
 refine g2 rfl ?_;cases a8 <;> conv=>cbv
 ·have U:=F4 H;intro av aj;conv=>cbv
  refine AH ?_;intro X ag;conv=>cbv
  intro a6 N;conv=>cbv
  obtain⟨ad,f⟩:=AL (l:=T) (i:=i') (by omega);refine⟨ad,fun _=>⟨by omega,by rw[show (i).toNat=i' by omega];exact f⟩,?_⟩;try conv=>cbv
  have o:a6=tw (pre u i'):=by rw[N,List.drop_zero,show X=i' by omega,I,HE]
  have G:=y _ f;obtain⟨l,hn⟩:=((QF (h.pre i') s Z z).resolve_left (fun⟨w,hw,a1,_⟩=>t.2.2.2 ⟨w,hw,a1⟩)).2;refine AB Y (hn o G) ?_;conv=>cbv
  refine g2 rfl ?_;intro a7 ak;conv=>cbv
  refine AI ?_;refine⟨T.length-(i'+1),?_,?_⟩
  ·omega
  rw[g];exact⟨i'+1,a7,rfl,⟨⟨by omega⟩,by omega⟩,rfl⟩
 have U:=F5 H;exact absurd U (by rw[b,GH t.2.2.1];omega)
theorem YK {R s:Nat} (h:Ah R u) (t:T=tw u) (m:A=em u x) (y:El u s x) (g:D8 u.length R s) (D:In u v) (i:0<=v) (d:v*v=x) (z:B=em u v):CF 266 [.one (.sl (.sl AA) T),.one (.sl AA A)] (.AJ [(false,[.sl (.sl AA) T]),(false,[.sl AA B]),(false,[.int .i64 0])]):=by
 have j:0<=x:=by rw[<-d];exact Re.Pw v
 refine AM Tryz.func266 fun E o=>?_
 conv=>cbv
 obtain⟨F,b⟩:=xI (BJ x);refine AB o (Fq h t m y g.v0 g.s g.vR b) ?_;conv=>cbv
 intro l c;conv=>cbv
 cases l <;> conv=>cbv
 ·have f:=AY c;refine AB o (ZC h t m y g D i d z) ?_;conv=>cbv
  exact AD ⟨t2,t2,t2,trivial⟩
 have f:=AZ c;exact (Hb b f j).elim
theorem YL {R s:Nat} (h:Ah R u) (G:T=tw u) (I:A=em u x) (Y:El u s x) (F:D8 u.length R s) (h8:u.length<8) (Q:0<=x) (P:¬Sq u x) (hr:r=co u x) (h':Ah R' (r::u)) (M:T2=tw (r::u)) (hB:B=em (r::u) (rt u r)):CF 266 [.one (.sl (.sl AA) T),.one (.sl AA A)] (.AJ [(false,[.sl (.sl AA) T2]),(false,[.sl AA B]),(false,[.int .i64 0])]):=by
 have N:T.length=u.length:=by rw[G,Bh]
 have a1:=h.ht;refine AM Tryz.func266 fun E J=>?_
 conv=>cbv
 obtain⟨a6,f⟩:=xI (BJ x);refine AB J (Fq h G I Y F.v0 F.s F.vR f) ?_;conv=>cbv
 intro U l;conv=>cbv
 cases U <;> conv=>cbv
 ·have z:=AY l;refine AB J (Y9 h G I Y F P) ?_;conv=>cbv
  rintro a2 ⟨Z,f24⟩;conv=>cbv
  intro V m;conv=>cbv
  cases V <;> conv=>cbv
  ·have D:=DI m;refine⟨[],fun _=>⟨rfl,by decide,rfl,trivial⟩,.inl ?_⟩;try conv=>cbv
   refine .inl ⟨T,fun _=>⟨rfl,rfl,rfl,by show (0+T.length)*24<=140737488355328;(try simp only[List.length_take,List.length_drop]);omega⟩,?_⟩;intro (c:List (el (.sl AA))) W g;have d:c=([]:List (el (.sl AA)))++(T:List (el (.sl AA))):=g.1;have t:W=List.length (α:=(el (.sl AA))) c:=g.2;conv=>cbv
   refine⟨[A],fun _=>⟨rfl,by decide,rfl,⟨rfl,by first | exact t1 | exact t2 | exact t4 | simp[Aq,BG,cells],trivial⟩⟩,.inr ?_⟩;try conv=>cbv
   have O:c.length=T.length:=by rw[d];simp
   refine .inr (.inl ⟨[A],fun _=>⟨rfl,t,rfl,by show (c.length+1)*24<=140737488355328;(try simp only[List.length_take,List.length_drop]);omega⟩,?_⟩);intro (j:List (el (.sl AA))) X i;have o:j=(c:List (el (.sl AA)))++([A]:List (el (.sl AA))):=i.1;have y:X=List.length (α:=(el (.sl AA))) j:=i.2;conv=>cbv
   refine⟨fun _=>y,?_⟩;rintro a5 ⟨H,f35⟩;conv=>cbv
   have b:j=tw (r::u):=by rw[o,d,G,Kz,I,em,hr];rfl
   refine AB J (Yh h' b (AR.of (H.trans (congrArg _ N))) hB) ?_;conv=>cbv
   exact AD ⟨⟨rfl,congrArg _ (by rw[M,b]),trivial⟩,t2,t2,trivial⟩
  have D:=DJ m;exact absurd D (by omega)
 have z:=AZ l;exact (Hb f z Q).elim
theorem Yk {R s:Nat} (h:Ah R u) (d:T=tw u) (i:A=em u x) (j:El u s x) (b:D8 u.length R s) (m:In u v) (f:0<=v) (g:v*v=x) (l:B=em u v):CF 189 [.one (.sl (.sl AA) T),.one (.sl AA A)] (.AJ [(false,[.sl (.sl AA) T]),(false,[.sl AA B]),(false,[.int .i64 0])]):=by
 refine AM Tryz.func189 fun E c=>?_
 conv=>cbv
 refine AB c (Q6 h d b.vR b.qR) ?_;conv=>cbv
 refine BK ?_;conv=>cbv
 refine AB c (LI h d i j b.s) ?_;conv=>cbv
 refine BK ?_;conv=>cbv
 refine AB c (YK h d i j b m f g l) ?_;conv=>cbv
 exact AD ⟨t2,t2,t2,trivial⟩
theorem Yl {R s:Nat} (h:Ah R u) (d:T=tw u) (j:A=em u x) (l:El u s x) (b:D8 u.length R s) (m:u.length<8) (i:0<=x) (g:¬Sq u x) (t:r=co u x) (h':Ah R' (r::u)) (f:T2=tw (r::u)) (o:B=em (r::u) (rt u r)):CF 189 [.one (.sl (.sl AA) T),.one (.sl AA A)] (.AJ [(false,[.sl (.sl AA) T2]),(false,[.sl AA B]),(false,[.int .i64 0])]):=by
 refine AM Tryz.func189 fun E c=>?_
 conv=>cbv
 refine AB c (Q6 h d b.vR b.qR) ?_;conv=>cbv
 refine BK ?_;conv=>cbv
 refine AB c (LI h d j l b.s) ?_;conv=>cbv
 refine BK ?_;conv=>cbv
 refine AB c (YL h d j l b m i g t h' f o) ?_;conv=>cbv
 exact AD ⟨t2,t2,t2,trivial⟩
theorem Qr {R s:Nat} (h:Ah R u) (h':Ah R' (BM u v)) (l:(BM u v).length<=8) (g:T=tw u) (m:A=em u v) (j:El u s v) (o:D8 u.length R s) (f:0<=v) (b:T2=tw (BM u v)) (c:B=em (BM u v) (Re.sqrt v)):
  CF 189 [.one (.sl (.sl AA) T),.one (.sl AA A)] (.AJ [(false,[.sl (.sl AA) T2]),(false,[.sl AA B]),(false,[.int .i64 0])]):=by
 by_cases d:Sq u v
 ·rw[FR d] at b c;have i:T2=T:=b.trans g.symm;subst i;exact Yk h g m j o ((Px f).1 d) (Re.JT v) (Re.Hk f) c
 rw[Fu d] at h' l b c;rw[<-Pd j.mem] at c;exact Yl h g m j o (by rw[List.length_cons] at l;omega) f d rfl h' b c
end Go.Abs
