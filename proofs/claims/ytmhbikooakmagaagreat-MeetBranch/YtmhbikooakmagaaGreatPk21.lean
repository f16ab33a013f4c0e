/- Part 22 of a proof. Conditions: each theorem's own. -/
import Derived.Test.YtmhbikooakmagaaGreatPk20
set_option linter.all false
set_option maxHeartbeats 8000000
set_option maxRecDepth 20000
open Go.Proofs
namespace Go.Abs
open Go.RowKit
def GI (w:List (List Rat)) (RL:List LR):List (List Rat)->Prop
 | []=>True
 | r::u=>GI w RL u/\∃wk,wk<:+w/\In wk (rt u r)/\RL[u.length]? =some (em wk (rt u r))
variable {A C:LR} {K R S a k mm n:Nat} {RL T:List LR} {TT:List (List Rat)->Prop} {p q x:Re} {r:List Rat} {u w:List (List Rat)}
theorem GI.mono {w':List (List Rat)} {X:List LR} (h:w<:+w'):∀{u:List (List Rat)},GI w RL u->GI w' (RL++X) u
 | [],_=>trivial
 | r::u,⟨c,f,d,h3,b⟩=>⟨c.mono h,f,d.trans h,h3,by rw[List.getElem?_append_left (Gv b)];exact b⟩
noncomputable def Ey (t:List (List Rat)):List (List Rat)->List LR
 | []=>[]
 | r::u=>Ey t u++[em (ext t (r::u)) (rt u r)]
theorem NI (t:List (List Rat)):∀u,(Ey t u).length=u.length
 | []=>rfl
 | r::u=>by rw[Ey,List.length_append,NI t u];rfl
theorem NJ {t:List (List Rat)} (ht:AZ t):∀{u:List (List Rat)},AZ u->GI (ext t u) (Ey t u) u
 | [],_=>trivial
 | r::u,hu=>by
  refine⟨(NJ ht hu.1).mono (Ny _ _),ext t (r::u),List.suffix_refl _,(Iy ht hu).2.root,?_⟩;rw[Ey,List.getElem?_append_right (by rw[NI];omega),NI,Nat.sub_self];rfl
theorem Q1 {t:List (List Rat)} (ht:AZ t):∀{u:List (List Rat)},AZ u->Ba u t->ext t u=t
 | [],_,_=>rfl
 | r::u,hu,h=>by
  rw[ext,Q1 ht hu.1 h.tail];exact D3 ⟨rt u r,h.root,Cq hu⟩
def Pk (f:FuncId) (S:Nat) (w u:List (List Rat)):Prop:=∀{T RL:List LR} {A C:LR} {x:Re},T=tw w->GI w RL u->A=em u x->El u S x->C=em w x->
 CF f [.agg [.sl (.sl AA) T,.sl (.sl AA) RL],.one (.sl AA A)] (.one (.sl AA C))
def Pm (f:FuncId) (S:Nat) (w u:List (List Rat)):Prop:=∀{T RL:List LR} {A C:LR} {x:Re} {mm:Nat},T=tw w->GI w RL u->mm=RL.length->A=em u x->El u S x->C=em w x->
 BU Tryz.prog f [.agg [.sl (.sl AA) T,.AS (.sl AA) 0 0 0 mm],.one (.sl AA A)] (.arr 0 (.sl AA) RL) (.one (.sl AA C))
theorem Yu {b:Nat}:2^a<2^b↔a<b:=Nat.pow_lt_pow_iff_right (by decide)
theorem K5 (ha:a=2^n+2^n) (h:2^(k+1)<a):k<n:=by
 have b:a=2^(n+1):=by rw[ha,Nat.pow_succ];omega
 rw[b,Yu] at h;omega
theorem K4 (ha:a=2^n+2^n) (h:¬2^(k+1)<a):n<=k:=by
 have b:a=2^(n+1):=by rw[ha,Nat.pow_succ];omega
 rw[b,Yu] at h;omega
theorem iO {u:List (List Rat)} {x:Re} (G:Gam TT R K S) (hw:TT w) (y:T=tw w) {q:Rat} (m:A=em [] (Re.ofRat q)) (z:CL q) (s:C=em w (Re.ofRat q)):CF 315 [.agg [.sl (.sl AA) T,.sl (.sl AA) RL],.one (.sl AA A)] (.one (.sl AA C)):=by
 have d:A=[rp q]:=m.trans (EJ q);have o:A.length=1:=by rw[d];rfl
 refine AJ Tryz.func315 fun E t=>?_
 conv=>cbv
 rintro D ⟨j,f10⟩;conv=>cbv
 intro g c;conv=>cbv
 cases g <;> conv=>cbv
 ·have f:=Ao c;exact absurd f (by omega)
 have f:=BA c;obtain⟨h,b⟩:=AP (l:=A) (i:=0) (by omega);refine⟨h,fun _=>⟨by omega,b⟩,?_⟩;try conv=>cbv
 refine AB t (Jq (G.BE hw) y (Ff d b) z s) ?_;conv=>cbv
 refine g2 rfl ?_;exact AD ⟨t2,trivial⟩
theorem iQ (G:Gam TT R K S) (hw:TT w) (hT:T=tw w) (hu:TT (r::u)) (M:Ba (r::u) w) (ih:Pk 315 S w u) (hR:GI w RL (r::u)) (J:A=em (r::u) x) (hx:El (r::u) S x) (h:x=p+q*rt u r) (Q:El u S p) (U:El u S q) (h0:q=0) (hC:C=em w x):CF 315 [.agg [.sl (.sl AA) T,.sl (.sl AA) RL],.one (.sl AA A)] (.one (.sl AA C)):=by
 have g:=(G.BE hu).red;have l:A.length=2^u.length+2^u.length:=by rw[J,Bl hx.mem,B4]
 have aw:=C2 u.length;have ar:(r::u).length<=8:=G.ht hu;have ab:(r::u).length=u.length+1:=rfl;have hmul:=G.mul hw;have W:El w K (rt u r):=by have:=G.CE hu hw M (JL g);rwa [Nat.zero_add] at this
 obtain⟨wk,ax,ae,O⟩:=hR.2;obtain⟨rk,V⟩:=xR (em wk (rt u r));rw[<-V] at O;refine AJ Tryz.func315 fun E hE=>?_
 conv=>cbv
 rintro aA ⟨ah,f10⟩;conv=>cbv
 intro a2 i;conv=>cbv
 cases a2 <;> conv=>cbv
 ·have z:=Ao i;rintro aB ⟨ai,f19⟩;conv=>cbv
  intro a5 an;conv=>cbv
  refine g2 ⟨by omega,by omega,i64 (by omega)⟩ ?_;refine .inr ?_;obtain⟨J0,c⟩:=xJ fun vs bl k=>∃(k':Nat) (D Y:Int),vs=[.one (.sl AA A),.one (.Ag 2 0 0),.one (.int .i64 D),.one (.int .i64 Y)]/\bl=[.var 0 [.sl (.sl AA) T,.sl (.sl AA) RL]]/\(AW D (A.length/2)/\AW Y k'/\k'<=u.length)/\k=u.length-k'
  refine⟨[],[1,2,5,6],[2],J0,⟨u.length-0,by rw[c];exact⟨0,a5,0,rfl,rfl,⟨⟨by omega⟩,Bb 0,by omega⟩,rfl⟩⟩,?_⟩;intro vs bl ay hj;rw[c] at hj;obtain⟨k',D,Y,rfl,rfl,⟨m,N,av⟩,au⟩:=hj;conv=>cbv
  have ak:=m.eq;have al:=N.eq;intro aC ao;conv=>cbv
  refine AN ?_;intro aD I;conv=>cbv
  refine AI ?_;rintro aE ⟨aj,f25⟩;conv=>cbv
  have af:=(Fg (k:=k'+1) I (by omega)).eq;intro a6 j;conv=>cbv
  cases a6 <;> conv=>cbv
  ·have X:=BB j;have P:k'=u.length:=by have:=K4 l (show ¬2^(k'+1)<A.length by omega);omega
   intro m32 ad;conv=>cbv
   refine AI ?_;intro H aa;conv=>cbv
   intro Z s;conv=>cbv
   have d:Z=em u p:=by rw[s,List.drop_zero,show H=A.length/2 by omega,J,Co g Q.mem U.mem h]
   obtain⟨aF,b⟩:=xR (em w (p));refine AB hE (ih hT hR.1 d Q b) ?_;conv=>cbv
   refine g2 rfl ?_;intro az y;conv=>cbv
   refine AI ?_;rintro F ag ⟨a8,o⟩;conv=>cbv
   intro a1 t;conv=>cbv
   have f:a1=em u q:=by rw[t,show F=A.length/2 by omega,o,y,List.take_length,J,CP g Q.mem U.mem h]
   refine AB hE (Jw (G.BE (G.sub hu)).red U.mem f h0) ?_;conv=>cbv
   exact AD ⟨⟨rfl,congrArg _ (by rw[hC,b];congr 1;rw[h,h0];clear ih;grind),trivial⟩,trivial⟩
  have X:=BC j;refine .inr ?_;have P:k'<u.length:=K5 l (show 2^(k'+1)<A.length by omega);intro a7 aq;conv=>cbv
  refine AN ?_;refine⟨u.length-(k'+1),?_,?_⟩
  ·omega
  rw[c];exact⟨k'+1,D,a7,rfl,rfl,⟨m,⟨by omega⟩,by omega⟩,rfl⟩
 have z:=BA i;exact absurd z (by omega)
theorem iP (G:Gam TT R K S) (hw:TT w) (J:T=tw w) (hu:TT (r::u)) (c:Ba (r::u) w) (ih:Pk 315 S w u) (hR:GI w RL (r::u)) (hA:A=em (r::u) x) (hx:El (r::u) S x) (f:x=p+q*rt u r) (W:El u S p) (t:El u S q) (h0:q≠0) (hC:C=em w x):CF 315 [.agg [.sl (.sl AA) T,.sl (.sl AA) RL],.one (.sl AA A)] (.one (.sl AA C)):=by
 have d:=(G.BE hu).red;have F:A.length=2^u.length+2^u.length:=by rw[hA,Bl hx.mem,B4]
 have aH:=C2 u.length;have aE:(r::u).length<=8:=G.ht hu;have ao:(r::u).length=u.length+1:=rfl;have hmul:=G.mul hw;have b:El w K (rt u r):=by have:=G.CE hu hw c (JL d);rwa [Nat.zero_add] at this
 obtain⟨wk,aa,X,I⟩:=hR.2;obtain⟨rk,Y⟩:=xR (em wk (rt u r));rw[<-Y] at I;refine AJ Tryz.func315 fun E y=>?_
 conv=>cbv
 rintro aL ⟨aw,f10⟩;conv=>cbv
 intro ag z;conv=>cbv
 cases ag <;> conv=>cbv
 ·have Z:=Ao z;rintro aM ⟨ax,f19⟩;conv=>cbv
  intro ah aB;conv=>cbv
  refine g2 ⟨by omega,by omega,i64 (by omega)⟩ ?_;refine .inr ?_;obtain⟨J0,l⟩:=xJ fun vs bl k=>∃(k':Nat) (hv kk:Int),vs=[.one (.sl AA A),.one (.Ag 2 0 0),.one (.int .i64 hv),.one (.int .i64 kk)]/\bl=[.var 0 [.sl (.sl AA) T,.sl (.sl AA) RL]]/\(AW hv (A.length/2)/\AW kk k'/\k'<=u.length)/\k=u.length-k'
  refine⟨[],[1,2,5,6],[2],J0,⟨u.length-0,by rw[l];exact⟨0,ah,0,rfl,rfl,⟨⟨by omega⟩,Bb 0,by omega⟩,rfl⟩⟩,?_⟩;intro vs bl aI hj;rw[l] at hj;obtain⟨k',hv,kk,rfl,rfl,⟨H,a7,aG⟩,aF⟩:=hj;conv=>cbv
  have az:=H.eq;have aA:=a7.eq;intro aN aC;conv=>cbv
  refine AN ?_;intro aO a6;conv=>cbv
  refine AI ?_;rintro aP ⟨ay,f25⟩;conv=>cbv
  have ar:=(Fg (k:=k'+1) a6 (by omega)).eq;intro ai D;conv=>cbv
  cases ai <;> conv=>cbv
  ·have ab:=BB D;have a8:k'=u.length:=by have:=K4 F (show ¬2^(k'+1)<A.length by omega);omega
   intro m32 aq;conv=>cbv
   refine AI ?_;intro a5 an;conv=>cbv
   intro ad O;conv=>cbv
   have m:ad=em u p:=by rw[O,List.drop_zero,show a5=A.length/2 by omega,hA,Co d W.mem t.mem f]
   obtain⟨aQ,g⟩:=xR (em w (p));refine AB y (ih J hR.1 m W g) ?_;conv=>cbv
   refine g2 rfl ?_;intro aJ U;conv=>cbv
   refine AI ?_;rintro a1 au ⟨ak,M⟩;conv=>cbv
   intro ae P;conv=>cbv
   have o:ae=em u q:=by rw[P,show a1=A.length/2 by omega,M,U,List.take_length,hA,CP d W.mem t.mem f]
   refine AB y (Ih (G.BE (G.sub hu)).red t.mem o h0) ?_;conv=>cbv
   intro aK V;conv=>cbv
   refine AI ?_;rintro a2 av ⟨al,N⟩;conv=>cbv
   intro af Q;conv=>cbv
   have s:af=em u q:=by rw[Q,show a2=A.length/2 by omega,N,V,List.take_length,hA,CP d W.mem t.mem f]
   obtain⟨aR,h⟩:=xR (em w (q));refine AB y (ih J hR.1 s t h) ?_;conv=>cbv
   refine⟨rk,fun _=>⟨by omega,by rw[show kk.toNat=u.length by omega];exact I⟩,?_⟩;try conv=>cbv
   obtain⟨aS,i⟩:=xR (em w (rt u r));refine AB y (SI (G.BE hw) J Y X aa i) ?_;conv=>cbv
   obtain⟨aT,j⟩:=xR (em w (q*rt u r));refine AB y (H3 (G.BE hw) J h i (G.CE (G.sub hu) hw c.tail t) b (by omega) j) ?_;conv=>cbv
   refine g2 rfl ?_;refine AB (r:= .one (.sl AA C)) y (KU (G.BE hw) J g j (G.CE (G.sub hu) hw c.tail W) ((G.CE (G.sub hu) hw c.tail t).mul (G.BE hw) b) (by omega) (by omega) (by rw[hC,f])) ?_;conv=>cbv
   exact AD ⟨t2,trivial⟩
  have ab:=BC D;refine .inr ?_;have a8:k'<u.length:=K5 F (show 2^(k'+1)<A.length by omega);intro aj aD;conv=>cbv
  refine AN ?_;refine⟨u.length-(k'+1),?_,?_⟩
  ·omega
  rw[l];exact⟨k'+1,hv,aj,rfl,rfl,⟨H,⟨by omega⟩,by omega⟩,rfl⟩
 have Z:=BA z;exact absurd Z (by omega)
theorem iR {u:List (List Rat)} {x:Re} (z:mm=RL.length) (G:Gam TT R K S) (hw:TT w) (y:T=tw w) {q:Rat} (m:A=em [] (Re.ofRat q)) (D:CL q) (s:C=em w (Re.ofRat q)):BU Tryz.prog 315 [.agg [.sl (.sl AA) T,.AS (.sl AA) 0 0 0 mm],.one (.sl AA A)] (.arr 0 (.sl AA) RL) (.one (.sl AA C)):=by
 have d:A=[rp q]:=m.trans (EJ q);have o:A.length=1:=by rw[d];rfl
 refine Ik Tryz.func315 (by kernel_rfl) rfl fun E t=>?_
 conv=>cbv
 rintro F ⟨j,f10⟩;conv=>cbv
 intro g c;conv=>cbv
 cases g <;> conv=>cbv
 ·have f:=Ao c;exact absurd f (by omega)
 have f:=BA c;obtain⟨h,b⟩:=AP (l:=A) (i:=0) (by omega);refine⟨h,fun _=>⟨by omega,b⟩,?_⟩;try conv=>cbv
 refine AB t (Jq (G.BE hw) y (Ff d b) D s) ?_;conv=>cbv
 refine g2 rfl ?_;refine fun _=>⟨⟨⟨t2,trivial⟩,rfl,by simp⟩,rfl⟩
theorem iT (U:mm=RL.length) (G:Gam TT R K S) (hw:TT w) (hT:T=tw w) (hu:TT (r::u)) (N:Ba (r::u) w) (ih:Pm 315 S w u) (hR:GI w RL (r::u)) (M:A=em (r::u) x) (hx:El (r::u) S x) (h:x=p+q*rt u r) (V:El u S p) (W:El u S q) (h0:q=0) (hC:C=em w x):BU Tryz.prog 315 [.agg [.sl (.sl AA) T,.AS (.sl AA) 0 0 0 mm],.one (.sl AA A)] (.arr 0 (.sl AA) RL) (.one (.sl AA C)):=by
 have g:=(G.BE hu).red;have l:A.length=2^u.length+2^u.length:=by rw[M,Bl hx.mem,B4]
 have ax:=C2 u.length;have au:(r::u).length<=8:=G.ht hu;have ad:(r::u).length=u.length+1:=rfl;have hmul:=G.mul hw;have Y:El w K (rt u r):=by have:=G.CE hu hw N (JL g);rwa [Nat.zero_add] at this
 obtain⟨wk,ay,af,P⟩:=hR.2;obtain⟨rk,X⟩:=xR (em wk (rt u r));rw[<-X] at P;refine Ik Tryz.func315 (by kernel_rfl) rfl fun E hE=>?_
 conv=>cbv
 rintro aB ⟨ai,f10⟩;conv=>cbv
 intro a2 i;conv=>cbv
 cases a2 <;> conv=>cbv
 ·have z:=Ao i;rintro aC ⟨aj,f19⟩;conv=>cbv
  intro a5 ao;conv=>cbv
  refine g2 ⟨by omega,by omega,i64 (by omega)⟩ ?_;refine .inr ?_;obtain⟨J0,c⟩:=xJ fun vs bl k=>∃(k':Nat) (F kk:Int),vs=[.one (.sl AA A),.one (.Ag 2 0 0),.one (.int .i64 F),.one (.int .i64 kk)]/\bl=[.arr 0 (.sl AA) RL,.var 0 [.sl (.sl AA) T,.AS (.sl AA) 0 0 0 mm]]/\(AW F (A.length/2)/\AW kk k'/\k'<=u.length)/\k=u.length-k'
  refine⟨[],[1,2,5,6],[0,2],J0,⟨u.length-0,by rw[c];exact⟨0,a5,0,rfl,rfl,⟨⟨by omega⟩,Bb 0,by omega⟩,rfl⟩⟩,?_⟩;intro vs bl az hj;rw[c] at hj;obtain⟨k',F,kk,rfl,rfl,⟨m,O,aw⟩,av⟩:=hj;conv=>cbv
  have al:=m.eq;have an:=O.eq;intro aD aq;conv=>cbv
  refine AN ?_;intro aE J;conv=>cbv
  refine AI ?_;rintro aF ⟨ak,f25⟩;conv=>cbv
  have ag:=(Fg (k:=k'+1) J (by omega)).eq;intro a6 j;conv=>cbv
  cases a6 <;> conv=>cbv
  ·have Z:=BB j;have Q:k'=u.length:=by have:=K4 l (show ¬2^(k'+1)<A.length by omega);omega
   intro m32 ae;conv=>cbv
   refine AI ?_;intro I ab;conv=>cbv
   intro D s;conv=>cbv
   have d:D=em u p:=by rw[s,List.drop_zero,show I=A.length/2 by omega,M,Co g V.mem W.mem h]
   obtain⟨a8,b⟩:=xR (em w (p));refine .inr (.inr (.inl ⟨0,.arr 0 (.sl AA) RL,[.agg [.sl (.sl AA) T,.AS (.sl AA) 0 0 0 mm],.one (.sl AA D)],.one (.sl AA a8),fun _=>⟨rfl,⟨⟨rfl,⟨⟨rfl,rfl⟩,rfl⟩,trivial⟩,rfl,trivial⟩⟩,fun _=>G8 hE (ih hT hR.1 U d V b),?_⟩));try conv=>cbv
   refine g2 rfl ?_;intro aA y;conv=>cbv
   refine AI ?_;rintro H ah ⟨aa,o⟩;conv=>cbv
   intro a1 t;conv=>cbv
   have f:a1=em u q:=by rw[t,show H=A.length/2 by omega,o,y,List.take_length,M,CP g V.mem W.mem h]
   refine AB hE (Jw (G.BE (G.sub hu)).red W.mem f h0) ?_;conv=>cbv
   refine fun _=>⟨⟨⟨⟨rfl,congrArg _ (by rw[hC,b];congr 1;rw[h,h0];clear ih;grind),trivial⟩,trivial⟩,rfl,by simp⟩,rfl⟩
  have Z:=BC j;refine .inr ?_;have Q:k'<u.length:=K5 l (show 2^(k'+1)<A.length by omega);intro a7 ar;conv=>cbv
  refine AN ?_;refine⟨u.length-(k'+1),?_,?_⟩
  ·omega
  rw[c];exact⟨k'+1,F,a7,rfl,rfl,⟨m,⟨by omega⟩,by omega⟩,rfl⟩
 have z:=BA i;exact absurd z (by omega)
theorem iS (a5:mm=RL.length) (G:Gam TT R K S) (hw:TT w) (U:T=tw w) (hu:TT (r::u)) (c:Ba (r::u) w) (ih:Pm 315 S w u) (hR:GI w RL (r::u)) (hA:A=em (r::u) x) (hx:El (r::u) S x) (h:x=p+q*rt u r) (hp:El u S p) (H:El u S q) (h0:q≠0) (hC:C=em w x):BU Tryz.prog 315 [.agg [.sl (.sl AA) T,.AS (.sl AA) 0 0 0 mm],.one (.sl AA A)] (.arr 0 (.sl AA) RL) (.one (.sl AA C)):=by
 have g:=(G.BE hu).red;have P:A.length=2^u.length+2^u.length:=by rw[hA,Bl hx.mem,B4]
 have aQ:=C2 u.length;have aN:(r::u).length<=8:=G.ht hu;have az:(r::u).length=u.length+1:=rfl;have hmul:=G.mul hw;have b:El w K (rt u r):=by have:=G.CE hu hw c (JL g);rwa [Nat.zero_add] at this
 obtain⟨wk,aj,a6,d⟩:=hR.2;obtain⟨rk,f⟩:=xR (em wk (rt u r));rw[<-f] at d;refine Ik Tryz.func315 (by kernel_rfl) rfl fun E M=>?_
 conv=>cbv
 rintro aU ⟨aF,f10⟩;conv=>cbv
 intro an N;conv=>cbv
 cases an <;> conv=>cbv
 ·have a8:=Ao N;rintro aV ⟨aG,f19⟩;conv=>cbv
  intro ao aK;conv=>cbv
  refine g2 ⟨by omega,by omega,i64 (by omega)⟩ ?_;refine .inr ?_;obtain⟨J0,y⟩:=xJ fun vs bl k=>∃(k':Nat) (hv kk:Int),vs=[.one (.sl AA A),.one (.Ag 2 0 0),.one (.int .i64 hv),.one (.int .i64 kk)]/\bl=[.arr 0 (.sl AA) RL,.var 0 [.sl (.sl AA) T,.AS (.sl AA) 0 0 0 mm]]/\(AW hv (A.length/2)/\AW kk k'/\k'<=u.length)/\k=u.length-k'
  refine⟨[],[1,2,5,6],[0,2],J0,⟨u.length-0,by rw[y];exact⟨0,ao,0,rfl,rfl,⟨⟨by omega⟩,Bb 0,by omega⟩,rfl⟩⟩,?_⟩;intro vs bl aR hj;rw[y] at hj;obtain⟨k',hv,kk,rfl,rfl,⟨Q,ah,aP⟩,aO⟩:=hj;conv=>cbv
  have aI:=Q.eq;have aJ:=ah.eq;intro aW aL;conv=>cbv
  refine AN ?_;intro aX ag;conv=>cbv
  refine AI ?_;rintro aY ⟨aH,f25⟩;conv=>cbv
  have aC:=(Fg (k:=k'+1) ag (by omega)).eq;intro aq O;conv=>cbv
  cases aq <;> conv=>cbv
  ·have ak:=BB O;have ai:k'=u.length:=by have:=K4 P (show ¬2^(k'+1)<A.length by omega);omega
   intro m32 aB;conv=>cbv
   refine AI ?_;intro af ay;conv=>cbv
   intro aa X;conv=>cbv
   have z:aa=em u p:=by rw[X,List.drop_zero,show af=A.length/2 by omega,hA,Co g hp.mem H.mem h]
   obtain⟨au,j⟩:=xR (em w (p));refine .inr (.inr (.inl ⟨0,.arr 0 (.sl AA) RL,[.agg [.sl (.sl AA) T,.AS (.sl AA) 0 0 0 mm],.one (.sl AA aa)],.one (.sl AA au),fun _=>⟨rfl,⟨⟨rfl,⟨⟨rfl,rfl⟩,rfl⟩,trivial⟩,rfl,trivial⟩⟩,fun _=>G8 M (ih U hR.1 a5 z hp j),?_⟩));try conv=>cbv
   refine g2 rfl ?_;intro aS a1;conv=>cbv
   refine AI ?_;rintro ad aD ⟨aw,V⟩;conv=>cbv
   intro al Y;conv=>cbv
   have D:al=em u q:=by rw[Y,show ad=A.length/2 by omega,V,a1,List.take_length,hA,CP g hp.mem H.mem h]
   refine AB M (Ih (G.BE (G.sub hu)).red H.mem D h0) ?_;conv=>cbv
   intro aT a2;conv=>cbv
   refine AI ?_;rintro ae aE ⟨ax,W⟩;conv=>cbv
   intro ab Z;conv=>cbv
   have F:ab=em u q:=by rw[Z,show ae=A.length/2 by omega,W,a2,List.take_length,hA,CP g hp.mem H.mem h]
   obtain⟨av,m⟩:=xR (em w (q));refine .inr (.inr (.inl ⟨0,.arr 0 (.sl AA) RL,[.agg [.sl (.sl AA) T,.AS (.sl AA) 0 0 0 mm],.one (.sl AA ab)],.one (.sl AA av),fun _=>⟨rfl,⟨⟨rfl,⟨⟨rfl,rfl⟩,rfl⟩,trivial⟩,rfl,trivial⟩⟩,fun _=>G8 M (ih U hR.1 a5 F H m),?_⟩));try conv=>cbv
   refine⟨fun _=>⟨by omega,by have:=Gv d;omega⟩,?_⟩;intro a7 aA;conv=>cbv
   obtain⟨J,t⟩:=AP (l:=RL) (i:=a7) (by have:=Gv d;omega);refine⟨J,fun _=>t,?_⟩;try conv=>cbv
   have I:J=rk:=by have:=t;rw[show a7=u.length by omega,d] at this;exact (Option.some.inj this).symm
   have f:J=em wk (rt u r):=I.trans f;obtain⟨aZ,o⟩:=xR (em w (rt u r));refine AB M (SI (G.BE hw) U f a6 aj o) ?_;conv=>cbv
   obtain⟨b0,s⟩:=xR (em w (q*rt u r));refine AB M (H3 (G.BE hw) U m o (G.CE (G.sub hu) hw c.tail H) b (by omega) s) ?_;conv=>cbv
   refine g2 rfl ?_;refine AB (r:= .one (.sl AA C)) M (KU (G.BE hw) U j s (G.CE (G.sub hu) hw c.tail hp) ((G.CE (G.sub hu) hw c.tail H).mul (G.BE hw) b) (by omega) (by omega) (by rw[hC,h])) ?_;conv=>cbv
   refine fun _=>⟨⟨⟨t2,trivial⟩,rfl,by simp⟩,rfl⟩
  have ak:=BC O;refine .inr ?_;have ai:k'<u.length:=K5 P (show 2^(k'+1)<A.length by omega);intro ar aM;conv=>cbv
  refine AN ?_;refine⟨u.length-(k'+1),?_,?_⟩
  ·omega
  rw[y];exact⟨k'+1,hv,ar,rfl,rfl,⟨Q,⟨by omega⟩,by omega⟩,rfl⟩
 have a8:=BA N;exact absurd a8 (by omega)
theorem XH (G:Gam TT R K S) (hw:TT w):∀{u:List (List Rat)},TT u->Ba u w->Pk 315 S w u:=by
 intro u
 induction u with
 | nil=>
  intro hu c T RL A C x i hR g b h;obtain⟨q,rfl⟩:=Cp.1 b.mem;have d:=b.CJ (by have:=G.mul hw;omega);rw[De] at d;exact iO (u:=[]) (x:=0) G hw i g (d q List.mem_cons_self) h
 | cons r u m=>
  intro hu c T RL A C x i hR g b h;obtain⟨p,q,f,l,d⟩:=El.parts (G.BE hu).red b
  by_cases j:q=0
  ·exact iQ G hw i hu c (m (G.sub hu) c.tail) hR g b f l d j h
  exact iP G hw i hu c (m (G.sub hu) c.tail) hR g b f l d j h
theorem imD (G:Gam TT R K S) (hw:TT w):∀{u:List (List Rat)},TT u->Ba u w->Pm 315 S w u:=by
 intro u
 induction u with
 | nil=>
  intro hu d T RL A C x mm j hR b h c i;obtain⟨q,rfl⟩:=Cp.1 c.mem;have f:=c.CJ (by have:=G.mul hw;omega);rw[De] at f;exact iR (u:=[]) (x:=0) b G hw j h (f q List.mem_cons_self) i
 | cons r u o=>
  intro hu d T RL A C x mm j hR b h c i;obtain⟨p,q,g,m,f⟩:=El.parts (G.BE hu).red c
  by_cases l:q=0
  ·exact iT b G hw j hu d (o (G.sub hu) d.tail) hR h c g m f l i
  exact iS b G hw j hu d (o (G.sub hu) d.tail) hR h c g m f l i
end Go.Abs
namespace Go.Abs
open Go.RowKit
variable {K R S:Nat} {T T2:List LR} {TT:List (List Rat)->Prop}
theorem Ph {A B:LR} {R' s:Nat} {u:List (List Rat)} {v:Re} (h:At R u) (h':At R' (BK u v)) (l:(BK u v).length<=8) (g:T=tw u) (m:A=em u v) (j:El u s v) (o:Fit u.length R s) (f:0<=v) (b:T2=tw (BK u v)) (c:B=em (BK u v) (Re.sqrt v)):
  CF 230 [.one (.sl (.sl AA) T),.one (.sl AA A)] (.AF [(false,[.sl (.sl AA) T2]),(false,[.sl AA B]),(false,[.int .i64 0])]):=by
 by_cases d:Sq u v
 ·rw[D3 d] at b c;have i:T2=T:=b.trans g.symm;subst i;exact ef h g m j o ((Lf f).1 d) (Re.Jl v) (Re.HR f) c
 rw[Dc d] at h' l b c;rw[<-KM j.mem] at c;exact eh h g m j o (by rw[List.length_cons] at l;omega) f d rfl h' b c
theorem LQ (u:List (List Rat)) (i:Nat):pre u i<:+u:=List.drop_suffix _ _
theorem Mv (u:List (List Rat)):pre u 0=[]:=by rw[pre,Nat.sub_zero,List.drop_length]
theorem Er (p:Prop):∃b:Bool,(b=true↔p):=by
 by_cases h:p
 ·exact⟨true,by simp[h]⟩
 exact⟨false,by simp[h]⟩
theorem MF {X Y:List LR} {u w:List (List Rat)} {c:Bool} (hu:At R u) (hw:At R w) (b:X=tw u) (d:Y=tw w) (h:c=true↔w<:+u):CF 231 [.one (.sl (.sl AA) X),.one (.sl (.sl AA) Y)] (.one (.bool c)):=by
 cases c with
 | true=>exact fZ hu hw b d (h.1 rfl)
 | false=>exact fY hu hw b d (fun k=>by have:=h.2 k;cases this)
noncomputable def nm (n:List (List Rat)×Re):el Bc:=(tw n.1,em n.1 n.2)
noncomputable def CD (ns:List (List (List Rat)×Re)):List (List Rat):=ns.foldl (fun t n=>Ev t n.1) []
theorem ix (ns:List (List (List Rat)×Re)) (n:List (List Rat)×Re):CD (ns++[n])=Ev (CD ns) n.1:=by
 rw[CD,List.foldl_append];rfl
theorem XT {ns:List (List (List Rat)×Re)} {i:Nat} {n:List (List Rat)×Re} (h:ns[i]? =some n):CD (ns.take (i+1))=Ev (CD (ns.take i)) n.1:=by
 rw[C4 h,ix]
theorem Im {X:List (el Bc)} {ns:List (List (List Rat)×Re)} {i:Nat} {x:el Bc} (c:X=ns.map nm) (b:X[i]? =some x):∃u y,x.1=tw u/\x.2=em u y/\ns[i]? =some (u,y):=by
 rw[c,List.getElem?_map] at b;cases h:ns[i]? with
 | none=>rw[h] at b;simp at b
 | some n=>
  rw[h] at b;have e:nm n=x:=Option.some.inj b;exact⟨n.1,n.2,by rw[<-e];rfl,by rw[<-e];rfl,rfl⟩
theorem Gam.CD (G:Gam TT R K S):∀{ns:List (List (List Rat)×Re)},(∀n∈ns,TT n.1)->TT (CD ns):=by
 have key:∀(ns:List (List (List Rat)×Re)) (t:List (List Rat)),TT t->(∀n∈ns,TT n.1)->TT (ns.foldl (fun t n=>Ev t n.1) t):=by
  intro ns
  induction ns with
  | nil=>intro t ht _;exact ht
  | cons n ns b=>intro t ht h;exact b _ (G.join ht (h n List.mem_cons_self)) (fun m hm=>h m (List.mem_cons_of_mem _ hm))
 intro ns h;exact key ns [] G.nil h
theorem Qw (G:Gam TT R K S) {ns:List (List (List Rat)×Re)} (h:∀n∈ns,TT n.1):∀n∈ns,Ba n.1 (Go.Abs.CD ns):=by
 have key:∀(ns:List (List (List Rat)×Re)) (t:List (List Rat)),TT t->(∀n∈ns,TT n.1)->Ba t (ns.foldl (fun t n=>Ev t n.1) t)/\∀n∈ns,Ba n.1 (ns.foldl (fun t n=>Ev t n.1) t):=by
  intro ns
  induction ns with
  | nil=>intro t ht _;exact⟨Ba.refl t,fun n b=>by simp at b⟩
  | cons n ns g=>
   intro t ht h;have b:=h n List.mem_cons_self;have d:=mM (G.BE ht).red (G.BE b).red;obtain⟨c,f⟩:=g _ (G.join ht b) (fun m hm=>h m (List.mem_cons_of_mem _ hm));refine⟨d.2.1.trans c,fun m hm=>?_⟩;rcases List.mem_cons.1 hm with rfl | hm
   ·exact d.2.2.trans c
   exact f m hm
 exact (key ns [] G.nil h).2
theorem Wr {U RL:List LR} {t u:List (List Rat)} (G:Gam TT R K S) (ht:TT t) (hu:TT u) (hT:T=tw t) (hU:U=tw u) (ae:T2=tw (ext t u)) (ab:RL=Ey t u):CF 314 [.one (.sl (.sl AA) T),.one (.sl (.sl AA) U)] (.AF [(true,[.sl (.sl AA) T2,.sl (.sl AA) RL]),(false,[.int .i64 0])]):=by
 have aq:U.length=u.length:=by rw[hU,CB]
 have av:=G.ht hu;have ad:=G.RS;refine AJ Tryz.func314 fun E hE=>?_
 conv=>cbv
 intro an W;have ao:=W.eq;have f15:=W.le;conv=>cbv
 refine .inr ?_
 obtain⟨J0,P⟩:∃J:List AV->List AM->Nat->Prop,J=fun vs bl k=>(∃(L i:Int),vs=[.one (.Ag 4 0 0),.one (.Ag 6 0 0),.one (.sl (.sl AA) U),.one (.int .i64 L),.one (.int .i64 i)]/\bl=[.var 0 [.nil,.nil],.var 0 [.sl (.sl AA) T,.nil],.dead 0]/\(DM L U.length/\AW i 0)/\k=U.length)\/
  (∃(Ti o:List LR) (mm i':Nat) (L i:Int),vs=[.one (.Ag 4 0 0),.one (.Ag 6 0 0),.one (.sl (.sl AA) U),.one (.int .i64 L),.one (.int .i64 i)]/\bl=[.var 0 [.nil,.nil],.var 0 [.sl (.sl AA) Ti,.AS (.sl AA) 39 0 0 mm],.arr 0 (.sl AA) o]/\(DM L U.length/\AW i i'/\i'<=U.length/\mm=o.length)/\Ti=tw (ext t (pre u i'))/\o=Ey t (pre u i')/\k=U.length-i'):=⟨_,rfl⟩
 refine⟨[],[4,6,14,15,16],[4,6,39],J0,⟨U.length,by rw[P];exact .inl ⟨an,0,rfl,rfl,⟨W,Bb 0⟩,rfl⟩⟩,?_⟩;intro vs bl aw hj;rw[P] at hj;rcases hj with⟨L,i,rfl,rfl,⟨hL,hi⟩,al⟩ |⟨Ti,o,mm,i',L,i,rfl,rfl,⟨hL,hi,ar,Z⟩,z,hinv,al⟩
 ·conv=>cbv
  have eL:=hL.eq;have ei:=hi.eq;obtain⟨i',Y⟩:=xN 0;have z:T=tw (ext t (pre u i')):=by rw[Y,Mv];exact hT
  intro a7 F;conv=>cbv
  cases a7 <;> conv=>cbv
  ·have a5:=BB F;have ai:u=[]:=List.eq_nil_of_length_eq_zero (by omega);exact AD ⟨⟨rfl,congrArg _ (by rw[ae,hT,ai];rfl),.inr (.inl ⟨_,congrArg _ (by rw[ab,ai];rfl)⟩),trivial⟩,t2,trivial⟩
  have a5:=BC F;refine .inr ?_;obtain⟨D,m⟩:=AP (l:=U) (i:=i') (by omega);refine⟨D,fun _=>⟨by omega,by rw[show (i).toNat=i' by omega];exact m⟩,?_⟩;try conv=>cbv
  obtain⟨r,y,M⟩:=KJ (u:=u) (i:=i') (by omega);have d:TT (pre u i'):=G.I5 (LQ u i') hu;have b:TT (r::pre u i'):=y ▸ G.I5 (LQ u (i'+1)) hu;have I:=(G.BE b).red;have a2:D=em (pre u i') (AL (pre u i') r):=by rw[<-hU,m] at M;exact (Option.some.inj M).trans (Eu I)
  have c:TT (ext t (pre u i')):=G.ext ht d;have s:=(Iy (G.BE ht).red (G.BE d).red).2;have H:El (pre u i') S (AL (pre u i') r):=(El.DH (G.BE b)).mono ad;have N:TT (BK (ext t (pre u i')) (AL (pre u i') r)):=G.BK c b s;have X:ext t (pre u (i'+1))=BK (ext t (pre u i')) (AL (pre u i') r):=by rw[y];rfl
  have a1:Ey t (pre u (i'+1))=Ey t (pre u i')++[em (BK (ext t (pre u i')) (AL (pre u i') r)) (Re.sqrt (AL (pre u i') r))]:=by rw[y];rfl
  obtain⟨aa,g⟩:=xR (em (ext t (pre u i')) (AL (pre u i') r));refine cL (r:= .one (.sl AA aa)) hE (XH G c d s z (by rw[Y,Mv];trivial) a2 H g) ⟨⟨rfl,.inr ⟨_,rfl⟩,trivial⟩,rfl,trivial⟩ ?_;try conv=>cbv
  obtain⟨O,h⟩:=xV (tw (BK (ext t (pre u i')) (AL (pre u i') r)));obtain⟨f,j⟩:=xR (em (BK (ext t (pre u i')) (AL (pre u i') r)) (Re.sqrt (AL (pre u i') r)));refine AB (r:= .AF [(false,[.sl (.sl AA) O]),(false,[.sl AA f]),(false,[.int .i64 0])]) hE (Ph (G.BE c) (G.BE N) (G.ht N) z g (G.CE d c s H) (G.fit c) (by have:=I.2.2.1;grind) h j) ?_;try conv=>cbv
  refine g2 rfl ?_;refine AO ?_;conv=>cbv
  refine⟨[f],fun _=>⟨rfl,by decide,rfl,⟨rfl,by first | exact t1 | exact t2 | exact t4 | simp[BV,Bm,cells],trivial⟩⟩,.inr ?_⟩;try conv=>cbv
  refine .inl ⟨[f],fun _=>⟨rfl,by show (1)*24<=140737488355328;(try simp only[List.length_take,List.length_drop]);omega⟩,?_⟩;intro Q aj;conv=>cbv
  intro a8 ak;conv=>cbv
  refine AN ?_;refine⟨U.length-(i'+1),?_,?_⟩
  ·omega
  rw[P];exact .inr ⟨O,[f],Q,i'+1,L,a8,rfl,rfl,⟨hL,⟨by omega⟩,by omega,aj⟩,by rw[h,X],by rw[a1,j,Y,Mv];rfl,rfl⟩
 conv=>cbv
 have eL:=hL.eq;have ei:=hi.eq;have au:o.length<=U.length:=by rw[hinv,NI,Jd (by omega)];omega
 intro a7 F;conv=>cbv
 cases a7 <;> conv=>cbv
 ·have a5:=BB F;have ah:pre u i'=u:=by rw[show i'=u.length by omega];exact Yv u
  exact AD ⟨⟨rfl,congrArg _ (by rw[ae,z,ah]),.inl ⟨_,rfl,by omega,congrArg _ (by rw[ab,Z,List.drop_zero,List.take_length,hinv,ah])⟩,trivial⟩,t2,trivial⟩
 have a5:=BC F;refine .inr ?_;obtain⟨D,m⟩:=AP (l:=U) (i:=i') (by omega);refine⟨D,fun _=>⟨by omega,by rw[show (i).toNat=i' by omega];exact m⟩,?_⟩;try conv=>cbv
 obtain⟨r,y,M⟩:=KJ (u:=u) (i:=i') (by omega);have d:TT (pre u i'):=G.I5 (LQ u i') hu;have b:TT (r::pre u i'):=y ▸ G.I5 (LQ u (i'+1)) hu;have I:=(G.BE b).red;have a2:D=em (pre u i') (AL (pre u i') r):=by rw[<-hU,m] at M;exact (Option.some.inj M).trans (Eu I)
 have c:TT (ext t (pre u i')):=G.ext ht d;have s:=(Iy (G.BE ht).red (G.BE d).red).2;have H:El (pre u i') S (AL (pre u i') r):=(El.DH (G.BE b)).mono ad;have N:TT (BK (ext t (pre u i')) (AL (pre u i') r)):=G.BK c b s;have X:ext t (pre u (i'+1))=BK (ext t (pre u i')) (AL (pre u i') r):=by rw[y];rfl
 have a1:Ey t (pre u (i'+1))=Ey t (pre u i')++[em (BK (ext t (pre u i')) (AL (pre u i') r)) (Re.sqrt (AL (pre u i') r))]:=by rw[y];rfl
 obtain⟨aa,g⟩:=xR (em (ext t (pre u i')) (AL (pre u i') r));refine .inr (.inr (.inl ⟨39,.arr 0 (.sl AA) o,[.agg [.sl (.sl AA) Ti,.AS (.sl AA) 0 0 0 mm],.one (.sl AA D)],.one (.sl AA aa),fun _=>⟨rfl,⟨⟨rfl,⟨⟨rfl,rfl⟩,rfl⟩,trivial⟩,rfl,trivial⟩⟩,fun _=>G8 hE (imD G c d s z (by rw[hinv];exact NJ (G.BE ht).red (G.BE d).red) Z a2 H g),?_⟩));try conv=>cbv
 obtain⟨O,h⟩:=xV (tw (BK (ext t (pre u i')) (AL (pre u i') r)));obtain⟨f,j⟩:=xR (em (BK (ext t (pre u i')) (AL (pre u i') r)) (Re.sqrt (AL (pre u i') r)));refine AB (r:= .AF [(false,[.sl (.sl AA) O]),(false,[.sl AA f]),(false,[.int .i64 0])]) hE (Ph (G.BE c) (G.BE N) (G.ht N) z g (G.CE d c s H) (G.fit c) (by have:=I.2.2.1;grind) h j) ?_;try conv=>cbv
 refine g2 rfl ?_;refine AO ?_;conv=>cbv
 refine⟨[f],fun _=>⟨rfl,by decide,rfl,⟨rfl,by first | exact t1 | exact t2 | exact t4 | simp[BV,Bm,cells],trivial⟩⟩,.inr ?_⟩;try conv=>cbv
 refine .inl ⟨[f],fun _=>⟨rfl,Z,rfl,by show (o.length+1)*24<=140737488355328;(try simp only[List.length_take,List.length_drop]);omega⟩,?_⟩;intro (a6:List (el (.sl AA))) Q V;have af:a6=(o:List (el (.sl AA)))++([f]:List (el (.sl AA))):=V.1;have ag:Q=List.length (α:=(el (.sl AA))) a6:=V.2;conv=>cbv
 intro a8 ak;conv=>cbv
 refine AN ?_;refine⟨U.length-(i'+1),?_,?_⟩
 ·omega
 rw[P];exact .inr ⟨O,a6,Q,i'+1,L,a8,rfl,rfl,⟨hL,⟨by omega⟩,by omega,ag⟩,by rw[h,X],by rw[af,hinv,a1,j],rfl⟩
end Go.Abs
namespace Go.Abs
open Go.RowKit
variable {K R S:Nat} {L:List (el Bc)} {T:List LR} {TT:List (List Rat)->Prop}
theorem gJ (G:Gam TT R K S) {ns:List (List (List Rat)×Re)} (J:∀n∈ns,TT n.1) (hL:L=ns.map nm) (hT:T=tw (CD ns)):CF 313 [.one (.sl Bc L)] (.AF [(false,[.sl (.sl AA) T]),(false,[.int .i64 0])]):=by
 have a2:L.length=ns.length:=by rw[hL,List.length_map]
 refine AJ Tryz.func313 fun E U=>?_
 conv=>cbv
 intro W t;have a1:=t.eq;have f10:=t.le;conv=>cbv
 refine .inr ?_;obtain⟨J0,b⟩:=xJ fun vs Z k=>∃(O:List LR) (i':Nat) (n i:Int),vs=[.one (.sl (.sl AA) O),.one (.sl Bc L),.one (.int .i64 n),.one (.int .i64 i)]/\Z=[]/\(DM n L.length/\AW i i'/\i'<=L.length)/\O=tw (CD (ns.take i'))/\k=L.length-i'
 refine⟨[(4,.sl AA,false)],[4,9,10,11],[],J0,⟨L.length,by rw[b];exact⟨[],0,W,0,rfl,rfl,⟨t,Bb 0,by omega⟩,rfl,rfl⟩⟩,?_⟩;intro vs Z a8 hj;rw[b] at hj;obtain⟨O,i',n,i,rfl,rfl,⟨F,hi,a5⟩,c,a6⟩:=hj;conv=>cbv
 have en:=F.eq;have ei:=hi.eq;intro X H;conv=>cbv
 cases X <;> conv=>cbv
 ·have V:=BB H;exact AD ⟨⟨rfl,congrArg _ (by rw[hT,c,List.take_of_length_le (show ns.length<=i' by omega)]),trivial⟩,t2,trivial⟩
 have V:=BC H;refine .inr ?_;obtain⟨Y,s⟩:=AP (l:=L) (i:=i') (by omega);refine⟨Y,fun _=>⟨by omega,by rw[show (i).toNat=i' by omega];exact s⟩,?_⟩;try conv=>cbv
 obtain⟨u,y,j,a7,M⟩:=Im hL s;have hu:TT u:=J _ (List.mem_of_getElem? M);have h:=XT M;unfold Ev at h;have z:TT (CD (ns.take i')):=G.CD (fun n F=>J n (List.mem_of_mem_take F));refine .inr ?_;obtain⟨P,d⟩:=Er (u<:+(CD (ns.take i')));refine AB U (MF (G.BE z) (G.BE hu) c j d) ?_;conv=>cbv
 refine .inr ?_;cases P <;> conv=>cbv
 ·have m:=fun q=>Bool.false_ne_true (d.2 q)
  obtain⟨Q,f⟩:=Er ((CD (ns.take i'))<:+u);refine AB U (MF (G.BE hu) (G.BE z) j c f) ?_;conv=>cbv
  refine .inr ?_;cases Q <;> conv=>cbv
  ·have D:=fun q=>Bool.false_ne_true (f.2 q)
   obtain⟨aa,o⟩:=xV (tw (ext (CD (ns.take i')) u));obtain⟨ab,N⟩:=xV (Ey (CD (ns.take i')) u);refine AB U (Wr G z hu c j o N) ?_;conv=>cbv
   refine AO ?_;conv=>cbv
   intro g I;conv=>cbv
   refine AN ?_;refine⟨L.length-(i'+1),?_,?_⟩
   ·omega
   rw[b];exact⟨_,i'+1,n,g,rfl,rfl,⟨F,⟨by omega⟩,by omega⟩,by rw[h,if_neg m,if_neg D,o],rfl⟩
  have D:=f.1 rfl;intro g I;conv=>cbv
  refine AN ?_;refine⟨L.length-(i'+1),?_,?_⟩
  ·omega
  rw[b];exact⟨_,i'+1,n,g,rfl,rfl,⟨F,⟨by omega⟩,by omega⟩,by rw[h,if_neg m,if_pos D];exact j,rfl⟩
 have m:=d.1 rfl;intro g I;conv=>cbv
 refine AN ?_;refine⟨L.length-(i'+1),?_,?_⟩
 ·omega
 rw[b];exact⟨_,i'+1,n,g,rfl,rfl,⟨F,⟨by omega⟩,by omega⟩,by rw[h,if_pos m,<-c],rfl⟩
theorem Pn (G:Gam TT R K S) {ns:List (List (List Rat)×Re)} (z:∀n∈ns,TT n.1) (hL:L=ns.map nm) (a6:∀n∈ns,El n.1 S n.2) (hlen:ns.length<=1000000) {O:List (el Bc)} (hO:O=ns.map (fun n=>nm (CD ns,n.2))):CF 233 [.one (.sl Bc L)] (.AF [(false,[.sl Bc O]),(false,[.int .i64 0])]):=by
 have af:L.length=ns.length:=by rw[hL,List.length_map]
 have b:TT (CD ns):=G.CD z;obtain⟨T,s⟩:=xV (tw (CD ns));refine AJ Tryz.func233 fun E P=>?_
 conv=>cbv
 refine AB P (gJ G z hL s) ?_;conv=>cbv
 refine AO ?_;conv=>cbv
 intro a8 N;have ae:=N.eq;have f21:=N.le;conv=>cbv
 refine .inr ?_;obtain⟨J0,t⟩:=xJ fun vs bl k=>∃(o:List (el Bc)) (mm i':Nat) (n i:Int),vs=[.one (.sl (.sl AA) T),.one (.AS Bc 6 0 0 mm),.one (.sl Bc L),.one (.int .i64 n),.one (.int .i64 i)]/\bl=[.arr 0 Bc o]/\(DM n L.length/\AW i i'/\i'<=L.length/\mm=o.length)/\o=(ns.take i').map (fun n=>nm (CD ns,n.2))/\k=L.length-i'
 refine⟨[(6,Bc,true)],[4,6,20,21,22],[6],J0,⟨L.length,by rw[t];exact⟨[],0,0,a8,0,rfl,rfl,⟨N,Bb 0,Nat.zero_le _,rfl⟩,rfl,rfl⟩⟩,?_⟩;intro vs bl aj hj;rw[t] at hj;obtain⟨o,mm,i',n,i,rfl,rfl,⟨hn,hi,ag,Q⟩,hinv,ah⟩:=hj;conv=>cbv
 have en:=hn.eq;have ei:=hi.eq;have ai:o.length<=L.length:=by rw[hinv,List.length_map,List.length_take];omega
 intro aa X;conv=>cbv
 cases aa <;> conv=>cbv
 ·have a7:=BB X;exact AD ⟨⟨rfl,.inl ⟨_,rfl,by omega,congrArg _ (by rw[hO,Q,hinv,List.drop_zero,List.take_length,List.take_of_length_le (show ns.length<=i' by omega)])⟩,trivial⟩,t2,trivial⟩
 have a7:=BC X;refine .inr ?_;obtain⟨ad,M⟩:=AP (l:=L) (i:=i') (by omega);refine⟨ad,fun _=>⟨by omega,by rw[show (i).toNat=i' by omega];exact M⟩,?_⟩;try conv=>cbv
 obtain⟨u,y,Y,Z,U⟩:=Im hL M;have V:=List.mem_of_getElem? U;have hu:TT u:=z _ V;have F:El u S y:=a6 _ V;have D:Ba u (CD ns):=Qw G z _ V;obtain⟨H,f⟩:=xR (em (CD ns) y);obtain⟨a2,g⟩:=Er (u<:+CD ns);refine AB P (MF (G.BE b) (G.BE hu) s Y g) ?_;conv=>cbv
 refine .inr ?_;cases a2 <;> conv=>cbv
 ·have a1:=fun q=>Bool.false_ne_true (g.2 q)
  obtain⟨ab,J⟩:=xV (Ey (CD ns) u);have I:=Q1 (G.BE b).red (G.BE hu).red D;refine AB (r:= .AF [(true,[.sl (.sl AA) T,.sl (.sl AA) ab]),(false,[.int .i64 0])]) P (Wr G b hu s Y (by rw[I];exact s) J) ?_;try conv=>cbv
  refine AO ?_;conv=>cbv
  refine AB (r:= .one (.sl AA H)) P (XH G b hu D s (by rw[J];have:=NJ (G.BE b).red (G.BE hu).red;rwa [I] at this) Z F f) ?_;try conv=>cbv
  refine AB (r:= .agg [.sl (.sl AA) T,.sl AA H]) P (OE (G.BE b) s f (G.CE hu b D F) (by have:=G.mul b;omega)) ?_;try conv=>cbv
  refine⟨[(T,H)],fun _=>⟨rfl,by decide,rfl,⟨rfl,by first | exact t1 | exact t2 | exact t4 | simp[BV,Bm,cells],trivial⟩⟩,.inr ?_⟩;try conv=>cbv
  refine .inl ⟨[(T,H)],fun _=>⟨rfl,Q,rfl,by show (o.length+1)*48<=140737488355328;(try simp only[List.length_take,List.length_drop]);omega⟩,?_⟩;intro (d:List (el Bc)) m c;have h:d=(o:List (el Bc))++([(T,H)]:List (el Bc)):=c.1;have j:m=List.length (α:=(el Bc)) d:=c.2;conv=>cbv
  intro W a5;conv=>cbv
  refine AN ?_;refine⟨L.length-(i'+1),?_,?_⟩
  ·omega
  rw[t];exact⟨d,m,i'+1,n,W,rfl,rfl,⟨hn,⟨by omega⟩,by omega,j⟩,by rw[h,hinv,C4 U,List.map_append];simp[nm,s,f],rfl⟩
 have a1:=g.1 rfl;refine AB P (SI (G.BE b) s Z F.mem a1 f) ?_;conv=>cbv
 refine AB (r:= .agg [.sl (.sl AA) T,.sl AA H]) P (OE (G.BE b) s f (G.CE hu b D F) (by have:=G.mul b;omega)) ?_;try conv=>cbv
 refine⟨[(T,H)],fun _=>⟨rfl,by decide,rfl,⟨rfl,by first | exact t1 | exact t2 | exact t4 | simp[BV,Bm,cells],trivial⟩⟩,.inr ?_⟩;try conv=>cbv
 refine .inl ⟨[(T,H)],fun _=>⟨rfl,Q,rfl,by show (o.length+1)*48<=140737488355328;(try simp only[List.length_take,List.length_drop]);omega⟩,?_⟩;intro (d:List (el Bc)) m c;have h:d=(o:List (el Bc))++([(T,H)]:List (el Bc)):=c.1;have j:m=List.length (α:=(el Bc)) d:=c.2;conv=>cbv
 intro W a5;conv=>cbv
 refine AN ?_;refine⟨L.length-(i'+1),?_,?_⟩
 ·omega
 rw[t];exact⟨d,m,i'+1,n,W,rfl,rfl,⟨hn,⟨by omega⟩,by omega,j⟩,by rw[h,hinv,C4 U,List.map_append];simp[nm,s,f],rfl⟩
noncomputable def Bf (u v:List (List Rat)):List (List Rat):=CD [(u,0),(v,0)]
theorem Qo (G:Gam TT R K S) {T1 T2:List LR} {A1 A2:LR} {u v:List (List Rat)} {x y:Re} (hu:TT u) (Y:TT v) (I:T1=tw u) (J:T2=tw v) (F:A1=em u x) (H:A2=em v y) (Z:El u S x) (hy:El v S y) {A B C:LR} {g:FuncId} (W:T=tw (Bf u v)) (Q:A=em (Bf u v) x) (U:B=em (Bf u v) y) (X:CF g [.one (.sl (.sl AA) T),.one (.sl AA A),.one (.sl AA B)] (.one (.sl AA C))):CF 226 [.agg (AK T1 A1),.agg (AK T2 A2),.one (.fn g)] (.AF [(true,(AK T C)),(false,[.int .i64 0])]):=by
 obtain⟨O,s⟩:∃z:List (el Bc),z=[(T,A),(T,B)]:=⟨_,rfl⟩
 have V:O.length=2:=by rw[s];rfl
 have M:O[0]? =some (T,A):=by rw[s];rfl
 have P:O[1]? =some (T,B):=by rw[s];rfl
 refine AJ Tryz.func226 fun E N=>?_
 conv=>cbv
 refine⟨[(T1,A1),(T2,A2)],fun _=>⟨rfl,by decide,rfl,⟨rfl,by first | exact t1 | exact t2 | exact t4 | simp[BV,Bm,cells],⟨rfl,by first | exact t1 | exact t2 | exact t4 | simp[BV,Bm,cells],trivial⟩⟩⟩,.inr ?_⟩;try conv=>cbv
 refine AB (r:= .AF [(false,[.sl Bc O]),(false,[.int .i64 0])]) N (Pn (ns:=[(u,x),(v,y)]) G (by intro n h;simp at h;rcases h with rfl | rfl;exact hu;exact Y) (by rw[I,J,F,H];rfl) (by intro n h;simp at h;rcases h with rfl | rfl;exact Z;exact hy) (by show 2<=1000000;decide) (by rw[s,W,Q,U];rfl)) ?_;try conv=>cbv
 refine AO ?_;conv=>cbv
 obtain⟨j,b⟩:=AP (l:=O) (i:=0) (by omega);refine⟨j,fun _=>⟨by omega,b⟩,?_⟩;try conv=>cbv
 obtain⟨m,c⟩:=AP (l:=O) (i:=0) (by omega);refine⟨m,fun _=>⟨by omega,c⟩,?_⟩;try conv=>cbv
 obtain⟨o,d⟩:=AP (l:=O) (i:=1) (by omega);refine⟨o,fun _=>⟨by omega,d⟩,?_⟩;try conv=>cbv
 have f:=Option.some.inj (b.symm.trans M);have t:=Option.some.inj (c.symm.trans M);have D:=Option.some.inj (d.symm.trans P);refine .inl ⟨[.one (.sl (.sl AA) j.1),.one (.sl AA m.2),.one (.sl AA o.2)],.one (.sl AA C),fun _=>t3,fun _=>HT N (by rw[f,t,D];exact X),?_⟩;try conv=>cbv
 refine g2 rfl ?_;exact AD ⟨⟨rfl,congrArg _ (by rw[f]),rfl,trivial⟩,t2,trivial⟩
end Go.Abs
namespace Go.Abs
open Go.RowKit
section
variable {TT:List (List Rat)->Prop} {R K S:Nat}
theorem Gam.Bf (G:Gam TT R K S) {u v:List (List Rat)} (hu:TT u) (d:TT v):TT (Go.Abs.Bf u v)/\Ba u (Go.Abs.Bf u v)/\Ba v (Go.Abs.Bf u v):=by
 have b:∀n∈[(u,(0:Re)),(v,0)],TT n.1:=by intro n c;simp at c;rcases c with rfl | rfl;exact hu;exact d
 have he:=Qw G b;exact⟨G.CD b,he (u,0) (by simp),he (v,0) (by simp)⟩
end
theorem G4 (T0:List LR):∃z:List LR,z=T0:=⟨_,rfl⟩
theorem C3 (T0:LR):∃z:LR,z=T0:=⟨_,rfl⟩
theorem bc {TT:List (List Rat)->Prop} {R K S:Nat} (G:Gam TT R K S) {T1 T2:List LR} {A1 A2:LR} {u v:List (List Rat)} {x y:Re} (hu:TT u) (j:TT v) (f:T1=tw u) (g:T2=tw v) (c:A1=em u x) (d:A2=em v y) (z:El u S x) (D:El v S y) {T:List LR} {C:LR} (t:T=tw (Bf u v)) (F:C=em (Bf u v) (x+y)):CF 113 [.agg (AK T1 A1),.agg (AK T2 A2)] (.AF [(true,(AK T C)),(false,[.int .i64 0])]):=by
 obtain⟨b,h,i⟩:=G.Bf hu j;have l:=G.CE hu b h z;have m:=G.CE j b i D;have hmul:=G.mul b;obtain⟨A,o⟩:=C3 (em (Bf u v) x);obtain⟨B,s⟩:=C3 (em (Bf u v) y);refine AJ Tryz.func113 fun E H=>?_
 conv=>cbv
 refine AB H (Qo G hu j f g c d z D t o s (KU (G.BE b) t o s l m (by omega) (by omega) F)) ?_;conv=>cbv
 exact AD ⟨t3,t2,trivial⟩
theorem bw {TT:List (List Rat)->Prop} {R K S:Nat} (G:Gam TT R K S) {T1 T2:List LR} {A1 A2:LR} {u v:List (List Rat)} {x y:Re} (hu:TT u) (j:TT v) (f:T1=tw u) (g:T2=tw v) (c:A1=em u x) (d:A2=em v y) (z:El u S x) (D:El v S y) {T:List LR} {C:LR} (t:T=tw (Bf u v)) (F:C=em (Bf u v) (x-y)):CF 196 [.agg (AK T1 A1),.agg (AK T2 A2)] (.AF [(true,(AK T C)),(false,[.int .i64 0])]):=by
 obtain⟨b,h,i⟩:=G.Bf hu j;have l:=G.CE hu b h z;have m:=G.CE j b i D;have hmul:=G.mul b;obtain⟨A,o⟩:=C3 (em (Bf u v) x);obtain⟨B,s⟩:=C3 (em (Bf u v) y);refine AJ Tryz.func196 fun E H=>?_
 conv=>cbv
 refine AB H (Qo G hu j f g c d z D t o s (Ng (G.BE b) t o s l m (by omega) (by omega) F)) ?_;conv=>cbv
 exact AD ⟨t3,t2,trivial⟩
theorem UK {TT:List (List Rat)->Prop} {R K S:Nat} (G:Gam TT R K S) {T1 T2:List LR} {A1 A2:LR} {u v:List (List Rat)} {x y:Re} (hu:TT u) (j:TT v) (f:T1=tw u) (g:T2=tw v) (c:A1=em u x) (d:A2=em v y) (z:El u S x) (D:El v S y) {T:List LR} {C:LR} (t:T=tw (Bf u v)) (F:C=em (Bf u v) (x*y)):CF 111 [.agg (AK T1 A1),.agg (AK T2 A2)] (.AF [(true,(AK T C)),(false,[.int .i64 0])]):=by
 obtain⟨b,h,i⟩:=G.Bf hu j;have l:=G.CE hu b h z;have m:=G.CE j b i D;have hmul:=G.mul b;obtain⟨A,o⟩:=C3 (em (Bf u v) x);obtain⟨B,s⟩:=C3 (em (Bf u v) y);refine AJ Tryz.func111 fun E H=>?_
 conv=>cbv
 refine AB H (Qo G hu j f g c d z D t o s (H3 (G.BE b) t o s l m (by omega) F)) ?_;conv=>cbv
 exact AD ⟨t3,t2,trivial⟩
theorem bm {TT:List (List Rat)->Prop} {R K S:Nat} (G:Gam TT R K S) {T1:List LR} {A1:LR} {u:List (List Rat)} {x:Re} (hu:TT u) (c:T1=tw u) (b:A1=em u x) (f:El u S x) {C:LR} (g:C=em u (-x)):CF 267 [.agg (AK T1 A1)] (.agg (AK T1 C)):=by
 have hmul:=G.mul hu;refine AJ Tryz.func267 fun E d=>?_
 conv=>cbv
 refine AB d (OE (G.BE hu) c b f) ?_;conv=>cbv
 refine AB d (UM (G.BE hu) c b f (by omega) g) ?_;conv=>cbv
 exact AD ⟨t3,trivial⟩
theorem bn {TT:List (List Rat)->Prop} {R K S:Nat} (G:Gam TT R K S) {T1:List LR} {A1:LR} {u:List (List Rat)} {x:Re} (hu:TT u) (d:T1=tw u) (b:A1=em u x) (g:El u S x) {c:Int} (hc:c=BT x):CF 90 [.agg (AK T1 A1)] (.one (.int .i64 c)):=by
 refine AJ Tryz.func90 fun E f=>?_
 conv=>cbv
 refine AB f (Lz (G.BE hu) d b g ((G.fit hu).mono (Nat.le_add_right _ _)).v0 (G.fit hu).vR hc) ?_;conv=>cbv
 exact AD ⟨t2,trivial⟩
theorem bu {TT:List (List Rat)->Prop} {R K S:Nat} (G:Gam TT R K S) {T1:List LR} {A1:LR} {u:List (List Rat)} {x:Re} (hu:TT u) (c:T1=tw u) (b:A1=em u x) (l:El u S x) (hw:TT (BK u x)) (i:0<=x) {T:List LR} {C:LR} (h:T=tw (BK u x)) (f:C=em (BK u x) (Re.sqrt x)) {s:Nat} (j:El (BK u x) s (Re.sqrt x)) (d:s<=60000000000000):CF 114 [.agg (AK T1 A1)] (.AF [(true,(AK T C)),(false,[.int .i64 0])]):=by
 refine AJ Tryz.func114 fun E g=>?_
 conv=>cbv
 refine AB g (Ph (G.BE hu) (G.BE hw) (G.ht hw) c b l ((G.fit hu).mono (Nat.le_add_right _ _)) i h f) ?_;conv=>cbv
 refine AO ?_;conv=>cbv
 refine AB g (OE (G.BE hw) h f j d) ?_;conv=>cbv
 exact AD ⟨t3,t2,trivial⟩
theorem bf {TT:List (List Rat)->Prop} {R K S:Nat} (G:Gam TT R K S) {T1 T2:List LR} {A1 A2:LR} {u v:List (List Rat)} {x y:Re} (hu:TT u) (o:TT v) (h:T1=tw u) (c:T2=tw v) (d:A1=em u x) (f:A2=em v y) (D:El u S x) (F:El v S y) {i:Re} (z:In v i) (l:y*i=1) (j:El v S i) (g:II v.length R S<=60000000000000) {T:List LR} {C:LR} (t:T=tw (Bf u v)) (s:C=em (Bf u v) (x*i)):CF 108 [.agg (AK T1 A1),.agg (AK T2 A2)] (.AF [(true,(AK T C)),(false,[.int .i64 0])]):=by
 refine AJ Tryz.func108 fun E m=>?_
 conv=>cbv
 obtain⟨H,b⟩:=C3 (em v i);refine AB m (NZ (G.BE o) c f F z l g b) ?_;conv=>cbv
 refine AO ?_;conv=>cbv
 refine AB m (UK G hu o h c d b D j t s) ?_;conv=>cbv
 exact AD ⟨t3,t2,trivial⟩
theorem Qu {u:List (List Rat)} {x y:Re} (b:In u x) (c:In u y):em u x=em u y↔x=y:=
 ⟨fun h=>by rw[<-EB b,<-EB c,ZW h],fun h=>by rw[h]⟩
theorem ny {u v:List (List Rat)} (h:u<:+v) (k:v<:+u):u=v:=h.eq_of_length_le k.length_le
theorem bg {TT:List (List Rat)->Prop} {R K S:Nat} (G:Gam TT R K S) {T1 T2:List LR} {A1 A2:LR} {u v:List (List Rat)} {x y:Re} (hu:TT u) (V:TT v) (H:T1=tw u) (I:T2=tw v) (D:A1=em u x) (F:A2=em v y) (Y:El u S x) (Z:El v S y) {c:Bool} (hc:c=true↔x=y):CF 117 [.agg (AK T1 A1),.agg (AK T2 A2)] (.one (.bool c)):=by
 obtain⟨P,a7,a8⟩:=G.Bf hu V;have J:=G.CE hu P a7 Y;have M:=G.CE V P a8 Z;have hmul:=G.mul P;obtain⟨A,Q⟩:=C3 (em (Bf u v) x);obtain⟨B,U⟩:=C3 (em (Bf u v) y);obtain⟨T,hT⟩:=G4 (tw (Bf u v));obtain⟨O,W⟩:∃z:List (el Bc),z=[(T,A),(T,B)]:=⟨_,rfl⟩
 have aa:O.length=2:=by rw[W];rfl
 have h0:O[0]? =some (T,A):=by rw[W];rfl
 have h1:O[1]? =some (T,B):=by rw[W];rfl
 refine AJ Tryz.func117 fun E N=>?_
 conv=>cbv
 obtain⟨a5,h⟩:=Er (v<:+u);refine AB N (MF (G.BE hu) (G.BE V) H I h) ?_;conv=>cbv
 cases a5 <;> conv=>cbv
 ·have a1:=fun q=>Bool.false_ne_true (h.2 q)
  refine⟨[(T1,A1),(T2,A2)],fun _=>⟨rfl,by decide,rfl,⟨rfl,by first | exact t1 | exact t2 | exact t4 | simp[BV,Bm,cells],⟨rfl,by first | exact t1 | exact t2 | exact t4 | simp[BV,Bm,cells],trivial⟩⟩⟩,.inr ?_⟩;try conv=>cbv
  refine AB (r:= .AF [(false,[.sl Bc O]),(false,[.int .i64 0])]) N (Pn (ns:=[(u,x),(v,y)]) G (by intro n o;simp at o;rcases o with rfl | rfl;exact hu;exact V) (by rw[H,I,D,F];rfl) (by intro n o;simp at o;rcases o with rfl | rfl;exact Y;exact Z) (by show 2<=1000000;decide) (by rw[W,hT,Q,U];rfl)) ?_;try conv=>cbv
  refine BG ?_;conv=>cbv
  obtain⟨s,b⟩:=AP (l:=O) (i:=0) (by omega);refine⟨s,fun _=>⟨by omega,b⟩,?_⟩;try conv=>cbv
  obtain⟨t,d⟩:=AP (l:=O) (i:=1) (by omega);refine⟨t,fun _=>⟨by omega,d⟩,?_⟩;try conv=>cbv
  have f:=Option.some.inj (b.symm.trans h0);have g:=Option.some.inj (d.symm.trans h1);have m:c=decide (s.2=t.2):=by rw[Bool.eq_iff_iff,decide_eq_true_eq,hc,f,g,Q,U];exact (Qu J.mem M.mem).symm
  refine AB (r:= .one (.bool c)) N (PQ (by rw[f];exact Q) (by rw[g];exact U) (J.CJ (by omega)) (M.CJ (by omega)) m) ?_;try conv=>cbv
  refine g2 rfl ?_;exact AD ⟨t2,trivial⟩
 have a1:=h.1 rfl;obtain⟨a6,j⟩:=Er (u<:+v);refine AB N (MF (G.BE V) (G.BE hu) I H j) ?_;conv=>cbv
 cases a6 <;> conv=>cbv
 ·have a2:=fun q=>Bool.false_ne_true (j.2 q)
  refine⟨[(T1,A1),(T2,A2)],fun _=>⟨rfl,by decide,rfl,⟨rfl,by first | exact t1 | exact t2 | exact t4 | simp[BV,Bm,cells],⟨rfl,by first | exact t1 | exact t2 | exact t4 | simp[BV,Bm,cells],trivial⟩⟩⟩,.inr ?_⟩;try conv=>cbv
  refine AB (r:= .AF [(false,[.sl Bc O]),(false,[.int .i64 0])]) N (Pn (ns:=[(u,x),(v,y)]) G (by intro n o;simp at o;rcases o with rfl | rfl;exact hu;exact V) (by rw[H,I,D,F];rfl) (by intro n o;simp at o;rcases o with rfl | rfl;exact Y;exact Z) (by show 2<=1000000;decide) (by rw[W,hT,Q,U];rfl)) ?_;try conv=>cbv
  refine BG ?_;conv=>cbv
  obtain⟨s,b⟩:=AP (l:=O) (i:=0) (by omega);refine⟨s,fun _=>⟨by omega,b⟩,?_⟩;try conv=>cbv
  obtain⟨t,d⟩:=AP (l:=O) (i:=1) (by omega);refine⟨t,fun _=>⟨by omega,d⟩,?_⟩;try conv=>cbv
  have f:=Option.some.inj (b.symm.trans h0);have g:=Option.some.inj (d.symm.trans h1);have m:c=decide (s.2=t.2):=by rw[Bool.eq_iff_iff,decide_eq_true_eq,hc,f,g,Q,U];exact (Qu J.mem M.mem).symm
  refine AB (r:= .one (.bool c)) N (PQ (by rw[f];exact Q) (by rw[g];exact U) (J.CJ (by omega)) (M.CJ (by omega)) m) ?_;try conv=>cbv
  refine g2 rfl ?_;exact AD ⟨t2,trivial⟩
 have a2:=j.1 rfl;have X:=ny a2 a1;have m:c=decide (A1=A2):=by rw[Bool.eq_iff_iff,decide_eq_true_eq,hc,D,F,<-X];exact (Qu Y.mem (X ▸ Z.mem)).symm
 refine AB N (PQ D F (Y.CJ (by omega)) (Z.CJ (by omega)) m) ?_;conv=>cbv
 exact AD ⟨t2,trivial⟩
theorem bj {q:Rat} {b1 b2:Bool} {l1 l2:List UInt32} {C:LR} (b:Bn q b1 l1 b2 l2) (f:CL q) (c:C=em [] (Re.ofRat q)):CF 116 [.agg (B5 b1 l1 b2 l2)] (.agg (AK [] C)):=by
 refine AJ Tryz.func116 fun E d=>?_
 conv=>cbv
 refine AB d (WJ b f) ?_;conv=>cbv
 refine⟨[((b1,l1),(b2,l2))],fun _=>⟨rfl,by decide,rfl,⟨rfl,by first | exact t1 | exact t2 | exact t4 | simp[BV,Bm,cells],trivial⟩⟩,.inr ?_⟩;try conv=>cbv
 exact AD ⟨⟨rfl,AU,congrArg _ (by rw[c,EJ,<-b.rp]),trivial⟩,trivial⟩
theorem bh {x:Int} {C:LR} (g: -9223372036854775808<=x/\x<9223372036854775808) (f:CL x) (d:C=em [] (Re.ofRat x)):CF 112 [.one (.int .i64 x)] (.agg (AK [] C)):=by
 refine AJ Tryz.func112 fun E c=>?_
 conv=>cbv
 obtain⟨j,l,h,i,b⟩:=CH (x:Rat);refine AB c (H4 g rfl b) ?_;conv=>cbv
 refine AB c (bj b f d) ?_;conv=>cbv
 exact AD ⟨t3,trivial⟩
end Go.Abs
namespace Go.Abs
open Go.RowKit
structure Ee (h R s:Nat):Prop where
 q:SS h R s<=60000000000000
 v:VV h R (s+GG h R)<=60000000000000
 qR:SS h R R<=60000000000000
 vR:VV h R R<=60000000000000
variable {A B:LR} {R':Nat} {T T2:List LR} {r:List Rat} {u:List (List Rat)} {v x:Re}
theorem Ee.v0 {h R s:Nat} (f:Ee h R s):VV h R s<=60000000000000:=Nat.le_trans (Ib h R (by omega)) f.v
theorem Ee.s {h R s:Nat} (f:Ee h R s):s<=60000000000000:=Nat.le_trans (US h R s) f.q
theorem Ee.mono {h R s t:Nat} (f:Ee h R s) (ht:t<=s):Ee h R t:=⟨Nat.le_trans (Nf h R ht) f.q,Nat.le_trans (Ib h R (by omega)) f.v,f.qR,f.vR⟩
theorem cg:∀(h R s:Nat),SS h R s<=SS (h+1) R s:=fun h R s=>Nat.le_trans (Nf h R (by unfold TQ;omega)) (UR h R s)
theorem cZ {i h:Nat} (b:i<=h) (R s:Nat):SS i R s<=SS h R s:=by
 induction b with
 | refl=>exact Nat.le_refl _
 | step _ c=>exact Nat.le_trans c (cg _ _ _)
theorem eE {R s:Nat} (h:At R u) (D:T=tw u) (F:A=em u x) (G:El u s x) (o:Ee u.length R s) {w:Re} (hw:In u w) (d:w*w=x) (H:Ie u x w) (i:0<=v) (j:v*v=x) (z:B=em u v):CF 343 [.one (.sl (.sl AA) T),.one (.sl AA A)] (.AF [(false,[.sl AA B]),(false,[.bool true])]):=by
 have l:=G.sqrt h hw d;refine AJ Tryz.func343 fun E m=>?_
 conv=>cbv
 obtain⟨J,b⟩:=xR (em u w);refine AB m (H D F b) ?_;conv=>cbv
 refine AO ?_;conv=>cbv
 obtain⟨I,g⟩:=xI (BT w);refine AB m (Hb h D b l o.v (Nat.le_trans (GY _ _ _) o.v) o.vR g) ?_;conv=>cbv
 intro y f;conv=>cbv
 refine .inr ?_;cases y <;> conv=>cbv
 ·have t:=BB f;exact AD ⟨⟨rfl,congrArg _ (by rw[z,b];congr 1;have:¬w<0:=(fun hc=>by have:=JV.2 hc;omega);exact Re.KO i (by grind) (j.trans d.symm)),trivial⟩,t2,trivial⟩
 have t:=BC f;obtain⟨M,c⟩:=xR (em u (-w));refine AB m (Ke h b l c) ?_;conv=>cbv
 exact AD ⟨⟨rfl,congrArg _ (by rw[z,c];congr 1;have:w<0:=JV.1 (by omega);exact Re.KO i (by grind) (by rw[j,<-d];grind)),trivial⟩,t2,trivial⟩
theorem eD {B:LR} {R s:Nat} (h:At R u) (d:T=tw u) (b:A=em u x) (i:El u s x) (g:Ee u.length R s) {l:LR} (f:Ic u x l):CF 343 [.one (.sl (.sl AA) T),.one (.sl AA A)] (.AF [(false,[.sl AA (([]:LR))]),(false,[.bool false])]):=by
 refine AJ Tryz.func343 fun E c=>?_
 conv=>cbv
 refine AB c (f d b) ?_;conv=>cbv
 refine BG ?_;conv=>cbv
 exact AD ⟨⟨rfl,AU,trivial⟩,t2,trivial⟩
theorem eF {R s:Nat} (h:At R u) (m:T=tw u) (j:A=em u x) (i:El u s x) (c:Ee u.length R s) (o:In u v) (f:0<=v) (b:v*v=x) (l:B=em u v):CF 343 [.one (.sl (.sl AA) T),.one (.sl AA A)] (.AF [(false,[.sl AA B]),(false,[.bool true])]):=by
 rcases Tg h i c.q c.vR with⟨w,hw,g,t⟩ |⟨d,_⟩
 ·exact eE h m j i c hw g t f b l
 exact absurd ⟨v,o,b⟩ d
theorem eC {R s:Nat} (h:At R u) (i:T=tw u) (g:A=em u x) (f:El u s x) (b:Ee u.length R s) (c:¬Sq u x):CF 343 [.one (.sl (.sl AA) T),.one (.sl AA A)] (.AF [(false,[.sl AA []]),(false,[.bool false])]):=by
 rcases Tg h f b.q b.vR with⟨w,hw,d,m⟩ |⟨_,l,j⟩
 ·exact absurd ⟨w,hw,d⟩ c
 exact eD (B:=[]) h i g f b j
theorem Uj {R:Nat} (h:At R u) (I:T=tw u) (hv:VV u.length R R<=60000000000000) (hq:SS u.length R R<=60000000000000):CF 131 [.one (.sl (.sl AA) T)] (.one (.bool true)):=by
 have al:T.length=u.length:=by rw[I,CB]
 have hR:=h.hR;refine AJ Tryz.func131 fun E Y=>?_
 conv=>cbv
 refine .inr ?_;obtain⟨J0,g⟩:=xJ fun vs bl k=>∃(i':Nat) (i:Int),vs=[.one (.sl (.sl AA) T),.one (.int .i64 i)]/\(AW i i'/\i'<=T.length)/\k=T.length-i'
 refine⟨[],[0,3],[],J0,⟨T.length-0,by rw[g];exact⟨0,0,rfl,⟨Bb 0,by omega⟩,rfl⟩⟩,?_⟩;intro vs bl aq hj;rw[g] at hj;obtain⟨i',i,rfl,⟨hi,an⟩,ao⟩:=hj;conv=>cbv
 have ei:=hi.eq;rintro n8 ⟨e8,f8⟩;conv=>cbv
 intro n9 h9;conv=>cbv
 cases n9 <;> conv=>cbv
 ·have k9:=BB h9;exact AD ⟨t2,trivial⟩
 have k9:=BC h9;refine .inr ?_;intro ar ah;conv=>cbv
 refine AI ?_;intro V ae;conv=>cbv
 intro a2 J;conv=>cbv
 obtain⟨aa,c⟩:=AP (l:=T) (i:=i') (by omega);refine⟨aa,fun _=>⟨by omega,by rw[show (i).toNat=i' by omega];exact c⟩,?_⟩;try conv=>cbv
 obtain⟨r,Q,P⟩:=KJ (u:=u) (i:=i') (by omega);have t:AZ (r::pre u i'):=Q ▸ (h.pre (i'+1)).red;have y:∀x,T[i']? =some x->x=em (pre u i') (AL (pre u i') r):=fun x hx=>by rw[<-I,hx] at P;exact (Option.some.inj P).trans (Eu t)
 have D:=y _ c;have s:El (pre u i') R (AL (pre u i') r):=El.DH (Q ▸ h.pre (i'+1));have j:a2=tw (pre u i'):=by rw[J,List.drop_zero,show V=i' by omega,I,Ix]
 have O:(pre u i').length<=u.length:=by rw[Jd (by omega)];omega
 have z:VV (pre u i').length R R<=60000000000000:=Nat.le_trans (L2 O R R) hv;have Z:SS (pre u i').length R R<=60000000000000:=Nat.le_trans (cZ O R R) hq;refine AB Y (Nj (h.pre i') j D s hR) ?_;conv=>cbv
 refine AO ?_;conv=>cbv
 intro au ai;conv=>cbv
 refine AI ?_;intro W af;conv=>cbv
 intro a5 M;conv=>cbv
 obtain⟨ab,d⟩:=AP (l:=T) (i:=i') (by omega);refine⟨ab,fun _=>⟨by omega,by rw[show (i).toNat=i' by omega];exact d⟩,?_⟩;try conv=>cbv
 have m:a5=tw (pre u i'):=by rw[M,List.drop_zero,show W=i' by omega,I,Ix]
 have F:=y _ d;obtain⟨aw,b⟩:=xI (BT (AL (pre u i') r));refine AB Y (Hb (h.pre i') m F s z hR z b) ?_;conv=>cbv
 intro a8 H;conv=>cbv
 refine g2 rfl ?_;cases a8 <;> conv=>cbv
 ·have U:=Me H;intro av aj;conv=>cbv
  refine AI ?_;intro X ag;conv=>cbv
  intro a6 N;conv=>cbv
  obtain⟨ad,f⟩:=AP (l:=T) (i:=i') (by omega);refine⟨ad,fun _=>⟨by omega,by rw[show (i).toNat=i' by omega];exact f⟩,?_⟩;try conv=>cbv
  have o:a6=tw (pre u i'):=by rw[N,List.drop_zero,show X=i' by omega,I,Ix]
  have G:=y _ f;obtain⟨l,hn⟩:=((Tg (h.pre i') s Z z).resolve_left (fun⟨w,hw,a1,_⟩=>t.2.2.2 ⟨w,hw,a1⟩)).2;refine AB Y (hn o G) ?_;conv=>cbv
  refine g2 rfl ?_;intro a7 ak;conv=>cbv
  refine AN ?_;refine⟨T.length-(i'+1),?_,?_⟩
  ·omega
  rw[g];exact⟨i'+1,a7,rfl,⟨⟨by omega⟩,by omega⟩,rfl⟩
 have U:=Mg H;exact absurd U (by rw[b,E8 t.2.2.1];omega)
theorem dA {R s:Nat} (h:At R u) (t:T=tw u) (m:A=em u x) (y:El u s x) (g:Ee u.length R s) (D:In u v) (i:0<=v) (d:v*v=x) (z:B=em u v):CF 294 [.one (.sl (.sl AA) T),.one (.sl AA A)] (.AF [(false,[.sl (.sl AA) T]),(false,[.sl AA B]),(false,[.int .i64 0])]):=by
 have j:0<=x:=by rw[<-d];exact Re.I3 v
 refine AJ Tryz.func294 fun E o=>?_
 conv=>cbv
 obtain⟨F,b⟩:=xI (BT x);refine AB o (Hb h t m y g.v0 g.s g.vR b) ?_;conv=>cbv
 intro l c;conv=>cbv
 cases l <;> conv=>cbv
 ·have f:=BB c;refine AB o (eF h t m y g D i d z) ?_;conv=>cbv
  exact AD ⟨t2,t2,t2,trivial⟩
 have f:=BC c;exact (JY b f j).elim
theorem dB {R s:Nat} (h:At R u) (G:T=tw u) (I:A=em u x) (Y:El u s x) (F:Ee u.length R s) (h8:u.length<8) (Q:0<=x) (P:¬Sq u x) (hr:r=co u x) (h':At R' (r::u)) (M:T2=tw (r::u)) (hB:B=em (r::u) (rt u r)):CF 294 [.one (.sl (.sl AA) T),.one (.sl AA A)] (.AF [(false,[.sl (.sl AA) T2]),(false,[.sl AA B]),(false,[.int .i64 0])]):=by
 have N:T.length=u.length:=by rw[G,CB]
 have a1:=h.ht;refine AJ Tryz.func294 fun E J=>?_
 conv=>cbv
 obtain⟨a6,f⟩:=xI (BT x);refine AB J (Hb h G I Y F.v0 F.s F.vR f) ?_;conv=>cbv
 intro U l;conv=>cbv
 cases U <;> conv=>cbv
 ·have z:=BB l;refine AB J (eC h G I Y F P) ?_;conv=>cbv
  rintro a2 ⟨Z,f24⟩;conv=>cbv
  intro V m;conv=>cbv
  cases V <;> conv=>cbv
  ·have D:=Fs m;refine⟨[],fun _=>⟨rfl,by decide,rfl,trivial⟩,.inl ?_⟩;try conv=>cbv
   refine .inl ⟨T,fun _=>⟨rfl,rfl,rfl,by show (0+T.length)*24<=140737488355328;(try simp only[List.length_take,List.length_drop]);omega⟩,?_⟩;intro (c:List (el (.sl AA))) W g;have d:c=([]:List (el (.sl AA)))++(T:List (el (.sl AA))):=g.1;have t:W=List.length (α:=(el (.sl AA))) c:=g.2;conv=>cbv
   refine⟨[A],fun _=>⟨rfl,by decide,rfl,⟨rfl,by first | exact t1 | exact t2 | exact t4 | simp[BV,Bm,cells],trivial⟩⟩,.inr ?_⟩;try conv=>cbv
   have O:c.length=T.length:=by rw[d];simp
   refine .inr ⟨[A],fun _=>⟨rfl,t,rfl,by show (c.length+1)*24<=140737488355328;(try simp only[List.length_take,List.length_drop]);omega⟩,?_⟩;intro (j:List (el (.sl AA))) X i;have o:j=(c:List (el (.sl AA)))++([A]:List (el (.sl AA))):=i.1;have y:X=List.length (α:=(el (.sl AA))) j:=i.2;conv=>cbv
   refine⟨fun _=>y,?_⟩;rintro a5 ⟨H,f35⟩;conv=>cbv
   have b:j=tw (r::u):=by rw[o,d,G,NU,I,em,hr];rfl
   refine AB J (dV h' b (AW.of (H.trans (congrArg _ N))) hB) ?_;conv=>cbv
   exact AD ⟨⟨rfl,congrArg _ (by rw[M,b]),trivial⟩,t2,t2,trivial⟩
  have D:=Ft m;exact absurd D (by omega)
 have z:=BC l;exact (JY f z Q).elim
theorem dW {R s:Nat} (h:At R u) (d:T=tw u) (i:A=em u x) (j:El u s x) (b:Ee u.length R s) (m:In u v) (f:0<=v) (g:v*v=x) (l:B=em u v):CF 222 [.one (.sl (.sl AA) T),.one (.sl AA A)] (.AF [(false,[.sl (.sl AA) T]),(false,[.sl AA B]),(false,[.int .i64 0])]):=by
 refine AJ Tryz.func222 fun E c=>?_
 conv=>cbv
 refine AB c (Uj h d b.vR b.qR) ?_;conv=>cbv
 refine AO ?_;conv=>cbv
 refine AB c (Nj h d i j b.s) ?_;conv=>cbv
 refine AO ?_;conv=>cbv
 refine AB c (dA h d i j b m f g l) ?_;conv=>cbv
 exact AD ⟨t2,t2,t2,trivial⟩
theorem dX {R s:Nat} (h:At R u) (d:T=tw u) (j:A=em u x) (l:El u s x) (b:Ee u.length R s) (m:u.length<8) (i:0<=x) (g:¬Sq u x) (t:r=co u x) (h':At R' (r::u)) (f:T2=tw (r::u)) (o:B=em (r::u) (rt u r)):CF 222 [.one (.sl (.sl AA) T),.one (.sl AA A)] (.AF [(false,[.sl (.sl AA) T2]),(false,[.sl AA B]),(false,[.int .i64 0])]):=by
 refine AJ Tryz.func222 fun E c=>?_
 conv=>cbv
 refine AB c (Uj h d b.vR b.qR) ?_;conv=>cbv
 refine AO ?_;conv=>cbv
 refine AB c (Nj h d j l b.s) ?_;conv=>cbv
 refine AO ?_;conv=>cbv
 refine AB c (dB h d j l b m i g t h' f o) ?_;conv=>cbv
 exact AD ⟨t2,t2,t2,trivial⟩
theorem UZ {R s:Nat} (h:At R u) (h':At R' (BK u v)) (l:(BK u v).length<=8) (g:T=tw u) (m:A=em u v) (j:El u s v) (o:Ee u.length R s) (f:0<=v) (b:T2=tw (BK u v)) (c:B=em (BK u v) (Re.sqrt v)):
  CF 222 [.one (.sl (.sl AA) T),.one (.sl AA A)] (.AF [(false,[.sl (.sl AA) T2]),(false,[.sl AA B]),(false,[.int .i64 0])]):=by
 by_cases d:Sq u v
 ·rw[D3 d] at b c;have i:T2=T:=b.trans g.symm;subst i;exact dW h g m j o ((Lf f).1 d) (Re.Jl v) (Re.HR f) c
 rw[Dc d] at h' l b c;rw[<-KM j.mem] at c;exact dX h g m j o (by rw[List.length_cons] at l;omega) f d rfl h' b c
end Go.Abs
