/- Part 23 of a proof. Conditions: each theorem's own. -/
import Derived.Test.YtmhbikooakmagaaGreatQk21
set_option linter.all false
set_option maxHeartbeats 8000000
set_option maxRecDepth 20000
open Go.Proofs
namespace Go.Abs
open Go.RowKit
def EO (w:List (List Rat)) (RL:List LR):List (List Rat)->Prop
 | []=>True
 | r::u=>EO w RL u/\∃wk,wk<:+w/\In wk (rt u r)/\RL[u.length]? =some (em wk (rt u r))
variable {A C:LR} {K R S a k mm n:Nat} {RL T:List LR} {TT:List (List Rat)->Prop} {p q x:Re} {r:List Rat} {u w:List (List Rat)}
theorem EO.mono {w':List (List Rat)} {X:List LR} (h:w<:+w'):∀{u:List (List Rat)},EO w RL u->EO w' (RL++X) u
 | [],_=>trivial
 | r::u,⟨c,f,d,h3,b⟩=>⟨c.mono h,f,d.trans h,h3,by rw[List.getElem?_append_left (Ew b)];exact b⟩
noncomputable def DU (t:List (List Rat)):List (List Rat)->List LR
 | []=>[]
 | r::u=>DU t u++[em (ext t (r::u)) (rt u r)]
theorem KE (t:List (List Rat)):∀u,(DU t u).length=u.length
 | []=>rfl
 | r::u=>by rw[DU,List.length_append,KE t u];rfl
theorem KF {t:List (List Rat)} (ht:AS t):∀{u:List (List Rat)},AS u->EO (ext t u) (DU t u) u
 | [],_=>trivial
 | r::u,hu=>by
  refine⟨(KF ht hu.1).mono (Kr _ _),ext t (r::u),List.suffix_refl _,(Hn ht hu).2.root,?_⟩;rw[DU,List.getElem?_append_right (by rw[KE];omega),KE,Nat.sub_self];rfl
theorem ext_eq {t:List (List Rat)} (ht:AS t):∀{u:List (List Rat)},AS u->BA u t->ext t u=t
 | [],_,_=>rfl
 | r::u,hu,h=>by
  rw[ext,ext_eq ht hu.1 h.tail];exact Ec ⟨rt u r,h.root,B4 hu⟩
def Ma (f:FuncId) (S:Nat) (w u:List (List Rat)):Prop:=∀{T RL:List LR} {A C:LR} {x:Re},T=tw w->EO w RL u->A=em u x->El u S x->C=em w x->
 CF f [.agg [.sl (.sl AA) T,.sl (.sl AA) RL],.one (.sl AA A)] (.one (.sl AA C))
def Mb (f:FuncId) (S:Nat) (w u:List (List Rat)):Prop:=∀{T RL:List LR} {A C:LR} {x:Re} {mm:Nat},T=tw w->EO w RL u->mm=RL.length->A=em u x->El u S x->C=em w x->
 Cy Tryz.prog f [.agg [.sl (.sl AA) T,.AN (.sl AA) 0 0 0 mm],.one (.sl AA A)] (.arr 0 (.sl AA) RL) (.one (.sl AA C))
theorem UJ {b:Nat}:2^a<2^b↔a<b:=Nat.pow_lt_pow_iff_right (by decide)
theorem IT (ha:a=2^n+2^n) (h:2^(k+1)<a):k<n:=by
 have b:a=2^(n+1):=by rw[ha,Nat.pow_succ];omega
 rw[b,UJ] at h;omega
theorem IS (ha:a=2^n+2^n) (h:¬2^(k+1)<a):n<=k:=by
 have b:a=2^(n+1):=by rw[ha,Nat.pow_succ];omega
 rw[b,UJ] at h;omega
theorem Z7 {u:List (List Rat)} {x:Re} (G:Gam TT R K S) (hw:TT w) (y:T=tw w) {q:Rat} (m:A=em [] (Re.ofRat q)) (z:BX q) (s:C=em w (Re.ofRat q)):CF 315 [.agg [.sl (.sl AA) T,.sl (.sl AA) RL],.one (.sl AA A)] (.one (.sl AA C)):=by
 have d:A=[rp q]:=m.trans (DD q);have o:A.length=1:=by rw[d];rfl
 refine AJ Tryz.func315 fun E t=>?_
 conv=>cbv
 rintro D ⟨j,f10⟩;conv=>cbv
 intro g c;conv=>cbv
 cases g <;> conv=>cbv
 ·have f:=Ac c;exact absurd f (by omega)
 have f:=Ae c;obtain⟨h,b⟩:=AL (l:=A) (i:=0) (by omega);refine⟨h,fun _=>⟨by omega,b⟩,?_⟩;try conv=>cbv
 refine AB t (HM (G.Af hw) y (Dw d b) z s) ?_;conv=>cbv
 refine g2 rfl ?_;exact AD ⟨t2,trivial⟩
theorem Z9 (G:Gam TT R K S) (hw:TT w) (hT:T=tw w) (hu:TT (r::u)) (M:BA (r::u) w) (ih:Ma 315 S w u) (hR:EO w RL (r::u)) (J:A=em (r::u) x) (hx:El (r::u) S x) (h:x=p+q*rt u r) (Q:El u S p) (U:El u S q) (h0:q=0) (hC:C=em w x):CF 315 [.agg [.sl (.sl AA) T,.sl (.sl AA) RL],.one (.sl AA A)] (.one (.sl AA C)):=by
 have g:=(G.Af hu).red;have l:A.length=2^u.length+2^u.length:=by rw[J,Aw hx.mem,BM]
 have ar:=Cu u.length;have an:(r::u).length<=8:=G.ht hu;have a7:(r::u).length=u.length+1:=rfl;have hmul:=G.mul hw;have W:El w K (rt u r):=by have:=G.BQ hu hw M (IG g);rwa [Nat.zero_add] at this
 obtain⟨wk,au,aa,O⟩:=hR.2;obtain⟨rk,V⟩:=xR (em wk (rt u r));rw[<-V] at O;refine AJ Tryz.func315 fun E hE=>?_
 conv=>cbv
 rintro ax ⟨ae,f10⟩;conv=>cbv
 intro a2 i;conv=>cbv
 cases a2 <;> conv=>cbv
 ·have z:=Ac i;rintro n19 ⟨af,f19⟩;conv=>cbv
  intro n20 aj;conv=>cbv
  refine g2 ⟨by omega,by omega,i64 (by omega)⟩ ?_;refine .inr ?_;obtain⟨J0,c⟩:=xJ fun vs bl k=>∃(k':Nat) (D Y:Int),vs=[.one (.sl AA A),.one (.Ak 2 0 0),.one (.int .i64 D),.one (.int .i64 Y)]/\bl=[.var 0 [.sl (.sl AA) T,.sl (.sl AA) RL]]/\(AQ D (A.length/2)/\AQ Y k'/\k'<=u.length)/\k=u.length-k'
  refine⟨[],[1,2,5,6],[2],J0,⟨u.length-0,by rw[c];exact⟨0,n20,0,rfl,rfl,⟨⟨by omega⟩,An 0,by omega⟩,rfl⟩⟩,?_⟩;intro vs bl av hj;rw[c] at hj;obtain⟨k',D,Y,rfl,rfl,⟨m,N,aq⟩,ao⟩:=hj;conv=>cbv
  have ah:=m.eq;have ai:=N.eq;intro n22 ak;conv=>cbv
  refine AH ?_;intro n23 I;conv=>cbv
  refine AG ?_;rintro n25 ⟨ag,f25⟩;conv=>cbv
  have ab:=(Dy (k:=k'+1) I (by omega)).eq;intro n26 j;conv=>cbv
  cases n26 <;> conv=>cbv
  ·have X:=AW j;have P:k'=u.length:=by have:=IS l (show ¬2^(k'+1)<A.length by omega);omega
   intro m32 a8;conv=>cbv
   refine AG ?_;intro H a6;conv=>cbv
   intro Z s;conv=>cbv
   have d:Z=em u p:=by rw[s,List.drop_zero,show H=A.length/2 by omega,J,Br g Q.mem U.mem h]
   obtain⟨ay,b⟩:=xR (em w (p));refine AB hE (ih hT hR.1 d Q b) ?_;conv=>cbv
   refine g2 rfl ?_;intro aw y;conv=>cbv
   refine AG ?_;rintro F ad ⟨a5,o⟩;conv=>cbv
   intro a1 t;conv=>cbv
   have f:a1=em u q:=by rw[t,show F=A.length/2 by omega,o,y,List.take_length,J,Bc g Q.mem U.mem h]
   refine AB hE (HT (G.Af (G.sub hu)).red U.mem f h0) ?_;conv=>cbv
   exact AD ⟨⟨rfl,congrArg _ (by rw[hC,b];congr 1;rw[h,h0];clear ih;grind),trivial⟩,trivial⟩
  have X:=AY j;refine .inr ?_;have P:k'<u.length:=IT l (show 2^(k'+1)<A.length by omega);intro n28 al;conv=>cbv
  refine AH ?_;refine⟨u.length-(k'+1),?_,?_⟩
  ·omega
  rw[c];exact⟨k'+1,D,n28,rfl,rfl,⟨m,⟨by omega⟩,by omega⟩,rfl⟩
 have z:=Ae i;exact absurd z (by omega)
theorem Z8 (G:Gam TT R K S) (hw:TT w) (J:T=tw w) (hu:TT (r::u)) (c:BA (r::u) w) (ih:Ma 315 S w u) (hR:EO w RL (r::u)) (hA:A=em (r::u) x) (hx:El (r::u) S x) (f:x=p+q*rt u r) (W:El u S p) (t:El u S q) (h0:q≠0) (hC:C=em w x):CF 315 [.agg [.sl (.sl AA) T,.sl (.sl AA) RL],.one (.sl AA A)] (.one (.sl AA C)):=by
 have d:=(G.Af hu).red;have F:A.length=2^u.length+2^u.length:=by rw[hA,Aw hx.mem,BM]
 have aE:=Cu u.length;have aB:(r::u).length<=8:=G.ht hu;have ak:(r::u).length=u.length+1:=rfl;have hmul:=G.mul hw;have b:El w K (rt u r):=by have:=G.BQ hu hw c (IG d);rwa [Nat.zero_add] at this
 obtain⟨wk,aa,X,I⟩:=hR.2;obtain⟨rk,Y⟩:=xR (em wk (rt u r));rw[<-Y] at I;refine AJ Tryz.func315 fun E y=>?_
 conv=>cbv
 rintro aI ⟨ar,f10⟩;conv=>cbv
 intro ag z;conv=>cbv
 cases ag <;> conv=>cbv
 ·have Z:=Ac z;rintro n19 ⟨au,f19⟩;conv=>cbv
  intro n20 ay;conv=>cbv
  refine g2 ⟨by omega,by omega,i64 (by omega)⟩ ?_;refine .inr ?_;obtain⟨J0,l⟩:=xJ fun vs bl k=>∃(k':Nat) (hv kk:Int),vs=[.one (.sl AA A),.one (.Ak 2 0 0),.one (.int .i64 hv),.one (.int .i64 kk)]/\bl=[.var 0 [.sl (.sl AA) T,.sl (.sl AA) RL]]/\(AQ hv (A.length/2)/\AQ kk k'/\k'<=u.length)/\k=u.length-k'
  refine⟨[],[1,2,5,6],[2],J0,⟨u.length-0,by rw[l];exact⟨0,n20,0,rfl,rfl,⟨⟨by omega⟩,An 0,by omega⟩,rfl⟩⟩,?_⟩;intro vs bl aF hj;rw[l] at hj;obtain⟨k',hv,kk,rfl,rfl,⟨H,a7,aD⟩,aC⟩:=hj;conv=>cbv
  have aw:=H.eq;have ax:=a7.eq;intro n22 az;conv=>cbv
  refine AH ?_;intro n23 a6;conv=>cbv
  refine AG ?_;rintro n25 ⟨av,f25⟩;conv=>cbv
  have an:=(Dy (k:=k'+1) a6 (by omega)).eq;intro n26 D;conv=>cbv
  cases n26 <;> conv=>cbv
  ·have ab:=AW D;have a8:k'=u.length:=by have:=IS F (show ¬2^(k'+1)<A.length by omega);omega
   intro m32 al;conv=>cbv
   refine AG ?_;intro a5 aj;conv=>cbv
   intro ad O;conv=>cbv
   have m:ad=em u p:=by rw[O,List.drop_zero,show a5=A.length/2 by omega,hA,Br d W.mem t.mem f]
   obtain⟨aJ,g⟩:=xR (em w (p));refine AB y (ih J hR.1 m W g) ?_;conv=>cbv
   refine g2 rfl ?_;intro aG U;conv=>cbv
   refine AG ?_;rintro a1 ao ⟨ah,M⟩;conv=>cbv
   intro ae P;conv=>cbv
   have o:ae=em u q:=by rw[P,show a1=A.length/2 by omega,M,U,List.take_length,hA,Bc d W.mem t.mem f]
   refine AB y (GM (G.Af (G.sub hu)).red t.mem o h0) ?_;conv=>cbv
   intro aH V;conv=>cbv
   refine AG ?_;rintro a2 aq ⟨ai,N⟩;conv=>cbv
   intro af Q;conv=>cbv
   have s:af=em u q:=by rw[Q,show a2=A.length/2 by omega,N,V,List.take_length,hA,Bc d W.mem t.mem f]
   obtain⟨aK,h⟩:=xR (em w (q));refine AB y (ih J hR.1 s t h) ?_;conv=>cbv
   refine⟨rk,fun _=>⟨by omega,by rw[show kk.toNat=u.length by omega];exact I⟩,?_⟩;try conv=>cbv
   obtain⟨aL,i⟩:=xR (em w (rt u r));refine AB y (Oc (G.Af hw) J Y X aa i) ?_;conv=>cbv
   obtain⟨aM,j⟩:=xR (em w (q*rt u r));refine AB y (Fp (G.Af hw) J h i (G.BQ (G.sub hu) hw c.tail t) b (by omega) j) ?_;conv=>cbv
   refine g2 rfl ?_;refine AB (r:= .one (.sl AA C)) y (Hu (G.Af hw) J g j (G.BQ (G.sub hu) hw c.tail W) ((G.BQ (G.sub hu) hw c.tail t).mul (G.Af hw) b) (by omega) (by omega) (by rw[hC,f])) ?_;conv=>cbv
   exact AD ⟨t2,trivial⟩
  have ab:=AY D;refine .inr ?_;have a8:k'<u.length:=IT F (show 2^(k'+1)<A.length by omega);intro n28 aA;conv=>cbv
  refine AH ?_;refine⟨u.length-(k'+1),?_,?_⟩
  ·omega
  rw[l];exact⟨k'+1,hv,n28,rfl,rfl,⟨H,⟨by omega⟩,by omega⟩,rfl⟩
 have Z:=Ae z;exact absurd Z (by omega)
theorem aA {u:List (List Rat)} {x:Re} (z:mm=RL.length) (G:Gam TT R K S) (hw:TT w) (y:T=tw w) {q:Rat} (m:A=em [] (Re.ofRat q)) (D:BX q) (s:C=em w (Re.ofRat q)):Cy Tryz.prog 315 [.agg [.sl (.sl AA) T,.AN (.sl AA) 0 0 0 mm],.one (.sl AA A)] (.arr 0 (.sl AA) RL) (.one (.sl AA C)):=by
 have d:A=[rp q]:=m.trans (DD q);have o:A.length=1:=by rw[d];rfl
 refine GR Tryz.func315 (by kernel_rfl) rfl fun E t=>?_
 conv=>cbv
 rintro F ⟨j,f10⟩;conv=>cbv
 intro g c;conv=>cbv
 cases g <;> conv=>cbv
 ·have f:=Ac c;exact absurd f (by omega)
 have f:=Ae c;obtain⟨h,b⟩:=AL (l:=A) (i:=0) (by omega);refine⟨h,fun _=>⟨by omega,b⟩,?_⟩;try conv=>cbv
 refine AB t (HM (G.Af hw) y (Dw d b) D s) ?_;conv=>cbv
 refine g2 rfl ?_;refine fun _=>⟨⟨⟨t2,trivial⟩,rfl,by simp⟩,rfl⟩
theorem aC (U:mm=RL.length) (G:Gam TT R K S) (hw:TT w) (hT:T=tw w) (hu:TT (r::u)) (N:BA (r::u) w) (ih:Mb 315 S w u) (hR:EO w RL (r::u)) (M:A=em (r::u) x) (hx:El (r::u) S x) (h:x=p+q*rt u r) (V:El u S p) (W:El u S q) (h0:q=0) (hC:C=em w x):Cy Tryz.prog 315 [.agg [.sl (.sl AA) T,.AN (.sl AA) 0 0 0 mm],.one (.sl AA A)] (.arr 0 (.sl AA) RL) (.one (.sl AA C)):=by
 have g:=(G.Af hu).red;have l:A.length=2^u.length+2^u.length:=by rw[M,Aw hx.mem,BM]
 have au:=Cu u.length;have ao:(r::u).length<=8:=G.ht hu;have a8:(r::u).length=u.length+1:=rfl;have hmul:=G.mul hw;have Y:El w K (rt u r):=by have:=G.BQ hu hw N (IG g);rwa [Nat.zero_add] at this
 obtain⟨wk,av,ab,P⟩:=hR.2;obtain⟨rk,X⟩:=xR (em wk (rt u r));rw[<-X] at P;refine GR Tryz.func315 (by kernel_rfl) rfl fun E hE=>?_
 conv=>cbv
 rintro ay ⟨af,f10⟩;conv=>cbv
 intro a2 i;conv=>cbv
 cases a2 <;> conv=>cbv
 ·have z:=Ac i;rintro n19 ⟨ag,f19⟩;conv=>cbv
  intro n20 ak;conv=>cbv
  refine g2 ⟨by omega,by omega,i64 (by omega)⟩ ?_;refine .inr ?_;obtain⟨J0,c⟩:=xJ fun vs bl k=>∃(k':Nat) (F kk:Int),vs=[.one (.sl AA A),.one (.Ak 2 0 0),.one (.int .i64 F),.one (.int .i64 kk)]/\bl=[.arr 0 (.sl AA) RL,.var 0 [.sl (.sl AA) T,.AN (.sl AA) 0 0 0 mm]]/\(AQ F (A.length/2)/\AQ kk k'/\k'<=u.length)/\k=u.length-k'
  refine⟨[],[1,2,5,6],[0,2],J0,⟨u.length-0,by rw[c];exact⟨0,n20,0,rfl,rfl,⟨⟨by omega⟩,An 0,by omega⟩,rfl⟩⟩,?_⟩;intro vs bl aw hj;rw[c] at hj;obtain⟨k',F,kk,rfl,rfl,⟨m,O,ar⟩,aq⟩:=hj;conv=>cbv
  have ai:=m.eq;have aj:=O.eq;intro n22 al;conv=>cbv
  refine AH ?_;intro n23 J;conv=>cbv
  refine AG ?_;rintro n25 ⟨ah,f25⟩;conv=>cbv
  have ad:=(Dy (k:=k'+1) J (by omega)).eq;intro n26 j;conv=>cbv
  cases n26 <;> conv=>cbv
  ·have Z:=AW j;have Q:k'=u.length:=by have:=IS l (show ¬2^(k'+1)<A.length by omega);omega
   intro m32 aa;conv=>cbv
   refine AG ?_;intro I a7;conv=>cbv
   intro D s;conv=>cbv
   have d:D=em u p:=by rw[s,List.drop_zero,show I=A.length/2 by omega,M,Br g V.mem W.mem h]
   obtain⟨a5,b⟩:=xR (em w (p));refine .inr (.inr (.inl ⟨0,.arr 0 (.sl AA) RL,[.agg [.sl (.sl AA) T,.AN (.sl AA) 0 0 0 mm],.one (.sl AA D)],.one (.sl AA a5),fun _=>⟨rfl,⟨⟨rfl,⟨⟨rfl,rfl⟩,rfl⟩,trivial⟩,rfl,trivial⟩⟩,fun _=>E2 hE (ih hT hR.1 U d V b),?_⟩));try conv=>cbv
   refine g2 rfl ?_;intro ax y;conv=>cbv
   refine AG ?_;rintro H ae ⟨a6,o⟩;conv=>cbv
   intro a1 t;conv=>cbv
   have f:a1=em u q:=by rw[t,show H=A.length/2 by omega,o,y,List.take_length,M,Bc g V.mem W.mem h]
   refine AB hE (HT (G.Af (G.sub hu)).red W.mem f h0) ?_;conv=>cbv
   refine fun _=>⟨⟨⟨⟨rfl,congrArg _ (by rw[hC,b];congr 1;rw[h,h0];clear ih;grind),trivial⟩,trivial⟩,rfl,by simp⟩,rfl⟩
  have Z:=AY j;refine .inr ?_;have Q:k'<u.length:=IT l (show 2^(k'+1)<A.length by omega);intro n28 an;conv=>cbv
  refine AH ?_;refine⟨u.length-(k'+1),?_,?_⟩
  ·omega
  rw[c];exact⟨k'+1,F,n28,rfl,rfl,⟨m,⟨by omega⟩,by omega⟩,rfl⟩
 have z:=Ae i;exact absurd z (by omega)
theorem aB (a5:mm=RL.length) (G:Gam TT R K S) (hw:TT w) (U:T=tw w) (hu:TT (r::u)) (c:BA (r::u) w) (ih:Mb 315 S w u) (hR:EO w RL (r::u)) (hA:A=em (r::u) x) (hx:El (r::u) S x) (h:x=p+q*rt u r) (hp:El u S p) (H:El u S q) (h0:q≠0) (hC:C=em w x):Cy Tryz.prog 315 [.agg [.sl (.sl AA) T,.AN (.sl AA) 0 0 0 mm],.one (.sl AA A)] (.arr 0 (.sl AA) RL) (.one (.sl AA C)):=by
 have g:=(G.Af hu).red;have P:A.length=2^u.length+2^u.length:=by rw[hA,Aw hx.mem,BM]
 have aO:=Cu u.length;have aL:(r::u).length<=8:=G.ht hu;have aw:(r::u).length=u.length+1:=rfl;have hmul:=G.mul hw;have b:El w K (rt u r):=by have:=G.BQ hu hw c (IG g);rwa [Nat.zero_add] at this
 obtain⟨wk,aj,a6,d⟩:=hR.2;obtain⟨rk,f⟩:=xR (em wk (rt u r));rw[<-f] at d;refine GR Tryz.func315 (by kernel_rfl) rfl fun E M=>?_
 conv=>cbv
 rintro aS ⟨aD,f10⟩;conv=>cbv
 intro an N;conv=>cbv
 cases an <;> conv=>cbv
 ·have a8:=Ac N;rintro n19 ⟨aE,f19⟩;conv=>cbv
  intro n20 aI;conv=>cbv
  refine g2 ⟨by omega,by omega,i64 (by omega)⟩ ?_;refine .inr ?_;obtain⟨J0,y⟩:=xJ fun vs bl k=>∃(k':Nat) (hv kk:Int),vs=[.one (.sl AA A),.one (.Ak 2 0 0),.one (.int .i64 hv),.one (.int .i64 kk)]/\bl=[.arr 0 (.sl AA) RL,.var 0 [.sl (.sl AA) T,.AN (.sl AA) 0 0 0 mm]]/\(AQ hv (A.length/2)/\AQ kk k'/\k'<=u.length)/\k=u.length-k'
  refine⟨[],[1,2,5,6],[0,2],J0,⟨u.length-0,by rw[y];exact⟨0,n20,0,rfl,rfl,⟨⟨by omega⟩,An 0,by omega⟩,rfl⟩⟩,?_⟩;intro vs bl aP hj;rw[y] at hj;obtain⟨k',hv,kk,rfl,rfl,⟨Q,ah,aN⟩,aM⟩:=hj;conv=>cbv
  have aG:=Q.eq;have aH:=ah.eq;intro n22 aJ;conv=>cbv
  refine AH ?_;intro n23 ag;conv=>cbv
  refine AG ?_;rintro n25 ⟨aF,f25⟩;conv=>cbv
  have az:=(Dy (k:=k'+1) ag (by omega)).eq;intro n26 O;conv=>cbv
  cases n26 <;> conv=>cbv
  ·have ak:=AW O;have ai:k'=u.length:=by have:=IS P (show ¬2^(k'+1)<A.length by omega);omega
   intro m32 ay;conv=>cbv
   refine AG ?_;intro af av;conv=>cbv
   intro aa X;conv=>cbv
   have z:aa=em u p:=by rw[X,List.drop_zero,show af=A.length/2 by omega,hA,Br g hp.mem H.mem h]
   obtain⟨ao,j⟩:=xR (em w (p));refine .inr (.inr (.inl ⟨0,.arr 0 (.sl AA) RL,[.agg [.sl (.sl AA) T,.AN (.sl AA) 0 0 0 mm],.one (.sl AA aa)],.one (.sl AA ao),fun _=>⟨rfl,⟨⟨rfl,⟨⟨rfl,rfl⟩,rfl⟩,trivial⟩,rfl,trivial⟩⟩,fun _=>E2 M (ih U hR.1 a5 z hp j),?_⟩));try conv=>cbv
   refine g2 rfl ?_;intro aQ a1;conv=>cbv
   refine AG ?_;rintro ad aA ⟨ar,V⟩;conv=>cbv
   intro al Y;conv=>cbv
   have D:al=em u q:=by rw[Y,show ad=A.length/2 by omega,V,a1,List.take_length,hA,Bc g hp.mem H.mem h]
   refine AB M (GM (G.Af (G.sub hu)).red H.mem D h0) ?_;conv=>cbv
   intro aR a2;conv=>cbv
   refine AG ?_;rintro ae aC ⟨au,W⟩;conv=>cbv
   intro ab Z;conv=>cbv
   have F:ab=em u q:=by rw[Z,show ae=A.length/2 by omega,W,a2,List.take_length,hA,Bc g hp.mem H.mem h]
   obtain⟨aq,m⟩:=xR (em w (q));refine .inr (.inr (.inl ⟨0,.arr 0 (.sl AA) RL,[.agg [.sl (.sl AA) T,.AN (.sl AA) 0 0 0 mm],.one (.sl AA ab)],.one (.sl AA aq),fun _=>⟨rfl,⟨⟨rfl,⟨⟨rfl,rfl⟩,rfl⟩,trivial⟩,rfl,trivial⟩⟩,fun _=>E2 M (ih U hR.1 a5 F H m),?_⟩));try conv=>cbv
   refine⟨fun _=>⟨by omega,by have:=Ew d;omega⟩,?_⟩;intro a7 ax;conv=>cbv
   obtain⟨J,t⟩:=AL (l:=RL) (i:=a7) (by have:=Ew d;omega);refine⟨J,fun _=>t,?_⟩;try conv=>cbv
   have I:J=rk:=by have:=t;rw[show a7=u.length by omega,d] at this;exact (Option.some.inj this).symm
   have f:J=em wk (rt u r):=I.trans f;obtain⟨aT,o⟩:=xR (em w (rt u r));refine AB M (Oc (G.Af hw) U f a6 aj o) ?_;conv=>cbv
   obtain⟨aU,s⟩:=xR (em w (q*rt u r));refine AB M (Fp (G.Af hw) U m o (G.BQ (G.sub hu) hw c.tail H) b (by omega) s) ?_;conv=>cbv
   refine g2 rfl ?_;refine AB (r:= .one (.sl AA C)) M (Hu (G.Af hw) U j s (G.BQ (G.sub hu) hw c.tail hp) ((G.BQ (G.sub hu) hw c.tail H).mul (G.Af hw) b) (by omega) (by omega) (by rw[hC,h])) ?_;conv=>cbv
   refine fun _=>⟨⟨⟨t2,trivial⟩,rfl,by simp⟩,rfl⟩
  have ak:=AY O;refine .inr ?_;have ai:k'<u.length:=IT P (show 2^(k'+1)<A.length by omega);intro n28 aK;conv=>cbv
  refine AH ?_;refine⟨u.length-(k'+1),?_,?_⟩
  ·omega
  rw[y];exact⟨k'+1,hv,n28,rfl,rfl,⟨Q,⟨by omega⟩,by omega⟩,rfl⟩
 have a8:=Ae N;exact absurd a8 (by omega)
theorem Sd (G:Gam TT R K S) (hw:TT w):∀{u:List (List Rat)},TT u->BA u w->Ma 315 S w u:=by
 intro u
 induction u with
 | nil=>
  intro hu c T RL A C x i hR g b h;obtain⟨q,rfl⟩:=Bv.1 b.mem;have d:=b.BT (by have:=G.mul hw;omega);rw[Cp] at d;exact Z7 (u:=[]) (x:=0) G hw i g (d q List.mem_cons_self) h
 | cons r u m=>
  intro hu c T RL A C x i hR g b h;obtain⟨p,q,f,l,d⟩:=El.parts (G.Af hu).red b
  by_cases j:q=0
  ·exact Z9 G hw i hu c (m (G.sub hu) c.tail) hR g b f l d j h
  exact Z8 G hw i hu c (m (G.sub hu) c.tail) hR g b f l d j h
theorem imD (G:Gam TT R K S) (hw:TT w):∀{u:List (List Rat)},TT u->BA u w->Mb 315 S w u:=by
 intro u
 induction u with
 | nil=>
  intro hu d T RL A C x mm j hR b h c i;obtain⟨q,rfl⟩:=Bv.1 c.mem;have f:=c.BT (by have:=G.mul hw;omega);rw[Cp] at f;exact aA (u:=[]) (x:=0) b G hw j h (f q List.mem_cons_self) i
 | cons r u o=>
  intro hu d T RL A C x mm j hR b h c i;obtain⟨p,q,g,m,f⟩:=El.parts (G.Af hu).red c
  by_cases l:q=0
  ·exact aC b G hw j hu d (o (G.sub hu) d.tail) hR h c g m f l i
  exact aB b G hw j hu d (o (G.sub hu) d.tail) hR h c g m f l i
end Go.Abs
namespace Go.Abs
open Go.RowKit
variable {K R S:Nat} {T T2:List LR} {TT:List (List Rat)->Prop}
theorem PY {A B:LR} {R' s:Nat} {u:List (List Rat)} {v:Re} (h:Aa R u) (h':Aa R' (Ax u v)) (l:(Ax u v).length<=8) (g:T=tw u) (m:A=em u v) (j:El u s v) (o:Fit u.length R s) (f:0<=v) (b:T2=tw (Ax u v)) (c:B=em (Ax u v) (Re.sqrt v)):
  CF 230 [.one (.sl (.sl AA) T),.one (.sl AA A)] (.AI [(false,[.sl (.sl AA) T2]),(false,[.sl AA B]),(false,[.int .i64 0])]):=by
 by_cases d:Sq u v
 ·rw[Ec d] at b c;have i:T2=T:=b.trans g.symm;subst i;exact YI h g m j o ((KK f).1 d) (Re.Iw v) (Re.HI f) c
 rw[Ed d] at h' l b c;rw[<-ME j.mem] at c;exact YJ h g m j o (by rw[List.length_cons] at l;omega) f d rfl h' b c
theorem Io (u:List (List Rat)) (i:Nat):pre u i<:+u:=List.drop_suffix _ _
theorem J5 (u:List (List Rat)):pre u 0=[]:=by rw[pre,Nat.sub_zero,List.drop_length]
theorem D4 (p:Prop):∃b:Bool,(b=true↔p):=by
 by_cases h:p
 ·exact⟨true,by simp[h]⟩
 exact⟨false,by simp[h]⟩
theorem JS {X Y:List LR} {u w:List (List Rat)} {c:Bool} (hu:Aa R u) (hw:Aa R w) (b:X=tw u) (d:Y=tw w) (h:c=true↔w<:+u):CF 231 [.one (.sl (.sl AA) X),.one (.sl (.sl AA) Y)] (.one (.bool c)):=by
 cases c with
 | true=>exact Yp hu hw b d (h.1 rfl)
 | false=>exact Yo hu hw b d (fun k=>by have:=h.2 k;cases this)
noncomputable def nm (n:List (List Rat)×Re):el Ap:=(tw n.1,em n.1 n.2)
noncomputable def BO (ns:List (List (List Rat)×Re)):List (List Rat):=ns.foldl (fun t n=>DS t n.1) []
theorem aP (ns:List (List (List Rat)×Re)) (n:List (List Rat)×Re):BO (ns++[n])=DS (BO ns) n.1:=by
 rw[BO,List.foldl_append];rfl
theorem Sw {ns:List (List (List Rat)×Re)} {i:Nat} {n:List (List Rat)×Re} (h:ns[i]? =some n):BO (ns.take (i+1))=DS (BO (ns.take i)) n.1:=by
 rw[CE h,aP]
theorem GU {X:List (el Ap)} {ns:List (List (List Rat)×Re)} {i:Nat} {x:el Ap} (c:X=ns.map nm) (b:X[i]? =some x):∃u y,x.1=tw u/\x.2=em u y/\ns[i]? =some (u,y):=by
 rw[c,List.getElem?_map] at b;cases h:ns[i]? with
 | none=>rw[h] at b;simp at b
 | some n=>
  rw[h] at b;have e:nm n=x:=Option.some.inj b;exact⟨n.1,n.2,by rw[<-e];rfl,by rw[<-e];rfl,rfl⟩
theorem Gam.BO (G:Gam TT R K S):∀{ns:List (List (List Rat)×Re)},(∀n∈ns,TT n.1)->TT (BO ns):=by
 have key:∀(ns:List (List (List Rat)×Re)) (t:List (List Rat)),TT t->(∀n∈ns,TT n.1)->TT (ns.foldl (fun t n=>DS t n.1) t):=by
  intro ns
  induction ns with
  | nil=>intro t ht _;exact ht
  | cons n ns b=>intro t ht h;exact b _ (G.join ht (h n List.mem_cons_self)) (fun m hm=>h m (List.mem_cons_of_mem _ hm))
 intro ns h;exact key ns [] G.nil h
theorem NW (G:Gam TT R K S) {ns:List (List (List Rat)×Re)} (h:∀n∈ns,TT n.1):∀n∈ns,BA n.1 (Go.Abs.BO ns):=by
 have key:∀(ns:List (List (List Rat)×Re)) (t:List (List Rat)),TT t->(∀n∈ns,TT n.1)->BA t (ns.foldl (fun t n=>DS t n.1) t)/\∀n∈ns,BA n.1 (ns.foldl (fun t n=>DS t n.1) t):=by
  intro ns
  induction ns with
  | nil=>intro t ht _;exact⟨BA.refl t,fun n b=>by simp at b⟩
  | cons n ns g=>
   intro t ht h;have b:=h n List.mem_cons_self;have d:=ca (G.Af ht).red (G.Af b).red;obtain⟨c,f⟩:=g _ (G.join ht b) (fun m hm=>h m (List.mem_cons_of_mem _ hm));refine⟨d.2.1.trans c,fun m hm=>?_⟩;rcases List.mem_cons.1 hm with rfl | hm
   ·exact d.2.2.trans c
   exact f m hm
 exact (key ns [] G.nil h).2
theorem SE {U RL:List LR} {t u:List (List Rat)} (G:Gam TT R K S) (ht:TT t) (hu:TT u) (hT:T=tw t) (hU:U=tw u) (ab:T2=tw (ext t u)) (a8:RL=DU t u):CF 314 [.one (.sl (.sl AA) T),.one (.sl (.sl AA) U)] (.AI [(true,[.sl (.sl AA) T2,.sl (.sl AA) RL]),(false,[.int .i64 0])]):=by
 have al:U.length=u.length:=by rw[hU,BN]
 have aq:=G.ht hu;have aa:=G.RS;refine AJ Tryz.func314 fun E hE=>?_
 conv=>cbv
 intro n15 V;have ak:=V.eq;have f15:=V.le;conv=>cbv
 refine .inr ?_
 obtain⟨J0,P⟩:∃J:List AV->List AK->Nat->Prop,J=fun vs bl k=>(∃(L i:Int),vs=[.one (.Ak 4 0 0),.one (.Ak 6 0 0),.one (.sl (.sl AA) U),.one (.int .i64 L),.one (.int .i64 i)]/\bl=[.var 0 [.nil,.nil],.var 0 [.sl (.sl AA) T,.nil],.dead 0]/\(CM L U.length/\AQ i 0)/\k=U.length)\/
  (∃(Ti o:List LR) (mm i':Nat) (L i:Int),vs=[.one (.Ak 4 0 0),.one (.Ak 6 0 0),.one (.sl (.sl AA) U),.one (.int .i64 L),.one (.int .i64 i)]/\bl=[.var 0 [.nil,.nil],.var 0 [.sl (.sl AA) Ti,.AN (.sl AA) 39 0 0 mm],.arr 0 (.sl AA) o]/\(CM L U.length/\AQ i i'/\i'<=U.length/\mm=o.length)/\Ti=tw (ext t (pre u i'))/\o=DU t (pre u i')/\k=U.length-i'):=⟨_,rfl⟩
 refine⟨[],[4,6,14,15,16],[4,6,39],J0,⟨U.length,by rw[P];exact .inl ⟨n15,0,rfl,rfl,⟨V,An 0⟩,rfl⟩⟩,?_⟩;intro vs bl ar hj;rw[P] at hj;rcases hj with⟨L,i,rfl,rfl,⟨hL,hi⟩,aj⟩ |⟨Ti,o,mm,i',L,i,rfl,rfl,⟨hL,hi,an,Y⟩,z,hinv,aj⟩
 ·conv=>cbv
  have eL:=hL.eq;have ei:=hi.eq;obtain⟨i',X⟩:=xN 0;have z:T=tw (ext t (pre u i')):=by rw[X,J5];exact hT
  intro n17 F;conv=>cbv
  cases n17 <;> conv=>cbv
  ·have a2:=AW F;have ag:u=[]:=List.eq_nil_of_length_eq_zero (by omega);exact AD ⟨⟨rfl,congrArg _ (by rw[ab,hT,ag];rfl),.inr (.inl ⟨_,congrArg _ (by rw[a8,ag];rfl)⟩),trivial⟩,t2,trivial⟩
  have a2:=AY F;refine .inr ?_;obtain⟨D,m⟩:=AL (l:=U) (i:=i') (by omega);refine⟨D,fun _=>⟨by omega,by rw[show (i).toNat=i' by omega];exact m⟩,?_⟩;try conv=>cbv
  obtain⟨r,y,M⟩:=Hk (u:=u) (i:=i') (by omega);have d:TT (pre u i'):=G.Ix (Io u i') hu;have b:TT (r::pre u i'):=y ▸ G.Ix (Io u (i'+1)) hu;have I:=(G.Af b).red;have a1:D=em (pre u i') (AM (pre u i') r):=by rw[<-hU,m] at M;exact (Option.some.inj M).trans (DR I)
  have c:TT (ext t (pre u i')):=G.ext ht d;have s:=(Hn (G.Af ht).red (G.Af d).red).2;have H:El (pre u i') S (AM (pre u i') r):=(El.CK (G.Af b)).mono aa;have N:TT (Ax (ext t (pre u i')) (AM (pre u i') r)):=G.Ax c b s;have W:ext t (pre u (i'+1))=Ax (ext t (pre u i')) (AM (pre u i') r):=by rw[y];rfl
  have Z:DU t (pre u (i'+1))=DU t (pre u i')++[em (Ax (ext t (pre u i')) (AM (pre u i') r)) (Re.sqrt (AM (pre u i') r))]:=by rw[y];rfl
  obtain⟨a7,g⟩:=xR (em (ext t (pre u i')) (AM (pre u i') r));refine cL (r:= .one (.sl AA a7)) hE (Sd G c d s z (by rw[X,J5];trivial) a1 H g) ⟨⟨rfl,.inr ⟨_,rfl⟩,trivial⟩,rfl,trivial⟩ ?_;try conv=>cbv
  obtain⟨O,h⟩:=xV (tw (Ax (ext t (pre u i')) (AM (pre u i') r)));obtain⟨f,j⟩:=xR (em (Ax (ext t (pre u i')) (AM (pre u i') r)) (Re.sqrt (AM (pre u i') r)));refine AB (r:= .AI [(false,[.sl (.sl AA) O]),(false,[.sl AA f]),(false,[.int .i64 0])]) hE (PY (G.Af c) (G.Af N) (G.ht N) z g (G.BQ d c s H) (G.fit c) (by have:=I.2.2.1;grind) h j) ?_;try conv=>cbv
  refine g2 rfl ?_;refine Ai ?_;conv=>cbv
  refine⟨[f],fun _=>⟨rfl,by decide,rfl,⟨rfl,by first | exact t1 | exact t2 | exact t4 | simp[Aj,Ar,cells],trivial⟩⟩,.inr ?_⟩;try conv=>cbv
  refine .inl ⟨[f],fun _=>⟨rfl,by show (1)*24<=140737488355328;(try simp only[List.length_take,List.length_drop]);omega⟩,?_⟩;intro n39 ah;conv=>cbv
  intro a6 ai;conv=>cbv
  refine AH ?_;refine⟨U.length-(i'+1),?_,?_⟩
  ·omega
  rw[P];exact .inr ⟨O,[f],n39,i'+1,L,a6,rfl,rfl,⟨hL,⟨by omega⟩,by omega,ah⟩,by rw[h,W],by rw[Z,j,X,J5];rfl,rfl⟩
 conv=>cbv
 have eL:=hL.eq;have ei:=hi.eq;have ao:o.length<=U.length:=by rw[hinv,KE,HA (by omega)];omega
 intro n17 F;conv=>cbv
 cases n17 <;> conv=>cbv
 ·have a2:=AW F;have af:pre u i'=u:=by rw[show i'=u.length by omega];exact UK u
  exact AD ⟨⟨rfl,congrArg _ (by rw[ab,z,af]),.inl ⟨_,rfl,by omega,congrArg _ (by rw[a8,Y,List.drop_zero,List.take_length,hinv,af])⟩,trivial⟩,t2,trivial⟩
 have a2:=AY F;refine .inr ?_;obtain⟨D,m⟩:=AL (l:=U) (i:=i') (by omega);refine⟨D,fun _=>⟨by omega,by rw[show (i).toNat=i' by omega];exact m⟩,?_⟩;try conv=>cbv
 obtain⟨r,y,M⟩:=Hk (u:=u) (i:=i') (by omega);have d:TT (pre u i'):=G.Ix (Io u i') hu;have b:TT (r::pre u i'):=y ▸ G.Ix (Io u (i'+1)) hu;have I:=(G.Af b).red;have a1:D=em (pre u i') (AM (pre u i') r):=by rw[<-hU,m] at M;exact (Option.some.inj M).trans (DR I)
 have c:TT (ext t (pre u i')):=G.ext ht d;have s:=(Hn (G.Af ht).red (G.Af d).red).2;have H:El (pre u i') S (AM (pre u i') r):=(El.CK (G.Af b)).mono aa;have N:TT (Ax (ext t (pre u i')) (AM (pre u i') r)):=G.Ax c b s;have W:ext t (pre u (i'+1))=Ax (ext t (pre u i')) (AM (pre u i') r):=by rw[y];rfl
 have Z:DU t (pre u (i'+1))=DU t (pre u i')++[em (Ax (ext t (pre u i')) (AM (pre u i') r)) (Re.sqrt (AM (pre u i') r))]:=by rw[y];rfl
 obtain⟨a7,g⟩:=xR (em (ext t (pre u i')) (AM (pre u i') r));refine .inr (.inr (.inl ⟨39,.arr 0 (.sl AA) o,[.agg [.sl (.sl AA) Ti,.AN (.sl AA) 0 0 0 mm],.one (.sl AA D)],.one (.sl AA a7),fun _=>⟨rfl,⟨⟨rfl,⟨⟨rfl,rfl⟩,rfl⟩,trivial⟩,rfl,trivial⟩⟩,fun _=>E2 hE (imD G c d s z (by rw[hinv];exact KF (G.Af ht).red (G.Af d).red) Y a1 H g),?_⟩));try conv=>cbv
 obtain⟨O,h⟩:=xV (tw (Ax (ext t (pre u i')) (AM (pre u i') r)));obtain⟨f,j⟩:=xR (em (Ax (ext t (pre u i')) (AM (pre u i') r)) (Re.sqrt (AM (pre u i') r)));refine AB (r:= .AI [(false,[.sl (.sl AA) O]),(false,[.sl AA f]),(false,[.int .i64 0])]) hE (PY (G.Af c) (G.Af N) (G.ht N) z g (G.BQ d c s H) (G.fit c) (by have:=I.2.2.1;grind) h j) ?_;try conv=>cbv
 refine g2 rfl ?_;refine Ai ?_;conv=>cbv
 refine⟨[f],fun _=>⟨rfl,by decide,rfl,⟨rfl,by first | exact t1 | exact t2 | exact t4 | simp[Aj,Ar,cells],trivial⟩⟩,.inr ?_⟩;try conv=>cbv
 refine .inl ⟨[f],fun _=>⟨rfl,Y,rfl,by show (o.length+1)*24<=140737488355328;(try simp only[List.length_take,List.length_drop]);omega⟩,?_⟩;intro (a5:List (el (.sl AA))) n39 Q;have ad:a5=(o:List (el (.sl AA)))++([f]:List (el (.sl AA))):=Q.1;have ae:n39=List.length (α:=(el (.sl AA))) a5:=Q.2;conv=>cbv
 intro a6 ai;conv=>cbv
 refine AH ?_;refine⟨U.length-(i'+1),?_,?_⟩
 ·omega
 rw[P];exact .inr ⟨O,a5,n39,i'+1,L,a6,rfl,rfl,⟨hL,⟨by omega⟩,by omega,ae⟩,by rw[h,W],by rw[ad,hinv,Z,j],rfl⟩
end Go.Abs
namespace Go.Abs
open Go.RowKit
variable {K R S:Nat} {L:List (el Ap)} {T:List LR} {TT:List (List Rat)->Prop}
theorem ZQ (G:Gam TT R K S) {ns:List (List (List Rat)×Re)} (I:∀n∈ns,TT n.1) (Z:L=ns.map nm) (hT:T=tw (BO ns)):CF 313 [.one (.sl Ap L)] (.AI [(false,[.sl (.sl AA) T]),(false,[.int .i64 0])]):=by
 have a2:L.length=ns.length:=by rw[Z,List.length_map]
 refine AJ Tryz.func313 fun E Q=>?_
 conv=>cbv
 intro V s;have a1:=s.eq;have f10:=s.le;conv=>cbv
 refine .inr ?_;obtain⟨J0,b⟩:=xJ fun vs Y k=>∃(N:List LR) (i':Nat) (n i:Int),vs=[.one (.sl (.sl AA) N),.one (.sl Ap L),.one (.int .i64 n),.one (.int .i64 i)]/\Y=[]/\(CM n L.length/\AQ i i'/\i'<=L.length)/\N=tw (BO (ns.take i'))/\k=L.length-i'
 refine⟨[(4,.sl AA,false)],[4,9,10,11],[],J0,⟨L.length,by rw[b];exact⟨[],0,V,0,rfl,rfl,⟨s,An 0,by omega⟩,rfl,rfl⟩⟩,?_⟩;intro vs Y a8 hj;rw[b] at hj;obtain⟨N,i',n,i,rfl,rfl,⟨D,hi,a5⟩,c,a6⟩:=hj;conv=>cbv
 have en:=D.eq;have ei:=hi.eq;intro W F;conv=>cbv
 cases W <;> conv=>cbv
 ·have U:=AW F;exact AD ⟨⟨rfl,congrArg _ (by rw[hT,c,List.take_of_length_le (show ns.length<=i' by omega)]),trivial⟩,t2,trivial⟩
 have U:=AY F;refine .inr ?_;obtain⟨X,o⟩:=AL (l:=L) (i:=i') (by omega);refine⟨X,fun _=>⟨by omega,by rw[show (i).toNat=i' by omega];exact o⟩,?_⟩;try conv=>cbv
 obtain⟨u,y,h,a7,J⟩:=GU Z o;have hu:TT u:=I _ (List.mem_of_getElem? J);have g:=Sw J;unfold DS at g;have t:TT (BO (ns.take i')):=G.BO (fun n D=>I n (List.mem_of_mem_take D));refine .inr ?_;obtain⟨O,d⟩:=D4 (u<:+(BO (ns.take i')));refine AB Q (JS (G.Af t) (G.Af hu) c h d) ?_;conv=>cbv
 refine .inr ?_;cases O <;> conv=>cbv
 ·have j:=fun q=>Bool.false_ne_true (d.2 q)
  obtain⟨P,f⟩:=D4 ((BO (ns.take i'))<:+u);refine AB Q (JS (G.Af hu) (G.Af t) h c f) ?_;conv=>cbv
  refine .inr ?_;cases P <;> conv=>cbv
  ·have z:=fun q=>Bool.false_ne_true (f.2 q)
   obtain⟨aa,m⟩:=xV (tw (ext (BO (ns.take i')) u));obtain⟨ab,M⟩:=xV (DU (BO (ns.take i')) u);refine AB Q (SE G t hu c h m M) ?_;conv=>cbv
   refine Ai ?_;conv=>cbv
   intro n39 H;conv=>cbv
   refine AH ?_;refine⟨L.length-(i'+1),?_,?_⟩
   ·omega
   rw[b];exact⟨_,i'+1,n,n39,rfl,rfl,⟨D,⟨by omega⟩,by omega⟩,by rw[g,if_neg j,if_neg z,m],rfl⟩
  have z:=f.1 rfl;intro n39 H;conv=>cbv
  refine AH ?_;refine⟨L.length-(i'+1),?_,?_⟩
  ·omega
  rw[b];exact⟨_,i'+1,n,n39,rfl,rfl,⟨D,⟨by omega⟩,by omega⟩,by rw[g,if_neg j,if_pos z];exact h,rfl⟩
 have j:=d.1 rfl;intro n39 H;conv=>cbv
 refine AH ?_;refine⟨L.length-(i'+1),?_,?_⟩
 ·omega
 rw[b];exact⟨_,i'+1,n,n39,rfl,rfl,⟨D,⟨by omega⟩,by omega⟩,by rw[g,if_pos j,<-c],rfl⟩
theorem Me (G:Gam TT R K S) {ns:List (List (List Rat)×Re)} (z:∀n∈ns,TT n.1) (hL:L=ns.map nm) (a6:∀n∈ns,El n.1 S n.2) (hlen:ns.length<=1000000) {O:List (el Ap)} (hO:O=ns.map (fun n=>nm (BO ns,n.2))):CF 233 [.one (.sl Ap L)] (.AI [(false,[.sl Ap O]),(false,[.int .i64 0])]):=by
 have ad:L.length=ns.length:=by rw[hL,List.length_map]
 have b:TT (BO ns):=G.BO z;obtain⟨T,s⟩:=xV (tw (BO ns));refine AJ Tryz.func233 fun E P=>?_
 conv=>cbv
 refine AB P (ZQ G z hL s) ?_;conv=>cbv
 refine Ai ?_;conv=>cbv
 intro n21 N;have ab:=N.eq;have f21:=N.le;conv=>cbv
 refine .inr ?_;obtain⟨J0,t⟩:=xJ fun vs bl k=>∃(o:List (el Ap)) (mm i':Nat) (n i:Int),vs=[.one (.sl (.sl AA) T),.one (.AN Ap 6 0 0 mm),.one (.sl Ap L),.one (.int .i64 n),.one (.int .i64 i)]/\bl=[.arr 0 Ap o]/\(CM n L.length/\AQ i i'/\i'<=L.length/\mm=o.length)/\o=(ns.take i').map (fun n=>nm (BO ns,n.2))/\k=L.length-i'
 refine⟨[(6,Ap,true)],[4,6,20,21,22],[6],J0,⟨L.length,by rw[t];exact⟨[],0,0,n21,0,rfl,rfl,⟨N,An 0,Nat.zero_le _,rfl⟩,rfl,rfl⟩⟩,?_⟩;intro vs bl ah hj;rw[t] at hj;obtain⟨o,mm,i',n,i,rfl,rfl,⟨hn,hi,ae,Q⟩,hinv,af⟩:=hj;conv=>cbv
 have en:=hn.eq;have ei:=hi.eq;have ag:o.length<=L.length:=by rw[hinv,List.length_map,List.length_take];omega
 intro n23 X;conv=>cbv
 cases n23 <;> conv=>cbv
 ·have a7:=AW X;exact AD ⟨⟨rfl,.inl ⟨_,rfl,by omega,congrArg _ (by rw[hO,Q,hinv,List.drop_zero,List.take_length,List.take_of_length_le (show ns.length<=i' by omega)])⟩,trivial⟩,t2,trivial⟩
 have a7:=AY X;refine .inr ?_;obtain⟨aa,M⟩:=AL (l:=L) (i:=i') (by omega);refine⟨aa,fun _=>⟨by omega,by rw[show (i).toNat=i' by omega];exact M⟩,?_⟩;try conv=>cbv
 obtain⟨u,y,Y,Z,U⟩:=GU hL M;have V:=List.mem_of_getElem? U;have hu:TT u:=z _ V;have F:El u S y:=a6 _ V;have D:BA u (BO ns):=NW G z _ V;obtain⟨H,f⟩:=xR (em (BO ns) y);obtain⟨a2,g⟩:=D4 (u<:+BO ns);refine AB P (JS (G.Af b) (G.Af hu) s Y g) ?_;conv=>cbv
 refine .inr ?_;cases a2 <;> conv=>cbv
 ·have a1:=fun q=>Bool.false_ne_true (g.2 q)
  obtain⟨a8,J⟩:=xV (DU (BO ns) u);have I:=ext_eq (G.Af b).red (G.Af hu).red D;refine AB (r:= .AI [(true,[.sl (.sl AA) T,.sl (.sl AA) a8]),(false,[.int .i64 0])]) P (SE G b hu s Y (by rw[I];exact s) J) ?_;try conv=>cbv
  refine Ai ?_;conv=>cbv
  refine AB (r:= .one (.sl AA H)) P (Sd G b hu D s (by rw[J];have:=KF (G.Af b).red (G.Af hu).red;rwa [I] at this) Z F f) ?_;try conv=>cbv
  refine AB (r:= .agg [.sl (.sl AA) T,.sl AA H]) P (NT (G.Af b) s f (G.BQ hu b D F) (by have:=G.mul b;omega)) ?_;try conv=>cbv
  refine⟨[(T,H)],fun _=>⟨rfl,by decide,rfl,⟨rfl,by first | exact t1 | exact t2 | exact t4 | simp[Aj,Ar,cells],trivial⟩⟩,.inr ?_⟩;try conv=>cbv
  refine .inl ⟨[(T,H)],fun _=>⟨rfl,Q,rfl,by show (o.length+1)*48<=140737488355328;(try simp only[List.length_take,List.length_drop]);omega⟩,?_⟩;intro (d:List (el Ap)) m c;have h:d=(o:List (el Ap))++([(T,H)]:List (el Ap)):=c.1;have j:m=List.length (α:=(el Ap)) d:=c.2;conv=>cbv
  intro W a5;conv=>cbv
  refine AH ?_;refine⟨L.length-(i'+1),?_,?_⟩
  ·omega
  rw[t];exact⟨d,m,i'+1,n,W,rfl,rfl,⟨hn,⟨by omega⟩,by omega,j⟩,by rw[h,hinv,CE U,List.map_append];simp[nm,s,f],rfl⟩
 have a1:=g.1 rfl;refine AB P (Oc (G.Af b) s Z F.mem a1 f) ?_;conv=>cbv
 refine AB (r:= .agg [.sl (.sl AA) T,.sl AA H]) P (NT (G.Af b) s f (G.BQ hu b D F) (by have:=G.mul b;omega)) ?_;try conv=>cbv
 refine⟨[(T,H)],fun _=>⟨rfl,by decide,rfl,⟨rfl,by first | exact t1 | exact t2 | exact t4 | simp[Aj,Ar,cells],trivial⟩⟩,.inr ?_⟩;try conv=>cbv
 refine .inl ⟨[(T,H)],fun _=>⟨rfl,Q,rfl,by show (o.length+1)*48<=140737488355328;(try simp only[List.length_take,List.length_drop]);omega⟩,?_⟩;intro (d:List (el Ap)) m c;have h:d=(o:List (el Ap))++([(T,H)]:List (el Ap)):=c.1;have j:m=List.length (α:=(el Ap)) d:=c.2;conv=>cbv
 intro W a5;conv=>cbv
 refine AH ?_;refine⟨L.length-(i'+1),?_,?_⟩
 ·omega
 rw[t];exact⟨d,m,i'+1,n,W,rfl,rfl,⟨hn,⟨by omega⟩,by omega,j⟩,by rw[h,hinv,CE U,List.map_append];simp[nm,s,f],rfl⟩
noncomputable def As (u v:List (List Rat)):List (List Rat):=BO [(u,0),(v,0)]
theorem NP (G:Gam TT R K S) {T1 T2:List LR} {A1 A2:LR} {u v:List (List Rat)} {x y:Re} (hu:TT u) (Y:TT v) (I:T1=tw u) (J:T2=tw v) (F:A1=em u x) (H:A2=em v y) (Z:El u S x) (hy:El v S y) {A B C:LR} {g:FuncId} (W:T=tw (As u v)) (Q:A=em (As u v) x) (U:B=em (As u v) y) (X:CF g [.one (.sl (.sl AA) T),.one (.sl AA A),.one (.sl AA B)] (.one (.sl AA C))):CF 226 [.agg (Ab T1 A1),.agg (Ab T2 A2),.one (.fn g)] (.AI [(true,(Ab T C)),(false,[.int .i64 0])]):=by
 obtain⟨O,s⟩:∃z:List (el Ap),z=[(T,A),(T,B)]:=⟨_,rfl⟩
 have V:O.length=2:=by rw[s];rfl
 have M:O[0]? =some (T,A):=by rw[s];rfl
 have P:O[1]? =some (T,B):=by rw[s];rfl
 refine AJ Tryz.func226 fun E N=>?_
 conv=>cbv
 refine⟨[(T1,A1),(T2,A2)],fun _=>⟨rfl,by decide,rfl,⟨rfl,by first | exact t1 | exact t2 | exact t4 | simp[Aj,Ar,cells],⟨rfl,by first | exact t1 | exact t2 | exact t4 | simp[Aj,Ar,cells],trivial⟩⟩⟩,.inr ?_⟩;try conv=>cbv
 refine AB (r:= .AI [(false,[.sl Ap O]),(false,[.int .i64 0])]) N (Me (ns:=[(u,x),(v,y)]) G (by intro n h;simp at h;rcases h with rfl | rfl;exact hu;exact Y) (by rw[I,J,F,H];rfl) (by intro n h;simp at h;rcases h with rfl | rfl;exact Z;exact hy) (by show 2<=1000000;decide) (by rw[s,W,Q,U];rfl)) ?_;try conv=>cbv
 refine Ai ?_;conv=>cbv
 obtain⟨j,b⟩:=AL (l:=O) (i:=0) (by omega);refine⟨j,fun _=>⟨by omega,b⟩,?_⟩;try conv=>cbv
 obtain⟨m,c⟩:=AL (l:=O) (i:=0) (by omega);refine⟨m,fun _=>⟨by omega,c⟩,?_⟩;try conv=>cbv
 obtain⟨o,d⟩:=AL (l:=O) (i:=1) (by omega);refine⟨o,fun _=>⟨by omega,d⟩,?_⟩;try conv=>cbv
 have f:=Option.some.inj (b.symm.trans M);have t:=Option.some.inj (c.symm.trans M);have D:=Option.some.inj (d.symm.trans P);refine .inl ⟨[.one (.sl (.sl AA) j.1),.one (.sl AA m.2),.one (.sl AA o.2)],.one (.sl AA C),fun _=>t3,fun _=>Et N (by rw[f,t,D];exact X),?_⟩;try conv=>cbv
 refine g2 rfl ?_;exact AD ⟨⟨rfl,congrArg _ (by rw[f]),rfl,trivial⟩,t2,trivial⟩
end Go.Abs
namespace Go.Abs
open Go.RowKit
section
variable {TT:List (List Rat)->Prop} {R K S:Nat}
theorem Gam.As (G:Gam TT R K S) {u v:List (List Rat)} (hu:TT u) (d:TT v):TT (Go.Abs.As u v)/\BA u (Go.Abs.As u v)/\BA v (Go.Abs.As u v):=by
 have b:∀n∈[(u,(0:Re)),(v,0)],TT n.1:=by intro n c;simp at c;rcases c with rfl | rfl;exact hu;exact d
 have he:=NW G b;exact⟨G.BO b,he (u,0) (by simp),he (v,0) (by simp)⟩
end
theorem En (b:List LR):∃z:List LR,z=b:=⟨_,rfl⟩
theorem CB (b:LR):∃z:LR,z=b:=⟨_,rfl⟩
theorem WZ {TT:List (List Rat)->Prop} {R K S:Nat} (G:Gam TT R K S) {T1 T2:List LR} {A1 A2:LR} {u v:List (List Rat)} {x y:Re} (hu:TT u) (j:TT v) (f:T1=tw u) (g:T2=tw v) (c:A1=em u x) (d:A2=em v y) (z:El u S x) (D:El v S y) {T:List LR} {C:LR} (t:T=tw (As u v)) (F:C=em (As u v) (x+y)):CF 113 [.agg (Ab T1 A1),.agg (Ab T2 A2)] (.AI [(true,(Ab T C)),(false,[.int .i64 0])]):=by
 obtain⟨b,h,i⟩:=G.As hu j;have l:=G.BQ hu b h z;have m:=G.BQ j b i D;have hmul:=G.mul b;obtain⟨A,o⟩:=CB (em (As u v) x);obtain⟨B,s⟩:=CB (em (As u v) y);refine AJ Tryz.func113 fun E H=>?_
 conv=>cbv
 refine AB H (NP G hu j f g c d z D t o s (Hu (G.Af b) t o s l m (by omega) (by omega) F)) ?_;conv=>cbv
 exact AD ⟨t3,t2,trivial⟩
theorem Pp {TT:List (List Rat)->Prop} {R K S:Nat} (G:Gam TT R K S) {T1 T2:List LR} {A1 A2:LR} {u v:List (List Rat)} {x y:Re} (hu:TT u) (j:TT v) (f:T1=tw u) (g:T2=tw v) (c:A1=em u x) (d:A2=em v y) (z:El u S x) (D:El v S y) {T:List LR} {C:LR} (t:T=tw (As u v)) (F:C=em (As u v) (x-y)):CF 196 [.agg (Ab T1 A1),.agg (Ab T2 A2)] (.AI [(true,(Ab T C)),(false,[.int .i64 0])]):=by
 obtain⟨b,h,i⟩:=G.As hu j;have l:=G.BQ hu b h z;have m:=G.BQ j b i D;have hmul:=G.mul b;obtain⟨A,o⟩:=CB (em (As u v) x);obtain⟨B,s⟩:=CB (em (As u v) y);refine AJ Tryz.func196 fun E H=>?_
 conv=>cbv
 refine AB H (NP G hu j f g c d z D t o s (Ka (G.Af b) t o s l m (by omega) (by omega) F)) ?_;conv=>cbv
 exact AD ⟨t3,t2,trivial⟩
theorem Wc {TT:List (List Rat)->Prop} {R K S:Nat} (G:Gam TT R K S) {T1 T2:List LR} {A1 A2:LR} {u v:List (List Rat)} {x y:Re} (hu:TT u) (j:TT v) (f:T1=tw u) (g:T2=tw v) (c:A1=em u x) (d:A2=em v y) (z:El u S x) (D:El v S y) {T:List LR} {C:LR} (t:T=tw (As u v)) (F:C=em (As u v) (x*y)):CF 111 [.agg (Ab T1 A1),.agg (Ab T2 A2)] (.AI [(true,(Ab T C)),(false,[.int .i64 0])]):=by
 obtain⟨b,h,i⟩:=G.As hu j;have l:=G.BQ hu b h z;have m:=G.BQ j b i D;have hmul:=G.mul b;obtain⟨A,o⟩:=CB (em (As u v) x);obtain⟨B,s⟩:=CB (em (As u v) y);refine AJ Tryz.func111 fun E H=>?_
 conv=>cbv
 refine AB H (NP G hu j f g c d z D t o s (Fp (G.Af b) t o s l m (by omega) F)) ?_;conv=>cbv
 exact AD ⟨t3,t2,trivial⟩
theorem Wd {TT:List (List Rat)->Prop} {R K S:Nat} (G:Gam TT R K S) {T1:List LR} {A1:LR} {u:List (List Rat)} {x:Re} (hu:TT u) (c:T1=tw u) (b:A1=em u x) (f:El u S x) {C:LR} (g:C=em u (-x)):CF 267 [.agg (Ab T1 A1)] (.agg (Ab T1 C)):=by
 have hmul:=G.mul hu;refine AJ Tryz.func267 fun E d=>?_
 conv=>cbv
 refine AB d (NT (G.Af hu) c b f) ?_;conv=>cbv
 refine AB d (Pr (G.Af hu) c b f (by omega) g) ?_;conv=>cbv
 exact AD ⟨t3,trivial⟩
theorem Po {TT:List (List Rat)->Prop} {R K S:Nat} (G:Gam TT R K S) {T1:List LR} {A1:LR} {u:List (List Rat)} {x:Re} (hu:TT u) (d:T1=tw u) (b:A1=em u x) (h:El u S x) {c:Int} (g:c=AZ x):CF 90 [.agg (Ab T1 A1)] (.one (.int .i64 c)):=by
 refine AJ Tryz.func90 fun E f=>?_
 conv=>cbv
 refine AB f (JD (G.Af hu) d b h ((G.fit hu).mono (Nat.le_add_right _ _)).v0 (G.fit hu).vR g) ?_;conv=>cbv
 exact AD ⟨t2,trivial⟩
theorem fu {TT:List (List Rat)->Prop} {R K S:Nat} (G:Gam TT R K S) {T1 T2:List LR} {A1 A2:LR} {u v:List (List Rat)} {x y:Re} (hu:TT u) (o:TT v) (i:T1=tw u) (j:T2=tw v) (g:A1=em u x) (h:A2=em v y) (D:El u S x) (F:El v S y) {K2 S2:Nat} (H:Gam TT R K2 S2) (J:2*(S+K)+1<=S2) {c:Int} (I:c=AZ (x-y)):CF 115 [.agg (Ab T1 A1),.agg (Ab T2 A2)] (.AI [(false,[.int .i64 c]),(false,[.int .i64 0])]):=by
 obtain⟨b,l,m⟩:=G.As hu o;have s:=G.BQ hu b l D;have t:=G.BQ o b m F;have hmul:=G.mul b;refine AJ Tryz.func115 fun E z=>?_
 conv=>cbv
 obtain⟨N,f⟩:=En (tw (As u v));obtain⟨M,d⟩:=CB (em (As u v) (x-y));refine AB z (Pp G hu o i j g h D F f d) ?_;conv=>cbv
 refine Ai ?_;conv=>cbv
 refine AB z (Po H b f d ((s.sub (G.Af b).red t).mono (by omega)) I) ?_;conv=>cbv
 exact AD ⟨t2,t2,trivial⟩
theorem NU {u:List (List Rat)} {x y:Re} (b:In u x) (c:In u y):em u x=em u y↔x=y:=
 ⟨fun h=>by rw[<-Dk b,<-Dk c,Uo h],fun h=>by rw[h]⟩
theorem eT {u v:List (List Rat)} (h:u<:+v) (k:v<:+u):u=v:=h.eq_of_length_le k.length_le
theorem Wa {TT:List (List Rat)->Prop} {R K S:Nat} (G:Gam TT R K S) {T1 T2:List LR} {A1 A2:LR} {u v:List (List Rat)} {x y:Re} (hu:TT u) (V:TT v) (H:T1=tw u) (I:T2=tw v) (D:A1=em u x) (F:A2=em v y) (Y:El u S x) (Z:El v S y) {c:Bool} (hc:c=true↔x=y):CF 117 [.agg (Ab T1 A1),.agg (Ab T2 A2)] (.one (.bool c)):=by
 obtain⟨P,a7,a8⟩:=G.As hu V;have J:=G.BQ hu P a7 Y;have M:=G.BQ V P a8 Z;have hmul:=G.mul P;obtain⟨A,Q⟩:=CB (em (As u v) x);obtain⟨B,U⟩:=CB (em (As u v) y);obtain⟨T,hT⟩:=En (tw (As u v));obtain⟨O,W⟩:∃z:List (el Ap),z=[(T,A),(T,B)]:=⟨_,rfl⟩
 have aa:O.length=2:=by rw[W];rfl
 have h0:O[0]? =some (T,A):=by rw[W];rfl
 have h1:O[1]? =some (T,B):=by rw[W];rfl
 refine AJ Tryz.func117 fun E N=>?_
 conv=>cbv
 obtain⟨a5,h⟩:=D4 (v<:+u);refine AB N (JS (G.Af hu) (G.Af V) H I h) ?_;conv=>cbv
 cases a5 <;> conv=>cbv
 ·have a1:=fun q=>Bool.false_ne_true (h.2 q)
  refine⟨[(T1,A1),(T2,A2)],fun _=>⟨rfl,by decide,rfl,⟨rfl,by first | exact t1 | exact t2 | exact t4 | simp[Aj,Ar,cells],⟨rfl,by first | exact t1 | exact t2 | exact t4 | simp[Aj,Ar,cells],trivial⟩⟩⟩,.inr ?_⟩;try conv=>cbv
  refine AB (r:= .AI [(false,[.sl Ap O]),(false,[.int .i64 0])]) N (Me (ns:=[(u,x),(v,y)]) G (by intro n o;simp at o;rcases o with rfl | rfl;exact hu;exact V) (by rw[H,I,D,F];rfl) (by intro n o;simp at o;rcases o with rfl | rfl;exact Y;exact Z) (by show 2<=1000000;decide) (by rw[W,hT,Q,U];rfl)) ?_;try conv=>cbv
  refine Bu ?_;conv=>cbv
  obtain⟨s,b⟩:=AL (l:=O) (i:=0) (by omega);refine⟨s,fun _=>⟨by omega,b⟩,?_⟩;try conv=>cbv
  obtain⟨t,d⟩:=AL (l:=O) (i:=1) (by omega);refine⟨t,fun _=>⟨by omega,d⟩,?_⟩;try conv=>cbv
  have f:=Option.some.inj (b.symm.trans h0);have g:=Option.some.inj (d.symm.trans h1);have m:c=decide (s.2=t.2):=by rw[Bool.eq_iff_iff,decide_eq_true_eq,hc,f,g,Q,U];exact (NU J.mem M.mem).symm
  refine AB (r:= .one (.bool c)) N (MF (by rw[f];exact Q) (by rw[g];exact U) (J.BT (by omega)) (M.BT (by omega)) m) ?_;try conv=>cbv
  refine g2 rfl ?_;exact AD ⟨t2,trivial⟩
 have a1:=h.1 rfl;obtain⟨a6,j⟩:=D4 (u<:+v);refine AB N (JS (G.Af V) (G.Af hu) I H j) ?_;conv=>cbv
 cases a6 <;> conv=>cbv
 ·have a2:=fun q=>Bool.false_ne_true (j.2 q)
  refine⟨[(T1,A1),(T2,A2)],fun _=>⟨rfl,by decide,rfl,⟨rfl,by first | exact t1 | exact t2 | exact t4 | simp[Aj,Ar,cells],⟨rfl,by first | exact t1 | exact t2 | exact t4 | simp[Aj,Ar,cells],trivial⟩⟩⟩,.inr ?_⟩;try conv=>cbv
  refine AB (r:= .AI [(false,[.sl Ap O]),(false,[.int .i64 0])]) N (Me (ns:=[(u,x),(v,y)]) G (by intro n o;simp at o;rcases o with rfl | rfl;exact hu;exact V) (by rw[H,I,D,F];rfl) (by intro n o;simp at o;rcases o with rfl | rfl;exact Y;exact Z) (by show 2<=1000000;decide) (by rw[W,hT,Q,U];rfl)) ?_;try conv=>cbv
  refine Bu ?_;conv=>cbv
  obtain⟨s,b⟩:=AL (l:=O) (i:=0) (by omega);refine⟨s,fun _=>⟨by omega,b⟩,?_⟩;try conv=>cbv
  obtain⟨t,d⟩:=AL (l:=O) (i:=1) (by omega);refine⟨t,fun _=>⟨by omega,d⟩,?_⟩;try conv=>cbv
  have f:=Option.some.inj (b.symm.trans h0);have g:=Option.some.inj (d.symm.trans h1);have m:c=decide (s.2=t.2):=by rw[Bool.eq_iff_iff,decide_eq_true_eq,hc,f,g,Q,U];exact (NU J.mem M.mem).symm
  refine AB (r:= .one (.bool c)) N (MF (by rw[f];exact Q) (by rw[g];exact U) (J.BT (by omega)) (M.BT (by omega)) m) ?_;try conv=>cbv
  refine g2 rfl ?_;exact AD ⟨t2,trivial⟩
 have a2:=j.1 rfl;have X:=eT a2 a1;have m:c=decide (A1=A2):=by rw[Bool.eq_iff_iff,decide_eq_true_eq,hc,D,F,<-X];exact (NU Y.mem (X ▸ Z.mem)).symm
 refine AB N (MF D F (Y.BT (by omega)) (Z.BT (by omega)) m) ?_;conv=>cbv
 exact AD ⟨t2,trivial⟩
theorem Pn {q:Rat} {b1 b2:Bool} {l1 l2:List UInt32} {C:LR} (b:Ay q b1 l1 b2 l2) (f:BX q) (c:C=em [] (Re.ofRat q)):CF 116 [.agg (BK b1 l1 b2 l2)] (.agg (Ab [] C)):=by
 refine AJ Tryz.func116 fun E d=>?_
 conv=>cbv
 refine AB d (Ri b f) ?_;conv=>cbv
 refine⟨[((b1,l1),(b2,l2))],fun _=>⟨rfl,by decide,rfl,⟨rfl,by first | exact t1 | exact t2 | exact t4 | simp[Aj,Ar,cells],trivial⟩⟩,.inr ?_⟩;try conv=>cbv
 exact AD ⟨⟨rfl,C7,congrArg _ (by rw[c,DD,<-b.rp]),trivial⟩,trivial⟩
theorem Wb {x:Int} {C:LR} (g: -9223372036854775808<=x/\x<9223372036854775808) (f:BX x) (d:C=em [] (Re.ofRat x)):CF 112 [.one (.int .i64 x)] (.agg (Ab [] C)):=by
 refine AJ Tryz.func112 fun E c=>?_
 conv=>cbv
 obtain⟨j,l,h,i,b⟩:=BP (x:Rat);refine AB c (Fq g rfl b) ?_;conv=>cbv
 refine AB c (Pn b f d) ?_;conv=>cbv
 exact AD ⟨t3,trivial⟩
end Go.Abs
namespace Go.Abs
open Go.RowKit
structure De (h R s:Nat):Prop where
 q:SS h R s<=60000000000000
 v:VV h R (s+GG h R)<=60000000000000
 qR:SS h R R<=60000000000000
 vR:VV h R R<=60000000000000
variable {A B:LR} {R':Nat} {T T2:List LR} {r:List Rat} {u:List (List Rat)} {v x:Re}
theorem De.v0 {h R s:Nat} (f:De h R s):VV h R s<=60000000000000:=Nat.le_trans (GI h R (by omega)) f.v
theorem De.s {h R s:Nat} (f:De h R s):s<=60000000000000:=Nat.le_trans (Px h R s) f.q
theorem De.mono {h R s t:Nat} (f:De h R s) (ht:t<=s):De h R t:=⟨Nat.le_trans (KZ h R ht) f.q,Nat.le_trans (GI h R (by omega)) f.v,f.qR,f.vR⟩
theorem Wt:∀(h R s:Nat),SS h R s<=SS (h+1) R s:=fun h R s=>Nat.le_trans (KZ h R (by unfold TQ;omega)) (Pw h R s)
theorem Ws {i h:Nat} (b:i<=h) (R s:Nat):SS i R s<=SS h R s:=by
 induction b with
 | refl=>exact Nat.le_refl _
 | step _ c=>exact Nat.le_trans c (Wt _ _ _)
theorem Xu {R s:Nat} (h:Aa R u) (z:T=tw u) (D:A=em u x) (G:El u s x) (o:De u.length R s) {w:Re} (hw:In u w) (d:w*w=x) (H:GK u x w) (i:0<=v) (j:v*v=x) (y:B=em u v):CF 343 [.one (.sl (.sl AA) T),.one (.sl AA A)] (.AI [(false,[.sl AA B]),(false,[.bool true])]):=by
 have l:=G.sqrt h hw d;refine AJ Tryz.func343 fun E m=>?_
 conv=>cbv
 obtain⟨J,b⟩:=xR (em u w);refine AB m (H z D b) ?_;conv=>cbv
 refine Ai ?_;conv=>cbv
 obtain⟨I,g⟩:=xI (AZ w);refine AB m (FJ h z b l o.v (Nat.le_trans (Eb _ _ _) o.v) o.vR g) ?_;conv=>cbv
 intro n19 f;conv=>cbv
 refine .inr ?_;cases n19 <;> conv=>cbv
 ·have t:=AW f;exact AD ⟨⟨rfl,congrArg _ (by rw[y,b];congr 1;have:¬w<0:=(fun F=>by have:=G3.2 F;omega);exact Re.Iv i (by grind) (j.trans d.symm)),trivial⟩,t2,trivial⟩
 have t:=AY f;obtain⟨M,c⟩:=xR (em u (-w));refine AB m (H2 h b l c) ?_;conv=>cbv
 exact AD ⟨⟨rfl,congrArg _ (by rw[y,c];congr 1;have:w<0:=G3.1 (by omega);exact Re.Iv i (by grind) (by rw[j,<-d];grind)),trivial⟩,t2,trivial⟩
theorem Xt {B:LR} {R s:Nat} (h:Aa R u) (d:T=tw u) (b:A=em u x) (i:El u s x) (g:De u.length R s) {l:LR} (f:GJ u x l):CF 343 [.one (.sl (.sl AA) T),.one (.sl AA A)] (.AI [(false,[.sl AA (([]:LR))]),(false,[.bool false])]):=by
 refine AJ Tryz.func343 fun E c=>?_
 conv=>cbv
 refine AB c (f d b) ?_;conv=>cbv
 refine Bu ?_;conv=>cbv
 exact AD ⟨⟨rfl,C7,trivial⟩,t2,trivial⟩
theorem Xv {R s:Nat} (h:Aa R u) (m:T=tw u) (j:A=em u x) (i:El u s x) (c:De u.length R s) (o:In u v) (f:0<=v) (b:v*v=x) (l:B=em u v):CF 343 [.one (.sl (.sl AA) T),.one (.sl AA A)] (.AI [(false,[.sl AA B]),(false,[.bool true])]):=by
 rcases PT h i c.q c.vR with⟨w,hw,g,t⟩ |⟨d,_⟩
 ·exact Xu h m j i c hw g t f b l
 exact absurd ⟨v,o,b⟩ d
theorem Xs {R s:Nat} (h:Aa R u) (i:T=tw u) (g:A=em u x) (f:El u s x) (b:De u.length R s) (c:¬Sq u x):CF 343 [.one (.sl (.sl AA) T),.one (.sl AA A)] (.AI [(false,[.sl AA []]),(false,[.bool false])]):=by
 rcases PT h f b.q b.vR with⟨w,hw,d,m⟩ |⟨_,l,j⟩
 ·exact absurd ⟨w,hw,d⟩ c
 exact Xt (B:=[]) h i g f b j
theorem QG {R:Nat} (h:Aa R u) (I:T=tw u) (hv:VV u.length R R<=60000000000000) (hq:SS u.length R R<=60000000000000):CF 131 [.one (.sl (.sl AA) T)] (.one (.bool true)):=by
 have ak:T.length=u.length:=by rw[I,BN]
 have hR:=h.hR;refine AJ Tryz.func131 fun E Y=>?_
 conv=>cbv
 refine .inr ?_;obtain⟨J0,g⟩:=xJ fun vs bl k=>∃(i':Nat) (i:Int),vs=[.one (.sl (.sl AA) T),.one (.int .i64 i)]/\(AQ i i'/\i'<=T.length)/\k=T.length-i'
 refine⟨[],[0,3],[],J0,⟨T.length-0,by rw[g];exact⟨0,0,rfl,⟨An 0,by omega⟩,rfl⟩⟩,?_⟩;intro vs bl ao hj;rw[g] at hj;obtain⟨i',i,rfl,⟨hi,al⟩,an⟩:=hj;conv=>cbv
 have ei:=hi.eq;rintro n8 ⟨e8,f8⟩;conv=>cbv
 intro n9 h9;conv=>cbv
 cases n9 <;> conv=>cbv
 ·have k9:=AW h9;exact AD ⟨t2,trivial⟩
 have k9:=AY h9;refine .inr ?_;intro aq ag;conv=>cbv
 refine AG ?_;intro V ad;conv=>cbv
 intro a2 J;conv=>cbv
 obtain⟨a8,c⟩:=AL (l:=T) (i:=i') (by omega);refine⟨a8,fun _=>⟨by omega,by rw[show (i).toNat=i' by omega];exact c⟩,?_⟩;try conv=>cbv
 obtain⟨r,Q,P⟩:=Hk (u:=u) (i:=i') (by omega);have t:AS (r::pre u i'):=Q ▸ (h.pre (i'+1)).red;have y:∀x,T[i']? =some x->x=em (pre u i') (AM (pre u i') r):=fun x hx=>by rw[<-I,hx] at P;exact (Option.some.inj P).trans (DR t)
 have D:=y _ c;have s:El (pre u i') R (AM (pre u i') r):=El.CK (Q ▸ h.pre (i'+1));have j:a2=tw (pre u i'):=by rw[J,List.drop_zero,show V=i' by omega,I,Gd]
 have O:(pre u i').length<=u.length:=by rw[HA (by omega)];omega
 have z:VV (pre u i').length R R<=60000000000000:=Nat.le_trans (JF O R R) hv;have Z:SS (pre u i').length R R<=60000000000000:=Nat.le_trans (Ws O R R) hq;refine AB Y (Kd (h.pre i') j D s hR) ?_;conv=>cbv
 refine Ai ?_;conv=>cbv
 intro ar ah;conv=>cbv
 refine AG ?_;intro W ae;conv=>cbv
 intro a5 M;conv=>cbv
 obtain⟨aa,d⟩:=AL (l:=T) (i:=i') (by omega);refine⟨aa,fun _=>⟨by omega,by rw[show (i).toNat=i' by omega];exact d⟩,?_⟩;try conv=>cbv
 have m:a5=tw (pre u i'):=by rw[M,List.drop_zero,show W=i' by omega,I,Gd]
 have F:=y _ d;obtain⟨av,b⟩:=xI (AZ (AM (pre u i') r));refine AB Y (FJ (h.pre i') m F s z hR z b) ?_;conv=>cbv
 intro n30 H;conv=>cbv
 refine g2 rfl ?_;cases n30 <;> conv=>cbv
 ·have U:=IV H;intro au ai;conv=>cbv
  refine AG ?_;intro X af;conv=>cbv
  intro a6 N;conv=>cbv
  obtain⟨ab,f⟩:=AL (l:=T) (i:=i') (by omega);refine⟨ab,fun _=>⟨by omega,by rw[show (i).toNat=i' by omega];exact f⟩,?_⟩;try conv=>cbv
  have o:a6=tw (pre u i'):=by rw[N,List.drop_zero,show X=i' by omega,I,Gd]
  have G:=y _ f;obtain⟨l,hn⟩:=((PT (h.pre i') s Z z).resolve_left (fun⟨w,hw,a1,_⟩=>t.2.2.2 ⟨w,hw,a1⟩)).2;refine AB Y (hn o G) ?_;conv=>cbv
  refine g2 rfl ?_;intro a7 aj;conv=>cbv
  refine AH ?_;refine⟨T.length-(i'+1),?_,?_⟩
  ·omega
  rw[g];exact⟨i'+1,a7,rfl,⟨⟨by omega⟩,by omega⟩,rfl⟩
 have U:=IW H;exact absurd U (by rw[b,FE t.2.2.1];omega)
theorem W5 {R s:Nat} (h:Aa R u) (t:T=tw u) (m:A=em u x) (y:El u s x) (g:De u.length R s) (D:In u v) (i:0<=v) (d:v*v=x) (z:B=em u v):CF 294 [.one (.sl (.sl AA) T),.one (.sl AA A)] (.AI [(false,[.sl (.sl AA) T]),(false,[.sl AA B]),(false,[.int .i64 0])]):=by
 have j:0<=x:=by rw[<-d];exact Re.Fh v
 refine AJ Tryz.func294 fun E o=>?_
 conv=>cbv
 obtain⟨F,b⟩:=xI (AZ x);refine AB o (FJ h t m y g.v0 g.s g.vR b) ?_;conv=>cbv
 intro l c;conv=>cbv
 cases l <;> conv=>cbv
 ·have f:=AW c;refine AB o (Xv h t m y g D i d z) ?_;conv=>cbv
  exact AD ⟨t2,t2,t2,trivial⟩
 have f:=AY c;exact (G5 b f j).elim
theorem W6 {R s:Nat} (h:Aa R u) (G:T=tw u) (I:A=em u x) (V:El u s x) (F:De u.length R s) (h8:u.length<8) (Q:0<=x) (P:¬Sq u x) (Z:r=co u x) (h':Aa R' (r::u)) (M:T2=tw (r::u)) (X:B=em (r::u) (rt u r)):CF 294 [.one (.sl (.sl AA) T),.one (.sl AA A)] (.AI [(false,[.sl (.sl AA) T2]),(false,[.sl AA B]),(false,[.int .i64 0])]):=by
 have N:T.length=u.length:=by rw[G,BN]
 have Y:=h.ht;refine AJ Tryz.func294 fun E J=>?_
 conv=>cbv
 obtain⟨a1,f⟩:=xI (AZ x);refine AB J (FJ h G I V F.v0 F.s F.vR f) ?_;conv=>cbv
 intro U l;conv=>cbv
 cases U <;> conv=>cbv
 ·have z:=AW l;refine AB J (Xs h G I V F P) ?_;conv=>cbv
  rintro n24 ⟨W,f24⟩;conv=>cbv
  intro n25 m;conv=>cbv
  cases n25 <;> conv=>cbv
  ·have D:=Dm m;refine⟨[],fun _=>⟨rfl,by decide,rfl,trivial⟩,.inl ?_⟩;try conv=>cbv
   refine .inl ⟨T,fun _=>⟨rfl,rfl,rfl,by show (0+T.length)*24<=140737488355328;(try simp only[List.length_take,List.length_drop]);omega⟩,?_⟩;intro (c:List (el (.sl AA))) n28 g;have d:c=([]:List (el (.sl AA)))++(T:List (el (.sl AA))):=g.1;have t:n28=List.length (α:=(el (.sl AA))) c:=g.2;conv=>cbv
   refine⟨[A],fun _=>⟨rfl,by decide,rfl,⟨rfl,by first | exact t1 | exact t2 | exact t4 | simp[Aj,Ar,cells],trivial⟩⟩,.inr ?_⟩;try conv=>cbv
   have O:c.length=T.length:=by rw[d];simp
   refine .inr (.inl ⟨[A],fun _=>⟨rfl,t,rfl,by show (c.length+1)*24<=140737488355328;(try simp only[List.length_take,List.length_drop]);omega⟩,?_⟩);intro (j:List (el (.sl AA))) n31 i;have o:j=(c:List (el (.sl AA)))++([A]:List (el (.sl AA))):=i.1;have y:n31=List.length (α:=(el (.sl AA))) j:=i.2;conv=>cbv
   refine⟨fun _=>y,?_⟩;rintro n35 ⟨H,f35⟩;conv=>cbv
   have b:j=tw (r::u):=by rw[o,d,G,KP,I,em,Z];rfl
   refine AB J (XR h' b (AQ.of (H.trans (congrArg _ N))) X) ?_;conv=>cbv
   exact AD ⟨⟨rfl,congrArg _ (by rw[M,b]),trivial⟩,t2,t2,trivial⟩
  have D:=Dn m;exact absurd D (by omega)
 have z:=AY l;exact (G5 f z Q).elim
theorem XS {R s:Nat} (h:Aa R u) (d:T=tw u) (i:A=em u x) (j:El u s x) (b:De u.length R s) (m:In u v) (f:0<=v) (g:v*v=x) (l:B=em u v):CF 222 [.one (.sl (.sl AA) T),.one (.sl AA A)] (.AI [(false,[.sl (.sl AA) T]),(false,[.sl AA B]),(false,[.int .i64 0])]):=by
 refine AJ Tryz.func222 fun E c=>?_
 conv=>cbv
 refine AB c (QG h d b.vR b.qR) ?_;conv=>cbv
 refine Ai ?_;conv=>cbv
 refine AB c (Kd h d i j b.s) ?_;conv=>cbv
 refine Ai ?_;conv=>cbv
 refine AB c (W5 h d i j b m f g l) ?_;conv=>cbv
 exact AD ⟨t2,t2,t2,trivial⟩
theorem XT {R s:Nat} (h:Aa R u) (d:T=tw u) (j:A=em u x) (l:El u s x) (b:De u.length R s) (m:u.length<8) (i:0<=x) (g:¬Sq u x) (t:r=co u x) (h':Aa R' (r::u)) (f:T2=tw (r::u)) (o:B=em (r::u) (rt u r)):CF 222 [.one (.sl (.sl AA) T),.one (.sl AA A)] (.AI [(false,[.sl (.sl AA) T2]),(false,[.sl AA B]),(false,[.int .i64 0])]):=by
 refine AJ Tryz.func222 fun E c=>?_
 conv=>cbv
 refine AB c (QG h d b.vR b.qR) ?_;conv=>cbv
 refine Ai ?_;conv=>cbv
 refine AB c (Kd h d j l b.s) ?_;conv=>cbv
 refine Ai ?_;conv=>cbv
 refine AB c (W6 h d j l b m i g t h' f o) ?_;conv=>cbv
 exact AD ⟨t2,t2,t2,trivial⟩
theorem P8 {R s:Nat} (h:Aa R u) (h':Aa R' (Ax u v)) (l:(Ax u v).length<=8) (g:T=tw u) (m:A=em u v) (j:El u s v) (o:De u.length R s) (f:0<=v) (b:T2=tw (Ax u v)) (c:B=em (Ax u v) (Re.sqrt v)):
  CF 222 [.one (.sl (.sl AA) T),.one (.sl AA A)] (.AI [(false,[.sl (.sl AA) T2]),(false,[.sl AA B]),(false,[.int .i64 0])]):=by
 by_cases d:Sq u v
 ·rw[Ec d] at b c;have i:T2=T:=b.trans g.symm;subst i;exact XS h g m j o ((KK f).1 d) (Re.Iw v) (Re.HI f) c
 rw[Ed d] at h' l b c;rw[<-ME j.mem] at c;exact XT h g m j o (by rw[List.length_cons] at l;omega) f d rfl h' b c
end Go.Abs
