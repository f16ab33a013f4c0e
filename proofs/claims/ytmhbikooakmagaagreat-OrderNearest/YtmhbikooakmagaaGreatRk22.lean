/- Part 23 of a proof. Conditions: each theorem's own. -/
import Derived.Test.YtmhbikooakmagaaGreatRk21
set_option linter.all false
set_option maxHeartbeats 8000000
set_option maxRecDepth 20000
open Go.Proofs
namespace Go.Abs
open Go.RowKit
def FA (w:List (List Rat)) (RL:List LR):List (List Rat)->Prop
 | []=>True
 | r::u=>FA w RL u/\∃wk,wk<:+w/\In wk (rt u r)/\RL[u.length]? =some (em wk (rt u r))
variable {A C:LR} {K R S a k mm n:Nat} {RL T:List LR} {TT:List (List Rat)->Prop} {p q x:Re} {r:List Rat} {u w:List (List Rat)}
theorem FA.mono {w':List (List Rat)} {X:List LR} (h:w<:+w'):∀{u:List (List Rat)},FA w RL u->FA w' (RL++X) u
 | [],_=>trivial
 | r::u,⟨c,f,d,h3,b⟩=>⟨c.mono h,f,d.trans h,h3,by rw[List.getElem?_append_left (FY b)];exact b⟩
noncomputable def EO (t:List (List Rat)):List (List Rat)->List LR
 | []=>[]
 | r::u=>EO t u++[em (ext t (r::u)) (rt u r)]
theorem MV (t:List (List Rat)):∀u,(EO t u).length=u.length
 | []=>rfl
 | r::u=>by rw[EO,List.length_append,MV t u];rfl
theorem MW {t:List (List Rat)} (ht:AT t):∀{u:List (List Rat)},AT u->FA (ext t u) (EO t u) u
 | [],_=>trivial
 | r::u,hu=>by
  refine⟨(MW ht hu.1).mono (NP _ _),ext t (r::u),List.suffix_refl _,(JR ht hu).2.root,?_⟩;rw[EO,List.getElem?_append_right (by rw[MV];omega),MV,Nat.sub_self];rfl
theorem ext_eq {t:List (List Rat)} (ht:AT t):∀{u:List (List Rat)},AT u->BO u t->ext t u=t
 | [],_,_=>rfl
 | r::u,hu,h=>by
  rw[ext,ext_eq ht hu.1 h.tail];exact Ec ⟨rt u r,h.root,Cb hu⟩
def PS (f:FuncId) (S:Nat) (w u:List (List Rat)):Prop:=∀{T RL:List LR} {A C:LR} {x:Re},T=tw w->FA w RL u->A=em u x->El u S x->C=em w x->
 CF f [.agg [.sl (.sl AA) T,.sl (.sl AA) RL],.one (.sl AA A)] (.one (.sl AA C))
def PT (f:FuncId) (S:Nat) (w u:List (List Rat)):Prop:=∀{T RL:List LR} {A C:LR} {x:Re} {mm:Nat},T=tw w->FA w RL u->mm=RL.length->A=em u x->El u S x->C=em w x->
 Bv Tryz.prog f [.agg [.sl (.sl AA) T,.AN (.sl AA) 0 0 0 mm],.one (.sl AA A)] (.arr 0 (.sl AA) RL) (.one (.sl AA C))
theorem Yh {b:Nat}:2^a<2^b↔a<b:=Nat.pow_lt_pow_iff_right (by decide)
theorem KR (ha:a=2^n+2^n) (h:2^(k+1)<a):k<n:=by
 have b:a=2^(n+1):=by rw[ha,Nat.pow_succ];omega
 rw[b,Yh] at h;omega
theorem KQ (ha:a=2^n+2^n) (h:¬2^(k+1)<a):n<=k:=by
 have b:a=2^(n+1):=by rw[ha,Nat.pow_succ];omega
 rw[b,Yh] at h;omega
theorem iR {u:List (List Rat)} {x:Re} (G:Gam TT R K S) (hw:TT w) (v:T=tw w) {q:Rat} (m:A=em [] (Re.ofRat q)) (y:Bu q) (s:C=em w (Re.ofRat q)):CF 315 [.agg [.sl (.sl AA) T,.sl (.sl AA) RL],.one (.sl AA A)] (.one (.sl AA C)):=by
 have d:A=[rp q]:=m.trans (Dx q);have o:A.length=1:=by rw[d];rfl
 refine AJ Tryz.func315 fun E t=>?_
 conv=>cbv
 rintro z ⟨j,f10⟩;conv=>cbv
 intro g c;conv=>cbv
 cases g <;> conv=>cbv
 ·have f:=Ah c;exact absurd f (by omega)
 have f:=Aj c;obtain⟨h,b⟩:=AK (l:=A) (i:=0) (by omega);refine⟨h,fun _=>⟨by omega,b⟩,?_⟩;try conv=>cbv
 refine AB t (Iw (G.Ag hw) v (Eh d b) y s) ?_;conv=>cbv
 refine g2 rfl ?_;exact AD ⟨t2,trivial⟩
theorem iT (G:Gam TT R K S) (hw:TT w) (hT:T=tw w) (hu:TT (r::u)) (I:BO (r::u) w) (ih:PS 315 S w u) (hR:FA w RL (r::u)) (H:A=em (r::u) x) (hx:El (r::u) S x) (h:x=p+q*rt u r) (O:El u S p) (P:El u S q) (h0:q=0) (hC:C=em w x):CF 315 [.agg [.sl (.sl AA) T,.sl (.sl AA) RL],.one (.sl AA A)] (.one (.sl AA C)):=by
 have g:=(G.Ag hu).red;have l:A.length=2^u.length+2^u.length:=by rw[H,BJ hx.mem,Bk]
 have ao:=De u.length;have ak:(r::u).length<=8:=G.ht hu;have a5:(r::u).length=u.length+1:=rfl;have hmul:=G.mul hw;have U:El w K (rt u r):=by have:=G.Bi hu hw I (JD g);rwa [Nat.zero_add] at this
 obtain⟨wk,aq,a7,M⟩:=hR.2;obtain⟨rk,Q⟩:=xR (em wk (rt u r));rw[<-Q] at M;refine AJ Tryz.func315 fun E hE=>?_
 conv=>cbv
 rintro av ⟨ab,f10⟩;conv=>cbv
 intro Z i;conv=>cbv
 cases Z <;> conv=>cbv
 ·have y:=Ah i;rintro n19 ⟨ad,f19⟩;conv=>cbv
  intro n20 ah;conv=>cbv
  refine g2 ⟨by omega,by omega,i64 (by omega)⟩ ?_;refine .inr ?_;obtain⟨J0,c⟩:=xJ fun vs bl k=>∃(k':Nat) (z W:Int),vs=[.one (.sl AA A),.one (.Ab 2 0 0),.one (.int .i64 z),.one (.int .i64 W)]/\bl=[.var 0 [.sl (.sl AA) T,.sl (.sl AA) RL]]/\(AO z (A.length/2)/\AO W k'/\k'<=u.length)/\k=u.length-k'
  refine⟨[],[1,2,5,6],[2],J0,⟨u.length-0,by rw[c];exact⟨0,n20,0,rfl,rfl,⟨⟨by omega⟩,Al 0,by omega⟩,rfl⟩⟩,?_⟩;intro vs bl ar hj;rw[c] at hj;obtain⟨k',z,W,rfl,rfl,⟨m,J,an⟩,al⟩:=hj;conv=>cbv
  have af:=m.eq;have ag:=J.eq;intro n22 ai;conv=>cbv
  refine AI ?_;intro n23 F;conv=>cbv
  refine AH ?_;rintro n25 ⟨ae,f25⟩;conv=>cbv
  have a8:=(Dt (k:=k'+1) F (by omega)).eq;intro n26 j;conv=>cbv
  cases n26 <;> conv=>cbv
  ·have V:=AW j;have N:k'=u.length:=by have:=KQ l (show ¬2^(k'+1)<A.length by omega);omega
   intro m32 a6;conv=>cbv
   refine AH ?_;intro D a2;conv=>cbv
   intro X s;conv=>cbv
   have d:X=em u p:=by rw[s,List.drop_zero,show D=A.length/2 by omega,H,CM g O.mem P.mem h]
   obtain⟨aw,b⟩:=xR (em w (p));refine AB hE (ih hT hR.1 d O b) ?_;conv=>cbv
   refine g2 rfl ?_;intro au v;conv=>cbv
   refine AH ?_;rintro B aa ⟨a1,o⟩;conv=>cbv
   intro Y t;conv=>cbv
   have f:Y=em u q:=by rw[t,show B=A.length/2 by omega,o,v,List.take_length,H,CA g O.mem P.mem h]
   refine AB hE (I6 (G.Ag (G.sub hu)).red P.mem f h0) ?_;conv=>cbv
   exact AD ⟨⟨rfl,congrArg _ (by rw[hC,b];congr 1;rw[h,h0];clear ih;grind),trivial⟩,trivial⟩
  have V:=AY j;refine .inr ?_;have N:k'<u.length:=KR l (show 2^(k'+1)<A.length by omega);intro n28 aj;conv=>cbv
  refine AI ?_;refine⟨u.length-(k'+1),?_,?_⟩
  ·omega
  rw[c];exact⟨k'+1,z,n28,rfl,rfl,⟨m,⟨by omega⟩,by omega⟩,rfl⟩
 have y:=Aj i;exact absurd y (by omega)
theorem iS (G:Gam TT R K S) (hw:TT w) (H:T=tw w) (hu:TT (r::u)) (c:BO (r::u) w) (ih:PS 315 S w u) (hR:FA w RL (r::u)) (Y:A=em (r::u) x) (hx:El (r::u) S x) (f:x=p+q*rt u r) (U:El u S p) (t:El u S q) (h0:q≠0) (hC:C=em w x):CF 315 [.agg [.sl (.sl AA) T,.sl (.sl AA) RL],.one (.sl AA A)] (.one (.sl AA C)):=by
 have d:=(G.Ag hu).red;have B:A.length=2^u.length+2^u.length:=by rw[Y,BJ hx.mem,Bk]
 have aE:=De u.length;have aB:(r::u).length<=8:=G.ht hu;have ak:(r::u).length=u.length+1:=rfl;have hmul:=G.mul hw;have b:El w K (rt u r):=by have:=G.Bi hu hw c (JD d);rwa [Nat.zero_add] at this
 obtain⟨wk,aa,V,F⟩:=hR.2;obtain⟨rk,W⟩:=xR (em wk (rt u r));rw[<-W] at F;refine AJ Tryz.func315 fun E v=>?_
 conv=>cbv
 rintro aI ⟨ar,f10⟩;conv=>cbv
 intro ag y;conv=>cbv
 cases ag <;> conv=>cbv
 ·have X:=Ah y;rintro n19 ⟨au,f19⟩;conv=>cbv
  intro n20 ay;conv=>cbv
  refine g2 ⟨by omega,by omega,i64 (by omega)⟩ ?_;refine .inr ?_;obtain⟨J0,l⟩:=xJ fun vs bl k=>∃(k':Nat) (Z kk:Int),vs=[.one (.sl AA A),.one (.Ab 2 0 0),.one (.int .i64 Z),.one (.int .i64 kk)]/\bl=[.var 0 [.sl (.sl AA) T,.sl (.sl AA) RL]]/\(AO Z (A.length/2)/\AO kk k'/\k'<=u.length)/\k=u.length-k'
  refine⟨[],[1,2,5,6],[2],J0,⟨u.length-0,by rw[l];exact⟨0,n20,0,rfl,rfl,⟨⟨by omega⟩,Al 0,by omega⟩,rfl⟩⟩,?_⟩;intro vs bl aF hj;rw[l] at hj;obtain⟨k',Z,kk,rfl,rfl,⟨D,a7,aD⟩,aC⟩:=hj;conv=>cbv
  have aw:=D.eq;have ax:=a7.eq;intro n22 az;conv=>cbv
  refine AI ?_;intro n23 a6;conv=>cbv
  refine AH ?_;rintro n25 ⟨av,f25⟩;conv=>cbv
  have an:=(Dt (k:=k'+1) a6 (by omega)).eq;intro n26 z;conv=>cbv
  cases n26 <;> conv=>cbv
  ·have ab:=AW z;have a8:k'=u.length:=by have:=KQ B (show ¬2^(k'+1)<A.length by omega);omega
   intro m32 al;conv=>cbv
   refine AH ?_;intro a5 aj;conv=>cbv
   intro ad M;conv=>cbv
   have m:ad=em u p:=by rw[M,List.drop_zero,show a5=A.length/2 by omega,Y,CM d U.mem t.mem f]
   obtain⟨aJ,g⟩:=xR (em w (p));refine AB v (ih H hR.1 m U g) ?_;conv=>cbv
   refine g2 rfl ?_;intro aG P;conv=>cbv
   refine AH ?_;rintro a1 ao ⟨ah,I⟩;conv=>cbv
   intro ae N;conv=>cbv
   have o:ae=em u q:=by rw[N,show a1=A.length/2 by omega,I,P,List.take_length,Y,CA d U.mem t.mem f]
   refine AB v (Hd (G.Ag (G.sub hu)).red t.mem o h0) ?_;conv=>cbv
   intro aH Q;conv=>cbv
   refine AH ?_;rintro a2 aq ⟨ai,J⟩;conv=>cbv
   intro af O;conv=>cbv
   have s:af=em u q:=by rw[O,show a2=A.length/2 by omega,J,Q,List.take_length,Y,CA d U.mem t.mem f]
   obtain⟨aK,h⟩:=xR (em w (q));refine AB v (ih H hR.1 s t h) ?_;conv=>cbv
   refine⟨rk,fun _=>⟨by omega,by rw[show kk.toNat=u.length by omega];exact F⟩,?_⟩;try conv=>cbv
   obtain⟨aL,i⟩:=xR (em w (rt u r));refine AB v (Rw (G.Ag hw) H W V aa i) ?_;conv=>cbv
   obtain⟨aM,j⟩:=xR (em w (q*rt u r));refine AB v (G3 (G.Ag hw) H h i (G.Bi (G.sub hu) hw c.tail t) b (by omega) j) ?_;conv=>cbv
   refine g2 rfl ?_;refine AB (r:= .one (.sl AA C)) v (Jc (G.Ag hw) H g j (G.Bi (G.sub hu) hw c.tail U) ((G.Bi (G.sub hu) hw c.tail t).mul (G.Ag hw) b) (by omega) (by omega) (by rw[hC,f])) ?_;conv=>cbv
   exact AD ⟨t2,trivial⟩
  have ab:=AY z;refine .inr ?_;have a8:k'<u.length:=KR B (show 2^(k'+1)<A.length by omega);intro n28 aA;conv=>cbv
  refine AI ?_;refine⟨u.length-(k'+1),?_,?_⟩
  ·omega
  rw[l];exact⟨k'+1,Z,n28,rfl,rfl,⟨D,⟨by omega⟩,by omega⟩,rfl⟩
 have X:=Aj y;exact absurd X (by omega)
theorem iU {u:List (List Rat)} {x:Re} (y:mm=RL.length) (G:Gam TT R K S) (hw:TT w) (v:T=tw w) {q:Rat} (m:A=em [] (Re.ofRat q)) (z:Bu q) (s:C=em w (Re.ofRat q)):Bv Tryz.prog 315 [.agg [.sl (.sl AA) T,.AN (.sl AA) 0 0 0 mm],.one (.sl AA A)] (.arr 0 (.sl AA) RL) (.one (.sl AA C)):=by
 have d:A=[rp q]:=m.trans (Dx q);have o:A.length=1:=by rw[d];rfl
 refine Hi Tryz.func315 (by kernel_rfl) rfl fun E t=>?_
 conv=>cbv
 rintro B ⟨j,f10⟩;conv=>cbv
 intro g c;conv=>cbv
 cases g <;> conv=>cbv
 ·have f:=Ah c;exact absurd f (by omega)
 have f:=Aj c;obtain⟨h,b⟩:=AK (l:=A) (i:=0) (by omega);refine⟨h,fun _=>⟨by omega,b⟩,?_⟩;try conv=>cbv
 refine AB t (Iw (G.Ag hw) v (Eh d b) z s) ?_;conv=>cbv
 refine g2 rfl ?_;refine fun _=>⟨⟨⟨t2,trivial⟩,rfl,by simp⟩,rfl⟩
theorem iW (P:mm=RL.length) (G:Gam TT R K S) (hw:TT w) (hT:T=tw w) (hu:TT (r::u)) (J:BO (r::u) w) (ih:PT 315 S w u) (hR:FA w RL (r::u)) (I:A=em (r::u) x) (hx:El (r::u) S x) (h:x=p+q*rt u r) (Q:El u S p) (U:El u S q) (h0:q=0) (hC:C=em w x):Bv Tryz.prog 315 [.agg [.sl (.sl AA) T,.AN (.sl AA) 0 0 0 mm],.one (.sl AA A)] (.arr 0 (.sl AA) RL) (.one (.sl AA C)):=by
 have g:=(G.Ag hu).red;have l:A.length=2^u.length+2^u.length:=by rw[I,BJ hx.mem,Bk]
 have ar:=De u.length;have an:(r::u).length<=8:=G.ht hu;have a7:(r::u).length=u.length+1:=rfl;have hmul:=G.mul hw;have W:El w K (rt u r):=by have:=G.Bi hu hw J (JD g);rwa [Nat.zero_add] at this
 obtain⟨wk,au,aa,N⟩:=hR.2;obtain⟨rk,V⟩:=xR (em wk (rt u r));rw[<-V] at N;refine Hi Tryz.func315 (by kernel_rfl) rfl fun E hE=>?_
 conv=>cbv
 rintro ax ⟨ae,f10⟩;conv=>cbv
 intro a1 i;conv=>cbv
 cases a1 <;> conv=>cbv
 ·have y:=Ah i;rintro n19 ⟨af,f19⟩;conv=>cbv
  intro n20 aj;conv=>cbv
  refine g2 ⟨by omega,by omega,i64 (by omega)⟩ ?_;refine .inr ?_;obtain⟨J0,c⟩:=xJ fun vs bl k=>∃(k':Nat) (B Y:Int),vs=[.one (.sl AA A),.one (.Ab 2 0 0),.one (.int .i64 B),.one (.int .i64 Y)]/\bl=[.arr 0 (.sl AA) RL,.var 0 [.sl (.sl AA) T,.AN (.sl AA) 0 0 0 mm]]/\(AO B (A.length/2)/\AO Y k'/\k'<=u.length)/\k=u.length-k'
  refine⟨[],[1,2,5,6],[0,2],J0,⟨u.length-0,by rw[c];exact⟨0,n20,0,rfl,rfl,⟨⟨by omega⟩,Al 0,by omega⟩,rfl⟩⟩,?_⟩;intro vs bl av hj;rw[c] at hj;obtain⟨k',B,Y,rfl,rfl,⟨m,M,aq⟩,ao⟩:=hj;conv=>cbv
  have ah:=m.eq;have ai:=M.eq;intro n22 ak;conv=>cbv
  refine AI ?_;intro n23 H;conv=>cbv
  refine AH ?_;rintro n25 ⟨ag,f25⟩;conv=>cbv
  have ab:=(Dt (k:=k'+1) H (by omega)).eq;intro n26 j;conv=>cbv
  cases n26 <;> conv=>cbv
  ·have X:=AW j;have O:k'=u.length:=by have:=KQ l (show ¬2^(k'+1)<A.length by omega);omega
   intro m32 a8;conv=>cbv
   refine AH ?_;intro F a6;conv=>cbv
   intro z s;conv=>cbv
   have d:z=em u p:=by rw[s,List.drop_zero,show F=A.length/2 by omega,I,CM g Q.mem U.mem h]
   obtain⟨a2,b⟩:=xR (em w (p));refine .inr (.inr (.inl ⟨0,.arr 0 (.sl AA) RL,[.agg [.sl (.sl AA) T,.AN (.sl AA) 0 0 0 mm],.one (.sl AA z)],.one (.sl AA a2),fun _=>⟨rfl,⟨⟨rfl,⟨⟨rfl,rfl⟩,rfl⟩,trivial⟩,rfl,trivial⟩⟩,fun _=>F2 hE (ih hT hR.1 P d Q b),?_⟩));try conv=>cbv
   refine g2 rfl ?_;intro aw v;conv=>cbv
   refine AH ?_;rintro D ad ⟨a5,o⟩;conv=>cbv
   intro Z t;conv=>cbv
   have f:Z=em u q:=by rw[t,show D=A.length/2 by omega,o,v,List.take_length,I,CA g Q.mem U.mem h]
   refine AB hE (I6 (G.Ag (G.sub hu)).red U.mem f h0) ?_;conv=>cbv
   refine fun _=>⟨⟨⟨⟨rfl,congrArg _ (by rw[hC,b];congr 1;rw[h,h0];clear ih;grind),trivial⟩,trivial⟩,rfl,by simp⟩,rfl⟩
  have X:=AY j;refine .inr ?_;have O:k'<u.length:=KR l (show 2^(k'+1)<A.length by omega);intro n28 al;conv=>cbv
  refine AI ?_;refine⟨u.length-(k'+1),?_,?_⟩
  ·omega
  rw[c];exact⟨k'+1,B,n28,rfl,rfl,⟨m,⟨by omega⟩,by omega⟩,rfl⟩
 have y:=Aj i;exact absurd y (by omega)
theorem iV (a1:mm=RL.length) (G:Gam TT R K S) (hw:TT w) (P:T=tw w) (hu:TT (r::u)) (c:BO (r::u) w) (ih:PT 315 S w u) (hR:FA w RL (r::u)) (hA:A=em (r::u) x) (hx:El (r::u) S x) (h:x=p+q*rt u r) (hp:El u S p) (D:El u S q) (h0:q≠0) (hC:C=em w x):Bv Tryz.prog 315 [.agg [.sl (.sl AA) T,.AN (.sl AA) 0 0 0 mm],.one (.sl AA A)] (.arr 0 (.sl AA) RL) (.one (.sl AA C)):=by
 have g:=(G.Ag hu).red;have N:A.length=2^u.length+2^u.length:=by rw[hA,BJ hx.mem,Bk]
 have aL:=De u.length;have aI:(r::u).length<=8:=G.ht hu;have au:(r::u).length=u.length+1:=rfl;have hmul:=G.mul hw;have b:El w K (rt u r):=by have:=G.Bi hu hw c (JD g);rwa [Nat.zero_add] at this
 obtain⟨wk,ah,a2,d⟩:=hR.2;obtain⟨rk,f⟩:=xR (em wk (rt u r));rw[<-f] at d;refine Hi Tryz.func315 (by kernel_rfl) rfl fun E I=>?_
 conv=>cbv
 rintro aP ⟨aA,f10⟩;conv=>cbv
 intro ak J;conv=>cbv
 cases ak <;> conv=>cbv
 ·have a6:=Ah J;rintro n19 ⟨aB,f19⟩;conv=>cbv
  intro n20 aF;conv=>cbv
  refine g2 ⟨by omega,by omega,i64 (by omega)⟩ ?_;refine .inr ?_;obtain⟨J0,v⟩:=xJ fun vs bl k=>∃(k':Nat) (hv kk:Int),vs=[.one (.sl AA A),.one (.Ab 2 0 0),.one (.int .i64 hv),.one (.int .i64 kk)]/\bl=[.arr 0 (.sl AA) RL,.var 0 [.sl (.sl AA) T,.AN (.sl AA) 0 0 0 mm]]/\(AO hv (A.length/2)/\AO kk k'/\k'<=u.length)/\k=u.length-k'
  refine⟨[],[1,2,5,6],[0,2],J0,⟨u.length-0,by rw[v];exact⟨0,n20,0,rfl,rfl,⟨⟨by omega⟩,Al 0,by omega⟩,rfl⟩⟩,?_⟩;intro vs bl aM hj;rw[v] at hj;obtain⟨k',hv,kk,rfl,rfl,⟨O,af,aK⟩,aJ⟩:=hj;conv=>cbv
  have aD:=O.eq;have aE:=af.eq;intro n22 aG;conv=>cbv
  refine AI ?_;intro n23 ae;conv=>cbv
  refine AH ?_;rintro n25 ⟨aC,f25⟩;conv=>cbv
  have ax:=(Dt (k:=k'+1) ae (by omega)).eq;intro n26 M;conv=>cbv
  cases n26 <;> conv=>cbv
  ·have ai:=AW M;have ag:k'=u.length:=by have:=KQ N (show ¬2^(k'+1)<A.length by omega);omega
   intro m32 aw;conv=>cbv
   refine AH ?_;intro ad ar;conv=>cbv
   intro a7 V;conv=>cbv
   have y:a7=em u p:=by rw[V,List.drop_zero,show ad=A.length/2 by omega,hA,CM g hp.mem D.mem h]
   obtain⟨al,j⟩:=xR (em w (p));refine .inr (.inr (.inl ⟨0,.arr 0 (.sl AA) RL,[.agg [.sl (.sl AA) T,.AN (.sl AA) 0 0 0 mm],.one (.sl AA a7)],.one (.sl AA al),fun _=>⟨rfl,⟨⟨rfl,⟨⟨rfl,rfl⟩,rfl⟩,trivial⟩,rfl,trivial⟩⟩,fun _=>F2 I (ih P hR.1 a1 y hp j),?_⟩));try conv=>cbv
   refine g2 rfl ?_;intro aN Y;conv=>cbv
   refine AH ?_;rintro aa ay ⟨ao,Q⟩;conv=>cbv
   intro aj W;conv=>cbv
   have z:aj=em u q:=by rw[W,show aa=A.length/2 by omega,Q,Y,List.take_length,hA,CA g hp.mem D.mem h]
   refine AB I (Hd (G.Ag (G.sub hu)).red D.mem z h0) ?_;conv=>cbv
   intro aO Z;conv=>cbv
   refine AH ?_;rintro ab az ⟨aq,U⟩;conv=>cbv
   intro a8 X;conv=>cbv
   have B:a8=em u q:=by rw[X,show ab=A.length/2 by omega,U,Z,List.take_length,hA,CA g hp.mem D.mem h]
   obtain⟨an,m⟩:=xR (em w (q));refine .inr (.inr (.inl ⟨0,.arr 0 (.sl AA) RL,[.agg [.sl (.sl AA) T,.AN (.sl AA) 0 0 0 mm],.one (.sl AA a8)],.one (.sl AA an),fun _=>⟨rfl,⟨⟨rfl,⟨⟨rfl,rfl⟩,rfl⟩,trivial⟩,rfl,trivial⟩⟩,fun _=>F2 I (ih P hR.1 a1 B D m),?_⟩));try conv=>cbv
   refine⟨fun _=>⟨by omega,by have:=FY d;omega⟩,?_⟩;intro a5 av;conv=>cbv
   obtain⟨H,t⟩:=AK (l:=RL) (i:=a5) (by have:=FY d;omega);refine⟨H,fun _=>t,?_⟩;try conv=>cbv
   have F:H=rk:=by have:=t;rw[show a5=u.length by omega,d] at this;exact (Option.some.inj this).symm
   have f:H=em wk (rt u r):=F.trans f;obtain⟨aQ,o⟩:=xR (em w (rt u r));refine AB I (Rw (G.Ag hw) P f a2 ah o) ?_;conv=>cbv
   obtain⟨aR,s⟩:=xR (em w (q*rt u r));refine AB I (G3 (G.Ag hw) P m o (G.Bi (G.sub hu) hw c.tail D) b (by omega) s) ?_;conv=>cbv
   refine g2 rfl ?_;refine AB (r:= .one (.sl AA C)) I (Jc (G.Ag hw) P j s (G.Bi (G.sub hu) hw c.tail hp) ((G.Bi (G.sub hu) hw c.tail D).mul (G.Ag hw) b) (by omega) (by omega) (by rw[hC,h])) ?_;conv=>cbv
   refine fun _=>⟨⟨⟨t2,trivial⟩,rfl,by simp⟩,rfl⟩
  have ai:=AY M;refine .inr ?_;have ag:k'<u.length:=KR N (show 2^(k'+1)<A.length by omega);intro n28 aH;conv=>cbv
  refine AI ?_;refine⟨u.length-(k'+1),?_,?_⟩
  ·omega
  rw[v];exact⟨k'+1,hv,n28,rfl,rfl,⟨O,⟨by omega⟩,by omega⟩,rfl⟩
 have a6:=Aj J;exact absurd a6 (by omega)
theorem Wh (G:Gam TT R K S) (hw:TT w):∀{u:List (List Rat)},TT u->BO u w->PS 315 S w u:=by
 intro u
 induction u with
 | nil=>
  intro hu c T RL A C x i hR g b h;obtain⟨q,rfl⟩:=CN.1 b.mem;have d:=b.Bh (by have:=G.mul hw;omega);rw[CQ] at d;exact iR (u:=[]) (x:=0) G hw i g (d q List.mem_cons_self) h
 | cons r u m=>
  intro hu c T RL A C x i hR g b h;obtain⟨p,q,f,l,d⟩:=El.parts (G.Ag hu).red b
  by_cases j:q=0
  ·exact iT G hw i hu c (m (G.sub hu) c.tail) hR g b f l d j h
  exact iS G hw i hu c (m (G.sub hu) c.tail) hR g b f l d j h
theorem imD (G:Gam TT R K S) (hw:TT w):∀{u:List (List Rat)},TT u->BO u w->PT 315 S w u:=by
 intro u
 induction u with
 | nil=>
  intro hu d T RL A C x mm j hR b h c i;obtain⟨q,rfl⟩:=CN.1 c.mem;have f:=c.Bh (by have:=G.mul hw;omega);rw[CQ] at f;exact iU (u:=[]) (x:=0) b G hw j h (f q List.mem_cons_self) i
 | cons r u o=>
  intro hu d T RL A C x mm j hR b h c i;obtain⟨p,q,g,m,f⟩:=El.parts (G.Ag hu).red c
  by_cases l:q=0
  ·exact iW b G hw j hu d (o (G.sub hu) d.tail) hR h c g m f l i
  exact iV b G hw j hu d (o (G.sub hu) d.tail) hR h c g m f l i
end Go.Abs
namespace Go.Abs
open Go.RowKit
variable {K R S:Nat} {T T2:List LR} {TT:List (List Rat)->Prop}
theorem PO {A B:LR} {R' s:Nat} {u:List (List Rat)} {v:Re} (h:Ae R u) (h':Ae R' (Ar u v)) (j:(Ar u v).length<=8) (f:T=tw u) (l:A=em u v) (i:El u s v) (m:Fit u.length R s) (d:0<=v) (b:T2=tw (Ar u v)) (c:B=em (Ar u v) (Re.sqrt v)):
  CF 230 [.one (.sl (.sl AA) T),.one (.sl AA A)] (.AG [(false,[.sl (.sl AA) T2]),(false,[.sl AA B]),(false,[.int .i64 0])]):=by
 by_cases hs:Sq u v
 ·rw[Ec hs] at b c;have g:T2=T:=b.trans f.symm;subst g;exact eC h f l i m ((JU d).1 hs) (Re.Ev v) (Re.DS d) c
 rw[Dq hs] at h' j b c;rw[<-Ip i.mem] at c;exact eD h f l i m (by rw[List.length_cons] at j;omega) d hs rfl h' b c
theorem Kj (u:List (List Rat)) (i:Nat):pre u i<:+u:=List.drop_suffix _ _
theorem MG (u:List (List Rat)):pre u 0=[]:=by rw[pre,Nat.sub_zero,List.drop_length]
theorem Dv (p:Prop):∃b:Bool,(b=true↔p):=by
 by_cases h:p
 ·exact⟨true,by simp[h]⟩
 exact⟨false,by simp[h]⟩
theorem LX {X Y:List LR} {u w:List (List Rat)} {c:Bool} (hu:Ae R u) (hw:Ae R w) (b:X=tw u) (d:Y=tw w) (h:c=true↔w<:+u):CF 231 [.one (.sl (.sl AA) X),.one (.sl (.sl AA) Y)] (.one (.bool c)):=by
 cases c with
 | true=>exact fK hu hw b d (h.1 rfl)
 | false=>exact fJ hu hw b d (fun k=>by have:=h.2 k;cases this)
noncomputable def nm (n:List (List Rat)×Re):el At:=(tw n.1,em n.1 n.2)
noncomputable def Bf (ns:List (List (List Rat)×Re)):List (List Rat):=ns.foldl (fun t n=>DO t n.1) []
theorem iy (ns:List (List (List Rat)×Re)) (n:List (List Rat)×Re):Bf (ns++[n])=DO (Bf ns) n.1:=by
 rw[Bf,List.foldl_append];rfl
theorem W2 {ns:List (List (List Rat)×Re)} {i:Nat} {n:List (List Rat)×Re} (h:ns[i]? =some n):Bf (ns.take (i+1))=DO (Bf (ns.take i)) n.1:=by
 rw[Cg h,iy]
theorem Hj {X:List (el At)} {ns:List (List (List Rat)×Re)} {i:Nat} {x:el At} (c:X=ns.map nm) (b:X[i]? =some x):∃u y,x.1=tw u/\x.2=em u y/\ns[i]? =some (u,y):=by
 rw[c,List.getElem?_map] at b;cases h:ns[i]? with
 | none=>rw[h] at b;simp at b
 | some n=>
  rw[h] at b;have e:nm n=x:=Option.some.inj b;exact⟨n.1,n.2,by rw[<-e];rfl,by rw[<-e];rfl,rfl⟩
theorem Gam.Bf (G:Gam TT R K S):∀{ns:List (List (List Rat)×Re)},(∀n∈ns,TT n.1)->TT (Bf ns):=by
 have key:∀(ns:List (List (List Rat)×Re)) (t:List (List Rat)),TT t->(∀n∈ns,TT n.1)->TT (ns.foldl (fun t n=>DO t n.1) t):=by
  intro ns
  induction ns with
  | nil=>intro t ht _;exact ht
  | cons n ns b=>intro t ht h;exact b _ (G.join ht (h n List.mem_cons_self)) (fun m hm=>h m (List.mem_cons_of_mem _ hm))
 intro ns h;exact key ns [] G.nil h
theorem Lj (G:Gam TT R K S) {ns:List (List (List Rat)×Re)} (h:∀n∈ns,TT n.1):∀n∈ns,BO n.1 (Go.Abs.Bf ns):=by
 have key:∀(ns:List (List (List Rat)×Re)) (t:List (List Rat)),TT t->(∀n∈ns,TT n.1)->BO t (ns.foldl (fun t n=>DO t n.1) t)/\∀n∈ns,BO n.1 (ns.foldl (fun t n=>DO t n.1) t):=by
  intro ns
  induction ns with
  | nil=>intro t ht _;exact⟨BO.refl t,fun n b=>by simp at b⟩
  | cons n ns g=>
   intro t ht h;have b:=h n List.mem_cons_self;have d:=lP (G.Ag ht).red (G.Ag b).red;obtain⟨c,f⟩:=g _ (G.join ht b) (fun m hm=>h m (List.mem_cons_of_mem _ hm));refine⟨d.2.1.trans c,fun m hm=>?_⟩;rcases List.mem_cons.1 hm with rfl | hm
   ·exact d.2.2.trans c
   exact f m hm
 exact (key ns [] G.nil h).2
theorem WC {U RL:List LR} {t u:List (List Rat)} (G:Gam TT R K S) (ht:TT t) (hu:TT u) (hT:T=tw t) (hU:U=tw u) (a7:T2=tw (ext t u)) (a5:RL=EO t u):CF 314 [.one (.sl (.sl AA) T),.one (.sl (.sl AA) U)] (.AG [(true,[.sl (.sl AA) T2,.sl (.sl AA) RL]),(false,[.int .i64 0])]):=by
 have ai:U.length=u.length:=by rw[hU,Bb]
 have al:=G.ht hu;have a6:=G.RS;refine AJ Tryz.func314 fun E hE=>?_
 conv=>cbv
 intro n15 P;have ah:=P.eq;have f15:=P.le;conv=>cbv
 refine .inr ?_
 obtain⟨J0,N⟩:∃J:List AV->List AL->Nat->Prop,J=fun vs bl k=>(∃(L i:Int),vs=[.one (.Ab 4 0 0),.one (.Ab 6 0 0),.one (.sl (.sl AA) U),.one (.int .i64 L),.one (.int .i64 i)]/\bl=[.var 0 [.nil,.nil],.var 0 [.sl (.sl AA) T,.nil],.dead 0]/\(CT L U.length/\AO i 0)/\k=U.length)\/
  (∃(Ti o:List LR) (mm i':Nat) (L i:Int),vs=[.one (.Ab 4 0 0),.one (.Ab 6 0 0),.one (.sl (.sl AA) U),.one (.int .i64 L),.one (.int .i64 i)]/\bl=[.var 0 [.nil,.nil],.var 0 [.sl (.sl AA) Ti,.AN (.sl AA) 39 0 0 mm],.arr 0 (.sl AA) o]/\(CT L U.length/\AO i i'/\i'<=U.length/\mm=o.length)/\Ti=tw (ext t (pre u i'))/\o=EO t (pre u i')/\k=U.length-i'):=⟨_,rfl⟩
 refine⟨[],[4,6,14,15,16],[4,6,39],J0,⟨U.length,by rw[N];exact .inl ⟨n15,0,rfl,rfl,⟨P,Al 0⟩,rfl⟩⟩,?_⟩;intro vs bl an hj;rw[N] at hj;rcases hj with⟨L,i,rfl,rfl,⟨hL,hi⟩,ag⟩ |⟨Ti,o,mm,i',L,i,rfl,rfl,⟨hL,hi,aj,W⟩,y,hinv,ag⟩
 ·conv=>cbv
  have eL:=hL.eq;have ei:=hi.eq;obtain⟨i',V⟩:=xN 0;have y:T=tw (ext t (pre u i')):=by rw[V,MG];exact hT
  intro n17 B;conv=>cbv
  cases n17 <;> conv=>cbv
  ·have Z:=AW B;have ad:u=[]:=List.eq_nil_of_length_eq_zero (by omega);exact AD ⟨⟨rfl,congrArg _ (by rw[a7,hT,ad];rfl),.inr (.inl ⟨_,congrArg _ (by rw[a5,ad];rfl)⟩),trivial⟩,t2,trivial⟩
  have Z:=AY B;refine .inr ?_;obtain⟨z,m⟩:=AK (l:=U) (i:=i') (by omega);refine⟨z,fun _=>⟨by omega,by rw[show (i).toNat=i' by omega];exact m⟩,?_⟩;try conv=>cbv
  obtain⟨r,v,H⟩:=Ig (u:=u) (i:=i') (by omega);have d:TT (pre u i'):=G.Kt (Kj u i') hu;have b:TT (r::pre u i'):=v ▸ G.Kt (Kj u (i'+1)) hu;have F:=(G.Ag b).red;have Y:z=em (pre u i') (AM (pre u i') r):=by rw[<-hU,m] at H;exact (Option.some.inj H).trans (EG F)
  have c:TT (ext t (pre u i')):=G.ext ht d;have s:=(JR (G.Ag ht).red (G.Ag d).red).2;have D:El (pre u i') S (AM (pre u i') r):=(El.Cv (G.Ag b)).mono a6;have I:TT (Ar (ext t (pre u i')) (AM (pre u i') r)):=G.Ar c b s;have Q:ext t (pre u (i'+1))=Ar (ext t (pre u i')) (AM (pre u i') r):=by rw[v];rfl
  have X:EO t (pre u (i'+1))=EO t (pre u i')++[em (Ar (ext t (pre u i')) (AM (pre u i') r)) (Re.sqrt (AM (pre u i') r))]:=by rw[v];rfl
  obtain⟨a2,g⟩:=xR (em (ext t (pre u i')) (AM (pre u i') r));refine cL (r:= .one (.sl AA a2)) hE (Wh G c d s y (by rw[V,MG];trivial) Y D g) ⟨⟨rfl,.inr ⟨_,rfl⟩,trivial⟩,rfl,trivial⟩ ?_;try conv=>cbv
  obtain⟨M,h⟩:=xV (tw (Ar (ext t (pre u i')) (AM (pre u i') r)));obtain⟨f,j⟩:=xR (em (Ar (ext t (pre u i')) (AM (pre u i') r)) (Re.sqrt (AM (pre u i') r)));refine AB (r:= .AG [(false,[.sl (.sl AA) M]),(false,[.sl AA f]),(false,[.int .i64 0])]) hE (PO (G.Ag c) (G.Ag I) (G.ht I) y g (G.Bi d c s D) (G.fit c) (by have:=F.2.2.1;grind) h j) ?_;try conv=>cbv
  refine g2 rfl ?_;refine AU ?_;conv=>cbv
  refine⟨[f],fun _=>⟨rfl,by decide,rfl,⟨rfl,by first | exact t1 | exact t2 | exact t4 | simp[Ao,BA,cells],trivial⟩⟩,.inr ?_⟩;try conv=>cbv
  refine .inl ⟨[f],fun _=>⟨rfl,by show (1)*24<=140737488355328;(try simp only[List.length_take,List.length_drop]);omega⟩,?_⟩;intro n39 ae;conv=>cbv
  intro n42 af;conv=>cbv
  refine AI ?_;refine⟨U.length-(i'+1),?_,?_⟩
  ·omega
  rw[N];exact .inr ⟨M,[f],n39,i'+1,L,n42,rfl,rfl,⟨hL,⟨by omega⟩,by omega,ae⟩,by rw[h,Q],by rw[X,j,V,MG];rfl,rfl⟩
 conv=>cbv
 have eL:=hL.eq;have ei:=hi.eq;have ak:o.length<=U.length:=by rw[hinv,MV,GJ (by omega)];omega
 intro n17 B;conv=>cbv
 cases n17 <;> conv=>cbv
 ·have Z:=AW B;have ab:pre u i'=u:=by rw[show i'=u.length by omega];exact Og u
  exact AD ⟨⟨rfl,congrArg _ (by rw[a7,y,ab]),.inl ⟨_,rfl,by omega,congrArg _ (by rw[a5,W,List.drop_zero,List.take_length,hinv,ab])⟩,trivial⟩,t2,trivial⟩
 have Z:=AY B;refine .inr ?_;obtain⟨z,m⟩:=AK (l:=U) (i:=i') (by omega);refine⟨z,fun _=>⟨by omega,by rw[show (i).toNat=i' by omega];exact m⟩,?_⟩;try conv=>cbv
 obtain⟨r,v,H⟩:=Ig (u:=u) (i:=i') (by omega);have d:TT (pre u i'):=G.Kt (Kj u i') hu;have b:TT (r::pre u i'):=v ▸ G.Kt (Kj u (i'+1)) hu;have F:=(G.Ag b).red;have Y:z=em (pre u i') (AM (pre u i') r):=by rw[<-hU,m] at H;exact (Option.some.inj H).trans (EG F)
 have c:TT (ext t (pre u i')):=G.ext ht d;have s:=(JR (G.Ag ht).red (G.Ag d).red).2;have D:El (pre u i') S (AM (pre u i') r):=(El.Cv (G.Ag b)).mono a6;have I:TT (Ar (ext t (pre u i')) (AM (pre u i') r)):=G.Ar c b s;have Q:ext t (pre u (i'+1))=Ar (ext t (pre u i')) (AM (pre u i') r):=by rw[v];rfl
 have X:EO t (pre u (i'+1))=EO t (pre u i')++[em (Ar (ext t (pre u i')) (AM (pre u i') r)) (Re.sqrt (AM (pre u i') r))]:=by rw[v];rfl
 obtain⟨a2,g⟩:=xR (em (ext t (pre u i')) (AM (pre u i') r));refine .inr (.inr (.inl ⟨39,.arr 0 (.sl AA) o,[.agg [.sl (.sl AA) Ti,.AN (.sl AA) 0 0 0 mm],.one (.sl AA z)],.one (.sl AA a2),fun _=>⟨rfl,⟨⟨rfl,⟨⟨rfl,rfl⟩,rfl⟩,trivial⟩,rfl,trivial⟩⟩,fun _=>F2 hE (imD G c d s y (by rw[hinv];exact MW (G.Ag ht).red (G.Ag d).red) W Y D g),?_⟩));try conv=>cbv
 obtain⟨M,h⟩:=xV (tw (Ar (ext t (pre u i')) (AM (pre u i') r)));obtain⟨f,j⟩:=xR (em (Ar (ext t (pre u i')) (AM (pre u i') r)) (Re.sqrt (AM (pre u i') r)));refine AB (r:= .AG [(false,[.sl (.sl AA) M]),(false,[.sl AA f]),(false,[.int .i64 0])]) hE (PO (G.Ag c) (G.Ag I) (G.ht I) y g (G.Bi d c s D) (G.fit c) (by have:=F.2.2.1;grind) h j) ?_;try conv=>cbv
 refine g2 rfl ?_;refine AU ?_;conv=>cbv
 refine⟨[f],fun _=>⟨rfl,by decide,rfl,⟨rfl,by first | exact t1 | exact t2 | exact t4 | simp[Ao,BA,cells],trivial⟩⟩,.inr ?_⟩;try conv=>cbv
 refine .inl ⟨[f],fun _=>⟨rfl,W,rfl,by show (o.length+1)*24<=140737488355328;(try simp only[List.length_take,List.length_drop]);omega⟩,?_⟩;intro (a1:List (el (.sl AA))) n39 O;have a8:a1=(o:List (el (.sl AA)))++([f]:List (el (.sl AA))):=O.1;have aa:n39=List.length (α:=(el (.sl AA))) a1:=O.2;conv=>cbv
 intro n42 af;conv=>cbv
 refine AI ?_;refine⟨U.length-(i'+1),?_,?_⟩
 ·omega
 rw[N];exact .inr ⟨M,a1,n39,i'+1,L,n42,rfl,rfl,⟨hL,⟨by omega⟩,by omega,aa⟩,by rw[h,Q],by rw[a8,hinv,X,j],rfl⟩
end Go.Abs
namespace Go.Abs
open Go.RowKit
variable {K R S:Nat} {L:List (el At)} {T:List LR} {TT:List (List Rat)->Prop}
theorem gA (G:Gam TT R K S) {ns:List (List (List Rat)×Re)} (F:∀n∈ns,TT n.1) (X:L=ns.map nm) (hT:T=tw (Bf ns)):CF 313 [.one (.sl At L)] (.AG [(false,[.sl (.sl AA) T]),(false,[.int .i64 0])]):=by
 have a2:L.length=ns.length:=by rw[X,List.length_map]
 refine AJ Tryz.func313 fun E O=>?_
 conv=>cbv
 intro Q s;have a1:=s.eq;have f10:=s.le;conv=>cbv
 refine .inr ?_;obtain⟨Z,b⟩:=xJ fun vs W k=>∃(J:List LR) (i':Nat) (n i:Int),vs=[.one (.sl (.sl AA) J),.one (.sl At L),.one (.int .i64 n),.one (.int .i64 i)]/\W=[]/\(CT n L.length/\AO i i'/\i'<=L.length)/\J=tw (Bf (ns.take i'))/\k=L.length-i'
 refine⟨[(4,.sl AA,false)],[4,9,10,11],[],Z,⟨L.length,by rw[b];exact⟨[],0,Q,0,rfl,rfl,⟨s,Al 0,by omega⟩,rfl,rfl⟩⟩,?_⟩;intro vs W a8 Y;rw[b] at Y;obtain⟨J,i',n,i,rfl,rfl,⟨z,hi,a5⟩,c,a6⟩:=Y;conv=>cbv
 have en:=z.eq;have ei:=hi.eq;intro U B;conv=>cbv
 cases U <;> conv=>cbv
 ·have P:=AW B;exact AD ⟨⟨rfl,congrArg _ (by rw[hT,c,List.take_of_length_le (show ns.length<=i' by omega)]),trivial⟩,t2,trivial⟩
 have P:=AY B;refine .inr ?_;obtain⟨V,o⟩:=AK (l:=L) (i:=i') (by omega);refine⟨V,fun _=>⟨by omega,by rw[show (i).toNat=i' by omega];exact o⟩,?_⟩;try conv=>cbv
 obtain⟨u,y,h,a7,H⟩:=Hj X o;have hu:TT u:=F _ (List.mem_of_getElem? H);have g:=W2 H;unfold DO at g;have t:TT (Bf (ns.take i')):=G.Bf (fun n z=>F n (List.mem_of_mem_take z));refine .inr ?_;obtain⟨M,d⟩:=Dv (u<:+(Bf (ns.take i')));refine AB O (LX (G.Ag t) (G.Ag hu) c h d) ?_;conv=>cbv
 refine .inr ?_;cases M <;> conv=>cbv
 ·have j:=fun q=>Bool.false_ne_true (d.2 q)
  obtain⟨N,f⟩:=Dv ((Bf (ns.take i'))<:+u);refine AB O (LX (G.Ag hu) (G.Ag t) h c f) ?_;conv=>cbv
  refine .inr ?_;cases N <;> conv=>cbv
  ·have v:=fun q=>Bool.false_ne_true (f.2 q)
   obtain⟨aa,m⟩:=xV (tw (ext (Bf (ns.take i')) u));obtain⟨ab,I⟩:=xV (EO (Bf (ns.take i')) u);refine AB O (WC G t hu c h m I) ?_;conv=>cbv
   refine AU ?_;conv=>cbv
   intro n39 D;conv=>cbv
   refine AI ?_;refine⟨L.length-(i'+1),?_,?_⟩
   ·omega
   rw[b];exact⟨_,i'+1,n,n39,rfl,rfl,⟨z,⟨by omega⟩,by omega⟩,by rw[g,if_neg j,if_neg v,m],rfl⟩
  have v:=f.1 rfl;intro n39 D;conv=>cbv
  refine AI ?_;refine⟨L.length-(i'+1),?_,?_⟩
  ·omega
  rw[b];exact⟨_,i'+1,n,n39,rfl,rfl,⟨z,⟨by omega⟩,by omega⟩,by rw[g,if_neg j,if_pos v];exact h,rfl⟩
 have j:=d.1 rfl;intro n39 D;conv=>cbv
 refine AI ?_;refine⟨L.length-(i'+1),?_,?_⟩
 ·omega
 rw[b];exact⟨_,i'+1,n,n39,rfl,rfl,⟨z,⟨by omega⟩,by omega⟩,by rw[g,if_pos j,<-c],rfl⟩
theorem PV (G:Gam TT R K S) {ns:List (List (List Rat)×Re)} (v:∀n∈ns,TT n.1) (hL:L=ns.map nm) (a2:∀n∈ns,El n.1 S n.2) (hlen:ns.length<=1000000) {O:List (el At)} (hO:O=ns.map (fun n=>nm (Bf ns,n.2))):CF 233 [.one (.sl At L)] (.AG [(false,[.sl At O]),(false,[.int .i64 0])]):=by
 have aa:L.length=ns.length:=by rw[hL,List.length_map]
 have b:TT (Bf ns):=G.Bf v;obtain⟨T,s⟩:=xV (tw (Bf ns));refine AJ Tryz.func233 fun E M=>?_
 conv=>cbv
 refine AB M (gA G v hL s) ?_;conv=>cbv
 refine AU ?_;conv=>cbv
 intro n21 J;have a8:=J.eq;have f21:=J.le;conv=>cbv
 refine .inr ?_;obtain⟨J0,t⟩:=xJ fun vs bl k=>∃(o:List (el At)) (mm i':Nat) (n i:Int),vs=[.one (.sl (.sl AA) T),.one (.AN At 6 0 0 mm),.one (.sl At L),.one (.int .i64 n),.one (.int .i64 i)]/\bl=[.arr 0 At o]/\(CT n L.length/\AO i i'/\i'<=L.length/\mm=o.length)/\o=(ns.take i').map (fun n=>nm (Bf ns,n.2))/\k=L.length-i'
 refine⟨[(6,At,true)],[4,6,20,21,22],[6],J0,⟨L.length,by rw[t];exact⟨[],0,0,n21,0,rfl,rfl,⟨J,Al 0,Nat.zero_le _,rfl⟩,rfl,rfl⟩⟩,?_⟩;intro vs bl af hj;rw[t] at hj;obtain⟨o,mm,i',n,i,rfl,rfl,⟨hn,hi,ab,N⟩,hinv,ad⟩:=hj;conv=>cbv
 have en:=hn.eq;have ei:=hi.eq;have ae:o.length<=L.length:=by rw[hinv,List.length_map,List.length_take];omega
 intro n23 V;conv=>cbv
 cases n23 <;> conv=>cbv
 ·have a5:=AW V;exact AD ⟨⟨rfl,.inl ⟨_,rfl,by omega,congrArg _ (by rw[hO,N,hinv,List.drop_zero,List.take_length,List.take_of_length_le (show ns.length<=i' by omega)])⟩,trivial⟩,t2,trivial⟩
 have a5:=AY V;refine .inr ?_;obtain⟨a7,I⟩:=AK (l:=L) (i:=i') (by omega);refine⟨a7,fun _=>⟨by omega,by rw[show (i).toNat=i' by omega];exact I⟩,?_⟩;try conv=>cbv
 obtain⟨u,y,W,X,P⟩:=Hj hL I;have Q:=List.mem_of_getElem? P;have hu:TT u:=v _ Q;have B:El u S y:=a2 _ Q;have z:BO u (Bf ns):=Lj G v _ Q;obtain⟨D,f⟩:=xR (em (Bf ns) y);obtain⟨Z,g⟩:=Dv (u<:+Bf ns);refine AB M (LX (G.Ag b) (G.Ag hu) s W g) ?_;conv=>cbv
 refine .inr ?_;cases Z <;> conv=>cbv
 ·have Y:=fun q=>Bool.false_ne_true (g.2 q)
  obtain⟨a6,H⟩:=xV (EO (Bf ns) u);have F:=ext_eq (G.Ag b).red (G.Ag hu).red z;refine AB (r:= .AG [(true,[.sl (.sl AA) T,.sl (.sl AA) a6]),(false,[.int .i64 0])]) M (WC G b hu s W (by rw[F];exact s) H) ?_;try conv=>cbv
  refine AU ?_;conv=>cbv
  refine AB (r:= .one (.sl AA D)) M (Wh G b hu z s (by rw[H];have:=MW (G.Ag b).red (G.Ag hu).red;rwa [F] at this) X B f) ?_;try conv=>cbv
  refine AB (r:= .agg [.sl (.sl AA) T,.sl AA D]) M (Nk (G.Ag b) s f (G.Bi hu b z B) (by have:=G.mul b;omega)) ?_;try conv=>cbv
  refine⟨[(T,D)],fun _=>⟨rfl,by decide,rfl,⟨rfl,by first | exact t1 | exact t2 | exact t4 | simp[Ao,BA,cells],trivial⟩⟩,.inr ?_⟩;try conv=>cbv
  refine .inl ⟨[(T,D)],fun _=>⟨rfl,N,rfl,by show (o.length+1)*48<=140737488355328;(try simp only[List.length_take,List.length_drop]);omega⟩,?_⟩;intro (d:List (el At)) m c;have h:d=(o:List (el At))++([(T,D)]:List (el At)):=c.1;have j:m=List.length (α:=(el At)) d:=c.2;conv=>cbv
  intro U a1;conv=>cbv
  refine AI ?_;refine⟨L.length-(i'+1),?_,?_⟩
  ·omega
  rw[t];exact⟨d,m,i'+1,n,U,rfl,rfl,⟨hn,⟨by omega⟩,by omega,j⟩,by rw[h,hinv,Cg P,List.map_append];simp[nm,s,f],rfl⟩
 have Y:=g.1 rfl;refine AB M (Rw (G.Ag b) s X B.mem Y f) ?_;conv=>cbv
 refine AB (r:= .agg [.sl (.sl AA) T,.sl AA D]) M (Nk (G.Ag b) s f (G.Bi hu b z B) (by have:=G.mul b;omega)) ?_;try conv=>cbv
 refine⟨[(T,D)],fun _=>⟨rfl,by decide,rfl,⟨rfl,by first | exact t1 | exact t2 | exact t4 | simp[Ao,BA,cells],trivial⟩⟩,.inr ?_⟩;try conv=>cbv
 refine .inl ⟨[(T,D)],fun _=>⟨rfl,N,rfl,by show (o.length+1)*48<=140737488355328;(try simp only[List.length_take,List.length_drop]);omega⟩,?_⟩;intro (d:List (el At)) m c;have h:d=(o:List (el At))++([(T,D)]:List (el At)):=c.1;have j:m=List.length (α:=(el At)) d:=c.2;conv=>cbv
 intro U a1;conv=>cbv
 refine AI ?_;refine⟨L.length-(i'+1),?_,?_⟩
 ·omega
 rw[t];exact⟨d,m,i'+1,n,U,rfl,rfl,⟨hn,⟨by omega⟩,by omega,j⟩,by rw[h,hinv,Cg P,List.map_append];simp[nm,s,f],rfl⟩
noncomputable def A0 (u v:List (List Rat)):List (List Rat):=Bf [(u,0),(v,0)]
theorem QW (G:Gam TT R K S) {T1 T2:List LR} {A1 A2:LR} {u v:List (List Rat)} {x y:Re} (hu:TT u) (Y:TT v) (I:T1=tw u) (J:T2=tw v) (F:A1=em u x) (H:A2=em v y) (Z:El u S x) (hy:El v S y) {A B C:LR} {g:FuncId} (W:T=tw (A0 u v)) (Q:A=em (A0 u v) x) (U:B=em (A0 u v) y) (X:CF g [.one (.sl (.sl AA) T),.one (.sl AA A),.one (.sl AA B)] (.one (.sl AA C))):CF 226 [.agg (AR T1 A1),.agg (AR T2 A2),.one (.fn g)] (.AG [(true,(AR T C)),(false,[.int .i64 0])]):=by
 obtain⟨O,s⟩:∃z:List (el At),z=[(T,A),(T,B)]:=⟨_,rfl⟩
 have V:O.length=2:=by rw[s];rfl
 have M:O[0]? =some (T,A):=by rw[s];rfl
 have P:O[1]? =some (T,B):=by rw[s];rfl
 refine AJ Tryz.func226 fun E N=>?_
 conv=>cbv
 refine⟨[(T1,A1),(T2,A2)],fun _=>⟨rfl,by decide,rfl,⟨rfl,by first | exact t1 | exact t2 | exact t4 | simp[Ao,BA,cells],⟨rfl,by first | exact t1 | exact t2 | exact t4 | simp[Ao,BA,cells],trivial⟩⟩⟩,.inr ?_⟩;try conv=>cbv
 refine AB (r:= .AG [(false,[.sl At O]),(false,[.int .i64 0])]) N (PV (ns:=[(u,x),(v,y)]) G (by intro n h;simp at h;rcases h with rfl | rfl;exact hu;exact Y) (by rw[I,J,F,H];rfl) (by intro n h;simp at h;rcases h with rfl | rfl;exact Z;exact hy) (by show 2<=1000000;decide) (by rw[s,W,Q,U];rfl)) ?_;try conv=>cbv
 refine AU ?_;conv=>cbv
 obtain⟨j,b⟩:=AK (l:=O) (i:=0) (by omega);refine⟨j,fun _=>⟨by omega,b⟩,?_⟩;try conv=>cbv
 obtain⟨m,c⟩:=AK (l:=O) (i:=0) (by omega);refine⟨m,fun _=>⟨by omega,c⟩,?_⟩;try conv=>cbv
 obtain⟨o,d⟩:=AK (l:=O) (i:=1) (by omega);refine⟨o,fun _=>⟨by omega,d⟩,?_⟩;try conv=>cbv
 have f:=Option.some.inj (b.symm.trans M);have t:=Option.some.inj (c.symm.trans M);have D:=Option.some.inj (d.symm.trans P);refine .inl ⟨[.one (.sl (.sl AA) j.1),.one (.sl AA m.2),.one (.sl AA o.2)],.one (.sl AA C),fun _=>t3,fun _=>E6 N (by rw[f,t,D];exact X),?_⟩;try conv=>cbv
 refine g2 rfl ?_;exact AD ⟨⟨rfl,congrArg _ (by rw[f]),rfl,trivial⟩,t2,trivial⟩
end Go.Abs
namespace Go.Abs
open Go.RowKit
section
variable {TT:List (List Rat)->Prop} {R K S:Nat}
theorem Gam.A0 (G:Gam TT R K S) {u v:List (List Rat)} (hu:TT u) (d:TT v):TT (Go.Abs.A0 u v)/\BO u (Go.Abs.A0 u v)/\BO v (Go.Abs.A0 u v):=by
 have b:∀n∈[(u,(0:Re)),(v,0)],TT n.1:=by intro n c;simp at c;rcases c with rfl | rfl;exact hu;exact d
 have he:=Lj G b;exact⟨G.Bf b,he (u,0) (by simp),he (v,0) (by simp)⟩
end
theorem DE (b:List LR):∃z:List LR,z=b:=⟨_,rfl⟩
theorem Bo (b:LR):∃z:LR,z=b:=⟨_,rfl⟩
theorem Mz {TT:List (List Rat)->Prop} {R K S:Nat} (G:Gam TT R K S) {T1 T2:List LR} {A1 A2:LR} {u v:List (List Rat)} {x y:Re} (hu:TT u) (j:TT v) (f:T1=tw u) (g:T2=tw v) (c:A1=em u x) (d:A2=em v y) (z:El u S x) (D:El v S y) {T:List LR} {C:LR} (t:T=tw (A0 u v)) (F:C=em (A0 u v) (x+y)):CF 113 [.agg (AR T1 A1),.agg (AR T2 A2)] (.AG [(true,(AR T C)),(false,[.int .i64 0])]):=by
 obtain⟨b,h,i⟩:=G.A0 hu j;have l:=G.Bi hu b h z;have m:=G.Bi j b i D;have hmul:=G.mul b;obtain⟨A,o⟩:=Bo (em (A0 u v) x);obtain⟨B,s⟩:=Bo (em (A0 u v) y);refine AJ Tryz.func113 fun E H=>?_
 conv=>cbv
 refine AB H (QW G hu j f g c d z D t o s (Jc (G.Ag b) t o s l m (by omega) (by omega) F)) ?_;conv=>cbv
 exact AD ⟨t3,t2,trivial⟩
theorem TN {TT:List (List Rat)->Prop} {R K S:Nat} (G:Gam TT R K S) {T1 T2:List LR} {A1 A2:LR} {u v:List (List Rat)} {x y:Re} (hu:TT u) (j:TT v) (f:T1=tw u) (g:T2=tw v) (c:A1=em u x) (d:A2=em v y) (z:El u S x) (D:El v S y) {T:List LR} {C:LR} (t:T=tw (A0 u v)) (F:C=em (A0 u v) (x-y)):CF 196 [.agg (AR T1 A1),.agg (AR T2 A2)] (.AG [(true,(AR T C)),(false,[.int .i64 0])]):=by
 obtain⟨b,h,i⟩:=G.A0 hu j;have l:=G.Bi hu b h z;have m:=G.Bi j b i D;have hmul:=G.mul b;obtain⟨A,o⟩:=Bo (em (A0 u v) x);obtain⟨B,s⟩:=Bo (em (A0 u v) y);refine AJ Tryz.func196 fun E H=>?_
 conv=>cbv
 refine AB H (QW G hu j f g c d z D t o s (M5 (G.Ag b) t o s l m (by omega) (by omega) F)) ?_;conv=>cbv
 exact AD ⟨t3,t2,trivial⟩
theorem PX {TT:List (List Rat)->Prop} {R K S:Nat} (G:Gam TT R K S) {T1 T2:List LR} {A1 A2:LR} {u v:List (List Rat)} {x y:Re} (hu:TT u) (j:TT v) (f:T1=tw u) (g:T2=tw v) (c:A1=em u x) (d:A2=em v y) (z:El u S x) (D:El v S y) {T:List LR} {C:LR} (t:T=tw (A0 u v)) (F:C=em (A0 u v) (x*y)):CF 111 [.agg (AR T1 A1),.agg (AR T2 A2)] (.AG [(true,(AR T C)),(false,[.int .i64 0])]):=by
 obtain⟨b,h,i⟩:=G.A0 hu j;have l:=G.Bi hu b h z;have m:=G.Bi j b i D;have hmul:=G.mul b;obtain⟨A,o⟩:=Bo (em (A0 u v) x);obtain⟨B,s⟩:=Bo (em (A0 u v) y);refine AJ Tryz.func111 fun E H=>?_
 conv=>cbv
 refine AB H (QW G hu j f g c d z D t o s (G3 (G.Ag b) t o s l m (by omega) F)) ?_;conv=>cbv
 exact AD ⟨t3,t2,trivial⟩
theorem bU {TT:List (List Rat)->Prop} {R K S:Nat} (G:Gam TT R K S) {T1:List LR} {A1:LR} {u:List (List Rat)} {x:Re} (hu:TT u) (c:T1=tw u) (b:A1=em u x) (f:El u S x) {C:LR} (g:C=em u (-x)):CF 267 [.agg (AR T1 A1)] (.agg (AR T1 C)):=by
 have hmul:=G.mul hu;refine AJ Tryz.func267 fun E d=>?_
 conv=>cbv
 refine AB d (Nk (G.Ag hu) c b f) ?_;conv=>cbv
 refine AB d (TP (G.Ag hu) c b f (by omega) g) ?_;conv=>cbv
 exact AD ⟨t3,trivial⟩
theorem TM {TT:List (List Rat)->Prop} {R K S:Nat} (G:Gam TT R K S) {T1:List LR} {A1:LR} {u:List (List Rat)} {x:Re} (hu:TT u) (d:T1=tw u) (b:A1=em u x) (h:El u S x) {c:Int} (g:c=An x):CF 90 [.agg (AR T1 A1)] (.one (.int .i64 c)):=by
 refine AJ Tryz.func90 fun E f=>?_
 conv=>cbv
 refine AB f (Jj (G.Ag hu) d b h ((G.fit hu).mono (Nat.le_add_right _ _)).v0 (G.fit hu).vR g) ?_;conv=>cbv
 exact AD ⟨t2,trivial⟩
theorem PY {TT:List (List Rat)->Prop} {R K S:Nat} (G:Gam TT R K S) {T1:List LR} {A1:LR} {u:List (List Rat)} {x:Re} (hu:TT u) (c:T1=tw u) (b:A1=em u x) (j:El u S x) (hw:TT (Ar u x)) (i:0<=x) {T:List LR} {C:LR} (h:T=tw (Ar u x)) (f:C=em (Ar u x) (Re.sqrt x)) {s:Nat} (hs:El (Ar u x) s (Re.sqrt x)) (d:s<=60000000000000):CF 114 [.agg (AR T1 A1)] (.AG [(true,(AR T C)),(false,[.int .i64 0])]):=by
 refine AJ Tryz.func114 fun E g=>?_
 conv=>cbv
 refine AB g (PO (G.Ag hu) (G.Ag hw) (G.ht hw) c b j ((G.fit hu).mono (Nat.le_add_right _ _)) i h f) ?_;conv=>cbv
 refine AU ?_;conv=>cbv
 refine AB g (Nk (G.Ag hw) h f hs d) ?_;conv=>cbv
 exact AD ⟨t3,t2,trivial⟩
theorem TH {TT:List (List Rat)->Prop} {R K S:Nat} (G:Gam TT R K S) {T1 T2:List LR} {A1 A2:LR} {u v:List (List Rat)} {x y:Re} (hu:TT u) (o:TT v) (h:T1=tw u) (c:T2=tw v) (d:A1=em u x) (f:A2=em v y) (z:El u S x) (B:El v S y) {i:Re} (hi:In v i) (l:y*i=1) (j:El v S i) (g:II v.length R S<=60000000000000) {T:List LR} {C:LR} (t:T=tw (A0 u v)) (s:C=em (A0 u v) (x*i)):CF 108 [.agg (AR T1 A1),.agg (AR T2 A2)] (.AG [(true,(AR T C)),(false,[.int .i64 0])]):=by
 refine AJ Tryz.func108 fun E m=>?_
 conv=>cbv
 obtain⟨D,b⟩:=Bo (em v i);refine AB m (Mx (G.Ag o) c f B hi l g b) ?_;conv=>cbv
 refine AU ?_;conv=>cbv
 refine AB m (PX G hu o h c d b z j t s) ?_;conv=>cbv
 exact AD ⟨t3,t2,trivial⟩
theorem PW {TT:List (List Rat)->Prop} {R K S:Nat} (G:Gam TT R K S) {T1 T2:List LR} {A1 A2:LR} {u v:List (List Rat)} {x y:Re} (hu:TT u) (o:TT v) (i:T1=tw u) (j:T2=tw v) (g:A1=em u x) (h:A2=em v y) (B:El u S x) (D:El v S y) {K2 S2:Nat} (F:Gam TT R K2 S2) (I:2*(S+K)+1<=S2) {c:Int} (H:c=An (x-y)):CF 115 [.agg (AR T1 A1),.agg (AR T2 A2)] (.AG [(false,[.int .i64 c]),(false,[.int .i64 0])]):=by
 obtain⟨b,l,m⟩:=G.A0 hu o;have s:=G.Bi hu b l B;have t:=G.Bi o b m D;have hmul:=G.mul b;refine AJ Tryz.func115 fun E z=>?_
 conv=>cbv
 obtain⟨M,f⟩:=DE (tw (A0 u v));obtain⟨J,d⟩:=Bo (em (A0 u v) (x-y));refine AB z (TN G hu o i j g h B D f d) ?_;conv=>cbv
 refine AU ?_;conv=>cbv
 refine AB z (TM F b f d ((s.sub (G.Ag b).red t).mono (by omega)) H) ?_;conv=>cbv
 exact AD ⟨t2,t2,trivial⟩
theorem Qb {u:List (List Rat)} {x y:Re} (b:In u x) (c:In u y):em u x=em u y↔x=y:=
 ⟨fun h=>by rw[<-Dr b,<-Dr c,SL h],fun h=>by rw[h]⟩
theorem ni {u v:List (List Rat)} (h:u<:+v) (k:v<:+u):u=v:=h.eq_of_length_le k.length_le
theorem TJ {TT:List (List Rat)->Prop} {R K S:Nat} (G:Gam TT R K S) {T1 T2:List LR} {A1 A2:LR} {u v:List (List Rat)} {x y:Re} (hu:TT u) (V:TT v) (H:T1=tw u) (I:T2=tw v) (D:A1=em u x) (F:A2=em v y) (Y:El u S x) (Z:El v S y) {c:Bool} (hc:c=true↔x=y):CF 117 [.agg (AR T1 A1),.agg (AR T2 A2)] (.one (.bool c)):=by
 obtain⟨P,a7,a8⟩:=G.A0 hu V;have J:=G.Bi hu P a7 Y;have M:=G.Bi V P a8 Z;have hmul:=G.mul P;obtain⟨A,Q⟩:=Bo (em (A0 u v) x);obtain⟨B,U⟩:=Bo (em (A0 u v) y);obtain⟨T,hT⟩:=DE (tw (A0 u v));obtain⟨O,W⟩:∃z:List (el At),z=[(T,A),(T,B)]:=⟨_,rfl⟩
 have aa:O.length=2:=by rw[W];rfl
 have h0:O[0]? =some (T,A):=by rw[W];rfl
 have h1:O[1]? =some (T,B):=by rw[W];rfl
 refine AJ Tryz.func117 fun E N=>?_
 conv=>cbv
 obtain⟨a5,h⟩:=Dv (v<:+u);refine AB N (LX (G.Ag hu) (G.Ag V) H I h) ?_;conv=>cbv
 cases a5 <;> conv=>cbv
 ·have a1:=fun q=>Bool.false_ne_true (h.2 q)
  refine⟨[(T1,A1),(T2,A2)],fun _=>⟨rfl,by decide,rfl,⟨rfl,by first | exact t1 | exact t2 | exact t4 | simp[Ao,BA,cells],⟨rfl,by first | exact t1 | exact t2 | exact t4 | simp[Ao,BA,cells],trivial⟩⟩⟩,.inr ?_⟩;try conv=>cbv
  refine AB (r:= .AG [(false,[.sl At O]),(false,[.int .i64 0])]) N (PV (ns:=[(u,x),(v,y)]) G (by intro n o;simp at o;rcases o with rfl | rfl;exact hu;exact V) (by rw[H,I,D,F];rfl) (by intro n o;simp at o;rcases o with rfl | rfl;exact Y;exact Z) (by show 2<=1000000;decide) (by rw[W,hT,Q,U];rfl)) ?_;try conv=>cbv
  refine Bc ?_;conv=>cbv
  obtain⟨s,b⟩:=AK (l:=O) (i:=0) (by omega);refine⟨s,fun _=>⟨by omega,b⟩,?_⟩;try conv=>cbv
  obtain⟨t,d⟩:=AK (l:=O) (i:=1) (by omega);refine⟨t,fun _=>⟨by omega,d⟩,?_⟩;try conv=>cbv
  have f:=Option.some.inj (b.symm.trans h0);have g:=Option.some.inj (d.symm.trans h1);have m:c=decide (s.2=t.2):=by rw[Bool.eq_iff_iff,decide_eq_true_eq,hc,f,g,Q,U];exact (Qb J.mem M.mem).symm
  refine AB (r:= .one (.bool c)) N (Ou (by rw[f];exact Q) (by rw[g];exact U) (J.Bh (by omega)) (M.Bh (by omega)) m) ?_;try conv=>cbv
  refine g2 rfl ?_;exact AD ⟨t2,trivial⟩
 have a1:=h.1 rfl;obtain⟨a6,j⟩:=Dv (u<:+v);refine AB N (LX (G.Ag V) (G.Ag hu) I H j) ?_;conv=>cbv
 cases a6 <;> conv=>cbv
 ·have a2:=fun q=>Bool.false_ne_true (j.2 q)
  refine⟨[(T1,A1),(T2,A2)],fun _=>⟨rfl,by decide,rfl,⟨rfl,by first | exact t1 | exact t2 | exact t4 | simp[Ao,BA,cells],⟨rfl,by first | exact t1 | exact t2 | exact t4 | simp[Ao,BA,cells],trivial⟩⟩⟩,.inr ?_⟩;try conv=>cbv
  refine AB (r:= .AG [(false,[.sl At O]),(false,[.int .i64 0])]) N (PV (ns:=[(u,x),(v,y)]) G (by intro n o;simp at o;rcases o with rfl | rfl;exact hu;exact V) (by rw[H,I,D,F];rfl) (by intro n o;simp at o;rcases o with rfl | rfl;exact Y;exact Z) (by show 2<=1000000;decide) (by rw[W,hT,Q,U];rfl)) ?_;try conv=>cbv
  refine Bc ?_;conv=>cbv
  obtain⟨s,b⟩:=AK (l:=O) (i:=0) (by omega);refine⟨s,fun _=>⟨by omega,b⟩,?_⟩;try conv=>cbv
  obtain⟨t,d⟩:=AK (l:=O) (i:=1) (by omega);refine⟨t,fun _=>⟨by omega,d⟩,?_⟩;try conv=>cbv
  have f:=Option.some.inj (b.symm.trans h0);have g:=Option.some.inj (d.symm.trans h1);have m:c=decide (s.2=t.2):=by rw[Bool.eq_iff_iff,decide_eq_true_eq,hc,f,g,Q,U];exact (Qb J.mem M.mem).symm
  refine AB (r:= .one (.bool c)) N (Ou (by rw[f];exact Q) (by rw[g];exact U) (J.Bh (by omega)) (M.Bh (by omega)) m) ?_;try conv=>cbv
  refine g2 rfl ?_;exact AD ⟨t2,trivial⟩
 have a2:=j.1 rfl;have X:=ni a2 a1;have m:c=decide (A1=A2):=by rw[Bool.eq_iff_iff,decide_eq_true_eq,hc,D,F,<-X];exact (Qb Y.mem (X ▸ Z.mem)).symm
 refine AB N (Ou D F (Y.Bh (by omega)) (Z.Bh (by omega)) m) ?_;conv=>cbv
 exact AD ⟨t2,trivial⟩
theorem K6 {q:Rat} {b1 b2:Bool} {l1 l2:List UInt32} {C:LR} (b:BH q b1 l1 b2 l2) (hs:Bu q) (c:C=em [] (Re.ofRat q)):CF 116 [.agg (BS b1 l1 b2 l2)] (.agg (AR [] C)):=by
 refine AJ Tryz.func116 fun E d=>?_
 conv=>cbv
 refine AB d (QY b hs) ?_;conv=>cbv
 refine⟨[((b1,l1),(b2,l2))],fun _=>⟨rfl,by decide,rfl,⟨rfl,by first | exact t1 | exact t2 | exact t4 | simp[Ao,BA,cells],trivial⟩⟩,.inr ?_⟩;try conv=>cbv
 exact AD ⟨⟨rfl,Bj,congrArg _ (by rw[c,Dx,<-b.rp]),trivial⟩,trivial⟩
theorem Jg {x:Int} {C:LR} (f: -9223372036854775808<=x/\x<9223372036854775808) (hs:Bu x) (d:C=em [] (Re.ofRat x)):CF 112 [.one (.int .i64 x)] (.agg (AR [] C)):=by
 refine AJ Tryz.func112 fun E c=>?_
 conv=>cbv
 obtain⟨i,j,g,h,b⟩:=Be (x:Rat);refine AB c (G4 f rfl b) ?_;conv=>cbv
 refine AB c (K6 b hs d) ?_;conv=>cbv
 exact AD ⟨t3,trivial⟩
end Go.Abs
