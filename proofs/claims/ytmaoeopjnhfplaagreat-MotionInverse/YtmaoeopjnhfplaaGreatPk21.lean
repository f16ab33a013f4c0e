/- Part 22 of a proof. Conditions: each theorem's own. -/
import Derived.Test.YtmaoeopjnhfplaaGreatPk20
set_option linter.all false
set_option maxHeartbeats 8000000
set_option maxRecDepth 20000
open Go.Proofs
namespace Go.Abs
open Go.RowKit
def HH (w:List (List Rat)) (RL:List LR):List (List Rat)->Prop
 | []=>True
 | r::u=>HH w RL u/\∃wk,wk<:+w/\In wk (rt u r)/\RL[u.length]? =some (em wk (rt u r))
variable {A C:LR} {K R S a k mm n:Nat} {RL T:List LR} {TT:List (List Rat)->Prop} {p q x:Re} {r:List Rat} {u w:List (List Rat)}
theorem HH.mono {w':List (List Rat)} {X:List LR} (h:w<:+w'):∀{u:List (List Rat)},HH w RL u->HH w' (RL++X) u
 | [],_=>trivial
 | r::u,⟨c,f,d,h3,b⟩=>⟨c.mono h,f,d.trans h,h3,by rw[List.getElem?_append_left (Hv b)];exact b⟩
noncomputable def EO (t:List (List Rat)):List (List Rat)->List LR
 | []=>[]
 | r::u=>EO t u++[em (ext t (r::u)) (rt u r)]
theorem PG (t:List (List Rat)):∀u,(EO t u).length=u.length
 | []=>rfl
 | r::u=>by rw[EO,List.length_append,PG t u];rfl
theorem H6 {t:List (List Rat)} (ht:BF t):∀{u:List (List Rat)},BF u->HH (ext t u) (EO t u) u
 | [],_=>trivial
 | r::u,hu=>by
  refine⟨(H6 ht hu.1).mono (QC _ _),ext t (r::u),List.suffix_refl _,(Jf ht hu).2.root,?_⟩;rw[EO,List.getElem?_append_right (by rw[PG];omega),PG,Nat.sub_self];rfl
theorem Ip {t:List (List Rat)} (ht:BF t):∀{u:List (List Rat)},BF u->Bl u t->ext t u=t
 | [],_,_=>rfl
 | r::u,hu,h=>by
  rw[ext,Ip ht hu.1 h.tail];exact ED ⟨rt u r,h.root,DO hu⟩
def SZ (f:FuncId) (S:Nat) (w u:List (List Rat)):Prop:=∀{T RL:List LR} {A C:LR} {x:Re},T=tw w->HH w RL u->A=em u x->El u S x->C=em w x->
 CF f [.agg [.sl (.sl AA) T,.sl (.sl AA) RL],.one (.sl AA A)] (.one (.sl AA C))
def Sa (f:FuncId) (S:Nat) (w u:List (List Rat)):Prop:=∀{T RL:List LR} {A C:LR} {x:Re} {mm:Nat},T=tw w->HH w RL u->mm=RL.length->A=em u x->El u S x->C=em w x->
 Bk Tryz.prog f [.agg [.sl (.sl AA) T,.BI (.sl AA) 0 0 0 mm],.one (.sl AA A)] (.arr 0 (.sl AA) RL) (.one (.sl AA C))
theorem bx {b:Nat}:2^a<2^b↔a<b:=Nat.pow_lt_pow_iff_right (by decide)
theorem Mm (ha:a=2^n+2^n) (h:2^(k+1)<a):k<n:=by
 have b:a=2^(n+1):=by rw[ha,Nat.pow_succ];omega
 rw[b,bx] at h;omega
theorem Mk (ha:a=2^n+2^n) (h:¬2^(k+1)<a):n<=k:=by
 have b:a=2^(n+1):=by rw[ha,Nat.pow_succ];omega
 rw[b,bx] at h;omega
theorem mW {u:List (List Rat)} {x:Re} (G:Gam TT R K S) (hw:TT w) (t:T=tw w) {q:Rat} (m:A=em [] (Re.ofRat q)) (v:Cp q) (p:C=em w (Re.ofRat q)):CF 238 [.agg [.sl (.sl AA) T,.sl (.sl AA) RL],.one (.sl AA A)] (.one (.sl AA C)):=by
 have d:A=[rp q]:=m.trans (Fc q);have o:A.length=1:=by rw[d];rfl
 refine Av Tryz.func238 fun E s=>?_
 conv=>cbv
 rintro y ⟨j,f10⟩;conv=>cbv
 intro g c;conv=>cbv
 cases g <;> conv=>cbv
 ·have f:=BR c;exact absurd f (by omega)
 have f:=BS c;obtain⟨h,b⟩:=Ao (l:=A) (i:=0) (by omega);refine⟨h,fun _=>⟨by omega,b⟩,?_⟩;try conv=>cbv
 refine AB s (LV (G.BJ hw) t (Gb d b) v p) ?_;conv=>cbv
 refine g2 rfl ?_;exact AF ⟨t2,trivial⟩
theorem mY (G:Gam TT R K S) (hw:TT w) (hT:T=tw w) (hu:TT (r::u)) (I:Bl (r::u) w) (ih:SZ 238 S w u) (hR:HH w RL (r::u)) (H:A=em (r::u) x) (hx:El (r::u) S x) (h:x=p+q*rt u r) (O:El u S p) (P:El u S q) (h0:q=0) (hC:C=em w x):CF 238 [.agg [.sl (.sl AA) T,.sl (.sl AA) RL],.one (.sl AA A)] (.one (.sl AA C)):=by
 have g:=(G.BJ hu).red;have l:A.length=2^u.length+2^u.length:=by rw[H,B5 hx.mem,CW]
 have ar:=ER u.length;have an:(r::u).length<=8:=G.ht hu;have a7:(r::u).length=u.length+1:=rfl;have hmul:=G.mul hw;have U:El w K (rt u r):=by have:=G.CV hu hw I (Im g);rwa [Nat.zero_add] at this
 obtain⟨wk,au,aa,M⟩:=hR.2;obtain⟨rk,Q⟩:=xR (em wk (rt u r));rw[<-Q] at M;refine Av Tryz.func238 fun E hE=>?_
 conv=>cbv
 rintro ax ⟨ae,f10⟩;conv=>cbv
 intro Y i;conv=>cbv
 cases Y <;> conv=>cbv
 ·have y:=BR i;rintro ay ⟨af,f19⟩;conv=>cbv
  intro Z aj;conv=>cbv
  refine g2 ⟨by omega,by omega,i64 (by omega)⟩ ?_;refine .inr ?_;obtain⟨J0,c⟩:=xJ fun vs bl k=>∃(k':Nat) (z kk:Int),vs=[.one (.sl AA A),.one (.BC 2 0 0),.one (.int .i64 z),.one (.int .i64 kk)]/\bl=[.var 0 [.sl (.sl AA) T,.sl (.sl AA) RL]]/\(BG z (A.length/2)/\BG kk k'/\k'<=u.length)/\k=u.length-k'
  refine⟨[1,2,5,6],[2],J0,⟨u.length-0,by rw[c];exact⟨0,Z,0,rfl,rfl,⟨⟨by omega⟩,Bv 0,by omega⟩,rfl⟩⟩,?_⟩;intro vs bl av hj;rw[c] at hj;obtain⟨k',z,kk,rfl,rfl,⟨m,J,aq⟩,ao⟩:=hj;conv=>cbv
  have ah:=m.eq;have ai:=J.eq;intro az ak;conv=>cbv
  refine Ah ?_;intro aA F;conv=>cbv
  refine AY ?_;rintro aB ⟨ag,f25⟩;conv=>cbv
  have ab:=(Ge (k:=k'+1) F (by omega)).eq;intro a1 j;conv=>cbv
  cases a1 <;> conv=>cbv
  ·have V:=BX j;have N:k'=u.length:=by have:=Mk l (show ¬2^(k'+1)<A.length by omega);omega
   intro m32 a8;conv=>cbv
   refine AY ?_;intro D a6;conv=>cbv
   intro W s;conv=>cbv
   have d:W=em u p:=by rw[s,List.drop_zero,show D=A.length/2 by omega,H,Dk g O.mem P.mem h]
   obtain⟨aC,b⟩:=xR (em w (p));refine AB hE (ih hT hR.1 d O b) ?_;conv=>cbv
   refine g2 rfl ?_;intro aw v;conv=>cbv
   refine AY ?_;rintro B ad ⟨a5,o⟩;conv=>cbv
   intro X t;conv=>cbv
   have f:X=em u q:=by rw[t,show B=A.length/2 by omega,o,v,List.take_length,H,Cz g O.mem P.mem h]
   refine AB hE (Le (G.BJ (G.sub hu)).red P.mem f h0) ?_;conv=>cbv
   exact AF ⟨⟨rfl,congrArg _ (by rw[hC,b];congr 1;rw[h,h0];clear ih;grind),trivial⟩,trivial⟩
  have V:=BY j;refine .inr ?_;have N:k'<u.length:=Mm l (show 2^(k'+1)<A.length by omega);intro a2 al;conv=>cbv
  refine Ah ?_;refine⟨u.length-(k'+1),?_,?_⟩
  ·omega
  rw[c];exact⟨k'+1,z,a2,rfl,rfl,⟨m,⟨by omega⟩,by omega⟩,rfl⟩
 have y:=BS i;exact absurd y (by omega)
theorem mX (G:Gam TT R K S) (hw:TT w) (H:T=tw w) (hu:TT (r::u)) (c:Bl (r::u) w) (ih:SZ 238 S w u) (hR:HH w RL (r::u)) (Y:A=em (r::u) x) (hx:El (r::u) S x) (f:x=p+q*rt u r) (U:El u S p) (t:El u S q) (h0:q≠0) (hC:C=em w x):CF 238 [.agg [.sl (.sl AA) T,.sl (.sl AA) RL],.one (.sl AA A)] (.one (.sl AA C)):=by
 have d:=(G.BJ hu).red;have B:A.length=2^u.length+2^u.length:=by rw[Y,B5 hx.mem,CW]
 have aH:=ER u.length;have aE:(r::u).length<=8:=G.ht hu;have ao:(r::u).length=u.length+1:=rfl;have hmul:=G.mul hw;have b:El w K (rt u r):=by have:=G.CV hu hw c (Im d);rwa [Nat.zero_add] at this
 obtain⟨wk,aa,V,F⟩:=hR.2;obtain⟨rk,W⟩:=xR (em wk (rt u r));rw[<-W] at F;refine Av Tryz.func238 fun E v=>?_
 conv=>cbv
 rintro aL ⟨aw,f10⟩;conv=>cbv
 intro ag y;conv=>cbv
 cases ag <;> conv=>cbv
 ·have X:=BR y;rintro aM ⟨ax,f19⟩;conv=>cbv
  intro ah aB;conv=>cbv
  refine g2 ⟨by omega,by omega,i64 (by omega)⟩ ?_;refine .inr ?_;obtain⟨J0,l⟩:=xJ fun vs bl k=>∃(k':Nat) (Z kk:Int),vs=[.one (.sl AA A),.one (.BC 2 0 0),.one (.int .i64 Z),.one (.int .i64 kk)]/\bl=[.var 0 [.sl (.sl AA) T,.sl (.sl AA) RL]]/\(BG Z (A.length/2)/\BG kk k'/\k'<=u.length)/\k=u.length-k'
  refine⟨[1,2,5,6],[2],J0,⟨u.length-0,by rw[l];exact⟨0,ah,0,rfl,rfl,⟨⟨by omega⟩,Bv 0,by omega⟩,rfl⟩⟩,?_⟩;intro vs bl aI hj;rw[l] at hj;obtain⟨k',Z,kk,rfl,rfl,⟨D,a7,aG⟩,aF⟩:=hj;conv=>cbv
  have az:=D.eq;have aA:=a7.eq;intro aN aC;conv=>cbv
  refine Ah ?_;intro aO a6;conv=>cbv
  refine AY ?_;rintro aP ⟨ay,f25⟩;conv=>cbv
  have ar:=(Ge (k:=k'+1) a6 (by omega)).eq;intro ai z;conv=>cbv
  cases ai <;> conv=>cbv
  ·have ab:=BX z;have a8:k'=u.length:=by have:=Mk B (show ¬2^(k'+1)<A.length by omega);omega
   intro m32 aq;conv=>cbv
   refine AY ?_;intro a5 an;conv=>cbv
   intro ad M;conv=>cbv
   have m:ad=em u p:=by rw[M,List.drop_zero,show a5=A.length/2 by omega,Y,Dk d U.mem t.mem f]
   obtain⟨aQ,g⟩:=xR (em w (p));refine AB v (ih H hR.1 m U g) ?_;conv=>cbv
   refine g2 rfl ?_;intro aJ P;conv=>cbv
   refine AY ?_;rintro a1 au ⟨ak,I⟩;conv=>cbv
   intro ae N;conv=>cbv
   have o:ae=em u q:=by rw[N,show a1=A.length/2 by omega,I,P,List.take_length,Y,Cz d U.mem t.mem f]
   refine AB v (Jz (G.BJ (G.sub hu)).red t.mem o h0) ?_;conv=>cbv
   intro aK Q;conv=>cbv
   refine AY ?_;rintro a2 av ⟨al,J⟩;conv=>cbv
   intro af O;conv=>cbv
   have s:af=em u q:=by rw[O,show a2=A.length/2 by omega,J,Q,List.take_length,Y,Cz d U.mem t.mem f]
   obtain⟨aR,h⟩:=xR (em w (q));refine AB v (ih H hR.1 s t h) ?_;conv=>cbv
   refine⟨rk,fun _=>⟨by omega,by rw[show kk.toNat=u.length by omega];exact F⟩,?_⟩;try conv=>cbv
   obtain⟨aS,i⟩:=xR (em w (rt u r));refine AB v (Rl (G.BJ hw) H W V aa i) ?_;conv=>cbv
   obtain⟨aT,j⟩:=xR (em w (q*rt u r));refine AB v (JG (G.BJ hw) H h i (G.CV (G.sub hu) hw c.tail t) b (by omega) j) ?_;conv=>cbv
   refine g2 rfl ?_;refine AB (r:= .one (.sl AA C)) v (L8 (G.BJ hw) H g j (G.CV (G.sub hu) hw c.tail U) ((G.CV (G.sub hu) hw c.tail t).mul (G.BJ hw) b) (by omega) (by omega) (by rw[hC,f])) ?_;conv=>cbv
   exact AF ⟨t2,trivial⟩
  have ab:=BY z;refine .inr ?_;have a8:k'<u.length:=Mm B (show 2^(k'+1)<A.length by omega);intro aj aD;conv=>cbv
  refine Ah ?_;refine⟨u.length-(k'+1),?_,?_⟩
  ·omega
  rw[l];exact⟨k'+1,Z,aj,rfl,rfl,⟨D,⟨by omega⟩,by omega⟩,rfl⟩
 have X:=BS y;exact absurd X (by omega)
theorem mZ {u:List (List Rat)} {x:Re} (v:mm=RL.length) (G:Gam TT R K S) (hw:TT w) (t:T=tw w) {q:Rat} (m:A=em [] (Re.ofRat q)) (y:Cp q) (p:C=em w (Re.ofRat q)):Bk Tryz.prog 238 [.agg [.sl (.sl AA) T,.BI (.sl AA) 0 0 0 mm],.one (.sl AA A)] (.arr 0 (.sl AA) RL) (.one (.sl AA C)):=by
 have d:A=[rp q]:=m.trans (Fc q);have o:A.length=1:=by rw[d];rfl
 refine J5 Tryz.func238 (by kernel_rfl) rfl fun E s=>?_
 conv=>cbv
 rintro z ⟨j,f10⟩;conv=>cbv
 intro g c;conv=>cbv
 cases g <;> conv=>cbv
 ·have f:=BR c;exact absurd f (by omega)
 have f:=BS c;obtain⟨h,b⟩:=Ao (l:=A) (i:=0) (by omega);refine⟨h,fun _=>⟨by omega,b⟩,?_⟩;try conv=>cbv
 refine AB s (LV (G.BJ hw) t (Gb d b) y p) ?_;conv=>cbv
 refine g2 rfl ?_;refine fun _=>⟨⟨⟨t2,trivial⟩,rfl,by simp⟩,rfl⟩
theorem mb (P:mm=RL.length) (G:Gam TT R K S) (hw:TT w) (hT:T=tw w) (hu:TT (r::u)) (J:Bl (r::u) w) (ih:Sa 238 S w u) (hR:HH w RL (r::u)) (I:A=em (r::u) x) (hx:El (r::u) S x) (h:x=p+q*rt u r) (Q:El u S p) (U:El u S q) (h0:q=0) (hC:C=em w x):Bk Tryz.prog 238 [.agg [.sl (.sl AA) T,.BI (.sl AA) 0 0 0 mm],.one (.sl AA A)] (.arr 0 (.sl AA) RL) (.one (.sl AA C)):=by
 have g:=(G.BJ hu).red;have l:A.length=2^u.length+2^u.length:=by rw[I,B5 hx.mem,CW]
 have av:=ER u.length;have aq:(r::u).length<=8:=G.ht hu;have aa:(r::u).length=u.length+1:=rfl;have hmul:=G.mul hw;have W:El w K (rt u r):=by have:=G.CV hu hw J (Im g);rwa [Nat.zero_add] at this
 obtain⟨wk,aw,ad,N⟩:=hR.2;obtain⟨rk,V⟩:=xR (em wk (rt u r));rw[<-V] at N;refine J5 Tryz.func238 (by kernel_rfl) rfl fun E hE=>?_
 conv=>cbv
 rintro az ⟨ag,f10⟩;conv=>cbv
 intro Z i;conv=>cbv
 cases Z <;> conv=>cbv
 ·have y:=BR i;rintro aA ⟨ah,f19⟩;conv=>cbv
  intro a1 al;conv=>cbv
  refine g2 ⟨by omega,by omega,i64 (by omega)⟩ ?_;refine .inr ?_;obtain⟨J0,c⟩:=xJ fun vs bl k=>∃(k':Nat) (B kk:Int),vs=[.one (.sl AA A),.one (.BC 2 0 0),.one (.int .i64 B),.one (.int .i64 kk)]/\bl=[.arr 0 (.sl AA) RL,.var 0 [.sl (.sl AA) T,.BI (.sl AA) 0 0 0 mm]]/\(BG B (A.length/2)/\BG kk k'/\k'<=u.length)/\k=u.length-k'
  refine⟨[1,2,5,6],[0,2],J0,⟨u.length-0,by rw[c];exact⟨0,a1,0,rfl,rfl,⟨⟨by omega⟩,Bv 0,by omega⟩,rfl⟩⟩,?_⟩;intro vs bl ax hj;rw[c] at hj;obtain⟨k',B,kk,rfl,rfl,⟨m,M,au⟩,ar⟩:=hj;conv=>cbv
  have aj:=m.eq;have ak:=M.eq;intro aB an;conv=>cbv
  refine Ah ?_;intro aC H;conv=>cbv
  refine AY ?_;rintro aD ⟨ai,f25⟩;conv=>cbv
  have ae:=(Ge (k:=k'+1) H (by omega)).eq;intro a2 j;conv=>cbv
  cases a2 <;> conv=>cbv
  ·have X:=BX j;have O:k'=u.length:=by have:=Mk l (show ¬2^(k'+1)<A.length by omega);omega
   intro m32 ab;conv=>cbv
   refine AY ?_;intro F a8;conv=>cbv
   intro z s;conv=>cbv
   have d:z=em u p:=by rw[s,List.drop_zero,show F=A.length/2 by omega,I,Dk g Q.mem U.mem h]
   obtain⟨a6,b⟩:=xR (em w (p));refine .inr (.inr (.inl ⟨0,.arr 0 (.sl AA) RL,[.agg [.sl (.sl AA) T,.BI (.sl AA) 0 0 0 mm],.one (.sl AA z)],.one (.sl AA a6),fun _=>⟨rfl,⟨⟨rfl,⟨⟨rfl,rfl⟩,rfl⟩,trivial⟩,rfl,trivial⟩⟩,fun _=>H8 hE (ih hT hR.1 P d Q b),?_⟩));try conv=>cbv
   refine g2 rfl ?_;intro ay v;conv=>cbv
   refine AY ?_;rintro D af ⟨a7,o⟩;conv=>cbv
   intro Y t;conv=>cbv
   have f:Y=em u q:=by rw[t,show D=A.length/2 by omega,o,v,List.take_length,I,Cz g Q.mem U.mem h]
   refine AB hE (Le (G.BJ (G.sub hu)).red U.mem f h0) ?_;conv=>cbv
   refine fun _=>⟨⟨⟨⟨rfl,congrArg _ (by rw[hC,b];congr 1;rw[h,h0];clear ih;grind),trivial⟩,trivial⟩,rfl,by simp⟩,rfl⟩
  have X:=BY j;refine .inr ?_;have O:k'<u.length:=Mm l (show 2^(k'+1)<A.length by omega);intro a5 ao;conv=>cbv
  refine Ah ?_;refine⟨u.length-(k'+1),?_,?_⟩
  ·omega
  rw[c];exact⟨k'+1,B,a5,rfl,rfl,⟨m,⟨by omega⟩,by omega⟩,rfl⟩
 have y:=BS i;exact absurd y (by omega)
theorem ma (a1:mm=RL.length) (G:Gam TT R K S) (hw:TT w) (P:T=tw w) (hu:TT (r::u)) (c:Bl (r::u) w) (ih:Sa 238 S w u) (hR:HH w RL (r::u)) (hA:A=em (r::u) x) (hx:El (r::u) S x) (h:x=p+q*rt u r) (hp:El u S p) (D:El u S q) (h0:q≠0) (hC:C=em w x):Bk Tryz.prog 238 [.agg [.sl (.sl AA) T,.BI (.sl AA) 0 0 0 mm],.one (.sl AA A)] (.arr 0 (.sl AA) RL) (.one (.sl AA C)):=by
 have g:=(G.BJ hu).red;have N:A.length=2^u.length+2^u.length:=by rw[hA,B5 hx.mem,CW]
 have aO:=ER u.length;have aL:(r::u).length<=8:=G.ht hu;have ax:(r::u).length=u.length+1:=rfl;have hmul:=G.mul hw;have b:El w K (rt u r):=by have:=G.CV hu hw c (Im g);rwa [Nat.zero_add] at this
 obtain⟨wk,ah,a2,d⟩:=hR.2;obtain⟨rk,f⟩:=xR (em wk (rt u r));rw[<-f] at d;refine J5 Tryz.func238 (by kernel_rfl) rfl fun E I=>?_
 conv=>cbv
 rintro aS ⟨aD,f10⟩;conv=>cbv
 intro ak J;conv=>cbv
 cases ak <;> conv=>cbv
 ·have a6:=BR J;rintro aT ⟨aE,f19⟩;conv=>cbv
  intro al aI;conv=>cbv
  refine g2 ⟨by omega,by omega,i64 (by omega)⟩ ?_;refine .inr ?_;obtain⟨J0,v⟩:=xJ fun vs bl k=>∃(k':Nat) (hv kk:Int),vs=[.one (.sl AA A),.one (.BC 2 0 0),.one (.int .i64 hv),.one (.int .i64 kk)]/\bl=[.arr 0 (.sl AA) RL,.var 0 [.sl (.sl AA) T,.BI (.sl AA) 0 0 0 mm]]/\(BG hv (A.length/2)/\BG kk k'/\k'<=u.length)/\k=u.length-k'
  refine⟨[1,2,5,6],[0,2],J0,⟨u.length-0,by rw[v];exact⟨0,al,0,rfl,rfl,⟨⟨by omega⟩,Bv 0,by omega⟩,rfl⟩⟩,?_⟩;intro vs bl aP hj;rw[v] at hj;obtain⟨k',hv,kk,rfl,rfl,⟨O,af,aN⟩,aM⟩:=hj;conv=>cbv
  have aG:=O.eq;have aH:=af.eq;intro aU aJ;conv=>cbv
  refine Ah ?_;intro aV ae;conv=>cbv
  refine AY ?_;rintro aW ⟨aF,f25⟩;conv=>cbv
  have aA:=(Ge (k:=k'+1) ae (by omega)).eq;intro an M;conv=>cbv
  cases an <;> conv=>cbv
  ·have ai:=BX M;have ag:k'=u.length:=by have:=Mk N (show ¬2^(k'+1)<A.length by omega);omega
   intro m32 az;conv=>cbv
   refine AY ?_;intro ad aw;conv=>cbv
   intro a7 V;conv=>cbv
   have y:a7=em u p:=by rw[V,List.drop_zero,show ad=A.length/2 by omega,hA,Dk g hp.mem D.mem h]
   obtain⟨aq,j⟩:=xR (em w (p));refine .inr (.inr (.inl ⟨0,.arr 0 (.sl AA) RL,[.agg [.sl (.sl AA) T,.BI (.sl AA) 0 0 0 mm],.one (.sl AA a7)],.one (.sl AA aq),fun _=>⟨rfl,⟨⟨rfl,⟨⟨rfl,rfl⟩,rfl⟩,trivial⟩,rfl,trivial⟩⟩,fun _=>H8 I (ih P hR.1 a1 y hp j),?_⟩));try conv=>cbv
   refine g2 rfl ?_;intro aQ Y;conv=>cbv
   refine AY ?_;rintro aa aB ⟨au,Q⟩;conv=>cbv
   intro aj W;conv=>cbv
   have z:aj=em u q:=by rw[W,show aa=A.length/2 by omega,Q,Y,List.take_length,hA,Cz g hp.mem D.mem h]
   refine AB I (Jz (G.BJ (G.sub hu)).red D.mem z h0) ?_;conv=>cbv
   intro aR Z;conv=>cbv
   refine AY ?_;rintro ab aC ⟨av,U⟩;conv=>cbv
   intro a8 X;conv=>cbv
   have B:a8=em u q:=by rw[X,show ab=A.length/2 by omega,U,Z,List.take_length,hA,Cz g hp.mem D.mem h]
   obtain⟨ar,m⟩:=xR (em w (q));refine .inr (.inr (.inl ⟨0,.arr 0 (.sl AA) RL,[.agg [.sl (.sl AA) T,.BI (.sl AA) 0 0 0 mm],.one (.sl AA a8)],.one (.sl AA ar),fun _=>⟨rfl,⟨⟨rfl,⟨⟨rfl,rfl⟩,rfl⟩,trivial⟩,rfl,trivial⟩⟩,fun _=>H8 I (ih P hR.1 a1 B D m),?_⟩));try conv=>cbv
   refine⟨fun _=>⟨by omega,by have:=Hv d;omega⟩,?_⟩;intro a5 ay;conv=>cbv
   obtain⟨H,t⟩:=Ao (l:=RL) (i:=a5) (by have:=Hv d;omega);refine⟨H,fun _=>t,?_⟩;try conv=>cbv
   have F:H=rk:=by have:=t;rw[show a5=u.length by omega,d] at this;exact (Option.some.inj this).symm
   have f:H=em wk (rt u r):=F.trans f;obtain⟨aX,o⟩:=xR (em w (rt u r));refine AB I (Rl (G.BJ hw) P f a2 ah o) ?_;conv=>cbv
   obtain⟨aY,s⟩:=xR (em w (q*rt u r));refine AB I (JG (G.BJ hw) P m o (G.CV (G.sub hu) hw c.tail D) b (by omega) s) ?_;conv=>cbv
   refine g2 rfl ?_;refine AB (r:= .one (.sl AA C)) I (L8 (G.BJ hw) P j s (G.CV (G.sub hu) hw c.tail hp) ((G.CV (G.sub hu) hw c.tail D).mul (G.BJ hw) b) (by omega) (by omega) (by rw[hC,h])) ?_;conv=>cbv
   refine fun _=>⟨⟨⟨t2,trivial⟩,rfl,by simp⟩,rfl⟩
  have ai:=BY M;refine .inr ?_;have ag:k'<u.length:=Mm N (show 2^(k'+1)<A.length by omega);intro ao aK;conv=>cbv
  refine Ah ?_;refine⟨u.length-(k'+1),?_,?_⟩
  ·omega
  rw[v];exact⟨k'+1,hv,ao,rfl,rfl,⟨O,⟨by omega⟩,by omega⟩,rfl⟩
 have a6:=BS J;exact absurd a6 (by omega)
theorem UQ (G:Gam TT R K S) (hw:TT w):∀{u:List (List Rat)},TT u->Bl u w->SZ 238 S w u:=by
 intro u
 induction u with
 | nil=>
  intro hu c T RL A C x i hR g b h;obtain⟨q,rfl⟩:=Dl.1 b.mem;have d:=b.Cg (by have:=G.mul hw;omega);rw[Ew] at d;exact mW (u:=[]) (x:=0) G hw i g (d q List.mem_cons_self) h
 | cons r u m=>
  intro hu c T RL A C x i hR g b h;obtain⟨p,q,f,l,d⟩:=El.parts (G.BJ hu).red b
  by_cases j:q=0
  ·exact mY G hw i hu c (m (G.sub hu) c.tail) hR g b f l d j h
  exact mX G hw i hu c (m (G.sub hu) c.tail) hR g b f l d j h
theorem imD (G:Gam TT R K S) (hw:TT w):∀{u:List (List Rat)},TT u->Bl u w->Sa 238 S w u:=by
 intro u
 induction u with
 | nil=>
  intro hu d T RL A C x mm j hR b h c i;obtain⟨q,rfl⟩:=Dl.1 c.mem;have f:=c.Cg (by have:=G.mul hw;omega);rw[Ew] at f;exact mZ (u:=[]) (x:=0) b G hw j h (f q List.mem_cons_self) i
 | cons r u o=>
  intro hu d T RL A C x mm j hR b h c i;obtain⟨p,q,g,m,f⟩:=El.parts (G.BJ hu).red c
  by_cases l:q=0
  ·exact mb b G hw j hu d (o (G.sub hu) d.tail) hR h c g m f l i
  exact ma b G hw j hu d (o (G.sub hu) d.tail) hR h c g m f l i
end Go.Abs
namespace Go.Abs
open Go.RowKit
variable {K R S:Nat} {T T2:List LR} {TT:List (List Rat)->Prop}
theorem SY {A B:LR} {R' s:Nat} {u:List (List Rat)} {v:Re} (h:Bb R u) (h':Bb R' (Aj u v)) (l:(Aj u v).length<=8) (g:T=tw u) (m:A=em u v) (j:El u s v) (o:Fit u.length R s) (f:0<=v) (b:T2=tw (Aj u v)) (c:B=em (Aj u v) (Re.sqrt v)):
  CF 257 [.one (.sl (.sl AA) T),.one (.sl AA A)] (.AI [(false,[.sl (.sl AA) T2]),(false,[.sl AA B]),(false,[.int .i64 0])]):=by
 by_cases d:Sq u v
 ·rw[ED d] at b c;have i:T2=T:=b.trans g.symm;subst i;exact jj h g m j o ((I7 f).1 d) (Re.Gg v) (Re.Ev f) c
 rw[C8 d] at h' l b c;rw[<-HA j.mem] at c;exact jk h g m j o (by rw[List.length_cons] at l;omega) f d rfl h' b c
theorem LH (u:List (List Rat)) (i:Nat):pre u i<:+u:=List.drop_suffix _ _
theorem M8 (u:List (List Rat)):pre u 0=[]:=by rw[pre,Nat.sub_zero,List.drop_length]
theorem Ep (p:Prop):∃b:Bool,(b=true↔p):=by
 by_cases h:p
 ·exact⟨true,by simp[h]⟩
 exact⟨false,by simp[h]⟩
theorem Ki {X Y:List LR} {u w:List (List Rat)} {c:Bool} (hu:Bb R u) (hw:Bb R w) (b:X=tw u) (d:Y=tw w) (h:c=true↔w<:+u):CF 161 [.one (.sl (.sl AA) X),.one (.sl (.sl AA) Y)] (.one (.bool c)):=by
 cases c with
 | true=>exact kK hu hw b d (h.1 rfl)
 | false=>exact kJ hu hw b d (fun k=>by have:=h.2 k;cases this)
noncomputable def nm (n:List (List Rat)×Re):el Bc:=(tw n.1,em n.1 n.2)
noncomputable def Bf (ns:List (List (List Rat)×Re)):List (List Rat):=ns.foldl (fun t n=>FZ t n.1) []
theorem my (ns:List (List (List Rat)×Re)) (n:List (List Rat)×Re):Bf (ns++[n])=FZ (Bf ns) n.1:=by
 rw[Bf,List.foldl_append];rfl
theorem Qz {ns:List (List (List Rat)×Re)} {i:Nat} {n:List (List Rat)×Re} (h:ns[i]? =some n):Bf (ns.take (i+1))=FZ (Bf (ns.take i)) n.1:=by
 rw[Cb h,my]
theorem GK {X:List (el Bc)} {ns:List (List (List Rat)×Re)} {i:Nat} {x:el Bc} (c:X=ns.map nm) (b:X[i]? =some x):∃u y,x.1=tw u/\x.2=em u y/\ns[i]? =some (u,y):=by
 rw[c,List.getElem?_map] at b;cases h:ns[i]? with
 | none=>rw[h] at b;simp at b
 | some n=>
  rw[h] at b;have e:nm n=x:=Option.some.inj b;exact⟨n.1,n.2,by rw[<-e];rfl,by rw[<-e];rfl,rfl⟩
theorem Gam.Bf (G:Gam TT R K S):∀{ns:List (List (List Rat)×Re)},(∀n∈ns,TT n.1)->TT (Bf ns):=by
 have key:∀(ns:List (List (List Rat)×Re)) (t:List (List Rat)),TT t->(∀n∈ns,TT n.1)->TT (ns.foldl (fun t n=>FZ t n.1) t):=by
  intro ns
  induction ns with
  | nil=>intro t ht _;exact ht
  | cons n ns b=>intro t ht h;exact b _ (G.join ht (h n List.mem_cons_self)) (fun m hm=>h m (List.mem_cons_of_mem _ hm))
 intro ns h;exact key ns [] G.nil h
theorem Io (G:Gam TT R K S) {ns:List (List (List Rat)×Re)} (h:∀n∈ns,TT n.1):∀n∈ns,Bl n.1 (Go.Abs.Bf ns):=by
 have key:∀(ns:List (List (List Rat)×Re)) (t:List (List Rat)),TT t->(∀n∈ns,TT n.1)->Bl t (ns.foldl (fun t n=>FZ t n.1) t)/\∀n∈ns,Bl n.1 (ns.foldl (fun t n=>FZ t n.1) t):=by
  intro ns
  induction ns with
  | nil=>intro t ht _;exact⟨Bl.refl t,fun n b=>by simp at b⟩
  | cons n ns g=>
   intro t ht h;have b:=h n List.mem_cons_self;have d:=qd (G.BJ ht).red (G.BJ b).red;obtain⟨c,f⟩:=g _ (G.join ht b) (fun m hm=>h m (List.mem_cons_of_mem _ hm));refine⟨d.2.1.trans c,fun m hm=>?_⟩;rcases List.mem_cons.1 hm with rfl | hm
   ·exact d.2.2.trans c
   exact f m hm
 exact (key ns [] G.nil h).2
theorem Ql {U RL:List LR} {t u:List (List Rat)} (G:Gam TT R K S) (ht:TT t) (hu:TT u) (hT:T=tw t) (hU:U=tw u) (aa:T2=tw (ext t u)) (a7:RL=EO t u):CF 237 [.one (.sl (.sl AA) T),.one (.sl (.sl AA) U)] (.AI [(true,[.sl (.sl AA) T2,.sl (.sl AA) RL]),(false,[.int .i64 0])]):=by
 have al:U.length=u.length:=by rw[hU,CI]
 have aq:=G.ht hu;have a8:=G.RS;refine Av Tryz.func237 fun E hE=>?_
 conv=>cbv
 intro aj P;have ak:=P.eq;have f15:=P.le;conv=>cbv
 refine .inr ?_
 obtain⟨J0,M⟩:∃J:List AV->List BA->Nat->Prop,J=fun vs bl k=>(∃(L i:Int),vs=[.one (.BC 4 0 0),.one (.BC 6 0 0),.one (.sl (.sl AA) U),.one (.int .i64 L),.one (.int .i64 i)]/\bl=[.var 0 [.nil,.nil],.var 0 [.sl (.sl AA) T,.nil],.dead 0]/\(EY L U.length/\BG i 0)/\k=U.length)\/
  (∃(Ti o:List LR) (mm i':Nat) (L i:Int),vs=[.one (.BC 4 0 0),.one (.BC 6 0 0),.one (.sl (.sl AA) U),.one (.int .i64 L),.one (.int .i64 i)]/\bl=[.var 0 [.nil,.nil],.var 0 [.sl (.sl AA) Ti,.BI (.sl AA) 39 0 0 mm],.arr 0 (.sl AA) o]/\(EY L U.length/\BG i i'/\i'<=U.length/\mm=o.length)/\Ti=tw (ext t (pre u i'))/\o=EO t (pre u i')/\k=U.length-i'):=⟨_,rfl⟩
 refine⟨[4,6,14,15,16],[4,6,39],J0,⟨U.length,by rw[M];exact .inl ⟨aj,0,rfl,rfl,⟨P,Bv 0⟩,rfl⟩⟩,?_⟩;intro vs bl ar hj;rw[M] at hj;rcases hj with⟨L,i,rfl,rfl,⟨hL,hi⟩,ai⟩ |⟨Ti,o,mm,i',L,i,rfl,rfl,⟨hL,hi,an,W⟩,v,hinv,ai⟩
 ·conv=>cbv
  have eL:=hL.eq;have ei:=hi.eq;obtain⟨i',V⟩:=xN 0;have v:T=tw (ext t (pre u i')):=by rw[V,M8];exact hT
  intro a2 z;conv=>cbv
  cases a2 <;> conv=>cbv
  ·have Z:=BX z;have af:u=[]:=List.eq_nil_of_length_eq_zero (by omega);exact AF ⟨⟨rfl,congrArg _ (by rw[aa,hT,af];rfl),.inr (.inl ⟨_,congrArg _ (by rw[a7,af];rfl)⟩),trivial⟩,t2,trivial⟩
  have Z:=BY z;refine .inr ?_;obtain⟨y,m⟩:=Ao (l:=U) (i:=i') (by omega);refine⟨y,fun _=>⟨by omega,by rw[show (i).toNat=i' by omega];exact m⟩,?_⟩;try conv=>cbv
  obtain⟨r,s,F⟩:=LG (u:=u) (i:=i') (by omega);have d:TT (pre u i'):=G.I8 (LH u i') hu;have b:TT (r::pre u i'):=s ▸ G.I8 (LH u (i'+1)) hu;have D:=(G.BJ b).red;have Y:y=em (pre u i') (Al (pre u i') r):=by rw[<-hU,m] at F;exact (Option.some.inj F).trans (Ff D)
  have c:TT (ext t (pre u i')):=G.ext ht d;have p:=(Jf (G.BJ ht).red (G.BJ d).red).2;have B:El (pre u i') S (Al (pre u i') r):=(El.EX (G.BJ b)).mono a8;have H:TT (Aj (ext t (pre u i')) (Al (pre u i') r)):=G.Aj c b p;have Q:ext t (pre u (i'+1))=Aj (ext t (pre u i')) (Al (pre u i') r):=by rw[s];rfl
  have X:EO t (pre u (i'+1))=EO t (pre u i')++[em (Aj (ext t (pre u i')) (Al (pre u i') r)) (Re.sqrt (Al (pre u i') r))]:=by rw[s];rfl
  obtain⟨a6,g⟩:=xR (em (ext t (pre u i')) (Al (pre u i') r));refine cL (r:= .one (.sl AA a6)) hE (UQ G c d p v (by rw[V,M8];trivial) Y B g) ⟨⟨rfl,.inr ⟨_,rfl⟩,trivial⟩,rfl,trivial⟩ ?_;try conv=>cbv
  obtain⟨I,h⟩:=xV (tw (Aj (ext t (pre u i')) (Al (pre u i') r)));obtain⟨f,j⟩:=xR (em (Aj (ext t (pre u i')) (Al (pre u i') r)) (Re.sqrt (Al (pre u i') r)));refine AB (r:= .AI [(false,[.sl (.sl AA) I]),(false,[.sl AA f]),(false,[.int .i64 0])]) hE (SY (G.BJ c) (G.BJ H) (G.ht H) v g (G.CV d c p B) (G.fit c) (by have:=D.2.2.1;grind) h j) ?_;try conv=>cbv
  refine g2 rfl ?_;refine AR ?_;conv=>cbv
  refine⟨[f],fun _=>⟨rfl,by decide,rfl,⟨rfl,by first | exact t1 | exact t2 | exact t4 | simp[Bg,Bo,cells],trivial⟩⟩,.inr ?_⟩;try conv=>cbv
  refine .inl ⟨[f],fun _=>⟨rfl,by show (1)*24<=140737488355328;(try simp only[List.length_take,List.length_drop]);omega⟩,?_⟩;intro N ag;conv=>cbv
  intro a5 ah;conv=>cbv
  refine Ah ?_;refine⟨U.length-(i'+1),?_,?_⟩
  ·omega
  rw[M];exact .inr ⟨I,[f],N,i'+1,L,a5,rfl,rfl,⟨hL,⟨by omega⟩,by omega,ag⟩,by rw[h,Q],by rw[X,j,V,M8];rfl,rfl⟩
 conv=>cbv
 have eL:=hL.eq;have ei:=hi.eq;have ao:o.length<=U.length:=by rw[hinv,PG,LF (by omega)];omega
 intro a2 z;conv=>cbv
 cases a2 <;> conv=>cbv
 ·have Z:=BX z;have ae:pre u i'=u:=by rw[show i'=u.length by omega];exact bz u
  exact AF ⟨⟨rfl,congrArg _ (by rw[aa,v,ae]),.inl ⟨_,rfl,by omega,congrArg _ (by rw[a7,W,List.drop_zero,List.take_length,hinv,ae])⟩,trivial⟩,t2,trivial⟩
 have Z:=BY z;refine .inr ?_;obtain⟨y,m⟩:=Ao (l:=U) (i:=i') (by omega);refine⟨y,fun _=>⟨by omega,by rw[show (i).toNat=i' by omega];exact m⟩,?_⟩;try conv=>cbv
 obtain⟨r,s,F⟩:=LG (u:=u) (i:=i') (by omega);have d:TT (pre u i'):=G.I8 (LH u i') hu;have b:TT (r::pre u i'):=s ▸ G.I8 (LH u (i'+1)) hu;have D:=(G.BJ b).red;have Y:y=em (pre u i') (Al (pre u i') r):=by rw[<-hU,m] at F;exact (Option.some.inj F).trans (Ff D)
 have c:TT (ext t (pre u i')):=G.ext ht d;have p:=(Jf (G.BJ ht).red (G.BJ d).red).2;have B:El (pre u i') S (Al (pre u i') r):=(El.EX (G.BJ b)).mono a8;have H:TT (Aj (ext t (pre u i')) (Al (pre u i') r)):=G.Aj c b p;have Q:ext t (pre u (i'+1))=Aj (ext t (pre u i')) (Al (pre u i') r):=by rw[s];rfl
 have X:EO t (pre u (i'+1))=EO t (pre u i')++[em (Aj (ext t (pre u i')) (Al (pre u i') r)) (Re.sqrt (Al (pre u i') r))]:=by rw[s];rfl
 obtain⟨a6,g⟩:=xR (em (ext t (pre u i')) (Al (pre u i') r));refine .inr (.inr (.inl ⟨39,.arr 0 (.sl AA) o,[.agg [.sl (.sl AA) Ti,.BI (.sl AA) 0 0 0 mm],.one (.sl AA y)],.one (.sl AA a6),fun _=>⟨rfl,⟨⟨rfl,⟨⟨rfl,rfl⟩,rfl⟩,trivial⟩,rfl,trivial⟩⟩,fun _=>H8 hE (imD G c d p v (by rw[hinv];exact H6 (G.BJ ht).red (G.BJ d).red) W Y B g),?_⟩));try conv=>cbv
 obtain⟨I,h⟩:=xV (tw (Aj (ext t (pre u i')) (Al (pre u i') r)));obtain⟨f,j⟩:=xR (em (Aj (ext t (pre u i')) (Al (pre u i') r)) (Re.sqrt (Al (pre u i') r)));refine AB (r:= .AI [(false,[.sl (.sl AA) I]),(false,[.sl AA f]),(false,[.int .i64 0])]) hE (SY (G.BJ c) (G.BJ H) (G.ht H) v g (G.CV d c p B) (G.fit c) (by have:=D.2.2.1;grind) h j) ?_;try conv=>cbv
 refine g2 rfl ?_;refine AR ?_;conv=>cbv
 refine⟨[f],fun _=>⟨rfl,by decide,rfl,⟨rfl,by first | exact t1 | exact t2 | exact t4 | simp[Bg,Bo,cells],trivial⟩⟩,.inr ?_⟩;try conv=>cbv
 refine .inl ⟨[f],fun _=>⟨rfl,W,rfl,by show (o.length+1)*24<=140737488355328;(try simp only[List.length_take,List.length_drop]);omega⟩,?_⟩;intro (a1:List (el (.sl AA))) N O;have ab:a1=(o:List (el (.sl AA)))++([f]:List (el (.sl AA))):=O.1;have ad:N=List.length (α:=(el (.sl AA))) a1:=O.2;conv=>cbv
 intro a5 ah;conv=>cbv
 refine Ah ?_;refine⟨U.length-(i'+1),?_,?_⟩
 ·omega
 rw[M];exact .inr ⟨I,a1,N,i'+1,L,a5,rfl,rfl,⟨hL,⟨by omega⟩,by omega,ad⟩,by rw[h,Q],by rw[ab,hinv,X,j],rfl⟩
end Go.Abs
namespace Go.Abs
open Go.RowKit
variable {K R S:Nat} {L:List (el Bc)} {T:List LR} {TT:List (List Rat)->Prop}
theorem lD (G:Gam TT R K S) {ns:List (List (List Rat)×Re)} (H:∀n∈ns,TT n.1) (Y:L=ns.map nm) (hT:T=tw (Bf ns)):CF 236 [.one (.sl Bc L)] (.AI [(false,[.sl (.sl AA) T]),(false,[.int .i64 0])]):=by
 have ab:L.length=ns.length:=by rw[Y,List.length_map]
 refine Av Tryz.func236 fun E U=>?_
 conv=>cbv
 intro a6 N;have aa:=N.eq;have f10:=N.le;conv=>cbv
 refine .inr ?_
 obtain⟨J0,m⟩:∃J:List AV->List BA->Nat->Prop,J=fun vs W k=>(∃(i':Nat) (n i:Int),vs=[.one .nil,.one (.sl Bc L),.one (.int .i64 n),.one (.int .i64 i)]/\W=[]/\(EY n L.length/\BG i i'/\i'<=L.length)/\tw (Bf (ns.take i'))=[]/\k=L.length-i')\/
  (∃(V:List LR) (i':Nat) (n i:Int),vs=[.one (.sl (.sl AA) V),.one (.sl Bc L),.one (.int .i64 n),.one (.int .i64 i)]/\W=[]/\(EY n L.length/\BG i i'/\i'<=L.length)/\V=tw (Bf (ns.take i'))/\k=L.length-i'):=⟨_,rfl⟩
 refine⟨[4,9,10,11],[],J0,⟨L.length,by rw[m];exact .inl ⟨0,a6,0,rfl,rfl,⟨N,Bv 0,by omega⟩,rfl,rfl⟩⟩,?_⟩;intro vs W ad hj;rw[m] at hj;rcases hj with⟨i',n,i,rfl,rfl,⟨v,Z,a1⟩,X,a2⟩ |⟨V,i',n,i,rfl,rfl,⟨v,Z,a1⟩,f,a2⟩
 ·conv=>cbv
  have en:=v.eq;have ei:=Z.eq;have f:=X.symm;intro P z;conv=>cbv
  cases P <;> conv=>cbv
  ·have O:=BX z;exact AF ⟨⟨rfl,.inr (.inl ⟨_,congrArg _ (by rw[hT,<-List.take_of_length_le (show ns.length<=i' by omega)];exact X)⟩),trivial⟩,t2,trivial⟩
  have O:=BY z;refine .inr ?_;obtain⟨Q,p⟩:=Ao (l:=L) (i:=i') (by omega);refine⟨Q,fun _=>⟨by omega,by rw[show (i).toNat=i' by omega];exact p⟩,?_⟩;try conv=>cbv
  obtain⟨u,y,h,a5,D⟩:=GK Y p;have hu:TT u:=H _ (List.mem_of_getElem? D);have g:=Qz D;unfold FZ at g;have s:TT (Bf (ns.take i')):=G.Bf (fun n v=>H n (List.mem_of_mem_take v));refine .inr ?_;obtain⟨I,b⟩:=Ep (u<:+(Bf (ns.take i')));refine cL U (Ki (G.BJ s) (G.BJ hu) f h b) ⟨.inr ⟨_,rfl⟩,rfl,trivial⟩ ?_;try conv=>cbv
  refine .inr ?_;cases I <;> conv=>cbv
  ·have j:=fun q=>Bool.false_ne_true (b.2 q)
   obtain⟨M,c⟩:=Ep ((Bf (ns.take i'))<:+u);refine cL U (Ki (G.BJ hu) (G.BJ s) h f c) ⟨rfl,.inr ⟨_,rfl⟩,trivial⟩ ?_;try conv=>cbv
   refine .inr ?_;cases M <;> conv=>cbv
   ·have t:=fun q=>Bool.false_ne_true (c.2 q)
    obtain⟨a7,o⟩:=xV (tw (ext (Bf (ns.take i')) u));obtain⟨a8,F⟩:=xV (EO (Bf (ns.take i')) u);refine cL U (Ql G s hu f h o F) ⟨.inr ⟨_,rfl⟩,rfl,trivial⟩ ?_;try conv=>cbv
    refine AR ?_;conv=>cbv
    intro d B;conv=>cbv
    refine Ah ?_;refine⟨L.length-(i'+1),?_,?_⟩
    ·omega
    rw[m];exact .inr ⟨_,i'+1,n,d,rfl,rfl,⟨v,⟨by omega⟩,by omega⟩,by rw[g,if_neg j,if_neg t,o],rfl⟩
   have t:=c.1 rfl;intro d B;conv=>cbv
   refine Ah ?_;refine⟨L.length-(i'+1),?_,?_⟩
   ·omega
   rw[m];exact .inr ⟨_,i'+1,n,d,rfl,rfl,⟨v,⟨by omega⟩,by omega⟩,by rw[g,if_neg j,if_pos t];exact h,rfl⟩
  have j:=b.1 rfl;intro d B;conv=>cbv
  refine Ah ?_;refine⟨L.length-(i'+1),?_,?_⟩
  ·omega
  rw[m];exact .inl ⟨i'+1,n,d,rfl,rfl,⟨v,⟨by omega⟩,by omega⟩,by rw[g,if_pos j];exact X,rfl⟩
 conv=>cbv
 have en:=v.eq;have ei:=Z.eq;intro P z;conv=>cbv
 cases P <;> conv=>cbv
 ·have O:=BX z;exact AF ⟨⟨rfl,congrArg _ (by rw[hT,f,List.take_of_length_le (show ns.length<=i' by omega)]),trivial⟩,t2,trivial⟩
 have O:=BY z;refine .inr ?_;obtain⟨Q,p⟩:=Ao (l:=L) (i:=i') (by omega);refine⟨Q,fun _=>⟨by omega,by rw[show (i).toNat=i' by omega];exact p⟩,?_⟩;try conv=>cbv
 obtain⟨u,y,h,a5,D⟩:=GK Y p;have hu:TT u:=H _ (List.mem_of_getElem? D);have g:=Qz D;unfold FZ at g;have s:TT (Bf (ns.take i')):=G.Bf (fun n v=>H n (List.mem_of_mem_take v));refine .inr ?_;obtain⟨I,b⟩:=Ep (u<:+(Bf (ns.take i')));refine AB U (Ki (G.BJ s) (G.BJ hu) f h b) ?_;conv=>cbv
 refine .inr ?_;cases I <;> conv=>cbv
 ·have j:=fun q=>Bool.false_ne_true (b.2 q)
  obtain⟨M,c⟩:=Ep ((Bf (ns.take i'))<:+u);refine AB U (Ki (G.BJ hu) (G.BJ s) h f c) ?_;conv=>cbv
  refine .inr ?_;cases M <;> conv=>cbv
  ·have t:=fun q=>Bool.false_ne_true (c.2 q)
   obtain⟨a7,o⟩:=xV (tw (ext (Bf (ns.take i')) u));obtain⟨a8,F⟩:=xV (EO (Bf (ns.take i')) u);refine AB U (Ql G s hu f h o F) ?_;conv=>cbv
   refine AR ?_;conv=>cbv
   intro d B;conv=>cbv
   refine Ah ?_;refine⟨L.length-(i'+1),?_,?_⟩
   ·omega
   rw[m];exact .inr ⟨_,i'+1,n,d,rfl,rfl,⟨v,⟨by omega⟩,by omega⟩,by rw[g,if_neg j,if_neg t,o],rfl⟩
  have t:=c.1 rfl;intro d B;conv=>cbv
  refine Ah ?_;refine⟨L.length-(i'+1),?_,?_⟩
  ·omega
  rw[m];exact .inr ⟨_,i'+1,n,d,rfl,rfl,⟨v,⟨by omega⟩,by omega⟩,by rw[g,if_neg j,if_pos t];exact h,rfl⟩
 have j:=b.1 rfl;intro d B;conv=>cbv
 refine Ah ?_;refine⟨L.length-(i'+1),?_,?_⟩
 ·omega
 rw[m];exact .inr ⟨_,i'+1,n,d,rfl,rfl,⟨v,⟨by omega⟩,by omega⟩,by rw[g,if_pos j,<-f],rfl⟩
theorem Sb (G:Gam TT R K S) {ns:List (List (List Rat)×Re)} (M:∀n∈ns,TT n.1) (hL:L=ns.map nm) (aa:∀n∈ns,El n.1 S n.2) (hlen:ns.length<=1000000) {O:List (el Bc)} (hO:O=ns.map (fun n=>nm (Bf ns,n.2))):CF 163 [.one (.sl Bc L)] (.AI [(false,[.sl Bc O]),(false,[.int .i64 0])]):=by
 have ag:L.length=ns.length:=by rw[hL,List.length_map]
 have b:TT (Bf ns):=G.Bf M;obtain⟨T,f⟩:=xV (tw (Bf ns));refine Av Tryz.func163 fun E H=>?_
 conv=>cbv
 refine AB H (lD G M hL f) ?_;conv=>cbv
 refine AR ?_;conv=>cbv
 intro ae Y;have af:=Y.eq;have f21:=Y.le;conv=>cbv
 refine .inr ?_
 obtain⟨J0,I⟩:∃J:List AV->List BA->Nat->Prop,J=fun vs bl k=>(∃(n i:Int),vs=[.one (.sl (.sl AA) T),.one .nil,.one (.sl Bc L),.one (.int .i64 n),.one (.int .i64 i)]/\bl=[.dead 0]/\(EY n L.length/\BG i 0)/\k=L.length)\/
  (∃(o:List (el Bc)) (mm i':Nat) (n i:Int),vs=[.one (.sl (.sl AA) T),.one (.BI Bc 56 0 0 mm),.one (.sl Bc L),.one (.int .i64 n),.one (.int .i64 i)]/\bl=[.arr 0 Bc o]/\(EY n L.length/\BG i i'/\i'<=L.length/\mm=o.length)/\o=(ns.take i').map (fun n=>nm (Bf ns,n.2))/\k=L.length-i'):=⟨_,rfl⟩
 refine⟨[4,6,20,21,22],[56],J0,⟨L.length,by rw[I];exact .inl ⟨ae,0,rfl,rfl,⟨Y,Bv 0⟩,rfl⟩⟩,?_⟩;intro vs bl aj hj;rw[I] at hj;rcases hj with⟨n,i,rfl,rfl,⟨hn,hi⟩,ad⟩ |⟨o,mm,i',n,i,rfl,rfl,⟨hn,hi,ah,a2⟩,hinv,ad⟩
 ·conv=>cbv
  have en:=hn.eq;have ei:=hi.eq;obtain⟨i',ab⟩:=xN 0;intro a6 N;conv=>cbv
  cases a6 <;> conv=>cbv
  ·have a5:=BX N;exact AF ⟨⟨rfl,.inr (.inl ⟨_,congrArg _ (by rw[hO,show ns=[] from List.eq_nil_of_length_eq_zero (by omega)];rfl)⟩),trivial⟩,t2,trivial⟩
  have a5:=BY N;refine .inr ?_;obtain⟨a8,s⟩:=Ao (l:=L) (i:=i') (by omega);refine⟨a8,fun _=>⟨by omega,by rw[show (i).toNat=i' by omega];exact s⟩,?_⟩;try conv=>cbv
  obtain⟨u,y,U,V,z⟩:=GK hL s;have B:=List.mem_of_getElem? z;have hu:TT u:=M _ B;have h:El u S y:=aa _ B;have g:Bl u (Bf ns):=Io G M _ B;obtain⟨v,c⟩:=xR (em (Bf ns) y);obtain⟨X,d⟩:=Ep (u<:+Bf ns);refine AB H (Ki (G.BJ b) (G.BJ hu) f U d) ?_;conv=>cbv
  refine .inr ?_;cases X <;> conv=>cbv
  ·have W:=fun q=>Bool.false_ne_true (d.2 q)
   obtain⟨a7,p⟩:=xV (EO (Bf ns) u);have m:=Ip (G.BJ b).red (G.BJ hu).red g;refine AB (r:= .AI [(true,[.sl (.sl AA) T,.sl (.sl AA) a7]),(false,[.int .i64 0])]) H (Ql G b hu f U (by rw[m];exact f) p) ?_;try conv=>cbv
   refine AR ?_;conv=>cbv
   refine AB (r:= .one (.sl AA v)) H (UQ G b hu g f (by rw[p];have:=H6 (G.BJ b).red (G.BJ hu).red;rwa [m] at this) V h c) ?_;try conv=>cbv
   refine AB (r:= .agg [.sl (.sl AA) T,.sl AA v]) H (MV (G.BJ b) f c (G.CV hu b g h) (by have:=G.mul b;omega)) ?_;try conv=>cbv
   refine⟨[(T,v)],fun _=>⟨rfl,by decide,rfl,⟨rfl,by first | exact t1 | exact t2 | exact t4 | simp[Bg,Bo,cells],trivial⟩⟩,.inr ?_⟩;try conv=>cbv
   refine .inl ⟨[(T,v)],fun _=>⟨rfl,by show (1)*48<=140737488355328;(try simp only[List.length_take,List.length_drop]);omega⟩,?_⟩;intro j Z;conv=>cbv
   intro F a1;conv=>cbv
   refine Ah ?_;refine⟨L.length-(i'+1),?_,?_⟩
   ·omega
   rw[I];exact .inr ⟨_,j,i'+1,n,F,rfl,rfl,⟨hn,⟨by omega⟩,by omega,Z⟩,by rw[Cb z,List.map_append,ab];simp[nm,f,c],rfl⟩
  have W:=d.1 rfl;refine AB H (Rl (G.BJ b) f V h.mem W c) ?_;conv=>cbv
  refine AB (r:= .agg [.sl (.sl AA) T,.sl AA v]) H (MV (G.BJ b) f c (G.CV hu b g h) (by have:=G.mul b;omega)) ?_;try conv=>cbv
  refine⟨[(T,v)],fun _=>⟨rfl,by decide,rfl,⟨rfl,by first | exact t1 | exact t2 | exact t4 | simp[Bg,Bo,cells],trivial⟩⟩,.inr ?_⟩;try conv=>cbv
  refine .inl ⟨[(T,v)],fun _=>⟨rfl,by show (1)*48<=140737488355328;(try simp only[List.length_take,List.length_drop]);omega⟩,?_⟩;intro j Z;conv=>cbv
  intro F a1;conv=>cbv
  refine Ah ?_;refine⟨L.length-(i'+1),?_,?_⟩
  ·omega
  rw[I];exact .inr ⟨_,j,i'+1,n,F,rfl,rfl,⟨hn,⟨by omega⟩,by omega,Z⟩,by rw[Cb z,List.map_append,ab];simp[nm,f,c],rfl⟩
 conv=>cbv
 have en:=hn.eq;have ei:=hi.eq;have ai:o.length<=L.length:=by rw[hinv,List.length_map,List.length_take];omega
 intro a6 N;conv=>cbv
 cases a6 <;> conv=>cbv
 ·have a5:=BX N;exact AF ⟨⟨rfl,.inl ⟨_,rfl,by omega,congrArg _ (by rw[hO,a2,hinv,List.drop_zero,List.take_length,List.take_of_length_le (show ns.length<=i' by omega)])⟩,trivial⟩,t2,trivial⟩
 have a5:=BY N;refine .inr ?_;obtain⟨a8,s⟩:=Ao (l:=L) (i:=i') (by omega);refine⟨a8,fun _=>⟨by omega,by rw[show (i).toNat=i' by omega];exact s⟩,?_⟩;try conv=>cbv
 obtain⟨u,y,U,V,z⟩:=GK hL s;have B:=List.mem_of_getElem? z;have hu:TT u:=M _ B;have h:El u S y:=aa _ B;have g:Bl u (Bf ns):=Io G M _ B;obtain⟨v,c⟩:=xR (em (Bf ns) y);obtain⟨X,d⟩:=Ep (u<:+Bf ns);refine AB H (Ki (G.BJ b) (G.BJ hu) f U d) ?_;conv=>cbv
 refine .inr ?_;cases X <;> conv=>cbv
 ·have W:=fun q=>Bool.false_ne_true (d.2 q)
  obtain⟨a7,p⟩:=xV (EO (Bf ns) u);have m:=Ip (G.BJ b).red (G.BJ hu).red g;refine AB (r:= .AI [(true,[.sl (.sl AA) T,.sl (.sl AA) a7]),(false,[.int .i64 0])]) H (Ql G b hu f U (by rw[m];exact f) p) ?_;try conv=>cbv
  refine AR ?_;conv=>cbv
  refine AB (r:= .one (.sl AA v)) H (UQ G b hu g f (by rw[p];have:=H6 (G.BJ b).red (G.BJ hu).red;rwa [m] at this) V h c) ?_;try conv=>cbv
  refine AB (r:= .agg [.sl (.sl AA) T,.sl AA v]) H (MV (G.BJ b) f c (G.CV hu b g h) (by have:=G.mul b;omega)) ?_;try conv=>cbv
  refine⟨[(T,v)],fun _=>⟨rfl,by decide,rfl,⟨rfl,by first | exact t1 | exact t2 | exact t4 | simp[Bg,Bo,cells],trivial⟩⟩,.inr ?_⟩;try conv=>cbv
  refine .inl ⟨[(T,v)],fun _=>⟨rfl,a2,rfl,by show (o.length+1)*48<=140737488355328;(try simp only[List.length_take,List.length_drop]);omega⟩,?_⟩;intro (D:List (el Bc)) j t;have P:D=(o:List (el Bc))++([(T,v)]:List (el Bc)):=t.1;have Q:j=List.length (α:=(el Bc)) D:=t.2;conv=>cbv
  intro F a1;conv=>cbv
  refine Ah ?_;refine⟨L.length-(i'+1),?_,?_⟩
  ·omega
  rw[I];exact .inr ⟨D,j,i'+1,n,F,rfl,rfl,⟨hn,⟨by omega⟩,by omega,Q⟩,by rw[P,hinv,Cb z,List.map_append];simp[nm,f,c],rfl⟩
 have W:=d.1 rfl;refine AB H (Rl (G.BJ b) f V h.mem W c) ?_;conv=>cbv
 refine AB (r:= .agg [.sl (.sl AA) T,.sl AA v]) H (MV (G.BJ b) f c (G.CV hu b g h) (by have:=G.mul b;omega)) ?_;try conv=>cbv
 refine⟨[(T,v)],fun _=>⟨rfl,by decide,rfl,⟨rfl,by first | exact t1 | exact t2 | exact t4 | simp[Bg,Bo,cells],trivial⟩⟩,.inr ?_⟩;try conv=>cbv
 refine .inl ⟨[(T,v)],fun _=>⟨rfl,a2,rfl,by show (o.length+1)*48<=140737488355328;(try simp only[List.length_take,List.length_drop]);omega⟩,?_⟩;intro (D:List (el Bc)) j t;have P:D=(o:List (el Bc))++([(T,v)]:List (el Bc)):=t.1;have Q:j=List.length (α:=(el Bc)) D:=t.2;conv=>cbv
 intro F a1;conv=>cbv
 refine Ah ?_;refine⟨L.length-(i'+1),?_,?_⟩
 ·omega
 rw[I];exact .inr ⟨D,j,i'+1,n,F,rfl,rfl,⟨hn,⟨by omega⟩,by omega,Q⟩,by rw[P,hinv,Cb z,List.map_append];simp[nm,f,c],rfl⟩
noncomputable def Bz (u v:List (List Rat)):List (List Rat):=Bf [(u,0),(v,0)]
theorem Th (G:Gam TT R K S) {T1 T2:List LR} {A1 A2:LR} {u v:List (List Rat)} {x y:Re} (hu:TT u) (X:TT v) (H:T1=tw u) (I:T2=tw v) (D:A1=em u x) (F:A2=em v y) (Y:El u S x) (Z:El v S y) {A B C:LR} {g:FuncId} (V:T=tw (Bz u v)) (P:A=em (Bz u v) x) (Q:B=em (Bz u v) y) (W:CF g [.one (.sl (.sl AA) T),.one (.sl AA A),.one (.sl AA B)] (.one (.sl AA C))):CF 219 [.agg (As T1 A1),.agg (As T2 A2),.one (.fn g)] (.AI [(true,(As T C)),(false,[.int .i64 0])]):=by
 obtain⟨O,p⟩:∃z:List (el Bc),z=[(T,A),(T,B)]:=⟨_,rfl⟩
 have U:O.length=2:=by rw[p];rfl
 have J:O[0]? =some (T,A):=by rw[p];rfl
 have N:O[1]? =some (T,B):=by rw[p];rfl
 refine Av Tryz.func219 fun E M=>?_
 conv=>cbv
 refine⟨[(T1,A1),(T2,A2)],fun _=>⟨rfl,by decide,rfl,⟨rfl,by first | exact t1 | exact t2 | exact t4 | simp[Bg,Bo,cells],⟨rfl,by first | exact t1 | exact t2 | exact t4 | simp[Bg,Bo,cells],trivial⟩⟩⟩,.inr ?_⟩;try conv=>cbv
 refine AB (r:= .AI [(false,[.sl Bc O]),(false,[.int .i64 0])]) M (Sb (ns:=[(u,x),(v,y)]) G (by intro n h;simp at h;rcases h with rfl | rfl;exact hu;exact X) (by rw[H,I,D,F];rfl) (by intro n h;simp at h;rcases h with rfl | rfl;exact Y;exact Z) (by show 2<=1000000;decide) (by rw[p,V,P,Q];rfl)) ?_;try conv=>cbv
 refine AR ?_;conv=>cbv
 obtain⟨j,b⟩:=Ao (l:=O) (i:=0) (by omega);refine⟨j,fun _=>⟨by omega,b⟩,?_⟩;try conv=>cbv
 obtain⟨m,c⟩:=Ao (l:=O) (i:=0) (by omega);refine⟨m,fun _=>⟨by omega,c⟩,?_⟩;try conv=>cbv
 obtain⟨o,d⟩:=Ao (l:=O) (i:=1) (by omega);refine⟨o,fun _=>⟨by omega,d⟩,?_⟩;try conv=>cbv
 have f:=Option.some.inj (b.symm.trans J);have s:=Option.some.inj (c.symm.trans J);have t:=Option.some.inj (d.symm.trans N);refine .inl ⟨[.one (.sl (.sl AA) j.1),.one (.sl AA m.2),.one (.sl AA o.2)],.one (.sl AA C),fun _=>t3,fun _=>IN M (by rw[f,s,t];exact W),?_⟩;try conv=>cbv
 refine g2 rfl ?_;exact AF ⟨⟨rfl,congrArg _ (by rw[f]),rfl,trivial⟩,t2,trivial⟩
end Go.Abs
namespace Go.Abs
open Go.RowKit
section
variable {TT:List (List Rat)->Prop} {R K S:Nat}
theorem Gam.Bz (G:Gam TT R K S) {u v:List (List Rat)} (hu:TT u) (d:TT v):TT (Go.Abs.Bz u v)/\Bl u (Go.Abs.Bz u v)/\Bl v (Go.Abs.Bz u v):=by
 have b:∀n∈[(u,(0:Re)),(v,0)],TT n.1:=by intro n c;simp at c;rcases c with rfl | rfl;exact hu;exact d
 have he:=Io G b;exact⟨G.Bf b,he (u,0) (by simp),he (v,0) (by simp)⟩
end
theorem H0 (T0:List LR):∃z:List LR,z=T0:=⟨_,rfl⟩
theorem EV (T0:LR):∃z:LR,z=T0:=⟨_,rfl⟩
theorem gO {TT:List (List Rat)->Prop} {R K S:Nat} (G:Gam TT R K S) {T1 T2:List LR} {A1 A2:LR} {u v:List (List Rat)} {x y:Re} (hu:TT u) (j:TT v) (f:T1=tw u) (g:T2=tw v) (c:A1=em u x) (d:A2=em v y) (t:El u S x) (z:El v S y) {T:List LR} {C:LR} (s:T=tw (Bz u v)) (D:C=em (Bz u v) (x+y)):CF 151 [.agg (As T1 A1),.agg (As T2 A2)] (.AI [(true,(As T C)),(false,[.int .i64 0])]):=by
 obtain⟨b,h,i⟩:=G.Bz hu j;have l:=G.CV hu b h t;have m:=G.CV j b i z;have hmul:=G.mul b;obtain⟨A,o⟩:=EV (em (Bz u v) x);obtain⟨B,p⟩:=EV (em (Bz u v) y);refine Av Tryz.func151 fun E F=>?_
 conv=>cbv
 refine AB F (Th G hu j f g c d t z s o p (L8 (G.BJ b) s o p l m (by omega) (by omega) D)) ?_;conv=>cbv
 exact AF ⟨t3,t2,trivial⟩
theorem gV {TT:List (List Rat)->Prop} {R K S:Nat} (G:Gam TT R K S) {T1 T2:List LR} {A1 A2:LR} {u v:List (List Rat)} {x y:Re} (hu:TT u) (j:TT v) (f:T1=tw u) (g:T2=tw v) (c:A1=em u x) (d:A2=em v y) (t:El u S x) (z:El v S y) {T:List LR} {C:LR} (s:T=tw (Bz u v)) (D:C=em (Bz u v) (x-y)):CF 158 [.agg (As T1 A1),.agg (As T2 A2)] (.AI [(true,(As T C)),(false,[.int .i64 0])]):=by
 obtain⟨b,h,i⟩:=G.Bz hu j;have l:=G.CV hu b h t;have m:=G.CV j b i z;have hmul:=G.mul b;obtain⟨A,o⟩:=EV (em (Bz u v) x);obtain⟨B,p⟩:=EV (em (Bz u v) y);refine Av Tryz.func158 fun E F=>?_
 conv=>cbv
 refine AB F (Th G hu j f g c d t z s o p (Pq (G.BJ b) s o p l m (by omega) (by omega) D)) ?_;conv=>cbv
 exact AF ⟨t3,t2,trivial⟩
theorem Wy {TT:List (List Rat)->Prop} {R K S:Nat} (G:Gam TT R K S) {T1 T2:List LR} {A1 A2:LR} {u v:List (List Rat)} {x y:Re} (hu:TT u) (j:TT v) (f:T1=tw u) (g:T2=tw v) (c:A1=em u x) (d:A2=em v y) (t:El u S x) (z:El v S y) {T:List LR} {C:LR} (s:T=tw (Bz u v)) (D:C=em (Bz u v) (x*y)):CF 159 [.agg (As T1 A1),.agg (As T2 A2)] (.AI [(true,(As T C)),(false,[.int .i64 0])]):=by
 obtain⟨b,h,i⟩:=G.Bz hu j;have l:=G.CV hu b h t;have m:=G.CV j b i z;have hmul:=G.mul b;obtain⟨A,o⟩:=EV (em (Bz u v) x);obtain⟨B,p⟩:=EV (em (Bz u v) y);refine Av Tryz.func159 fun E F=>?_
 conv=>cbv
 refine AB F (Th G hu j f g c d t z s o p (JG (G.BJ b) s o p l m (by omega) D)) ?_;conv=>cbv
 exact AF ⟨t3,t2,trivial⟩
theorem gS {TT:List (List Rat)->Prop} {R K S:Nat} (G:Gam TT R K S) {T1:List LR} {A1:LR} {u:List (List Rat)} {x:Re} (hu:TT u) (c:T1=tw u) (b:A1=em u x) (f:El u S x) {C:LR} (g:C=em u (-x)):CF 81 [.agg (As T1 A1)] (.agg (As T1 C)):=by
 have hmul:=G.mul hu;refine Av Tryz.func81 fun E d=>?_
 conv=>cbv
 refine AB d (MV (G.BJ hu) c b f) ?_;conv=>cbv
 refine AB d (W0 (G.BJ hu) c b f (by omega) g) ?_;conv=>cbv
 exact AF ⟨t3,trivial⟩
theorem gT {TT:List (List Rat)->Prop} {R K S:Nat} (G:Gam TT R K S) {T1:List LR} {A1:LR} {u:List (List Rat)} {x:Re} (hu:TT u) (d:T1=tw u) (b:A1=em u x) (g:El u S x) {c:Int} (hc:c=Bi x):CF 79 [.agg (As T1 A1)] (.one (.int .i64 c)):=by
 refine Av Tryz.func79 fun E f=>?_
 conv=>cbv
 refine AB f (Nl (G.BJ hu) d b g ((G.fit hu).mono (Nat.le_add_right _ _)).v0 (G.fit hu).vR hc) ?_;conv=>cbv
 exact AF ⟨t2,trivial⟩
theorem gU {TT:List (List Rat)->Prop} {R K S:Nat} (G:Gam TT R K S) {T1:List LR} {A1:LR} {u:List (List Rat)} {x:Re} (hu:TT u) (c:T1=tw u) (b:A1=em u x) (l:El u S x) (hw:TT (Aj u x)) (i:0<=x) {T:List LR} {C:LR} (h:T=tw (Aj u x)) (f:C=em (Aj u x) (Re.sqrt x)) {s:Nat} (j:El (Aj u x) s (Re.sqrt x)) (d:s<=60000000000000):CF 199 [.agg (As T1 A1)] (.AI [(true,(As T C)),(false,[.int .i64 0])]):=by
 refine Av Tryz.func199 fun E g=>?_
 conv=>cbv
 refine AB g (SY (G.BJ hu) (G.BJ hw) (G.ht hw) c b l ((G.fit hu).mono (Nat.le_add_right _ _)) i h f) ?_;conv=>cbv
 refine AR ?_;conv=>cbv
 refine AB g (MV (G.BJ hw) h f j d) ?_;conv=>cbv
 exact AF ⟨t3,t2,trivial⟩
theorem gP {TT:List (List Rat)->Prop} {R K S:Nat} (G:Gam TT R K S) {T1 T2:List LR} {A1 A2:LR} {u v:List (List Rat)} {x y:Re} (hu:TT u) (o:TT v) (h:T1=tw u) (c:T2=tw v) (d:A1=em u x) (f:A2=em v y) (z:El u S x) (B:El v S y) {i:Re} (t:In v i) (l:y*i=1) (j:El v S i) (g:II v.length R S<=60000000000000) {T:List LR} {C:LR} (s:T=tw (Bz u v)) (p:C=em (Bz u v) (x*i)):CF 104 [.agg (As T1 A1),.agg (As T2 A2)] (.AI [(true,(As T C)),(false,[.int .i64 0])]):=by
 refine Av Tryz.func104 fun E m=>?_
 conv=>cbv
 obtain⟨D,b⟩:=EV (em v i);refine AB m (Pk (G.BJ o) c f B t l g b) ?_;conv=>cbv
 refine AR ?_;conv=>cbv
 refine AB m (Wy G hu o h c d b z j s p) ?_;conv=>cbv
 exact AF ⟨t3,t2,trivial⟩
theorem Tt {u:List (List Rat)} {x y:Re} (b:In u x) (c:In u y):em u x=em u y↔x=y:=
 ⟨fun h=>by rw[<-FR b,<-FR c,dO h],fun h=>by rw[h]⟩
theorem sK {u v:List (List Rat)} (h:u<:+v) (k:v<:+u):u=v:=h.eq_of_length_le k.length_le
theorem gQ {TT:List (List Rat)->Prop} {R K S:Nat} (G:Gam TT R K S) {T1 T2:List LR} {A1 A2:LR} {u v:List (List Rat)} {x y:Re} (hu:TT u) (U:TT v) (F:T1=tw u) (H:T2=tw v) (t:A1=em u x) (D:A2=em v y) (X:El u S x) (Y:El v S y) {c:Bool} (hc:c=true↔x=y):CF 80 [.agg (As T1 A1),.agg (As T2 A2)] (.one (.bool c)):=by
 obtain⟨N,a6,a7⟩:=G.Bz hu U;have I:=G.CV hu N a6 X;have J:=G.CV U N a7 Y;have hmul:=G.mul N;obtain⟨A,P⟩:=EV (em (Bz u v) x);obtain⟨B,Q⟩:=EV (em (Bz u v) y);obtain⟨T,hT⟩:=H0 (tw (Bz u v));obtain⟨O,V⟩:∃z:List (el Bc),z=[(T,A),(T,B)]:=⟨_,rfl⟩
 have a8:O.length=2:=by rw[V];rfl
 have h0:O[0]? =some (T,A):=by rw[V];rfl
 have h1:O[1]? =some (T,B):=by rw[V];rfl
 refine Av Tryz.func80 fun E M=>?_
 conv=>cbv
 obtain⟨a2,h⟩:=Ep (v<:+u);refine AB M (Ki (G.BJ hu) (G.BJ U) F H h) ?_;conv=>cbv
 cases a2 <;> conv=>cbv
 ·have Z:=fun q=>Bool.false_ne_true (h.2 q)
  refine⟨[(T1,A1),(T2,A2)],fun _=>⟨rfl,by decide,rfl,⟨rfl,by first | exact t1 | exact t2 | exact t4 | simp[Bg,Bo,cells],⟨rfl,by first | exact t1 | exact t2 | exact t4 | simp[Bg,Bo,cells],trivial⟩⟩⟩,.inr ?_⟩;try conv=>cbv
  refine AB (r:= .AI [(false,[.sl Bc O]),(false,[.int .i64 0])]) M (Sb (ns:=[(u,x),(v,y)]) G (by intro n o;simp at o;rcases o with rfl | rfl;exact hu;exact U) (by rw[F,H,t,D];rfl) (by intro n o;simp at o;rcases o with rfl | rfl;exact X;exact Y) (by show 2<=1000000;decide) (by rw[V,hT,P,Q];rfl)) ?_;try conv=>cbv
  refine BM ?_;conv=>cbv
  obtain⟨p,b⟩:=Ao (l:=O) (i:=0) (by omega);refine⟨p,fun _=>⟨by omega,b⟩,?_⟩;try conv=>cbv
  obtain⟨s,d⟩:=Ao (l:=O) (i:=1) (by omega);refine⟨s,fun _=>⟨by omega,d⟩,?_⟩;try conv=>cbv
  have f:=Option.some.inj (b.symm.trans h0);have g:=Option.some.inj (d.symm.trans h1);have m:c=decide (p.2=s.2):=by rw[Bool.eq_iff_iff,decide_eq_true_eq,hc,f,g,P,Q];exact (Tt I.mem J.mem).symm
  refine AB (r:= .one (.bool c)) M (SD (by rw[f];exact P) (by rw[g];exact Q) (I.Cg (by omega)) (J.Cg (by omega)) m) ?_;try conv=>cbv
  refine g2 rfl ?_;exact AF ⟨t2,trivial⟩
 have Z:=h.1 rfl;obtain⟨a5,j⟩:=Ep (u<:+v);refine AB M (Ki (G.BJ U) (G.BJ hu) H F j) ?_;conv=>cbv
 cases a5 <;> conv=>cbv
 ·have a1:=fun q=>Bool.false_ne_true (j.2 q)
  refine⟨[(T1,A1),(T2,A2)],fun _=>⟨rfl,by decide,rfl,⟨rfl,by first | exact t1 | exact t2 | exact t4 | simp[Bg,Bo,cells],⟨rfl,by first | exact t1 | exact t2 | exact t4 | simp[Bg,Bo,cells],trivial⟩⟩⟩,.inr ?_⟩;try conv=>cbv
  refine AB (r:= .AI [(false,[.sl Bc O]),(false,[.int .i64 0])]) M (Sb (ns:=[(u,x),(v,y)]) G (by intro n o;simp at o;rcases o with rfl | rfl;exact hu;exact U) (by rw[F,H,t,D];rfl) (by intro n o;simp at o;rcases o with rfl | rfl;exact X;exact Y) (by show 2<=1000000;decide) (by rw[V,hT,P,Q];rfl)) ?_;try conv=>cbv
  refine BM ?_;conv=>cbv
  obtain⟨p,b⟩:=Ao (l:=O) (i:=0) (by omega);refine⟨p,fun _=>⟨by omega,b⟩,?_⟩;try conv=>cbv
  obtain⟨s,d⟩:=Ao (l:=O) (i:=1) (by omega);refine⟨s,fun _=>⟨by omega,d⟩,?_⟩;try conv=>cbv
  have f:=Option.some.inj (b.symm.trans h0);have g:=Option.some.inj (d.symm.trans h1);have m:c=decide (p.2=s.2):=by rw[Bool.eq_iff_iff,decide_eq_true_eq,hc,f,g,P,Q];exact (Tt I.mem J.mem).symm
  refine AB (r:= .one (.bool c)) M (SD (by rw[f];exact P) (by rw[g];exact Q) (I.Cg (by omega)) (J.Cg (by omega)) m) ?_;try conv=>cbv
  refine g2 rfl ?_;exact AF ⟨t2,trivial⟩
 have a1:=j.1 rfl;have W:=sK a1 Z;have m:c=decide (A1=A2):=by rw[Bool.eq_iff_iff,decide_eq_true_eq,hc,t,D,<-W];exact (Tt X.mem (W ▸ Y.mem)).symm
 refine AB M (SD t D (X.Cg (by omega)) (Y.Cg (by omega)) m) ?_;conv=>cbv
 exact AF ⟨t2,trivial⟩
theorem gR {q:Rat} {b1 b2:Bool} {l1 l2:List UInt32} {C:LR} (b:B6 q b1 l1 b2 l2) (f:Cp q) (c:C=em [] (Re.ofRat q)):CF 179 [.agg (CX b1 l1 b2 l2)] (.agg (As [] C)):=by
 refine Av Tryz.func179 fun E d=>?_
 conv=>cbv
 refine AB d (Yr b f) ?_;conv=>cbv
 refine⟨[((b1,l1),(b2,l2))],fun _=>⟨rfl,by decide,rfl,⟨rfl,by first | exact t1 | exact t2 | exact t4 | simp[Bg,Bo,cells],trivial⟩⟩,.inr ?_⟩;try conv=>cbv
 exact AF ⟨⟨rfl,AJ,congrArg _ (by rw[c,Fc,<-b.rp]),trivial⟩,trivial⟩
theorem MB {x:Int} {C:LR} (g: -9223372036854775808<=x/\x<9223372036854775808) (f:Cp x) (d:C=em [] (Re.ofRat x)):CF 97 [.one (.int .i64 x)] (.agg (As [] C)):=by
 refine Av Tryz.func97 fun E c=>?_
 conv=>cbv
 obtain⟨j,l,h,i,b⟩:=Ca (x:Rat);refine AB c (JH g rfl b) ?_;conv=>cbv
 refine AB c (gR b f d) ?_;conv=>cbv
 exact AF ⟨t3,trivial⟩
end Go.Abs
