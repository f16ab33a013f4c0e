/- Part 37 of a proof. Conditions: each theorem's own. -/
import Derived.Test.YtoonaidhfikkeaaGreatPk32
import Derived.Test.YtoonaidhfikkeaaGreatPk35
set_option linter.all false
set_option maxHeartbeats 8000000
open Go.Proofs
namespace Go.Abs
open Go.RowKit
def Df (w:List (List Rat)) (RL:List LR):List (List Rat)->Prop
 | []=>True
 | r::u=>Df w RL u/\∃wk,wk<:+w/\In wk (rt u r)/\RL[u.length]? =some (em wk (rt u r))
variable {A C:LR} {K R S a k mm n:Nat} {RL T:List LR} {TT:List (List Rat)->Prop} {p q x:Re} {r:List Rat} {u w:List (List Rat)}
theorem Df.mono {w':List (List Rat)} {X:List LR} (h:w<:+w'):∀{u:List (List Rat)},Df w RL u->Df w' (RL++X) u
 | [],_=>trivial
 | r::u,⟨c,g,d,f,b⟩=>⟨c.mono h,g,d.trans h,f,by rw[List.getElem?_append_left (D9 b)];exact b⟩
noncomputable def Bp (t:List (List Rat)):List (List Rat)->List LR
 | []=>[]
 | r::u=>Bp t u++[em (ext t (r::u)) (rt u r)]
theorem I1 (t:List (List Rat)):∀u,(Bp t u).length=u.length
 | []=>rfl
 | r::u=>by rw[Bp,List.length_append,I1 t u];rfl
theorem EI {t:List (List Rat)} (ht:AQ t):∀{u:List (List Rat)},AQ u->Df (ext t u) (Bp t u) u
 | [],_=>trivial
 | r::u,hu=>by
  refine⟨(EI ht hu.1).mono (JX _ _),ext t (r::u),List.suffix_refl _,(GV ht hu).2.root,?_⟩;rw[Bp,List.getElem?_append_right (by rw[I1];omega),I1,Nat.sub_self];rfl
theorem Ei {t:List (List Rat)} (ht:AQ t):∀{u:List (List Rat)},AQ u->Aq u t->ext t u=t
 | [],_,_=>rfl
 | r::u,hu,h=>by
  rw[ext,Ei ht hu.1 h.tail];exact DA ⟨rt u r,h.root,Bg hu⟩
def LL (f:FuncId) (S:Nat) (w u:List (List Rat)):Prop:=∀{T RL:List LR} {A C:LR} {x:Re},T=tw w->Df w RL u->A=em u x->El u S x->C=em w x->
 CF f [.agg [.sl (.sl AA) T,.sl (.sl AA) RL],.one (.sl AA A)] (.one (.sl AA C))
def LM (f:FuncId) (S:Nat) (w u:List (List Rat)):Prop:=∀{T RL:List LR} {A C:LR} {x:Re} {mm:Nat},T=tw w->Df w RL u->mm=RL.length->A=em u x->El u S x->C=em w x->
 Dc Tryz.prog f [.agg [.sl (.sl AA) T,.AM (.sl AA) 0 0 0 mm],.one (.sl AA A)] (.arr 0 (.sl AA) RL) (.one (.sl AA C))
theorem Rq {b:Nat}:2^a<2^b↔a<b:=Nat.pow_lt_pow_iff_right (by decide)
theorem Ha (c:a=2^n+2^n) (h:2^(k+1)<a):k<n:=by
 have b:a=2^(n+1):=by rw[c,Nat.pow_succ];omega
 rw[b,Rq] at h;omega
theorem HZ (c:a=2^n+2^n) (h:¬2^(k+1)<a):n<=k:=by
 have b:a=2^(n+1):=by rw[c,Nat.pow_succ];omega
 rw[b,Rq] at h;omega
theorem XA {u:List (List Rat)} {x:Re} (G:Gam TT R K S) (hw:TT w) (t:T=tw w) {q:Rat} (m:A=em [] (Re.ofRat q)) (v:BK q) (p:C=em w (Re.ofRat q)):CF 201 [.agg [.sl (.sl AA) T,.sl (.sl AA) RL],.one (.sl AA A)] (.one (.sl AA C)):=by
 have d:A=[rp q]:=m.trans (Ci q);have o:A.length=1:=by rw[d];rfl
 refine AE Tryz.func201 (by kernel_rfl) rfl fun E s=>?_
 conv=>cbv
 rintro y ⟨j,f10⟩;conv=>cbv
 intro g c;conv=>cbv
 cases g <;> conv=>cbv
 ·have f:=Ab c;exact absurd f (by omega)
 have f:=Ad c;obtain⟨h,b⟩:=AG (l:=A) (i:=0) (by omega);refine⟨h,fun _=>⟨by omega,b⟩,?_⟩;try conv=>cbv
 refine cL s (Ga (G.AL hw) t (C8 d b) v p) ⟨rfl,t4,trivial⟩ ?_;try conv=>cbv
 refine g2 rfl ?_;exact fA ⟨t2,trivial⟩ rfl (by simp)
theorem XC (G:Gam TT R K S) (hw:TT w) (hT:T=tw w) (hu:TT (r::u)) (I:Aq (r::u) w) (ih:LL 201 S w u) (hR:Df w RL (r::u)) (H:A=em (r::u) x) (hx:El (r::u) S x) (h:x=p+q*rt u r) (N:El u S p) (O:El u S q) (h0:q=0) (hC:C=em w x):CF 201 [.agg [.sl (.sl AA) T,.sl (.sl AA) RL],.one (.sl AA A)] (.one (.sl AA C)):=by
 have g:=(G.AL hu).red;have l:A.length=2^u.length+2^u.length:=by rw[H,Ao hx.mem,BI]
 have ar:=Ce u.length;have an:(r::u).length<=8:=G.ht hu;have a7:(r::u).length=u.length+1:=rfl;have hmul:=G.mul hw;have Q:El w K (rt u r):=by have:=G.BF hu hw I (HQ g);rwa [Nat.zero_add] at this
 obtain⟨wk,au,aa,L⟩:=hR.2;obtain⟨rk,P⟩:=xR (em wk (rt u r));rw[<-P] at L;refine AE Tryz.func201 (by kernel_rfl) rfl fun E hE=>?_
 conv=>cbv
 rintro ax ⟨ae,f10⟩;conv=>cbv
 intro Y i;conv=>cbv
 cases Y <;> conv=>cbv
 ·have y:=Ab i;rintro ay ⟨af,f19⟩;conv=>cbv
  intro Z aj;conv=>cbv
  refine g2 ⟨by omega,by omega,i64 (by omega)⟩ ?_;refine .inr ?_;obtain⟨J0,c⟩:=xJ fun vs bl k=>∃(k':Nat) (z V:Int),vs=[.one (.sl AA A),.one (.Am 2 0 0),.one (.int .i64 z),.one (.int .i64 V)]/\bl=[.var 0 [.sl (.sl AA) T,.sl (.sl AA) RL]]/\(AK z (A.length/2)/\AK V k'/\k'<=u.length)/\k=u.length-k'
  refine⟨[1,2,5,6],[2],J0,⟨u.length-0,by rw[c];exact⟨0,Z,0,rfl,rfl,⟨⟨by omega⟩,Ah 0,by omega⟩,rfl⟩⟩,?_⟩;intro vs bl av hj;rw[c] at hj;obtain⟨k',z,V,rfl,rfl,⟨m,J,aq⟩,ao⟩:=hj;conv=>cbv
  have ah:=m.eq;have ai:=J.eq;intro az ak;conv=>cbv
  refine g1 (by omega) ?_;intro aA F;conv=>cbv
  refine g2 (by omega) ?_;rintro aB ⟨ag,f25⟩;conv=>cbv
  have ab:=(DF (k:=k'+1) F (by omega) (by omega)).eq;intro a1 j;conv=>cbv
  cases a1 <;> conv=>cbv
  ·have U:=AR j;have M:k'=u.length:=by have:=HZ l (show ¬2^(k'+1)<A.length by omega);omega
   intro m32 a8;conv=>cbv
   refine g2 (by omega) ?_;intro D a6;conv=>cbv
   intro W s;conv=>cbv
   have d:W=em u p:=by rw[s,List.drop_zero,show D=A.length/2 by omega,H,Bb g N.mem O.mem h]
   obtain⟨aC,b⟩:=xR (em w (p));refine cL hE (ih hT hR.1 d N b) ⟨t2,rfl,trivial⟩ ?_;try conv=>cbv
   refine g2 rfl ?_;intro aw v;conv=>cbv
   refine g2 (by omega) ?_;rintro B ad ⟨a5,o⟩;conv=>cbv
   intro X t;conv=>cbv
   have f:X=em u q:=by rw[t,show B=A.length/2 by omega,o,v,List.take_length,H,BO g N.mem O.mem h]
   refine cL hE (Gg (G.AL (G.sub hu)).red O.mem f h0) t1 ?_;try conv=>cbv
   exact fA ⟨⟨rfl,congrArg _ (by rw[hC,b];congr 1;rw[h,h0];clear ih;grind),trivial⟩,trivial⟩ rfl (by simp)
  have U:=AS j;refine .inr ?_;have M:k'<u.length:=Ha l (show 2^(k'+1)<A.length by omega);intro a2 al;conv=>cbv
  refine g1 (by omega) ?_;refine⟨u.length-(k'+1),?_,?_⟩
  ·omega
  rw[c];exact⟨k'+1,z,a2,rfl,rfl,⟨m,⟨by omega⟩,by omega⟩,rfl⟩
 have y:=Ad i;exact absurd y (by omega)
theorem XB (G:Gam TT R K S) (hw:TT w) (H:T=tw w) (hu:TT (r::u)) (c:Aq (r::u) w) (ih:LL 201 S w u) (hR:Df w RL (r::u)) (X:A=em (r::u) x) (hx:El (r::u) S x) (f:x=p+q*rt u r) (Q:El u S p) (t:El u S q) (h0:q≠0) (hC:C=em w x):CF 201 [.agg [.sl (.sl AA) T,.sl (.sl AA) RL],.one (.sl AA A)] (.one (.sl AA C)):=by
 have d:=(G.AL hu).red;have B:A.length=2^u.length+2^u.length:=by rw[X,Ao hx.mem,BI]
 have aH:=Ce u.length;have aE:(r::u).length<=8:=G.ht hu;have ao:(r::u).length=u.length+1:=rfl;have hmul:=G.mul hw;have b:El w K (rt u r):=by have:=G.BF hu hw c (HQ d);rwa [Nat.zero_add] at this
 obtain⟨wk,aa,U,F⟩:=hR.2;obtain⟨rk,V⟩:=xR (em wk (rt u r));rw[<-V] at F;refine AE Tryz.func201 (by kernel_rfl) rfl fun E v=>?_
 conv=>cbv
 rintro aL ⟨aw,f10⟩;conv=>cbv
 intro ag y;conv=>cbv
 cases ag <;> conv=>cbv
 ·have W:=Ab y;rintro aM ⟨ax,f19⟩;conv=>cbv
  intro ah aB;conv=>cbv
  refine g2 ⟨by omega,by omega,i64 (by omega)⟩ ?_;refine .inr ?_;obtain⟨J0,l⟩:=xJ fun vs bl k=>∃(k':Nat) (Y Z:Int),vs=[.one (.sl AA A),.one (.Am 2 0 0),.one (.int .i64 Y),.one (.int .i64 Z)]/\bl=[.var 0 [.sl (.sl AA) T,.sl (.sl AA) RL]]/\(AK Y (A.length/2)/\AK Z k'/\k'<=u.length)/\k=u.length-k'
  refine⟨[1,2,5,6],[2],J0,⟨u.length-0,by rw[l];exact⟨0,ah,0,rfl,rfl,⟨⟨by omega⟩,Ah 0,by omega⟩,rfl⟩⟩,?_⟩;intro vs bl aI hj;rw[l] at hj;obtain⟨k',Y,Z,rfl,rfl,⟨D,a7,aG⟩,aF⟩:=hj;conv=>cbv
  have az:=D.eq;have aA:=a7.eq;intro aN aC;conv=>cbv
  refine g1 (by omega) ?_;intro aO a6;conv=>cbv
  refine g2 (by omega) ?_;rintro aP ⟨ay,f25⟩;conv=>cbv
  have ar:=(DF (k:=k'+1) a6 (by omega) (by omega)).eq;intro ai z;conv=>cbv
  cases ai <;> conv=>cbv
  ·have ab:=AR z;have a8:k'=u.length:=by have:=HZ B (show ¬2^(k'+1)<A.length by omega);omega
   intro m32 aq;conv=>cbv
   refine g2 (by omega) ?_;intro a5 an;conv=>cbv
   intro ad L;conv=>cbv
   have m:ad=em u p:=by rw[L,List.drop_zero,show a5=A.length/2 by omega,X,Bb d Q.mem t.mem f]
   obtain⟨aQ,g⟩:=xR (em w (p));refine cL v (ih H hR.1 m Q g) ⟨t2,rfl,trivial⟩ ?_;try conv=>cbv
   refine g2 rfl ?_;intro aJ O;conv=>cbv
   refine g2 (by omega) ?_;rintro a1 au ⟨ak,I⟩;conv=>cbv
   intro ae M;conv=>cbv
   have o:ae=em u q:=by rw[M,show a1=A.length/2 by omega,I,O,List.take_length,X,BO d Q.mem t.mem f]
   refine cL v (Fc (G.AL (G.sub hu)).red t.mem o h0) t1 ?_;try conv=>cbv
   intro aK P;conv=>cbv
   refine g2 (by omega) ?_;rintro a2 av ⟨al,J⟩;conv=>cbv
   intro af N;conv=>cbv
   have s:af=em u q:=by rw[N,show a2=A.length/2 by omega,J,P,List.take_length,X,BO d Q.mem t.mem f]
   obtain⟨aR,h⟩:=xR (em w (q));refine cL v (ih H hR.1 s t h) ⟨t2,rfl,trivial⟩ ?_;try conv=>cbv
   refine⟨rk,fun _=>⟨by omega,by rw[show Z.toNat=u.length by omega];exact F⟩,?_⟩;try conv=>cbv
   obtain⟨aS,i⟩:=xR (em w (rt u r));refine cL v (Kc (G.AL hw) H V U aa i) t2 ?_;try conv=>cbv
   obtain⟨aT,j⟩:=xR (em w (q*rt u r));refine cL v (FA (G.AL hw) H h i (G.BF (G.sub hu) hw c.tail t) b (by omega) j) t3 ?_;try conv=>cbv
   refine g2 rfl ?_;refine cL (r:= .one (.sl AA C)) v (G4 (G.AL hw) H g j (G.BF (G.sub hu) hw c.tail Q) ((G.BF (G.sub hu) hw c.tail t).mul (G.AL hw) b) (by omega) (by omega) (by rw[hC,f])) t3 ?_;try conv=>cbv
   exact fA ⟨t2,trivial⟩ rfl (by simp)
  have ab:=AS z;refine .inr ?_;have a8:k'<u.length:=Ha B (show 2^(k'+1)<A.length by omega);intro aj aD;conv=>cbv
  refine g1 (by omega) ?_;refine⟨u.length-(k'+1),?_,?_⟩
  ·omega
  rw[l];exact⟨k'+1,Y,aj,rfl,rfl,⟨D,⟨by omega⟩,by omega⟩,rfl⟩
 have W:=Ad y;exact absurd W (by omega)
theorem XD {u:List (List Rat)} {x:Re} (v:mm=RL.length) (G:Gam TT R K S) (hw:TT w) (t:T=tw w) {q:Rat} (m:A=em [] (Re.ofRat q)) (y:BK q) (p:C=em w (Re.ofRat q)):Dc Tryz.prog 201 [.agg [.sl (.sl AA) T,.AM (.sl AA) 0 0 0 mm],.one (.sl AA A)] (.arr 0 (.sl AA) RL) (.one (.sl AA C)):=by
 have d:A=[rp q]:=m.trans (Ci q);have o:A.length=1:=by rw[d];rfl
 refine Ff Tryz.func201 (by kernel_rfl) rfl fun E s=>?_
 conv=>cbv
 rintro z ⟨j,f10⟩;conv=>cbv
 intro g c;conv=>cbv
 cases g <;> conv=>cbv
 ·have f:=Ab c;exact absurd f (by omega)
 have f:=Ad c;obtain⟨h,b⟩:=AG (l:=A) (i:=0) (by omega);refine⟨h,fun _=>⟨by omega,b⟩,?_⟩;try conv=>cbv
 refine cL s (Ga (G.AL hw) t (C8 d b) y p) ⟨rfl,t4,trivial⟩ ?_;try conv=>cbv
 refine g2 rfl ?_;refine fun _=>⟨⟨⟨t2,trivial⟩,rfl,by simp⟩,rfl⟩
theorem XF (O:mm=RL.length) (G:Gam TT R K S) (hw:TT w) (hT:T=tw w) (hu:TT (r::u)) (J:Aq (r::u) w) (ih:LM 201 S w u) (hR:Df w RL (r::u)) (I:A=em (r::u) x) (hx:El (r::u) S x) (h:x=p+q*rt u r) (P:El u S p) (Q:El u S q) (h0:q=0) (hC:C=em w x):Dc Tryz.prog 201 [.agg [.sl (.sl AA) T,.AM (.sl AA) 0 0 0 mm],.one (.sl AA A)] (.arr 0 (.sl AA) RL) (.one (.sl AA C)):=by
 have g:=(G.AL hu).red;have l:A.length=2^u.length+2^u.length:=by rw[I,Ao hx.mem,BI]
 have av:=Ce u.length;have aq:(r::u).length<=8:=G.ht hu;have aa:(r::u).length=u.length+1:=rfl;have hmul:=G.mul hw;have V:El w K (rt u r):=by have:=G.BF hu hw J (HQ g);rwa [Nat.zero_add] at this
 obtain⟨wk,aw,ad,M⟩:=hR.2;obtain⟨rk,U⟩:=xR (em wk (rt u r));rw[<-U] at M;refine Ff Tryz.func201 (by kernel_rfl) rfl fun E hE=>?_
 conv=>cbv
 rintro az ⟨ag,f10⟩;conv=>cbv
 intro Z i;conv=>cbv
 cases Z <;> conv=>cbv
 ·have y:=Ab i;rintro aA ⟨ah,f19⟩;conv=>cbv
  intro a1 al;conv=>cbv
  refine g2 ⟨by omega,by omega,i64 (by omega)⟩ ?_;refine .inr ?_;obtain⟨J0,c⟩:=xJ fun vs bl k=>∃(k':Nat) (B X:Int),vs=[.one (.sl AA A),.one (.Am 2 0 0),.one (.int .i64 B),.one (.int .i64 X)]/\bl=[.arr 0 (.sl AA) RL,.var 0 [.sl (.sl AA) T,.AM (.sl AA) 0 0 0 mm]]/\(AK B (A.length/2)/\AK X k'/\k'<=u.length)/\k=u.length-k'
  refine⟨[1,2,5,6],[0,2],J0,⟨u.length-0,by rw[c];exact⟨0,a1,0,rfl,rfl,⟨⟨by omega⟩,Ah 0,by omega⟩,rfl⟩⟩,?_⟩;intro vs bl ax hj;rw[c] at hj;obtain⟨k',B,X,rfl,rfl,⟨m,L,au⟩,ar⟩:=hj;conv=>cbv
  have aj:=m.eq;have ak:=L.eq;intro aB an;conv=>cbv
  refine g1 (by omega) ?_;intro aC H;conv=>cbv
  refine g2 (by omega) ?_;rintro aD ⟨ai,f25⟩;conv=>cbv
  have ae:=(DF (k:=k'+1) H (by omega) (by omega)).eq;intro a2 j;conv=>cbv
  cases a2 <;> conv=>cbv
  ·have W:=AR j;have N:k'=u.length:=by have:=HZ l (show ¬2^(k'+1)<A.length by omega);omega
   intro m32 ab;conv=>cbv
   refine g2 (by omega) ?_;intro F a8;conv=>cbv
   intro z s;conv=>cbv
   have d:z=em u p:=by rw[s,List.drop_zero,show F=A.length/2 by omega,I,Bb g P.mem Q.mem h]
   obtain⟨a6,b⟩:=xR (em w (p));refine .inr (.inr (.inl ⟨0,.arr 0 (.sl AA) RL,[.agg [.sl (.sl AA) T,.AM (.sl AA) 0 0 0 mm],.one (.sl AA z)],.one (.sl AA a6),fun _=>⟨rfl,⟨⟨rfl,⟨⟨rfl,rfl⟩,rfl⟩,trivial⟩,rfl,trivial⟩⟩,fun _=>E4 hE (ih hT hR.1 O d P b),?_⟩));try conv=>cbv
   refine g2 rfl ?_;intro ay v;conv=>cbv
   refine g2 (by omega) ?_;rintro D af ⟨a7,o⟩;conv=>cbv
   intro Y t;conv=>cbv
   have f:Y=em u q:=by rw[t,show D=A.length/2 by omega,o,v,List.take_length,I,BO g P.mem Q.mem h]
   refine cL hE (Gg (G.AL (G.sub hu)).red Q.mem f h0) t1 ?_;try conv=>cbv
   refine fun _=>⟨⟨⟨⟨rfl,congrArg _ (by rw[hC,b];congr 1;rw[h,h0];clear ih;grind),trivial⟩,trivial⟩,rfl,by simp⟩,rfl⟩
  have W:=AS j;refine .inr ?_;have N:k'<u.length:=Ha l (show 2^(k'+1)<A.length by omega);intro a5 ao;conv=>cbv
  refine g1 (by omega) ?_;refine⟨u.length-(k'+1),?_,?_⟩
  ·omega
  rw[c];exact⟨k'+1,B,a5,rfl,rfl,⟨m,⟨by omega⟩,by omega⟩,rfl⟩
 have y:=Ad i;exact absurd y (by omega)
theorem XE (Z:mm=RL.length) (G:Gam TT R K S) (hw:TT w) (O:T=tw w) (hu:TT (r::u)) (c:Aq (r::u) w) (ih:LM 201 S w u) (hR:Df w RL (r::u)) (hA:A=em (r::u) x) (hx:El (r::u) S x) (h:x=p+q*rt u r) (hp:El u S p) (D:El u S q) (h0:q≠0) (hC:C=em w x):Dc Tryz.prog 201 [.agg [.sl (.sl AA) T,.AM (.sl AA) 0 0 0 mm],.one (.sl AA A)] (.arr 0 (.sl AA) RL) (.one (.sl AA C)):=by
 have g:=(G.AL hu).red;have M:A.length=2^u.length+2^u.length:=by rw[hA,Ao hx.mem,BI]
 have aN:=Ce u.length;have aK:(r::u).length<=8:=G.ht hu;have aw:(r::u).length=u.length+1:=rfl;have hmul:=G.mul hw;have b:El w K (rt u r):=by have:=G.BF hu hw c (HQ g);rwa [Nat.zero_add] at this
 obtain⟨wk,ag,a1,d⟩:=hR.2;obtain⟨rk,f⟩:=xR (em wk (rt u r));rw[<-f] at d;refine Ff Tryz.func201 (by kernel_rfl) rfl fun E I=>?_
 conv=>cbv
 rintro aR ⟨aC,f10⟩;conv=>cbv
 intro aj J;conv=>cbv
 cases aj <;> conv=>cbv
 ·have a5:=Ab J;rintro aS ⟨aD,f19⟩;conv=>cbv
  intro ak aH;conv=>cbv
  refine g2 ⟨by omega,by omega,i64 (by omega)⟩ ?_;refine .inr ?_;obtain⟨J0,v⟩:=xJ fun vs bl k=>∃(k':Nat) (hv kk:Int),vs=[.one (.sl AA A),.one (.Am 2 0 0),.one (.int .i64 hv),.one (.int .i64 kk)]/\bl=[.arr 0 (.sl AA) RL,.var 0 [.sl (.sl AA) T,.AM (.sl AA) 0 0 0 mm]]/\(AK hv (A.length/2)/\AK kk k'/\k'<=u.length)/\k=u.length-k'
  refine⟨[1,2,5,6],[0,2],J0,⟨u.length-0,by rw[v];exact⟨0,ak,0,rfl,rfl,⟨⟨by omega⟩,Ah 0,by omega⟩,rfl⟩⟩,?_⟩;intro vs bl aO hj;rw[v] at hj;obtain⟨k',hv,kk,rfl,rfl,⟨N,ae,aM⟩,aL⟩:=hj;conv=>cbv
  have aF:=N.eq;have aG:=ae.eq;intro aT aI;conv=>cbv
  refine g1 (by omega) ?_;intro aU ad;conv=>cbv
  refine g2 (by omega) ?_;rintro aV ⟨aE,f25⟩;conv=>cbv
  have az:=(DF (k:=k'+1) ad (by omega) (by omega)).eq;intro al L;conv=>cbv
  cases al <;> conv=>cbv
  ·have ah:=AR L;have af:k'=u.length:=by have:=HZ M (show ¬2^(k'+1)<A.length by omega);omega
   intro m32 ay;conv=>cbv
   refine g2 (by omega) ?_;intro ab av;conv=>cbv
   intro a6 U;conv=>cbv
   have y:a6=em u p:=by rw[U,List.drop_zero,show ab=A.length/2 by omega,hA,Bb g hp.mem D.mem h]
   obtain⟨ao,j⟩:=xR (em w (p));refine .inr (.inr (.inl ⟨0,.arr 0 (.sl AA) RL,[.agg [.sl (.sl AA) T,.AM (.sl AA) 0 0 0 mm],.one (.sl AA a6)],.one (.sl AA ao),fun _=>⟨rfl,⟨⟨rfl,⟨⟨rfl,rfl⟩,rfl⟩,trivial⟩,rfl,trivial⟩⟩,fun _=>E4 I (ih O hR.1 Z y hp j),?_⟩));try conv=>cbv
   refine g2 rfl ?_;intro aP X;conv=>cbv
   refine g2 (by omega) ?_;rintro a8 aA ⟨ar,P⟩;conv=>cbv
   intro ai V;conv=>cbv
   have z:ai=em u q:=by rw[V,show a8=A.length/2 by omega,P,X,List.take_length,hA,BO g hp.mem D.mem h]
   refine cL I (Fc (G.AL (G.sub hu)).red D.mem z h0) t1 ?_;try conv=>cbv
   intro aQ Y;conv=>cbv
   refine g2 (by omega) ?_;rintro aa aB ⟨au,Q⟩;conv=>cbv
   intro a7 W;conv=>cbv
   have B:a7=em u q:=by rw[W,show aa=A.length/2 by omega,Q,Y,List.take_length,hA,BO g hp.mem D.mem h]
   obtain⟨aq,m⟩:=xR (em w (q));refine .inr (.inr (.inl ⟨0,.arr 0 (.sl AA) RL,[.agg [.sl (.sl AA) T,.AM (.sl AA) 0 0 0 mm],.one (.sl AA a7)],.one (.sl AA aq),fun _=>⟨rfl,⟨⟨rfl,⟨⟨rfl,rfl⟩,rfl⟩,trivial⟩,rfl,trivial⟩⟩,fun _=>E4 I (ih O hR.1 Z B D m),?_⟩));try conv=>cbv
   refine⟨fun _=>⟨by omega,by have:=D9 d;omega⟩,?_⟩;intro a2 ax;conv=>cbv
   obtain⟨H,t⟩:=AG (l:=RL) (i:=a2) (by have:=D9 d;omega);refine⟨H,fun _=>t,?_⟩;try conv=>cbv
   have F:H=rk:=by have:=t;rw[show a2=u.length by omega,d] at this;exact (Option.some.inj this).symm
   have f:H=em wk (rt u r):=F.trans f;obtain⟨aW,o⟩:=xR (em w (rt u r));refine cL I (Kc (G.AL hw) O f a1 ag o) t2 ?_;try conv=>cbv
   obtain⟨aX,s⟩:=xR (em w (q*rt u r));refine cL I (FA (G.AL hw) O m o (G.BF (G.sub hu) hw c.tail D) b (by omega) s) t3 ?_;try conv=>cbv
   refine g2 rfl ?_;refine cL (r:= .one (.sl AA C)) I (G4 (G.AL hw) O j s (G.BF (G.sub hu) hw c.tail hp) ((G.BF (G.sub hu) hw c.tail D).mul (G.AL hw) b) (by omega) (by omega) (by rw[hC,h])) t3 ?_;try conv=>cbv
   refine fun _=>⟨⟨⟨t2,trivial⟩,rfl,by simp⟩,rfl⟩
  have ah:=AS L;refine .inr ?_;have af:k'<u.length:=Ha M (show 2^(k'+1)<A.length by omega);intro an aJ;conv=>cbv
  refine g1 (by omega) ?_;refine⟨u.length-(k'+1),?_,?_⟩
  ·omega
  rw[v];exact⟨k'+1,hv,an,rfl,rfl,⟨N,⟨by omega⟩,by omega⟩,rfl⟩
 have a5:=Ad J;exact absurd a5 (by omega)
theorem MS (G:Gam TT R K S) (hw:TT w):∀{u:List (List Rat)},TT u->Aq u w->LL 201 S w u:=by
 intro u
 induction u with
 | nil=>
  intro hu c T RL A C x i hR g b h;obtain⟨q,rfl⟩:=Bj.1 b.mem;have d:=b.BE (by have:=G.mul hw;omega);rw[Bv] at d;exact XA (u:=[]) (x:=0) G hw i g (d q List.mem_cons_self) h
 | cons r u m=>
  intro hu c T RL A C x i hR g b h;obtain⟨p,q,f,l,d⟩:=El.parts (G.AL hu).red b
  by_cases j:q=0
  ·exact XC G hw i hu c (m (G.sub hu) c.tail) hR g b f l d j h
  exact XB G hw i hu c (m (G.sub hu) c.tail) hR g b f l d j h
theorem imD (G:Gam TT R K S) (hw:TT w):∀{u:List (List Rat)},TT u->Aq u w->LM 201 S w u:=by
 intro u
 induction u with
 | nil=>
  intro hu d T RL A C x mm j hR b h c i;obtain⟨q,rfl⟩:=Bj.1 c.mem;have f:=c.BE (by have:=G.mul hw;omega);rw[Bv] at f;exact XD (u:=[]) (x:=0) b G hw j h (f q List.mem_cons_self) i
 | cons r u o=>
  intro hu d T RL A C x mm j hR b h c i;obtain⟨p,q,g,m,f⟩:=El.parts (G.AL hu).red c
  by_cases l:q=0
  ·exact XF b G hw j hu d (o (G.sub hu) d.tail) hR h c g m f l i
  exact XE b G hw j hu d (o (G.sub hu) d.tail) hR h c g m f l i
end Go.Abs
namespace Go.Abs
open Go.RowKit
variable {K R S:Nat} {T T2:List LR} {TT:List (List Rat)->Prop}
theorem LI {A B:LR} {R' s:Nat} {u:List (List Rat)} {v:Re} (h:AU R u) (h':AU R' (Ag u v)) (l:(Ag u v).length<=8) (g:T=tw u) (m:A=em u v) (j:El u s v) (o:Fit u.length R s) (f:0<=v) (b:T2=tw (Ag u v)) (c:B=em (Ag u v) (Re.sqrt v)):
  CF 173 [.one (.sl (.sl AA) T),.one (.sl AA A)] (.AF [(false,[.sl (.sl AA) T2]),(false,[.sl AA B]),(false,[.int .i64 0])]):=by
 by_cases d:Sq u v
 ·rw[DA d] at b c;have i:T2=T:=b.trans g.symm;subst i;exact Vk h g m j o ((I8 f).1 d) (Re.D6 v) (Re.C1 f) c
 rw[DK d] at h' l b c;rw[<-Hr j.mem] at c;exact Vn h g m j o (by rw[List.length_cons] at l;omega) f d rfl h' b c
theorem GS (u:List (List Rat)) (i:Nat):pre u i<:+u:=List.drop_suffix _ _
theorem Ho (u:List (List Rat)):pre u 0=[]:=by rw[pre,Nat.sub_zero,List.drop_length]
theorem CY (p:Prop):∃b:Bool,(b=true↔p):=by
 by_cases h:p
 ·exact⟨true,by simp[h]⟩
 exact⟨false,by simp[h]⟩
theorem F7 {X Y:List LR} {u w:List (List Rat)} {c:Bool} (hu:AU R u) (hw:AU R w) (b:X=tw u) (d:Y=tw w) (h:c=true↔w<:+u):CF 148 [.one (.sl (.sl AA) X),.one (.sl (.sl AA) Y)] (.one (.bool c)):=by
 cases c with
 | true=>exact WH hu hw b d (h.1 rfl)
 | false=>exact WG hu hw b d (fun k=>by have:=h.2 k;cases this)
noncomputable def nm (n:List (List Rat)×Re):el AY:=(tw n.1,em n.1 n.2)
noncomputable def AZ (ns:List (List (List Rat)×Re)):List (List Rat):=ns.foldl (fun t n=>Bw t n.1) []
theorem XR (ns:List (List (List Rat)×Re)) (n:List (List Rat)×Re):AZ (ns++[n])=Bw (AZ ns) n.1:=by
 rw[AZ,List.foldl_append];rfl
theorem KD {ns:List (List (List Rat)×Re)} {i:Nat} {n:List (List Rat)×Re} (h:ns[i]? =some n):AZ (ns.take (i+1))=Bw (AZ (ns.take i)) n.1:=by
 rw[BJ h,XR]
theorem C6 {X:List (el AY)} {ns:List (List (List Rat)×Re)} {i:Nat} {x:el AY} (c:X=ns.map nm) (b:X[i]? =some x):∃u y,x.1=tw u/\x.2=em u y/\ns[i]? =some (u,y):=by
 rw[c,List.getElem?_map] at b;cases h:ns[i]? with
 | none=>rw[h] at b;simp at b
 | some n=>
  rw[h] at b;have e:nm n=x:=Option.some.inj b;exact⟨n.1,n.2,by rw[<-e];rfl,by rw[<-e];rfl,rfl⟩
theorem Gam.AZ (G:Gam TT R K S):∀{ns:List (List (List Rat)×Re)},(∀n∈ns,TT n.1)->TT (AZ ns):=by
 have key:∀(ns:List (List (List Rat)×Re)) (t:List (List Rat)),TT t->(∀n∈ns,TT n.1)->TT (ns.foldl (fun t n=>Bw t n.1) t):=by
  intro ns
  induction ns with
  | nil=>intro t ht _;exact ht
  | cons n ns b=>intro t ht h;exact b _ (G.join ht (h n List.mem_cons_self)) (fun m hm=>h m (List.mem_cons_of_mem _ hm))
 intro ns h;exact key ns [] G.nil h
theorem Eh (G:Gam TT R K S) {ns:List (List (List Rat)×Re)} (h:∀n∈ns,TT n.1):∀n∈ns,Aq n.1 (Go.Abs.AZ ns):=by
 have key:∀(ns:List (List (List Rat)×Re)) (t:List (List Rat)),TT t->(∀n∈ns,TT n.1)->Aq t (ns.foldl (fun t n=>Bw t n.1) t)/\∀n∈ns,Aq n.1 (ns.foldl (fun t n=>Bw t n.1) t):=by
  intro ns
  induction ns with
  | nil=>intro t ht _;exact⟨Aq.refl t,fun n b=>by simp at b⟩
  | cons n ns g=>
   intro t ht h;have b:=h n List.mem_cons_self;have d:=Yi (G.AL ht).red (G.AL b).red;obtain⟨c,f⟩:=g _ (G.join ht b) (fun m hm=>h m (List.mem_cons_of_mem _ hm));refine⟨d.2.1.trans c,fun m hm=>?_⟩;rcases List.mem_cons.1 hm with rfl | hm
   ·exact d.2.2.trans c
   exact f m hm
 exact (key ns [] G.nil h).2
theorem Jw {U RL:List LR} {t u:List (List Rat)} (G:Gam TT R K S) (ht:TT t) (hu:TT u) (hT:T=tw t) (hU:U=tw u) (ab:T2=tw (ext t u)) (a8:RL=Bp t u):CF 200 [.one (.sl (.sl AA) T),.one (.sl (.sl AA) U)] (.AF [(true,[.sl (.sl AA) T2,.sl (.sl AA) RL]),(false,[.int .i64 0])]):=by
 have ao:U.length=u.length:=by rw[hU,Ay]
 have au:=G.ht hu;have aa:=G.RS;refine AE Tryz.func200 (by kernel_rfl) rfl fun E hE=>?_
 conv=>cbv
 intro ak P;have an:=P.eq;have f15:=P.le;conv=>cbv
 refine .inr ?_
 obtain⟨J0,M⟩:∃J:List AV->List AH->Nat->Prop,J=fun vs bl k=>(∃(L i:Int),vs=[.one (.Am 4 0 0),.one (.Am 6 0 0),.one (.sl (.sl AA) U),.one (.int .i64 L),.one (.int .i64 i)]/\bl=[.var 0 [.nil,.nil],.var 0 [.sl (.sl AA) T,.nil],.dead 0]/\(B1 L U.length/\AK i 0)/\k=U.length)\/
  (∃(Ti o:List LR) (mm i':Nat) (L i:Int),vs=[.one (.Am 4 0 0),.one (.Am 6 0 0),.one (.sl (.sl AA) U),.one (.int .i64 L),.one (.int .i64 i)]/\bl=[.var 0 [.nil,.nil],.var 0 [.sl (.sl AA) Ti,.AM (.sl AA) 39 0 0 mm],.arr 0 (.sl AA) o]/\(B1 L U.length/\AK i i'/\i'<=U.length/\mm=o.length)/\Ti=tw (ext t (pre u i'))/\o=Bp t (pre u i')/\k=U.length-i'):=⟨_,rfl⟩
 refine⟨[4,6,14,15,16],[4,6,39],J0,⟨U.length,by rw[M];exact .inl ⟨ak,0,rfl,rfl,⟨P,Ah 0⟩,rfl⟩⟩,?_⟩;intro vs bl av hj;rw[M] at hj;rcases hj with⟨L,i,rfl,rfl,⟨hL,hi⟩,aj⟩ |⟨Ti,o,mm,i',L,i,rfl,rfl,⟨hL,hi,aq,X⟩,v,hinv,aj⟩
 ·conv=>cbv
  have eL:=hL.eq;have ei:=hi.eq;obtain⟨i',W⟩:=xN 0;have v:T=tw (ext t (pre u i')):=by rw[W,Ho];exact hT
  intro a5 z;conv=>cbv
  cases a5 <;> conv=>cbv
  ·have a1:=AR z;have ag:u=[]:=List.eq_nil_of_length_eq_zero (by omega);exact fA ⟨⟨rfl,congrArg _ (by rw[ab,hT,ag];rfl),.inr (.inl ⟨_,congrArg _ (by rw[a8,ag];rfl)⟩),trivial⟩,t2,trivial⟩ rfl (by simp)
  have a1:=AS z;refine .inr ?_;obtain⟨y,m⟩:=AG (l:=U) (i:=i') (by omega);refine⟨y,fun _=>⟨by omega,by rw[show (i).toNat=i' by omega];exact m⟩,?_⟩;try conv=>cbv
  obtain⟨r,s,F⟩:=GR (u:=u) (i:=i') (by omega);have d:TT (pre u i'):=G.GY (GS u i') hu;have b:TT (r::pre u i'):=s ▸ G.GY (GS u (i'+1)) hu;have D:=(G.AL b).red;have Z:y=em (pre u i') (AI (pre u i') r):=by rw[<-hU,m] at F;exact (Option.some.inj F).trans (Cn D)
  have c:TT (ext t (pre u i')):=G.ext ht d;have p:=(GV (G.AL ht).red (G.AL d).red).2;have B:El (pre u i') S (AI (pre u i') r):=(El.Bz (G.AL b)).mono aa;have H:TT (Ag (ext t (pre u i')) (AI (pre u i') r)):=G.Ag c b p;have V:ext t (pre u (i'+1))=Ag (ext t (pre u i')) (AI (pre u i') r):=by rw[s];rfl
  have Y:Bp t (pre u (i'+1))=Bp t (pre u i')++[em (Ag (ext t (pre u i')) (AI (pre u i') r)) (Re.sqrt (AI (pre u i') r))]:=by rw[s];rfl
  obtain⟨a7,g⟩:=xR (em (ext t (pre u i')) (AI (pre u i') r));refine cL (r:= .one (.sl AA a7)) hE (MS G c d p v (by rw[W,Ho];trivial) Z B g) ⟨⟨rfl,.inr ⟨_,rfl⟩,trivial⟩,rfl,trivial⟩ ?_;try conv=>cbv
  obtain⟨I,h⟩:=xV (tw (Ag (ext t (pre u i')) (AI (pre u i') r)));obtain⟨f,j⟩:=xR (em (Ag (ext t (pre u i')) (AI (pre u i') r)) (Re.sqrt (AI (pre u i') r)));refine cL (r:= .AF [(false,[.sl (.sl AA) I]),(false,[.sl AA f]),(false,[.int .i64 0])]) hE (LI (G.AL c) (G.AL H) (G.ht H) v g (G.BF d c p B) (G.fit c) (by have:=D.2.2.1;grind) h j) t2 ?_;try conv=>cbv
  refine g2 rfl ?_;intro al Q;cases Q.trans (show _=false by decide);conv=>cbv
  refine⟨[f],fun _=>⟨rfl,by decide,rfl,⟨rfl,by first | exact t1 | exact t2 | exact t4 | simp[Ac,Ak,cells],trivial⟩⟩,.inr ?_⟩;try conv=>cbv
  refine .inl ⟨[f],fun _=>⟨rfl,by show (1)*24<=140737488355328;(try simp only[List.length_take,List.length_drop]);omega⟩,?_⟩;intro N ah;conv=>cbv
  intro a6 ai;conv=>cbv
  refine g1 (by omega) ?_;refine⟨U.length-(i'+1),?_,?_⟩
  ·omega
  rw[M];exact .inr ⟨I,[f],N,i'+1,L,a6,rfl,rfl,⟨hL,⟨by omega⟩,by omega,ah⟩,by rw[h,V],by rw[Y,j,W,Ho];rfl,rfl⟩
 conv=>cbv
 have eL:=hL.eq;have ei:=hi.eq;have ar:o.length<=U.length:=by rw[hinv,I1,GQ (by omega)];omega
 intro a5 z;conv=>cbv
 cases a5 <;> conv=>cbv
 ·have a1:=AR z;have af:pre u i'=u:=by rw[show i'=u.length by omega];exact Rr u
  exact fA ⟨⟨rfl,congrArg _ (by rw[ab,v,af]),.inl ⟨_,rfl,by omega,congrArg _ (by rw[a8,X,List.drop_zero,List.take_length,hinv,af])⟩,trivial⟩,t2,trivial⟩ rfl (by simp)
 have a1:=AS z;refine .inr ?_;obtain⟨y,m⟩:=AG (l:=U) (i:=i') (by omega);refine⟨y,fun _=>⟨by omega,by rw[show (i).toNat=i' by omega];exact m⟩,?_⟩;try conv=>cbv
 obtain⟨r,s,F⟩:=GR (u:=u) (i:=i') (by omega);have d:TT (pre u i'):=G.GY (GS u i') hu;have b:TT (r::pre u i'):=s ▸ G.GY (GS u (i'+1)) hu;have D:=(G.AL b).red;have Z:y=em (pre u i') (AI (pre u i') r):=by rw[<-hU,m] at F;exact (Option.some.inj F).trans (Cn D)
 have c:TT (ext t (pre u i')):=G.ext ht d;have p:=(GV (G.AL ht).red (G.AL d).red).2;have B:El (pre u i') S (AI (pre u i') r):=(El.Bz (G.AL b)).mono aa;have H:TT (Ag (ext t (pre u i')) (AI (pre u i') r)):=G.Ag c b p;have V:ext t (pre u (i'+1))=Ag (ext t (pre u i')) (AI (pre u i') r):=by rw[s];rfl
 have Y:Bp t (pre u (i'+1))=Bp t (pre u i')++[em (Ag (ext t (pre u i')) (AI (pre u i') r)) (Re.sqrt (AI (pre u i') r))]:=by rw[s];rfl
 obtain⟨a7,g⟩:=xR (em (ext t (pre u i')) (AI (pre u i') r));refine .inr (.inr (.inl ⟨39,.arr 0 (.sl AA) o,[.agg [.sl (.sl AA) Ti,.AM (.sl AA) 0 0 0 mm],.one (.sl AA y)],.one (.sl AA a7),fun _=>⟨rfl,⟨⟨rfl,⟨⟨rfl,rfl⟩,rfl⟩,trivial⟩,rfl,trivial⟩⟩,fun _=>E4 hE (imD G c d p v (by rw[hinv];exact EI (G.AL ht).red (G.AL d).red) X Z B g),?_⟩));try conv=>cbv
 obtain⟨I,h⟩:=xV (tw (Ag (ext t (pre u i')) (AI (pre u i') r)));obtain⟨f,j⟩:=xR (em (Ag (ext t (pre u i')) (AI (pre u i') r)) (Re.sqrt (AI (pre u i') r)));refine cL (r:= .AF [(false,[.sl (.sl AA) I]),(false,[.sl AA f]),(false,[.int .i64 0])]) hE (LI (G.AL c) (G.AL H) (G.ht H) v g (G.BF d c p B) (G.fit c) (by have:=D.2.2.1;grind) h j) t2 ?_;try conv=>cbv
 refine g2 rfl ?_;intro al Q;cases Q.trans (show _=false by decide);conv=>cbv
 refine⟨[f],fun _=>⟨rfl,by decide,rfl,⟨rfl,by first | exact t1 | exact t2 | exact t4 | simp[Ac,Ak,cells],trivial⟩⟩,.inr ?_⟩;try conv=>cbv
 refine .inl ⟨[f],fun _=>⟨rfl,X,rfl,by show (o.length+1)*24<=140737488355328;(try simp only[List.length_take,List.length_drop]);omega⟩,?_⟩;intro (a2:List (el (.sl AA))) N O;have ad:a2=(o:List (el (.sl AA)))++([f]:List (el (.sl AA))):=O.1;have ae:N=List.length (α:=(el (.sl AA))) a2:=O.2;conv=>cbv
 intro a6 ai;conv=>cbv
 refine g1 (by omega) ?_;refine⟨U.length-(i'+1),?_,?_⟩
 ·omega
 rw[M];exact .inr ⟨I,a2,N,i'+1,L,a6,rfl,rfl,⟨hL,⟨by omega⟩,by omega,ae⟩,by rw[h,V],by rw[ad,hinv,Y,j],rfl⟩
end Go.Abs
