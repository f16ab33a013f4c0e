/- Part 38 of a proof. Conditions: each theorem's own. -/
import Derived.Test.YtfilemenbchajaaGreatPk33
import Derived.Test.YtfilemenbchajaaGreatPk36
set_option linter.all false
set_option maxHeartbeats 8000000
set_option maxRecDepth 20000
open Go.Proofs
namespace Go.Abs
open Go.RowKit
def EV (w:List (List Rat)) (RL:List LR):List (List Rat)->Prop
 | []=>True
 | r::u=>EV w RL u/\∃wk,wk<:+w/\In wk (rt u r)/\RL[u.length]? =some (em wk (rt u r))
variable {A C:LR} {K R S a k mm n:Nat} {RL T:List LR} {TT:List (List Rat)->Prop} {p q x:Re} {r:List Rat} {u w:List (List Rat)}
theorem EV.mono {w':List (List Rat)} {X:List LR} (h:w<:+w'):∀{u:List (List Rat)},EV w RL u->EV w' (RL++X) u
 | [],_=>trivial
 | r::u,⟨c,f,d,h3,b⟩=>⟨c.mono h,f,d.trans h,h3,by rw[List.getElem?_append_left (E0 b)];exact b⟩
noncomputable def CT (t:List (List Rat)):List (List Rat)->List LR
 | []=>[]
 | r::u=>CT t u++[em (ext t (r::u)) (rt u r)]
theorem Ka (t:List (List Rat)):∀u,(CT t u).length=u.length
 | []=>rfl
 | r::u=>by rw[CT,List.length_append,Ka t u];rfl
theorem E8 {t:List (List Rat)} (ht:Ab t):∀{u:List (List Rat)},Ab u->EV (ext t u) (CT t u) u
 | [],_=>trivial
 | r::u,hu=>by
  refine⟨(E8 ht hu.1).mono (LJ _ _),ext t (r::u),List.suffix_refl _,(HW ht hu).2.root,?_⟩;rw[CT,List.getElem?_append_right (by rw[Ka];omega),Ka,Nat.sub_self];rfl
theorem FZ {t:List (List Rat)} (ht:Ab t):∀{u:List (List Rat)},Ab u->BK u t->ext t u=t
 | [],_,_=>rfl
 | r::u,hu,h=>by
  rw[ext,FZ ht hu.1 h.tail];exact EW ⟨rt u r,h.root,CO hu⟩
def NB (f:FuncId) (S:Nat) (w u:List (List Rat)):Prop:=∀{T RL:List LR} {A C:LR} {x:Re},T=tw w->EV w RL u->A=em u x->El u S x->C=em w x->
 CF f [.agg [.sl (.sl AA) T,.sl (.sl AA) RL],.one (.sl AA A)] (.one (.sl AA C))
def NC (f:FuncId) (S:Nat) (w u:List (List Rat)):Prop:=∀{T RL:List LR} {A C:LR} {x:Re} {mm:Nat},T=tw w->EV w RL u->mm=RL.length->A=em u x->El u S x->C=em w x->
 BW Tryz.prog f [.agg [.sl (.sl AA) T,.AT (.sl AA) 0 0 0 mm],.one (.sl AA A)] (.arr 0 (.sl AA) RL) (.one (.sl AA C))
theorem Uh {b:Nat}:2^a<2^b↔a<b:=Nat.pow_lt_pow_iff_right (by decide)
theorem Iz (ha:a=2^n+2^n) (h:2^(k+1)<a):k<n:=by
 have b:a=2^(n+1):=by rw[ha,Nat.pow_succ];omega
 rw[b,Uh] at h;omega
theorem Iy (ha:a=2^n+2^n) (h:¬2^(k+1)<a):n<=k:=by
 have b:a=2^(n+1):=by rw[ha,Nat.pow_succ];omega
 rw[b,Uh] at h;omega
theorem aN {u:List (List Rat)} {x:Re} (G:Gam TT R K S) (hw:TT w) (t:T=tw w) {q:Rat} (m:A=em [] (Re.ofRat q)) (v:Bj q) (p:C=em w (Re.ofRat q)):CF 257 [.agg [.sl (.sl AA) T,.sl (.sl AA) RL],.one (.sl AA A)] (.one (.sl AA C)):=by
 have d:A=[rp q]:=m.trans (DT q);have o:A.length=1:=by rw[d];rfl
 refine AH Tryz.func257 (by kernel_rfl) rfl fun E s=>?_
 conv=>cbv
 rintro y ⟨j,f10⟩;conv=>cbv
 intro g c;conv=>cbv
 cases g <;> conv=>cbv
 ·have f:=Au c;exact absurd f (by omega)
 have f:=Av c;obtain⟨h,b⟩:=AG (l:=A) (i:=0) (by omega);refine⟨h,fun _=>⟨by omega,b⟩,?_⟩;try conv=>cbv
 refine cL s (Hf (G.AU hw) t (D2 d b) v p) ⟨rfl,t4,trivial⟩ ?_;try conv=>cbv
 refine g2 rfl ?_;exact fA ⟨t2,trivial⟩ rfl (by simp)
theorem aP (G:Gam TT R K S) (hw:TT w) (hT:T=tw w) (hu:TT (r::u)) (I:BK (r::u) w) (ih:NB 257 S w u) (hR:EV w RL (r::u)) (H:A=em (r::u) x) (hx:El (r::u) S x) (h:x=p+q*rt u r) (N:El u S p) (O:El u S q) (h0:q=0) (hC:C=em w x):CF 257 [.agg [.sl (.sl AA) T,.sl (.sl AA) RL],.one (.sl AA A)] (.one (.sl AA C)):=by
 have g:=(G.AU hu).red;have l:A.length=2^u.length+2^u.length:=by rw[H,BL hx.mem,Bc]
 have ar:=DG u.length;have an:(r::u).length<=8:=G.ht hu;have a7:(r::u).length=u.length+1:=rfl;have hmul:=G.mul hw;have Q:El w K (rt u r):=by have:=G.Be hu hw I (Im g);rwa [Nat.zero_add] at this
 obtain⟨wk,au,aa,L⟩:=hR.2;obtain⟨rk,P⟩:=xR (em wk (rt u r));rw[<-P] at L;refine AH Tryz.func257 (by kernel_rfl) rfl fun E hE=>?_
 conv=>cbv
 rintro ax ⟨ae,f10⟩;conv=>cbv
 intro Y i;conv=>cbv
 cases Y <;> conv=>cbv
 ·have y:=Au i;rintro ay ⟨af,f19⟩;conv=>cbv
  intro Z aj;conv=>cbv
  refine g2 ⟨by omega,by omega,i64 (by omega)⟩ ?_;refine .inr ?_;obtain⟨J0,c⟩:=xJ fun vs bl k=>∃(k':Nat) (z V:Int),vs=[.one (.sl AA A),.one (.AD 2 0 0),.one (.int .i64 z),.one (.int .i64 V)]/\bl=[.var 0 [.sl (.sl AA) T,.sl (.sl AA) RL]]/\(AS z (A.length/2)/\AS V k'/\k'<=u.length)/\k=u.length-k'
  refine⟨[1,2,5,6],[2],J0,⟨u.length-0,by rw[c];exact⟨0,Z,0,rfl,rfl,⟨⟨by omega⟩,BC 0,by omega⟩,rfl⟩⟩,?_⟩;intro vs bl av hj;rw[c] at hj;obtain⟨k',z,V,rfl,rfl,⟨m,J,aq⟩,ao⟩:=hj;conv=>cbv
  have ah:=m.eq;have ai:=J.eq;intro az ak;conv=>cbv
  refine g1 (by omega) ?_;intro aA F;conv=>cbv
  refine g2 (by omega) ?_;rintro aB ⟨ag,f25⟩;conv=>cbv
  have ab:=(D3 (k:=k'+1) F (by omega) (by omega)).eq;intro a1 j;conv=>cbv
  cases a1 <;> conv=>cbv
  ·have U:=Ad j;have M:k'=u.length:=by have:=Iy l (show ¬2^(k'+1)<A.length by omega);omega
   intro m32 a8;conv=>cbv
   refine g2 (by omega) ?_;intro D a6;conv=>cbv
   intro W s;conv=>cbv
   have d:W=em u p:=by rw[s,List.drop_zero,show D=A.length/2 by omega,H,B9 g N.mem O.mem h]
   obtain⟨aC,b⟩:=xR (em w (p));refine cL hE (ih hT hR.1 d N b) ⟨t2,rfl,trivial⟩ ?_;try conv=>cbv
   refine g2 rfl ?_;intro aw v;conv=>cbv
   refine g2 (by omega) ?_;rintro B ad ⟨a5,o⟩;conv=>cbv
   intro X t;conv=>cbv
   have f:X=em u q:=by rw[t,show B=A.length/2 by omega,o,v,List.take_length,H,Bo g N.mem O.mem h]
   refine cL hE (Hn (G.AU (G.sub hu)).red O.mem f h0) t1 ?_;try conv=>cbv
   exact fA ⟨⟨rfl,congrArg _ (by rw[hC,b];congr 1;rw[h,h0];clear ih;grind),trivial⟩,trivial⟩ rfl (by simp)
  have U:=Ae j;refine .inr ?_;have M:k'<u.length:=Iz l (show 2^(k'+1)<A.length by omega);intro a2 al;conv=>cbv
  refine g1 (by omega) ?_;refine⟨u.length-(k'+1),?_,?_⟩
  ·omega
  rw[c];exact⟨k'+1,z,a2,rfl,rfl,⟨m,⟨by omega⟩,by omega⟩,rfl⟩
 have y:=Av i;exact absurd y (by omega)
theorem aO (G:Gam TT R K S) (hw:TT w) (H:T=tw w) (hu:TT (r::u)) (c:BK (r::u) w) (ih:NB 257 S w u) (hR:EV w RL (r::u)) (X:A=em (r::u) x) (hx:El (r::u) S x) (f:x=p+q*rt u r) (Q:El u S p) (t:El u S q) (h0:q≠0) (hC:C=em w x):CF 257 [.agg [.sl (.sl AA) T,.sl (.sl AA) RL],.one (.sl AA A)] (.one (.sl AA C)):=by
 have d:=(G.AU hu).red;have B:A.length=2^u.length+2^u.length:=by rw[X,BL hx.mem,Bc]
 have aH:=DG u.length;have aE:(r::u).length<=8:=G.ht hu;have ao:(r::u).length=u.length+1:=rfl;have hmul:=G.mul hw;have b:El w K (rt u r):=by have:=G.Be hu hw c (Im d);rwa [Nat.zero_add] at this
 obtain⟨wk,aa,U,F⟩:=hR.2;obtain⟨rk,V⟩:=xR (em wk (rt u r));rw[<-V] at F;refine AH Tryz.func257 (by kernel_rfl) rfl fun E v=>?_
 conv=>cbv
 rintro aL ⟨aw,f10⟩;conv=>cbv
 intro ag y;conv=>cbv
 cases ag <;> conv=>cbv
 ·have W:=Au y;rintro aM ⟨ax,f19⟩;conv=>cbv
  intro ah aB;conv=>cbv
  refine g2 ⟨by omega,by omega,i64 (by omega)⟩ ?_;refine .inr ?_;obtain⟨J0,l⟩:=xJ fun vs bl k=>∃(k':Nat) (Y Z:Int),vs=[.one (.sl AA A),.one (.AD 2 0 0),.one (.int .i64 Y),.one (.int .i64 Z)]/\bl=[.var 0 [.sl (.sl AA) T,.sl (.sl AA) RL]]/\(AS Y (A.length/2)/\AS Z k'/\k'<=u.length)/\k=u.length-k'
  refine⟨[1,2,5,6],[2],J0,⟨u.length-0,by rw[l];exact⟨0,ah,0,rfl,rfl,⟨⟨by omega⟩,BC 0,by omega⟩,rfl⟩⟩,?_⟩;intro vs bl aI hj;rw[l] at hj;obtain⟨k',Y,Z,rfl,rfl,⟨D,a7,aG⟩,aF⟩:=hj;conv=>cbv
  have az:=D.eq;have aA:=a7.eq;intro aN aC;conv=>cbv
  refine g1 (by omega) ?_;intro aP a6;conv=>cbv
  refine g2 (by omega) ?_;rintro aQ ⟨ay,f25⟩;conv=>cbv
  have ar:=(D3 (k:=k'+1) a6 (by omega) (by omega)).eq;intro ai z;conv=>cbv
  cases ai <;> conv=>cbv
  ·have ab:=Ad z;have a8:k'=u.length:=by have:=Iy B (show ¬2^(k'+1)<A.length by omega);omega
   intro m32 aq;conv=>cbv
   refine g2 (by omega) ?_;intro a5 an;conv=>cbv
   intro ad L;conv=>cbv
   have m:ad=em u p:=by rw[L,List.drop_zero,show a5=A.length/2 by omega,X,B9 d Q.mem t.mem f]
   obtain⟨aR,g⟩:=xR (em w (p));refine cL v (ih H hR.1 m Q g) ⟨t2,rfl,trivial⟩ ?_;try conv=>cbv
   refine g2 rfl ?_;intro aJ O;conv=>cbv
   refine g2 (by omega) ?_;rintro a1 au ⟨ak,I⟩;conv=>cbv
   intro ae M;conv=>cbv
   have o:ae=em u q:=by rw[M,show a1=A.length/2 by omega,I,O,List.take_length,X,Bo d Q.mem t.mem f]
   refine cL v (Ga (G.AU (G.sub hu)).red t.mem o h0) t1 ?_;try conv=>cbv
   intro aK P;conv=>cbv
   refine g2 (by omega) ?_;rintro a2 av ⟨al,J⟩;conv=>cbv
   intro af N;conv=>cbv
   have s:af=em u q:=by rw[N,show a2=A.length/2 by omega,J,P,List.take_length,X,Bo d Q.mem t.mem f]
   obtain⟨aS,h⟩:=xR (em w (q));refine cL v (ih H hR.1 s t h) ⟨t2,rfl,trivial⟩ ?_;try conv=>cbv
   refine⟨rk,fun _=>⟨by omega,by rw[show Z.toNat=u.length by omega];exact F⟩,?_⟩;try conv=>cbv
   obtain⟨aT,i⟩:=xR (em w (rt u r));refine cL v (MT (G.AU hw) H V U aa i) t2 ?_;try conv=>cbv
   obtain⟨aU,j⟩:=xR (em w (q*rt u r));refine cL v (Fz (G.AU hw) H h i (G.Be (G.sub hu) hw c.tail t) b (by omega) j) t3 ?_;try conv=>cbv
   refine g2 rfl ?_;refine cL (r:= .one (.sl AA C)) v (IN (G.AU hw) H g j (G.Be (G.sub hu) hw c.tail Q) ((G.Be (G.sub hu) hw c.tail t).mul (G.AU hw) b) (by omega) (by omega) (by rw[hC,f])) t3 ?_;try conv=>cbv
   exact fA ⟨t2,trivial⟩ rfl (by simp)
  have ab:=Ae z;refine .inr ?_;have a8:k'<u.length:=Iz B (show 2^(k'+1)<A.length by omega);intro aj aD;conv=>cbv
  refine g1 (by omega) ?_;refine⟨u.length-(k'+1),?_,?_⟩
  ·omega
  rw[l];exact⟨k'+1,Y,aj,rfl,rfl,⟨D,⟨by omega⟩,by omega⟩,rfl⟩
 have W:=Av y;exact absurd W (by omega)
theorem aQ {u:List (List Rat)} {x:Re} (v:mm=RL.length) (G:Gam TT R K S) (hw:TT w) (t:T=tw w) {q:Rat} (m:A=em [] (Re.ofRat q)) (y:Bj q) (p:C=em w (Re.ofRat q)):BW Tryz.prog 257 [.agg [.sl (.sl AA) T,.AT (.sl AA) 0 0 0 mm],.one (.sl AA A)] (.arr 0 (.sl AA) RL) (.one (.sl AA C)):=by
 have d:A=[rp q]:=m.trans (DT q);have o:A.length=1:=by rw[d];rfl
 refine Gc Tryz.func257 (by kernel_rfl) rfl fun E s=>?_
 conv=>cbv
 rintro z ⟨j,f10⟩;conv=>cbv
 intro g c;conv=>cbv
 cases g <;> conv=>cbv
 ·have f:=Au c;exact absurd f (by omega)
 have f:=Av c;obtain⟨h,b⟩:=AG (l:=A) (i:=0) (by omega);refine⟨h,fun _=>⟨by omega,b⟩,?_⟩;try conv=>cbv
 refine cL s (Hf (G.AU hw) t (D2 d b) y p) ⟨rfl,t4,trivial⟩ ?_;try conv=>cbv
 refine g2 rfl ?_;refine fun _=>⟨⟨⟨t2,trivial⟩,rfl,by simp⟩,rfl⟩
theorem aS (O:mm=RL.length) (G:Gam TT R K S) (hw:TT w) (hT:T=tw w) (hu:TT (r::u)) (J:BK (r::u) w) (ih:NC 257 S w u) (hR:EV w RL (r::u)) (I:A=em (r::u) x) (hx:El (r::u) S x) (h:x=p+q*rt u r) (P:El u S p) (Q:El u S q) (h0:q=0) (hC:C=em w x):BW Tryz.prog 257 [.agg [.sl (.sl AA) T,.AT (.sl AA) 0 0 0 mm],.one (.sl AA A)] (.arr 0 (.sl AA) RL) (.one (.sl AA C)):=by
 have g:=(G.AU hu).red;have l:A.length=2^u.length+2^u.length:=by rw[I,BL hx.mem,Bc]
 have av:=DG u.length;have aq:(r::u).length<=8:=G.ht hu;have aa:(r::u).length=u.length+1:=rfl;have hmul:=G.mul hw;have V:El w K (rt u r):=by have:=G.Be hu hw J (Im g);rwa [Nat.zero_add] at this
 obtain⟨wk,aw,ad,M⟩:=hR.2;obtain⟨rk,U⟩:=xR (em wk (rt u r));rw[<-U] at M;refine Gc Tryz.func257 (by kernel_rfl) rfl fun E hE=>?_
 conv=>cbv
 rintro az ⟨ag,f10⟩;conv=>cbv
 intro Z i;conv=>cbv
 cases Z <;> conv=>cbv
 ·have y:=Au i;rintro aA ⟨ah,f19⟩;conv=>cbv
  intro a1 al;conv=>cbv
  refine g2 ⟨by omega,by omega,i64 (by omega)⟩ ?_;refine .inr ?_;obtain⟨J0,c⟩:=xJ fun vs bl k=>∃(k':Nat) (B X:Int),vs=[.one (.sl AA A),.one (.AD 2 0 0),.one (.int .i64 B),.one (.int .i64 X)]/\bl=[.arr 0 (.sl AA) RL,.var 0 [.sl (.sl AA) T,.AT (.sl AA) 0 0 0 mm]]/\(AS B (A.length/2)/\AS X k'/\k'<=u.length)/\k=u.length-k'
  refine⟨[1,2,5,6],[0,2],J0,⟨u.length-0,by rw[c];exact⟨0,a1,0,rfl,rfl,⟨⟨by omega⟩,BC 0,by omega⟩,rfl⟩⟩,?_⟩;intro vs bl ax hj;rw[c] at hj;obtain⟨k',B,X,rfl,rfl,⟨m,L,au⟩,ar⟩:=hj;conv=>cbv
  have aj:=m.eq;have ak:=L.eq;intro aB an;conv=>cbv
  refine g1 (by omega) ?_;intro aC H;conv=>cbv
  refine g2 (by omega) ?_;rintro aD ⟨ai,f25⟩;conv=>cbv
  have ae:=(D3 (k:=k'+1) H (by omega) (by omega)).eq;intro a2 j;conv=>cbv
  cases a2 <;> conv=>cbv
  ·have W:=Ad j;have N:k'=u.length:=by have:=Iy l (show ¬2^(k'+1)<A.length by omega);omega
   intro m32 ab;conv=>cbv
   refine g2 (by omega) ?_;intro F a8;conv=>cbv
   intro z s;conv=>cbv
   have d:z=em u p:=by rw[s,List.drop_zero,show F=A.length/2 by omega,I,B9 g P.mem Q.mem h]
   obtain⟨a6,b⟩:=xR (em w (p));refine .inr (.inr (.inl ⟨0,.arr 0 (.sl AA) RL,[.agg [.sl (.sl AA) T,.AT (.sl AA) 0 0 0 mm],.one (.sl AA z)],.one (.sl AA a6),fun _=>⟨rfl,⟨⟨rfl,⟨⟨rfl,rfl⟩,rfl⟩,trivial⟩,rfl,trivial⟩⟩,fun _=>AP hE (ih hT hR.1 O d P b),?_⟩));try conv=>cbv
   refine g2 rfl ?_;intro ay v;conv=>cbv
   refine g2 (by omega) ?_;rintro D af ⟨a7,o⟩;conv=>cbv
   intro Y t;conv=>cbv
   have f:Y=em u q:=by rw[t,show D=A.length/2 by omega,o,v,List.take_length,I,Bo g P.mem Q.mem h]
   refine cL hE (Hn (G.AU (G.sub hu)).red Q.mem f h0) t1 ?_;try conv=>cbv
   refine fun _=>⟨⟨⟨⟨rfl,congrArg _ (by rw[hC,b];congr 1;rw[h,h0];clear ih;grind),trivial⟩,trivial⟩,rfl,by simp⟩,rfl⟩
  have W:=Ae j;refine .inr ?_;have N:k'<u.length:=Iz l (show 2^(k'+1)<A.length by omega);intro a5 ao;conv=>cbv
  refine g1 (by omega) ?_;refine⟨u.length-(k'+1),?_,?_⟩
  ·omega
  rw[c];exact⟨k'+1,B,a5,rfl,rfl,⟨m,⟨by omega⟩,by omega⟩,rfl⟩
 have y:=Av i;exact absurd y (by omega)
theorem aR (Z:mm=RL.length) (G:Gam TT R K S) (hw:TT w) (O:T=tw w) (hu:TT (r::u)) (c:BK (r::u) w) (ih:NC 257 S w u) (hR:EV w RL (r::u)) (hA:A=em (r::u) x) (hx:El (r::u) S x) (h:x=p+q*rt u r) (hp:El u S p) (D:El u S q) (h0:q≠0) (hC:C=em w x):BW Tryz.prog 257 [.agg [.sl (.sl AA) T,.AT (.sl AA) 0 0 0 mm],.one (.sl AA A)] (.arr 0 (.sl AA) RL) (.one (.sl AA C)):=by
 have g:=(G.AU hu).red;have M:A.length=2^u.length+2^u.length:=by rw[hA,BL hx.mem,Bc]
 have aN:=DG u.length;have aK:(r::u).length<=8:=G.ht hu;have aw:(r::u).length=u.length+1:=rfl;have hmul:=G.mul hw;have b:El w K (rt u r):=by have:=G.Be hu hw c (Im g);rwa [Nat.zero_add] at this
 obtain⟨wk,ag,a1,d⟩:=hR.2;obtain⟨rk,f⟩:=xR (em wk (rt u r));rw[<-f] at d;refine Gc Tryz.func257 (by kernel_rfl) rfl fun E I=>?_
 conv=>cbv
 rintro aS ⟨aC,f10⟩;conv=>cbv
 intro aj J;conv=>cbv
 cases aj <;> conv=>cbv
 ·have a5:=Au J;rintro aT ⟨aD,f19⟩;conv=>cbv
  intro ak aH;conv=>cbv
  refine g2 ⟨by omega,by omega,i64 (by omega)⟩ ?_;refine .inr ?_;obtain⟨J0,v⟩:=xJ fun vs bl k=>∃(k':Nat) (hv kk:Int),vs=[.one (.sl AA A),.one (.AD 2 0 0),.one (.int .i64 hv),.one (.int .i64 kk)]/\bl=[.arr 0 (.sl AA) RL,.var 0 [.sl (.sl AA) T,.AT (.sl AA) 0 0 0 mm]]/\(AS hv (A.length/2)/\AS kk k'/\k'<=u.length)/\k=u.length-k'
  refine⟨[1,2,5,6],[0,2],J0,⟨u.length-0,by rw[v];exact⟨0,ak,0,rfl,rfl,⟨⟨by omega⟩,BC 0,by omega⟩,rfl⟩⟩,?_⟩;intro vs bl aO hj;rw[v] at hj;obtain⟨k',hv,kk,rfl,rfl,⟨N,ae,aM⟩,aL⟩:=hj;conv=>cbv
  have aF:=N.eq;have aG:=ae.eq;intro aU aI;conv=>cbv
  refine g1 (by omega) ?_;intro aV ad;conv=>cbv
  refine g2 (by omega) ?_;rintro aW ⟨aE,f25⟩;conv=>cbv
  have az:=(D3 (k:=k'+1) ad (by omega) (by omega)).eq;intro al L;conv=>cbv
  cases al <;> conv=>cbv
  ·have ah:=Ad L;have af:k'=u.length:=by have:=Iy M (show ¬2^(k'+1)<A.length by omega);omega
   intro m32 ay;conv=>cbv
   refine g2 (by omega) ?_;intro ab av;conv=>cbv
   intro a6 U;conv=>cbv
   have y:a6=em u p:=by rw[U,List.drop_zero,show ab=A.length/2 by omega,hA,B9 g hp.mem D.mem h]
   obtain⟨ao,j⟩:=xR (em w (p));refine .inr (.inr (.inl ⟨0,.arr 0 (.sl AA) RL,[.agg [.sl (.sl AA) T,.AT (.sl AA) 0 0 0 mm],.one (.sl AA a6)],.one (.sl AA ao),fun _=>⟨rfl,⟨⟨rfl,⟨⟨rfl,rfl⟩,rfl⟩,trivial⟩,rfl,trivial⟩⟩,fun _=>AP I (ih O hR.1 Z y hp j),?_⟩));try conv=>cbv
   refine g2 rfl ?_;intro aP X;conv=>cbv
   refine g2 (by omega) ?_;rintro a8 aA ⟨ar,P⟩;conv=>cbv
   intro ai V;conv=>cbv
   have z:ai=em u q:=by rw[V,show a8=A.length/2 by omega,P,X,List.take_length,hA,Bo g hp.mem D.mem h]
   refine cL I (Ga (G.AU (G.sub hu)).red D.mem z h0) t1 ?_;try conv=>cbv
   intro aQ Y;conv=>cbv
   refine g2 (by omega) ?_;rintro aa aB ⟨au,Q⟩;conv=>cbv
   intro a7 W;conv=>cbv
   have B:a7=em u q:=by rw[W,show aa=A.length/2 by omega,Q,Y,List.take_length,hA,Bo g hp.mem D.mem h]
   obtain⟨aq,m⟩:=xR (em w (q));refine .inr (.inr (.inl ⟨0,.arr 0 (.sl AA) RL,[.agg [.sl (.sl AA) T,.AT (.sl AA) 0 0 0 mm],.one (.sl AA a7)],.one (.sl AA aq),fun _=>⟨rfl,⟨⟨rfl,⟨⟨rfl,rfl⟩,rfl⟩,trivial⟩,rfl,trivial⟩⟩,fun _=>AP I (ih O hR.1 Z B D m),?_⟩));try conv=>cbv
   refine⟨fun _=>⟨by omega,by have:=E0 d;omega⟩,?_⟩;intro a2 ax;conv=>cbv
   obtain⟨H,t⟩:=AG (l:=RL) (i:=a2) (by have:=E0 d;omega);refine⟨H,fun _=>t,?_⟩;try conv=>cbv
   have F:H=rk:=by have:=t;rw[show a2=u.length by omega,d] at this;exact (Option.some.inj this).symm
   have f:H=em wk (rt u r):=F.trans f;obtain⟨aX,o⟩:=xR (em w (rt u r));refine cL I (MT (G.AU hw) O f a1 ag o) t2 ?_;try conv=>cbv
   obtain⟨aY,s⟩:=xR (em w (q*rt u r));refine cL I (Fz (G.AU hw) O m o (G.Be (G.sub hu) hw c.tail D) b (by omega) s) t3 ?_;try conv=>cbv
   refine g2 rfl ?_;refine cL (r:= .one (.sl AA C)) I (IN (G.AU hw) O j s (G.Be (G.sub hu) hw c.tail hp) ((G.Be (G.sub hu) hw c.tail D).mul (G.AU hw) b) (by omega) (by omega) (by rw[hC,h])) t3 ?_;try conv=>cbv
   refine fun _=>⟨⟨⟨t2,trivial⟩,rfl,by simp⟩,rfl⟩
  have ah:=Ae L;refine .inr ?_;have af:k'<u.length:=Iz M (show 2^(k'+1)<A.length by omega);intro an aJ;conv=>cbv
  refine g1 (by omega) ?_;refine⟨u.length-(k'+1),?_,?_⟩
  ·omega
  rw[v];exact⟨k'+1,hv,an,rfl,rfl,⟨N,⟨by omega⟩,by omega⟩,rfl⟩
 have a5:=Av J;exact absurd a5 (by omega)
theorem OO (G:Gam TT R K S) (hw:TT w):∀{u:List (List Rat)},TT u->BK u w->NB 257 S w u:=by
 intro u
 induction u with
 | nil=>
  intro hu c T RL A C x i hR g b h;obtain⟨q,rfl⟩:=CI.1 b.mem;have d:=b.Bh (by have:=G.mul hw;omega);rw[Co] at d;exact aN (u:=[]) (x:=0) G hw i g (d q List.mem_cons_self) h
 | cons r u m=>
  intro hu c T RL A C x i hR g b h;obtain⟨p,q,f,l,d⟩:=El.parts (G.AU hu).red b
  by_cases j:q=0
  ·exact aP G hw i hu c (m (G.sub hu) c.tail) hR g b f l d j h
  exact aO G hw i hu c (m (G.sub hu) c.tail) hR g b f l d j h
theorem imD (G:Gam TT R K S) (hw:TT w):∀{u:List (List Rat)},TT u->BK u w->NC 257 S w u:=by
 intro u
 induction u with
 | nil=>
  intro hu d T RL A C x mm j hR b h c i;obtain⟨q,rfl⟩:=CI.1 c.mem;have f:=c.Bh (by have:=G.mul hw;omega);rw[Co] at f;exact aQ (u:=[]) (x:=0) b G hw j h (f q List.mem_cons_self) i
 | cons r u o=>
  intro hu d T RL A C x mm j hR b h c i;obtain⟨p,q,g,m,f⟩:=El.parts (G.AU hu).red c
  by_cases l:q=0
  ·exact aS b G hw j hu d (o (G.sub hu) d.tail) hR h c g m f l i
  exact aR b G hw j hu d (o (G.sub hu) d.tail) hR h c g m f l i
end Go.Abs
namespace Go.Abs
open Go.RowKit
variable {K R S:Nat} {T T2:List LR} {TT:List (List Rat)->Prop}
theorem NA {A B:LR} {R' s:Nat} {u:List (List Rat)} {v:Re} (h:Al R u) (h':Al R' (Ax u v)) (l:(Ax u v).length<=8) (g:T=tw u) (m:A=em u v) (j:El u s v) (o:Fit u.length R s) (f:0<=v) (b:T2=tw (Ax u v)) (c:B=em (Ax u v) (Re.sqrt v)):
  CF 177 [.one (.sl (.sl AA) T),.one (.sl AA A)] (.AE [(false,[.sl (.sl AA) T2]),(false,[.sl AA B]),(false,[.int .i64 0])]):=by
 by_cases d:Sq u v
 ·rw[EW d] at b c;have i:T2=T:=b.trans g.symm;subst i;exact Yc h g m j o ((Ki f).1 d) (Re.GN v) (Re.E9 f) c
 rw[D9 d] at h' l b c;rw[<-Kc j.mem] at c;exact Yd h g m j o (by rw[List.length_cons] at l;omega) f d rfl h' b c
theorem HT (u:List (List Rat)) (i:Nat):pre u i<:+u:=List.drop_suffix _ _
theorem JC (u:List (List Rat)):pre u 0=[]:=by rw[pre,Nat.sub_zero,List.drop_length]
theorem CV (p:Prop):∃b:Bool,(b=true↔p):=by
 by_cases h:p
 ·exact⟨true,by simp[h]⟩
 exact⟨false,by simp[h]⟩
theorem G5 {X Y:List LR} {u w:List (List Rat)} {c:Bool} (hu:Al R u) (hw:Al R w) (b:X=tw u) (d:Y=tw w) (h:c=true↔w<:+u):CF 193 [.one (.sl (.sl AA) X),.one (.sl (.sl AA) Y)] (.one (.bool c)):=by
 cases c with
 | true=>exact ZB hu hw b d (h.1 rfl)
 | false=>exact ZA hu hw b d (fun k=>by have:=h.2 k;cases this)
noncomputable def nm (n:List (List Rat)×Re):el Am:=(tw n.1,em n.1 n.2)
noncomputable def Ap (ns:List (List (List Rat)×Re)):List (List Rat):=ns.foldl (fun t n=>DO t n.1) []
theorem al (ns:List (List (List Rat)×Re)) (n:List (List Rat)×Re):Ap (ns++[n])=DO (Ap ns) n.1:=by
 rw[Ap,List.foldl_append];rfl
theorem L0 {ns:List (List (List Rat)×Re)} {i:Nat} {n:List (List Rat)×Re} (h:ns[i]? =some n):Ap (ns.take (i+1))=DO (Ap (ns.take i)) n.1:=by
 rw[Bi h,al]
theorem Dq {X:List (el Am)} {ns:List (List (List Rat)×Re)} {i:Nat} {x:el Am} (c:X=ns.map nm) (b:X[i]? =some x):∃u y,x.1=tw u/\x.2=em u y/\ns[i]? =some (u,y):=by
 rw[c,List.getElem?_map] at b;cases h:ns[i]? with
 | none=>rw[h] at b;simp at b
 | some n=>
  rw[h] at b;have e:nm n=x:=Option.some.inj b;exact⟨n.1,n.2,by rw[<-e];rfl,by rw[<-e];rfl,rfl⟩
theorem Gam.Ap (G:Gam TT R K S):∀{ns:List (List (List Rat)×Re)},(∀n∈ns,TT n.1)->TT (Ap ns):=by
 have key:∀(ns:List (List (List Rat)×Re)) (t:List (List Rat)),TT t->(∀n∈ns,TT n.1)->TT (ns.foldl (fun t n=>DO t n.1) t):=by
  intro ns
  induction ns with
  | nil=>intro t ht _;exact ht
  | cons n ns b=>intro t ht h;exact b _ (G.join ht (h n List.mem_cons_self)) (fun m hm=>h m (List.mem_cons_of_mem _ hm))
 intro ns h;exact key ns [] G.nil h
theorem FY (G:Gam TT R K S) {ns:List (List (List Rat)×Re)} (h:∀n∈ns,TT n.1):∀n∈ns,BK n.1 (Go.Abs.Ap ns):=by
 have key:∀(ns:List (List (List Rat)×Re)) (t:List (List Rat)),TT t->(∀n∈ns,TT n.1)->BK t (ns.foldl (fun t n=>DO t n.1) t)/\∀n∈ns,BK n.1 (ns.foldl (fun t n=>DO t n.1) t):=by
  intro ns
  induction ns with
  | nil=>intro t ht _;exact⟨BK.refl t,fun n b=>by simp at b⟩
  | cons n ns g=>
   intro t ht h;have b:=h n List.mem_cons_self;have d:=dm (G.AU ht).red (G.AU b).red;obtain⟨c,f⟩:=g _ (G.join ht b) (fun m hm=>h m (List.mem_cons_of_mem _ hm));refine⟨d.2.1.trans c,fun m hm=>?_⟩;rcases List.mem_cons.1 hm with rfl | hm
   ·exact d.2.2.trans c
   exact f m hm
 exact (key ns [] G.nil h).2
theorem Lo {U RL:List LR} {t u:List (List Rat)} (G:Gam TT R K S) (ht:TT t) (hu:TT u) (hT:T=tw t) (hU:U=tw u) (ab:T2=tw (ext t u)) (a8:RL=CT t u):CF 256 [.one (.sl (.sl AA) T),.one (.sl (.sl AA) U)] (.AE [(true,[.sl (.sl AA) T2,.sl (.sl AA) RL]),(false,[.int .i64 0])]):=by
 have ao:U.length=u.length:=by rw[hU,BU]
 have au:=G.ht hu;have aa:=G.RS;refine AH Tryz.func256 (by kernel_rfl) rfl fun E hE=>?_
 conv=>cbv
 intro ak P;have an:=P.eq;have f15:=P.le;conv=>cbv
 refine .inr ?_
 obtain⟨J0,M⟩:∃J:List AV->List AM->Nat->Prop,J=fun vs bl k=>(∃(L i:Int),vs=[.one (.AD 4 0 0),.one (.AD 6 0 0),.one (.sl (.sl AA) U),.one (.int .i64 L),.one (.int .i64 i)]/\bl=[.var 0 [.nil,.nil],.var 0 [.sl (.sl AA) T,.nil],.dead 0]/\(Cb L U.length/\AS i 0)/\k=U.length)\/
  (∃(Ti o:List LR) (mm i':Nat) (L i:Int),vs=[.one (.AD 4 0 0),.one (.AD 6 0 0),.one (.sl (.sl AA) U),.one (.int .i64 L),.one (.int .i64 i)]/\bl=[.var 0 [.nil,.nil],.var 0 [.sl (.sl AA) Ti,.AT (.sl AA) 39 0 0 mm],.arr 0 (.sl AA) o]/\(Cb L U.length/\AS i i'/\i'<=U.length/\mm=o.length)/\Ti=tw (ext t (pre u i'))/\o=CT t (pre u i')/\k=U.length-i'):=⟨_,rfl⟩
 refine⟨[4,6,14,15,16],[4,6,39],J0,⟨U.length,by rw[M];exact .inl ⟨ak,0,rfl,rfl,⟨P,BC 0⟩,rfl⟩⟩,?_⟩;intro vs bl av hj;rw[M] at hj;rcases hj with⟨L,i,rfl,rfl,⟨hL,hi⟩,aj⟩ |⟨Ti,o,mm,i',L,i,rfl,rfl,⟨hL,hi,aq,X⟩,v,hinv,aj⟩
 ·conv=>cbv
  have eL:=hL.eq;have ei:=hi.eq;obtain⟨i',W⟩:=xN 0;have v:T=tw (ext t (pre u i')):=by rw[W,JC];exact hT
  intro a5 z;conv=>cbv
  cases a5 <;> conv=>cbv
  ·have a1:=Ad z;have ag:u=[]:=List.eq_nil_of_length_eq_zero (by omega);exact fA ⟨⟨rfl,congrArg _ (by rw[ab,hT,ag];rfl),.inr (.inl ⟨_,congrArg _ (by rw[a8,ag];rfl)⟩),trivial⟩,t2,trivial⟩ rfl (by simp)
  have a1:=Ae z;refine .inr ?_;obtain⟨y,m⟩:=AG (l:=U) (i:=i') (by omega);refine⟨y,fun _=>⟨by omega,by rw[show (i).toNat=i' by omega];exact m⟩,?_⟩;try conv=>cbv
  obtain⟨r,s,F⟩:=HS (u:=u) (i:=i') (by omega);have d:TT (pre u i'):=G.Hb (HT u i') hu;have b:TT (r::pre u i'):=s ▸ G.Hb (HT u (i'+1)) hu;have D:=(G.AU b).red;have Z:y=em (pre u i') (AN (pre u i') r):=by rw[<-hU,m] at F;exact (Option.some.inj F).trans (DU D)
  have c:TT (ext t (pre u i')):=G.ext ht d;have p:=(HW (G.AU ht).red (G.AU d).red).2;have B:El (pre u i') S (AN (pre u i') r):=(El.Ca (G.AU b)).mono aa;have H:TT (Ax (ext t (pre u i')) (AN (pre u i') r)):=G.Ax c b p;have V:ext t (pre u (i'+1))=Ax (ext t (pre u i')) (AN (pre u i') r):=by rw[s];rfl
  have Y:CT t (pre u (i'+1))=CT t (pre u i')++[em (Ax (ext t (pre u i')) (AN (pre u i') r)) (Re.sqrt (AN (pre u i') r))]:=by rw[s];rfl
  obtain⟨a7,g⟩:=xR (em (ext t (pre u i')) (AN (pre u i') r));refine cL (r:= .one (.sl AA a7)) hE (OO G c d p v (by rw[W,JC];trivial) Z B g) ⟨⟨rfl,.inr ⟨_,rfl⟩,trivial⟩,rfl,trivial⟩ ?_;try conv=>cbv
  obtain⟨I,h⟩:=xV (tw (Ax (ext t (pre u i')) (AN (pre u i') r)));obtain⟨f,j⟩:=xR (em (Ax (ext t (pre u i')) (AN (pre u i') r)) (Re.sqrt (AN (pre u i') r)));refine cL (r:= .AE [(false,[.sl (.sl AA) I]),(false,[.sl AA f]),(false,[.int .i64 0])]) hE (NA (G.AU c) (G.AU H) (G.ht H) v g (G.Be d c p B) (G.fit c) (by have:=D.2.2.1;grind) h j) t2 ?_;try conv=>cbv
  refine g2 rfl ?_;intro al Q;cases Q.trans (show _=false by decide);conv=>cbv
  refine⟨[f],fun _=>⟨rfl,by decide,rfl,⟨rfl,by first | exact t1 | exact t2 | exact t4 | simp[Aw,BF,cells],trivial⟩⟩,.inr ?_⟩;try conv=>cbv
  refine .inl ⟨[f],fun _=>⟨rfl,by show (1)*24<=140737488355328;(try simp only[List.length_take,List.length_drop]);omega⟩,?_⟩;intro N ah;conv=>cbv
  intro a6 ai;conv=>cbv
  refine g1 (by omega) ?_;refine⟨U.length-(i'+1),?_,?_⟩
  ·omega
  rw[M];exact .inr ⟨I,[f],N,i'+1,L,a6,rfl,rfl,⟨hL,⟨by omega⟩,by omega,ah⟩,by rw[h,V],by rw[Y,j,W,JC];rfl,rfl⟩
 conv=>cbv
 have eL:=hL.eq;have ei:=hi.eq;have ar:o.length<=U.length:=by rw[hinv,Ka,HR (by omega)];omega
 intro a5 z;conv=>cbv
 cases a5 <;> conv=>cbv
 ·have a1:=Ad z;have af:pre u i'=u:=by rw[show i'=u.length by omega];exact Ui u
  exact fA ⟨⟨rfl,congrArg _ (by rw[ab,v,af]),.inl ⟨_,rfl,by omega,congrArg _ (by rw[a8,X,List.drop_zero,List.take_length,hinv,af])⟩,trivial⟩,t2,trivial⟩ rfl (by simp)
 have a1:=Ae z;refine .inr ?_;obtain⟨y,m⟩:=AG (l:=U) (i:=i') (by omega);refine⟨y,fun _=>⟨by omega,by rw[show (i).toNat=i' by omega];exact m⟩,?_⟩;try conv=>cbv
 obtain⟨r,s,F⟩:=HS (u:=u) (i:=i') (by omega);have d:TT (pre u i'):=G.Hb (HT u i') hu;have b:TT (r::pre u i'):=s ▸ G.Hb (HT u (i'+1)) hu;have D:=(G.AU b).red;have Z:y=em (pre u i') (AN (pre u i') r):=by rw[<-hU,m] at F;exact (Option.some.inj F).trans (DU D)
 have c:TT (ext t (pre u i')):=G.ext ht d;have p:=(HW (G.AU ht).red (G.AU d).red).2;have B:El (pre u i') S (AN (pre u i') r):=(El.Ca (G.AU b)).mono aa;have H:TT (Ax (ext t (pre u i')) (AN (pre u i') r)):=G.Ax c b p;have V:ext t (pre u (i'+1))=Ax (ext t (pre u i')) (AN (pre u i') r):=by rw[s];rfl
 have Y:CT t (pre u (i'+1))=CT t (pre u i')++[em (Ax (ext t (pre u i')) (AN (pre u i') r)) (Re.sqrt (AN (pre u i') r))]:=by rw[s];rfl
 obtain⟨a7,g⟩:=xR (em (ext t (pre u i')) (AN (pre u i') r));refine .inr (.inr (.inl ⟨39,.arr 0 (.sl AA) o,[.agg [.sl (.sl AA) Ti,.AT (.sl AA) 0 0 0 mm],.one (.sl AA y)],.one (.sl AA a7),fun _=>⟨rfl,⟨⟨rfl,⟨⟨rfl,rfl⟩,rfl⟩,trivial⟩,rfl,trivial⟩⟩,fun _=>AP hE (imD G c d p v (by rw[hinv];exact E8 (G.AU ht).red (G.AU d).red) X Z B g),?_⟩));try conv=>cbv
 obtain⟨I,h⟩:=xV (tw (Ax (ext t (pre u i')) (AN (pre u i') r)));obtain⟨f,j⟩:=xR (em (Ax (ext t (pre u i')) (AN (pre u i') r)) (Re.sqrt (AN (pre u i') r)));refine cL (r:= .AE [(false,[.sl (.sl AA) I]),(false,[.sl AA f]),(false,[.int .i64 0])]) hE (NA (G.AU c) (G.AU H) (G.ht H) v g (G.Be d c p B) (G.fit c) (by have:=D.2.2.1;grind) h j) t2 ?_;try conv=>cbv
 refine g2 rfl ?_;intro al Q;cases Q.trans (show _=false by decide);conv=>cbv
 refine⟨[f],fun _=>⟨rfl,by decide,rfl,⟨rfl,by first | exact t1 | exact t2 | exact t4 | simp[Aw,BF,cells],trivial⟩⟩,.inr ?_⟩;try conv=>cbv
 refine .inl ⟨[f],fun _=>⟨rfl,X,rfl,by show (o.length+1)*24<=140737488355328;(try simp only[List.length_take,List.length_drop]);omega⟩,?_⟩;intro (a2:List (el (.sl AA))) N O;have ad:a2=(o:List (el (.sl AA)))++([f]:List (el (.sl AA))):=O.1;have ae:N=List.length (α:=(el (.sl AA))) a2:=O.2;conv=>cbv
 intro a6 ai;conv=>cbv
 refine g1 (by omega) ?_;refine⟨U.length-(i'+1),?_,?_⟩
 ·omega
 rw[M];exact .inr ⟨I,a2,N,i'+1,L,a6,rfl,rfl,⟨hL,⟨by omega⟩,by omega,ae⟩,by rw[h,V],by rw[ad,hinv,Y,j],rfl⟩
end Go.Abs
