/- Part 37 of a proof. Conditions: each theorem's own. -/
import Derived.Test.YtjpiilcgomggaaaGreatPk32
import Derived.Test.YtjpiilcgomggaaaGreatPk35
set_option linter.all false
set_option maxHeartbeats 8000000
open Go.Proofs
namespace Go.Abs
open Go.RowKit
def Db (w:List (List Rat)) (RL:List LR):List (List Rat)->Prop
 | []=>True
 | r::u=>Db w RL u/\∃wk,wk<:+w/\In wk (rt u r)/\RL[u.length]? =some (em wk (rt u r))
variable {A C:LR} {K R S a k mm n:Nat} {RL T:List LR} {TT:List (List Rat)->Prop} {p q x:Re} {r:List Rat} {u w:List (List Rat)}
theorem Db.mono {w':List (List Rat)} {X:List LR} (h:w<:+w'):∀{u:List (List Rat)},Db w RL u->Db w' (RL++X) u
 | [],_=>trivial
 | r::u,⟨c,g,d,f,b⟩=>⟨c.mono h,g,d.trans h,f,by rw[List.getElem?_append_left (D6 b)];exact b⟩
noncomputable def Bj (t:List (List Rat)):List (List Rat)->List LR
 | []=>[]
 | r::u=>Bj t u++[em (ext t (r::u)) (rt u r)]
theorem I1 (t:List (List Rat)):∀u,(Bj t u).length=u.length
 | []=>rfl
 | r::u=>by rw[Bj,List.length_append,I1 t u];rfl
theorem EC {t:List (List Rat)} (ht:AQ t):∀{u:List (List Rat)},AQ u->Db (ext t u) (Bj t u) u
 | [],_=>trivial
 | r::u,hu=>by
  refine⟨(EC ht hu.1).mono (HE _ _),ext t (r::u),List.suffix_refl _,(GS ht hu).2.root,?_⟩;rw[Bj,List.getElem?_append_right (by rw[I1];omega),I1,Nat.sub_self];rfl
theorem Ej {t:List (List Rat)} (ht:AQ t):∀{u:List (List Rat)},AQ u->Av u t->ext t u=t
 | [],_,_=>rfl
 | r::u,hu,h=>by
  rw[ext,Ej ht hu.1 h.tail];exact CY ⟨rt u r,h.root,Bk hu⟩
def LN (f:FuncId) (S:Nat) (w u:List (List Rat)):Prop:=∀{T RL:List LR} {A C:LR} {x:Re},T=tw w->Db w RL u->A=em u x->El u S x->C=em w x->
 CF f [.agg [.sl (.sl AA) T,.sl (.sl AA) RL],.one (.sl AA A)] (.one (.sl AA C))
def LO (f:FuncId) (S:Nat) (w u:List (List Rat)):Prop:=∀{T RL:List LR} {A C:LR} {x:Re} {mm:Nat},T=tw w->Db w RL u->mm=RL.length->A=em u x->El u S x->C=em w x->
 Da Tryz.prog f [.agg [.sl (.sl AA) T,.AL (.sl AA) 0 0 0 mm],.one (.sl AA A)] (.arr 0 (.sl AA) RL) (.one (.sl AA C))
theorem Rp {b:Nat}:2^a<2^b↔a<b:=Nat.pow_lt_pow_iff_right (by decide)
theorem Ha (c:a=2^n+2^n) (h:2^(k+1)<a):k<n:=by
 have b:a=2^(n+1):=by rw[c,Nat.pow_succ];omega
 rw[b,Rp] at h;omega
theorem HZ (c:a=2^n+2^n) (h:¬2^(k+1)<a):n<=k:=by
 have b:a=2^(n+1):=by rw[c,Nat.pow_succ];omega
 rw[b,Rp] at h;omega
theorem XA {u:List (List Rat)} {x:Re} (G:Gam TT R K S) (hw:TT w) (hT:T=tw w) {q:Rat} (hA:A=em [] (Re.ofRat q)) (s:BF q) (o:C=em w (Re.ofRat q)):CF 95 [.agg [.sl (.sl AA) T,.sl (.sl AA) RL],.one (.sl AA A)] (.one (.sl AA C)):=by
 have d:A=[rp q]:=hA.trans (Cg q);have m:A.length=1:=by rw[d];rfl
 refine AE Tryz.func95 (by kernel_rfl) rfl fun E p=>?_
 conv=>cbv
 rintro t ⟨j,f10⟩;conv=>cbv
 intro g c;conv=>cbv
 cases g <;> conv=>cbv
 ·have f:=Ac c;exact absurd f (by omega)
 have f:=Ad c;obtain⟨h,b⟩:=AF (l:=A) (i:=0) (by omega);refine⟨h,fun _=>⟨by omega,b⟩,?_⟩;try conv=>cbv
 refine cL p (GY (G.AN hw) hT (C8 d b) s o) ⟨rfl,t4,trivial⟩ ?_;try conv=>cbv
 refine g2 rfl ?_;exact fA ⟨t2,trivial⟩ rfl (by simp)
theorem XC (G:Gam TT R K S) (hw:TT w) (hT:T=tw w) (hu:TT (r::u)) (H:Av (r::u) w) (ih:LN 95 S w u) (hR:Db w RL (r::u)) (hA:A=em (r::u) x) (hx:El (r::u) S x) (h:x=p+q*rt u r) (M:El u S p) (N:El u S q) (h0:q=0) (hC:C=em w x):CF 95 [.agg [.sl (.sl AA) T,.sl (.sl AA) RL],.one (.sl AA A)] (.one (.sl AA C)):=by
 have g:=(G.AN hu).red;have l:A.length=2^u.length+2^u.length:=by rw[hA,Ap hx.mem,BE]
 have aq:=Cc u.length;have al:(r::u).length<=8:=G.ht hu;have a6:(r::u).length=u.length+1:=rfl;have hmul:=G.mul hw;have P:El w K (rt u r):=by have:=G.BA hu hw H (F6 g);rwa [Nat.zero_add] at this
 obtain⟨wk,ar,a8,J⟩:=hR.2;obtain⟨rk,O⟩:=xR (em wk (rt u r));rw[<-O] at J;refine AE Tryz.func95 (by kernel_rfl) rfl fun E hE=>?_
 conv=>cbv
 rintro aw ⟨ad,f10⟩;conv=>cbv
 intro X i;conv=>cbv
 cases X <;> conv=>cbv
 ·have y:=Ac i;rintro ax ⟨ae,f19⟩;conv=>cbv
  intro Y ai;conv=>cbv
  refine g2 ⟨by omega,by omega,i64 (by omega)⟩ ?_;refine .inr ?_;obtain⟨J0,c⟩:=xJ fun vs bl k=>∃(k':Nat) (z U:Int),vs=[.one (.sl AA A),.one (.An 2 0 0),.one (.int .i64 z),.one (.int .i64 U)]/\bl=[.var 0 [.sl (.sl AA) T,.sl (.sl AA) RL]]/\(AK z (A.length/2)/\AK U k'/\k'<=u.length)/\k=u.length-k'
  refine⟨[1,2,5,6],[2],J0,⟨u.length-0,by rw[c];exact⟨0,Y,0,rfl,rfl,⟨⟨by omega⟩,Ai 0,by omega⟩,rfl⟩⟩,?_⟩;intro vs bl au hj;rw[c] at hj;obtain⟨k',z,U,rfl,rfl,⟨m,I,ao⟩,an⟩:=hj;conv=>cbv
  have ag:=m.eq;have ah:=I.eq;intro ay aj;conv=>cbv
  refine g1 (by omega) ?_;intro az F;conv=>cbv
  refine g2 (by omega) ?_;rintro aA ⟨af,f25⟩;conv=>cbv
  have aa:=(DE (k:=k'+1) F (by omega) (by omega)).eq;intro Z j;conv=>cbv
  cases Z <;> conv=>cbv
  ·have Q:=AR j;have L:k'=u.length:=by have:=HZ l (show ¬2^(k'+1)<A.length by omega);omega
   intro m32 a7;conv=>cbv
   refine g2 (by omega) ?_;intro D a5;conv=>cbv
   intro V s;conv=>cbv
   have d:V=em u p:=by rw[s,List.drop_zero,show D=A.length/2 by omega,hA,BY g M.mem N.mem h]
   obtain⟨aB,b⟩:=xR (em w (p));refine cL hE (ih hT hR.1 d M b) ⟨t2,rfl,trivial⟩ ?_;try conv=>cbv
   refine g2 rfl ?_;intro av v;conv=>cbv
   refine g2 (by omega) ?_;rintro B ab ⟨a2,o⟩;conv=>cbv
   intro W t;conv=>cbv
   have f:W=em u q:=by rw[t,show B=A.length/2 by omega,o,v,List.take_length,hA,BL g M.mem N.mem h]
   refine cL hE (Ge (G.AN (G.sub hu)).red N.mem f h0) t1 ?_;try conv=>cbv
   exact fA ⟨⟨rfl,congrArg _ (by rw[hC,b];congr 1;rw[h,h0];clear ih;grind),trivial⟩,trivial⟩ rfl (by simp)
  have Q:=AS j;refine .inr ?_;have L:k'<u.length:=Ha l (show 2^(k'+1)<A.length by omega);intro a1 ak;conv=>cbv
  refine g1 (by omega) ?_;refine⟨u.length-(k'+1),?_,?_⟩
  ·omega
  rw[c];exact⟨k'+1,z,a1,rfl,rfl,⟨m,⟨by omega⟩,by omega⟩,rfl⟩
 have y:=Ad i;exact absurd y (by omega)
theorem XB (G:Gam TT R K S) (hw:TT w) (hT:T=tw w) (hu:TT (r::u)) (c:Av (r::u) w) (ih:LN 95 S w u) (hR:Db w RL (r::u)) (hA:A=em (r::u) x) (hx:El (r::u) S x) (f:x=p+q*rt u r) (P:El u S p) (t:El u S q) (h0:q≠0) (hC:C=em w x):CF 95 [.agg [.sl (.sl AA) T,.sl (.sl AA) RL],.one (.sl AA A)] (.one (.sl AA C)):=by
 have d:=(G.AN hu).red;have B:A.length=2^u.length+2^u.length:=by rw[hA,Ap hx.mem,BE]
 have aF:=Cc u.length;have aC:(r::u).length<=8:=G.ht hu;have al:(r::u).length=u.length+1:=rfl;have hmul:=G.mul hw;have b:El w K (rt u r):=by have:=G.BA hu hw c (F6 d);rwa [Nat.zero_add] at this
 obtain⟨wk,a7,Q,F⟩:=hR.2;obtain⟨rk,U⟩:=xR (em wk (rt u r));rw[<-U] at F;refine AE Tryz.func95 (by kernel_rfl) rfl fun E v=>?_
 conv=>cbv
 rintro aJ ⟨au,f10⟩;conv=>cbv
 intro ae y;conv=>cbv
 cases ae <;> conv=>cbv
 ·have V:=Ac y;rintro aK ⟨av,f19⟩;conv=>cbv
  intro af az;conv=>cbv
  refine g2 ⟨by omega,by omega,i64 (by omega)⟩ ?_;refine .inr ?_;obtain⟨J0,l⟩:=xJ fun vs bl k=>∃(k':Nat) (W X:Int),vs=[.one (.sl AA A),.one (.An 2 0 0),.one (.int .i64 W),.one (.int .i64 X)]/\bl=[.var 0 [.sl (.sl AA) T,.sl (.sl AA) RL]]/\(AK W (A.length/2)/\AK X k'/\k'<=u.length)/\k=u.length-k'
  refine⟨[1,2,5,6],[2],J0,⟨u.length-0,by rw[l];exact⟨0,af,0,rfl,rfl,⟨⟨by omega⟩,Ai 0,by omega⟩,rfl⟩⟩,?_⟩;intro vs bl aG hj;rw[l] at hj;obtain⟨k',W,X,rfl,rfl,⟨D,a5,aE⟩,aD⟩:=hj;conv=>cbv
  have ax:=D.eq;have ay:=a5.eq;intro aL aA;conv=>cbv
  refine g1 (by omega) ?_;intro aM a2;conv=>cbv
  refine g2 (by omega) ?_;rintro aN ⟨aw,f25⟩;conv=>cbv
  have ao:=(DE (k:=k'+1) a2 (by omega) (by omega)).eq;intro ag z;conv=>cbv
  cases ag <;> conv=>cbv
  ·have a8:=AR z;have a6:k'=u.length:=by have:=HZ B (show ¬2^(k'+1)<A.length by omega);omega
   intro m32 an;conv=>cbv
   refine g2 (by omega) ?_;intro a1 ak;conv=>cbv
   intro aa J;conv=>cbv
   have m:aa=em u p:=by rw[J,List.drop_zero,show a1=A.length/2 by omega,hA,BY d P.mem t.mem f]
   obtain⟨aO,g⟩:=xR (em w (p));refine cL v (ih hT hR.1 m P g) ⟨t2,rfl,trivial⟩ ?_;try conv=>cbv
   refine g2 rfl ?_;intro aH N;conv=>cbv
   refine g2 (by omega) ?_;rintro Y aq ⟨ai,H⟩;conv=>cbv
   intro ab L;conv=>cbv
   have o:ab=em u q:=by rw[L,show Y=A.length/2 by omega,H,N,List.take_length,hA,BL d P.mem t.mem f]
   refine cL v (FW (G.AN (G.sub hu)).red t.mem o h0) t1 ?_;try conv=>cbv
   intro aI O;conv=>cbv
   refine g2 (by omega) ?_;rintro Z ar ⟨aj,I⟩;conv=>cbv
   intro ad M;conv=>cbv
   have s:ad=em u q:=by rw[M,show Z=A.length/2 by omega,I,O,List.take_length,hA,BL d P.mem t.mem f]
   obtain⟨aP,h⟩:=xR (em w (q));refine cL v (ih hT hR.1 s t h) ⟨t2,rfl,trivial⟩ ?_;try conv=>cbv
   refine⟨rk,fun _=>⟨by omega,by rw[show X.toNat=u.length by omega];exact F⟩,?_⟩;try conv=>cbv
   obtain⟨aQ,i⟩:=xR (em w (rt u r));refine cL v (Ke (G.AN hw) hT U Q a7 i) t2 ?_;try conv=>cbv
   obtain⟨aR,j⟩:=xR (em w (q*rt u r));refine cL v (E5 (G.AN hw) hT h i (G.BA (G.sub hu) hw c.tail t) b (by omega) j) t3 ?_;try conv=>cbv
   refine g2 rfl ?_;refine cL (r:= .one (.sl AA C)) v (G0 (G.AN hw) hT g j (G.BA (G.sub hu) hw c.tail P) ((G.BA (G.sub hu) hw c.tail t).mul (G.AN hw) b) (by omega) (by omega) (by rw[hC,f])) t3 ?_;try conv=>cbv
   exact fA ⟨t2,trivial⟩ rfl (by simp)
  have a8:=AS z;refine .inr ?_;have a6:k'<u.length:=Ha B (show 2^(k'+1)<A.length by omega);intro ah aB;conv=>cbv
  refine g1 (by omega) ?_;refine⟨u.length-(k'+1),?_,?_⟩
  ·omega
  rw[l];exact⟨k'+1,W,ah,rfl,rfl,⟨D,⟨by omega⟩,by omega⟩,rfl⟩
 have V:=Ad y;exact absurd V (by omega)
theorem XD {u:List (List Rat)} {x:Re} (s:mm=RL.length) (G:Gam TT R K S) (hw:TT w) (hT:T=tw w) {q:Rat} (hA:A=em [] (Re.ofRat q)) (t:BF q) (o:C=em w (Re.ofRat q)):Da Tryz.prog 95 [.agg [.sl (.sl AA) T,.AL (.sl AA) 0 0 0 mm],.one (.sl AA A)] (.arr 0 (.sl AA) RL) (.one (.sl AA C)):=by
 have d:A=[rp q]:=hA.trans (Cg q);have m:A.length=1:=by rw[d];rfl
 refine FX Tryz.func95 (by kernel_rfl) rfl fun E p=>?_
 conv=>cbv
 rintro v ⟨j,f10⟩;conv=>cbv
 intro g c;conv=>cbv
 cases g <;> conv=>cbv
 ·have f:=Ac c;exact absurd f (by omega)
 have f:=Ad c;obtain⟨h,b⟩:=AF (l:=A) (i:=0) (by omega);refine⟨h,fun _=>⟨by omega,b⟩,?_⟩;try conv=>cbv
 refine cL p (GY (G.AN hw) hT (C8 d b) t o) ⟨rfl,t4,trivial⟩ ?_;try conv=>cbv
 refine g2 rfl ?_;refine fun _=>⟨⟨⟨t2,trivial⟩,rfl,by simp⟩,rfl⟩
theorem XF (N:mm=RL.length) (G:Gam TT R K S) (hw:TT w) (hT:T=tw w) (hu:TT (r::u)) (I:Av (r::u) w) (ih:LO 95 S w u) (hR:Db w RL (r::u)) (hA:A=em (r::u) x) (hx:El (r::u) S x) (h:x=p+q*rt u r) (O:El u S p) (P:El u S q) (h0:q=0) (hC:C=em w x):Da Tryz.prog 95 [.agg [.sl (.sl AA) T,.AL (.sl AA) 0 0 0 mm],.one (.sl AA A)] (.arr 0 (.sl AA) RL) (.one (.sl AA C)):=by
 have g:=(G.AN hu).red;have l:A.length=2^u.length+2^u.length:=by rw[hA,Ap hx.mem,BE]
 have au:=Cc u.length;have ao:(r::u).length<=8:=G.ht hu;have a8:(r::u).length=u.length+1:=rfl;have hmul:=G.mul hw;have U:El w K (rt u r):=by have:=G.BA hu hw I (F6 g);rwa [Nat.zero_add] at this
 obtain⟨wk,av,ab,L⟩:=hR.2;obtain⟨rk,Q⟩:=xR (em wk (rt u r));rw[<-Q] at L;refine FX Tryz.func95 (by kernel_rfl) rfl fun E hE=>?_
 conv=>cbv
 rintro ay ⟨af,f10⟩;conv=>cbv
 intro Y i;conv=>cbv
 cases Y <;> conv=>cbv
 ·have y:=Ac i;rintro az ⟨ag,f19⟩;conv=>cbv
  intro Z ak;conv=>cbv
  refine g2 ⟨by omega,by omega,i64 (by omega)⟩ ?_;refine .inr ?_;obtain⟨J0,c⟩:=xJ fun vs bl k=>∃(k':Nat) (B W:Int),vs=[.one (.sl AA A),.one (.An 2 0 0),.one (.int .i64 B),.one (.int .i64 W)]/\bl=[.arr 0 (.sl AA) RL,.var 0 [.sl (.sl AA) T,.AL (.sl AA) 0 0 0 mm]]/\(AK B (A.length/2)/\AK W k'/\k'<=u.length)/\k=u.length-k'
  refine⟨[1,2,5,6],[0,2],J0,⟨u.length-0,by rw[c];exact⟨0,Z,0,rfl,rfl,⟨⟨by omega⟩,Ai 0,by omega⟩,rfl⟩⟩,?_⟩;intro vs bl aw hj;rw[c] at hj;obtain⟨k',B,W,rfl,rfl,⟨m,J,ar⟩,aq⟩:=hj;conv=>cbv
  have ai:=m.eq;have aj:=J.eq;intro aA al;conv=>cbv
  refine g1 (by omega) ?_;intro aB H;conv=>cbv
  refine g2 (by omega) ?_;rintro aC ⟨ah,f25⟩;conv=>cbv
  have ad:=(DE (k:=k'+1) H (by omega) (by omega)).eq;intro a1 j;conv=>cbv
  cases a1 <;> conv=>cbv
  ·have V:=AR j;have M:k'=u.length:=by have:=HZ l (show ¬2^(k'+1)<A.length by omega);omega
   intro m32 aa;conv=>cbv
   refine g2 (by omega) ?_;intro F a7;conv=>cbv
   intro z s;conv=>cbv
   have d:z=em u p:=by rw[s,List.drop_zero,show F=A.length/2 by omega,hA,BY g O.mem P.mem h]
   obtain⟨a5,b⟩:=xR (em w (p));refine .inr (.inr (.inl ⟨0,.arr 0 (.sl AA) RL,[.agg [.sl (.sl AA) T,.AL (.sl AA) 0 0 0 mm],.one (.sl AA z)],.one (.sl AA a5),fun _=>⟨rfl,⟨⟨rfl,⟨⟨rfl,rfl⟩,rfl⟩,trivial⟩,rfl,trivial⟩⟩,fun _=>E0 hE (ih hT hR.1 N d O b),?_⟩));try conv=>cbv
   refine g2 rfl ?_;intro ax v;conv=>cbv
   refine g2 (by omega) ?_;rintro D ae ⟨a6,o⟩;conv=>cbv
   intro X t;conv=>cbv
   have f:X=em u q:=by rw[t,show D=A.length/2 by omega,o,v,List.take_length,hA,BL g O.mem P.mem h]
   refine cL hE (Ge (G.AN (G.sub hu)).red P.mem f h0) t1 ?_;try conv=>cbv
   refine fun _=>⟨⟨⟨⟨rfl,congrArg _ (by rw[hC,b];congr 1;rw[h,h0];clear ih;grind),trivial⟩,trivial⟩,rfl,by simp⟩,rfl⟩
  have V:=AS j;refine .inr ?_;have M:k'<u.length:=Ha l (show 2^(k'+1)<A.length by omega);intro a2 an;conv=>cbv
  refine g1 (by omega) ?_;refine⟨u.length-(k'+1),?_,?_⟩
  ·omega
  rw[c];exact⟨k'+1,B,a2,rfl,rfl,⟨m,⟨by omega⟩,by omega⟩,rfl⟩
 have y:=Ad i;exact absurd y (by omega)
theorem XE (Y:mm=RL.length) (G:Gam TT R K S) (hw:TT w) (hT:T=tw w) (hu:TT (r::u)) (c:Av (r::u) w) (ih:LO 95 S w u) (hR:Db w RL (r::u)) (hA:A=em (r::u) x) (hx:El (r::u) S x) (h:x=p+q*rt u r) (Z:El u S p) (D:El u S q) (h0:q≠0) (hC:C=em w x):Da Tryz.prog 95 [.agg [.sl (.sl AA) T,.AL (.sl AA) 0 0 0 mm],.one (.sl AA A)] (.arr 0 (.sl AA) RL) (.one (.sl AA C)):=by
 have g:=(G.AN hu).red;have M:A.length=2^u.length+2^u.length:=by rw[hA,Ap hx.mem,BE]
 have aN:=Cc u.length;have aK:(r::u).length<=8:=G.ht hu;have aw:(r::u).length=u.length+1:=rfl;have hmul:=G.mul hw;have b:El w K (rt u r):=by have:=G.BA hu hw c (F6 g);rwa [Nat.zero_add] at this
 obtain⟨wk,ag,a1,d⟩:=hR.2;obtain⟨rk,f⟩:=xR (em wk (rt u r));rw[<-f] at d;refine FX Tryz.func95 (by kernel_rfl) rfl fun E I=>?_
 conv=>cbv
 rintro aR ⟨aC,f10⟩;conv=>cbv
 intro aj J;conv=>cbv
 cases aj <;> conv=>cbv
 ·have a5:=Ac J;rintro aS ⟨aD,f19⟩;conv=>cbv
  intro ak aH;conv=>cbv
  refine g2 ⟨by omega,by omega,i64 (by omega)⟩ ?_;refine .inr ?_;obtain⟨J0,v⟩:=xJ fun vs bl k=>∃(k':Nat) (hv kk:Int),vs=[.one (.sl AA A),.one (.An 2 0 0),.one (.int .i64 hv),.one (.int .i64 kk)]/\bl=[.arr 0 (.sl AA) RL,.var 0 [.sl (.sl AA) T,.AL (.sl AA) 0 0 0 mm]]/\(AK hv (A.length/2)/\AK kk k'/\k'<=u.length)/\k=u.length-k'
  refine⟨[1,2,5,6],[0,2],J0,⟨u.length-0,by rw[v];exact⟨0,ak,0,rfl,rfl,⟨⟨by omega⟩,Ai 0,by omega⟩,rfl⟩⟩,?_⟩;intro vs bl aO hj;rw[v] at hj;obtain⟨k',hv,kk,rfl,rfl,⟨N,ae,aM⟩,aL⟩:=hj;conv=>cbv
  have aF:=N.eq;have aG:=ae.eq;intro aT aI;conv=>cbv
  refine g1 (by omega) ?_;intro aU ad;conv=>cbv
  refine g2 (by omega) ?_;rintro aV ⟨aE,f25⟩;conv=>cbv
  have az:=(DE (k:=k'+1) ad (by omega) (by omega)).eq;intro al L;conv=>cbv
  cases al <;> conv=>cbv
  ·have ah:=AR L;have af:k'=u.length:=by have:=HZ M (show ¬2^(k'+1)<A.length by omega);omega
   intro m32 ay;conv=>cbv
   refine g2 (by omega) ?_;intro ab av;conv=>cbv
   intro a6 Q;conv=>cbv
   have y:a6=em u p:=by rw[Q,List.drop_zero,show ab=A.length/2 by omega,hA,BY g Z.mem D.mem h]
   obtain⟨ao,j⟩:=xR (em w (p));refine .inr (.inr (.inl ⟨0,.arr 0 (.sl AA) RL,[.agg [.sl (.sl AA) T,.AL (.sl AA) 0 0 0 mm],.one (.sl AA a6)],.one (.sl AA ao),fun _=>⟨rfl,⟨⟨rfl,⟨⟨rfl,rfl⟩,rfl⟩,trivial⟩,rfl,trivial⟩⟩,fun _=>E0 I (ih hT hR.1 Y y Z j),?_⟩));try conv=>cbv
   refine g2 rfl ?_;intro aP W;conv=>cbv
   refine g2 (by omega) ?_;rintro a8 aA ⟨ar,O⟩;conv=>cbv
   intro ai U;conv=>cbv
   have z:ai=em u q:=by rw[U,show a8=A.length/2 by omega,O,W,List.take_length,hA,BL g Z.mem D.mem h]
   refine cL I (FW (G.AN (G.sub hu)).red D.mem z h0) t1 ?_;try conv=>cbv
   intro aQ X;conv=>cbv
   refine g2 (by omega) ?_;rintro aa aB ⟨au,P⟩;conv=>cbv
   intro a7 V;conv=>cbv
   have B:a7=em u q:=by rw[V,show aa=A.length/2 by omega,P,X,List.take_length,hA,BL g Z.mem D.mem h]
   obtain⟨aq,m⟩:=xR (em w (q));refine .inr (.inr (.inl ⟨0,.arr 0 (.sl AA) RL,[.agg [.sl (.sl AA) T,.AL (.sl AA) 0 0 0 mm],.one (.sl AA a7)],.one (.sl AA aq),fun _=>⟨rfl,⟨⟨rfl,⟨⟨rfl,rfl⟩,rfl⟩,trivial⟩,rfl,trivial⟩⟩,fun _=>E0 I (ih hT hR.1 Y B D m),?_⟩));try conv=>cbv
   refine⟨fun _=>⟨by omega,by have:=D6 d;omega⟩,?_⟩;intro a2 ax;conv=>cbv
   obtain⟨H,t⟩:=AF (l:=RL) (i:=a2) (by have:=D6 d;omega);refine⟨H,fun _=>t,?_⟩;try conv=>cbv
   have F:H=rk:=by have:=t;rw[show a2=u.length by omega,d] at this;exact (Option.some.inj this).symm
   have f:H=em wk (rt u r):=F.trans f;obtain⟨aW,o⟩:=xR (em w (rt u r));refine cL I (Ke (G.AN hw) hT f a1 ag o) t2 ?_;try conv=>cbv
   obtain⟨aX,s⟩:=xR (em w (q*rt u r));refine cL I (E5 (G.AN hw) hT m o (G.BA (G.sub hu) hw c.tail D) b (by omega) s) t3 ?_;try conv=>cbv
   refine g2 rfl ?_;refine cL (r:= .one (.sl AA C)) I (G0 (G.AN hw) hT j s (G.BA (G.sub hu) hw c.tail Z) ((G.BA (G.sub hu) hw c.tail D).mul (G.AN hw) b) (by omega) (by omega) (by rw[hC,h])) t3 ?_;try conv=>cbv
   refine fun _=>⟨⟨⟨t2,trivial⟩,rfl,by simp⟩,rfl⟩
  have ah:=AS L;refine .inr ?_;have af:k'<u.length:=Ha M (show 2^(k'+1)<A.length by omega);intro an aJ;conv=>cbv
  refine g1 (by omega) ?_;refine⟨u.length-(k'+1),?_,?_⟩
  ·omega
  rw[v];exact⟨k'+1,hv,an,rfl,rfl,⟨N,⟨by omega⟩,by omega⟩,rfl⟩
 have a5:=Ad J;exact absurd a5 (by omega)
theorem MP (G:Gam TT R K S) (hw:TT w):∀{u:List (List Rat)},TT u->Av u w->LN 95 S w u:=by
 intro u
 induction u with
 | nil=>
  intro hu b T RL A C x hT hR hA hx f;obtain⟨q,rfl⟩:=Bb.1 hx.mem;have c:=hx.BC (by have:=G.mul hw;omega);rw[Bn] at c;exact XA (u:=[]) (x:=0) G hw hT hA (c q List.mem_cons_self) f
 | cons r u i=>
  intro hu b T RL A C x hT hR hA hx f;obtain⟨p,q,d,h,c⟩:=El.parts (G.AN hu).red hx
  by_cases g:q=0
  ·exact XC G hw hT hu b (i (G.sub hu) b.tail) hR hA hx d h c g f
  exact XB G hw hT hu b (i (G.sub hu) b.tail) hR hA hx d h c g f
theorem imD (G:Gam TT R K S) (hw:TT w):∀{u:List (List Rat)},TT u->Av u w->LO 95 S w u:=by
 intro u
 induction u with
 | nil=>
  intro hu c T RL A C x mm hT hR b hA hx g;obtain⟨q,rfl⟩:=Bb.1 hx.mem;have d:=hx.BC (by have:=G.mul hw;omega);rw[Bn] at d;exact XD (u:=[]) (x:=0) b G hw hT hA (d q List.mem_cons_self) g
 | cons r u j=>
  intro hu c T RL A C x mm hT hR b hA hx g;obtain⟨p,q,f,i,d⟩:=El.parts (G.AN hu).red hx
  by_cases h:q=0
  ·exact XF b G hw hT hu c (j (G.sub hu) c.tail) hR hA hx f i d h g
  exact XE b G hw hT hu c (j (G.sub hu) c.tail) hR hA hx f i d h g
end Go.Abs
namespace Go.Abs
open Go.RowKit
variable {K R S:Nat} {T T2:List LR} {TT:List (List Rat)->Prop}
theorem LL {A B:LR} {R' s:Nat} {u:List (List Rat)} {v:Re} (h:AU R u) (h':AU R' (Aa u v)) (i:(Aa u v).length<=8) (hT:T=tw u) (hA:A=em u v) (hx:El u s v) (j:Fit u.length R s) (f:0<=v) (b:T2=tw (Aa u v)) (c:B=em (Aa u v) (Re.sqrt v)):
  CF 76 [.one (.sl (.sl AA) T),.one (.sl AA A)] (.AG [(false,[.sl (.sl AA) T2]),(false,[.sl AA B]),(false,[.int .i64 0])]):=by
 by_cases d:Sq u v
 ·rw[CY d] at b c;have g:T2=T:=b.trans hT.symm;subst g;exact Vb h hT hA hx j ((Hv f).1 d) (Re.DO v) (Re.CB f) c
 rw[C4 d] at h' i b c;rw[<-Gs hx.mem] at c;exact Vd h hT hA hx j (by rw[List.length_cons] at i;omega) f d rfl h' b c
theorem GQ (u:List (List Rat)) (i:Nat):pre u i<:+u:=List.drop_suffix _ _
theorem Hn (u:List (List Rat)):pre u 0=[]:=by rw[pre,Nat.sub_zero,List.drop_length]
theorem CZ (p:Prop):∃b:Bool,(b=true↔p):=by
 by_cases h:p
 ·exact⟨true,by simp[h]⟩
 exact⟨false,by simp[h]⟩
theorem F2 {X Y:List LR} {u w:List (List Rat)} {c:Bool} (hu:AU R u) (hw:AU R w) (b:X=tw u) (d:Y=tw w) (h:c=true↔w<:+u):CF 92 [.one (.sl (.sl AA) X),.one (.sl (.sl AA) Y)] (.one (.bool c)):=by
 cases c with
 | true=>exact V5 hu hw b d (h.1 rfl)
 | false=>exact V4 hu hw b d (fun k=>by have:=h.2 k;cases this)
noncomputable def nm (n:List (List Rat)×Re):el AZ:=(tw n.1,em n.1 n.2)
noncomputable def AY (ns:List (List (List Rat)×Re)):List (List Rat):=ns.foldl (fun t n=>CJ t n.1) []
theorem XR (ns:List (List (List Rat)×Re)) (n:List (List Rat)×Re):AY (ns++[n])=CJ (AY ns) n.1:=by
 rw[AY,List.foldl_append];rfl
theorem KG {ns:List (List (List Rat)×Re)} {i:Nat} {n:List (List Rat)×Re} (h:ns[i]? =some n):AY (ns.take (i+1))=CJ (AY (ns.take i)) n.1:=by
 rw[BG h,XR]
theorem Cy {X:List (el AZ)} {ns:List (List (List Rat)×Re)} {i:Nat} {x:el AZ} (b:X=ns.map nm) (hx:X[i]? =some x):∃u y,x.1=tw u/\x.2=em u y/\ns[i]? =some (u,y):=by
 rw[b,List.getElem?_map] at hx;cases h:ns[i]? with
 | none=>rw[h] at hx;simp at hx
 | some n=>
  rw[h] at hx;have e:nm n=x:=Option.some.inj hx;exact⟨n.1,n.2,by rw[<-e];rfl,by rw[<-e];rfl,rfl⟩
theorem Gam.AY (G:Gam TT R K S):∀{ns:List (List (List Rat)×Re)},(∀n∈ns,TT n.1)->TT (AY ns):=by
 have key:∀(ns:List (List (List Rat)×Re)) (t:List (List Rat)),TT t->(∀n∈ns,TT n.1)->TT (ns.foldl (fun t n=>CJ t n.1) t):=by
  intro ns
  induction ns with
  | nil=>intro t ht _;exact ht
  | cons n ns b=>intro t ht h;exact b _ (G.join ht (h n List.mem_cons_self)) (fun m hm=>h m (List.mem_cons_of_mem _ hm))
 intro ns h;exact key ns [] G.nil h
theorem Ei (G:Gam TT R K S) {ns:List (List (List Rat)×Re)} (h:∀n∈ns,TT n.1):∀n∈ns,Av n.1 (Go.Abs.AY ns):=by
 have key:∀(ns:List (List (List Rat)×Re)) (t:List (List Rat)),TT t->(∀n∈ns,TT n.1)->Av t (ns.foldl (fun t n=>CJ t n.1) t)/\∀n∈ns,Av n.1 (ns.foldl (fun t n=>CJ t n.1) t):=by
  intro ns
  induction ns with
  | nil=>intro t ht _;exact⟨Av.refl t,fun n b=>by simp at b⟩
  | cons n ns g=>
   intro t ht h;have b:=h n List.mem_cons_self;have d:=Ya (G.AN ht).red (G.AN b).red;obtain⟨c,f⟩:=g _ (G.join ht b) (fun m hm=>h m (List.mem_cons_of_mem _ hm));refine⟨d.2.1.trans c,fun m hm=>?_⟩;rcases List.mem_cons.1 hm with rfl | hm
   ·exact d.2.2.trans c
   exact f m hm
 exact (key ns [] G.nil h).2
theorem Jz {U RL:List LR} {t u:List (List Rat)} (G:Gam TT R K S) (ht:TT t) (hu:TT u) (hT:T=tw t) (hU:U=tw u) (ab:T2=tw (ext t u)) (a8:RL=Bj t u):CF 94 [.one (.sl (.sl AA) T),.one (.sl (.sl AA) U)] (.AG [(true,[.sl (.sl AA) T2,.sl (.sl AA) RL]),(false,[.int .i64 0])]):=by
 have ao:U.length=u.length:=by rw[hU,Au]
 have au:=G.ht hu;have aa:=G.RS;refine AE Tryz.func94 (by kernel_rfl) rfl fun E hE=>?_
 conv=>cbv
 intro ak P;have an:=P.eq;have f15:=P.le;conv=>cbv
 refine .inr ?_
 obtain⟨J0,M⟩:∃J:List AV->List AH->Nat->Prop,J=fun vs bl k=>(∃(L i:Int),vs=[.one (.An 4 0 0),.one (.An 6 0 0),.one (.sl (.sl AA) U),.one (.int .i64 L),.one (.int .i64 i)]/\bl=[.var 0 [.nil,.nil],.var 0 [.sl (.sl AA) T,.nil],.dead 0]/\(Bu L U.length/\AK i 0)/\k=U.length)\/
  (∃(Ti o:List LR) (mm i':Nat) (L i:Int),vs=[.one (.An 4 0 0),.one (.An 6 0 0),.one (.sl (.sl AA) U),.one (.int .i64 L),.one (.int .i64 i)]/\bl=[.var 0 [.nil,.nil],.var 0 [.sl (.sl AA) Ti,.AL (.sl AA) 39 0 0 mm],.arr 0 (.sl AA) o]/\(Bu L U.length/\AK i i'/\i'<=U.length/\mm=o.length)/\Ti=tw (ext t (pre u i'))/\o=Bj t (pre u i')/\k=U.length-i'):=⟨_,rfl⟩
 refine⟨[4,6,14,15,16],[4,6,39],J0,⟨U.length,by rw[M];exact .inl ⟨ak,0,rfl,rfl,⟨P,Ai 0⟩,rfl⟩⟩,?_⟩;intro vs bl av hj;rw[M] at hj;rcases hj with⟨L,i,rfl,rfl,⟨hL,hi⟩,aj⟩ |⟨Ti,o,mm,i',L,i,rfl,rfl,⟨hL,hi,aq,X⟩,v,hinv,aj⟩
 ·conv=>cbv
  have eL:=hL.eq;have ei:=hi.eq;obtain⟨i',W⟩:=xN 0;have v:T=tw (ext t (pre u i')):=by rw[W,Hn];exact hT
  intro a5 z;conv=>cbv
  cases a5 <;> conv=>cbv
  ·have a1:=AR z;have ag:u=[]:=List.eq_nil_of_length_eq_zero (by omega);exact fA ⟨⟨rfl,congrArg _ (by rw[ab,hT,ag];rfl),.inr (.inl ⟨_,congrArg _ (by rw[a8,ag];rfl)⟩),trivial⟩,t2,trivial⟩ rfl (by simp)
  have a1:=AS z;refine .inr ?_;obtain⟨y,m⟩:=AF (l:=U) (i:=i') (by omega);refine⟨y,fun _=>⟨by omega,by rw[show (i).toNat=i' by omega];exact m⟩,?_⟩;try conv=>cbv
  obtain⟨r,s,F⟩:=GP (u:=u) (i:=i') (by omega);have d:TT (pre u i'):=G.GX (GQ u i') hu;have b:TT (r::pre u i'):=s ▸ G.GX (GQ u (i'+1)) hu;have D:=(G.AN b).red;have Z:y=em (pre u i') (AI (pre u i') r):=by rw[<-hU,m] at F;exact (Option.some.inj F).trans (Cj D)
  have c:TT (ext t (pre u i')):=G.ext ht d;have p:=(GS (G.AN ht).red (G.AN d).red).2;have B:El (pre u i') S (AI (pre u i') r):=(El.Br (G.AN b)).mono aa;have H:TT (Aa (ext t (pre u i')) (AI (pre u i') r)):=G.Aa c b p;have V:ext t (pre u (i'+1))=Aa (ext t (pre u i')) (AI (pre u i') r):=by rw[s];rfl
  have Y:Bj t (pre u (i'+1))=Bj t (pre u i')++[em (Aa (ext t (pre u i')) (AI (pre u i') r)) (Re.sqrt (AI (pre u i') r))]:=by rw[s];rfl
  obtain⟨a7,g⟩:=xR (em (ext t (pre u i')) (AI (pre u i') r));refine cL (r:= .one (.sl AA a7)) hE (MP G c d p v (by rw[W,Hn];trivial) Z B g) ⟨⟨rfl,.inr ⟨_,rfl⟩,trivial⟩,rfl,trivial⟩ ?_;try conv=>cbv
  obtain⟨I,h⟩:=xV (tw (Aa (ext t (pre u i')) (AI (pre u i') r)));obtain⟨f,j⟩:=xR (em (Aa (ext t (pre u i')) (AI (pre u i') r)) (Re.sqrt (AI (pre u i') r)));refine cL (r:= .AG [(false,[.sl (.sl AA) I]),(false,[.sl AA f]),(false,[.int .i64 0])]) hE (LL (G.AN c) (G.AN H) (G.ht H) v g (G.BA d c p B) (G.fit c) (by have:=D.2.2.1;grind) h j) t2 ?_;try conv=>cbv
  refine g2 rfl ?_;intro al Q;cases Q.trans (show _=false by decide);conv=>cbv
  refine⟨[f],fun _=>⟨rfl,by decide,rfl,⟨rfl,by first | exact t1 | exact t2 | exact t4 | simp[Ae,Ak,cells],trivial⟩⟩,.inr ?_⟩;try conv=>cbv
  refine .inl ⟨[f],fun _=>⟨rfl,by show (1)*24<=140737488355328;(try simp only[List.length_take,List.length_drop]);omega⟩,?_⟩;intro N ah;conv=>cbv
  intro a6 ai;conv=>cbv
  refine g1 (by omega) ?_;refine⟨U.length-(i'+1),?_,?_⟩
  ·omega
  rw[M];exact .inr ⟨I,[f],N,i'+1,L,a6,rfl,rfl,⟨hL,⟨by omega⟩,by omega,ah⟩,by rw[h,V],by rw[Y,j,W,Hn];rfl,rfl⟩
 conv=>cbv
 have eL:=hL.eq;have ei:=hi.eq;have ar:o.length<=U.length:=by rw[hinv,I1,GO (by omega)];omega
 intro a5 z;conv=>cbv
 cases a5 <;> conv=>cbv
 ·have a1:=AR z;have af:pre u i'=u:=by rw[show i'=u.length by omega];exact Rq u
  exact fA ⟨⟨rfl,congrArg _ (by rw[ab,v,af]),.inl ⟨_,rfl,by omega,congrArg _ (by rw[a8,X,List.drop_zero,List.take_length,hinv,af])⟩,trivial⟩,t2,trivial⟩ rfl (by simp)
 have a1:=AS z;refine .inr ?_;obtain⟨y,m⟩:=AF (l:=U) (i:=i') (by omega);refine⟨y,fun _=>⟨by omega,by rw[show (i).toNat=i' by omega];exact m⟩,?_⟩;try conv=>cbv
 obtain⟨r,s,F⟩:=GP (u:=u) (i:=i') (by omega);have d:TT (pre u i'):=G.GX (GQ u i') hu;have b:TT (r::pre u i'):=s ▸ G.GX (GQ u (i'+1)) hu;have D:=(G.AN b).red;have Z:y=em (pre u i') (AI (pre u i') r):=by rw[<-hU,m] at F;exact (Option.some.inj F).trans (Cj D)
 have c:TT (ext t (pre u i')):=G.ext ht d;have p:=(GS (G.AN ht).red (G.AN d).red).2;have B:El (pre u i') S (AI (pre u i') r):=(El.Br (G.AN b)).mono aa;have H:TT (Aa (ext t (pre u i')) (AI (pre u i') r)):=G.Aa c b p;have V:ext t (pre u (i'+1))=Aa (ext t (pre u i')) (AI (pre u i') r):=by rw[s];rfl
 have Y:Bj t (pre u (i'+1))=Bj t (pre u i')++[em (Aa (ext t (pre u i')) (AI (pre u i') r)) (Re.sqrt (AI (pre u i') r))]:=by rw[s];rfl
 obtain⟨a7,g⟩:=xR (em (ext t (pre u i')) (AI (pre u i') r));refine .inr (.inr (.inl ⟨39,.arr 0 (.sl AA) o,[.agg [.sl (.sl AA) Ti,.AL (.sl AA) 0 0 0 mm],.one (.sl AA y)],.one (.sl AA a7),fun _=>⟨rfl,⟨⟨rfl,⟨⟨rfl,rfl⟩,rfl⟩,trivial⟩,rfl,trivial⟩⟩,fun _=>E0 hE (imD G c d p v (by rw[hinv];exact EC (G.AN ht).red (G.AN d).red) X Z B g),?_⟩));try conv=>cbv
 obtain⟨I,h⟩:=xV (tw (Aa (ext t (pre u i')) (AI (pre u i') r)));obtain⟨f,j⟩:=xR (em (Aa (ext t (pre u i')) (AI (pre u i') r)) (Re.sqrt (AI (pre u i') r)));refine cL (r:= .AG [(false,[.sl (.sl AA) I]),(false,[.sl AA f]),(false,[.int .i64 0])]) hE (LL (G.AN c) (G.AN H) (G.ht H) v g (G.BA d c p B) (G.fit c) (by have:=D.2.2.1;grind) h j) t2 ?_;try conv=>cbv
 refine g2 rfl ?_;intro al Q;cases Q.trans (show _=false by decide);conv=>cbv
 refine⟨[f],fun _=>⟨rfl,by decide,rfl,⟨rfl,by first | exact t1 | exact t2 | exact t4 | simp[Ae,Ak,cells],trivial⟩⟩,.inr ?_⟩;try conv=>cbv
 refine .inl ⟨[f],fun _=>⟨rfl,X,rfl,by show (o.length+1)*24<=140737488355328;(try simp only[List.length_take,List.length_drop]);omega⟩,?_⟩;intro (a2:List (el (.sl AA))) N O;have ad:a2=(o:List (el (.sl AA)))++([f]:List (el (.sl AA))):=O.1;have ae:N=List.length (α:=(el (.sl AA))) a2:=O.2;conv=>cbv
 intro a6 ai;conv=>cbv
 refine g1 (by omega) ?_;refine⟨U.length-(i'+1),?_,?_⟩
 ·omega
 rw[M];exact .inr ⟨I,a2,N,i'+1,L,a6,rfl,rfl,⟨hL,⟨by omega⟩,by omega,ae⟩,by rw[h,V],by rw[ad,hinv,Y,j],rfl⟩
end Go.Abs
