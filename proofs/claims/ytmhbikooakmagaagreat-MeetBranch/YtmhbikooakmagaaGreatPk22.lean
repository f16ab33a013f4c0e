/- Part 23 of a proof. Conditions: each theorem's own. -/
import Derived.Test.YtmhbikooakmagaaGreatPk21
set_option linter.all false
set_option maxHeartbeats 8000000
set_option maxRecDepth 20000
open Go.Proofs
namespace Go.Abs
open Go.RowKit
variable {R i:Nat} {c:Bool} {u w:List (List Rat)}
theorem aP {α:Type} {X Y:List α} {x y:α} (a:X[i]? =some x) (b:Y[i]? =some y) (h:X.take i=Y.take i) (e:x=y):X.take (i+1)=Y.take (i+1):=by
 rw[C4 a,C4 b,h,e]
theorem aQ {α:Type} {X Y:List α} {n:Nat} {x y:α} (d:X[i]? =some x) (f:Y[i]? =some y) (b:i<n) (e:x≠y):X.take n≠Y.take n:=by
 intro h;apply e;have a:(X.take n)[i]? =(Y.take n)[i]? :=by rw[h]
 rw[List.getElem?_take,List.getElem?_take,if_pos b,if_pos b,d,f] at a;exact Option.some.inj a
theorem eH {X Y:LR} {xs ys:List Rat} (hX:X=BD xs) (hY:Y=BD ys) (hs:D7 xs) (ht:D7 ys) (hc:c=decide (X=Y)):CF 238 [.one (.sl AA X),.one (.sl AA Y)] (.one (.bool c)):=by
 refine AJ Tryz.func238 fun E hE=>?_
 conv=>cbv
 rintro n7 ⟨e7,f7⟩;conv=>cbv
 rintro n9 ⟨e9,f9⟩;conv=>cbv
 intro J j;conv=>cbv
 cases J <;> conv=>cbv
 ·have G:=C8 j;refine .inr ?_;obtain⟨W,f⟩:=xJ fun vs Z k=>∃(i':Nat) (i:Int),vs=[.one (.sl AA X),.one (.sl AA Y),.one (.int .i64 i)]/\(AW i i'/\i'<=Y.length/\Y.length<=X.length)/\X.take i'=Y.take i'/\k=Y.length-i'
  refine⟨[],[0,1,5],[],W,⟨Y.length-0,by rw[f];exact⟨0,0,rfl,⟨Bb 0,by omega,by omega⟩,rfl,rfl⟩⟩,?_⟩;intro vs Z aa P;rw[f] at P;obtain⟨i',i,rfl,⟨hi,a5,z⟩,hinv,a6⟩:=P;conv=>cbv
  have ei:=hi.eq;rintro ab ⟨a1,f13⟩;conv=>cbv
  intro L m;conv=>cbv
  cases L <;> conv=>cbv
  ·have H:=BB m;have hl:X.length=Y.length:=by omega
   exact AD ⟨⟨rfl,congrArg _ (by rw[hc,decide_eq_true];have:=hinv;rwa [List.take_of_length_le (by omega),List.take_of_length_le (by omega)] at this),trivial⟩,trivial⟩
  have H:=BC m;refine .inr ?_;obtain⟨g,a⟩:=AP (l:=X) (i:=i') (by omega);refine⟨g,fun _=>⟨by omega,by rw[show (i).toNat=i' by omega];exact a⟩,?_⟩;try conv=>cbv
  obtain⟨h,b⟩:=AP (l:=Y) (i:=i') (by omega);refine⟨h,fun _=>⟨by omega,by rw[show (i).toNat=i' by omega];exact b⟩,?_⟩;try conv=>cbv
  obtain⟨p,Q,a7,D⟩:=Io hX hs a;obtain⟨q,U,a8,F⟩:=Io hY ht b;have s:g=rp p:=Q.rp.symm;have t:h=rp q:=U.rp.symm;obtain⟨O,d⟩:=xI (HH p q);refine AB hE (dN Q U D F d) ?_;conv=>cbv
  intro N o;conv=>cbv
  refine g2 rfl ?_;cases N <;> conv=>cbv
  ·have I:=C8 o;intro M a2;conv=>cbv
   refine AN ?_;refine⟨Y.length-(i'+1),?_,?_⟩
   ·omega
   rw[f];exact⟨i'+1,M,rfl,⟨⟨by omega⟩,by omega,z⟩,aP a b hinv (by rw[s,t];congr 1;have:=Qi p q;rw[<-d,show O=0 by omega] at this;exact of_decide_eq_true this),rfl⟩
  have I:=DA o;have B:g≠h:=fun e=>by have e2:=So (s.symm.trans (e.trans t));have:=Qi p q;rw[decide_eq_true e2,<-d] at this;simp at this;omega
  exact AD ⟨⟨rfl,congrArg _ (by rw[hc,decide_eq_false];intro e;exact aQ (n:=i'+1) a b (by omega) B (by rw[e])),trivial⟩,trivial⟩
 have G:=DA j;exact AD ⟨⟨rfl,congrArg _ (by rw[hc,decide_eq_false];intro e;have:=congrArg List.length e;omega),trivial⟩,trivial⟩
theorem dZ {X Y:List LR} (hu:At R u) (hw:At R w) (Z:X=tw u) (hY:Y=tw w) (hc:c=(decide (Y.length<=X.length)&&decide (X.take Y.length=Y))):CF 118 [.one (.sl (.sl AA) X),.one (.sl (.sl AA) Y)] (.one (.bool c)):=by
 refine AJ Tryz.func118 fun E W=>?_
 conv=>cbv
 rintro n7 ⟨e7,f7⟩;conv=>cbv
 rintro n9 ⟨e9,f9⟩;conv=>cbv
 intro H m;conv=>cbv
 cases H <;> conv=>cbv
 ·have D:=Cg m;refine .inr ?_;obtain⟨N,g⟩:=xJ fun vs P k=>∃(i':Nat) (i:Int),vs=[.one (.sl (.sl AA) X),.one (.sl (.sl AA) Y),.one (.int .i64 i)]/\(AW i i'/\i'<=Y.length/\Y.length<=X.length)/\X.take i'=Y.take i'/\k=Y.length-i'
  refine⟨[],[0,1,5],[],N,⟨Y.length-0,by rw[g];exact⟨0,0,rfl,⟨Bb 0,by omega,by omega⟩,rfl,rfl⟩⟩,?_⟩;intro vs P a5 M;rw[g] at M;obtain⟨i',i,rfl,⟨hi,a1,s⟩,hinv,a2⟩:=M;conv=>cbv
  have ei:=hi.eq;rintro a6 ⟨Q,f13⟩;conv=>cbv
  intro I o;conv=>cbv
  cases I <;> conv=>cbv
  ·have F:=BB o;exact AD ⟨⟨rfl,congrArg _ (by rw[hc,decide_eq_true (show Y.length<=X.length by omega),decide_eq_true];rfl;rw[show Y.length=i' by omega,hinv,List.take_of_length_le (by omega)]),trivial⟩,trivial⟩
  have F:=BC o;refine .inr ?_;obtain⟨h,a⟩:=AP (l:=X) (i:=i') (by omega);refine⟨h,fun _=>⟨by omega,by rw[show (i).toNat=i' by omega];exact a⟩,?_⟩;try conv=>cbv
  obtain⟨j,b⟩:=AP (l:=Y) (i:=i') (by omega);refine⟨j,fun _=>⟨by omega,by rw[show (i).toNat=i' by omega];exact b⟩,?_⟩;try conv=>cbv
  obtain⟨p,hp,z⟩:=J7 Z a;obtain⟨q,hq,B⟩:=J7 hY b;obtain⟨O,d⟩:=xB (decide (h=j));refine AB W (eH hp hq ((hu.tb p (List.mem_reverse.1 (List.mem_of_getElem? z))).CJ hu.hR) ((hw.tb q (List.mem_reverse.1 (List.mem_of_getElem? B))).CJ hw.hR) d) ?_;conv=>cbv
  intro L f;conv=>cbv
  refine g2 rfl ?_;cases L <;> conv=>cbv
  ·have G:=DW f;intro J U;conv=>cbv
   refine AN ?_;refine⟨Y.length-(i'+1),?_,?_⟩
   ·omega
   rw[g];exact⟨i'+1,J,rfl,⟨⟨by omega⟩,by omega,s⟩,aP a b hinv (of_decide_eq_true (by rw[<-d];exact DW f)),rfl⟩
  have G:=DX f;have t:h≠j:=of_decide_eq_false (by rw[<-d];exact DX f);exact AD ⟨⟨rfl,congrArg _ (by rw[hc,decide_eq_false (p:=X.take Y.length=Y),Bool.and_false];intro e;exact aQ (n:=Y.length) a b (by omega) t (by rw[e,List.take_length])),trivial⟩,trivial⟩
 have D:=Ch m;exact AD ⟨⟨rfl,congrArg _ (by rw[hc,decide_eq_false (show ¬Y.length<=X.length by omega)];rfl),trivial⟩,trivial⟩
theorem Np {X Y:List LR} (hu:At R u) (hw:At R w) (a:X=tw u) (b:Y=tw w) (h:c=true↔w<:+u):CF 118 [.one (.sl (.sl AA) X),.one (.sl (.sl AA) Y)] (.one (.bool c)):=
 dZ hu hw a b (by rw[Bool.eq_iff_iff,h,TD,Bool.and_eq_true,decide_eq_true_eq,decide_eq_true_eq,a,b])
theorem P9 {T:List LR} {A C:LR} {x:Re} (h:At R w) (hT:T=tw w) (Y:A=em u x) (hx:In u x) (hu:u<:+w) (hC:C=em w x):CF 120 [.one (.sl (.sl AA) T),.one (.sl AA A)] (.one (.sl AA C)):=by
 have N:T.length=w.length:=by rw[hT,CB]
 have a7:=h.ht;have a6:A.length=2^u.length:=by rw[Y,Bl hx]
 have Q:=hu.length_le;have hle:2^u.length<=2^w.length:=CQ Q;have a2:=DS h.ht;have F:=Wi hu h.red hx;refine AJ Tryz.func120 fun E hE=>?_
 conv=>cbv
 refine⟨[],fun _=>⟨rfl,by decide,rfl,trivial⟩,.inl ?_⟩;try conv=>cbv
 refine .inl ⟨A,fun _=>⟨rfl,rfl,rfl,by show (0+A.length)*64<=140737488355328;(try simp only[List.length_take,List.length_drop]);omega⟩,?_⟩;intro (I:LR) n8 H;have t:I=([]:LR)++(A:LR):=H.1;have P:n8=List.length (α:=(el AA)) I:=H.2;conv=>cbv
 refine .inr ?_;obtain⟨J0,s⟩:=xJ fun vs X k=>∃(o:LR) (mm j:Nat),vs=[.one (.sl (.sl AA) T),.one (.AS AA 6 0 0 mm)]/\X=[.arr 0 AA o]/\(mm=o.length/\o.length=2^u.length+j/\o.length<=2^w.length)/\o=A++List.replicate j (rp 0)/\k=2^w.length-o.length
 refine⟨[],[0,5],[6],J0,⟨2^w.length-I.length,by rw[s];exact⟨I,n8,0,rfl,rfl,⟨P,by rw[t];simp;omega,by rw[t];simp;omega⟩,by rw[t];simp,rfl⟩⟩,?_⟩;intro vs X ad Z;rw[s] at Z;obtain⟨o,mm,j,rfl,rfl,⟨B,aa,ab⟩,hinv,a8⟩:=Z;conv=>cbv
 intro ae L;have a5:=L.eq;conv=>cbv
 rintro af ⟨J,f12⟩;conv=>cbv
 intro ag M;conv=>cbv
 refine AI ?_;have a1:=(Fg M (J.trans (congrArg _ N))).eq;intro W z;conv=>cbv
 cases W <;> conv=>cbv
 ·have U:=BB z;exact AD ⟨⟨rfl,.inl ⟨_,rfl,by omega,congrArg _ (by rw[hC,B,List.drop_zero,List.take_length,hinv,F,Y,show j=2^w.length-2^u.length by omega])⟩,trivial⟩,trivial⟩
 have U:=BC z;refine .inr ?_;obtain⟨f,g,b,d,m⟩:=CH (((0:Int):Rat));refine AB hE (Fk (by omega) rfl m) ?_;conv=>cbv
 refine⟨[((f,g),(b,d))],fun _=>⟨rfl,by decide,rfl,⟨rfl,by first | exact t1 | exact t2 | exact t4 | simp[BV,Bm,cells],trivial⟩⟩,.inr ?_⟩;try conv=>cbv
 refine .inl ⟨[((f,g),(b,d))],fun _=>⟨rfl,B,rfl,by show (o.length+1)*64<=140737488355328;(try simp only[List.length_take,List.length_drop]);omega⟩,?_⟩;intro (a:LR) G n;have l:a=(o:LR)++([((f,g),(b,d))]:LR):=n.1;have D:G=List.length (α:=(el AA)) a:=n.2;conv=>cbv
 have O:a.length=o.length+1:=by rw[l];simp
 refine⟨2^w.length-a.length,?_,?_⟩
 ·omega
 rw[s];exact⟨a,G,j+1,rfl,rfl,⟨D,by omega,by omega⟩,by rw[l,hinv,List.replicate_succ',List.append_assoc,<-m.rp];rfl,rfl⟩
end Go.Abs
namespace Go.Abs
open Go.RowKit
structure DT (T:List (List Rat)->Prop) (R C S:Nat):Prop extends Gam T R C S where
 JN:∀{u},T u->Ee u.length R (S+C)
def Ue (S:Nat) (w u:List (List Rat)):Prop:=∀{T RL:List LR} {A C:LR} {x:Re},T=tw w->GI w RL u->A=em u x->El u S x->C=em w x->
 CF 121 [.one (.sl (.sl AA) T),.one (.sl (.sl AA) RL),.one (.sl AA A)] (.one (.sl AA C))
def Uf (S:Nat) (w u:List (List Rat)):Prop:=∀{T RL:List LR} {A C:LR} {x:Re} {mm:Nat},T=tw w->GI w RL u->mm=RL.length->A=em u x->El u S x->C=em w x->
 BU Tryz.prog 121 [.one (.sl (.sl AA) T),.one (.AS (.sl AA) 0 0 0 mm),.one (.sl AA A)] (.arr 0 (.sl AA) RL) (.one (.sl AA C))
variable {A C:LR} {K R S mm:Nat} {RL T:List LR} {TT:List (List Rat)->Prop} {p x:Re} {q:Rat} {r:List Rat} {u w:List (List Rat)}
theorem de {u:List (List Rat)} {x:Re} (G:Gam TT R K S) (hw:TT w) (s:T=tw w) (k:A=em [] (Re.ofRat q)) (z:CL q) (n:C=em w (Re.ofRat q)):CF 121 [.one (.sl (.sl AA) T),.one (.sl (.sl AA) RL),.one (.sl AA A)] (.one (.sl AA C)):=by
 have d:A=[rp q]:=k.trans (EJ q);have m:A.length=1:=by rw[d];rfl
 refine AJ Tryz.func121 fun E o=>?_
 conv=>cbv
 rintro t ⟨j,f12⟩;conv=>cbv
 intro g b;conv=>cbv
 cases g <;> conv=>cbv
 ·have f:=Ao b;exact absurd f (by omega)
 have f:=BA b;obtain⟨h,a⟩:=AP (l:=A) (i:=0) (by omega);refine⟨h,fun _=>⟨by omega,a⟩,?_⟩;try conv=>cbv
 refine AB o (HD (G.BE hw) s (Ff d a) n) ?_;conv=>cbv
 exact AD ⟨t2,trivial⟩
theorem df (G:Gam TT R K S) (hw:TT w) (Q:T=tw w) {q:Re} (hu:TT (r::u)) (b:Ba (r::u) w) (ih:Ue S w u) (hR:GI w RL (r::u)) (hA:A=em (r::u) x) (hx:El (r::u) S x) (o:x=p+q*rt u r) (U:El u S p) (M:El u S q) (hC:C=em w x):CF 121 [.one (.sl (.sl AA) T),.one (.sl (.sl AA) RL),.one (.sl AA A)] (.one (.sl AA C)):=by
 have n:=(G.BE hu).red;have z:A.length=2^u.length+2^u.length:=by rw[hA,Bl hx.mem,B4]
 have aB:=C2 u.length;have ay:(r::u).length<=8:=G.ht hu;have ai:(r::u).length=u.length+1:=rfl;have hmul:=G.mul hw;have a:El w K (rt u r):=by have:=G.CE hu hw b (JL n);rwa [Nat.zero_add] at this
 obtain⟨wk,a6,N,F⟩:=hR.2;obtain⟨rk,O⟩:=xR (em wk (rt u r));rw[<-O] at F;refine AJ Tryz.func121 fun E B=>?_
 conv=>cbv
 rintro aF ⟨an,f12⟩;conv=>cbv
 intro ab s;conv=>cbv
 cases ab <;> conv=>cbv
 ·have P:=Ao s;rintro aG ⟨ao,f20⟩;conv=>cbv
  intro ad av;conv=>cbv
  refine g2 ⟨by omega,by omega,i64 (by omega)⟩ ?_;refine .inr ?_;obtain⟨J0,j⟩:=xJ fun vs bl k=>∃(k':Nat) (W X:Int),vs=[.one (.sl (.sl AA) T),.one (.sl (.sl AA) RL),.one (.sl AA A),.one (.int .i64 W),.one (.int .i64 X)]/\bl=[]/\(AW W (A.length/2)/\AW X k'/\k'<=u.length)/\k=u.length-k'
  refine⟨[],[0,1,2,7,8],[],J0,⟨u.length-0,by rw[j];exact⟨0,ad,0,rfl,rfl,⟨⟨by omega⟩,Bb 0,by omega⟩,rfl⟩⟩,?_⟩;intro vs bl aC hj;rw[j] at hj;obtain⟨k',W,X,rfl,rfl,⟨D,a2,aA⟩,az⟩:=hj;conv=>cbv
  have ar:=D.eq;have au:=a2.eq;intro aH aw;conv=>cbv
  refine AN ?_;intro aI a1;conv=>cbv
  refine AI ?_;rintro aJ ⟨aq,f26⟩;conv=>cbv
  have ak:=(Fg (k:=k'+1) a1 (by omega)).eq;intro ae t;conv=>cbv
  cases ae <;> conv=>cbv
  ·have a7:=BB t;have a5:k'=u.length:=by have:=K4 z (show ¬2^(k'+1)<A.length by omega);omega
   intro aD aj;conv=>cbv
   refine AI ?_;intro Z ah;conv=>cbv
   intro a8 I;conv=>cbv
   have l:a8=em u p:=by rw[I,List.drop_zero,show Z=A.length/2 by omega,hA,Co n U.mem M.mem o]
   obtain⟨aK,d⟩:=xR (em w (p));refine AB B (ih Q hR.1 l U d) ?_;conv=>cbv
   intro aE L;conv=>cbv
   refine AI ?_;rintro Y al ⟨ag,H⟩;conv=>cbv
   intro aa J;conv=>cbv
   have m:aa=em u q:=by rw[J,show Y=A.length/2 by omega,H,L,List.take_length,hA,CP n U.mem M.mem o]
   obtain⟨aL,f⟩:=xR (em w (q));refine AB B (ih Q hR.1 m M f) ?_;conv=>cbv
   refine g2 rfl ?_;refine⟨rk,fun _=>⟨by omega,by rw[show X.toNat=u.length by omega];exact F⟩,?_⟩;try conv=>cbv
   obtain⟨aM,g⟩:=xR (em w (rt u r));refine AB B (P9 (G.BE hw) Q O N a6 g) ?_;conv=>cbv
   obtain⟨aN,h⟩:=xR (em w (q*rt u r));refine AB B (D9 (G.BE hw) Q f g (G.CE (G.sub hu) hw b.tail M) a (by omega) h) ?_;conv=>cbv
   refine AB (r:= .one (.sl AA C)) B (Ju (G.BE hw) d h (G.CE (G.sub hu) hw b.tail U) ((G.CE (G.sub hu) hw b.tail M).mul (G.BE hw) a) (by omega) (by omega) (by rw[hC,o])) ?_;conv=>cbv
   exact AD ⟨t2,trivial⟩
  have a7:=BC t;refine .inr ?_;have a5:k'<u.length:=K5 z (show 2^(k'+1)<A.length by omega);intro af ax;conv=>cbv
  refine AN ?_;refine⟨u.length-(k'+1),?_,?_⟩
  ·omega
  rw[j];exact⟨k'+1,W,af,rfl,rfl,⟨D,⟨by omega⟩,by omega⟩,rfl⟩
 have P:=BA s;exact absurd P (by omega)
theorem dg {u:List (List Rat)} {x:Re} (t:mm=RL.length) (G:Gam TT R K S) (hw:TT w) (s:T=tw w) (k:A=em [] (Re.ofRat q)) (B:CL q) (n:C=em w (Re.ofRat q)):BU Tryz.prog 121 [.one (.sl (.sl AA) T),.one (.AS (.sl AA) 0 0 0 mm),.one (.sl AA A)] (.arr 0 (.sl AA) RL) (.one (.sl AA C)):=by
 have d:A=[rp q]:=k.trans (EJ q);have m:A.length=1:=by rw[d];rfl
 refine Ik Tryz.func121 (by kernel_rfl) rfl fun E o=>?_
 conv=>cbv
 rintro z ⟨j,f12⟩;conv=>cbv
 intro g b;conv=>cbv
 cases g <;> conv=>cbv
 ·have f:=Ao b;exact absurd f (by omega)
 have f:=BA b;obtain⟨h,a⟩:=AP (l:=A) (i:=0) (by omega);refine⟨h,fun _=>⟨by omega,a⟩,?_⟩;try conv=>cbv
 refine AB o (HD (G.BE hw) s (Ff d a) n) ?_;conv=>cbv
 refine fun _=>⟨⟨⟨t2,trivial⟩,rfl,by simp⟩,rfl⟩
theorem dh (U:mm=RL.length) (G:Gam TT R K S) (hw:TT w) (hT:T=tw w) {q:Re} (hu:TT (r::u)) (b:Ba (r::u) w) (ih:Uf S w u) (hR:GI w RL (r::u)) (hA:A=em (r::u) x) (hx:El (r::u) S x) (D:x=p+q*rt u r) (hp:El u S p) (W:El u S q) (hC:C=em w x):BU Tryz.prog 121 [.one (.sl (.sl AA) T),.one (.AS (.sl AA) 0 0 0 mm),.one (.sl AA A)] (.arr 0 (.sl AA) RL) (.one (.sl AA C)):=by
 have z:=(G.BE hu).red;have J:A.length=2^u.length+2^u.length:=by rw[hA,Bl hx.mem,B4]
 have aG:=C2 u.length;have aD:(r::u).length<=8:=G.ht hu;have an:(r::u).length=u.length+1:=rfl;have hmul:=G.mul hw;have a:El w K (rt u r):=by have:=G.CE hu hw b (JL z);rwa [Nat.zero_add] at this
 obtain⟨wk,ab,X,d⟩:=hR.2;obtain⟨rk,f⟩:=xR (em wk (rt u r));rw[<-f] at d;refine Ik Tryz.func121 (by kernel_rfl) rfl fun E L=>?_
 conv=>cbv
 rintro aK ⟨av,f12⟩;conv=>cbv
 intro ae H;conv=>cbv
 cases ae <;> conv=>cbv
 ·have Z:=Ao H;rintro aL ⟨aw,f20⟩;conv=>cbv
  intro af aA;conv=>cbv
  refine g2 ⟨by omega,by omega,i64 (by omega)⟩ ?_;refine .inr ?_;obtain⟨J0,o⟩:=xJ fun vs bl k=>∃(k':Nat) (hv kk:Int),vs=[.one (.sl (.sl AA) T),.one (.AS (.sl AA) 0 0 0 mm),.one (.sl AA A),.one (.int .i64 hv),.one (.int .i64 kk)]/\bl=[.arr 0 (.sl AA) RL]/\(AW hv (A.length/2)/\AW kk k'/\k'<=u.length)/\k=u.length-k'
  refine⟨[],[0,1,2,7,8],[0],J0,⟨u.length-0,by rw[o];exact⟨0,af,0,rfl,rfl,⟨⟨by omega⟩,Bb 0,by omega⟩,rfl⟩⟩,?_⟩;intro vs bl aH hj;rw[o] at hj;obtain⟨k',hv,kk,rfl,rfl,⟨M,a8,aF⟩,aE⟩:=hj;conv=>cbv
  have ay:=M.eq;have az:=a8.eq;intro aM aB;conv=>cbv
  refine AN ?_;intro aN a7;conv=>cbv
  refine AI ?_;rintro aO ⟨ax,f26⟩;conv=>cbv
  have ar:=(Fg (k:=k'+1) a7 (by omega)).eq;intro ag I;conv=>cbv
  cases ag <;> conv=>cbv
  ·have ad:=BB I;have aa:k'=u.length:=by have:=K4 J (show ¬2^(k'+1)<A.length by omega);omega
   intro aI aq;conv=>cbv
   refine AI ?_;intro a6 al;conv=>cbv
   intro a1 O;conv=>cbv
   have s:a1=em u p:=by rw[O,List.drop_zero,show a6=A.length/2 by omega,hA,Co z hp.mem W.mem D]
   obtain⟨ai,g⟩:=xR (em w (p));refine .inr (.inr (.inl ⟨0,.arr 0 (.sl AA) RL,[.one (.sl (.sl AA) T),.one (.AS (.sl AA) 0 0 0 mm),.one (.sl AA a1)],.one (.sl AA ai),fun _=>⟨rfl,⟨rfl,⟨⟨rfl,rfl⟩,rfl⟩,rfl,trivial⟩⟩,fun _=>G8 L (ih hT hR.1 U s hp g),?_⟩));try conv=>cbv
   intro aJ Q;conv=>cbv
   refine AI ?_;rintro a5 au ⟨ak,N⟩;conv=>cbv
   intro a2 P;conv=>cbv
   have t:a2=em u q:=by rw[P,show a5=A.length/2 by omega,N,Q,List.take_length,hA,CP z hp.mem W.mem D]
   obtain⟨aj,h⟩:=xR (em w (q));refine .inr (.inr (.inl ⟨0,.arr 0 (.sl AA) RL,[.one (.sl (.sl AA) T),.one (.AS (.sl AA) 0 0 0 mm),.one (.sl AA a2)],.one (.sl AA aj),fun _=>⟨rfl,⟨rfl,⟨⟨rfl,rfl⟩,rfl⟩,rfl,trivial⟩⟩,fun _=>G8 L (ih hT hR.1 U t W h),?_⟩));try conv=>cbv
   refine g2 rfl ?_;refine⟨fun _=>⟨by omega,by have:=Gv d;omega⟩,?_⟩;intro Y ao;conv=>cbv
   obtain⟨F,n⟩:=AP (l:=RL) (i:=Y) (by have:=Gv d;omega);refine⟨F,fun _=>n,?_⟩;try conv=>cbv
   have B:F=rk:=by have:=n;rw[show Y=u.length by omega,d] at this;exact (Option.some.inj this).symm
   have f:F=em wk (rt u r):=B.trans f;obtain⟨aP,j⟩:=xR (em w (rt u r));refine AB L (P9 (G.BE hw) hT f X ab j) ?_;conv=>cbv
   obtain⟨aQ,m⟩:=xR (em w (q*rt u r));refine AB L (D9 (G.BE hw) hT h j (G.CE (G.sub hu) hw b.tail W) a (by omega) m) ?_;conv=>cbv
   refine AB (r:= .one (.sl AA C)) L (Ju (G.BE hw) g m (G.CE (G.sub hu) hw b.tail hp) ((G.CE (G.sub hu) hw b.tail W).mul (G.BE hw) a) (by omega) (by omega) (by rw[hC,D])) ?_;conv=>cbv
   refine fun _=>⟨⟨⟨t2,trivial⟩,rfl,by simp⟩,rfl⟩
  have ad:=BC I;refine .inr ?_;have aa:k'<u.length:=K5 J (show 2^(k'+1)<A.length by omega);intro ah aC;conv=>cbv
  refine AN ?_;refine⟨u.length-(k'+1),?_,?_⟩
  ·omega
  rw[o];exact⟨k'+1,hv,ah,rfl,rfl,⟨M,⟨by omega⟩,by omega⟩,rfl⟩
 have Z:=BA H;exact absurd Z (by omega)
theorem dc (G:Gam TT R K S) (hw:TT w):∀{u:List (List Rat)},TT u->Ba u w->Ue S w u:=by
 intro u
 induction u with
 | nil=>
  intro hu g T RL A C x h hR d a f;obtain⟨q,rfl⟩:=Cp.1 a.mem;have b:=a.CJ (by have:=G.mul hw;omega);rw[De] at b;exact de (u:=[]) (x:=0) G hw h d (b q List.mem_cons_self) f
 | cons r u l=>
  intro hu g T RL A C x h hR d a f;obtain⟨p,q,j,k,b⟩:=El.parts (G.BE hu).red a;exact df G hw h hu g (l (G.sub hu) g.tail) hR d a j k b f
theorem dd (G:Gam TT R K S) (hw:TT w):∀{u:List (List Rat)},TT u->Ba u w->Uf S w u:=by
 intro u
 induction u with
 | nil=>
  intro hu h T RL A C x mm j hR a f b g;obtain⟨q,rfl⟩:=Cp.1 b.mem;have d:=b.CJ (by have:=G.mul hw;omega);rw[De] at d;exact dg (u:=[]) (x:=0) a G hw j f (d q List.mem_cons_self) g
 | cons r u m=>
  intro hu h T RL A C x mm j hR a f b g;obtain⟨p,q,k,l,d⟩:=El.parts (G.BE hu).red b;exact dh a G hw j hu h (m (G.sub hu) h.tail) hR f b k l d g
theorem P7 {U T2:List LR} {t:List (List Rat)} (G:DT TT R K S) (ht:TT t) (hu:TT u) (hT:T=tw t) (hU:U=tw u) (a5:T2=tw (ext t u)) (a1:RL=Ey t u):CF 119 [.one (.sl (.sl AA) T),.one (.sl (.sl AA) U)] (.AF [(false,[.sl (.sl AA) T2]),(false,[.sl (.sl AA) RL]),(false,[.int .i64 0])]):=by
 have ah:U.length=u.length:=by rw[hU,CB]
 have al:=G.ht hu;have a2:=G.RS;refine AJ Tryz.func119 fun E hE=>?_
 conv=>cbv
 refine .inr ?_;obtain⟨J0,s⟩:=xJ fun vs bl k=>∃(Z o:List LR) (mm i':Nat) (i:Int),vs=[.one (.sl (.sl AA) Z),.one (.sl (.sl AA) U),.one (.AS (.sl AA) 7 0 0 mm),.one (.int .i64 i)]/\bl=[.arr 0 (.sl AA) o]/\(AW i i'/\i'<=U.length/\mm=o.length)/\Z=tw (ext t (pre u i'))/\o=Ey t (pre u i')/\k=U.length-i'
 refine⟨[(7,.sl AA,true)],[0,1,7,8],[7],J0,⟨U.length,by rw[s];exact⟨T,[],0,0,0,rfl,rfl,⟨Bb 0,Nat.zero_le _,rfl⟩,by rw[Mv];exact hT,by rw[Mv];rfl,rfl⟩⟩,?_⟩;intro vs bl an hj;rw[s] at hj;obtain⟨Z,o,mm,i',i,rfl,rfl,⟨hi,ai,D⟩,z,hinv,aj⟩:=hj;conv=>cbv
 have ei:=hi.eq;have ak:o.length<=U.length:=by rw[hinv,NI,Jd (by omega)];omega
 rintro ao ⟨af,f14⟩;conv=>cbv
 intro ab J;conv=>cbv
 cases ab <;> conv=>cbv
 ·have aa:=BB J;have N:pre u i'=u:=by rw[show i'=u.length by omega];exact Yv u
  exact AD ⟨⟨rfl,congrArg _ (by rw[a5,z,N]),trivial⟩,⟨rfl,.inl ⟨_,rfl,by omega,congrArg _ (by rw[a1,D,List.drop_zero,List.take_length,hinv,N])⟩,trivial⟩,t2,trivial⟩
 have aa:=BC J;refine .inr ?_;obtain⟨I,m⟩:=AP (l:=U) (i:=i') (by omega);refine⟨I,fun _=>⟨by omega,by rw[show (i).toNat=i' by omega];exact m⟩,?_⟩;try conv=>cbv
 obtain⟨r,F,Q⟩:=KJ (u:=u) (i:=i') (by omega);have a:TT (pre u i'):=G.I5 (LQ u i') hu;have b:TT (r::pre u i'):=F ▸ G.I5 (LQ u (i'+1)) hu;have P:=(G.BE b).red;have a8:I=em (pre u i') (AL (pre u i') r):=by rw[<-hU,m] at Q;exact (Option.some.inj Q).trans (Eu P)
 have d:TT (ext t (pre u i')):=G.ext ht a;have B:=(Iy (G.BE ht).red (G.BE a).red).2;have O:El (pre u i') S (AL (pre u i') r):=(El.DH (G.BE b)).mono a2;have W:TT (BK (ext t (pre u i')) (AL (pre u i') r)):=G.BK d b B;have a6:ext t (pre u (i'+1))=BK (ext t (pre u i')) (AL (pre u i') r):=by rw[F];rfl
 have a7:Ey t (pre u (i'+1))=Ey t (pre u i')++[em (BK (ext t (pre u i')) (AL (pre u i') r)) (Re.sqrt (AL (pre u i') r))]:=by rw[F];rfl
 obtain⟨ae,g⟩:=xR (em (ext t (pre u i')) (AL (pre u i') r));refine .inr (.inr (.inl ⟨7,.arr 0 (.sl AA) o,[.one (.sl (.sl AA) Z),.one (.AS (.sl AA) 0 0 0 mm),.one (.sl AA I)],.one (.sl AA ae),fun _=>⟨rfl,⟨rfl,⟨⟨rfl,rfl⟩,rfl⟩,rfl,trivial⟩⟩,fun _=>G8 hE (dd G.toGam d a B z (by rw[hinv];exact NJ (G.BE ht).red (G.BE a).red) D a8 O g),?_⟩));try conv=>cbv
 obtain⟨Y,h⟩:=xV (tw (BK (ext t (pre u i')) (AL (pre u i') r)));obtain⟨f,j⟩:=xR (em (BK (ext t (pre u i')) (AL (pre u i') r)) (Re.sqrt (AL (pre u i') r)));refine AB (r:= .AF [(false,[.sl (.sl AA) Y]),(false,[.sl AA f]),(false,[.int .i64 0])]) hE (UZ (G.BE d) (G.BE W) (G.ht W) z g (G.CE a d B O) (G.JN d) (by have:=P.2.2.1;grind) h j) ?_;try conv=>cbv
 refine AO ?_;conv=>cbv
 refine⟨[f],fun _=>⟨rfl,by decide,rfl,⟨rfl,by first | exact t1 | exact t2 | exact t4 | simp[BV,Bm,cells],trivial⟩⟩,.inr ?_⟩;try conv=>cbv
 refine .inl ⟨[f],fun _=>⟨rfl,D,rfl,by show (o.length+1)*24<=140737488355328;(try simp only[List.length_take,List.length_drop]);omega⟩,?_⟩;intro (H:List (el (.sl AA))) X n;have L:H=(o:List (el (.sl AA)))++([f]:List (el (.sl AA))):=n.1;have M:X=List.length (α:=(el (.sl AA))) H:=n.2;conv=>cbv
 intro ad ag;conv=>cbv
 refine AN ?_;refine⟨U.length-(i'+1),?_,?_⟩
 ·omega
 rw[s];exact⟨Y,H,X,i'+1,ad,rfl,rfl,⟨⟨by omega⟩,by omega,M⟩,by rw[h,a6],by rw[L,hinv,a7,j],rfl⟩
end Go.Abs
namespace Go.Abs
open Go.RowKit
theorem dD {TT:List (List Rat)->Prop} {R K S:Nat} (G:DT TT R K S) {L:List (el Bc)} {ns:List (List (List Rat)×Re)} (Y:∀n∈ns,TT n.1) (hL:L=ns.map nm) (aD:∀n∈ns,El n.1 S n.2) (hlen:ns.length<=1000000) {O:List (el Bc)} (hO:O=ns.map (fun n=>nm (CD ns,n.2))):CF 23 [.one (.sl Bc L)] (.AF [(false,[.sl Bc O]),(false,[.int .i64 0])]):=by
 have b9:L.length=ns.length:=by rw[hL,List.length_map]
 have U:TT (CD ns):=G.CD Y;refine AJ Tryz.func23 fun E hE=>?_
 conv=>cbv
 refine .inr ?_;obtain⟨J0,H⟩:=xJ fun vs bl k=>∃(Ti:List LR) (i':Nat) (i:Int),vs=[.one (.sl Bc L),.one (.sl (.sl AA) Ti),.one (.int .i64 i)]/\bl=[]/\(AW i i'/\i'<=L.length)/\Ti=tw (CD (ns.take i'))/\k=L.length-i'
 refine⟨[(4,.sl AA,false)],[0,4,5],[],J0,⟨L.length,by rw[H];exact⟨[],0,0,rfl,rfl,⟨Bb 0,by omega⟩,rfl,rfl⟩⟩,?_⟩;intro vs bl bd hj;rw[H] at hj;obtain⟨Ti,i',i,rfl,rfl,⟨hi,aT⟩,h,ba⟩:=hj;conv=>cbv
 have ei:=hi.eq;have aU:(CD (ns.take i')).length=List.length (α:=LR) Ti:=by rw[h,CB]
 rintro bg ⟨b7,f17⟩;conv=>cbv
 intro aY aA;conv=>cbv
 cases aY <;> conv=>cbv
 ·have aV:=BB aA;refine .inr ?_;obtain⟨J1,aa⟩:=xJ fun vs bl k=>∃(T:List LR) (o:List (el Bc)) (mm i':Nat) (i:Int),vs=[.one (.sl Bc L),.one (.sl (.sl AA) T),.one (.AS Bc 9 0 0 mm),.one (.int .i64 i)]/\bl=[.arr 0 Bc o]/\(AW i i'/\i'<=L.length/\mm=o.length)/\T=tw (CD ns)/\o=(ns.take i').map (fun n=>nm (CD ns,n.2))/\k=L.length-i'
  refine⟨[(9,Bc,true)],[0,4,9,10],[9],J1,⟨L.length,by rw[aa];exact⟨Ti,[],0,0,0,rfl,rfl,⟨Bb 0,Nat.zero_le _,rfl⟩,by rw[h,List.take_of_length_le (show ns.length<=i' by omega)],rfl,rfl⟩⟩,?_⟩;intro vs bl bf hj;rw[aa] at hj;obtain⟨T,o,mm,i',i,rfl,rfl,⟨hi,aT,aq⟩,hT,hinv,bb⟩:=hj;conv=>cbv
  have ei:=hi.eq;have bc:o.length<=L.length:=by rw[hinv,List.length_map,List.length_take];omega
  rintro bh ⟨b8,f69⟩;conv=>cbv
  intro b2 aC;conv=>cbv
  cases b2 <;> conv=>cbv
  ·have aX:=BB aC;exact AD ⟨⟨rfl,.inl ⟨_,rfl,by omega,congrArg _ (by rw[hO,aq,hinv,List.drop_zero,List.take_length,List.take_of_length_le (show ns.length<=i' by omega)])⟩,trivial⟩,t2,trivial⟩
  have aX:=BC aC;refine .inr ?_;obtain⟨a7,B⟩:=AP (l:=L) (i:=i') (by omega);refine⟨a7,fun _=>⟨by omega,by rw[show (i).toNat=i' by omega];exact B⟩,?_⟩;try conv=>cbv
  obtain⟨u,y,d,ar,Q⟩:=Im hL B;have W:=List.mem_of_getElem? Q;have hu:TT u:=Y _ W;have au:El u S y:=aD _ W;have aF:List.length (α:=LR) a7.1=u.length:=by rw[d,CB]
  have aE:Ba u (CD ns):=Qw G.toGam Y _ W;obtain⟨wC,ab⟩:=xR (em (CD ns) y);obtain⟨aL,ad⟩:=Er (u<:+CD ns);refine AB hE (Np (G.BE U) (G.BE hu) hT d ad) ?_;conv=>cbv
  refine .inr ?_;cases aL <;> conv=>cbv
  ·obtain⟨aK,aj⟩:=AP (l:=L) (i:=i') (by omega);refine⟨aK,fun _=>⟨by omega,by rw[show (i).toNat=i' by omega];exact aj⟩,?_⟩;try conv=>cbv
   have aR:aK=a7:=Option.some.inj (aj.symm.trans B);obtain⟨b3,aG⟩:=xV (tw (CD ns));obtain⟨b4,af⟩:=xV (Ey (CD ns) u);have ae:=Q1 (G.BE U).red (G.BE hu).red aE;refine AB (r:= .AF [(false,[.sl (.sl AA) b3]),(false,[.sl (.sl AA) b4]),(false,[.int .i64 0])]) hE (P7 G U hu hT (by rw[aR];exact d) (by rw[ae];exact aG) af) ?_;try conv=>cbv
   obtain⟨ak,a2⟩:=AP (l:=L) (i:=i') (by omega);refine⟨ak,fun _=>⟨by omega,by rw[show (i).toNat=i' by omega];exact a2⟩,?_⟩;try conv=>cbv
   have az:ak=a7:=Option.some.inj (a2.symm.trans B);refine AB (r:= .one (.sl AA wC)) hE (dc G.toGam U hu aE hT (by rw[af];have:=NJ (G.BE U).red (G.BE hu).red;rwa [ae] at this) (by rw[az];exact ar) au ab) ?_;try conv=>cbv
   refine⟨[(T,wC)],fun _=>⟨rfl,by decide,rfl,⟨rfl,by first | exact t1 | exact t2 | exact t4 | simp[BV,Bm,cells],trivial⟩⟩,.inr ?_⟩;try conv=>cbv
   refine .inl ⟨[(T,wC)],fun _=>⟨rfl,aq,rfl,by show (o.length+1)*48<=140737488355328;(try simp only[List.length_take,List.length_drop]);omega⟩,?_⟩;intro (f:List (el Bc)) D g;have I:f=(o:List (el Bc))++([(T,wC)]:List (el Bc)):=g.1;have J:D=List.length (α:=(el Bc)) f:=g.2;conv=>cbv
   intro av aS;conv=>cbv
   refine AN ?_;refine⟨L.length-(i'+1),?_,?_⟩
   ·omega
   rw[aa];exact⟨T,f,D,i'+1,av,rfl,rfl,⟨⟨by omega⟩,by omega,J⟩,hT,by rw[I,hinv,C4 Q,List.map_append];simp[nm,hT,ab],rfl⟩
  obtain⟨aJ,ai⟩:=AP (l:=L) (i:=i') (by omega);refine⟨aJ,fun _=>⟨by omega,by rw[show (i).toNat=i' by omega];exact ai⟩,?_⟩;try conv=>cbv
  have aQ:aJ=a7:=Option.some.inj (ai.symm.trans B);refine AB (r:= .one (.sl AA wC)) hE (P9 (G.BE U) hT (by rw[aQ];exact ar) au.mem (ad.1 rfl) ab) ?_;try conv=>cbv
  refine⟨[(T,wC)],fun _=>⟨rfl,by decide,rfl,⟨rfl,by first | exact t1 | exact t2 | exact t4 | simp[BV,Bm,cells],trivial⟩⟩,.inr ?_⟩;try conv=>cbv
  refine .inl ⟨[(T,wC)],fun _=>⟨rfl,aq,rfl,by show (o.length+1)*48<=140737488355328;(try simp only[List.length_take,List.length_drop]);omega⟩,?_⟩;intro (f:List (el Bc)) D g;have I:f=(o:List (el Bc))++([(T,wC)]:List (el Bc)):=g.1;have J:D=List.length (α:=(el Bc)) f:=g.2;conv=>cbv
  intro av aS;conv=>cbv
  refine AN ?_;refine⟨L.length-(i'+1),?_,?_⟩
  ·omega
  rw[aa];exact⟨T,f,D,i'+1,av,rfl,rfl,⟨⟨by omega⟩,by omega,J⟩,hT,by rw[I,hinv,C4 Q,List.map_append];simp[nm,hT,ab],rfl⟩
 have aV:=BC aA;refine .inr ?_;obtain⟨F,b⟩:=AP (l:=L) (i:=i') (by omega);refine⟨F,fun _=>⟨by omega,by rw[show (i).toNat=i' by omega];exact b⟩,?_⟩;try conv=>cbv
 obtain⟨u,y,d,ar,Q⟩:=Im hL b;have W:=List.mem_of_getElem? Q;have hu:TT u:=Y _ W;have au:El u S y:=aD _ W;have aF:List.length (α:=LR) F.1=u.length:=by rw[d,CB]
 have N:=XT Q;unfold Ev at N
 dsimp only at N
 have Z:TT (CD (ns.take i')):=G.CD (fun n hn=>Y n (List.mem_of_mem_take hn));rintro aZ ⟨aM,f26⟩;conv=>cbv
 have b6:aZ=(u.length:Int):=aM.trans (congrArg (fun n:Nat=>(n:Int)) aF);rintro b0 ⟨aN,f28⟩;conv=>cbv
 have b5:b0=((CD (ns.take i')).length:Int):=aN.trans (congrArg (fun n:Nat=>(n:Int)) aU.symm);intro b1 aB;conv=>cbv
 cases b1 <;> conv=>cbv
 ·have aW:=Cg aB;refine .inr ?_;obtain⟨a5,t⟩:=AP (l:=L) (i:=i') (by omega);refine⟨a5,fun _=>⟨by omega,by rw[show (i).toNat=i' by omega];exact t⟩,?_⟩;try conv=>cbv
  have an:a5=F:=Option.some.inj (t.symm.trans b);obtain⟨al,a⟩:=Er (u<:+(CD (ns.take i')));refine AB (r:= .one (.bool al)) hE (Np (G.BE Z) (G.BE hu) h (by rw[an];exact d) a) ?_;try conv=>cbv
  intro ED X;conv=>cbv
  refine .inr ?_;cases ED <;> conv=>cbv
  ·have j:=DW X;intro m a8;conv=>cbv
   refine AN ?_;refine⟨L.length-(i'+1),?_,?_⟩
   ·omega
   rw[H];exact⟨_,i'+1,m,rfl,rfl,⟨⟨by omega⟩,by omega⟩,by rw[N,if_pos (a.1 j),<-h],rfl⟩
  have j:=DX X;obtain⟨a6,z⟩:=AP (l:=L) (i:=i') (by omega);refine⟨a6,fun _=>⟨by omega,by rw[show (i).toNat=i' by omega];exact z⟩,?_⟩;try conv=>cbv
  have ao:a6=F:=Option.some.inj (z.symm.trans b);obtain⟨aw,s⟩:=xV (tw (ext (CD (ns.take i')) u));obtain⟨ax,a1⟩:=xV (Ey (CD (ns.take i')) u);refine AB (r:= .AF [(false,[.sl (.sl AA) aw]),(false,[.sl (.sl AA) ax]),(false,[.int .i64 0])]) hE (P7 G Z hu h (by rw[ao];exact d) s a1) ?_;try conv=>cbv
  refine AO ?_;conv=>cbv
  intro m a8;conv=>cbv
  refine AN ?_;refine⟨L.length-(i'+1),?_,?_⟩
  ·omega
  rw[H];exact⟨_,i'+1,m,rfl,rfl,⟨⟨by omega⟩,by omega⟩,by rw[N,if_neg (fun q=>by have:=a.2 q;rw[j] at this;cases this),if_neg (fun M=>by first | (have:=P.2 M;cases this) | exact absurd (show u<:+CD (List.take i' ns) from by rw[M.eq_of_length_le (by omega)];exact List.suffix_refl _) (fun q=>by have:=a.2 q;rw[j] at this;cases this)),s],rfl⟩
 have aW:=Ch aB;obtain⟨aH,ag⟩:=AP (l:=L) (i:=i') (by omega);refine⟨aH,fun _=>⟨by omega,by rw[show (i).toNat=i' by omega];exact ag⟩,?_⟩;try conv=>cbv
 have aO:aH=F:=Option.some.inj (ag.symm.trans b);obtain⟨ay,P⟩:=Er ((CD (ns.take i'))<:+u);refine AB (r:= .one (.bool ay)) hE (Np (G.BE hu) (G.BE Z) (by rw[aO];exact d) h P) ?_;try conv=>cbv
 refine .inr ?_;cases ay <;> conv=>cbv
 ·obtain⟨a5,t⟩:=AP (l:=L) (i:=i') (by omega);refine⟨a5,fun _=>⟨by omega,by rw[show (i).toNat=i' by omega];exact t⟩,?_⟩;try conv=>cbv
  have an:a5=F:=Option.some.inj (t.symm.trans b);obtain⟨al,a⟩:=Er (u<:+(CD (ns.take i')));refine AB (r:= .one (.bool al)) hE (Np (G.BE Z) (G.BE hu) h (by rw[an];exact d) a) ?_;try conv=>cbv
  intro ED X;conv=>cbv
  refine .inr ?_;cases ED <;> conv=>cbv
  ·have j:=DW X;intro m a8;conv=>cbv
   refine AN ?_;refine⟨L.length-(i'+1),?_,?_⟩
   ·omega
   rw[H];exact⟨_,i'+1,m,rfl,rfl,⟨⟨by omega⟩,by omega⟩,by rw[N,if_pos (a.1 j),<-h],rfl⟩
  have j:=DX X;obtain⟨a6,z⟩:=AP (l:=L) (i:=i') (by omega);refine⟨a6,fun _=>⟨by omega,by rw[show (i).toNat=i' by omega];exact z⟩,?_⟩;try conv=>cbv
  have ao:a6=F:=Option.some.inj (z.symm.trans b);obtain⟨aw,s⟩:=xV (tw (ext (CD (ns.take i')) u));obtain⟨ax,a1⟩:=xV (Ey (CD (ns.take i')) u);refine AB (r:= .AF [(false,[.sl (.sl AA) aw]),(false,[.sl (.sl AA) ax]),(false,[.int .i64 0])]) hE (P7 G Z hu h (by rw[ao];exact d) s a1) ?_;try conv=>cbv
  refine AO ?_;conv=>cbv
  intro m a8;conv=>cbv
  refine AN ?_;refine⟨L.length-(i'+1),?_,?_⟩
  ·omega
  rw[H];exact⟨_,i'+1,m,rfl,rfl,⟨⟨by omega⟩,by omega⟩,by rw[N,if_neg (fun q=>by have:=a.2 q;rw[j] at this;cases this),if_neg (fun M=>by first | (have:=P.2 M;cases this) | exact absurd (show u<:+CD (List.take i' ns) from by rw[M.eq_of_length_le (by omega)];exact List.suffix_refl _) (fun q=>by have:=a.2 q;rw[j] at this;cases this)),s],rfl⟩
 obtain⟨aI,ah⟩:=AP (l:=L) (i:=i') (by omega);refine⟨aI,fun _=>⟨by omega,by rw[show (i).toNat=i' by omega];exact ah⟩,?_⟩;try conv=>cbv
 have aP:aI=F:=Option.some.inj (ah.symm.trans b);intro m a8;conv=>cbv
 refine AN ?_;refine⟨L.length-(i'+1),?_,?_⟩
 ·omega
 rw[H];exact⟨_,i'+1,m,rfl,rfl,⟨⟨by omega⟩,by omega⟩,by rw[N,if_neg (fun M=>by have:=M.length_le;omega),if_pos (P.1 rfl),aP];exact d,rfl⟩
end Go.Abs
namespace Go.Abs
abbrev Nu:=List (List Rat)×Re
def C5 (q:Rat):Prop:=q.num.natAbs<18446744073709551616/\q.den<18446744073709551616
theorem WZ:∀{a:List Rat},(∀q∈a,C5 q)->∃D:Nat,0<D/\D<=2^(64*a.length)/\DN D a
 | [],_=>⟨1,by decide,by simp,fun q d=>by simp at d⟩
 | q::a,h=>by
  obtain⟨D,f,g,j⟩:=WZ (a:=a) (fun x b=>h x (List.mem_cons_of_mem _ b));have d:=(h q List.mem_cons_self).2;refine⟨q.den*D,Nat.mul_pos q.den_pos f,?_,fun x b=>?_⟩
  ·have:=Nat.mul_le_mul (show q.den<=2^64 by omega) g;rw[<-Nat.pow_add] at this;rw[List.length_cons,show 64*(a.length+1)=64+64*a.length by omega];exact this
  rcases List.mem_cons.1 b with rfl | b
  ·refine⟨x.num*D,?_⟩;rw[Rat.intCast_mul,<-LU x,Hd];have:((D:Int):Rat)=(D:Rat):=rfl
   grind
  exact j.dvd ⟨q.den,by grind⟩ x b
theorem kH {q:Rat} {B:Nat} (h:q.num.natAbs<=B): -(B:Rat)<=q/\q<=B:=by
 have f:1<=q.den:=q.den_pos;have g:B*1<=B*q.den:=Nat.mul_le_mul_left B f
 have key:q.num<=(B:Int)*q.den/\ -((B:Int)*q.den)<=q.num:=by
  have:((B*q.den:Nat):Int)=(B:Int)*q.den:=Int.natCast_mul _ _;omega
 have e:=LU q
 have d:(0:Rat)<q.den:=by
  have:((0:Nat):Rat)<(q.den:Rat):=Rat.natCast_lt_natCast.2 q.den_pos;simpa using this
 have k1:(q.num:Rat)<=(B:Rat)*q.den:=by
  have:=Rat.intCast_le_intCast.2 key.1;rw[Rat.intCast_mul] at this;exact this
 have k2: -((B:Rat)*q.den)<=(q.num:Rat):=by
  have:=Rat.intCast_le_intCast.2 key.2;rw[Rat.intCast_neg,Rat.intCast_mul] at this;exact this
 rw[<-e] at k1 k2
 constructor
 ·apply Classical.byContradiction;intro hc;have:=Rat.mul_pos (a:= -(B:Rat)-q) (b:=q.den) (by grind) d
  grind
 apply Classical.byContradiction;intro hc;have:=Rat.mul_pos (a:=q-(B:Rat)) (b:=q.den) (by grind) d
 grind
theorem N3 {a:List Rat} (h:∀q∈a,C5 q):Bd (64*a.length) a:=by
 obtain⟨D,d,f,g⟩:=WZ h;refine⟨D,d,f,g,fun q b=>?_⟩;have j:1<=a.length:=List.length_pos_of_mem b;exact kH (Nat.le_trans (Nat.le_of_lt (h q b).1) (show 2^64<=2^(64*a.length) from CQ))
structure CK (V:List Re) (n:Nu):Prop where
 red:AZ n.1
 mem:In n.1 n.2
 BF:∀v∈BF n.1,v∈V
 IN:∀s∈n.1,∀q∈s,C5 q
 cos:∀q∈co n.1 n.2,C5 q
theorem CK.mono {V a:List Re} {n:Nu} (h:CK V n) (hV:∀v∈V,v∈a):CK a n:=⟨h.red,h.mem,fun v b=>hV v (h.BF v b),h.IN,h.cos⟩
theorem CK.len {V:List Re} {n:Nu} (h:CK V n):n.1.length<=V.length:=by rw[<-Jn];exact JW (HU h.red) h.BF
theorem SV:∀{u:List (List Rat)} {r:List Rat},AZ u->r∈u->2*r.length<=2^u.length
 | [],_,_,h=>by simp at h
 | s::u,r,h,a=>by
  rw[B4];rcases List.mem_cons.1 a with rfl | a
  ·rw[h.2.1];omega
  have:=SV h.1 a;omega
theorem aj {u w:List (List Rat)} (h:u<:+w):∀v∈BF u,v∈BF w:=by
 obtain⟨t,rfl⟩:=h
 induction t with
 | nil=>exact fun v a=>a
 | cons r t b=>exact fun v a=>List.mem_cons_of_mem _ (b v a)
def PN (ns:List Nu) (u:List (List Rat)):Prop:=∃n∈ns,u<:+n.1
section
variable {V:List Re} {ns:List Nu}
theorem Yt {k:Nat} (h:k<=3):2^k<=8:=CQ h
theorem PN.JP (hV:V.length<=3) (h:∀n∈ns,CK V n):CU (PN ns) 256:=by
 refine⟨fun {u} ⟨n,a,d⟩=>Sd d (h n a).red,fun {u} ⟨n,a,d⟩=>fun r f=>?_,fun {r u} ⟨n,a,d⟩=>⟨n,a,(List.suffix_cons r u).trans d⟩⟩;have b:=d.subset f;have g:=SV (h n a).red b;have j:=Yt (Nat.le_trans (h n a).len hV);exact (N3 ((h n a).IN r b)).mono (by omega)
theorem PN.BF (h:∀n∈ns,CK V n) {u:List (List Rat)} (hu:PN ns u):∀v∈BF u,v∈V:=by
 obtain⟨n,a,b⟩:=hu;exact fun v d=>(h n a).BF v (aj b v d)
theorem PN.self {n:Nu} (a:n∈ns):PN ns n.1:=⟨n,a,List.suffix_refl _⟩
end
theorem CK.el {V:List Re} {n:Nu} (h:CK V n) (hV:V.length<=3):El n.1 512 n.2:=by
 refine⟨h.mem,(N3 h.cos).mono ?_⟩;have a:=Yt (Nat.le_trans h.len hV);rw[Cr h.mem];omega
abbrev Rm:Nat:=93478
abbrev Cm:Nat:=53200000
abbrev Sm:Nat:=500000000000
theorem mc:RR 256 3<=Rm:=by decide +kernel
theorem fw:CC 3 Rm 3 Rm<=Cm:=by decide +kernel
theorem gj:∀h,h<=3->Fit h Rm (Sm+Cm)
 |0,_|1,_|2,_|3,_=>⟨by decide +kernel,by decide +kernel,by decide +kernel,by decide +kernel⟩
 | _+4,h=>absurd h (by omega)
theorem gg:∀h,h<=3->Ee h Rm (Sm+Cm)
 |0,_|1,_|2,_|3,_=>⟨by decide +kernel,by decide +kernel,by decide +kernel,by decide +kernel⟩
 | _+4,h=>absurd h (by omega)
theorem j8:2*(Sm+Cm)+EE 3 Rm<=60000000000000:=by decide +kernel
theorem W5 {P:List (List Rat)->Prop} (I:CU P 256) (hm:∀{u},Tf P u->u.length<=3) {S:Nat} (a:Rm<=S) (d:S<=Sm):DT (Tf P) Rm Cm S:=
 {Tf.Q3 I hm mc a fw (fun h b=>(gj h b).mono (by omega)) (Nat.le_trans (by omega) j8) with JN:=fun {u} hu=>(gg _ (hm hu)).mono (by omega)}
open Classical in
noncomputable def AT (x:Re):Re:=if h:x≠0 then Classical.choose (Re.MW h) else 0
theorem Hk {x:Re} (h:x≠0):x*AT x=1:=by
 unfold AT;rw[dif_pos h];exact Classical.choose_spec (Re.MW h)
theorem Oa {u:List (List Rat)} {x:Re} (hu:AZ u) (b:In u x) (a:x≠0):In u (AT x):=by
 obtain⟨y,d,e⟩:=EC hu b a;have e2:=Hk a
 rw[show AT x=y by
  have:AT x=AT x*(x*y):=by rw[e];grind
  rw[this];have:AT x*(x*y)=(x*AT x)*y:=by grind
  rw[this,e2];grind]
 exact d
open Classical in
noncomputable def Ds (x:Re):Re:=if x<0 then -x else x
theorem Kg (x:Re):0<=Ds x:=by unfold Ds;split <;> grind
theorem XI {u:List (List Rat)} {x:Re} (a:In u x):In u (Ds x):=by unfold Ds;split;exact Gw a;exact a
open Classical in
noncomputable def Gm (n:Nu):Nu:=if h:AZ n.1/\In n.1 n.2 then (Classical.choose (TM h.1 h.2 (Nat.le_refl _)),n.2) else n
theorem TL {n:Nu} (a:AZ n.1) (b:In n.1 n.2):Hv n.1.length (n.1.reverse,co n.1 n.2)=((Gm n).1.reverse,co (Gm n).1 (Gm n).2)/\Ia n.1 n.2 (Gm n).1/\(Gm n).2=n.2:=by
 unfold Gm;rw[dif_pos ⟨a,b⟩];have:=Classical.choose_spec (TM a b (Nat.le_refl _));exact⟨this.1,this.2,rfl⟩
def I8 (n:Nu):Prop:=(∃q∈co n.1 n.2,¬C5 q)\/∃s∈n.1,∃q∈s,¬C5 q
noncomputable def EO (k:Nat) (a b:Nu) (roots:Nat):Nu×Nat:=by
 classical
 exact if k=1 then ((Bf a.1 b.1,a.2+b.2),roots)
 else if k=2 then ((Bf a.1 b.1,a.2-b.2),roots)
 else if k=3 then ((Bf a.1 b.1,a.2*b.2),roots)
 else if k=4 then (if b.2=0 then a else (Bf a.1 b.1,a.2*AT b.2),roots)
 else if roots<3 then ((BK a.1 (Ds a.2),Re.sqrt (Ds a.2)),roots+1) else (a,roots)
def IU:Nu:=([],0)
noncomputable def Cs (l:List Nu) (i:Nat):Nu:=l.getD (i%l.length) IU
def KS (n:Int):Int:=(n+9223372036854775808)%18446744073709551616-9223372036854775808
theorem TX (n:Int): -9223372036854775808<=KS n/\KS n<9223372036854775808:=by unfold KS;omega
def HP (o:el B9):Rat:=Rat.divInt (KS o.2.2.2.1) ((o.2.2.2.2.toNat%8+1:Nat):Int)
noncomputable def DY (st:List Nu×Nat) (o:el B9):Nu×Nat:=by
 classical
 exact if st.1=[]\/o.1.toNat%6=0 then (([],Re.ofRat (HP o)),st.2) else EO (o.1.toNat%6) (Cs st.1 o.2.1.toNat) (Cs st.1 o.2.2.1.toNat) st.2
noncomputable def Gd (l:List Nu) (x:Nu):Nu:=by
 classical
 exact if l≠[]/\I8 x then l.getLastD IU else x
noncomputable def I4 (st:List Nu×Nat) (o:el B9):List Nu×Nat:=(st.1++[Gm (Gd st.1 (DY st o).1)],(DY st o).2)
noncomputable def runN (xs:List (el B9)):List Nu×Nat:=xs.foldl I4 ([],0)
theorem Za (xs:List (el B9)) (o:el B9):runN (xs++[o])=I4 (runN xs) o:=by rw[runN,List.foldl_append];rfl
def KY (st:List Nu×Nat):Prop:=st.2<=3/\∃V:List Re,V.length<=st.2/\∀n∈st.1,CK V n
theorem CK.trim {V:List Re} {n:Nu} (h:CK V n):CK V (Gm n):=by
 obtain⟨_,t,e⟩:=TL h.red h.mem;refine⟨t.red,by rw[e];exact t.mem,fun v g=>h.BF v (t.BF v g),fun s f q a=>?_,fun q a=>?_⟩
 ·obtain⟨j,d,b⟩:=t.IN s f q a;exact h.IN j d q b
 rw[e] at a;exact h.cos q (t.cos q a)
theorem CK.kg {V:List Re} {n:Nu} (b:AZ n.1) (d:In n.1 n.2) (h3:∀v∈Go.Abs.BF n.1,v∈V) (h:¬I8 n):CK V n:=
 ⟨b,d,h3,fun s f q a=>Classical.byContradiction fun hc=>h (.inr ⟨s,f,q,a,hc⟩),fun q a=>Classical.byContradiction fun hc=>h (.inl ⟨q,a,hc⟩)⟩
theorem Q4 {l:List Nu} (h:l≠[]) (i:Nat):Cs l i∈l:=by
 have:i%l.length<l.length:=Nat.mod_lt _ (List.length_pos_iff.2 h);unfold Cs;rw[List.getD_eq_getElem?_getD,List.getElem?_eq_getElem this];exact List.getElem_mem this
theorem jG {l:List Nu} (h:l≠[]):l.getLastD IU∈l:=by
 cases l with
 | nil=>exact absurd rfl h
 | cons a l=>rw[List.getLastD_cons];cases l with
  | nil=>exact List.mem_cons_self
  | cons b l=>rw[List.getLastD_eq_getLast?];exact List.mem_cons_of_mem _ (by
   rw[List.getLast?_eq_some_getLast (by simp)];exact List.getLast_mem _)
section
variable {V:List Re} {ns:List Nu}
theorem J6 (hV:V.length<=3) (h:∀n∈ns,CK V n) {S:Nat} (a:Rm<=S) (b:S<=Sm:=by first|omega|decide):DT (Tf (PN ns)) Rm Cm S:=
 W5 (PN.JP hV h) (fun {u} hu=>Nat.le_trans (hu.len (PN.JP hV h) (fun d=>PN.BF h d)) hV) a b
theorem GP (hV:V.length<=3) (h:∀n∈ns,CK V n) {n:Nu} (a:n∈ns):Tf (PN ns) n.1:=Tf.of (PN.JP hV h) (PN.self a)
structure Lx (V:List Re) (n:Nu):Prop where
 red:AZ n.1
 mem:In n.1 n.2
 BF:∀v∈BF n.1,v∈V
theorem Lx.O3 (hV:V.length<=3) (h:∀n∈ns,CK V n) {n:Nu} (ht:Tf (PN ns) n.1) (hm:In n.1 n.2):Lx V n:=
 ⟨ht.red (PN.JP hV h),hm,ht.BF (PN.JP hV h) (fun a=>PN.BF h a)⟩
theorem CK.ZP {n:Nu} (h:CK V n):Lx V n:=⟨h.red,h.mem,h.BF⟩
theorem gY (hV:V.length<=3) (h:∀n∈ns,CK V n) {a b:Nu} (ha:a∈ns) (hb:b∈ns):Tf (PN ns) (Bf a.1 b.1)/\In (Bf a.1 b.1) a.2/\In (Bf a.1 b.1) b.2:=by
 have G:=(J6 hV h (Nat.le_refl Rm)).toGam;obtain⟨d,f,h3⟩:=G.Bf (GP hV h ha) (GP hV h hb);exact⟨d,f _ (h a ha).mem,h3 _ (h b hb).mem⟩
theorem af {u:List (List Rat)} {v:Re} (d:In u v):∀x∈BF (BK u v),x=v\/x∈BF u:=by
 by_cases b:Sq u v
 ·rw[D3 b];exact fun x a=> .inr a
 rw[Dc b];intro x a;rcases List.mem_cons.1 a with rfl | a
 ·exact .inl (EB d)
 exact .inr a
theorem Jg {u:List (List Rat)} {v:Re} (h:AZ u) (a:In u v) (d:0<=v):AZ (BK u v):=by
 by_cases b:v=0
 ·subst b;rw[D3 ⟨0,CG u,by grind⟩];exact h
 exact Sb h a (by grind)
theorem M5 {st:List Nu×Nat} (h:KY st) (o:el B9):(DY st o).2<=3/\∃V,V.length<=(DY st o).2/\(∀n∈st.1,CK V n)/\Lx V (DY st o).1:=by
 obtain⟨h3,V,hV,d⟩:=h;have f:=Nat.le_trans hV h3;unfold DY
 split
 ·exact⟨h3,V,hV,d,trivial,⟨[HP o],rfl,rfl⟩,fun v j=>by simp[Go.Abs.BF] at j⟩
 rename_i hc
 have k:st.1≠[]:=fun e=>hc (.inl e)
 have ha:=Q4 k o.2.1.toNat;have hb:=Q4 k o.2.2.1.toNat
 generalize Cs st.1 o.2.1.toNat=a at*
 generalize Cs st.1 o.2.2.1.toNat=b at*
 obtain⟨l,m,s⟩:=gY f d ha hb;have z:=l.red (PN.JP f d);unfold EO
 split
 ·exact⟨h3,V,hV,d,.O3 f d l (DK m s)⟩
 split
 ·exact⟨h3,V,hV,d,.O3 f d l (FY m s)⟩
 split
 ·exact⟨h3,V,hV,d,.O3 f d l (Aj z m s)⟩
 split
 ·refine⟨h3,V,hV,d,?_⟩
  dsimp only
  split
  ·exact (d a ha).ZP
  rename_i t
  exact .O3 f d l (Aj z m (Oa z s t))
 split
 ·rename_i B
  have g:=XI (d a ha).mem;refine⟨by show st.2+1<=3;omega,Ds a.2::V,by show _+1<=st.2+1;omega,fun n hm=>(d n hm).mono fun v j=>List.mem_cons_of_mem _ j,Jg (d a ha).red g (Kg _),QG g (Kg _),fun v j=>?_⟩;rcases af g v j with rfl | j
  ·exact List.mem_cons_self
  exact List.mem_cons_of_mem _ ((d a ha).BF v j)
 exact⟨h3,V,hV,d,(d a ha).ZP⟩
end
theorem nB {n:Int} {d:Nat} (b:n.natAbs<18446744073709551616) (f:0<d) (a:d<18446744073709551616):C5 (Rat.divInt n d):=by
 have e:(Rat.divInt n d)=mkRat n d:=Rat.divInt_ofNat n d;rw[e]
 constructor
 ·have:=Rat.num_mkRat n d;rw[this]
  split
  ·simp
  refine Nat.lt_of_le_of_lt ?_ b;exact Int.natAbs_ediv_le_natAbs _ _
 have:=Rat.den_mkRat n d;rw[this]
 split
 ·decide
 exact Nat.lt_of_le_of_lt (Nat.div_le_self _ _) a
theorem RG {V:List Re} {l:List Nu} {x:Nu} (f:∀n∈l,CK V n) (a:Lx V x) (d:l=[]->¬I8 x):CK V (Gd l x):=by
 unfold Gd
 split
 ·rename_i h;exact f _ (jG h.1)
 rename_i h
 refine .kg a.red a.mem a.BF fun b=>?_
 by_cases he:l=[]
 ·exact d he b
 exact h ⟨he,b⟩
theorem SY (o:el B9):¬I8 ([],Re.ofRat (HP o)):=by
 have f:C5 (HP o):=nB (by have:=TX o.2.2.2.1;omega) (by omega) (by omega);rintro (⟨q,d,b⟩ |⟨s,a,_⟩)
 ·rw[De] at d;rw[List.mem_singleton.1 d] at b;exact b f
 simp at a
theorem nt {st:List Nu×Nat} (h:KY st) (o:el B9):KY (I4 st o):=by
 obtain⟨b,V,d,h3,f⟩:=M5 h o;refine⟨b,V,d,fun n a=>?_⟩;rcases List.mem_append.1 a with a | a
 ·exact h3 n a
 rw[List.mem_singleton.1 a];refine (RG h3 f fun he=>?_).trim;have:(DY st o).1=([],Re.ofRat (HP o)):=by unfold DY;rw[if_pos (.inl he)]
 rw[this];exact SY o
theorem Zh:∀{xs:List (el B9)} {st:List Nu×Nat},KY st->KY (xs.foldl I4 st)
 | [],_,h=>h
 | o::xs,_,h=>Zh (xs:=xs) (nt h o)
theorem Sp (xs:List (el B9)):KY (runN xs):=Zh ⟨by decide,[],by simp,by simp⟩
end Go.Abs
namespace Go.Abs
open Go.RowKit
variable {A1 A2 C:LR} {K K2 R S S2:Nat} {T T1 T2:List LR} {TT:List (List Rat)->Prop} {c:Int} {q:Rat} {u v:List (List Rat)} {x y:Re}
theorem U7 (G:DT TT R K S) (hu:TT u) (N:TT v) (m:T1=tw u) (o:T2=tw v) (j:A1=em u x) (k:A2=em v y) (P:El u S x) (Q:El v S y) {A B:LR} (M:T=tw (Bf u v)) (H:A=em (Bf u v) x) (I:B=em (Bf u v) y):CF 216 [.agg (AK T1 A1),.agg (AK T2 A2)] (.AF [(true,(AK T A)),(true,(AK T B)),(false,[.int .i64 0])]):=by
 obtain⟨O,h⟩:∃z:List (el Bc),z=[(T,A),(T,B)]:=⟨_,rfl⟩
 have L:O.length=2:=by rw[h];rfl
 have D:O[0]? =some (T,A):=by rw[h];rfl
 have F:O[1]? =some (T,B):=by rw[h];rfl
 refine AJ Tryz.func216 fun E J=>?_
 conv=>cbv
 refine⟨[(T1,A1),(T2,A2)],fun _=>⟨rfl,by decide,rfl,⟨rfl,by first | exact t1 | exact t2 | exact t4 | simp[BV,Bm,cells],⟨rfl,by first | exact t1 | exact t2 | exact t4 | simp[BV,Bm,cells],trivial⟩⟩⟩,.inr ?_⟩;try conv=>cbv
 refine AB (r:= .AF [(false,[.sl Bc O]),(false,[.int .i64 0])]) J (dD (ns:=[(u,x),(v,y)]) G (by intro n g;simp at g;rcases g with rfl | rfl;exact hu;exact N) (by rw[m,o,j,k];rfl) (by intro n g;simp at g;rcases g with rfl | rfl;exact P;exact Q) (by show 2<=1000000;decide) (by rw[h,M,H,I];rfl)) ?_;try conv=>cbv
 refine AO ?_;conv=>cbv
 obtain⟨s,a⟩:=AP (l:=O) (i:=0) (by omega);refine⟨s,fun _=>⟨by omega,a⟩,?_⟩;try conv=>cbv
 obtain⟨t,b⟩:=AP (l:=O) (i:=1) (by omega);refine⟨t,fun _=>⟨by omega,b⟩,?_⟩;try conv=>cbv
 refine g2 rfl ?_;have d:=Option.some.inj (a.symm.trans D);have f:=Option.some.inj (b.symm.trans F);exact AD ⟨⟨rfl,congrArg _ (by rw[d]),congrArg _ (by rw[d]),trivial⟩,⟨rfl,congrArg _ (by rw[f]),congrArg _ (by rw[f]),trivial⟩,t2,trivial⟩
theorem Pv (G:DT TT R K S) (hu:TT u) (k:TT v) (f:T1=tw u) (g:T2=tw v) (b:A1=em u x) (d:A2=em v y) (t:El u S x) (z:El v S y) (F:T=tw (Bf u v)) (D:C=em (Bf u v) (x+y)):CF 99 [.agg (AK T1 A1),.agg (AK T2 A2)] (.AF [(true,(AK T C)),(false,[.int .i64 0])]):=by
 obtain⟨a,h,j⟩:=G.toGam.Bf hu k;have l:=G.CE hu a h t;have m:=G.CE k a j z;have hmul:=G.mul a;obtain⟨A,n⟩:=C3 (em (Bf u v) x);obtain⟨B,o⟩:=C3 (em (Bf u v) y);refine AJ Tryz.func99 fun E s=>?_
 conv=>cbv
 refine AB s (U7 G hu k f g b d t z F n o) ?_;conv=>cbv
 refine AO ?_;conv=>cbv
 refine AB s (Ju (G.BE a) n o l m (by omega) (by omega) D) ?_;conv=>cbv
 refine g2 rfl ?_;exact AD ⟨t3,t2,trivial⟩
theorem Px (G:DT TT R K S) (hu:TT u) (k:TT v) (f:T1=tw u) (g:T2=tw v) (b:A1=em u x) (d:A2=em v y) (z:El u S x) (D:El v S y) (t:T=tw (Bf u v)) (F:C=em (Bf u v) (x*y)):CF 102 [.agg (AK T1 A1),.agg (AK T2 A2)] (.AF [(true,(AK T C)),(false,[.int .i64 0])]):=by
 obtain⟨a,h,j⟩:=G.toGam.Bf hu k;have l:=G.CE hu a h z;have m:=G.CE k a j D;have hmul:=G.mul a;obtain⟨A,n⟩:=C3 (em (Bf u v) x);obtain⟨B,o⟩:=C3 (em (Bf u v) y);refine AJ Tryz.func102 fun E s=>?_
 conv=>cbv
 refine AB s (U7 G hu k f g b d z D t n o) ?_;conv=>cbv
 refine AO ?_;conv=>cbv
 refine AB s (D9 (G.BE a) t n o l m (by omega) F) ?_;conv=>cbv
 refine g2 rfl ?_;exact AD ⟨t3,t2,trivial⟩
theorem Py (G:DT TT R K S) (hu:TT u) (f:T1=tw u) (a:A1=em u x) (g:El u S x) (b:C=em u (-x)):CF 105 [.agg (AK T1 A1)] (.agg (AK T1 C)):=by
 refine AJ Tryz.func105 fun E d=>?_
 conv=>cbv
 refine AB d (Ke (G.BE hu) a g b) ?_;conv=>cbv
 refine g2 rfl ?_;exact AD ⟨t3,trivial⟩
theorem P6 (G:DT TT R K S) (hu:TT u) (h:TT v) (g:T1=tw u) (a:T2=tw v) (d:A1=em u x) (f:A2=em v y) (n:El u S x) (k:El v S y) (m:T=tw (Bf u v)) (l:C=em (Bf u v) (x-y)):CF 101 [.agg (AK T1 A1),.agg (AK T2 A2)] (.AF [(true,(AK T C)),(false,[.int .i64 0])]):=by
 refine AJ Tryz.func101 fun E j=>?_
 conv=>cbv
 obtain⟨o,b⟩:=C3 (em v (-y));refine AB j (Py G h a f k b) ?_;conv=>cbv
 refine AB j (Pv G hu h g a d b n (k.neg (G.BE h).red) m l) ?_;conv=>cbv
 refine g2 rfl ?_;exact AD ⟨t3,t2,trivial⟩
theorem Pz (G:DT TT R K S) (hu:TT u) (b:T1=tw u) (a:A1=em u x) (f:El u S x) (hc:c=BT x):CF 104 [.agg (AK T1 A1)] (.one (.int .i64 c)):=by
 refine AJ Tryz.func104 fun E d=>?_
 conv=>cbv
 refine AB d (dC (G.BE hu) b a f ((G.JN hu).mono (Nat.le_add_right _ _)).v0 hc) ?_;conv=>cbv
 exact AD ⟨t2,trivial⟩
theorem P0 (G:DT TT R K S) (hu:TT u) (b:T1=tw u) (a:A1=em u x) (j:El u S x) (hw:TT (BK u x)) (d:0<=x) (h:T=tw (BK u x)) (f:C=em (BK u x) (Re.sqrt x)):CF 106 [.agg (AK T1 A1)] (.AF [(true,(AK T C)),(false,[.int .i64 0])]):=by
 refine AJ Tryz.func106 fun E g=>?_
 conv=>cbv
 refine AB g (UZ (G.BE hu) (G.BE hw) (G.ht hw) b a j ((G.JN hu).mono (Nat.le_add_right _ _)) d h f) ?_;conv=>cbv
 refine AO ?_;conv=>cbv
 exact AD ⟨t3,t2,trivial⟩
theorem Ug (G:DT TT R K S) (hu:TT u) (m:TT v) (h:T1=tw u) (b:T2=tw v) (d:A1=em u x) (f:A2=em v y) (t:El u S x) (z:El v S y) {i:Re} (s:In v i) (k:y*i=1) (j:El v S i) (g:II v.length R S<=60000000000000) (o:T=tw (Bf u v)) (n:C=em (Bf u v) (x*i)):CF 103 [.agg (AK T1 A1),.agg (AK T2 A2)] (.AF [(true,(AK T C)),(false,[.int .i64 0])]):=by
 refine AJ Tryz.func103 fun E l=>?_
 conv=>cbv
 obtain⟨B,a⟩:=C3 (em v i);refine AB l (Nr (G.BE m) b f z s k g a) ?_;conv=>cbv
 refine AO ?_;conv=>cbv
 refine AB l (Px G hu m h b d a t j o n) ?_;conv=>cbv
 exact AD ⟨t3,t2,trivial⟩
theorem dH (G:DT TT R K S) (hu:TT u) (j:TT v) (h:T1=tw u) (b:T2=tw v) (f:A1=em u x) (a:A2=em v y) (k:El u S x) (l:El v S y) (d:y=0):CF 103 [.agg (AK T1 A1),.agg (AK T2 A2)] (.AF [(true,(AK [] [])),(false,[.int .i64 6])]):=by
 refine AJ Tryz.func103 fun E g=>?_
 conv=>cbv
 refine AB (r:= .AF [(false,[.sl AA []]),(false,[.int .i64 6])]) g (Uu (G.BE j) b (a.trans (by rw[d]))) ?_;conv=>cbv
 refine BG ?_;conv=>cbv
 exact AD ⟨⟨rfl,AU,AU,trivial⟩,t2,trivial⟩
theorem dG (G:DT TT R K S) (hu:TT u) (m:TT v) (h:T1=tw u) (j:T2=tw v) (f:A1=em u x) (g:A2=em v y) (t:El u S x) (z:El v S y) (B:DT TT R K2 S2) (D:2*(S+K)+1<=S2) (hc:c=BT (x-y)):CF 132 [.agg (AK T1 A1),.agg (AK T2 A2)] (.AF [(false,[.int .i64 c]),(false,[.int .i64 0])]):=by
 obtain⟨a,k,l⟩:=G.toGam.Bf hu m;have n:=G.CE hu a k t;have o:=G.CE m a l z;have hmul:=G.mul a;refine AJ Tryz.func132 fun E s=>?_
 conv=>cbv
 obtain⟨H,d⟩:=G4 (tw (Bf u v));obtain⟨F,b⟩:=C3 (em (Bf u v) (x-y));refine AB s (P6 G hu m h j f g t z d b) ?_;conv=>cbv
 refine AO ?_;conv=>cbv
 refine AB s (Pz B a d b ((n.sub (G.BE a).red o).mono (by omega)) hc) ?_;conv=>cbv
 exact AD ⟨t2,t2,trivial⟩
theorem dI (G:DT TT R K S) (hu:TT u) (n:TT v) (g:T1=tw u) (j:T2=tw v) (d:A1=em u x) (f:A2=em v y) (o:El u S x) (s:El v S y) (k:DT TT R K2 S2) (m:2*(S+K)+1<=S2) {c:Bool} (hc:c=true↔x=y):CF 27 [.agg (AK T1 A1),.agg (AK T2 A2)] (.one (.bool c)):=by
 refine AJ Tryz.func27 fun E l=>?_
 conv=>cbv
 obtain⟨z,a⟩:=xI (BT (x-y));refine AB l (dG G hu n g j d f o s k m a) ?_;conv=>cbv
 refine BG ?_;conv=>cbv
 intro t b;conv=>cbv
 exact AD ⟨⟨rfl,congrArg _ (by rw[Bool.eq_iff_iff,hc,b,beq_iff_eq,a,Gj];constructor <;> intro h <;> grind),trivial⟩,trivial⟩
theorem Nn {b1 b2:Bool} {l1 l2:List UInt32} (b:Bn q b1 l1 b2 l2) (a:C=em [] (Re.ofRat q)):CF 215 [.agg (B5 b1 l1 b2 l2)] (.agg (AK [] C)):=by
 refine AJ Tryz.func215 fun E d=>?_
 conv=>cbv
 refine⟨[((b1,l1),(b2,l2))],fun _=>⟨rfl,by decide,rfl,⟨rfl,by first | exact t1 | exact t2 | exact t4 | simp[BV,Bm,cells],trivial⟩⟩,.inr ?_⟩;try conv=>cbv
 exact AD ⟨⟨rfl,AU,congrArg _ (by rw[a,EJ,<-b.rp]),trivial⟩,trivial⟩
theorem Pw {x:Int} (f: -9223372036854775808<=x/\x<9223372036854775808) (d:C=em [] (Re.ofRat x)):CF 168 [.one (.int .i64 x)] (.agg (AK [] C)):=by
 refine AJ Tryz.func168 fun E b=>?_
 conv=>cbv
 obtain⟨j,k,g,h,a⟩:=CH (x:Rat);refine AB b (Fk f rfl a) ?_;conv=>cbv
 refine AB b (Nn a d) ?_;conv=>cbv
 exact AD ⟨t3,trivial⟩
theorem Uh {n d:Int} (j: -9223372036854775808<=n/\n<9223372036854775808) (h: -9223372036854775808<=d/\d<9223372036854775808) (f:d≠0) (k:q=Rat.divInt n d) (g:C=em [] (Re.ofRat q)):CF 98 [.one (.int .i64 n),.one (.int .i64 d)] (.agg (AK [] C)):=by
 refine AJ Tryz.func98 fun E b=>?_
 conv=>cbv
 obtain⟨o,s,l,m,a⟩:=CH q;refine AB b (Pt j h f k a) ?_;conv=>cbv
 refine AB b (Nn a g) ?_;conv=>cbv
 exact AD ⟨t3,trivial⟩
end Go.Abs
