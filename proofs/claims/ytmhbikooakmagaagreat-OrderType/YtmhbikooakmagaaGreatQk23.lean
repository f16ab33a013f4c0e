/- Part 24 of a proof. Conditions: each theorem's own. -/
import Derived.Test.YtmhbikooakmagaaGreatQk22
set_option linter.all false
set_option maxHeartbeats 8000000
set_option maxRecDepth 20000
open Go.Proofs
namespace Go.Abs
open Go.RowKit
variable {R i:Nat} {c:Bool} {u w:List (List Rat)}
theorem Vn {α:Type} {X Y:List α} {x y:α} (a:X[i]? =some x) (b:Y[i]? =some y) (h:X.take i=Y.take i) (e:x=y):X.take (i+1)=Y.take (i+1):=by
 rw[CE a,CE b,h,e]
theorem Vo {α:Type} {X Y:List α} {n:Nat} {x y:α} (d:X[i]? =some x) (f:Y[i]? =some y) (b:i<n) (e:x≠y):X.take n≠Y.take n:=by
 intro h;apply e;have a:(X.take n)[i]? =(Y.take n)[i]? :=by rw[h]
 rw[List.getElem?_take,List.getElem?_take,if_pos b,if_pos b,d,f] at a;exact Option.some.inj a
theorem Xw {X Y:LR} {xs ys:List Rat} (hX:X=Ad xs) (hY:Y=Ad ys) (hs:C4 xs) (ht:C4 ys) (B:c=decide (X=Y)):CF 238 [.one (.sl AA X),.one (.sl AA Y)] (.one (.bool c)):=by
 refine AJ Tryz.func238 fun E hE=>?_
 conv=>cbv
 rintro n7 ⟨e7,f7⟩;conv=>cbv
 rintro n9 ⟨e9,f9⟩;conv=>cbv
 intro L j;conv=>cbv
 cases L <;> conv=>cbv
 ·have H:=Cr j;refine .inr ?_;obtain⟨U,f⟩:=xJ fun vs W k=>∃(i':Nat) (i:Int),vs=[.one (.sl AA X),.one (.sl AA Y),.one (.int .i64 i)]/\(AQ i i'/\i'<=Y.length/\Y.length<=X.length)/\X.take i'=Y.take i'/\k=Y.length-i'
  refine⟨[],[0,1,5],[],U,⟨Y.length-0,by rw[f];exact⟨0,0,rfl,⟨An 0,by omega,by omega⟩,rfl,rfl⟩⟩,?_⟩;intro vs W a8 O;rw[f] at O;obtain⟨i',i,rfl,⟨hi,a2,z⟩,hinv,a5⟩:=O;conv=>cbv
  have ei:=hi.eq;rintro aa ⟨Z,f13⟩;conv=>cbv
  intro M m;conv=>cbv
  cases M <;> conv=>cbv
  ·have I:=AW m;have hl:X.length=Y.length:=by omega
   exact AD ⟨⟨rfl,congrArg _ (by rw[B,decide_eq_true];have:=hinv;rwa [List.take_of_length_le (by omega),List.take_of_length_le (by omega)] at this),trivial⟩,trivial⟩
  have I:=AY m;refine .inr ?_;obtain⟨g,a⟩:=AL (l:=X) (i:=i') (by omega);refine⟨g,fun _=>⟨by omega,by rw[show (i).toNat=i' by omega];exact a⟩,?_⟩;try conv=>cbv
  obtain⟨h,b⟩:=AL (l:=Y) (i:=i') (by omega);refine⟨h,fun _=>⟨by omega,by rw[show (i).toNat=i' by omega];exact b⟩,?_⟩;try conv=>cbv
  obtain⟨p,P,a6,F⟩:=GV hX hs a;obtain⟨q,Q,a7,G⟩:=GV hY ht b;have s:g=rp p:=P.rp.symm;have t:h=rp q:=Q.rp.symm;obtain⟨N,d⟩:=xI (E8 p q);refine AB hE (XJ P Q F G d) ?_;conv=>cbv
  intro n26 o;conv=>cbv
  refine g2 rfl ?_;cases n26 <;> conv=>cbv
  ·have J:=Cr o;intro n16 a1;conv=>cbv
   refine AH ?_;refine⟨Y.length-(i'+1),?_,?_⟩
   ·omega
   rw[f];exact⟨i'+1,n16,rfl,⟨⟨by omega⟩,by omega,z⟩,Vn a b hinv (by rw[s,t];congr 1;have:=NJ p q;rw[<-d,show N=0 by omega] at this;exact of_decide_eq_true this),rfl⟩
  have J:=Cs o;have D:g≠h:=fun e=>by have e2:=Ox (s.symm.trans (e.trans t));have:=NJ p q;rw[decide_eq_true e2,<-d] at this;simp at this;omega
  exact AD ⟨⟨rfl,congrArg _ (by rw[B,decide_eq_false];intro e;exact Vo (n:=i'+1) a b (by omega) D (by rw[e])),trivial⟩,trivial⟩
 have H:=Cs j;exact AD ⟨⟨rfl,congrArg _ (by rw[B,decide_eq_false];intro e;have:=congrArg List.length e;omega),trivial⟩,trivial⟩
theorem XV {X Y:List LR} (hu:Aa R u) (hw:Aa R w) (W:X=tw u) (Z:Y=tw w) (t:c=(decide (Y.length<=X.length)&&decide (X.take Y.length=Y))):CF 118 [.one (.sl (.sl AA) X),.one (.sl (.sl AA) Y)] (.one (.bool c)):=by
 refine AJ Tryz.func118 fun E U=>?_
 conv=>cbv
 rintro n7 ⟨e7,f7⟩;conv=>cbv
 rintro n9 ⟨e9,f9⟩;conv=>cbv
 intro I m;conv=>cbv
 cases I <;> conv=>cbv
 ·have F:=Bh m;refine .inr ?_;obtain⟨M,g⟩:=xJ fun vs O k=>∃(i':Nat) (i:Int),vs=[.one (.sl (.sl AA) X),.one (.sl (.sl AA) Y),.one (.int .i64 i)]/\(AQ i i'/\i'<=Y.length/\Y.length<=X.length)/\X.take i'=Y.take i'/\k=Y.length-i'
  refine⟨[],[0,1,5],[],M,⟨Y.length-0,by rw[g];exact⟨0,0,rfl,⟨An 0,by omega,by omega⟩,rfl,rfl⟩⟩,?_⟩;intro vs O a5 L;rw[g] at L;obtain⟨i',i,rfl,⟨hi,a1,s⟩,hinv,a2⟩:=L;conv=>cbv
  have ei:=hi.eq;rintro a6 ⟨P,f13⟩;conv=>cbv
  intro J o;conv=>cbv
  cases J <;> conv=>cbv
  ·have G:=AW o;exact AD ⟨⟨rfl,congrArg _ (by rw[t,decide_eq_true (show Y.length<=X.length by omega),decide_eq_true];rfl;rw[show Y.length=i' by omega,hinv,List.take_of_length_le (by omega)]),trivial⟩,trivial⟩
  have G:=AY o;refine .inr ?_;obtain⟨h,a⟩:=AL (l:=X) (i:=i') (by omega);refine⟨h,fun _=>⟨by omega,by rw[show (i).toNat=i' by omega];exact a⟩,?_⟩;try conv=>cbv
  obtain⟨j,b⟩:=AL (l:=Y) (i:=i') (by omega);refine⟨j,fun _=>⟨by omega,by rw[show (i).toNat=i' by omega];exact b⟩,?_⟩;try conv=>cbv
  obtain⟨p,hp,B⟩:=HZ W a;obtain⟨q,hq,D⟩:=HZ Z b;obtain⟨N,d⟩:=xB (decide (h=j));refine AB U (Xw hp hq ((hu.tb p (List.mem_reverse.1 (List.mem_of_getElem? B))).BT hu.hR) ((hw.tb q (List.mem_reverse.1 (List.mem_of_getElem? D))).BT hw.hR) d) ?_;conv=>cbv
  intro n26 f;conv=>cbv
  refine g2 rfl ?_;cases n26 <;> conv=>cbv
  ·have H:=C1 f;intro n16 Q;conv=>cbv
   refine AH ?_;refine⟨Y.length-(i'+1),?_,?_⟩
   ·omega
   rw[g];exact⟨i'+1,n16,rfl,⟨⟨by omega⟩,by omega,s⟩,Vn a b hinv (of_decide_eq_true (by rw[<-d];exact C1 f)),rfl⟩
  have H:=C2 f;have z:h≠j:=of_decide_eq_false (by rw[<-d];exact C2 f);exact AD ⟨⟨rfl,congrArg _ (by rw[t,decide_eq_false (p:=X.take Y.length=Y),Bool.and_false];intro e;exact Vo (n:=Y.length) a b (by omega) z (by rw[e,List.take_length])),trivial⟩,trivial⟩
 have F:=Bi m;exact AD ⟨⟨rfl,congrArg _ (by rw[t,decide_eq_false (show ¬Y.length<=X.length by omega)];rfl),trivial⟩,trivial⟩
theorem Kj {X Y:List LR} (hu:Aa R u) (hw:Aa R w) (a:X=tw u) (b:Y=tw w) (h:c=true↔w<:+u):CF 118 [.one (.sl (.sl AA) X),.one (.sl (.sl AA) Y)] (.one (.bool c)):=
 XV hu hw a b (by rw[Bool.eq_iff_iff,h,PC,Bool.and_eq_true,decide_eq_true_eq,decide_eq_true_eq,a,b])
theorem Mt {T:List LR} {A C:LR} {x:Re} (h:Aa R w) (hT:T=tw w) (X:A=em u x) (hx:In u x) (hu:u<:+w) (hC:C=em w x):CF 120 [.one (.sl (.sl AA) T),.one (.sl AA A)] (.one (.sl AA C)):=by
 have M:T.length=w.length:=by rw[hT,BN]
 have a6:=h.ht;have a5:A.length=2^u.length:=by rw[X,Aw hx]
 have P:=hu.length_le;have hle:2^u.length<=2^w.length:=CA P;have a1:=CT h.ht;have F:=SB hu h.red hx;refine AJ Tryz.func120 fun E hE=>?_
 conv=>cbv
 refine⟨[],fun _=>⟨rfl,by decide,rfl,trivial⟩,.inl ?_⟩;try conv=>cbv
 refine .inl ⟨A,fun _=>⟨rfl,rfl,rfl,by show (0+A.length)*64<=140737488355328;(try simp only[List.length_take,List.length_drop]);omega⟩,?_⟩;intro (H:LR) n8 G;have t:H=([]:LR)++(A:LR):=G.1;have O:n8=List.length (α:=(el AA)) H:=G.2;conv=>cbv
 refine .inr ?_;obtain⟨J0,s⟩:=xJ fun vs W k=>∃(o:LR) (mm j:Nat),vs=[.one (.sl (.sl AA) T),.one (.AN AA 6 0 0 mm)]/\W=[.arr 0 AA o]/\(mm=o.length/\o.length=2^u.length+j/\o.length<=2^w.length)/\o=A++List.replicate j (rp 0)/\k=2^w.length-o.length
 refine⟨[],[0,5],[6],J0,⟨2^w.length-H.length,by rw[s];exact⟨H,n8,0,rfl,rfl,⟨O,by rw[t];simp;omega,by rw[t];simp;omega⟩,by rw[t];simp,rfl⟩⟩,?_⟩;intro vs W ab Y;rw[s] at Y;obtain⟨o,mm,j,rfl,rfl,⟨B,a8,aa⟩,hinv,a7⟩:=Y;conv=>cbv
 intro ad J;have a2:=J.eq;conv=>cbv
 rintro ae ⟨I,f12⟩;conv=>cbv
 intro af L;conv=>cbv
 refine AG ?_;have Z:=(Dy L (I.trans (congrArg _ M))).eq;intro U z;conv=>cbv
 cases U <;> conv=>cbv
 ·have Q:=AW z;exact AD ⟨⟨rfl,.inl ⟨_,rfl,by omega,congrArg _ (by rw[hC,B,List.drop_zero,List.take_length,hinv,F,X,show j=2^w.length-2^u.length by omega])⟩,trivial⟩,trivial⟩
 have Q:=AY z;refine .inr ?_;obtain⟨f,g,b,d,m⟩:=BP (((0:Int):Rat));refine AB hE (D1 (by omega) rfl m) ?_;conv=>cbv
 refine⟨[((f,g),(b,d))],fun _=>⟨rfl,by decide,rfl,⟨rfl,by first | exact t1 | exact t2 | exact t4 | simp[Aj,Ar,cells],trivial⟩⟩,.inr ?_⟩;try conv=>cbv
 refine .inl ⟨[((f,g),(b,d))],fun _=>⟨rfl,B,rfl,by show (o.length+1)*64<=140737488355328;(try simp only[List.length_take,List.length_drop]);omega⟩,?_⟩;intro (a:LR) n18 n;have l:a=(o:LR)++([((f,g),(b,d))]:LR):=n.1;have D:n18=List.length (α:=(el AA)) a:=n.2;conv=>cbv
 have N:a.length=o.length+1:=by rw[l];simp
 refine⟨2^w.length-a.length,?_,?_⟩
 ·omega
 rw[s];exact⟨a,n18,j+1,rfl,rfl,⟨D,by omega,by omega⟩,by rw[l,hinv,List.replicate_succ',List.append_assoc,<-m.rp];rfl,rfl⟩
end Go.Abs
namespace Go.Abs
open Go.RowKit
structure Cg (T:List (List Rat)->Prop) (R C S:Nat):Prop extends Gam T R C S where
 Jg:∀{u},T u->De u.length R (S+C)
def QC (S:Nat) (w u:List (List Rat)):Prop:=∀{T RL:List LR} {A C:LR} {x:Re},T=tw w->EO w RL u->A=em u x->El u S x->C=em w x->
 CF 121 [.one (.sl (.sl AA) T),.one (.sl (.sl AA) RL),.one (.sl AA A)] (.one (.sl AA C))
def QD (S:Nat) (w u:List (List Rat)):Prop:=∀{T RL:List LR} {A C:LR} {x:Re} {mm:Nat},T=tw w->EO w RL u->mm=RL.length->A=em u x->El u S x->C=em w x->
 Cy Tryz.prog 121 [.one (.sl (.sl AA) T),.one (.AN (.sl AA) 0 0 0 mm),.one (.sl AA A)] (.arr 0 (.sl AA) RL) (.one (.sl AA C))
variable {A C:LR} {K R S mm:Nat} {RL T:List LR} {TT:List (List Rat)->Prop} {p x:Re} {q:Rat} {r:List Rat} {u w:List (List Rat)}
theorem Xa {u:List (List Rat)} {x:Re} (G:Gam TT R K S) (hw:TT w) (s:T=tw w) (k:A=em [] (Re.ofRat q)) (z:BX q) (n:C=em w (Re.ofRat q)):CF 121 [.one (.sl (.sl AA) T),.one (.sl (.sl AA) RL),.one (.sl AA A)] (.one (.sl AA C)):=by
 have d:A=[rp q]:=k.trans (DD q);have m:A.length=1:=by rw[d];rfl
 refine AJ Tryz.func121 fun E o=>?_
 conv=>cbv
 rintro t ⟨j,f12⟩;conv=>cbv
 intro g b;conv=>cbv
 cases g <;> conv=>cbv
 ·have f:=Ac b;exact absurd f (by omega)
 have f:=Ae b;obtain⟨h,a⟩:=AL (l:=A) (i:=0) (by omega);refine⟨h,fun _=>⟨by omega,a⟩,?_⟩;try conv=>cbv
 refine AB o (E3 (G.Af hw) s (Dw d a) n) ?_;conv=>cbv
 exact AD ⟨t2,trivial⟩
theorem Xb (G:Gam TT R K S) (hw:TT w) (Q:T=tw w) {q:Re} (hu:TT (r::u)) (b:BA (r::u) w) (ih:QC S w u) (hR:EO w RL (r::u)) (hA:A=em (r::u) x) (hx:El (r::u) S x) (o:x=p+q*rt u r) (U:El u S p) (M:El u S q) (hC:C=em w x):CF 121 [.one (.sl (.sl AA) T),.one (.sl (.sl AA) RL),.one (.sl AA A)] (.one (.sl AA C)):=by
 have n:=(G.Af hu).red;have z:A.length=2^u.length+2^u.length:=by rw[hA,Aw hx.mem,BM]
 have ax:=Cu u.length;have au:(r::u).length<=8:=G.ht hu;have ae:(r::u).length=u.length+1:=rfl;have hmul:=G.mul hw;have a:El w K (rt u r):=by have:=G.BQ hu hw b (IG n);rwa [Nat.zero_add] at this
 obtain⟨wk,a5,N,F⟩:=hR.2;obtain⟨rk,O⟩:=xR (em wk (rt u r));rw[<-O] at F;refine AJ Tryz.func121 fun E B=>?_
 conv=>cbv
 rintro aB ⟨ai,f12⟩;conv=>cbv
 intro aa s;conv=>cbv
 cases aa <;> conv=>cbv
 ·have P:=Ac s;rintro n20 ⟨aj,f20⟩;conv=>cbv
  intro n21 ao;conv=>cbv
  refine g2 ⟨by omega,by omega,i64 (by omega)⟩ ?_;refine .inr ?_;obtain⟨J0,j⟩:=xJ fun vs bl k=>∃(k':Nat) (W X:Int),vs=[.one (.sl (.sl AA) T),.one (.sl (.sl AA) RL),.one (.sl AA A),.one (.int .i64 W),.one (.int .i64 X)]/\bl=[]/\(AQ W (A.length/2)/\AQ X k'/\k'<=u.length)/\k=u.length-k'
  refine⟨[],[0,1,2,7,8],[],J0,⟨u.length-0,by rw[j];exact⟨0,n21,0,rfl,rfl,⟨⟨by omega⟩,An 0,by omega⟩,rfl⟩⟩,?_⟩;intro vs bl ay hj;rw[j] at hj;obtain⟨k',W,X,rfl,rfl,⟨D,a1,aw⟩,av⟩:=hj;conv=>cbv
  have al:=D.eq;have an:=a1.eq;intro n23 aq;conv=>cbv
  refine AH ?_;intro n24 Z;conv=>cbv
  refine AG ?_;rintro n26 ⟨ak,f26⟩;conv=>cbv
  have ag:=(Dy (k:=k'+1) Z (by omega)).eq;intro n27 t;conv=>cbv
  cases n27 <;> conv=>cbv
  ·have a6:=AW t;have a2:k'=u.length:=by have:=IS z (show ¬2^(k'+1)<A.length by omega);omega
   intro az af;conv=>cbv
   refine AG ?_;intro Y ad;conv=>cbv
   intro a7 I;conv=>cbv
   have l:a7=em u p:=by rw[I,List.drop_zero,show Y=A.length/2 by omega,hA,Br n U.mem M.mem o]
   obtain⟨aC,d⟩:=xR (em w (p));refine AB B (ih Q hR.1 l U d) ?_;conv=>cbv
   intro aA L;conv=>cbv
   refine AG ?_;rintro a40 ah ⟨ab,H⟩;conv=>cbv
   intro a8 J;conv=>cbv
   have m:a8=em u q:=by rw[J,show a40=A.length/2 by omega,H,L,List.take_length,hA,Bc n U.mem M.mem o]
   obtain⟨aD,f⟩:=xR (em w (q));refine AB B (ih Q hR.1 m M f) ?_;conv=>cbv
   refine g2 rfl ?_;refine⟨rk,fun _=>⟨by omega,by rw[show X.toNat=u.length by omega];exact F⟩,?_⟩;try conv=>cbv
   obtain⟨aE,g⟩:=xR (em w (rt u r));refine AB B (Mt (G.Af hw) Q O N a5 g) ?_;conv=>cbv
   obtain⟨aF,h⟩:=xR (em w (q*rt u r));refine AB B (C5 (G.Af hw) Q f g (G.BQ (G.sub hu) hw b.tail M) a (by omega) h) ?_;conv=>cbv
   refine AB (r:= .one (.sl AA C)) B (HR (G.Af hw) d h (G.BQ (G.sub hu) hw b.tail U) ((G.BQ (G.sub hu) hw b.tail M).mul (G.Af hw) a) (by omega) (by omega) (by rw[hC,o])) ?_;conv=>cbv
   exact AD ⟨t2,trivial⟩
  have a6:=AY t;refine .inr ?_;have a2:k'<u.length:=IT z (show 2^(k'+1)<A.length by omega);intro n29 ar;conv=>cbv
  refine AH ?_;refine⟨u.length-(k'+1),?_,?_⟩
  ·omega
  rw[j];exact⟨k'+1,W,n29,rfl,rfl,⟨D,⟨by omega⟩,by omega⟩,rfl⟩
 have P:=Ae s;exact absurd P (by omega)
theorem Xc {u:List (List Rat)} {x:Re} (t:mm=RL.length) (G:Gam TT R K S) (hw:TT w) (s:T=tw w) (k:A=em [] (Re.ofRat q)) (B:BX q) (n:C=em w (Re.ofRat q)):Cy Tryz.prog 121 [.one (.sl (.sl AA) T),.one (.AN (.sl AA) 0 0 0 mm),.one (.sl AA A)] (.arr 0 (.sl AA) RL) (.one (.sl AA C)):=by
 have d:A=[rp q]:=k.trans (DD q);have m:A.length=1:=by rw[d];rfl
 refine GR Tryz.func121 (by kernel_rfl) rfl fun E o=>?_
 conv=>cbv
 rintro z ⟨j,f12⟩;conv=>cbv
 intro g b;conv=>cbv
 cases g <;> conv=>cbv
 ·have f:=Ac b;exact absurd f (by omega)
 have f:=Ae b;obtain⟨h,a⟩:=AL (l:=A) (i:=0) (by omega);refine⟨h,fun _=>⟨by omega,a⟩,?_⟩;try conv=>cbv
 refine AB o (E3 (G.Af hw) s (Dw d a) n) ?_;conv=>cbv
 refine fun _=>⟨⟨⟨t2,trivial⟩,rfl,by simp⟩,rfl⟩
theorem Xd (U:mm=RL.length) (G:Gam TT R K S) (hw:TT w) (hT:T=tw w) {q:Re} (hu:TT (r::u)) (b:BA (r::u) w) (ih:QD S w u) (hR:EO w RL (r::u)) (hA:A=em (r::u) x) (hx:El (r::u) S x) (D:x=p+q*rt u r) (hp:El u S p) (W:El u S q) (hC:C=em w x):Cy Tryz.prog 121 [.one (.sl (.sl AA) T),.one (.AN (.sl AA) 0 0 0 mm),.one (.sl AA A)] (.arr 0 (.sl AA) RL) (.one (.sl AA C)):=by
 have z:=(G.Af hu).red;have J:A.length=2^u.length+2^u.length:=by rw[hA,Aw hx.mem,BM]
 have aC:=Cu u.length;have az:(r::u).length<=8:=G.ht hu;have ai:(r::u).length=u.length+1:=rfl;have hmul:=G.mul hw;have a:El w K (rt u r):=by have:=G.BQ hu hw b (IG z);rwa [Nat.zero_add] at this
 obtain⟨wk,aa,X,d⟩:=hR.2;obtain⟨rk,f⟩:=xR (em wk (rt u r));rw[<-f] at d;refine GR Tryz.func121 (by kernel_rfl) rfl fun E L=>?_
 conv=>cbv
 rintro aG ⟨ao,f12⟩;conv=>cbv
 intro ad H;conv=>cbv
 cases ad <;> conv=>cbv
 ·have Z:=Ac H;rintro n20 ⟨aq,f20⟩;conv=>cbv
  intro n21 aw;conv=>cbv
  refine g2 ⟨by omega,by omega,i64 (by omega)⟩ ?_;refine .inr ?_;obtain⟨J0,o⟩:=xJ fun vs bl k=>∃(k':Nat) (hv kk:Int),vs=[.one (.sl (.sl AA) T),.one (.AN (.sl AA) 0 0 0 mm),.one (.sl AA A),.one (.int .i64 hv),.one (.int .i64 kk)]/\bl=[.arr 0 (.sl AA) RL]/\(AQ hv (A.length/2)/\AQ kk k'/\k'<=u.length)/\k=u.length-k'
  refine⟨[],[0,1,2,7,8],[0],J0,⟨u.length-0,by rw[o];exact⟨0,n21,0,rfl,rfl,⟨⟨by omega⟩,An 0,by omega⟩,rfl⟩⟩,?_⟩;intro vs bl aD hj;rw[o] at hj;obtain⟨k',hv,kk,rfl,rfl,⟨M,a7,aB⟩,aA⟩:=hj;conv=>cbv
  have au:=M.eq;have av:=a7.eq;intro n23 ax;conv=>cbv
  refine AH ?_;intro n24 a6;conv=>cbv
  refine AG ?_;rintro n26 ⟨ar,f26⟩;conv=>cbv
  have al:=(Dy (k:=k'+1) a6 (by omega)).eq;intro n27 I;conv=>cbv
  cases n27 <;> conv=>cbv
  ·have ab:=AW I;have a8:k'=u.length:=by have:=IS J (show ¬2^(k'+1)<A.length by omega);omega
   intro aE ak;conv=>cbv
   refine AG ?_;intro a5 ah;conv=>cbv
   intro a1 O;conv=>cbv
   have s:a1=em u p:=by rw[O,List.drop_zero,show a5=A.length/2 by omega,hA,Br z hp.mem W.mem D]
   obtain⟨ae,g⟩:=xR (em w (p));refine .inr (.inr (.inl ⟨0,.arr 0 (.sl AA) RL,[.one (.sl (.sl AA) T),.one (.AN (.sl AA) 0 0 0 mm),.one (.sl AA a1)],.one (.sl AA ae),fun _=>⟨rfl,⟨rfl,⟨⟨rfl,rfl⟩,rfl⟩,rfl,trivial⟩⟩,fun _=>E2 L (ih hT hR.1 U s hp g),?_⟩));try conv=>cbv
   intro aF Q;conv=>cbv
   refine AG ?_;rintro a40 an ⟨ag,N⟩;conv=>cbv
   intro a2 P;conv=>cbv
   have t:a2=em u q:=by rw[P,show a40=A.length/2 by omega,N,Q,List.take_length,hA,Bc z hp.mem W.mem D]
   obtain⟨af,h⟩:=xR (em w (q));refine .inr (.inr (.inl ⟨0,.arr 0 (.sl AA) RL,[.one (.sl (.sl AA) T),.one (.AN (.sl AA) 0 0 0 mm),.one (.sl AA a2)],.one (.sl AA af),fun _=>⟨rfl,⟨rfl,⟨⟨rfl,rfl⟩,rfl⟩,rfl,trivial⟩⟩,fun _=>E2 L (ih hT hR.1 U t W h),?_⟩));try conv=>cbv
   refine g2 rfl ?_;refine⟨fun _=>⟨by omega,by have:=Ew d;omega⟩,?_⟩;intro Y aj;conv=>cbv
   obtain⟨F,n⟩:=AL (l:=RL) (i:=Y) (by have:=Ew d;omega);refine⟨F,fun _=>n,?_⟩;try conv=>cbv
   have B:F=rk:=by have:=n;rw[show Y=u.length by omega,d] at this;exact (Option.some.inj this).symm
   have f:F=em wk (rt u r):=B.trans f;obtain⟨aH,j⟩:=xR (em w (rt u r));refine AB L (Mt (G.Af hw) hT f X aa j) ?_;conv=>cbv
   obtain⟨aI,m⟩:=xR (em w (q*rt u r));refine AB L (C5 (G.Af hw) hT h j (G.BQ (G.sub hu) hw b.tail W) a (by omega) m) ?_;conv=>cbv
   refine AB (r:= .one (.sl AA C)) L (HR (G.Af hw) g m (G.BQ (G.sub hu) hw b.tail hp) ((G.BQ (G.sub hu) hw b.tail W).mul (G.Af hw) a) (by omega) (by omega) (by rw[hC,D])) ?_;conv=>cbv
   refine fun _=>⟨⟨⟨t2,trivial⟩,rfl,by simp⟩,rfl⟩
  have ab:=AY I;refine .inr ?_;have a8:k'<u.length:=IT J (show 2^(k'+1)<A.length by omega);intro n29 ay;conv=>cbv
  refine AH ?_;refine⟨u.length-(k'+1),?_,?_⟩
  ·omega
  rw[o];exact⟨k'+1,hv,n29,rfl,rfl,⟨M,⟨by omega⟩,by omega⟩,rfl⟩
 have Z:=Ae H;exact absurd Z (by omega)
theorem XY (G:Gam TT R K S) (hw:TT w):∀{u:List (List Rat)},TT u->BA u w->QC S w u:=by
 intro u
 induction u with
 | nil=>
  intro hu g T RL A C x h hR d a f;obtain⟨q,rfl⟩:=Bv.1 a.mem;have b:=a.BT (by have:=G.mul hw;omega);rw[Cp] at b;exact Xa (u:=[]) (x:=0) G hw h d (b q List.mem_cons_self) f
 | cons r u l=>
  intro hu g T RL A C x h hR d a f;obtain⟨p,q,j,k,b⟩:=El.parts (G.Af hu).red a;exact Xb G hw h hu g (l (G.sub hu) g.tail) hR d a j k b f
theorem XZ (G:Gam TT R K S) (hw:TT w):∀{u:List (List Rat)},TT u->BA u w->QD S w u:=by
 intro u
 induction u with
 | nil=>
  intro hu h T RL A C x mm j hR a f b g;obtain⟨q,rfl⟩:=Bv.1 b.mem;have d:=b.BT (by have:=G.mul hw;omega);rw[Cp] at d;exact Xc (u:=[]) (x:=0) a G hw j f (d q List.mem_cons_self) g
 | cons r u m=>
  intro hu h T RL A C x mm j hR a f b g;obtain⟨p,q,k,l,d⟩:=El.parts (G.Af hu).red b;exact Xd a G hw j hu h (m (G.sub hu) h.tail) hR f b k l d g
theorem Mr {U T2:List LR} {t:List (List Rat)} (G:Cg TT R K S) (ht:TT t) (hu:TT u) (hT:T=tw t) (hU:U=tw u) (a2:T2=tw (ext t u)) (Z:RL=DU t u):CF 119 [.one (.sl (.sl AA) T),.one (.sl (.sl AA) U)] (.AI [(false,[.sl (.sl AA) T2]),(false,[.sl (.sl AA) RL]),(false,[.int .i64 0])]):=by
 have ae:U.length=u.length:=by rw[hU,BN]
 have ai:=G.ht hu;have a1:=G.RS;refine AJ Tryz.func119 fun E hE=>?_
 conv=>cbv
 refine .inr ?_;obtain⟨J0,s⟩:=xJ fun vs bl k=>∃(Y o:List LR) (mm i':Nat) (i:Int),vs=[.one (.sl (.sl AA) Y),.one (.sl (.sl AA) U),.one (.AN (.sl AA) 7 0 0 mm),.one (.int .i64 i)]/\bl=[.arr 0 (.sl AA) o]/\(AQ i i'/\i'<=U.length/\mm=o.length)/\Y=tw (ext t (pre u i'))/\o=DU t (pre u i')/\k=U.length-i'
 refine⟨[(7,.sl AA,true)],[0,1,7,8],[7],J0,⟨U.length,by rw[s];exact⟨T,[],0,0,0,rfl,rfl,⟨An 0,Nat.zero_le _,rfl⟩,by rw[J5];exact hT,by rw[J5];rfl,rfl⟩⟩,?_⟩;intro vs bl aj hj;rw[s] at hj;obtain⟨Y,o,mm,i',i,rfl,rfl,⟨hi,af,D⟩,z,hinv,ag⟩:=hj;conv=>cbv
 have ei:=hi.eq;have ah:o.length<=U.length:=by rw[hinv,KE,HA (by omega)];omega
 rintro ak ⟨ab,f14⟩;conv=>cbv
 intro n15 J;conv=>cbv
 cases n15 <;> conv=>cbv
 ·have a8:=AW J;have N:pre u i'=u:=by rw[show i'=u.length by omega];exact UK u
  exact AD ⟨⟨rfl,congrArg _ (by rw[a2,z,N]),trivial⟩,⟨rfl,.inl ⟨_,rfl,by omega,congrArg _ (by rw[Z,D,List.drop_zero,List.take_length,hinv,N])⟩,trivial⟩,t2,trivial⟩
 have a8:=AY J;refine .inr ?_;obtain⟨I,m⟩:=AL (l:=U) (i:=i') (by omega);refine⟨I,fun _=>⟨by omega,by rw[show (i).toNat=i' by omega];exact m⟩,?_⟩;try conv=>cbv
 obtain⟨r,F,Q⟩:=Hk (u:=u) (i:=i') (by omega);have a:TT (pre u i'):=G.Ix (Io u i') hu;have b:TT (r::pre u i'):=F ▸ G.Ix (Io u (i'+1)) hu;have P:=(G.Af b).red;have a7:I=em (pre u i') (AM (pre u i') r):=by rw[<-hU,m] at Q;exact (Option.some.inj Q).trans (DR P)
 have d:TT (ext t (pre u i')):=G.ext ht a;have B:=(Hn (G.Af ht).red (G.Af a).red).2;have O:El (pre u i') S (AM (pre u i') r):=(El.CK (G.Af b)).mono a1;have W:TT (Ax (ext t (pre u i')) (AM (pre u i') r)):=G.Ax d b B;have a5:ext t (pre u (i'+1))=Ax (ext t (pre u i')) (AM (pre u i') r):=by rw[F];rfl
 have a6:DU t (pre u (i'+1))=DU t (pre u i')++[em (Ax (ext t (pre u i')) (AM (pre u i') r)) (Re.sqrt (AM (pre u i') r))]:=by rw[F];rfl
 obtain⟨aa,g⟩:=xR (em (ext t (pre u i')) (AM (pre u i') r));refine .inr (.inr (.inl ⟨7,.arr 0 (.sl AA) o,[.one (.sl (.sl AA) Y),.one (.AN (.sl AA) 0 0 0 mm),.one (.sl AA I)],.one (.sl AA aa),fun _=>⟨rfl,⟨rfl,⟨⟨rfl,rfl⟩,rfl⟩,rfl,trivial⟩⟩,fun _=>E2 hE (XZ G.toGam d a B z (by rw[hinv];exact KF (G.Af ht).red (G.Af a).red) D a7 O g),?_⟩));try conv=>cbv
 obtain⟨X,h⟩:=xV (tw (Ax (ext t (pre u i')) (AM (pre u i') r)));obtain⟨f,j⟩:=xR (em (Ax (ext t (pre u i')) (AM (pre u i') r)) (Re.sqrt (AM (pre u i') r)));refine AB (r:= .AI [(false,[.sl (.sl AA) X]),(false,[.sl AA f]),(false,[.int .i64 0])]) hE (P8 (G.Af d) (G.Af W) (G.ht W) z g (G.BQ a d B O) (G.Jg d) (by have:=P.2.2.1;grind) h j) ?_;try conv=>cbv
 refine Ai ?_;conv=>cbv
 refine⟨[f],fun _=>⟨rfl,by decide,rfl,⟨rfl,by first | exact t1 | exact t2 | exact t4 | simp[Aj,Ar,cells],trivial⟩⟩,.inr ?_⟩;try conv=>cbv
 refine .inl ⟨[f],fun _=>⟨rfl,D,rfl,by show (o.length+1)*24<=140737488355328;(try simp only[List.length_take,List.length_drop]);omega⟩,?_⟩;intro (H:List (el (.sl AA))) n38 n;have L:H=(o:List (el (.sl AA)))++([f]:List (el (.sl AA))):=n.1;have M:n38=List.length (α:=(el (.sl AA))) H:=n.2;conv=>cbv
 intro n17 ad;conv=>cbv
 refine AH ?_;refine⟨U.length-(i'+1),?_,?_⟩
 ·omega
 rw[s];exact⟨X,H,n38,i'+1,n17,rfl,rfl,⟨⟨by omega⟩,by omega,M⟩,by rw[h,a5],by rw[L,hinv,a6,j],rfl⟩
end Go.Abs
namespace Go.Abs
open Go.RowKit
theorem W8 {TT:List (List Rat)->Prop} {R K S:Nat} (G:Cg TT R K S) {L:List (el Ap)} {ns:List (List (List Rat)×Re)} (X:∀n∈ns,TT n.1) (hL:L=ns.map nm) (aC:∀n∈ns,El n.1 S n.2) (hlen:ns.length<=1000000) {O:List (el Ap)} (hO:O=ns.map (fun n=>nm (BO ns,n.2))):CF 23 [.one (.sl Ap L)] (.AI [(false,[.sl Ap O]),(false,[.int .i64 0])]):=by
 have b4:L.length=ns.length:=by rw[hL,List.length_map]
 have Q:TT (BO ns):=G.BO X;refine AJ Tryz.func23 fun E hE=>?_
 conv=>cbv
 refine .inr ?_;obtain⟨J0,F⟩:=xJ fun vs bl k=>∃(Ti:List LR) (i':Nat) (i:Int),vs=[.one (.sl Ap L),.one (.sl (.sl AA) Ti),.one (.int .i64 i)]/\bl=[]/\(AQ i i'/\i'<=L.length)/\Ti=tw (BO (ns.take i'))/\k=L.length-i'
 refine⟨[(4,.sl AA,false)],[0,4,5],[],J0,⟨L.length,by rw[F];exact⟨[],0,0,rfl,rfl,⟨An 0,by omega⟩,rfl,rfl⟩⟩,?_⟩;intro vs bl b8 hj;rw[F] at hj;obtain⟨Ti,i',i,rfl,rfl,⟨hi,aS⟩,h,b5⟩:=hj;conv=>cbv
 have ei:=hi.eq;have aT:(BO (ns.take i')).length=List.length (α:=LR) Ti:=by rw[h,BN]
 rintro n17 ⟨b2,f17⟩;conv=>cbv
 intro n18 az;conv=>cbv
 cases n18 <;> conv=>cbv
 ·have aU:=AW az;refine .inr ?_;obtain⟨J1,a8⟩:=xJ fun vs bl k=>∃(T:List LR) (o:List (el Ap)) (mm i':Nat) (i:Int),vs=[.one (.sl Ap L),.one (.sl (.sl AA) T),.one (.AN Ap 9 0 0 mm),.one (.int .i64 i)]/\bl=[.arr 0 Ap o]/\(AQ i i'/\i'<=L.length/\mm=o.length)/\T=tw (BO ns)/\o=(ns.take i').map (fun n=>nm (BO ns,n.2))/\k=L.length-i'
  refine⟨[(9,Ap,true)],[0,4,9,10],[9],J1,⟨L.length,by rw[a8];exact⟨Ti,[],0,0,0,rfl,rfl,⟨An 0,Nat.zero_le _,rfl⟩,by rw[h,List.take_of_length_le (show ns.length<=i' by omega)],rfl,rfl⟩⟩,?_⟩;intro vs bl b9 hj;rw[a8] at hj;obtain⟨T,o,mm,i',i,rfl,rfl,⟨hi,aS,ao⟩,hT,hinv,b6⟩:=hj;conv=>cbv
  have ei:=hi.eq;have b7:o.length<=L.length:=by rw[hinv,List.length_map,List.length_take];omega
  rintro ba ⟨b3,f69⟩;conv=>cbv
  intro aX aB;conv=>cbv
  cases aX <;> conv=>cbv
  ·have aW:=AW aB;exact AD ⟨⟨rfl,.inl ⟨_,rfl,by omega,congrArg _ (by rw[hO,ao,hinv,List.drop_zero,List.take_length,List.take_of_length_le (show ns.length<=i' by omega)])⟩,trivial⟩,t2,trivial⟩
  have aW:=AY aB;refine .inr ?_;obtain⟨a6,z⟩:=AL (l:=L) (i:=i') (by omega);refine⟨a6,fun _=>⟨by omega,by rw[show (i).toNat=i' by omega];exact z⟩,?_⟩;try conv=>cbv
  obtain⟨u,y,d,aq,P⟩:=GU hL z;have U:=List.mem_of_getElem? P;have hu:TT u:=X _ U;have ar:El u S y:=aC _ U;have aE:List.length (α:=LR) a6.1=u.length:=by rw[d,BN]
  have aD:BA u (BO ns):=NW G.toGam X _ U;obtain⟨wC,aa⟩:=xR (em (BO ns) y);obtain⟨aK,ab⟩:=D4 (u<:+BO ns);refine AB hE (Kj (G.Af Q) (G.Af hu) hT d ab) ?_;conv=>cbv
  refine .inr ?_;cases aK <;> conv=>cbv
  ·obtain⟨aJ,ai⟩:=AL (l:=L) (i:=i') (by omega);refine⟨aJ,fun _=>⟨by omega,by rw[show (i).toNat=i' by omega];exact ai⟩,?_⟩;try conv=>cbv
   have aQ:aJ=a6:=Option.some.inj (ai.symm.trans z);obtain⟨aY,aF⟩:=xV (tw (BO ns));obtain⟨aZ,ae⟩:=xV (DU (BO ns) u);have ad:=ext_eq (G.Af Q).red (G.Af hu).red aD;refine AB (r:= .AI [(false,[.sl (.sl AA) aY]),(false,[.sl (.sl AA) aZ]),(false,[.int .i64 0])]) hE (Mr G Q hu hT (by rw[aQ];exact d) (by rw[ad];exact aF) ae) ?_;try conv=>cbv
   obtain⟨aj,a1⟩:=AL (l:=L) (i:=i') (by omega);refine⟨aj,fun _=>⟨by omega,by rw[show (i).toNat=i' by omega];exact a1⟩,?_⟩;try conv=>cbv
   have ay:aj=a6:=Option.some.inj (a1.symm.trans z);refine AB (r:= .one (.sl AA wC)) hE (XY G.toGam Q hu aD hT (by rw[ae];have:=KF (G.Af Q).red (G.Af hu).red;rwa [ad] at this) (by rw[ay];exact aq) ar aa) ?_;try conv=>cbv
   refine⟨[(T,wC)],fun _=>⟨rfl,by decide,rfl,⟨rfl,by first | exact t1 | exact t2 | exact t4 | simp[Aj,Ar,cells],trivial⟩⟩,.inr ?_⟩;try conv=>cbv
   refine .inl ⟨[(T,wC)],fun _=>⟨rfl,ao,rfl,by show (o.length+1)*48<=140737488355328;(try simp only[List.length_take,List.length_drop]);omega⟩,?_⟩;intro (f:List (el Ap)) B g;have H:f=(o:List (el Ap))++([(T,wC)]:List (el Ap)):=g.1;have I:B=List.length (α:=(el Ap)) f:=g.2;conv=>cbv
   intro au aR;conv=>cbv
   refine AH ?_;refine⟨L.length-(i'+1),?_,?_⟩
   ·omega
   rw[a8];exact⟨T,f,B,i'+1,au,rfl,rfl,⟨⟨by omega⟩,by omega,I⟩,hT,by rw[H,hinv,CE P,List.map_append];simp[nm,hT,aa],rfl⟩
  obtain⟨aI,ah⟩:=AL (l:=L) (i:=i') (by omega);refine⟨aI,fun _=>⟨by omega,by rw[show (i).toNat=i' by omega];exact ah⟩,?_⟩;try conv=>cbv
  have aP:aI=a6:=Option.some.inj (ah.symm.trans z);refine AB (r:= .one (.sl AA wC)) hE (Mt (G.Af Q) hT (by rw[aP];exact aq) ar.mem (ab.1 rfl) aa) ?_;try conv=>cbv
  refine⟨[(T,wC)],fun _=>⟨rfl,by decide,rfl,⟨rfl,by first | exact t1 | exact t2 | exact t4 | simp[Aj,Ar,cells],trivial⟩⟩,.inr ?_⟩;try conv=>cbv
  refine .inl ⟨[(T,wC)],fun _=>⟨rfl,ao,rfl,by show (o.length+1)*48<=140737488355328;(try simp only[List.length_take,List.length_drop]);omega⟩,?_⟩;intro (f:List (el Ap)) B g;have H:f=(o:List (el Ap))++([(T,wC)]:List (el Ap)):=g.1;have I:B=List.length (α:=(el Ap)) f:=g.2;conv=>cbv
  intro au aR;conv=>cbv
  refine AH ?_;refine⟨L.length-(i'+1),?_,?_⟩
  ·omega
  rw[a8];exact⟨T,f,B,i'+1,au,rfl,rfl,⟨⟨by omega⟩,by omega,I⟩,hT,by rw[H,hinv,CE P,List.map_append];simp[nm,hT,aa],rfl⟩
 have aU:=AY az;refine .inr ?_;obtain⟨D,b⟩:=AL (l:=L) (i:=i') (by omega);refine⟨D,fun _=>⟨by omega,by rw[show (i).toNat=i' by omega];exact b⟩,?_⟩;try conv=>cbv
 obtain⟨u,y,d,aq,P⟩:=GU hL b;have U:=List.mem_of_getElem? P;have hu:TT u:=X _ U;have ar:El u S y:=aC _ U;have aE:List.length (α:=LR) D.1=u.length:=by rw[d,BN]
 have M:=Sw P;unfold DS at M
 dsimp only at M
 have Y:TT (BO (ns.take i')):=G.BO (fun n hn=>X n (List.mem_of_mem_take hn));rintro n26 ⟨aL,f26⟩;conv=>cbv
 have b1:n26=(u.length:Int):=aL.trans (congrArg (fun n:Nat=>(n:Int)) aE);rintro n28 ⟨aM,f28⟩;conv=>cbv
 have b0:n28=((BO (ns.take i')).length:Int):=aM.trans (congrArg (fun n:Nat=>(n:Int)) aT.symm);intro n29 aA;conv=>cbv
 cases n29 <;> conv=>cbv
 ·have aV:=Bh aA;refine .inr ?_;obtain⟨a2,s⟩:=AL (l:=L) (i:=i') (by omega);refine⟨a2,fun _=>⟨by omega,by rw[show (i).toNat=i' by omega];exact s⟩,?_⟩;try conv=>cbv
  have al:a2=D:=Option.some.inj (s.symm.trans b);obtain⟨ak,a⟩:=D4 (u<:+(BO (ns.take i')));refine AB (r:= .one (.bool ak)) hE (Kj (G.Af Y) (G.Af hu) h (by rw[al];exact d) a) ?_;try conv=>cbv
  intro C6 W;conv=>cbv
  refine .inr ?_;cases C6 <;> conv=>cbv
  ·have j:=C1 W;intro n20 a7;conv=>cbv
   refine AH ?_;refine⟨L.length-(i'+1),?_,?_⟩
   ·omega
   rw[F];exact⟨_,i'+1,n20,rfl,rfl,⟨⟨by omega⟩,by omega⟩,by rw[M,if_pos (a.1 j),<-h],rfl⟩
  have j:=C2 W;obtain⟨a5,t⟩:=AL (l:=L) (i:=i') (by omega);refine⟨a5,fun _=>⟨by omega,by rw[show (i).toNat=i' by omega];exact t⟩,?_⟩;try conv=>cbv
  have an:a5=D:=Option.some.inj (t.symm.trans b);obtain⟨av,m⟩:=xV (tw (ext (BO (ns.take i')) u));obtain⟨aw,Z⟩:=xV (DU (BO (ns.take i')) u);refine AB (r:= .AI [(false,[.sl (.sl AA) av]),(false,[.sl (.sl AA) aw]),(false,[.int .i64 0])]) hE (Mr G Y hu h (by rw[an];exact d) m Z) ?_;try conv=>cbv
  refine Ai ?_;conv=>cbv
  intro n20 a7;conv=>cbv
  refine AH ?_;refine⟨L.length-(i'+1),?_,?_⟩
  ·omega
  rw[F];exact⟨_,i'+1,n20,rfl,rfl,⟨⟨by omega⟩,by omega⟩,by rw[M,if_neg (fun q=>by have:=a.2 q;rw[j] at this;cases this),if_neg (fun J=>by first | (have:=N.2 J;cases this) | exact absurd (show u<:+BO (List.take i' ns) from by rw[J.eq_of_length_le (by omega)];exact List.suffix_refl _) (fun q=>by have:=a.2 q;rw[j] at this;cases this)),m],rfl⟩
 have aV:=Bi aA;obtain⟨aG,af⟩:=AL (l:=L) (i:=i') (by omega);refine⟨aG,fun _=>⟨by omega,by rw[show (i).toNat=i' by omega];exact af⟩,?_⟩;try conv=>cbv
 have aN:aG=D:=Option.some.inj (af.symm.trans b);obtain⟨ax,N⟩:=D4 ((BO (ns.take i'))<:+u);refine AB (r:= .one (.bool ax)) hE (Kj (G.Af hu) (G.Af Y) (by rw[aN];exact d) h N) ?_;try conv=>cbv
 refine .inr ?_;cases ax <;> conv=>cbv
 ·obtain⟨a2,s⟩:=AL (l:=L) (i:=i') (by omega);refine⟨a2,fun _=>⟨by omega,by rw[show (i).toNat=i' by omega];exact s⟩,?_⟩;try conv=>cbv
  have al:a2=D:=Option.some.inj (s.symm.trans b);obtain⟨ak,a⟩:=D4 (u<:+(BO (ns.take i')));refine AB (r:= .one (.bool ak)) hE (Kj (G.Af Y) (G.Af hu) h (by rw[al];exact d) a) ?_;try conv=>cbv
  intro C6 W;conv=>cbv
  refine .inr ?_;cases C6 <;> conv=>cbv
  ·have j:=C1 W;intro n20 a7;conv=>cbv
   refine AH ?_;refine⟨L.length-(i'+1),?_,?_⟩
   ·omega
   rw[F];exact⟨_,i'+1,n20,rfl,rfl,⟨⟨by omega⟩,by omega⟩,by rw[M,if_pos (a.1 j),<-h],rfl⟩
  have j:=C2 W;obtain⟨a5,t⟩:=AL (l:=L) (i:=i') (by omega);refine⟨a5,fun _=>⟨by omega,by rw[show (i).toNat=i' by omega];exact t⟩,?_⟩;try conv=>cbv
  have an:a5=D:=Option.some.inj (t.symm.trans b);obtain⟨av,m⟩:=xV (tw (ext (BO (ns.take i')) u));obtain⟨aw,Z⟩:=xV (DU (BO (ns.take i')) u);refine AB (r:= .AI [(false,[.sl (.sl AA) av]),(false,[.sl (.sl AA) aw]),(false,[.int .i64 0])]) hE (Mr G Y hu h (by rw[an];exact d) m Z) ?_;try conv=>cbv
  refine Ai ?_;conv=>cbv
  intro n20 a7;conv=>cbv
  refine AH ?_;refine⟨L.length-(i'+1),?_,?_⟩
  ·omega
  rw[F];exact⟨_,i'+1,n20,rfl,rfl,⟨⟨by omega⟩,by omega⟩,by rw[M,if_neg (fun q=>by have:=a.2 q;rw[j] at this;cases this),if_neg (fun J=>by first | (have:=N.2 J;cases this) | exact absurd (show u<:+BO (List.take i' ns) from by rw[J.eq_of_length_le (by omega)];exact List.suffix_refl _) (fun q=>by have:=a.2 q;rw[j] at this;cases this)),m],rfl⟩
 obtain⟨aH,ag⟩:=AL (l:=L) (i:=i') (by omega);refine⟨aH,fun _=>⟨by omega,by rw[show (i).toNat=i' by omega];exact ag⟩,?_⟩;try conv=>cbv
 have aO:aH=D:=Option.some.inj (ag.symm.trans b);intro n20 a7;conv=>cbv
 refine AH ?_;refine⟨L.length-(i'+1),?_,?_⟩
 ·omega
 rw[F];exact⟨_,i'+1,n20,rfl,rfl,⟨⟨by omega⟩,by omega⟩,by rw[M,if_neg (fun J=>by have:=J.length_le;omega),if_pos (N.1 rfl),aO];exact d,rfl⟩
end Go.Abs
namespace Go.Abs
abbrev Nu:=List (List Rat)×Re
def CG (q:Rat):Prop:=q.num.natAbs<18446744073709551616/\q.den<18446744073709551616
theorem Ry:∀{a:List Rat},(∀q∈a,CG q)->∃D:Nat,0<D/\D<=2^(64*a.length)/\DN D a
 | [],_=>⟨1,by decide,by simp,fun q d=>by simp at d⟩
 | q::a,h=>by
  obtain⟨D,f,g,j⟩:=Ry (a:=a) (fun x b=>h x (List.mem_cons_of_mem _ b));have d:=(h q List.mem_cons_self).2;refine⟨q.den*D,Nat.mul_pos q.den_pos f,?_,fun x b=>?_⟩
  ·have:=Nat.mul_le_mul (show q.den<=2^64 by omega) g;rw[<-Nat.pow_add] at this;rw[List.length_cons,show 64*(a.length+1)=64+64*a.length by omega];exact this
  rcases List.mem_cons.1 b with rfl | b
  ·refine⟨x.num*D,?_⟩;rw[Rat.intCast_mul,<-Ip x,FM];have:((D:Int):Rat)=(D:Rat):=rfl
   grind
  exact j.dvd ⟨q.den,by grind⟩ x b
theorem bF {q:Rat} {B:Nat} (h:q.num.natAbs<=B): -(B:Rat)<=q/\q<=B:=by
 have g:1<=q.den:=q.den_pos;have j:B*1<=B*q.den:=Nat.mul_le_mul_left B g
 have key:q.num<=(B:Int)*q.den/\ -((B:Int)*q.den)<=q.num:=by
  have:((B*q.den:Nat):Int)=(B:Int)*q.den:=Int.natCast_mul _ _;omega
 have e:=Ip q
 have d:(0:Rat)<q.den:=by
  have:((0:Nat):Rat)<(q.den:Rat):=Rat.natCast_lt_natCast.2 q.den_pos;simpa using this
 have k1:(q.num:Rat)<=(B:Rat)*q.den:=by
  have:=Rat.intCast_le_intCast.2 key.1;rw[Rat.intCast_mul] at this;exact this
 have k2: -((B:Rat)*q.den)<=(q.num:Rat):=by
  have:=Rat.intCast_le_intCast.2 key.2;rw[Rat.intCast_neg,Rat.intCast_mul] at this;exact this
 rw[<-e] at k1 k2
 constructor
 ·apply Classical.byContradiction;intro f;have:=Rat.mul_pos (a:= -(B:Rat)-q) (b:=q.den) (by grind) d
  grind
 apply Classical.byContradiction;intro f;have:=Rat.mul_pos (a:=q-(B:Rat)) (b:=q.den) (by grind) d
 grind
theorem Kw {a:List Rat} (h:∀q∈a,CG q):Bd (64*a.length) a:=by
 obtain⟨D,d,f,g⟩:=Ry h;refine⟨D,d,f,g,fun q b=>?_⟩;have j:1<=a.length:=List.length_pos_of_mem b;exact bF (Nat.le_trans (Nat.le_of_lt (h q b).1) (show 2^64<=2^(64*a.length) from CA))
structure BU (V:List Re) (n:Nu):Prop where
 red:AS n.1
 mem:In n.1 n.2
 Aq:∀v∈Aq n.1,v∈V
 F6:∀s∈n.1,∀q∈s,CG q
 cos:∀q∈co n.1 n.2,CG q
theorem BU.mono {V a:List Re} {n:Nu} (h:BU V n) (hV:∀v∈V,v∈a):BU a n:=⟨h.red,h.mem,fun v b=>hV v (h.Aq v b),h.F6,h.cos⟩
theorem BU.len {V:List Re} {n:Nu} (h:BU V n):n.1.length<=V.length:=by rw[<-I6];exact Ig (HJ h.red) h.Aq
theorem Oh:∀{u:List (List Rat)} {r:List Rat},AS u->r∈u->2*r.length<=2^u.length
 | [],_,_,h=>by simp at h
 | s::u,r,h,a=>by
  rw[BM];rcases List.mem_cons.1 a with rfl | a
  ·rw[h.2.1];omega
  have:=Oh h.1 a;omega
theorem V5 {u w:List (List Rat)} (h:u<:+w):∀v∈Aq u,v∈Aq w:=by
 obtain⟨t,rfl⟩:=h
 induction t with
 | nil=>exact fun v a=>a
 | cons r t b=>exact fun v a=>List.mem_cons_of_mem _ (b v a)
def PN (ns:List Nu) (u:List (List Rat)):Prop:=∃n∈ns,u<:+n.1
section
variable {V:List Re} {ns:List Nu}
theorem UI {k:Nat} (h:k<=3):2^k<=8:=CA h
theorem PN.Gw (hV:V.length<=3) (h:∀n∈ns,BU V n):DO (PN ns) 256:=by
 refine⟨fun {u} ⟨n,a,d⟩=>UZ d (h n a).red,fun {u} ⟨n,a,d⟩=>fun r f=>?_,fun {r u} ⟨n,a,d⟩=>⟨n,a,(List.suffix_cons r u).trans d⟩⟩;have b:=d.subset f;have g:=Oh (h n a).red b;have j:=UI (Nat.le_trans (h n a).len hV);exact (Kw ((h n a).F6 r b)).mono (by omega)
theorem PN.Aq (h:∀n∈ns,BU V n) {u:List (List Rat)} (hu:PN ns u):∀v∈Aq u,v∈V:=by
 obtain⟨n,a,b⟩:=hu;exact fun v d=>(h n a).Aq v (V5 b v d)
theorem PN.self {n:Nu} (a:n∈ns):PN ns n.1:=⟨n,a,List.suffix_refl _⟩
end
theorem BU.el {V:List Re} {n:Nu} (h:BU V n) (hV:V.length<=3):El n.1 512 n.2:=by
 refine⟨h.mem,(Kw h.cos).mono ?_⟩;have a:=UI (Nat.le_trans h.len hV);rw[B6 h.mem];omega
abbrev Rm:Nat:=93478
abbrev Cm:Nat:=53200000
abbrev Sm:Nat:=500000000000
theorem cz:RR 256 3<=Rm:=by decide +kernel
theorem Y5:CC 3 Rm 3 Rm<=Cm:=by decide +kernel
theorem Zh:∀h,h<=3->Fit h Rm (Sm+Cm)
 |0,_|1,_|2,_|3,_=>⟨by decide +kernel,by decide +kernel,by decide +kernel,by decide +kernel⟩
 | _+4,h=>absurd h (by omega)
theorem Zf:∀h,h<=3->De h Rm (Sm+Cm)
 |0,_|1,_|2,_|3,_=>⟨by decide +kernel,by decide +kernel,by decide +kernel,by decide +kernel⟩
 | _+4,h=>absurd h (by omega)
theorem a8:2*(Sm+Cm)+EE 3 Rm<=60000000000000:=by decide +kernel
theorem SN {P:List (List Rat)->Prop} (I:DO P 256) (hm:∀{u},Tf P u->u.length<=3) {S:Nat} (a:Rm<=S) (d:S<=Sm):Cg (Tf P) Rm Cm S:=
 {Tf.Nh I hm cz a Y5 (fun h b=>(Zh h b).mono (by omega)) (Nat.le_trans (by omega) a8) with Jg:=fun {u} hu=>(Zf _ (hm hu)).mono (by omega)}
open Classical in
noncomputable def FU (x:Re):Re:=if h:x≠0 then Classical.choose (Re.Jk h) else 0
theorem Nw {x:Re} (h:x≠0):x*FU x=1:=by
 unfold FU;rw[dif_pos h];exact Classical.choose_spec (Re.Jk h)
theorem Nr {u:List (List Rat)} {x:Re} (hu:AS u) (d:In u x) (a:x≠0):In u (FU x):=by
 obtain⟨y,f,e⟩:=D8 hu d a;have b:=Nw a
 rw[show FU x=y by
  have:FU x=FU x*(x*y):=by rw[e];grind
  rw[this];have:FU x*(x*y)=(x*FU x)*y:=by grind
  rw[this,b];grind]
 exact f
open Classical in
noncomputable def Co (x:Re):Re:=if x<0 then -x else x
theorem H4 (x:Re):0<=Co x:=by unfold Co;split <;> grind
theorem Se {u:List (List Rat)} {x:Re} (a:In u x):In u (Co x):=by unfold Co;split;exact FQ a;exact a
open Classical in
noncomputable def Es (n:Nu):Nu:=if h:AS n.1/\In n.1 n.2 then (Classical.choose (PJ h.1 h.2 (Nat.le_refl _)),n.2) else n
theorem PI {n:Nu} (a:AS n.1) (b:In n.1 n.2):Fi n.1.length (n.1.reverse,co n.1 n.2)=((Es n).1.reverse,co (Es n).1 (Es n).2)/\GH n.1 n.2 (Es n).1/\(Es n).2=n.2:=by
 unfold Es;rw[dif_pos ⟨a,b⟩];have:=Classical.choose_spec (PJ a b (Nat.le_refl _));exact⟨this.1,this.2,rfl⟩
def Gl (n:Nu):Prop:=(∃q∈co n.1 n.2,¬CG q)\/∃s∈n.1,∃q∈s,¬CG q
noncomputable def DI (k:Nat) (a b:Nu) (roots:Nat):Nu×Nat:=by
 classical
 exact if k=1 then ((As a.1 b.1,a.2+b.2),roots)
 else if k=2 then ((As a.1 b.1,a.2-b.2),roots)
 else if k=3 then ((As a.1 b.1,a.2*b.2),roots)
 else if k=4 then (if b.2=0 then a else (As a.1 b.1,a.2*FU b.2),roots)
 else if roots<3 then ((Ax a.1 (Co a.2),Re.sqrt (Co a.2)),roots+1) else (a,roots)
def GB:Nu:=([],0)
noncomputable def Bw (l:List Nu) (i:Nat):Nu:=l.getD (i%l.length) GB
def Hs (n:Int):Int:=(n+9223372036854775808)%18446744073709551616-9223372036854775808
theorem PS (n:Int): -9223372036854775808<=Hs n/\Hs n<9223372036854775808:=by unfold Hs;omega
def FC (o:el Bo):Rat:=Rat.divInt (Hs o.2.2.2.1) ((o.2.2.2.2.toNat%8+1:Nat):Int)
noncomputable def CY (st:List Nu×Nat) (o:el Bo):Nu×Nat:=by
 classical
 exact if st.1=[]\/o.1.toNat%6=0 then (([],Re.ofRat (FC o)),st.2) else DI (o.1.toNat%6) (Bw st.1 o.2.1.toNat) (Bw st.1 o.2.2.1.toNat) st.2
noncomputable def Ej (l:List Nu) (x:Nu):Nu:=by
 classical
 exact if l≠[]/\Gl x then l.getLastD GB else x
noncomputable def Gi (st:List Nu×Nat) (o:el Bo):List Nu×Nat:=(st.1++[Es (Ej st.1 (CY st o).1)],(CY st o).2)
noncomputable def runN (xs:List (el Bo)):List Nu×Nat:=xs.foldl Gi ([],0)
theorem Us (xs:List (el Bo)) (o:el Bo):runN (xs++[o])=Gi (runN xs) o:=by rw[runN,List.foldl_append];rfl
def Hw (st:List Nu×Nat):Prop:=st.2<=3/\∃V:List Re,V.length<=st.2/\∀n∈st.1,BU V n
theorem BU.trim {V:List Re} {n:Nu} (h:BU V n):BU V (Es n):=by
 obtain⟨_,t,e⟩:=PI h.red h.mem;refine⟨t.red,by rw[e];exact t.mem,fun v g=>h.Aq v (t.Aq v g),fun s f q a=>?_,fun q a=>?_⟩
 ·obtain⟨j,d,b⟩:=t.F6 s f q a;exact h.F6 j d q b
 rw[e] at a;exact h.cos q (t.cos q a)
theorem BU.bf {V:List Re} {n:Nu} (d:AS n.1) (f:In n.1 n.2) (h3:∀v∈Go.Abs.Aq n.1,v∈V) (h:¬Gl n):BU V n:=
 ⟨d,f,h3,fun s g q b=>Classical.byContradiction fun a=>h (.inr ⟨s,g,q,b,a⟩),fun q b=>Classical.byContradiction fun a=>h (.inl ⟨q,b,a⟩)⟩
theorem Ni {l:List Nu} (h:l≠[]) (i:Nat):Bw l i∈l:=by
 have:i%l.length<l.length:=Nat.mod_lt _ (List.length_pos_iff.2 h);unfold Bw;rw[List.getD_eq_getElem?_getD,List.getElem?_eq_getElem this];exact List.getElem_mem this
theorem aW {l:List Nu} (h:l≠[]):l.getLastD GB∈l:=by
 cases l with
 | nil=>exact absurd rfl h
 | cons a l=>rw[List.getLastD_cons];cases l with
  | nil=>exact List.mem_cons_self
  | cons b l=>rw[List.getLastD_eq_getLast?];exact List.mem_cons_of_mem _ (by
   rw[List.getLast?_eq_some_getLast (by simp)];exact List.getLast_mem _)
section
variable {V:List Re} {ns:List Nu}
theorem HY (hV:V.length<=3) (h:∀n∈ns,BU V n) {S:Nat} (a:Rm<=S) (b:S<=Sm:=by first|omega|decide):Cg (Tf (PN ns)) Rm Cm S:=
 SN (PN.Gw hV h) (fun {u} hu=>Nat.le_trans (hu.len (PN.Gw hV h) (fun d=>PN.Aq h d)) hV) a b
theorem EU (hV:V.length<=3) (h:∀n∈ns,BU V n) {n:Nu} (a:n∈ns):Tf (PN ns) n.1:=Tf.of (PN.Gw hV h) (PN.self a)
structure JB (V:List Re) (n:Nu):Prop where
 red:AS n.1
 mem:In n.1 n.2
 Aq:∀v∈Aq n.1,v∈V
theorem JB.Lw (hV:V.length<=3) (h:∀n∈ns,BU V n) {n:Nu} (ht:Tf (PN ns) n.1) (hm:In n.1 n.2):JB V n:=
 ⟨ht.red (PN.Gw hV h),hm,ht.Aq (PN.Gw hV h) (fun a=>PN.Aq h a)⟩
theorem BU.Uh {n:Nu} (h:BU V n):JB V n:=⟨h.red,h.mem,h.Aq⟩
theorem Zc (hV:V.length<=3) (h:∀n∈ns,BU V n) {a b:Nu} (ha:a∈ns) (hb:b∈ns):Tf (PN ns) (As a.1 b.1)/\In (As a.1 b.1) a.2/\In (As a.1 b.1) b.2:=by
 have G:=(HY hV h (Nat.le_refl Rm)).toGam;obtain⟨d,f,h3⟩:=G.As (EU hV h ha) (EU hV h hb);exact⟨d,f _ (h a ha).mem,h3 _ (h b hb).mem⟩
theorem V4 {u:List (List Rat)} {v:Re} (d:In u v):∀x∈Aq (Ax u v),x=v\/x∈Aq u:=by
 by_cases b:Sq u v
 ·rw[Ec b];exact fun x a=> .inr a
 rw[Ed b];intro x a;rcases List.mem_cons.1 a with rfl | a
 ·exact .inl (Dk d)
 exact .inr a
theorem UU {u:List (List Rat)} {v:Re} (h:AS u) (a:In u v) (d:0<=v):AS (Ax u v):=by
 by_cases b:v=0
 ·subst b;rw[Ec ⟨0,Bl u,by grind⟩];exact h
 exact Ol h a (by grind)
theorem J7 {st:List Nu×Nat} (h:Hw st) (o:el Bo):(CY st o).2<=3/\∃V,V.length<=(CY st o).2/\(∀n∈st.1,BU V n)/\JB V (CY st o).1:=by
 obtain⟨h3,V,hV,d⟩:=h;have f:=Nat.le_trans hV h3;unfold CY
 split
 ·exact⟨h3,V,hV,d,trivial,⟨[FC o],rfl,rfl⟩,fun v j=>by simp[Go.Abs.Aq] at j⟩
 rename_i B
 have k:st.1≠[]:=fun e=>B (.inl e)
 have ha:=Ni k o.2.1.toNat;have hb:=Ni k o.2.2.1.toNat
 generalize Bw st.1 o.2.1.toNat=a at*
 generalize Bw st.1 o.2.2.1.toNat=b at*
 obtain⟨l,m,s⟩:=Zc f d ha hb;have z:=l.red (PN.Gw f d);unfold DI
 split
 ·exact⟨h3,V,hV,d,.Lw f d l (CQ m s)⟩
 split
 ·exact⟨h3,V,hV,d,.Lw f d l (D9 m s)⟩
 split
 ·exact⟨h3,V,hV,d,.Lw f d l (Ag z m s)⟩
 split
 ·refine⟨h3,V,hV,d,?_⟩
  dsimp only
  split
  ·exact (d a ha).Uh
  rename_i t
  exact .Lw f d l (Ag z m (Nr z s t))
 split
 ·rename_i D
  have g:=Se (d a ha).mem;refine⟨by show st.2+1<=3;omega,Co a.2::V,by show _+1<=st.2+1;omega,fun n hm=>(d n hm).mono fun v j=>List.mem_cons_of_mem _ j,UU (d a ha).red g (H4 _),Qk g (H4 _),fun v j=>?_⟩;rcases V4 g v j with rfl | j
  ·exact List.mem_cons_self
  exact List.mem_cons_of_mem _ ((d a ha).Aq v j)
 exact⟨h3,V,hV,d,(d a ha).Uh⟩
end
theorem dU {n:Int} {d:Nat} (b:n.natAbs<18446744073709551616) (f:0<d) (a:d<18446744073709551616):CG (Rat.divInt n d):=by
 have e:(Rat.divInt n d)=mkRat n d:=Rat.divInt_ofNat n d;rw[e]
 constructor
 ·have:=Rat.num_mkRat n d;rw[this]
  split
  ·simp
  refine Nat.lt_of_le_of_lt ?_ b;exact Int.natAbs_ediv_le_natAbs _ _
 have:=Rat.den_mkRat n d;rw[this]
 split
 ·decide
 exact Nat.lt_of_le_of_lt (Nat.div_le_self _ _) a
theorem N0 {V:List Re} {l:List Nu} {x:Nu} (f:∀n∈l,BU V n) (a:JB V x) (d:l=[]->¬Gl x):BU V (Ej l x):=by
 unfold Ej
 split
 ·rename_i h;exact f _ (aW h.1)
 rename_i h
 refine .bf a.red a.mem a.Aq fun b=>?_
 by_cases he:l=[]
 ·exact d he b
 exact h ⟨he,b⟩
theorem Ok (o:el Bo):¬Gl ([],Re.ofRat (FC o)):=by
 have f:CG (FC o):=dU (by have:=PS o.2.2.2.1;omega) (by omega) (by omega);rintro (⟨q,d,b⟩ |⟨s,a,_⟩)
 ·rw[Cp] at d;rw[List.mem_singleton.1 d] at b;exact b f
 simp at a
theorem eO {st:List Nu×Nat} (h:Hw st) (o:el Bo):Hw (Gi st o):=by
 obtain⟨b,V,d,h3,f⟩:=J7 h o;refine⟨b,V,d,fun n a=>?_⟩;rcases List.mem_append.1 a with a | a
 ·exact h3 n a
 rw[List.mem_singleton.1 a];refine (N0 h3 f fun he=>?_).trim;have:(CY st o).1=([],Re.ofRat (FC o)):=by unfold CY;rw[if_pos (.inl he)]
 rw[this];exact Ok o
theorem Uz:∀{xs:List (el Bo)} {st:List Nu×Nat},Hw st->Hw (xs.foldl Gi st)
 | [],_,h=>h
 | o::xs,_,h=>Uz (xs:=xs) (eO h o)
theorem Oy (xs:List (el Bo)):Hw (runN xs):=Uz ⟨by decide,[],by simp,by simp⟩
end Go.Abs
namespace Go.Abs
open Go.RowKit
variable {A1 A2 C:LR} {K K2 R S S2:Nat} {T T1 T2:List LR} {TT:List (List Rat)->Prop} {c:Int} {q:Rat} {u v:List (List Rat)} {x y:Re}
theorem Qa (G:Cg TT R K S) (hu:TT u) (N:TT v) (m:T1=tw u) (o:T2=tw v) (j:A1=em u x) (k:A2=em v y) (P:El u S x) (Q:El v S y) {A B:LR} (M:T=tw (As u v)) (H:A=em (As u v) x) (I:B=em (As u v) y):CF 216 [.agg (Ab T1 A1),.agg (Ab T2 A2)] (.AI [(true,(Ab T A)),(true,(Ab T B)),(false,[.int .i64 0])]):=by
 obtain⟨O,h⟩:∃z:List (el Ap),z=[(T,A),(T,B)]:=⟨_,rfl⟩
 have L:O.length=2:=by rw[h];rfl
 have D:O[0]? =some (T,A):=by rw[h];rfl
 have F:O[1]? =some (T,B):=by rw[h];rfl
 refine AJ Tryz.func216 fun E J=>?_
 conv=>cbv
 refine⟨[(T1,A1),(T2,A2)],fun _=>⟨rfl,by decide,rfl,⟨rfl,by first | exact t1 | exact t2 | exact t4 | simp[Aj,Ar,cells],⟨rfl,by first | exact t1 | exact t2 | exact t4 | simp[Aj,Ar,cells],trivial⟩⟩⟩,.inr ?_⟩;try conv=>cbv
 refine AB (r:= .AI [(false,[.sl Ap O]),(false,[.int .i64 0])]) J (W8 (ns:=[(u,x),(v,y)]) G (by intro n g;simp at g;rcases g with rfl | rfl;exact hu;exact N) (by rw[m,o,j,k];rfl) (by intro n g;simp at g;rcases g with rfl | rfl;exact P;exact Q) (by show 2<=1000000;decide) (by rw[h,M,H,I];rfl)) ?_;try conv=>cbv
 refine Ai ?_;conv=>cbv
 obtain⟨s,a⟩:=AL (l:=O) (i:=0) (by omega);refine⟨s,fun _=>⟨by omega,a⟩,?_⟩;try conv=>cbv
 obtain⟨t,b⟩:=AL (l:=O) (i:=1) (by omega);refine⟨t,fun _=>⟨by omega,b⟩,?_⟩;try conv=>cbv
 refine g2 rfl ?_;have d:=Option.some.inj (a.symm.trans D);have f:=Option.some.inj (b.symm.trans F);exact AD ⟨⟨rfl,congrArg _ (by rw[d]),congrArg _ (by rw[d]),trivial⟩,⟨rfl,congrArg _ (by rw[f]),congrArg _ (by rw[f]),trivial⟩,t2,trivial⟩
theorem Mk (G:Cg TT R K S) (hu:TT u) (k:TT v) (f:T1=tw u) (g:T2=tw v) (b:A1=em u x) (d:A2=em v y) (t:El u S x) (z:El v S y) (F:T=tw (As u v)) (D:C=em (As u v) (x+y)):CF 99 [.agg (Ab T1 A1),.agg (Ab T2 A2)] (.AI [(true,(Ab T C)),(false,[.int .i64 0])]):=by
 obtain⟨a,h,j⟩:=G.toGam.As hu k;have l:=G.BQ hu a h t;have m:=G.BQ k a j z;have hmul:=G.mul a;obtain⟨A,n⟩:=CB (em (As u v) x);obtain⟨B,o⟩:=CB (em (As u v) y);refine AJ Tryz.func99 fun E s=>?_
 conv=>cbv
 refine AB s (Qa G hu k f g b d t z F n o) ?_;conv=>cbv
 refine Ai ?_;conv=>cbv
 refine AB s (HR (G.Af a) n o l m (by omega) (by omega) D) ?_;conv=>cbv
 refine g2 rfl ?_;exact AD ⟨t3,t2,trivial⟩
theorem Mn (G:Cg TT R K S) (hu:TT u) (k:TT v) (f:T1=tw u) (g:T2=tw v) (b:A1=em u x) (d:A2=em v y) (z:El u S x) (D:El v S y) (t:T=tw (As u v)) (F:C=em (As u v) (x*y)):CF 102 [.agg (Ab T1 A1),.agg (Ab T2 A2)] (.AI [(true,(Ab T C)),(false,[.int .i64 0])]):=by
 obtain⟨a,h,j⟩:=G.toGam.As hu k;have l:=G.BQ hu a h z;have m:=G.BQ k a j D;have hmul:=G.mul a;obtain⟨A,n⟩:=CB (em (As u v) x);obtain⟨B,o⟩:=CB (em (As u v) y);refine AJ Tryz.func102 fun E s=>?_
 conv=>cbv
 refine AB s (Qa G hu k f g b d z D t n o) ?_;conv=>cbv
 refine Ai ?_;conv=>cbv
 refine AB s (C5 (G.Af a) t n o l m (by omega) F) ?_;conv=>cbv
 refine g2 rfl ?_;exact AD ⟨t3,t2,trivial⟩
theorem Mo (G:Cg TT R K S) (hu:TT u) (f:T1=tw u) (a:A1=em u x) (g:El u S x) (b:C=em u (-x)):CF 105 [.agg (Ab T1 A1)] (.agg (Ab T1 C)):=by
 refine AJ Tryz.func105 fun E d=>?_
 conv=>cbv
 refine AB d (H2 (G.Af hu) a g b) ?_;conv=>cbv
 refine g2 rfl ?_;exact AD ⟨t3,trivial⟩
theorem Mq (G:Cg TT R K S) (hu:TT u) (h:TT v) (g:T1=tw u) (a:T2=tw v) (d:A1=em u x) (f:A2=em v y) (n:El u S x) (k:El v S y) (m:T=tw (As u v)) (l:C=em (As u v) (x-y)):CF 101 [.agg (Ab T1 A1),.agg (Ab T2 A2)] (.AI [(true,(Ab T C)),(false,[.int .i64 0])]):=by
 refine AJ Tryz.func101 fun E j=>?_
 conv=>cbv
 obtain⟨o,b⟩:=CB (em v (-y));refine AB j (Mo G h a f k b) ?_;conv=>cbv
 refine AB j (Mk G hu h g a d b n (k.neg (G.Af h).red) m l) ?_;conv=>cbv
 refine g2 rfl ?_;exact AD ⟨t3,t2,trivial⟩
theorem Mp (G:Cg TT R K S) (hu:TT u) (b:T1=tw u) (a:A1=em u x) (g:El u S x) (f:c=AZ x):CF 104 [.agg (Ab T1 A1)] (.one (.int .i64 c)):=by
 refine AJ Tryz.func104 fun E d=>?_
 conv=>cbv
 refine AB d (W7 (G.Af hu) b a g ((G.Jg hu).mono (Nat.le_add_right _ _)).v0 f) ?_;conv=>cbv
 exact AD ⟨t2,trivial⟩
theorem QE (G:Cg TT R K S) (hu:TT u) (b:T1=tw u) (a:A1=em u x) (j:El u S x) (hw:TT (Ax u x)) (d:0<=x) (h:T=tw (Ax u x)) (f:C=em (Ax u x) (Re.sqrt x)):CF 106 [.agg (Ab T1 A1)] (.AI [(true,(Ab T C)),(false,[.int .i64 0])]):=by
 refine AJ Tryz.func106 fun E g=>?_
 conv=>cbv
 refine AB g (P8 (G.Af hu) (G.Af hw) (G.ht hw) b a j ((G.Jg hu).mono (Nat.le_add_right _ _)) d h f) ?_;conv=>cbv
 refine Ai ?_;conv=>cbv
 exact AD ⟨t3,t2,trivial⟩
theorem XC (G:Cg TT R K S) (hu:TT u) (m:TT v) (h:T1=tw u) (b:T2=tw v) (d:A1=em u x) (f:A2=em v y) (t:El u S x) (z:El v S y) {i:Re} (s:In v i) (k:y*i=1) (j:El v S i) (g:II v.length R S<=60000000000000) (o:T=tw (As u v)) (n:C=em (As u v) (x*i)):CF 103 [.agg (Ab T1 A1),.agg (Ab T2 A2)] (.AI [(true,(Ab T C)),(false,[.int .i64 0])]):=by
 refine AJ Tryz.func103 fun E l=>?_
 conv=>cbv
 obtain⟨B,a⟩:=CB (em v i);refine AB l (Kl (G.Af m) b f z s k g a) ?_;conv=>cbv
 refine Ai ?_;conv=>cbv
 refine AB l (Mn G hu m h b d a t j o n) ?_;conv=>cbv
 exact AD ⟨t3,t2,trivial⟩
theorem XD (G:Cg TT R K S) (hu:TT u) (j:TT v) (h:T1=tw u) (b:T2=tw v) (f:A1=em u x) (a:A2=em v y) (k:El u S x) (l:El v S y) (d:y=0):CF 103 [.agg (Ab T1 A1),.agg (Ab T2 A2)] (.AI [(true,(Ab [] [])),(false,[.int .i64 6])]):=by
 refine AJ Tryz.func103 fun E g=>?_
 conv=>cbv
 refine AB (r:= .AI [(false,[.sl AA []]),(false,[.int .i64 6])]) g (QR (G.Af j) b (a.trans (by rw[d]))) ?_;conv=>cbv
 refine Bu ?_;conv=>cbv
 exact AD ⟨⟨rfl,C7,C7,trivial⟩,t2,trivial⟩
theorem XB (G:Cg TT R K S) (hu:TT u) (m:TT v) (h:T1=tw u) (j:T2=tw v) (f:A1=em u x) (g:A2=em v y) (t:El u S x) (z:El v S y) (B:Cg TT R K2 S2) (F:2*(S+K)+1<=S2) (D:c=AZ (x-y)):CF 132 [.agg (Ab T1 A1),.agg (Ab T2 A2)] (.AI [(false,[.int .i64 c]),(false,[.int .i64 0])]):=by
 obtain⟨a,k,l⟩:=G.toGam.As hu m;have n:=G.BQ hu a k t;have o:=G.BQ m a l z;have hmul:=G.mul a;refine AJ Tryz.func132 fun E s=>?_
 conv=>cbv
 obtain⟨I,d⟩:=En (tw (As u v));obtain⟨H,b⟩:=CB (em (As u v) (x-y));refine AB s (Mq G hu m h j f g t z d b) ?_;conv=>cbv
 refine Ai ?_;conv=>cbv
 refine AB s (Mp B a d b ((n.sub (G.Af a).red o).mono (by omega)) D) ?_;conv=>cbv
 exact AD ⟨t2,t2,trivial⟩
theorem XE (G:Cg TT R K S) (hu:TT u) (o:TT v) (g:T1=tw u) (j:T2=tw v) (d:A1=em u x) (f:A2=em v y) (s:El u S x) (t:El v S y) (k:Cg TT R K2 S2) (m:2*(S+K)+1<=S2) {c:Bool} (n:c=true↔x=y):CF 27 [.agg (Ab T1 A1),.agg (Ab T2 A2)] (.one (.bool c)):=by
 refine AJ Tryz.func27 fun E l=>?_
 conv=>cbv
 obtain⟨z,a⟩:=xI (AZ (x-y));refine AB l (XB G hu o g j d f s t k m a) ?_;conv=>cbv
 refine Bu ?_;conv=>cbv
 intro n17 b;conv=>cbv
 exact AD ⟨⟨rfl,congrArg _ (by rw[Bool.eq_iff_iff,n,b,beq_iff_eq,a,Dx];constructor <;> intro h <;> grind),trivial⟩,trivial⟩
theorem Kh {b1 b2:Bool} {l1 l2:List UInt32} (b:Ay q b1 l1 b2 l2) (a:C=em [] (Re.ofRat q)):CF 215 [.agg (BK b1 l1 b2 l2)] (.agg (Ab [] C)):=by
 refine AJ Tryz.func215 fun E d=>?_
 conv=>cbv
 refine⟨[((b1,l1),(b2,l2))],fun _=>⟨rfl,by decide,rfl,⟨rfl,by first | exact t1 | exact t2 | exact t4 | simp[Aj,Ar,cells],trivial⟩⟩,.inr ?_⟩;try conv=>cbv
 exact AD ⟨⟨rfl,C7,congrArg _ (by rw[a,DD,<-b.rp]),trivial⟩,trivial⟩
theorem XF {x:Int} (f: -9223372036854775808<=x/\x<9223372036854775808) (d:C=em [] (Re.ofRat x)):CF 168 [.one (.int .i64 x)] (.agg (Ab [] C)):=by
 refine AJ Tryz.func168 fun E b=>?_
 conv=>cbv
 obtain⟨j,k,g,h,a⟩:=BP (x:Rat);refine AB b (D1 f rfl a) ?_;conv=>cbv
 refine AB b (Kh a d) ?_;conv=>cbv
 exact AD ⟨t3,trivial⟩
theorem Mm {n d:Int} (j: -9223372036854775808<=n/\n<9223372036854775808) (h: -9223372036854775808<=d/\d<9223372036854775808) (f:d≠0) (k:q=Rat.divInt n d) (g:C=em [] (Re.ofRat q)):CF 98 [.one (.int .i64 n),.one (.int .i64 d)] (.agg (Ab [] C)):=by
 refine AJ Tryz.func98 fun E b=>?_
 conv=>cbv
 obtain⟨o,s,l,m,a⟩:=BP q;refine AB b (Ke j h f k a) ?_;conv=>cbv
 refine AB b (Kh a g) ?_;conv=>cbv
 exact AD ⟨t3,trivial⟩
end Go.Abs
