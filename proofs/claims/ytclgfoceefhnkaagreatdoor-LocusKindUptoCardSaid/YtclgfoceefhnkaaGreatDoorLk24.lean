/- Part 25 of a proof. Conditions: each theorem's own. -/
import Derived.Test.YtclgfoceefhnkaaGreatDoorLk23
set_option linter.all false
set_option maxHeartbeats 80000000
set_option maxRecDepth 20000
open Go.Proofs
namespace Go.Abs
open Go.RowKit
variable {R i:Nat} {c:Bool} {u w:List (List Rat)}
theorem Wy {α:Type} {X Y:List α} {x y:α} (a:X[i]? =some x) (b:Y[i]? =some y) (h:X.take i=Y.take i) (e:x=y):X.take (i+1)=Y.take (i+1):=by
 rw[Ck a,Ck b,h,e]
theorem Wz {α:Type} {X Y:List α} {n:Nat} {x y:α} (d:X[i]? =some x) (f:Y[i]? =some y) (b:i<n) (e:x≠y):X.take n≠Y.take n:=by
 intro h;apply e;have a:(X.take n)[i]? =(Y.take n)[i]? :=by rw[h]
 rw[List.getElem?_take,List.getElem?_take,if_pos b,if_pos b,d,f] at a;exact Option.some.inj a
theorem ZD {X Y:LR} {xs ys:List Rat} (hX:X=Aj xs) (hY:Y=Aj ys) (hs:DU xs) (ht:DU ys) (B:c=decide (X=Y)):CF 330 [.one (.sl AA X),.one (.sl AA Y)] (.one (.bool c)):=by
 refine AM Tryz.func330 fun E hE=>?_
 conv=>cbv
 rintro n7 ⟨e7,f7⟩;conv=>cbv
 rintro n9 ⟨e9,f9⟩;conv=>cbv
 intro L j;conv=>cbv
 cases L <;> conv=>cbv
 ·have H:=BY j;refine .inr ?_;obtain⟨Z,f⟩:=xJ fun vs bl k=>∃(i':Nat) (i:Int),vs=[.one (.sl AA X),.one (.sl AA Y),.one (.int .i64 i)]/\(AR i i'/\i'<=Y.length/\Y.length<=X.length)/\X.take i'=Y.take i'/\k=Y.length-i'
  refine⟨[],[0,1,5],[],Z,⟨Y.length-0,by rw[f];exact⟨0,0,rfl,⟨Ak 0,by omega,by omega⟩,rfl,rfl⟩⟩,?_⟩;intro vs bl aa Q;rw[f] at Q;obtain⟨i',i,rfl,⟨hi,a5,z⟩,hinv,a6⟩:=Q;conv=>cbv
  have ei:=hi.eq;rintro ab ⟨a1,f13⟩;conv=>cbv
  intro M m;conv=>cbv
  cases M <;> conv=>cbv
  ·have I:=AY m;have hl:X.length=Y.length:=by omega
   exact AD ⟨⟨rfl,congrArg _ (by rw[B,decide_eq_true];have:=hinv;rwa [List.take_of_length_le (by omega),List.take_of_length_le (by omega)] at this),trivial⟩,trivial⟩
  have I:=AZ m;refine .inr ?_;obtain⟨g,a⟩:=AL (l:=X) (i:=i') (by omega);refine⟨g,fun _=>⟨by omega,by rw[show (i).toNat=i' by omega];exact a⟩,?_⟩;try conv=>cbv
  obtain⟨h,b⟩:=AL (l:=Y) (i:=i') (by omega);refine⟨h,fun _=>⟨by omega,by rw[show (i).toNat=i' by omega];exact b⟩,?_⟩;try conv=>cbv
  obtain⟨p,U,a7,F⟩:=G4 hX hs a;obtain⟨q,W,a8,G⟩:=G4 hY ht b;have s:g=rp p:=U.rp.symm;have t:h=rp q:=W.rp.symm;obtain⟨P,d⟩:=xI (FV p q);refine AB hE (YZ U W F G d) ?_;conv=>cbv
  intro O o;conv=>cbv
  refine g2 rfl ?_;cases O <;> conv=>cbv
  ·have J:=BY o;intro N a2;conv=>cbv
   refine AI ?_;refine⟨Y.length-(i'+1),?_,?_⟩
   ·omega
   rw[f];exact⟨i'+1,N,rfl,⟨⟨by omega⟩,by omega,z⟩,Wy a b hinv (by rw[s,t];congr 1;have:=N3 p q;rw[<-d,show P=0 by omega] at this;exact of_decide_eq_true this),rfl⟩
  have J:=BZ o;have D:g≠h:=fun e=>by have e2:=Pc (s.symm.trans (e.trans t));have:=N3 p q;rw[decide_eq_true e2,<-d] at this;simp at this;omega
  exact AD ⟨⟨rfl,congrArg _ (by rw[B,decide_eq_false];intro e;exact Wz (n:=i'+1) a b (by omega) D (by rw[e])),trivial⟩,trivial⟩
 have H:=BZ j;exact AD ⟨⟨rfl,congrArg _ (by rw[B,decide_eq_false];intro e;have:=congrArg List.length e;omega),trivial⟩,trivial⟩
theorem Yn {X Y:List LR} (hu:Ah R u) (hw:Ah R w) (hX:X=tw u) (hY:Y=tw w) (t:c=(decide (Y.length<=X.length)&&decide (X.take Y.length=Y))):CF 272 [.one (.sl (.sl AA) X),.one (.sl (.sl AA) Y)] (.one (.bool c)):=by
 refine AM Tryz.func272 fun E Z=>?_
 conv=>cbv
 rintro n7 ⟨e7,f7⟩;conv=>cbv
 rintro n9 ⟨e9,f9⟩;conv=>cbv
 intro I m;conv=>cbv
 cases I <;> conv=>cbv
 ·have F:=Bf m;refine .inr ?_;obtain⟨O,g⟩:=xJ fun vs Q k=>∃(i':Nat) (i:Int),vs=[.one (.sl (.sl AA) X),.one (.sl (.sl AA) Y),.one (.int .i64 i)]/\(AR i i'/\i'<=Y.length/\Y.length<=X.length)/\X.take i'=Y.take i'/\k=Y.length-i'
  refine⟨[],[0,1,5],[],O,⟨Y.length-0,by rw[g];exact⟨0,0,rfl,⟨Ak 0,by omega,by omega⟩,rfl,rfl⟩⟩,?_⟩;intro vs Q a5 N;rw[g] at N;obtain⟨i',i,rfl,⟨hi,a1,s⟩,hinv,a2⟩:=N;conv=>cbv
  have ei:=hi.eq;rintro a6 ⟨U,f13⟩;conv=>cbv
  intro J o;conv=>cbv
  cases J <;> conv=>cbv
  ·have G:=AY o;exact AD ⟨⟨rfl,congrArg _ (by rw[t,decide_eq_true (show Y.length<=X.length by omega),decide_eq_true];rfl;rw[show Y.length=i' by omega,hinv,List.take_of_length_le (by omega)]),trivial⟩,trivial⟩
  have G:=AZ o;refine .inr ?_;obtain⟨h,a⟩:=AL (l:=X) (i:=i') (by omega);refine⟨h,fun _=>⟨by omega,by rw[show (i).toNat=i' by omega];exact a⟩,?_⟩;try conv=>cbv
  obtain⟨j,b⟩:=AL (l:=Y) (i:=i') (by omega);refine⟨j,fun _=>⟨by omega,by rw[show (i).toNat=i' by omega];exact b⟩,?_⟩;try conv=>cbv
  obtain⟨p,hp,B⟩:=H5 hX a;obtain⟨q,hq,D⟩:=H5 hY b;obtain⟨P,d⟩:=xB (decide (h=j));refine AB Z (ZD hp hq ((hu.tb p (List.mem_reverse.1 (List.mem_of_getElem? B))).B8 hu.hR) ((hw.tb q (List.mem_reverse.1 (List.mem_of_getElem? D))).B8 hw.hR) d) ?_;conv=>cbv
  intro M f;conv=>cbv
  refine g2 rfl ?_;cases M <;> conv=>cbv
  ·have H:=CN f;intro L W;conv=>cbv
   refine AI ?_;refine⟨Y.length-(i'+1),?_,?_⟩
   ·omega
   rw[g];exact⟨i'+1,L,rfl,⟨⟨by omega⟩,by omega,s⟩,Wy a b hinv (of_decide_eq_true (by rw[<-d];exact CN f)),rfl⟩
  have H:=CO f;have z:h≠j:=of_decide_eq_false (by rw[<-d];exact CO f);exact AD ⟨⟨rfl,congrArg _ (by rw[t,decide_eq_false (p:=X.take Y.length=Y),Bool.and_false];intro e;exact Wz (n:=Y.length) a b (by omega) z (by rw[e,List.take_length])),trivial⟩,trivial⟩
 have F:=Bg m;exact AD ⟨⟨rfl,congrArg _ (by rw[t,decide_eq_false (show ¬Y.length<=X.length by omega)];rfl),trivial⟩,trivial⟩
theorem LM {X Y:List LR} (hu:Ah R u) (hw:Ah R w) (a:X=tw u) (b:Y=tw w) (h:c=true↔w<:+u):CF 272 [.one (.sl (.sl AA) X),.one (.sl (.sl AA) Y)] (.one (.bool c)):=
 Yn hu hw a b (by rw[Bool.eq_iff_iff,h,Py,Bool.and_eq_true,decide_eq_true_eq,decide_eq_true_eq,a,b])
theorem NZ {T:List LR} {A C:LR} {x:Re} (h:Ah R w) (hT:T=tw w) (Y:A=em u x) (hx:In u x) (hu:u<:+w) (hC:C=em w x):CF 274 [.one (.sl (.sl AA) T),.one (.sl AA A)] (.one (.sl AA C)):=by
 have N:T.length=w.length:=by rw[hT,Bh]
 have a7:=h.ht;have a6:A.length=2^u.length:=by rw[Y,BI hx]
 have Q:=hu.length_le;have hle:2^u.length<=2^w.length:=Cg Q;have a2:=Cu h.ht;have F:=TG hu h.red hx;refine AM Tryz.func274 fun E hE=>?_
 conv=>cbv
 refine⟨[],fun _=>⟨rfl,by decide,rfl,trivial⟩,.inl ?_⟩;try conv=>cbv
 refine .inl ⟨A,fun _=>⟨rfl,rfl,rfl,by show (0+A.length)*64<=140737488355328;(try simp only[List.length_take,List.length_drop]);omega⟩,?_⟩;intro (I:LR) n8 H;have t:I=([]:LR)++(A:LR):=H.1;have P:n8=List.length (α:=(el AA)) I:=H.2;conv=>cbv
 refine .inr ?_;obtain⟨J0,s⟩:=xJ fun vs X k=>∃(o:LR) (mm j:Nat),vs=[.one (.sl (.sl AA) T),.one (.AQ AA 6 0 0 mm)]/\X=[.arr 0 AA o]/\(mm=o.length/\o.length=2^u.length+j/\o.length<=2^w.length)/\o=A++List.replicate j (rp 0)/\k=2^w.length-o.length
 refine⟨[],[0,5],[6],J0,⟨2^w.length-I.length,by rw[s];exact⟨I,n8,0,rfl,rfl,⟨P,by rw[t];simp;omega,by rw[t];simp;omega⟩,by rw[t];simp,rfl⟩⟩,?_⟩;intro vs X ad Z;rw[s] at Z;obtain⟨o,mm,j,rfl,rfl,⟨B,aa,ab⟩,hinv,a8⟩:=Z;conv=>cbv
 intro ae L;have a5:=L.eq;conv=>cbv
 rintro af ⟨J,f12⟩;conv=>cbv
 intro ag M;conv=>cbv
 refine AH ?_;have a1:=(EG M (J.trans (congrArg _ N))).eq;intro W z;conv=>cbv
 cases W <;> conv=>cbv
 ·have U:=AY z;exact AD ⟨⟨rfl,.inl ⟨_,rfl,by omega,congrArg _ (by rw[hC,B,List.drop_zero,List.take_length,hinv,F,Y,show j=2^w.length-2^u.length by omega])⟩,trivial⟩,trivial⟩
 have U:=AZ z;refine .inr ?_;obtain⟨f,g,b,d,m⟩:=Bl (((0:Int):Rat));refine AB hE (D3 (by omega) rfl m) ?_;conv=>cbv
 refine⟨[((f,g),(b,d))],fun _=>⟨rfl,by decide,rfl,⟨rfl,by first | exact t1 | exact t2 | exact t4 | simp[Aq,BG,cells],trivial⟩⟩,.inr ?_⟩;try conv=>cbv
 refine .inl ⟨[((f,g),(b,d))],fun _=>⟨rfl,B,rfl,by show (o.length+1)*64<=140737488355328;(try simp only[List.length_take,List.length_drop]);omega⟩,?_⟩;intro (a:LR) G n;have l:a=(o:LR)++([((f,g),(b,d))]:LR):=n.1;have D:G=List.length (α:=(el AA)) a:=n.2;conv=>cbv
 have O:a.length=o.length+1:=by rw[l];simp
 refine⟨2^w.length-a.length,?_,?_⟩
 ·omega
 rw[s];exact⟨a,G,j+1,rfl,rfl,⟨D,by omega,by omega⟩,by rw[l,hinv,List.replicate_succ',List.append_assoc,<-m.rp];rfl,rfl⟩
end Go.Abs
namespace Go.Abs
open Go.RowKit
structure Du (T:List (List Rat)->Prop) (R C S:Nat):Prop extends Gam T R C S where
 L3:∀{u},T u->D8 u.length R (S+C)
def Qt (S:Nat) (w u:List (List Rat)):Prop:=∀{T RL:List LR} {A C:LR} {x:Re},T=tw w->Ei w RL u->A=em u x->El u S x->C=em w x->
 CF 275 [.one (.sl (.sl AA) T),.one (.sl (.sl AA) RL),.one (.sl AA A)] (.one (.sl AA C))
def Qu (S:Nat) (w u:List (List Rat)):Prop:=∀{T RL:List LR} {A C:LR} {x:Re} {mm:Nat},T=tw w->Ei w RL u->mm=RL.length->A=em u x->El u S x->C=em w x->
 D7 Tryz.prog 275 [.one (.sl (.sl AA) T),.one (.AQ (.sl AA) 0 0 0 mm),.one (.sl AA A)] (.arr 0 (.sl AA) RL) (.one (.sl AA C))
variable {A C:LR} {K R S mm:Nat} {RL T:List LR} {TT:List (List Rat)->Prop} {p x:Re} {q:Rat} {r:List Rat} {u w:List (List Rat)}
theorem Yr {u:List (List Rat)} {x:Re} (G:Gam TT R K S) (hw:TT w) (s:T=tw w) (k:A=em [] (Re.ofRat q)) (z:Bt q) (n:C=em w (Re.ofRat q)):CF 275 [.one (.sl (.sl AA) T),.one (.sl (.sl AA) RL),.one (.sl AA A)] (.one (.sl AA C)):=by
 have d:A=[rp q]:=k.trans (Dl q);have m:A.length=1:=by rw[d];rfl
 refine AM Tryz.func275 fun E o=>?_
 conv=>cbv
 rintro t ⟨j,f12⟩;conv=>cbv
 intro g b;conv=>cbv
 cases g <;> conv=>cbv
 ·have f:=AN b;exact absurd f (by omega)
 have f:=AO b;obtain⟨h,a⟩:=AL (l:=A) (i:=0) (by omega);refine⟨h,fun _=>⟨by omega,a⟩,?_⟩;try conv=>cbv
 refine AB o (FO (G.Ar hw) s (ED d a) n) ?_;conv=>cbv
 exact AD ⟨t2,trivial⟩
theorem Ys (G:Gam TT R K S) (hw:TT w) (Q:T=tw w) {q:Re} (hu:TT (r::u)) (b:Bb (r::u) w) (ih:Qt S w u) (hR:Ei w RL (r::u)) (hA:A=em (r::u) x) (hx:El (r::u) S x) (o:x=p+q*rt u r) (U:El u S p) (M:El u S q) (hC:C=em w x):CF 275 [.one (.sl (.sl AA) T),.one (.sl (.sl AA) RL),.one (.sl AA A)] (.one (.sl AA C)):=by
 have n:=(G.Ar hu).red;have z:A.length=2^u.length+2^u.length:=by rw[hA,BI hx.mem,Br]
 have aB:=DR u.length;have ay:(r::u).length<=8:=G.ht hu;have ai:(r::u).length=u.length+1:=rfl;have hmul:=G.mul hw;have a:El w K (rt u r):=by have:=G.CG hu hw b (Is n);rwa [Nat.zero_add] at this
 obtain⟨wk,a6,N,F⟩:=hR.2;obtain⟨rk,O⟩:=xR (em wk (rt u r));rw[<-O] at F;refine AM Tryz.func275 fun E B=>?_
 conv=>cbv
 rintro aF ⟨an,f12⟩;conv=>cbv
 intro ab s;conv=>cbv
 cases ab <;> conv=>cbv
 ·have P:=AN s;rintro aG ⟨ao,f20⟩;conv=>cbv
  intro ad av;conv=>cbv
  refine g2 ⟨by omega,by omega,i64 (by omega)⟩ ?_;refine .inr ?_;obtain⟨J0,j⟩:=xJ fun vs bl k=>∃(k':Nat) (W X:Int),vs=[.one (.sl (.sl AA) T),.one (.sl (.sl AA) RL),.one (.sl AA A),.one (.int .i64 W),.one (.int .i64 X)]/\bl=[]/\(AR W (A.length/2)/\AR X k'/\k'<=u.length)/\k=u.length-k'
  refine⟨[],[0,1,2,7,8],[],J0,⟨u.length-0,by rw[j];exact⟨0,ad,0,rfl,rfl,⟨⟨by omega⟩,Ak 0,by omega⟩,rfl⟩⟩,?_⟩;intro vs bl aC hj;rw[j] at hj;obtain⟨k',W,X,rfl,rfl,⟨D,a2,aA⟩,az⟩:=hj;conv=>cbv
  have ar:=D.eq;have au:=a2.eq;intro aH aw;conv=>cbv
  refine AI ?_;intro aI a1;conv=>cbv
  refine AH ?_;rintro aJ ⟨aq,f26⟩;conv=>cbv
  have ak:=(EG (k:=k'+1) a1 (by omega)).eq;intro ae t;conv=>cbv
  cases ae <;> conv=>cbv
  ·have a7:=AY t;have a5:k'=u.length:=by have:=I0 z (show ¬2^(k'+1)<A.length by omega);omega
   intro aD aj;conv=>cbv
   refine AH ?_;intro Z ah;conv=>cbv
   intro a8 I;conv=>cbv
   have l:a8=em u p:=by rw[I,List.drop_zero,show Z=A.length/2 by omega,hA,CE n U.mem M.mem o]
   obtain⟨aK,d⟩:=xR (em w (p));refine AB B (ih Q hR.1 l U d) ?_;conv=>cbv
   intro aE L;conv=>cbv
   refine AH ?_;rintro Y al ⟨ag,H⟩;conv=>cbv
   intro aa J;conv=>cbv
   have m:aa=em u q:=by rw[J,show Y=A.length/2 by omega,H,L,List.take_length,hA,B6 n U.mem M.mem o]
   obtain⟨aL,f⟩:=xR (em w (q));refine AB B (ih Q hR.1 m M f) ?_;conv=>cbv
   refine g2 rfl ?_;refine⟨rk,fun _=>⟨by omega,by rw[show X.toNat=u.length by omega];exact F⟩,?_⟩;try conv=>cbv
   obtain⟨aM,g⟩:=xR (em w (rt u r));refine AB B (NZ (G.Ar hw) Q O N a6 g) ?_;conv=>cbv
   obtain⟨aN,h⟩:=xR (em w (q*rt u r));refine AB B (DW (G.Ar hw) Q f g (G.CG (G.sub hu) hw b.tail M) a (by omega) h) ?_;conv=>cbv
   refine AB (r:= .one (.sl AA C)) B (Hv (G.Ar hw) d h (G.CG (G.sub hu) hw b.tail U) ((G.CG (G.sub hu) hw b.tail M).mul (G.Ar hw) a) (by omega) (by omega) (by rw[hC,o])) ?_;conv=>cbv
   exact AD ⟨t2,trivial⟩
  have a7:=AZ t;refine .inr ?_;have a5:k'<u.length:=I1 z (show 2^(k'+1)<A.length by omega);intro af ax;conv=>cbv
  refine AI ?_;refine⟨u.length-(k'+1),?_,?_⟩
  ·omega
  rw[j];exact⟨k'+1,W,af,rfl,rfl,⟨D,⟨by omega⟩,by omega⟩,rfl⟩
 have P:=AO s;exact absurd P (by omega)
theorem Yt {u:List (List Rat)} {x:Re} (t:mm=RL.length) (G:Gam TT R K S) (hw:TT w) (s:T=tw w) (k:A=em [] (Re.ofRat q)) (B:Bt q) (n:C=em w (Re.ofRat q)):D7 Tryz.prog 275 [.one (.sl (.sl AA) T),.one (.AQ (.sl AA) 0 0 0 mm),.one (.sl AA A)] (.arr 0 (.sl AA) RL) (.one (.sl AA C)):=by
 have d:A=[rp q]:=k.trans (Dl q);have m:A.length=1:=by rw[d];rfl
 refine Gz Tryz.func275 (by kernel_rfl) rfl fun E o=>?_
 conv=>cbv
 rintro z ⟨j,f12⟩;conv=>cbv
 intro g b;conv=>cbv
 cases g <;> conv=>cbv
 ·have f:=AN b;exact absurd f (by omega)
 have f:=AO b;obtain⟨h,a⟩:=AL (l:=A) (i:=0) (by omega);refine⟨h,fun _=>⟨by omega,a⟩,?_⟩;try conv=>cbv
 refine AB o (FO (G.Ar hw) s (ED d a) n) ?_;conv=>cbv
 refine fun _=>⟨⟨⟨t2,trivial⟩,rfl,by simp⟩,rfl⟩
theorem Yu (U:mm=RL.length) (G:Gam TT R K S) (hw:TT w) (hT:T=tw w) {q:Re} (hu:TT (r::u)) (b:Bb (r::u) w) (ih:Qu S w u) (hR:Ei w RL (r::u)) (hA:A=em (r::u) x) (hx:El (r::u) S x) (D:x=p+q*rt u r) (hp:El u S p) (W:El u S q) (hC:C=em w x):D7 Tryz.prog 275 [.one (.sl (.sl AA) T),.one (.AQ (.sl AA) 0 0 0 mm),.one (.sl AA A)] (.arr 0 (.sl AA) RL) (.one (.sl AA C)):=by
 have z:=(G.Ar hu).red;have J:A.length=2^u.length+2^u.length:=by rw[hA,BI hx.mem,Br]
 have aG:=DR u.length;have aD:(r::u).length<=8:=G.ht hu;have an:(r::u).length=u.length+1:=rfl;have hmul:=G.mul hw;have a:El w K (rt u r):=by have:=G.CG hu hw b (Is z);rwa [Nat.zero_add] at this
 obtain⟨wk,ab,X,d⟩:=hR.2;obtain⟨rk,f⟩:=xR (em wk (rt u r));rw[<-f] at d;refine Gz Tryz.func275 (by kernel_rfl) rfl fun E L=>?_
 conv=>cbv
 rintro aK ⟨av,f12⟩;conv=>cbv
 intro ae H;conv=>cbv
 cases ae <;> conv=>cbv
 ·have Z:=AN H;rintro aL ⟨aw,f20⟩;conv=>cbv
  intro af aA;conv=>cbv
  refine g2 ⟨by omega,by omega,i64 (by omega)⟩ ?_;refine .inr ?_;obtain⟨J0,o⟩:=xJ fun vs bl k=>∃(k':Nat) (hv kk:Int),vs=[.one (.sl (.sl AA) T),.one (.AQ (.sl AA) 0 0 0 mm),.one (.sl AA A),.one (.int .i64 hv),.one (.int .i64 kk)]/\bl=[.arr 0 (.sl AA) RL]/\(AR hv (A.length/2)/\AR kk k'/\k'<=u.length)/\k=u.length-k'
  refine⟨[],[0,1,2,7,8],[0],J0,⟨u.length-0,by rw[o];exact⟨0,af,0,rfl,rfl,⟨⟨by omega⟩,Ak 0,by omega⟩,rfl⟩⟩,?_⟩;intro vs bl aH hj;rw[o] at hj;obtain⟨k',hv,kk,rfl,rfl,⟨M,a8,aF⟩,aE⟩:=hj;conv=>cbv
  have ay:=M.eq;have az:=a8.eq;intro aM aB;conv=>cbv
  refine AI ?_;intro aN a7;conv=>cbv
  refine AH ?_;rintro aO ⟨ax,f26⟩;conv=>cbv
  have ar:=(EG (k:=k'+1) a7 (by omega)).eq;intro ag I;conv=>cbv
  cases ag <;> conv=>cbv
  ·have ad:=AY I;have aa:k'=u.length:=by have:=I0 J (show ¬2^(k'+1)<A.length by omega);omega
   intro aI aq;conv=>cbv
   refine AH ?_;intro a6 al;conv=>cbv
   intro a1 O;conv=>cbv
   have s:a1=em u p:=by rw[O,List.drop_zero,show a6=A.length/2 by omega,hA,CE z hp.mem W.mem D]
   obtain⟨ai,g⟩:=xR (em w (p));refine .inr (.inr (.inl ⟨0,.arr 0 (.sl AA) RL,[.one (.sl (.sl AA) T),.one (.AQ (.sl AA) 0 0 0 mm),.one (.sl AA a1)],.one (.sl AA ai),fun _=>⟨rfl,⟨rfl,⟨⟨rfl,rfl⟩,rfl⟩,rfl,trivial⟩⟩,fun _=>FL L (ih hT hR.1 U s hp g),?_⟩));try conv=>cbv
   intro aJ Q;conv=>cbv
   refine AH ?_;rintro a5 au ⟨ak,N⟩;conv=>cbv
   intro a2 P;conv=>cbv
   have t:a2=em u q:=by rw[P,show a5=A.length/2 by omega,N,Q,List.take_length,hA,B6 z hp.mem W.mem D]
   obtain⟨aj,h⟩:=xR (em w (q));refine .inr (.inr (.inl ⟨0,.arr 0 (.sl AA) RL,[.one (.sl (.sl AA) T),.one (.AQ (.sl AA) 0 0 0 mm),.one (.sl AA a2)],.one (.sl AA aj),fun _=>⟨rfl,⟨rfl,⟨⟨rfl,rfl⟩,rfl⟩,rfl,trivial⟩⟩,fun _=>FL L (ih hT hR.1 U t W h),?_⟩));try conv=>cbv
   refine g2 rfl ?_;refine⟨fun _=>⟨by omega,by have:=FI d;omega⟩,?_⟩;intro Y ao;conv=>cbv
   obtain⟨F,n⟩:=AL (l:=RL) (i:=Y) (by have:=FI d;omega);refine⟨F,fun _=>n,?_⟩;try conv=>cbv
   have B:F=rk:=by have:=n;rw[show Y=u.length by omega,d] at this;exact (Option.some.inj this).symm
   have f:F=em wk (rt u r):=B.trans f;obtain⟨aP,j⟩:=xR (em w (rt u r));refine AB L (NZ (G.Ar hw) hT f X ab j) ?_;conv=>cbv
   obtain⟨aQ,m⟩:=xR (em w (q*rt u r));refine AB L (DW (G.Ar hw) hT h j (G.CG (G.sub hu) hw b.tail W) a (by omega) m) ?_;conv=>cbv
   refine AB (r:= .one (.sl AA C)) L (Hv (G.Ar hw) g m (G.CG (G.sub hu) hw b.tail hp) ((G.CG (G.sub hu) hw b.tail W).mul (G.Ar hw) a) (by omega) (by omega) (by rw[hC,D])) ?_;conv=>cbv
   refine fun _=>⟨⟨⟨t2,trivial⟩,rfl,by simp⟩,rfl⟩
  have ad:=AZ I;refine .inr ?_;have aa:k'<u.length:=I1 J (show 2^(k'+1)<A.length by omega);intro ah aC;conv=>cbv
  refine AI ?_;refine⟨u.length-(k'+1),?_,?_⟩
  ·omega
  rw[o];exact⟨k'+1,hv,ah,rfl,rfl,⟨M,⟨by omega⟩,by omega⟩,rfl⟩
 have Z:=AO H;exact absurd Z (by omega)
theorem Yp (G:Gam TT R K S) (hw:TT w):∀{u:List (List Rat)},TT u->Bb u w->Qt S w u:=by
 intro u
 induction u with
 | nil=>
  intro hu g T RL A C x h hR d a f;obtain⟨q,rfl⟩:=CV.1 a.mem;have b:=a.B8 (by have:=G.mul hw;omega);rw[DY] at b;exact Yr (u:=[]) (x:=0) G hw h d (b q List.mem_cons_self) f
 | cons r u l=>
  intro hu g T RL A C x h hR d a f;obtain⟨p,q,j,k,b⟩:=El.parts (G.Ar hu).red a;exact Ys G hw h hu g (l (G.sub hu) g.tail) hR d a j k b f
theorem Yq (G:Gam TT R K S) (hw:TT w):∀{u:List (List Rat)},TT u->Bb u w->Qu S w u:=by
 intro u
 induction u with
 | nil=>
  intro hu h T RL A C x mm j hR a f b g;obtain⟨q,rfl⟩:=CV.1 b.mem;have d:=b.B8 (by have:=G.mul hw;omega);rw[DY] at d;exact Yt (u:=[]) (x:=0) a G hw j f (d q List.mem_cons_self) g
 | cons r u m=>
  intro hu h T RL A C x mm j hR a f b g;obtain⟨p,q,k,l,d⟩:=El.parts (G.Ar hu).red b;exact Yu a G hw j hu h (m (G.sub hu) h.tail) hR f b k l d g
theorem NX {U T2:List LR} {t:List (List Rat)} (G:Du TT R K S) (ht:TT t) (hu:TT u) (hT:T=tw t) (hU:U=tw u) (a5:T2=tw (ext t u)) (a1:RL=Dy t u):CF 273 [.one (.sl (.sl AA) T),.one (.sl (.sl AA) U)] (.AJ [(false,[.sl (.sl AA) T2]),(false,[.sl (.sl AA) RL]),(false,[.int .i64 0])]):=by
 have ah:U.length=u.length:=by rw[hU,Bh]
 have al:=G.ht hu;have a2:=G.RS;refine AM Tryz.func273 fun E hE=>?_
 conv=>cbv
 refine .inr ?_;obtain⟨J0,s⟩:=xJ fun vs bl k=>∃(Z o:List LR) (mm i':Nat) (i:Int),vs=[.one (.sl (.sl AA) Z),.one (.sl (.sl AA) U),.one (.AQ (.sl AA) 7 0 0 mm),.one (.int .i64 i)]/\bl=[.arr 0 (.sl AA) o]/\(AR i i'/\i'<=U.length/\mm=o.length)/\Z=tw (ext t (pre u i'))/\o=Dy t (pre u i')/\k=U.length-i'
 refine⟨[(7,.sl AA,true)],[0,1,7,8],[7],J0,⟨U.length,by rw[s];exact⟨T,[],0,0,0,rfl,rfl,⟨Ak 0,Nat.zero_le _,rfl⟩,by rw[Kc];exact hT,by rw[Kc];rfl,rfl⟩⟩,?_⟩;intro vs bl an hj;rw[s] at hj;obtain⟨Z,o,mm,i',i,rfl,rfl,⟨hi,ai,D⟩,z,hinv,aj⟩:=hj;conv=>cbv
 have ei:=hi.eq;have ak:o.length<=U.length:=by rw[hinv,Km,Hg (by omega)];omega
 rintro ao ⟨af,f14⟩;conv=>cbv
 intro ab J;conv=>cbv
 cases ab <;> conv=>cbv
 ·have aa:=AY J;have N:pre u i'=u:=by rw[show i'=u.length by omega];exact VW u
  exact AD ⟨⟨rfl,congrArg _ (by rw[a5,z,N]),trivial⟩,⟨rfl,.inl ⟨_,rfl,by omega,congrArg _ (by rw[a1,D,List.drop_zero,List.take_length,hinv,N])⟩,trivial⟩,t2,trivial⟩
 have aa:=AZ J;refine .inr ?_;obtain⟨I,m⟩:=AL (l:=U) (i:=i') (by omega);refine⟨I,fun _=>⟨by omega,by rw[show (i).toNat=i' by omega];exact m⟩,?_⟩;try conv=>cbv
 obtain⟨r,F,Q⟩:=IG (u:=u) (i:=i') (by omega);have a:TT (pre u i'):=G.JU (JI u i') hu;have b:TT (r::pre u i'):=F ▸ G.JU (JI u (i'+1)) hu;have P:=(G.Ar b).red;have a8:I=em (pre u i') (AP (pre u i') r):=by rw[<-hU,m] at Q;exact (Option.some.inj Q).trans (Dw P)
 have d:TT (ext t (pre u i')):=G.ext ht a;have B:=(IK (G.Ar ht).red (G.Ar a).red).2;have O:El (pre u i') S (AP (pre u i') r):=(El.Cj (G.Ar b)).mono a2;have W:TT (BM (ext t (pre u i')) (AP (pre u i') r)):=G.BM d b B;have a6:ext t (pre u (i'+1))=BM (ext t (pre u i')) (AP (pre u i') r):=by rw[F];rfl
 have a7:Dy t (pre u (i'+1))=Dy t (pre u i')++[em (BM (ext t (pre u i')) (AP (pre u i') r)) (Re.sqrt (AP (pre u i') r))]:=by rw[F];rfl
 obtain⟨ae,g⟩:=xR (em (ext t (pre u i')) (AP (pre u i') r));refine .inr (.inr (.inl ⟨7,.arr 0 (.sl AA) o,[.one (.sl (.sl AA) Z),.one (.AQ (.sl AA) 0 0 0 mm),.one (.sl AA I)],.one (.sl AA ae),fun _=>⟨rfl,⟨rfl,⟨⟨rfl,rfl⟩,rfl⟩,rfl,trivial⟩⟩,fun _=>FL hE (Yq G.toGam d a B z (by rw[hinv];exact Kn (G.Ar ht).red (G.Ar a).red) D a8 O g),?_⟩));try conv=>cbv
 obtain⟨Y,h⟩:=xV (tw (BM (ext t (pre u i')) (AP (pre u i') r)));obtain⟨f,j⟩:=xR (em (BM (ext t (pre u i')) (AP (pre u i') r)) (Re.sqrt (AP (pre u i') r)));refine AB (r:= .AJ [(false,[.sl (.sl AA) Y]),(false,[.sl AA f]),(false,[.int .i64 0])]) hE (Qr (G.Ar d) (G.Ar W) (G.ht W) z g (G.CG a d B O) (G.L3 d) (by have:=P.2.2.1;grind) h j) ?_;try conv=>cbv
 refine BK ?_;conv=>cbv
 refine⟨[f],fun _=>⟨rfl,by decide,rfl,⟨rfl,by first | exact t1 | exact t2 | exact t4 | simp[Aq,BG,cells],trivial⟩⟩,.inr ?_⟩;try conv=>cbv
 refine .inl ⟨[f],fun _=>⟨rfl,D,rfl,by show (o.length+1)*24<=140737488355328;(try simp only[List.length_take,List.length_drop]);omega⟩,?_⟩;intro (H:List (el (.sl AA))) X n;have L:H=(o:List (el (.sl AA)))++([f]:List (el (.sl AA))):=n.1;have M:X=List.length (α:=(el (.sl AA))) H:=n.2;conv=>cbv
 intro ad ag;conv=>cbv
 refine AI ?_;refine⟨U.length-(i'+1),?_,?_⟩
 ·omega
 rw[s];exact⟨Y,H,X,i'+1,ad,rfl,rfl,⟨⟨by omega⟩,by omega,M⟩,by rw[h,a6],by rw[L,hinv,a7,j],rfl⟩
end Go.Abs
namespace Go.Abs
open Go.RowKit
theorem YO {TT:List (List Rat)->Prop} {R K S:Nat} (G:Du TT R K S) {L:List (el An)} {ns:List (List (List Rat)×Re)} (Y:∀n∈ns,TT n.1) (hL:L=ns.map nm) (aD:∀n∈ns,El n.1 S n.2) (hlen:ns.length<=1000000) {O:List (el An)} (hO:O=ns.map (fun n=>nm (Bi ns,n.2))):CF 202 [.one (.sl An L)] (.AJ [(false,[.sl An O]),(false,[.int .i64 0])]):=by
 have b9:L.length=ns.length:=by rw[hL,List.length_map]
 have U:TT (Bi ns):=G.Bi Y;refine AM Tryz.func202 fun E hE=>?_
 conv=>cbv
 refine .inr ?_;obtain⟨J0,H⟩:=xJ fun vs bl k=>∃(Ti:List LR) (i':Nat) (i:Int),vs=[.one (.sl An L),.one (.sl (.sl AA) Ti),.one (.int .i64 i)]/\bl=[]/\(AR i i'/\i'<=L.length)/\Ti=tw (Bi (ns.take i'))/\k=L.length-i'
 refine⟨[(4,.sl AA,false)],[0,4,5],[],J0,⟨L.length,by rw[H];exact⟨[],0,0,rfl,rfl,⟨Ak 0,by omega⟩,rfl,rfl⟩⟩,?_⟩;intro vs bl bd hj;rw[H] at hj;obtain⟨Ti,i',i,rfl,rfl,⟨hi,aT⟩,h,ba⟩:=hj;conv=>cbv
 have ei:=hi.eq;have aU:(Bi (ns.take i')).length=List.length (α:=LR) Ti:=by rw[h,Bh]
 rintro bg ⟨b7,f17⟩;conv=>cbv
 intro aY aA;conv=>cbv
 cases aY <;> conv=>cbv
 ·have aV:=AY aA;refine .inr ?_;obtain⟨J1,aa⟩:=xJ fun vs bl k=>∃(T:List LR) (o:List (el An)) (mm i':Nat) (i:Int),vs=[.one (.sl An L),.one (.sl (.sl AA) T),.one (.AQ An 9 0 0 mm),.one (.int .i64 i)]/\bl=[.arr 0 An o]/\(AR i i'/\i'<=L.length/\mm=o.length)/\T=tw (Bi ns)/\o=(ns.take i').map (fun n=>nm (Bi ns,n.2))/\k=L.length-i'
  refine⟨[(9,An,true)],[0,4,9,10],[9],J1,⟨L.length,by rw[aa];exact⟨Ti,[],0,0,0,rfl,rfl,⟨Ak 0,Nat.zero_le _,rfl⟩,by rw[h,List.take_of_length_le (show ns.length<=i' by omega)],rfl,rfl⟩⟩,?_⟩;intro vs bl bf hj;rw[aa] at hj;obtain⟨T,o,mm,i',i,rfl,rfl,⟨hi,aT,aq⟩,hT,hinv,bb⟩:=hj;conv=>cbv
  have ei:=hi.eq;have bc:o.length<=L.length:=by rw[hinv,List.length_map,List.length_take];omega
  rintro bh ⟨b8,f69⟩;conv=>cbv
  intro b2 aC;conv=>cbv
  cases b2 <;> conv=>cbv
  ·have aX:=AY aC;exact AD ⟨⟨rfl,.inl ⟨_,rfl,by omega,congrArg _ (by rw[hO,aq,hinv,List.drop_zero,List.take_length,List.take_of_length_le (show ns.length<=i' by omega)])⟩,trivial⟩,t2,trivial⟩
  have aX:=AZ aC;refine .inr ?_;obtain⟨a7,B⟩:=AL (l:=L) (i:=i') (by omega);refine⟨a7,fun _=>⟨by omega,by rw[show (i).toNat=i' by omega];exact B⟩,?_⟩;try conv=>cbv
  obtain⟨u,y,d,ar,Q⟩:=G3 hL B;have W:=List.mem_of_getElem? Q;have hu:TT u:=Y _ W;have au:El u S y:=aD _ W;have aF:List.length (α:=LR) a7.1=u.length:=by rw[d,Bh]
  have aE:Bb u (Bi ns):=OE G.toGam Y _ W;obtain⟨wC,ab⟩:=xR (em (Bi ns) y);obtain⟨aL,ad⟩:=EM (u<:+Bi ns);refine AB hE (LM (G.Ar U) (G.Ar hu) hT d ad) ?_;conv=>cbv
  refine .inr ?_;cases aL <;> conv=>cbv
  ·obtain⟨aK,aj⟩:=AL (l:=L) (i:=i') (by omega);refine⟨aK,fun _=>⟨by omega,by rw[show (i).toNat=i' by omega];exact aj⟩,?_⟩;try conv=>cbv
   have aR:aK=a7:=Option.some.inj (aj.symm.trans B);obtain⟨b3,aG⟩:=xV (tw (Bi ns));obtain⟨b4,af⟩:=xV (Dy (Bi ns) u);have ae:=OK (G.Ar U).red (G.Ar hu).red aE;refine AB (r:= .AJ [(false,[.sl (.sl AA) b3]),(false,[.sl (.sl AA) b4]),(false,[.int .i64 0])]) hE (NX G U hu hT (by rw[aR];exact d) (by rw[ae];exact aG) af) ?_;try conv=>cbv
   obtain⟨ak,a2⟩:=AL (l:=L) (i:=i') (by omega);refine⟨ak,fun _=>⟨by omega,by rw[show (i).toNat=i' by omega];exact a2⟩,?_⟩;try conv=>cbv
   have az:ak=a7:=Option.some.inj (a2.symm.trans B);refine AB (r:= .one (.sl AA wC)) hE (Yp G.toGam U hu aE hT (by rw[af];have:=Kn (G.Ar U).red (G.Ar hu).red;rwa [ae] at this) (by rw[az];exact ar) au ab) ?_;try conv=>cbv
   refine⟨[(T,wC)],fun _=>⟨rfl,by decide,rfl,⟨rfl,by first | exact t1 | exact t2 | exact t4 | simp[Aq,BG,cells],trivial⟩⟩,.inr ?_⟩;try conv=>cbv
   refine .inl ⟨[(T,wC)],fun _=>⟨rfl,aq,rfl,by show (o.length+1)*48<=140737488355328;(try simp only[List.length_take,List.length_drop]);omega⟩,?_⟩;intro (f:List (el An)) D g;have I:f=(o:List (el An))++([(T,wC)]:List (el An)):=g.1;have J:D=List.length (α:=(el An)) f:=g.2;conv=>cbv
   intro av aS;conv=>cbv
   refine AI ?_;refine⟨L.length-(i'+1),?_,?_⟩
   ·omega
   rw[aa];exact⟨T,f,D,i'+1,av,rfl,rfl,⟨⟨by omega⟩,by omega,J⟩,hT,by rw[I,hinv,Ck Q,List.map_append];simp[nm,hT,ab],rfl⟩
  obtain⟨aJ,ai⟩:=AL (l:=L) (i:=i') (by omega);refine⟨aJ,fun _=>⟨by omega,by rw[show (i).toNat=i' by omega];exact ai⟩,?_⟩;try conv=>cbv
  have aQ:aJ=a7:=Option.some.inj (ai.symm.trans B);refine AB (r:= .one (.sl AA wC)) hE (NZ (G.Ar U) hT (by rw[aQ];exact ar) au.mem (ad.1 rfl) ab) ?_;try conv=>cbv
  refine⟨[(T,wC)],fun _=>⟨rfl,by decide,rfl,⟨rfl,by first | exact t1 | exact t2 | exact t4 | simp[Aq,BG,cells],trivial⟩⟩,.inr ?_⟩;try conv=>cbv
  refine .inl ⟨[(T,wC)],fun _=>⟨rfl,aq,rfl,by show (o.length+1)*48<=140737488355328;(try simp only[List.length_take,List.length_drop]);omega⟩,?_⟩;intro (f:List (el An)) D g;have I:f=(o:List (el An))++([(T,wC)]:List (el An)):=g.1;have J:D=List.length (α:=(el An)) f:=g.2;conv=>cbv
  intro av aS;conv=>cbv
  refine AI ?_;refine⟨L.length-(i'+1),?_,?_⟩
  ·omega
  rw[aa];exact⟨T,f,D,i'+1,av,rfl,rfl,⟨⟨by omega⟩,by omega,J⟩,hT,by rw[I,hinv,Ck Q,List.map_append];simp[nm,hT,ab],rfl⟩
 have aV:=AZ aA;refine .inr ?_;obtain⟨F,b⟩:=AL (l:=L) (i:=i') (by omega);refine⟨F,fun _=>⟨by omega,by rw[show (i).toNat=i' by omega];exact b⟩,?_⟩;try conv=>cbv
 obtain⟨u,y,d,ar,Q⟩:=G3 hL b;have W:=List.mem_of_getElem? Q;have hu:TT u:=Y _ W;have au:El u S y:=aD _ W;have aF:List.length (α:=LR) F.1=u.length:=by rw[d,Bh]
 have N:=UL Q;unfold E2 at N
 dsimp only at N
 have Z:TT (Bi (ns.take i')):=G.Bi (fun n hn=>Y n (List.mem_of_mem_take hn));rintro aZ ⟨aM,f26⟩;conv=>cbv
 have b6:aZ=(u.length:Int):=aM.trans (congrArg (fun n:Nat=>(n:Int)) aF);rintro b0 ⟨aN,f28⟩;conv=>cbv
 have b5:b0=((Bi (ns.take i')).length:Int):=aN.trans (congrArg (fun n:Nat=>(n:Int)) aU.symm);intro b1 aB;conv=>cbv
 cases b1 <;> conv=>cbv
 ·have aW:=Bf aB;refine .inr ?_;obtain⟨a5,t⟩:=AL (l:=L) (i:=i') (by omega);refine⟨a5,fun _=>⟨by omega,by rw[show (i).toNat=i' by omega];exact t⟩,?_⟩;try conv=>cbv
  have an:a5=F:=Option.some.inj (t.symm.trans b);obtain⟨al,a⟩:=EM (u<:+(Bi (ns.take i')));refine AB (r:= .one (.bool al)) hE (LM (G.Ar Z) (G.Ar hu) h (by rw[an];exact d) a) ?_;try conv=>cbv
  intro C9 X;conv=>cbv
  refine .inr ?_;cases C9 <;> conv=>cbv
  ·have j:=CN X;intro m a8;conv=>cbv
   refine AI ?_;refine⟨L.length-(i'+1),?_,?_⟩
   ·omega
   rw[H];exact⟨_,i'+1,m,rfl,rfl,⟨⟨by omega⟩,by omega⟩,by rw[N,if_pos (a.1 j),<-h],rfl⟩
  have j:=CO X;obtain⟨a6,z⟩:=AL (l:=L) (i:=i') (by omega);refine⟨a6,fun _=>⟨by omega,by rw[show (i).toNat=i' by omega];exact z⟩,?_⟩;try conv=>cbv
  have ao:a6=F:=Option.some.inj (z.symm.trans b);obtain⟨aw,s⟩:=xV (tw (ext (Bi (ns.take i')) u));obtain⟨ax,a1⟩:=xV (Dy (Bi (ns.take i')) u);refine AB (r:= .AJ [(false,[.sl (.sl AA) aw]),(false,[.sl (.sl AA) ax]),(false,[.int .i64 0])]) hE (NX G Z hu h (by rw[ao];exact d) s a1) ?_;try conv=>cbv
  refine BK ?_;conv=>cbv
  intro m a8;conv=>cbv
  refine AI ?_;refine⟨L.length-(i'+1),?_,?_⟩
  ·omega
  rw[H];exact⟨_,i'+1,m,rfl,rfl,⟨⟨by omega⟩,by omega⟩,by rw[N,if_neg (fun q=>by have:=a.2 q;rw[j] at this;cases this),if_neg (fun M=>by first | (have:=P.2 M;cases this) | exact absurd (show u<:+Bi (List.take i' ns) from by rw[M.eq_of_length_le (by omega)];exact List.suffix_refl _) (fun q=>by have:=a.2 q;rw[j] at this;cases this)),s],rfl⟩
 have aW:=Bg aB;obtain⟨aH,ag⟩:=AL (l:=L) (i:=i') (by omega);refine⟨aH,fun _=>⟨by omega,by rw[show (i).toNat=i' by omega];exact ag⟩,?_⟩;try conv=>cbv
 have aO:aH=F:=Option.some.inj (ag.symm.trans b);obtain⟨ay,P⟩:=EM ((Bi (ns.take i'))<:+u);refine AB (r:= .one (.bool ay)) hE (LM (G.Ar hu) (G.Ar Z) (by rw[aO];exact d) h P) ?_;try conv=>cbv
 refine .inr ?_;cases ay <;> conv=>cbv
 ·obtain⟨a5,t⟩:=AL (l:=L) (i:=i') (by omega);refine⟨a5,fun _=>⟨by omega,by rw[show (i).toNat=i' by omega];exact t⟩,?_⟩;try conv=>cbv
  have an:a5=F:=Option.some.inj (t.symm.trans b);obtain⟨al,a⟩:=EM (u<:+(Bi (ns.take i')));refine AB (r:= .one (.bool al)) hE (LM (G.Ar Z) (G.Ar hu) h (by rw[an];exact d) a) ?_;try conv=>cbv
  intro C9 X;conv=>cbv
  refine .inr ?_;cases C9 <;> conv=>cbv
  ·have j:=CN X;intro m a8;conv=>cbv
   refine AI ?_;refine⟨L.length-(i'+1),?_,?_⟩
   ·omega
   rw[H];exact⟨_,i'+1,m,rfl,rfl,⟨⟨by omega⟩,by omega⟩,by rw[N,if_pos (a.1 j),<-h],rfl⟩
  have j:=CO X;obtain⟨a6,z⟩:=AL (l:=L) (i:=i') (by omega);refine⟨a6,fun _=>⟨by omega,by rw[show (i).toNat=i' by omega];exact z⟩,?_⟩;try conv=>cbv
  have ao:a6=F:=Option.some.inj (z.symm.trans b);obtain⟨aw,s⟩:=xV (tw (ext (Bi (ns.take i')) u));obtain⟨ax,a1⟩:=xV (Dy (Bi (ns.take i')) u);refine AB (r:= .AJ [(false,[.sl (.sl AA) aw]),(false,[.sl (.sl AA) ax]),(false,[.int .i64 0])]) hE (NX G Z hu h (by rw[ao];exact d) s a1) ?_;try conv=>cbv
  refine BK ?_;conv=>cbv
  intro m a8;conv=>cbv
  refine AI ?_;refine⟨L.length-(i'+1),?_,?_⟩
  ·omega
  rw[H];exact⟨_,i'+1,m,rfl,rfl,⟨⟨by omega⟩,by omega⟩,by rw[N,if_neg (fun q=>by have:=a.2 q;rw[j] at this;cases this),if_neg (fun M=>by first | (have:=P.2 M;cases this) | exact absurd (show u<:+Bi (List.take i' ns) from by rw[M.eq_of_length_le (by omega)];exact List.suffix_refl _) (fun q=>by have:=a.2 q;rw[j] at this;cases this)),s],rfl⟩
 obtain⟨aI,ah⟩:=AL (l:=L) (i:=i') (by omega);refine⟨aI,fun _=>⟨by omega,by rw[show (i).toNat=i' by omega];exact ah⟩,?_⟩;try conv=>cbv
 have aP:aI=F:=Option.some.inj (ah.symm.trans b);intro m a8;conv=>cbv
 refine AI ?_;refine⟨L.length-(i'+1),?_,?_⟩
 ·omega
 rw[H];exact⟨_,i'+1,m,rfl,rfl,⟨⟨by omega⟩,by omega⟩,by rw[N,if_neg (fun M=>by have:=M.length_le;omega),if_pos (P.1 rfl),aP];exact d,rfl⟩
end Go.Abs
namespace Go.Abs
abbrev Nu:=List (List Rat)×Re
def CY (q:Rat):Prop:=q.num.natAbs<18446744073709551616/\q.den<18446744073709551616
theorem S6:∀{a:List Rat},(∀q∈a,CY q)->∃D:Nat,0<D/\D<=2^(64*a.length)/\DN D a
 | [],_=>⟨1,by decide,by simp,fun q d=>by simp at d⟩
 | q::a,h=>by
  obtain⟨D,f,g,j⟩:=S6 (a:=a) (fun x b=>h x (List.mem_cons_of_mem _ b));have d:=(h q List.mem_cons_self).2;refine⟨q.den*D,Nat.mul_pos q.den_pos f,?_,fun x b=>?_⟩
  ·have:=Nat.mul_le_mul (show q.den<=2^64 by omega) g;rw[<-Nat.pow_add] at this;rw[List.length_cons,show 64*(a.length+1)=64+64*a.length by omega];exact this
  rcases List.mem_cons.1 b with rfl | b
  ·refine⟨x.num*D,?_⟩;rw[Rat.intCast_mul,<-JK x,Fw];have:((D:Int):Rat)=(D:Rat):=rfl
   grind
  exact j.dvd ⟨q.den,by grind⟩ x b
theorem cy {q:Rat} {B:Nat} (h:q.num.natAbs<=B): -(B:Rat)<=q/\q<=B:=by
 have g:1<=q.den:=q.den_pos;have j:B*1<=B*q.den:=Nat.mul_le_mul_left B g
 have key:q.num<=(B:Int)*q.den/\ -((B:Int)*q.den)<=q.num:=by
  have:((B*q.den:Nat):Int)=(B:Int)*q.den:=Int.natCast_mul _ _;omega
 have e:=JK q
 have d:(0:Rat)<q.den:=by
  have:((0:Nat):Rat)<(q.den:Rat):=Rat.natCast_lt_natCast.2 q.den_pos;simpa using this
 have k1:(q.num:Rat)<=(B:Rat)*q.den:=by
  have:=Rat.intCast_le_intCast.2 key.1;rw[Rat.intCast_mul] at this;exact this
 have k2: -((B:Rat)*q.den)<=(q.num:Rat):=by
  have:=Rat.intCast_le_intCast.2 key.2;rw[Rat.intCast_neg,Rat.intCast_mul] at this;exact this
 rw[<-e] at k1 k2
 constructor
 ·apply Classical.byContradiction;intro f;have:=Rat.mul_pos (a:= -(B:Rat)-q) (b:=q.den) (by grind) d
  grind
 apply Classical.byContradiction;intro f;have:=Rat.mul_pos (a:=q-(B:Rat)) (b:=q.den) (by grind) d
 grind
theorem Lc {a:List Rat} (h:∀q∈a,CY q):Bd (64*a.length) a:=by
 obtain⟨D,d,f,g⟩:=S6 h;refine⟨D,d,f,g,fun q b=>?_⟩;have j:1<=a.length:=List.length_pos_of_mem b;exact cy (Nat.le_trans (Nat.le_of_lt (h q b).1) (show 2^64<=2^(64*a.length) from Cg))
structure CL (V:List Re) (n:Nu):Prop where
 red:Ag n.1
 mem:In n.1 n.2
 Bu:∀v∈Bu n.1,v∈V
 HG:∀s∈n.1,∀q∈s,CY q
 cos:∀q∈co n.1 n.2,CY q
theorem CL.mono {V a:List Re} {n:Nu} (h:CL V n) (b:∀v∈V,v∈a):CL a n:=⟨h.red,h.mem,fun v d=>b v (h.Bu v d),h.HG,h.cos⟩
theorem CL.len {V:List Re} {n:Nu} (h:CL V n):n.1.length<=V.length:=by rw[<-QA];exact O0 (QB h.red) h.Bu
theorem PM:∀{u:List (List Rat)} {r:List Rat},Ag u->r∈u->2*r.length<=2^u.length
 | [],_,_,h=>by simp at h
 | s::u,r,h,a=>by
  rw[Br];rcases List.mem_cons.1 a with rfl | a
  ·rw[h.2.1];omega
  have:=PM h.1 a;omega
theorem XF {u w:List (List Rat)} (h:u<:+w):∀v∈Bu u,v∈Bu w:=by
 obtain⟨t,rfl⟩:=h
 induction t with
 | nil=>exact fun v a=>a
 | cons r t b=>exact fun v a=>List.mem_cons_of_mem _ (b v a)
def PN (ns:List Nu) (u:List (List Rat)):Prop:=∃n∈ns,u<:+n.1
section
variable {V:List Re} {ns:List Nu}
theorem VT {k:Nat} (h:k<=3):2^k<=8:=Cg h
theorem PN.H8 (f:V.length<=3) (h:∀n∈ns,CL V n):FM (PN ns) 256:=by
 refine⟨fun {u} ⟨n,a,d⟩=>Vi d (h n a).red,fun {u} ⟨n,a,d⟩=>fun r g=>?_,fun {r u} ⟨n,a,d⟩=>⟨n,a,(List.suffix_cons r u).trans d⟩⟩;have b:=d.subset g;have j:=PM (h n a).red b;have k:=VT (Nat.le_trans (h n a).len f);exact (Lc ((h n a).HG r b)).mono (by omega)
theorem PN.Bu (h:∀n∈ns,CL V n) {u:List (List Rat)} (hu:PN ns u):∀v∈Bu u,v∈V:=by
 obtain⟨n,a,b⟩:=hu;exact fun v d=>(h n a).Bu v (XF b v d)
theorem PN.self {n:Nu} (a:n∈ns):PN ns n.1:=⟨n,a,List.suffix_refl _⟩
end
theorem CL.el {V:List Re} {n:Nu} (h:CL V n) (a:V.length<=3):El n.1 512 n.2:=by
 refine⟨h.mem,(Lc h.cos).mono ?_⟩;have b:=VT (Nat.le_trans h.len a);rw[Cz h.mem];omega
abbrev Rm:Nat:=93478
abbrev Cm:Nat:=53200000
abbrev Sm:Nat:=500000000000
theorem eO:RR 256 3<=Rm:=by decide +kernel
theorem Z7:CC 3 Rm 3 Rm<=Cm:=by decide +kernel
theorem bA:∀h,h<=3->Fit h Rm (Sm+Cm)
 |0,_|1,_|2,_|3,_=>⟨by decide +kernel,by decide +kernel,by decide +kernel,by decide +kernel⟩
 | _+4,h=>absurd h (by omega)
theorem a8:∀h,h<=3->D8 h Rm (Sm+Cm)
 |0,_|1,_|2,_|3,_=>⟨by decide +kernel,by decide +kernel,by decide +kernel,by decide +kernel⟩
 | _+4,h=>absurd h (by omega)
theorem cn:2*(Sm+Cm)+EE 3 Rm<=60000000000000:=by decide +kernel
theorem TX {P:List (List Rat)->Prop} (I:FM P 256) (hm:∀{u},Tf P u->u.length<=3) {S:Nat} (a:Rm<=S) (d:S<=Sm):Du (Tf P) Rm Cm S:=
 {Tf.gam I hm eO a Z7 (fun h b=>(bA h b).mono (by omega)) (Nat.le_trans (by omega) cn) with L3:=fun {u} hu=>(a8 _ (hm hu)).mono (by omega)}
open Classical in
noncomputable def F3 (x:Re):Re:=if h:x≠0 then Classical.choose (Re.KN h) else 0
theorem Od {x:Re} (h:x≠0):x*F3 x=1:=by
 unfold F3;rw[dif_pos h];exact Classical.choose_spec (Re.KN h)
theorem OZ {u:List (List Rat)} {x:Re} (hu:Ag u) (d:In u x) (a:x≠0):In u (F3 x):=by
 obtain⟨y,f,e⟩:=EP hu d a;have b:=Od a
 rw[show F3 x=y by
  have:F3 x=F3 x*(x*y):=by rw[e];grind
  rw[this];have:F3 x*(x*y)=(x*F3 x)*y:=by grind
  rw[this,b];grind]
 exact f
open Classical in
noncomputable def Cy (x:Re):Re:=if x<0 then -x else x
theorem Ib (x:Re):0<=Cy x:=by unfold Cy;split <;> grind
theorem Tw {u:List (List Rat)} {x:Re} (a:In u x):In u (Cy x):=by unfold Cy;split;exact GX a;exact a
open Classical in
noncomputable def FB (n:Nu):Nu:=if h:Ag n.1/\In n.1 n.2 then (Classical.choose (P6 h.1 h.2 (Nat.le_refl _)),n.2) else n
theorem P4 {n:Nu} (a:Ag n.1) (b:In n.1 n.2):GL n.1.length (n.1.reverse,co n.1 n.2)=((FB n).1.reverse,co (FB n).1 (FB n).2)/\Gp n.1 n.2 (FB n).1/\(FB n).2=n.2:=by
 unfold FB;rw[dif_pos ⟨a,b⟩];have:=Classical.choose_spec (P6 a b (Nat.le_refl _));exact⟨this.1,this.2,rfl⟩
def HK (n:Nu):Prop:=(∃q∈co n.1 n.2,¬CY q)\/∃s∈n.1,∃q∈s,¬CY q
noncomputable def Dq (k:Nat) (a b:Nu) (roots:Nat):Nu×Nat:=by
 classical
 exact if k=1 then ((Bm a.1 b.1,a.2+b.2),roots)
 else if k=2 then ((Bm a.1 b.1,a.2-b.2),roots)
 else if k=3 then ((Bm a.1 b.1,a.2*b.2),roots)
 else if k=4 then (if b.2=0 then a else (Bm a.1 b.1,a.2*F3 b.2),roots)
 else if roots<3 then ((BM a.1 (Cy a.2),Re.sqrt (Cy a.2)),roots+1) else (a,roots)
def K5:Nu:=([],0)
noncomputable def Da (l:List Nu) (i:Nat):Nu:=l.getD (i%l.length) K5
def IT (n:Int):Int:=(n+9223372036854775808)%18446744073709551616-9223372036854775808
theorem QE (n:Int): -9223372036854775808<=IT n/\IT n<9223372036854775808:=by unfold IT;omega
def Fg (o:el CT):Rat:=Rat.divInt (IT o.2.2.2.1) ((o.2.2.2.2.toNat%8+1:Nat):Int)
noncomputable def C5 (st:List Nu×Nat) (o:el CT):Nu×Nat:=by
 classical
 exact if st.1=[]\/o.1.toNat%6=0 then (([],Re.ofRat (Fg o)),st.2) else Dq (o.1.toNat%6) (Da st.1 o.2.1.toNat) (Da st.1 o.2.2.1.toNat) st.2
noncomputable def E3 (l:List Nu) (x:Nu):Nu:=by
 classical
 exact if l≠[]/\HK x then l.getLastD K5 else x
noncomputable def HI (st:List Nu×Nat) (o:el CT):List Nu×Nat:=(st.1++[FB (E3 st.1 (C5 st o).1)],(C5 st o).2)
noncomputable def runN (xs:List (el CT)):List Nu×Nat:=xs.foldl HI ([],0)
theorem V3 (xs:List (el CT)) (o:el CT):runN (xs++[o])=HI (runN xs) o:=by rw[runN,List.foldl_append];rfl
def IX (st:List Nu×Nat):Prop:=st.2<=3/\∃V:List Re,V.length<=st.2/\∀n∈st.1,CL V n
theorem CL.trim {V:List Re} {n:Nu} (h:CL V n):CL V (FB n):=by
 obtain⟨_,t,e⟩:=P4 h.red h.mem;refine⟨t.red,by rw[e];exact t.mem,fun v g=>h.Bu v (t.Bu v g),fun s f q a=>?_,fun q a=>?_⟩
 ·obtain⟨j,d,b⟩:=t.HG s f;exact h.HG j d q (b q a)
 rw[e] at a;exact h.cos q (t.cos q a)
theorem CL.dN {V:List Re} {n:Nu} (d:Ag n.1) (f:In n.1 n.2) (g:∀v∈Go.Abs.Bu n.1,v∈V) (h:¬HK n):CL V n:=
 ⟨d,f,g,fun s j q b=>Classical.byContradiction fun a=>h (.inr ⟨s,j,q,b,a⟩),fun q b=>Classical.byContradiction fun a=>h (.inl ⟨q,b,a⟩)⟩
theorem OR {l:List Nu} (h:l≠[]) (i:Nat):Da l i∈l:=by
 have:i%l.length<l.length:=Nat.mod_lt _ (List.length_pos_iff.2 h);unfold Da;rw[List.getD_eq_getElem?_getD,List.getElem?_eq_getElem this];exact List.getElem_mem this
theorem cK {l:List Nu} (h:l≠[]):l.getLastD K5∈l:=by
 cases l with
 | nil=>exact absurd rfl h
 | cons a l=>rw[List.getLastD_cons];cases l with
  | nil=>exact List.mem_cons_self
  | cons b l=>rw[List.getLastD_eq_getLast?];exact List.mem_cons_of_mem _ (by
   rw[List.getLast?_eq_some_getLast (by simp)];exact List.getLast_mem _)
section
variable {V:List Re} {ns:List Nu}
theorem FY (a:V.length<=3) (h:∀n∈ns,CL V n) {S:Nat} (b:Rm<=S) (d:S<=Sm:=by first|omega|decide):Du (Tf (PN ns)) Rm Cm S:=
 TX (PN.H8 a h) (fun {u} hu=>Nat.le_trans (hu.len (PN.H8 a h) (fun f=>PN.Bu h f)) a) b d
theorem EB (a:V.length<=3) (h:∀n∈ns,CL V n) {n:Nu} (b:n∈ns):Tf (PN ns) n.1:=Tf.of (PN.H8 a h) (PN.self b)
structure Jm (V:List Re) (n:Nu):Prop where
 red:Ag n.1
 mem:In n.1 n.2
 Bu:∀v∈Bu n.1,v∈V
theorem Jm.Mb (a:V.length<=3) (h:∀n∈ns,CL V n) {n:Nu} (ht:Tf (PN ns) n.1) (hm:In n.1 n.2):Jm V n:=
 ⟨ht.red (PN.H8 a h),hm,ht.Bu (PN.H8 a h) (fun b=>PN.Bu h b)⟩
theorem CL.Vo {n:Nu} (h:CL V n):Jm V n:=⟨h.red,h.mem,h.Bu⟩
theorem az (d:V.length<=3) (h:∀n∈ns,CL V n) {a b:Nu} (f:a∈ns) (g:b∈ns):Tf (PN ns) (Bm a.1 b.1)/\In (Bm a.1 b.1) a.2/\In (Bm a.1 b.1) b.2:=by
 have G:=(FY d h (Nat.le_refl Rm)).toGam;obtain⟨j,k,l⟩:=G.Bm (EB d h f) (EB d h g);exact⟨j,k _ (h a f).mem,l _ (h b g).mem⟩
theorem XD {u:List (List Rat)} {v:Re} (d:In u v):∀x∈Bu (BM u v),x=v\/x∈Bu u:=by
 by_cases b:Sq u v
 ·rw[FR b];exact fun x a=> .inr a
 rw[Fu b];intro x a;rcases List.mem_cons.1 a with rfl | a
 ·exact .inl (EY d)
 exact .inr a
theorem Vf {u:List (List Rat)} {v:Re} (h:Ag u) (a:In u v) (d:0<=v):Ag (BM u v):=by
 by_cases b:v=0
 ·subst b;rw[FR ⟨0,CH u,by grind⟩];exact h
 exact PS h a (by grind)
theorem Kf {st:List Nu×Nat} (h:IX st) (o:el CT):(C5 st o).2<=3/\∃V,V.length<=(C5 st o).2/\(∀n∈st.1,CL V n)/\Jm V (C5 st o).1:=by
 obtain⟨g,V,j,d⟩:=h;have f:=Nat.le_trans j g;unfold C5
 split
 ·exact⟨g,V,j,d,trivial,⟨[Fg o],rfl,rfl⟩,fun v l=>by simp[Go.Abs.Bu] at l⟩
 rename_i H
 have s:st.1≠[]:=fun e=>H (.inl e)
 have m:=OR s o.2.1.toNat;have G:=OR s o.2.2.1.toNat
 generalize Da st.1 o.2.1.toNat=a at*
 generalize Da st.1 o.2.2.1.toNat=b at*
 obtain⟨t,z,B⟩:=az f d m G;have F:=t.red (PN.H8 f d);unfold Dq
 split
 ·exact⟨g,V,j,d,.Mb f d t (C0 z B)⟩
 split
 ·exact⟨g,V,j,d,.Mb f d t (EZ z B)⟩
 split
 ·exact⟨g,V,j,d,.Mb f d t (Am F z B)⟩
 split
 ·refine⟨g,V,j,d,?_⟩
  dsimp only
  split
  ·exact (d a m).Vo
  rename_i D
  exact .Mb f d t (Am F z (OZ F B D))
 split
 ·rename_i I
  have k:=Tw (d a m).mem;refine⟨by show st.2+1<=3;omega,Cy a.2::V,by show _+1<=st.2+1;omega,fun n hm=>(d n hm).mono fun v l=>List.mem_cons_of_mem _ l,Vf (d a m).red k (Ib _),Rc k (Ib _),fun v l=>?_⟩;rcases XD k v l with rfl | l
  ·exact List.mem_cons_self
  exact List.mem_cons_of_mem _ ((d a m).Bu v l)
 exact⟨g,V,j,d,(d a m).Vo⟩
end
theorem fM {n:Int} {d:Nat} (b:n.natAbs<18446744073709551616) (f:0<d) (a:d<18446744073709551616):CY (Rat.divInt n d):=by
 have e:(Rat.divInt n d)=mkRat n d:=Rat.divInt_ofNat n d;rw[e]
 constructor
 ·have:=Rat.num_mkRat n d;rw[this]
  split
  ·simp
  refine Nat.lt_of_le_of_lt ?_ b;exact Int.natAbs_ediv_le_natAbs _ _
 have:=Rat.den_mkRat n d;rw[this]
 split
 ·decide
 exact Nat.lt_of_le_of_lt (Nat.div_le_self _ _) a
theorem Oi {V:List Re} {l:List Nu} {x:Nu} (f:∀n∈l,CL V n) (a:Jm V x) (d:l=[]->¬HK x):CL V (E3 l x):=by
 unfold E3
 split
 ·rename_i h;exact f _ (cK h.1)
 rename_i h
 refine .dN a.red a.mem a.Bu fun b=>?_
 by_cases he:l=[]
 ·exact d he b
 exact h ⟨he,b⟩
theorem PR (o:el CT):¬HK ([],Re.ofRat (Fg o)):=by
 have f:CY (Fg o):=fM (by have:=QE o.2.2.2.1;omega) (by omega) (by omega);rintro (⟨q,d,b⟩ |⟨s,a,_⟩)
 ·rw[DY] at d;rw[List.mem_singleton.1 d] at b;exact b f
 simp at a
theorem gM {st:List Nu×Nat} (h:IX st) (o:el CT):IX (HI st o):=by
 obtain⟨d,V,f,b,g⟩:=Kf h o;refine⟨d,V,f,fun n a=>?_⟩;rcases List.mem_append.1 a with a | a
 ·exact b n a
 rw[List.mem_singleton.1 a];refine (Oi b g fun he=>?_).trim;have:(C5 st o).1=([],Re.ofRat (Fg o)):=by unfold C5;rw[if_pos (.inl he)]
 rw[this];exact PR o
theorem V9:∀{xs:List (el CT)} {st:List Nu×Nat},IX st->IX (xs.foldl HI st)
 | [],_,h=>h
 | o::xs,_,h=>V9 (xs:=xs) (gM h o)
theorem Pe (xs:List (el CT)):IX (runN xs):=V9 ⟨by decide,[],by simp,by simp⟩
end Go.Abs
namespace Go.Abs
open Go.RowKit
variable {A1 A2 C:LR} {K K2 R S S2:Nat} {T T1 T2:List LR} {TT:List (List Rat)->Prop} {c:Int} {q:Rat} {u v:List (List Rat)} {x y:Re}
theorem RU (G:Du TT R K S) (hu:TT u) (N:TT v) (m:T1=tw u) (o:T2=tw v) (j:A1=em u x) (k:A2=em v y) (P:El u S x) (Q:El v S y) {A B:LR} (M:T=tw (Bm u v)) (H:A=em (Bm u v) x) (I:B=em (Bm u v) y):CF 104 [.agg (Ay T1 A1),.agg (Ay T2 A2)] (.AJ [(true,(Ay T A)),(true,(Ay T B)),(false,[.int .i64 0])]):=by
 obtain⟨O,h⟩:∃z:List (el An),z=[(T,A),(T,B)]:=⟨_,rfl⟩
 have L:O.length=2:=by rw[h];rfl
 have D:O[0]? =some (T,A):=by rw[h];rfl
 have F:O[1]? =some (T,B):=by rw[h];rfl
 refine AM Tryz.func104 fun E J=>?_
 conv=>cbv
 refine⟨[(T1,A1),(T2,A2)],fun _=>⟨rfl,by decide,rfl,⟨rfl,by first | exact t1 | exact t2 | exact t4 | simp[Aq,BG,cells],⟨rfl,by first | exact t1 | exact t2 | exact t4 | simp[Aq,BG,cells],trivial⟩⟩⟩,.inr ?_⟩;try conv=>cbv
 refine AB (r:= .AJ [(false,[.sl An O]),(false,[.int .i64 0])]) J (YO (ns:=[(u,x),(v,y)]) G (by intro n g;simp at g;rcases g with rfl | rfl;exact hu;exact N) (by rw[m,o,j,k];rfl) (by intro n g;simp at g;rcases g with rfl | rfl;exact P;exact Q) (by show 2<=1000000;decide) (by rw[h,M,H,I];rfl)) ?_;try conv=>cbv
 refine BK ?_;conv=>cbv
 obtain⟨s,a⟩:=AL (l:=O) (i:=0) (by omega);refine⟨s,fun _=>⟨by omega,a⟩,?_⟩;try conv=>cbv
 obtain⟨t,b⟩:=AL (l:=O) (i:=1) (by omega);refine⟨t,fun _=>⟨by omega,b⟩,?_⟩;try conv=>cbv
 refine g2 rfl ?_;have d:=Option.some.inj (a.symm.trans D);have f:=Option.some.inj (b.symm.trans F);exact AD ⟨⟨rfl,congrArg _ (by rw[d]),congrArg _ (by rw[d]),trivial⟩,⟨rfl,congrArg _ (by rw[f]),congrArg _ (by rw[f]),trivial⟩,t2,trivial⟩
theorem Qv (G:Du TT R K S) (hu:TT u) (k:TT v) (f:T1=tw u) (g:T2=tw v) (b:A1=em u x) (d:A2=em v y) (t:El u S x) (z:El v S y) (F:T=tw (Bm u v)) (D:C=em (Bm u v) (x+y)):CF 59 [.agg (Ay T1 A1),.agg (Ay T2 A2)] (.AJ [(true,(Ay T C)),(false,[.int .i64 0])]):=by
 obtain⟨a,h,j⟩:=G.toGam.Bm hu k;have l:=G.CG hu a h t;have m:=G.CG k a j z;have hmul:=G.mul a;obtain⟨A,n⟩:=DS (em (Bm u v) x);obtain⟨B,o⟩:=DS (em (Bm u v) y);refine AM Tryz.func59 fun E s=>?_
 conv=>cbv
 refine AB s (RU G hu k f g b d t z F n o) ?_;conv=>cbv
 refine BK ?_;conv=>cbv
 refine AB s (Hv (G.Ar a) n o l m (by omega) (by omega) D) ?_;conv=>cbv
 refine g2 rfl ?_;exact AD ⟨t3,t2,trivial⟩
theorem Qx (G:Du TT R K S) (hu:TT u) (k:TT v) (f:T1=tw u) (g:T2=tw v) (b:A1=em u x) (d:A2=em v y) (z:El u S x) (D:El v S y) (t:T=tw (Bm u v)) (F:C=em (Bm u v) (x*y)):CF 47 [.agg (Ay T1 A1),.agg (Ay T2 A2)] (.AJ [(true,(Ay T C)),(false,[.int .i64 0])]):=by
 obtain⟨a,h,j⟩:=G.toGam.Bm hu k;have l:=G.CG hu a h z;have m:=G.CG k a j D;have hmul:=G.mul a;obtain⟨A,n⟩:=DS (em (Bm u v) x);obtain⟨B,o⟩:=DS (em (Bm u v) y);refine AM Tryz.func47 fun E s=>?_
 conv=>cbv
 refine AB s (RU G hu k f g b d z D t n o) ?_;conv=>cbv
 refine BK ?_;conv=>cbv
 refine AB s (DW (G.Ar a) t n o l m (by omega) F) ?_;conv=>cbv
 refine g2 rfl ?_;exact AD ⟨t3,t2,trivial⟩
theorem NV (G:Du TT R K S) (hu:TT u) (f:T1=tw u) (a:A1=em u x) (g:El u S x) (b:C=em u (-x)):CF 33 [.agg (Ay T1 A1)] (.agg (Ay T1 C)):=by
 refine AM Tryz.func33 fun E d=>?_
 conv=>cbv
 refine AB d (Ia (G.Ar hu) a g b) ?_;conv=>cbv
 refine g2 rfl ?_;exact AD ⟨t3,trivial⟩
theorem Qz (G:Du TT R K S) (hu:TT u) (h:TT v) (g:T1=tw u) (a:T2=tw v) (d:A1=em u x) (f:A2=em v y) (n:El u S x) (k:El v S y) (m:T=tw (Bm u v)) (l:C=em (Bm u v) (x-y)):CF 88 [.agg (Ay T1 A1),.agg (Ay T2 A2)] (.AJ [(true,(Ay T C)),(false,[.int .i64 0])]):=by
 refine AM Tryz.func88 fun E j=>?_
 conv=>cbv
 obtain⟨o,b⟩:=DS (em v (-y));refine AB j (NV G h a f k b) ?_;conv=>cbv
 refine AB j (Qv G hu h g a d b n (k.neg (G.Ar h).red) m l) ?_;conv=>cbv
 refine g2 rfl ?_;exact AD ⟨t3,t2,trivial⟩
theorem Jt (G:Du TT R K S) (hu:TT u) (b:T1=tw u) (a:A1=em u x) (g:El u S x) (f:c=BJ x):CF 24 [.agg (Ay T1 A1)] (.one (.int .i64 c)):=by
 refine AM Tryz.func24 fun E d=>?_
 conv=>cbv
 refine AB d (YM (G.Ar hu) b a g ((G.L3 hu).mono (Nat.le_add_right _ _)).v0 f) ?_;conv=>cbv
 exact AD ⟨t2,trivial⟩
theorem Qy (G:Du TT R K S) (hu:TT u) (b:T1=tw u) (a:A1=em u x) (j:El u S x) (hw:TT (BM u x)) (d:0<=x) (h:T=tw (BM u x)) (f:C=em (BM u x) (Re.sqrt x)):CF 89 [.agg (Ay T1 A1)] (.AJ [(true,(Ay T C)),(false,[.int .i64 0])]):=by
 refine AM Tryz.func89 fun E g=>?_
 conv=>cbv
 refine AB g (Qr (G.Ar hu) (G.Ar hw) (G.ht hw) b a j ((G.L3 hu).mono (Nat.le_add_right _ _)) d h f) ?_;conv=>cbv
 refine BK ?_;conv=>cbv
 exact AD ⟨t3,t2,trivial⟩
theorem YT (G:Du TT R K S) (hu:TT u) (m:TT v) (h:T1=tw u) (b:T2=tw v) (d:A1=em u x) (f:A2=em v y) (t:El u S x) (z:El v S y) {i:Re} (s:In v i) (k:y*i=1) (j:El v S i) (g:II v.length R S<=60000000000000) (o:T=tw (Bm u v)) (n:C=em (Bm u v) (x*i)):CF 81 [.agg (Ay T1 A1),.agg (Ay T2 A2)] (.AJ [(true,(Ay T C)),(false,[.int .i64 0])]):=by
 refine AM Tryz.func81 fun E l=>?_
 conv=>cbv
 obtain⟨B,a⟩:=DS (em v i);refine AB l (LN (G.Ar m) b f z s k g a) ?_;conv=>cbv
 refine BK ?_;conv=>cbv
 refine AB l (Qx G hu m h b d a t j o n) ?_;conv=>cbv
 exact AD ⟨t3,t2,trivial⟩
theorem YU (G:Du TT R K S) (hu:TT u) (j:TT v) (h:T1=tw u) (b:T2=tw v) (f:A1=em u x) (a:A2=em v y) (k:El u S x) (l:El v S y) (d:y=0):CF 81 [.agg (Ay T1 A1),.agg (Ay T2 A2)] (.AJ [(true,(Ay [] [])),(false,[.int .i64 6])]):=by
 refine AM Tryz.func81 fun E g=>?_
 conv=>cbv
 refine AB (r:= .AJ [(false,[.sl AA []]),(false,[.int .i64 6])]) g (RI (G.Ar j) b (a.trans (by rw[d]))) ?_;conv=>cbv
 refine Cc ?_;conv=>cbv
 exact AD ⟨⟨rfl,Bo,Bo,trivial⟩,t2,trivial⟩
theorem YS (G:Du TT R K S) (hu:TT u) (m:TT v) (h:T1=tw u) (j:T2=tw v) (f:A1=em u x) (g:A2=em v y) (t:El u S x) (z:El v S y) (B:Du TT R K2 S2) (F:2*(S+K)+1<=S2) (D:c=BJ (x-y)):CF 100 [.agg (Ay T1 A1),.agg (Ay T2 A2)] (.AJ [(false,[.int .i64 c]),(false,[.int .i64 0])]):=by
 obtain⟨a,k,l⟩:=G.toGam.Bm hu m;have n:=G.CG hu a k t;have o:=G.CG m a l z;have hmul:=G.mul a;refine AM Tryz.func100 fun E s=>?_
 conv=>cbv
 obtain⟨I,d⟩:=HF (tw (Bm u v));obtain⟨H,b⟩:=DS (em (Bm u v) (x-y));refine AB s (Qz G hu m h j f g t z d b) ?_;conv=>cbv
 refine BK ?_;conv=>cbv
 refine AB s (Jt B a d b ((n.sub (G.Ar a).red o).mono (by omega)) D) ?_;conv=>cbv
 exact AD ⟨t2,t2,trivial⟩
theorem YV (G:Du TT R K S) (hu:TT u) (o:TT v) (g:T1=tw u) (j:T2=tw v) (d:A1=em u x) (f:A2=em v y) (s:El u S x) (t:El v S y) (k:Du TT R K2 S2) (m:2*(S+K)+1<=S2) {c:Bool} (n:c=true↔x=y):CF 35 [.agg (Ay T1 A1),.agg (Ay T2 A2)] (.one (.bool c)):=by
 refine AM Tryz.func35 fun E l=>?_
 conv=>cbv
 obtain⟨B,a⟩:=xI (BJ (x-y));refine AB l (YS G hu o g j d f s t k m a) ?_;conv=>cbv
 refine Cc ?_;conv=>cbv
 intro z b;conv=>cbv
 exact AD ⟨⟨rfl,congrArg _ (by rw[Bool.eq_iff_iff,n,b,beq_iff_eq,a,JP];constructor <;> intro h <;> grind),trivial⟩,trivial⟩
theorem LK {b1 b2:Bool} {l1 l2:List UInt32} (b:BE q b1 l1 b2 l2) (a:C=em [] (Re.ofRat q)):CF 45 [.agg (BV b1 l1 b2 l2)] (.agg (Ay [] C)):=by
 refine AM Tryz.func45 fun E d=>?_
 conv=>cbv
 refine⟨[((b1,l1),(b2,l2))],fun _=>⟨rfl,by decide,rfl,⟨rfl,by first | exact t1 | exact t2 | exact t4 | simp[Aq,BG,cells],trivial⟩⟩,.inr ?_⟩;try conv=>cbv
 exact AD ⟨⟨rfl,Bo,congrArg _ (by rw[a,Dl,<-b.rp]),trivial⟩,trivial⟩
theorem Ht {x:Int} (f: -9223372036854775808<=x/\x<9223372036854775808) (d:C=em [] (Re.ofRat x)):CF 20 [.one (.int .i64 x)] (.agg (Ay [] C)):=by
 refine AM Tryz.func20 fun E b=>?_
 conv=>cbv
 obtain⟨j,k,g,h,a⟩:=Bl (x:Rat);refine AB b (D3 f rfl a) ?_;conv=>cbv
 refine AB b (LK a d) ?_;conv=>cbv
 exact AD ⟨t3,trivial⟩
theorem Qw {n d:Int} (j: -9223372036854775808<=n/\n<9223372036854775808) (h: -9223372036854775808<=d/\d<9223372036854775808) (f:d≠0) (k:q=Rat.divInt n d) (g:C=em [] (Re.ofRat q)):CF 86 [.one (.int .i64 n),.one (.int .i64 d)] (.agg (Ay [] C)):=by
 refine AM Tryz.func86 fun E b=>?_
 conv=>cbv
 obtain⟨o,s,l,m,a⟩:=Bl q;refine AB b (NT j h f k a) ?_;conv=>cbv
 refine AB b (LK a g) ?_;conv=>cbv
 exact AD ⟨t3,trivial⟩
end Go.Abs
