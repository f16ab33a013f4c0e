/- Part 24 of a proof. Conditions: each theorem's own. -/
import Derived.Test.YtmhbikooakmagaaGreatRk22
set_option linter.all false
set_option maxHeartbeats 8000000
set_option maxRecDepth 20000
open Go.Proofs
namespace Go.Abs
open Go.RowKit
structure ES (h R s:Nat):Prop where
 q:SS h R s<=60000000000000
 v:VV h R (s+GG h R)<=60000000000000
 qR:SS h R R<=60000000000000
 vR:VV h R R<=60000000000000
variable {A B:LR} {R':Nat} {T T2:List LR} {r:List Rat} {u:List (List Rat)} {v x:Re}
theorem ES.v0 {h R s:Nat} (f:ES h R s):VV h R s<=60000000000000:=Nat.le_trans (HY h R (by omega)) f.v
theorem ES.s {h R s:Nat} (f:ES h R s):s<=60000000000000:=Nat.le_trans (TY h R s) f.q
theorem ES.mono {h R s t:Nat} (f:ES h R s) (ht:t<=s):ES h R t:=⟨Nat.le_trans (M4 h R ht) f.q,Nat.le_trans (HY h R (by omega)) f.v,f.qR,f.vR⟩
theorem bz:∀(h R s:Nat),SS h R s<=SS (h+1) R s:=fun h R s=>Nat.le_trans (M4 h R (by unfold TQ;omega)) (TX h R s)
theorem TZ {i h:Nat} (hi:i<=h) (R s:Nat):SS i R s<=SS h R s:=by
 induction hi with
 | refl=>exact Nat.le_refl _
 | step _ a=>exact Nat.le_trans a (bz _ _ _)
theorem dd {R s:Nat} (h:Ae R u) (y:T=tw u) (z:A=em u x) (F:El u s x) (n:ES u.length R s) {w:Re} (hw:In u w) (d:w*w=x) (G:Hb u x w) (j:0<=v) (k:v*v=x) (t:B=em u v):CF 343 [.one (.sl (.sl AA) T),.one (.sl AA A)] (.AG [(false,[.sl AA B]),(false,[.bool true])]):=by
 have l:=F.sqrt h hw d;refine AJ Tryz.func343 fun E m=>?_
 conv=>cbv
 obtain⟨I,a⟩:=xR (em u w);refine AB m (G y z a) ?_;conv=>cbv
 refine AU ?_;conv=>cbv
 obtain⟨H,g⟩:=xI (An w);refine AB m (F5 h y a l n.v (Nat.le_trans (FU _ _ _) n.v) n.vR g) ?_;conv=>cbv
 intro n19 f;conv=>cbv
 refine .inr ?_;cases n19 <;> conv=>cbv
 ·have o:=AW f;exact AD ⟨⟨rfl,congrArg _ (by rw[t,a];congr 1;have:¬w<0:=(fun D=>by have:=IT.2 D;omega);exact Re.Hv j (by grind) (k.trans d.symm)),trivial⟩,t2,trivial⟩
 have o:=AY f;obtain⟨J,b⟩:=xR (em u (-w));refine AB m (Jp h a l b) ?_;conv=>cbv
 exact AD ⟨⟨rfl,congrArg _ (by rw[t,b];congr 1;have:w<0:=IT.1 (by omega);exact Re.Hv j (by grind) (by rw[k,<-d];grind)),trivial⟩,t2,trivial⟩
theorem dc {B:LR} {R s:Nat} (h:Ae R u) (d:T=tw u) (a:A=em u x) (j:El u s x) (g:ES u.length R s) {l:LR} (f:Ha u x l):CF 343 [.one (.sl (.sl AA) T),.one (.sl AA A)] (.AG [(false,[.sl AA (([]:LR))]),(false,[.bool false])]):=by
 refine AJ Tryz.func343 fun E b=>?_
 conv=>cbv
 refine AB b (f d a) ?_;conv=>cbv
 refine Bc ?_;conv=>cbv
 exact AD ⟨⟨rfl,Bj,trivial⟩,t2,trivial⟩
theorem de {R s:Nat} (h:Ae R u) (m:T=tw u) (k:A=em u x) (j:El u s x) (b:ES u.length R s) (n:In u v) (f:0<=v) (a:v*v=x) (l:B=em u v):CF 343 [.one (.sl (.sl AA) T),.one (.sl AA A)] (.AG [(false,[.sl AA B]),(false,[.bool true])]):=by
 rcases PK h j b.q b.vR with⟨w,hw,g,o⟩ |⟨d,_⟩
 ·exact dd h m k j b hw g o f a l
 exact absurd ⟨v,n,a⟩ d
theorem db {R s:Nat} (h:Ae R u) (j:T=tw u) (g:A=em u x) (f:El u s x) (a:ES u.length R s) (b:¬Sq u x):CF 343 [.one (.sl (.sl AA) T),.one (.sl AA A)] (.AG [(false,[.sl AA []]),(false,[.bool false])]):=by
 rcases PK h f a.q a.vR with⟨w,hw,d,m⟩ |⟨_,l,k⟩
 ·exact absurd ⟨w,hw,d⟩ b
 exact dc (B:=[]) h j g f a k
theorem Po {R:Nat} (h:Ae R u) (H:T=tw u) (hv:VV u.length R R<=60000000000000) (hq:SS u.length R R<=60000000000000):CF 131 [.one (.sl (.sl AA) T)] (.one (.bool true)):=by
 have aj:T.length=u.length:=by rw[H,Bb]
 have hR:=h.hR;refine AJ Tryz.func131 fun E X=>?_
 conv=>cbv
 refine .inr ?_;obtain⟨J0,g⟩:=xJ fun vs bl k=>∃(i':Nat) (i:Int),vs=[.one (.sl (.sl AA) T),.one (.int .i64 i)]/\(AO i i'/\i'<=T.length)/\k=T.length-i'
 refine⟨[],[0,3],[],J0,⟨T.length-0,by rw[g];exact⟨0,0,rfl,⟨Al 0,by omega⟩,rfl⟩⟩,?_⟩;intro vs bl an hj;rw[g] at hj;obtain⟨i',i,rfl,⟨hi,ak⟩,al⟩:=hj;conv=>cbv
 have ei:=hi.eq;rintro n8 ⟨e8,f8⟩;conv=>cbv
 intro n9 h9;conv=>cbv
 cases n9 <;> conv=>cbv
 ·have k9:=AW h9;exact AD ⟨t2,trivial⟩
 have k9:=AY h9;refine .inr ?_;intro ao af;conv=>cbv
 refine AH ?_;intro Q ab;conv=>cbv
 intro a1 I;conv=>cbv
 obtain⟨a7,b⟩:=AK (l:=T) (i:=i') (by omega);refine⟨a7,fun _=>⟨by omega,by rw[show (i).toNat=i' by omega];exact b⟩,?_⟩;try conv=>cbv
 obtain⟨r,O,N⟩:=Ig (u:=u) (i:=i') (by omega);have s:AT (r::pre u i'):=O ▸ (h.pre (i'+1)).red;have t:∀x,T[i']? =some x->x=em (pre u i') (AM (pre u i') r):=fun x hx=>by rw[<-H,hx] at N;exact (Option.some.inj N).trans (EG s)
 have z:=t _ b;have o:El (pre u i') R (AM (pre u i') r):=El.Cv (O ▸ h.pre (i'+1));have j:a1=tw (pre u i'):=by rw[I,List.drop_zero,show Q=i' by omega,H,FI]
 have M:(pre u i').length<=u.length:=by rw[GJ (by omega)];omega
 have y:VV (pre u i').length R R<=60000000000000:=Nat.le_trans (I1 M R R) hv;have Y:SS (pre u i').length R R<=60000000000000:=Nat.le_trans (TZ M R R) hq;refine AB X (Jn (h.pre i') j z o hR) ?_;conv=>cbv
 refine AU ?_;conv=>cbv
 intro aq ag;conv=>cbv
 refine AH ?_;intro U ad;conv=>cbv
 intro a2 J;conv=>cbv
 obtain⟨a8,d⟩:=AK (l:=T) (i:=i') (by omega);refine⟨a8,fun _=>⟨by omega,by rw[show (i).toNat=i' by omega];exact d⟩,?_⟩;try conv=>cbv
 have m:a2=tw (pre u i'):=by rw[J,List.drop_zero,show U=i' by omega,H,FI]
 have D:=t _ d;obtain⟨au,a⟩:=xI (An (AM (pre u i') r));refine AB X (F5 (h.pre i') m D o y hR y a) ?_;conv=>cbv
 intro n30 G;conv=>cbv
 refine g2 rfl ?_;cases n30 <;> conv=>cbv
 ·have P:=HH G;intro ar ah;conv=>cbv
  refine AH ?_;intro W ae;conv=>cbv
  intro a5 L;conv=>cbv
  obtain⟨aa,f⟩:=AK (l:=T) (i:=i') (by omega);refine⟨aa,fun _=>⟨by omega,by rw[show (i).toNat=i' by omega];exact f⟩,?_⟩;try conv=>cbv
  have n:a5=tw (pre u i'):=by rw[L,List.drop_zero,show W=i' by omega,H,FI]
  have F:=t _ f;obtain⟨l,hn⟩:=((PK (h.pre i') o Y y).resolve_left (fun⟨w,hw,Z,_⟩=>s.2.2.2 ⟨w,hw,Z⟩)).2;refine AB X (hn n F) ?_;conv=>cbv
  refine g2 rfl ?_;intro a6 ai;conv=>cbv
  refine AI ?_;refine⟨T.length-(i'+1),?_,?_⟩
  ·omega
  rw[g];exact⟨i'+1,a6,rfl,⟨⟨by omega⟩,by omega⟩,rfl⟩
 have P:=HI G;exact absurd P (by rw[a,F0 s.2.2.1];omega)
theorem cM {R s:Nat} (h:Ae R u) (o:T=tw u) (m:A=em u x) (t:El u s x) (g:ES u.length R s) (z:In u v) (j:0<=v) (d:v*v=x) (y:B=em u v):CF 294 [.one (.sl (.sl AA) T),.one (.sl AA A)] (.AG [(false,[.sl (.sl AA) T]),(false,[.sl AA B]),(false,[.int .i64 0])]):=by
 have k:0<=x:=by rw[<-d];exact Re.Fi v
 refine AJ Tryz.func294 fun E n=>?_
 conv=>cbv
 obtain⟨D,a⟩:=xI (An x);refine AB n (F5 h o m t g.v0 g.s g.vR a) ?_;conv=>cbv
 intro l b;conv=>cbv
 cases l <;> conv=>cbv
 ·have f:=AW b;refine AB n (de h o m t g z j d y) ?_;conv=>cbv
  exact AD ⟨t2,t2,t2,trivial⟩
 have f:=AY b;exact (IY a f k).elim
theorem cN {R s:Nat} (h:Ae R u) (F:T=tw u) (H:A=em u x) (Q:El u s x) (D:ES u.length R s) (h8:u.length<8) (O:0<=x) (N:¬Sq u x) (Y:r=co u x) (h':Ae R' (r::u)) (J:T2=tw (r::u)) (W:B=em (r::u) (rt u r)):CF 294 [.one (.sl (.sl AA) T),.one (.sl AA A)] (.AG [(false,[.sl (.sl AA) T2]),(false,[.sl AA B]),(false,[.int .i64 0])]):=by
 have L:T.length=u.length:=by rw[F,Bb]
 have X:=h.ht;refine AJ Tryz.func294 fun E I=>?_
 conv=>cbv
 obtain⟨Z,f⟩:=xI (An x);refine AB I (F5 h F H Q D.v0 D.s D.vR f) ?_;conv=>cbv
 intro P l;conv=>cbv
 cases P <;> conv=>cbv
 ·have y:=AW l;refine AB I (db h F H Q D N) ?_;conv=>cbv
  rintro n24 ⟨U,f24⟩;conv=>cbv
  intro n25 m;conv=>cbv
  cases n25 <;> conv=>cbv
  ·have z:=EI m;refine⟨[],fun _=>⟨rfl,by decide,rfl,trivial⟩,.inl ?_⟩;try conv=>cbv
   refine .inl ⟨T,fun _=>⟨rfl,rfl,rfl,by show (0+T.length)*24<=140737488355328;(try simp only[List.length_take,List.length_drop]);omega⟩,?_⟩;intro (b:List (el (.sl AA))) n28 g;have d:b=([]:List (el (.sl AA)))++(T:List (el (.sl AA))):=g.1;have o:n28=List.length (α:=(el (.sl AA))) b:=g.2;conv=>cbv
   refine⟨[A],fun _=>⟨rfl,by decide,rfl,⟨rfl,by first | exact t1 | exact t2 | exact t4 | simp[Ao,BA,cells],trivial⟩⟩,.inr ?_⟩;try conv=>cbv
   have M:b.length=T.length:=by rw[d];simp
   refine .inr (.inl ⟨[A],fun _=>⟨rfl,o,rfl,by show (b.length+1)*24<=140737488355328;(try simp only[List.length_take,List.length_drop]);omega⟩,?_⟩);intro (k:List (el (.sl AA))) n31 j;have n:k=(b:List (el (.sl AA)))++([A]:List (el (.sl AA))):=j.1;have t:n31=List.length (α:=(el (.sl AA))) k:=j.2;conv=>cbv
   refine⟨fun _=>t,?_⟩;rintro n35 ⟨G,f35⟩;conv=>cbv
   have a:k=tw (r::u):=by rw[n,d,F,Mn,H,em,Y];rfl
   refine AB I (cz h' a (AO.of (G.trans (congrArg _ L))) W) ?_;conv=>cbv
   exact AD ⟨⟨rfl,congrArg _ (by rw[J,a]),trivial⟩,t2,t2,trivial⟩
  have z:=EJ m;exact absurd z (by omega)
 have y:=AY l;exact (IY f y O).elim
theorem dA {R s:Nat} (h:Ae R u) (d:T=tw u) (j:A=em u x) (k:El u s x) (a:ES u.length R s) (m:In u v) (f:0<=v) (g:v*v=x) (l:B=em u v):CF 222 [.one (.sl (.sl AA) T),.one (.sl AA A)] (.AG [(false,[.sl (.sl AA) T]),(false,[.sl AA B]),(false,[.int .i64 0])]):=by
 refine AJ Tryz.func222 fun E b=>?_
 conv=>cbv
 refine AB b (Po h d a.vR a.qR) ?_;conv=>cbv
 refine AU ?_;conv=>cbv
 refine AB b (Jn h d j k a.s) ?_;conv=>cbv
 refine AU ?_;conv=>cbv
 refine AB b (cM h d j k a m f g l) ?_;conv=>cbv
 exact AD ⟨t2,t2,t2,trivial⟩
theorem dB {R s:Nat} (h:Ae R u) (d:T=tw u) (k:A=em u x) (l:El u s x) (a:ES u.length R s) (m:u.length<8) (j:0<=x) (g:¬Sq u x) (o:r=co u x) (h':Ae R' (r::u)) (f:T2=tw (r::u)) (n:B=em (r::u) (rt u r)):CF 222 [.one (.sl (.sl AA) T),.one (.sl AA A)] (.AG [(false,[.sl (.sl AA) T2]),(false,[.sl AA B]),(false,[.int .i64 0])]):=by
 refine AJ Tryz.func222 fun E b=>?_
 conv=>cbv
 refine AB b (Po h d a.vR a.qR) ?_;conv=>cbv
 refine AU ?_;conv=>cbv
 refine AB b (Jn h d k l a.s) ?_;conv=>cbv
 refine AU ?_;conv=>cbv
 refine AB b (cN h d k l a m j g o h' f n) ?_;conv=>cbv
 exact AD ⟨t2,t2,t2,trivial⟩
theorem Tg {R s:Nat} (h:Ae R u) (h':Ae R' (Ar u v)) (k:(Ar u v).length<=8) (f:T=tw u) (l:A=em u v) (j:El u s v) (m:ES u.length R s) (d:0<=v) (a:T2=tw (Ar u v)) (b:B=em (Ar u v) (Re.sqrt v)):
  CF 222 [.one (.sl (.sl AA) T),.one (.sl AA A)] (.AG [(false,[.sl (.sl AA) T2]),(false,[.sl AA B]),(false,[.int .i64 0])]):=by
 by_cases hs:Sq u v
 ·rw[Ec hs] at a b;have g:T2=T:=a.trans f.symm;subst g;exact dA h f l j m ((JU d).1 hs) (Re.Ev v) (Re.DS d) b
 rw[Dq hs] at h' k a b;rw[<-Ip j.mem] at b;exact dB h f l j m (by rw[List.length_cons] at k;omega) d hs rfl h' a b
end Go.Abs
namespace Go.Abs
open Go.RowKit
variable {R i:Nat} {c:Bool} {u w:List (List Rat)}
theorem aD {α:Type} {X Y:List α} {x y:α} (a:X[i]? =some x) (b:Y[i]? =some y) (h:X.take i=Y.take i) (e:x=y):X.take (i+1)=Y.take (i+1):=by
 rw[Cg a,Cg b,h,e]
theorem aE {α:Type} {X Y:List α} {n:Nat} {x y:α} (d:X[i]? =some x) (f:Y[i]? =some y) (b:i<n) (e:x≠y):X.take n≠Y.take n:=by
 intro h;apply e;have a:(X.take n)[i]? =(Y.take n)[i]? :=by rw[h]
 rw[List.getElem?_take,List.getElem?_take,if_pos b,if_pos b,d,f] at a;exact Option.some.inj a
theorem df {X Y:LR} {xs ys:List Rat} (hX:X=Aa xs) (hY:Y=Aa ys) (hs:Dn xs) (ht:Dn ys) (z:c=decide (X=Y)):CF 238 [.one (.sl AA X),.one (.sl AA Y)] (.one (.bool c)):=by
 refine AJ Tryz.func238 fun E hE=>?_
 conv=>cbv
 rintro n7 ⟨e7,f7⟩;conv=>cbv
 rintro n9 ⟨e9,f9⟩;conv=>cbv
 intro L j;conv=>cbv
 cases L <;> conv=>cbv
 ·have H:=Co j;refine .inr ?_;obtain⟨U,f⟩:=xJ fun vs W k=>∃(i':Nat) (i:Int),vs=[.one (.sl AA X),.one (.sl AA Y),.one (.int .i64 i)]/\(AO i i'/\i'<=Y.length/\Y.length<=X.length)/\X.take i'=Y.take i'/\k=Y.length-i'
  refine⟨[],[0,1,5],[],U,⟨Y.length-0,by rw[f];exact⟨0,0,rfl,⟨Al 0,by omega,by omega⟩,rfl,rfl⟩⟩,?_⟩;intro vs W a8 O;rw[f] at O;obtain⟨i',i,rfl,⟨hi,a2,y⟩,hinv,a5⟩:=O;conv=>cbv
  have ei:=hi.eq;rintro aa ⟨Z,f13⟩;conv=>cbv
  intro M m;conv=>cbv
  cases M <;> conv=>cbv
  ·have I:=AW m;have hl:X.length=Y.length:=by omega
   exact AD ⟨⟨rfl,congrArg _ (by rw[z,decide_eq_true];have:=hinv;rwa [List.take_of_length_le (by omega),List.take_of_length_le (by omega)] at this),trivial⟩,trivial⟩
  have I:=AY m;refine .inr ?_;obtain⟨g,a⟩:=AK (l:=X) (i:=i') (by omega);refine⟨g,fun _=>⟨by omega,by rw[show (i).toNat=i' by omega];exact a⟩,?_⟩;try conv=>cbv
  obtain⟨h,b⟩:=AK (l:=Y) (i:=i') (by omega);refine⟨h,fun _=>⟨by omega,by rw[show (i).toNat=i' by omega];exact b⟩,?_⟩;try conv=>cbv
  obtain⟨p,P,a6,F⟩:=Gc hX hs a;obtain⟨q,Q,a7,G⟩:=Gc hY ht b;have s:g=rp p:=P.rp.symm;have t:h=rp q:=Q.rp.symm;obtain⟨N,d⟩:=xI (Fq p q);refine AB hE (LI P Q F G d) ?_;conv=>cbv
  intro n26 o;conv=>cbv
  refine g2 rfl ?_;cases n26 <;> conv=>cbv
  ·have J:=Co o;intro n16 a1;conv=>cbv
   refine AI ?_;refine⟨Y.length-(i'+1),?_,?_⟩
   ·omega
   rw[f];exact⟨i'+1,n16,rfl,⟨⟨by omega⟩,by omega,y⟩,aD a b hinv (by rw[s,t];congr 1;have:=Nh p q;rw[<-d,show N=0 by omega] at this;exact of_decide_eq_true this),rfl⟩
  have J:=Cp o;have D:g≠h:=fun e=>by have e2:=SK (s.symm.trans (e.trans t));have:=Nh p q;rw[decide_eq_true e2,<-d] at this;simp at this;omega
  exact AD ⟨⟨rfl,congrArg _ (by rw[z,decide_eq_false];intro e;exact aE (n:=i'+1) a b (by omega) D (by rw[e])),trivial⟩,trivial⟩
 have H:=Cp j;exact AD ⟨⟨rfl,congrArg _ (by rw[z,decide_eq_false];intro e;have:=congrArg List.length e;omega),trivial⟩,trivial⟩
theorem dD {X Y:List LR} (hu:Ae R u) (hw:Ae R w) (W:X=tw u) (Z:Y=tw w) (t:c=(decide (Y.length<=X.length)&&decide (X.take Y.length=Y))):CF 118 [.one (.sl (.sl AA) X),.one (.sl (.sl AA) Y)] (.one (.bool c)):=by
 refine AJ Tryz.func118 fun E U=>?_
 conv=>cbv
 rintro n7 ⟨e7,f7⟩;conv=>cbv
 rintro n9 ⟨e9,f9⟩;conv=>cbv
 intro I m;conv=>cbv
 cases I <;> conv=>cbv
 ·have F:=Bq m;refine .inr ?_;obtain⟨M,g⟩:=xJ fun vs O k=>∃(i':Nat) (i:Int),vs=[.one (.sl (.sl AA) X),.one (.sl (.sl AA) Y),.one (.int .i64 i)]/\(AO i i'/\i'<=Y.length/\Y.length<=X.length)/\X.take i'=Y.take i'/\k=Y.length-i'
  refine⟨[],[0,1,5],[],M,⟨Y.length-0,by rw[g];exact⟨0,0,rfl,⟨Al 0,by omega,by omega⟩,rfl,rfl⟩⟩,?_⟩;intro vs O a5 L;rw[g] at L;obtain⟨i',i,rfl,⟨hi,a1,s⟩,hinv,a2⟩:=L;conv=>cbv
  have ei:=hi.eq;rintro a6 ⟨P,f13⟩;conv=>cbv
  intro J o;conv=>cbv
  cases J <;> conv=>cbv
  ·have G:=AW o;exact AD ⟨⟨rfl,congrArg _ (by rw[t,decide_eq_true (show Y.length<=X.length by omega),decide_eq_true];rfl;rw[show Y.length=i' by omega,hinv,List.take_of_length_le (by omega)]),trivial⟩,trivial⟩
  have G:=AY o;refine .inr ?_;obtain⟨h,a⟩:=AK (l:=X) (i:=i') (by omega);refine⟨h,fun _=>⟨by omega,by rw[show (i).toNat=i' by omega];exact a⟩,?_⟩;try conv=>cbv
  obtain⟨j,b⟩:=AK (l:=Y) (i:=i') (by omega);refine⟨j,fun _=>⟨by omega,by rw[show (i).toNat=i' by omega];exact b⟩,?_⟩;try conv=>cbv
  obtain⟨p,hp,z⟩:=Hk W a;obtain⟨q,hq,D⟩:=Hk Z b;obtain⟨N,d⟩:=xB (decide (h=j));refine AB U (df hp hq ((hu.tb p (List.mem_reverse.1 (List.mem_of_getElem? z))).Bh hu.hR) ((hw.tb q (List.mem_reverse.1 (List.mem_of_getElem? D))).Bh hw.hR) d) ?_;conv=>cbv
  intro n26 f;conv=>cbv
  refine g2 rfl ?_;cases n26 <;> conv=>cbv
  ·have H:=C3 f;intro n16 Q;conv=>cbv
   refine AI ?_;refine⟨Y.length-(i'+1),?_,?_⟩
   ·omega
   rw[g];exact⟨i'+1,n16,rfl,⟨⟨by omega⟩,by omega,s⟩,aD a b hinv (of_decide_eq_true (by rw[<-d];exact C3 f)),rfl⟩
  have H:=C4 f;have y:h≠j:=of_decide_eq_false (by rw[<-d];exact C4 f);exact AD ⟨⟨rfl,congrArg _ (by rw[t,decide_eq_false (p:=X.take Y.length=Y),Bool.and_false];intro e;exact aE (n:=Y.length) a b (by omega) y (by rw[e,List.take_length])),trivial⟩,trivial⟩
 have F:=Br m;exact AD ⟨⟨rfl,congrArg _ (by rw[t,decide_eq_false (show ¬Y.length<=X.length by omega)];rfl),trivial⟩,trivial⟩
theorem NG {X Y:List LR} (hu:Ae R u) (hw:Ae R w) (a:X=tw u) (b:Y=tw w) (h:c=true↔w<:+u):CF 118 [.one (.sl (.sl AA) X),.one (.sl (.sl AA) Y)] (.one (.bool c)):=
 dD hu hw a b (by rw[Bool.eq_iff_iff,h,Sf,Bool.and_eq_true,decide_eq_true_eq,decide_eq_true_eq,a,b])
theorem Pr {T:List LR} {A C:LR} {x:Re} (h:Ae R w) (hT:T=tw w) (X:A=em u x) (hx:In u x) (hu:u<:+w) (hC:C=em w x):CF 120 [.one (.sl (.sl AA) T),.one (.sl AA A)] (.one (.sl AA C)):=by
 have M:T.length=w.length:=by rw[hT,Bb]
 have a6:=h.ht;have a5:A.length=2^u.length:=by rw[X,BJ hx]
 have P:=hu.length_le;have hle:2^u.length<=2^w.length:=CP P;have a1:=DD h.ht;have F:=V7 hu h.red hx;refine AJ Tryz.func120 fun E hE=>?_
 conv=>cbv
 refine⟨[],fun _=>⟨rfl,by decide,rfl,trivial⟩,.inl ?_⟩;try conv=>cbv
 refine .inl ⟨A,fun _=>⟨rfl,rfl,rfl,by show (0+A.length)*64<=140737488355328;(try simp only[List.length_take,List.length_drop]);omega⟩,?_⟩;intro (H:LR) n8 G;have t:H=([]:LR)++(A:LR):=G.1;have O:n8=List.length (α:=(el AA)) H:=G.2;conv=>cbv
 refine .inr ?_;obtain⟨J0,s⟩:=xJ fun vs W k=>∃(o:LR) (mm j:Nat),vs=[.one (.sl (.sl AA) T),.one (.AN AA 6 0 0 mm)]/\W=[.arr 0 AA o]/\(mm=o.length/\o.length=2^u.length+j/\o.length<=2^w.length)/\o=A++List.replicate j (rp 0)/\k=2^w.length-o.length
 refine⟨[],[0,5],[6],J0,⟨2^w.length-H.length,by rw[s];exact⟨H,n8,0,rfl,rfl,⟨O,by rw[t];simp;omega,by rw[t];simp;omega⟩,by rw[t];simp,rfl⟩⟩,?_⟩;intro vs W ab Y;rw[s] at Y;obtain⟨o,mm,j,rfl,rfl,⟨z,a8,aa⟩,hinv,a7⟩:=Y;conv=>cbv
 intro ad J;have a2:=J.eq;conv=>cbv
 rintro ae ⟨I,f12⟩;conv=>cbv
 intro af L;conv=>cbv
 refine AH ?_;have Z:=(Dt L (I.trans (congrArg _ M))).eq;intro U y;conv=>cbv
 cases U <;> conv=>cbv
 ·have Q:=AW y;exact AD ⟨⟨rfl,.inl ⟨_,rfl,by omega,congrArg _ (by rw[hC,z,List.drop_zero,List.take_length,hinv,F,X,show j=2^w.length-2^u.length by omega])⟩,trivial⟩,trivial⟩
 have Q:=AY y;refine .inr ?_;obtain⟨f,g,b,d,m⟩:=Be (((0:Int):Rat));refine AB hE (Ej (by omega) rfl m) ?_;conv=>cbv
 refine⟨[((f,g),(b,d))],fun _=>⟨rfl,by decide,rfl,⟨rfl,by first | exact t1 | exact t2 | exact t4 | simp[Ao,BA,cells],trivial⟩⟩,.inr ?_⟩;try conv=>cbv
 refine .inl ⟨[((f,g),(b,d))],fun _=>⟨rfl,z,rfl,by show (o.length+1)*64<=140737488355328;(try simp only[List.length_take,List.length_drop]);omega⟩,?_⟩;intro (a:LR) n18 n;have l:a=(o:LR)++([((f,g),(b,d))]:LR):=n.1;have D:n18=List.length (α:=(el AA)) a:=n.2;conv=>cbv
 have N:a.length=o.length+1:=by rw[l];simp
 refine⟨2^w.length-a.length,?_,?_⟩
 ·omega
 rw[s];exact⟨a,n18,j+1,rfl,rfl,⟨D,by omega,by omega⟩,by rw[l,hinv,List.replicate_succ',List.append_assoc,<-m.rp];rfl,rfl⟩
end Go.Abs
namespace Go.Abs
open Go.RowKit
structure Cj (T:List (List Rat)->Prop) (R C S:Nat):Prop extends Gam T R C S where
 IH:∀{u},T u->ES u.length R (S+C)
def Tj (S:Nat) (w u:List (List Rat)):Prop:=∀{T RL:List LR} {A C:LR} {x:Re},T=tw w->FA w RL u->A=em u x->El u S x->C=em w x->
 CF 121 [.one (.sl (.sl AA) T),.one (.sl (.sl AA) RL),.one (.sl AA A)] (.one (.sl AA C))
def Tk (S:Nat) (w u:List (List Rat)):Prop:=∀{T RL:List LR} {A C:LR} {x:Re} {mm:Nat},T=tw w->FA w RL u->mm=RL.length->A=em u x->El u S x->C=em w x->
 Bv Tryz.prog 121 [.one (.sl (.sl AA) T),.one (.AN (.sl AA) 0 0 0 mm),.one (.sl AA A)] (.arr 0 (.sl AA) RL) (.one (.sl AA C))
variable {A C:LR} {K R S mm:Nat} {RL T:List LR} {TT:List (List Rat)->Prop} {p x:Re} {q:Rat} {r:List Rat} {u w:List (List Rat)}
theorem dI {u:List (List Rat)} {x:Re} (G:Gam TT R K S) (hw:TT w) (s:T=tw w) (k:A=em [] (Re.ofRat q)) (y:Bu q) (n:C=em w (Re.ofRat q)):CF 121 [.one (.sl (.sl AA) T),.one (.sl (.sl AA) RL),.one (.sl AA A)] (.one (.sl AA C)):=by
 have d:A=[rp q]:=k.trans (Dx q);have m:A.length=1:=by rw[d];rfl
 refine AJ Tryz.func121 fun E o=>?_
 conv=>cbv
 rintro t ⟨j,f12⟩;conv=>cbv
 intro g b;conv=>cbv
 cases g <;> conv=>cbv
 ·have f:=Ah b;exact absurd f (by omega)
 have f:=Aj b;obtain⟨h,a⟩:=AK (l:=A) (i:=0) (by omega);refine⟨h,fun _=>⟨by omega,a⟩,?_⟩;try conv=>cbv
 refine AB o (F4 (G.Ag hw) s (Eh d a) n) ?_;conv=>cbv
 exact AD ⟨t2,trivial⟩
theorem dJ (G:Gam TT R K S) (hw:TT w) (Q:T=tw w) {q:Re} (hu:TT (r::u)) (b:BO (r::u) w) (ih:Tj S w u) (hR:FA w RL (r::u)) (hA:A=em (r::u) x) (hx:El (r::u) S x) (o:x=p+q*rt u r) (U:El u S p) (M:El u S q) (hC:C=em w x):CF 121 [.one (.sl (.sl AA) T),.one (.sl (.sl AA) RL),.one (.sl AA A)] (.one (.sl AA C)):=by
 have n:=(G.Ag hu).red;have y:A.length=2^u.length+2^u.length:=by rw[hA,BJ hx.mem,Bk]
 have ax:=De u.length;have au:(r::u).length<=8:=G.ht hu;have ae:(r::u).length=u.length+1:=rfl;have hmul:=G.mul hw;have a:El w K (rt u r):=by have:=G.Bi hu hw b (JD n);rwa [Nat.zero_add] at this
 obtain⟨wk,a5,N,F⟩:=hR.2;obtain⟨rk,O⟩:=xR (em wk (rt u r));rw[<-O] at F;refine AJ Tryz.func121 fun E z=>?_
 conv=>cbv
 rintro aB ⟨ai,f12⟩;conv=>cbv
 intro aa s;conv=>cbv
 cases aa <;> conv=>cbv
 ·have P:=Ah s;rintro n20 ⟨aj,f20⟩;conv=>cbv
  intro n21 ao;conv=>cbv
  refine g2 ⟨by omega,by omega,i64 (by omega)⟩ ?_;refine .inr ?_;obtain⟨J0,j⟩:=xJ fun vs bl k=>∃(k':Nat) (W X:Int),vs=[.one (.sl (.sl AA) T),.one (.sl (.sl AA) RL),.one (.sl AA A),.one (.int .i64 W),.one (.int .i64 X)]/\bl=[]/\(AO W (A.length/2)/\AO X k'/\k'<=u.length)/\k=u.length-k'
  refine⟨[],[0,1,2,7,8],[],J0,⟨u.length-0,by rw[j];exact⟨0,n21,0,rfl,rfl,⟨⟨by omega⟩,Al 0,by omega⟩,rfl⟩⟩,?_⟩;intro vs bl ay hj;rw[j] at hj;obtain⟨k',W,X,rfl,rfl,⟨D,a1,aw⟩,av⟩:=hj;conv=>cbv
  have al:=D.eq;have an:=a1.eq;intro n23 aq;conv=>cbv
  refine AI ?_;intro n24 Z;conv=>cbv
  refine AH ?_;rintro n26 ⟨ak,f26⟩;conv=>cbv
  have ag:=(Dt (k:=k'+1) Z (by omega)).eq;intro n27 t;conv=>cbv
  cases n27 <;> conv=>cbv
  ·have a6:=AW t;have a2:k'=u.length:=by have:=KQ y (show ¬2^(k'+1)<A.length by omega);omega
   intro az af;conv=>cbv
   refine AH ?_;intro Y ad;conv=>cbv
   intro a7 I;conv=>cbv
   have l:a7=em u p:=by rw[I,List.drop_zero,show Y=A.length/2 by omega,hA,CM n U.mem M.mem o]
   obtain⟨aC,d⟩:=xR (em w (p));refine AB z (ih Q hR.1 l U d) ?_;conv=>cbv
   intro aA L;conv=>cbv
   refine AH ?_;rintro a40 ah ⟨ab,H⟩;conv=>cbv
   intro a8 J;conv=>cbv
   have m:a8=em u q:=by rw[J,show a40=A.length/2 by omega,H,L,List.take_length,hA,CA n U.mem M.mem o]
   obtain⟨aD,f⟩:=xR (em w (q));refine AB z (ih Q hR.1 m M f) ?_;conv=>cbv
   refine g2 rfl ?_;refine⟨rk,fun _=>⟨by omega,by rw[show X.toNat=u.length by omega];exact F⟩,?_⟩;try conv=>cbv
   obtain⟨aE,g⟩:=xR (em w (rt u r));refine AB z (Pr (G.Ag hw) Q O N a5 g) ?_;conv=>cbv
   obtain⟨aF,h⟩:=xR (em w (q*rt u r));refine AB z (Dp (G.Ag hw) Q f g (G.Bi (G.sub hu) hw b.tail M) a (by omega) h) ?_;conv=>cbv
   refine AB (r:= .one (.sl AA C)) z (I4 (G.Ag hw) d h (G.Bi (G.sub hu) hw b.tail U) ((G.Bi (G.sub hu) hw b.tail M).mul (G.Ag hw) a) (by omega) (by omega) (by rw[hC,o])) ?_;conv=>cbv
   exact AD ⟨t2,trivial⟩
  have a6:=AY t;refine .inr ?_;have a2:k'<u.length:=KR y (show 2^(k'+1)<A.length by omega);intro n29 ar;conv=>cbv
  refine AI ?_;refine⟨u.length-(k'+1),?_,?_⟩
  ·omega
  rw[j];exact⟨k'+1,W,n29,rfl,rfl,⟨D,⟨by omega⟩,by omega⟩,rfl⟩
 have P:=Aj s;exact absurd P (by omega)
theorem dK {u:List (List Rat)} {x:Re} (t:mm=RL.length) (G:Gam TT R K S) (hw:TT w) (s:T=tw w) (k:A=em [] (Re.ofRat q)) (z:Bu q) (n:C=em w (Re.ofRat q)):Bv Tryz.prog 121 [.one (.sl (.sl AA) T),.one (.AN (.sl AA) 0 0 0 mm),.one (.sl AA A)] (.arr 0 (.sl AA) RL) (.one (.sl AA C)):=by
 have d:A=[rp q]:=k.trans (Dx q);have m:A.length=1:=by rw[d];rfl
 refine Hi Tryz.func121 (by kernel_rfl) rfl fun E o=>?_
 conv=>cbv
 rintro y ⟨j,f12⟩;conv=>cbv
 intro g b;conv=>cbv
 cases g <;> conv=>cbv
 ·have f:=Ah b;exact absurd f (by omega)
 have f:=Aj b;obtain⟨h,a⟩:=AK (l:=A) (i:=0) (by omega);refine⟨h,fun _=>⟨by omega,a⟩,?_⟩;try conv=>cbv
 refine AB o (F4 (G.Ag hw) s (Eh d a) n) ?_;conv=>cbv
 refine fun _=>⟨⟨⟨t2,trivial⟩,rfl,by simp⟩,rfl⟩
theorem dM (U:mm=RL.length) (G:Gam TT R K S) (hw:TT w) (hT:T=tw w) {q:Re} (hu:TT (r::u)) (b:BO (r::u) w) (ih:Tk S w u) (hR:FA w RL (r::u)) (hA:A=em (r::u) x) (hx:El (r::u) S x) (D:x=p+q*rt u r) (hp:El u S p) (W:El u S q) (hC:C=em w x):Bv Tryz.prog 121 [.one (.sl (.sl AA) T),.one (.AN (.sl AA) 0 0 0 mm),.one (.sl AA A)] (.arr 0 (.sl AA) RL) (.one (.sl AA C)):=by
 have y:=(G.Ag hu).red;have J:A.length=2^u.length+2^u.length:=by rw[hA,BJ hx.mem,Bk]
 have aC:=De u.length;have az:(r::u).length<=8:=G.ht hu;have ai:(r::u).length=u.length+1:=rfl;have hmul:=G.mul hw;have a:El w K (rt u r):=by have:=G.Bi hu hw b (JD y);rwa [Nat.zero_add] at this
 obtain⟨wk,aa,X,d⟩:=hR.2;obtain⟨rk,f⟩:=xR (em wk (rt u r));rw[<-f] at d;refine Hi Tryz.func121 (by kernel_rfl) rfl fun E L=>?_
 conv=>cbv
 rintro aG ⟨ao,f12⟩;conv=>cbv
 intro ad H;conv=>cbv
 cases ad <;> conv=>cbv
 ·have Z:=Ah H;rintro n20 ⟨aq,f20⟩;conv=>cbv
  intro n21 aw;conv=>cbv
  refine g2 ⟨by omega,by omega,i64 (by omega)⟩ ?_;refine .inr ?_;obtain⟨J0,o⟩:=xJ fun vs bl k=>∃(k':Nat) (hv kk:Int),vs=[.one (.sl (.sl AA) T),.one (.AN (.sl AA) 0 0 0 mm),.one (.sl AA A),.one (.int .i64 hv),.one (.int .i64 kk)]/\bl=[.arr 0 (.sl AA) RL]/\(AO hv (A.length/2)/\AO kk k'/\k'<=u.length)/\k=u.length-k'
  refine⟨[],[0,1,2,7,8],[0],J0,⟨u.length-0,by rw[o];exact⟨0,n21,0,rfl,rfl,⟨⟨by omega⟩,Al 0,by omega⟩,rfl⟩⟩,?_⟩;intro vs bl aD hj;rw[o] at hj;obtain⟨k',hv,kk,rfl,rfl,⟨M,a7,aB⟩,aA⟩:=hj;conv=>cbv
  have au:=M.eq;have av:=a7.eq;intro n23 ax;conv=>cbv
  refine AI ?_;intro n24 a6;conv=>cbv
  refine AH ?_;rintro n26 ⟨ar,f26⟩;conv=>cbv
  have al:=(Dt (k:=k'+1) a6 (by omega)).eq;intro n27 I;conv=>cbv
  cases n27 <;> conv=>cbv
  ·have ab:=AW I;have a8:k'=u.length:=by have:=KQ J (show ¬2^(k'+1)<A.length by omega);omega
   intro aE ak;conv=>cbv
   refine AH ?_;intro a5 ah;conv=>cbv
   intro a1 O;conv=>cbv
   have s:a1=em u p:=by rw[O,List.drop_zero,show a5=A.length/2 by omega,hA,CM y hp.mem W.mem D]
   obtain⟨ae,g⟩:=xR (em w (p));refine .inr (.inr (.inl ⟨0,.arr 0 (.sl AA) RL,[.one (.sl (.sl AA) T),.one (.AN (.sl AA) 0 0 0 mm),.one (.sl AA a1)],.one (.sl AA ae),fun _=>⟨rfl,⟨rfl,⟨⟨rfl,rfl⟩,rfl⟩,rfl,trivial⟩⟩,fun _=>F2 L (ih hT hR.1 U s hp g),?_⟩));try conv=>cbv
   intro aF Q;conv=>cbv
   refine AH ?_;rintro a40 an ⟨ag,N⟩;conv=>cbv
   intro a2 P;conv=>cbv
   have t:a2=em u q:=by rw[P,show a40=A.length/2 by omega,N,Q,List.take_length,hA,CA y hp.mem W.mem D]
   obtain⟨af,h⟩:=xR (em w (q));refine .inr (.inr (.inl ⟨0,.arr 0 (.sl AA) RL,[.one (.sl (.sl AA) T),.one (.AN (.sl AA) 0 0 0 mm),.one (.sl AA a2)],.one (.sl AA af),fun _=>⟨rfl,⟨rfl,⟨⟨rfl,rfl⟩,rfl⟩,rfl,trivial⟩⟩,fun _=>F2 L (ih hT hR.1 U t W h),?_⟩));try conv=>cbv
   refine g2 rfl ?_;refine⟨fun _=>⟨by omega,by have:=FY d;omega⟩,?_⟩;intro Y aj;conv=>cbv
   obtain⟨F,n⟩:=AK (l:=RL) (i:=Y) (by have:=FY d;omega);refine⟨F,fun _=>n,?_⟩;try conv=>cbv
   have z:F=rk:=by have:=n;rw[show Y=u.length by omega,d] at this;exact (Option.some.inj this).symm
   have f:F=em wk (rt u r):=z.trans f;obtain⟨aH,j⟩:=xR (em w (rt u r));refine AB L (Pr (G.Ag hw) hT f X aa j) ?_;conv=>cbv
   obtain⟨aI,m⟩:=xR (em w (q*rt u r));refine AB L (Dp (G.Ag hw) hT h j (G.Bi (G.sub hu) hw b.tail W) a (by omega) m) ?_;conv=>cbv
   refine AB (r:= .one (.sl AA C)) L (I4 (G.Ag hw) g m (G.Bi (G.sub hu) hw b.tail hp) ((G.Bi (G.sub hu) hw b.tail W).mul (G.Ag hw) a) (by omega) (by omega) (by rw[hC,D])) ?_;conv=>cbv
   refine fun _=>⟨⟨⟨t2,trivial⟩,rfl,by simp⟩,rfl⟩
  have ab:=AY I;refine .inr ?_;have a8:k'<u.length:=KR J (show 2^(k'+1)<A.length by omega);intro n29 ay;conv=>cbv
  refine AI ?_;refine⟨u.length-(k'+1),?_,?_⟩
  ·omega
  rw[o];exact⟨k'+1,hv,n29,rfl,rfl,⟨M,⟨by omega⟩,by omega⟩,rfl⟩
 have Z:=Aj H;exact absurd Z (by omega)
theorem dG (G:Gam TT R K S) (hw:TT w):∀{u:List (List Rat)},TT u->BO u w->Tj S w u:=by
 intro u
 induction u with
 | nil=>
  intro hu g T RL A C x h hR d a f;obtain⟨q,rfl⟩:=CN.1 a.mem;have b:=a.Bh (by have:=G.mul hw;omega);rw[CQ] at b;exact dI (u:=[]) (x:=0) G hw h d (b q List.mem_cons_self) f
 | cons r u l=>
  intro hu g T RL A C x h hR d a f;obtain⟨p,q,j,k,b⟩:=El.parts (G.Ag hu).red a;exact dJ G hw h hu g (l (G.sub hu) g.tail) hR d a j k b f
theorem dH (G:Gam TT R K S) (hw:TT w):∀{u:List (List Rat)},TT u->BO u w->Tk S w u:=by
 intro u
 induction u with
 | nil=>
  intro hu h T RL A C x mm j hR a f b g;obtain⟨q,rfl⟩:=CN.1 b.mem;have d:=b.Bh (by have:=G.mul hw;omega);rw[CQ] at d;exact dK (u:=[]) (x:=0) a G hw j f (d q List.mem_cons_self) g
 | cons r u m=>
  intro hu h T RL A C x mm j hR a f b g;obtain⟨p,q,k,l,d⟩:=El.parts (G.Ag hu).red b;exact dM a G hw j hu h (m (G.sub hu) h.tail) hR f b k l d g
theorem Pp {U T2:List LR} {t:List (List Rat)} (G:Cj TT R K S) (ht:TT t) (hu:TT u) (hT:T=tw t) (hU:U=tw u) (a2:T2=tw (ext t u)) (Z:RL=EO t u):CF 119 [.one (.sl (.sl AA) T),.one (.sl (.sl AA) U)] (.AG [(false,[.sl (.sl AA) T2]),(false,[.sl (.sl AA) RL]),(false,[.int .i64 0])]):=by
 have ae:U.length=u.length:=by rw[hU,Bb]
 have ai:=G.ht hu;have a1:=G.RS;refine AJ Tryz.func119 fun E hE=>?_
 conv=>cbv
 refine .inr ?_;obtain⟨J0,s⟩:=xJ fun vs bl k=>∃(Y o:List LR) (mm i':Nat) (i:Int),vs=[.one (.sl (.sl AA) Y),.one (.sl (.sl AA) U),.one (.AN (.sl AA) 7 0 0 mm),.one (.int .i64 i)]/\bl=[.arr 0 (.sl AA) o]/\(AO i i'/\i'<=U.length/\mm=o.length)/\Y=tw (ext t (pre u i'))/\o=EO t (pre u i')/\k=U.length-i'
 refine⟨[(7,.sl AA,true)],[0,1,7,8],[7],J0,⟨U.length,by rw[s];exact⟨T,[],0,0,0,rfl,rfl,⟨Al 0,Nat.zero_le _,rfl⟩,by rw[MG];exact hT,by rw[MG];rfl,rfl⟩⟩,?_⟩;intro vs bl aj hj;rw[s] at hj;obtain⟨Y,o,mm,i',i,rfl,rfl,⟨hi,af,D⟩,y,hinv,ag⟩:=hj;conv=>cbv
 have ei:=hi.eq;have ah:o.length<=U.length:=by rw[hinv,MV,GJ (by omega)];omega
 rintro ak ⟨ab,f14⟩;conv=>cbv
 intro n15 J;conv=>cbv
 cases n15 <;> conv=>cbv
 ·have a8:=AW J;have N:pre u i'=u:=by rw[show i'=u.length by omega];exact Og u
  exact AD ⟨⟨rfl,congrArg _ (by rw[a2,y,N]),trivial⟩,⟨rfl,.inl ⟨_,rfl,by omega,congrArg _ (by rw[Z,D,List.drop_zero,List.take_length,hinv,N])⟩,trivial⟩,t2,trivial⟩
 have a8:=AY J;refine .inr ?_;obtain⟨I,m⟩:=AK (l:=U) (i:=i') (by omega);refine⟨I,fun _=>⟨by omega,by rw[show (i).toNat=i' by omega];exact m⟩,?_⟩;try conv=>cbv
 obtain⟨r,F,Q⟩:=Ig (u:=u) (i:=i') (by omega);have a:TT (pre u i'):=G.Kt (Kj u i') hu;have b:TT (r::pre u i'):=F ▸ G.Kt (Kj u (i'+1)) hu;have P:=(G.Ag b).red;have a7:I=em (pre u i') (AM (pre u i') r):=by rw[<-hU,m] at Q;exact (Option.some.inj Q).trans (EG P)
 have d:TT (ext t (pre u i')):=G.ext ht a;have z:=(JR (G.Ag ht).red (G.Ag a).red).2;have O:El (pre u i') S (AM (pre u i') r):=(El.Cv (G.Ag b)).mono a1;have W:TT (Ar (ext t (pre u i')) (AM (pre u i') r)):=G.Ar d b z;have a5:ext t (pre u (i'+1))=Ar (ext t (pre u i')) (AM (pre u i') r):=by rw[F];rfl
 have a6:EO t (pre u (i'+1))=EO t (pre u i')++[em (Ar (ext t (pre u i')) (AM (pre u i') r)) (Re.sqrt (AM (pre u i') r))]:=by rw[F];rfl
 obtain⟨aa,g⟩:=xR (em (ext t (pre u i')) (AM (pre u i') r));refine .inr (.inr (.inl ⟨7,.arr 0 (.sl AA) o,[.one (.sl (.sl AA) Y),.one (.AN (.sl AA) 0 0 0 mm),.one (.sl AA I)],.one (.sl AA aa),fun _=>⟨rfl,⟨rfl,⟨⟨rfl,rfl⟩,rfl⟩,rfl,trivial⟩⟩,fun _=>F2 hE (dH G.toGam d a z y (by rw[hinv];exact MW (G.Ag ht).red (G.Ag a).red) D a7 O g),?_⟩));try conv=>cbv
 obtain⟨X,h⟩:=xV (tw (Ar (ext t (pre u i')) (AM (pre u i') r)));obtain⟨f,j⟩:=xR (em (Ar (ext t (pre u i')) (AM (pre u i') r)) (Re.sqrt (AM (pre u i') r)));refine AB (r:= .AG [(false,[.sl (.sl AA) X]),(false,[.sl AA f]),(false,[.int .i64 0])]) hE (Tg (G.Ag d) (G.Ag W) (G.ht W) y g (G.Bi a d z O) (G.IH d) (by have:=P.2.2.1;grind) h j) ?_;try conv=>cbv
 refine AU ?_;conv=>cbv
 refine⟨[f],fun _=>⟨rfl,by decide,rfl,⟨rfl,by first | exact t1 | exact t2 | exact t4 | simp[Ao,BA,cells],trivial⟩⟩,.inr ?_⟩;try conv=>cbv
 refine .inl ⟨[f],fun _=>⟨rfl,D,rfl,by show (o.length+1)*24<=140737488355328;(try simp only[List.length_take,List.length_drop]);omega⟩,?_⟩;intro (H:List (el (.sl AA))) n38 n;have L:H=(o:List (el (.sl AA)))++([f]:List (el (.sl AA))):=n.1;have M:n38=List.length (α:=(el (.sl AA))) H:=n.2;conv=>cbv
 intro n17 ad;conv=>cbv
 refine AI ?_;refine⟨U.length-(i'+1),?_,?_⟩
 ·omega
 rw[s];exact⟨X,H,n38,i'+1,n17,rfl,rfl,⟨⟨by omega⟩,by omega,M⟩,by rw[h,a5],by rw[L,hinv,a6,j],rfl⟩
end Go.Abs
namespace Go.Abs
open Go.RowKit
theorem Pe {TT:List (List Rat)->Prop} {R K S:Nat} (G:Cj TT R K S) {L:List (el At)} {ns:List (List (List Rat)×Re)} (Y:∀n∈ns,TT n.1) (hL:L=ns.map nm) (aD:∀n∈ns,El n.1 S n.2) (hlen:ns.length<=1000000) {O:List (el At)} (hO:O=ns.map (fun n=>nm (Bf ns,n.2))):CF 23 [.one (.sl At L)] (.AG [(false,[.sl At O]),(false,[.int .i64 0])]):=by
 have b5:L.length=ns.length:=by rw[hL,List.length_map]
 have U:TT (Bf ns):=G.Bf Y;refine AJ Tryz.func23 fun E hE=>?_
 conv=>cbv
 refine .inr ?_;obtain⟨J0,H⟩:=xJ fun vs bl k=>∃(Ti:List LR) (i':Nat) (i:Int),vs=[.one (.sl At L),.one (.sl (.sl AA) Ti),.one (.int .i64 i)]/\bl=[]/\(AO i i'/\i'<=L.length)/\Ti=tw (Bf (ns.take i'))/\k=L.length-i'
 refine⟨[(4,.sl AA,false)],[0,4,5],[],J0,⟨L.length,by rw[H];exact⟨[],0,0,rfl,rfl,⟨Al 0,by omega⟩,rfl,rfl⟩⟩,?_⟩;intro vs bl b9 hj;rw[H] at hj;obtain⟨Ti,i',i,rfl,rfl,⟨hi,aT⟩,h,b6⟩:=hj;conv=>cbv
 have ei:=hi.eq;have aU:(Bf (ns.take i')).length=List.length (α:=LR) Ti:=by rw[h,Bb]
 rintro n17 ⟨b3,f17⟩;conv=>cbv
 intro n18 aA;conv=>cbv
 cases n18 <;> conv=>cbv
 ·have aV:=AW aA;refine .inr ?_;obtain⟨J1,aa⟩:=xJ fun vs bl k=>∃(T:List LR) (o:List (el At)) (mm i':Nat) (i:Int),vs=[.one (.sl At L),.one (.sl (.sl AA) T),.one (.AN At 9 0 0 mm),.one (.int .i64 i)]/\bl=[.arr 0 At o]/\(AO i i'/\i'<=L.length/\mm=o.length)/\T=tw (Bf ns)/\o=(ns.take i').map (fun n=>nm (Bf ns,n.2))/\k=L.length-i'
  refine⟨[(9,At,true)],[0,4,9,10],[9],J1,⟨L.length,by rw[aa];exact⟨Ti,[],0,0,0,rfl,rfl,⟨Al 0,Nat.zero_le _,rfl⟩,by rw[h,List.take_of_length_le (show ns.length<=i' by omega)],rfl,rfl⟩⟩,?_⟩;intro vs bl ba hj;rw[aa] at hj;obtain⟨T,o,mm,i',i,rfl,rfl,⟨hi,aT,aq⟩,hT,hinv,b7⟩:=hj;conv=>cbv
  have ei:=hi.eq;have b8:o.length<=L.length:=by rw[hinv,List.length_map,List.length_take];omega
  rintro n69 ⟨b4,f69⟩;conv=>cbv
  intro aY aC;conv=>cbv
  cases aY <;> conv=>cbv
  ·have aX:=AW aC;exact AD ⟨⟨rfl,.inl ⟨_,rfl,by omega,congrArg _ (by rw[hO,aq,hinv,List.drop_zero,List.take_length,List.take_of_length_le (show ns.length<=i' by omega)])⟩,trivial⟩,t2,trivial⟩
  have aX:=AY aC;refine .inr ?_;obtain⟨a7,z⟩:=AK (l:=L) (i:=i') (by omega);refine⟨a7,fun _=>⟨by omega,by rw[show (i).toNat=i' by omega];exact z⟩,?_⟩;try conv=>cbv
  obtain⟨u,y,d,ar,Q⟩:=Hj hL z;have W:=List.mem_of_getElem? Q;have hu:TT u:=Y _ W;have au:El u S y:=aD _ W;have aF:List.length (α:=LR) a7.1=u.length:=by rw[d,Bb]
  have aE:BO u (Bf ns):=Lj G.toGam Y _ W;obtain⟨wC,ab⟩:=xR (em (Bf ns) y);obtain⟨aL,ad⟩:=Dv (u<:+Bf ns);refine AB hE (NG (G.Ag U) (G.Ag hu) hT d ad) ?_;conv=>cbv
  refine .inr ?_;cases aL <;> conv=>cbv
  ·obtain⟨aK,aj⟩:=AK (l:=L) (i:=i') (by omega);refine⟨aK,fun _=>⟨by omega,by rw[show (i).toNat=i' by omega];exact aj⟩,?_⟩;try conv=>cbv
   have aR:aK=a7:=Option.some.inj (aj.symm.trans z);obtain⟨aZ,aG⟩:=xV (tw (Bf ns));obtain⟨b0,af⟩:=xV (EO (Bf ns) u);have ae:=ext_eq (G.Ag U).red (G.Ag hu).red aE;refine AB (r:= .AG [(false,[.sl (.sl AA) aZ]),(false,[.sl (.sl AA) b0]),(false,[.int .i64 0])]) hE (Pp G U hu hT (by rw[aR];exact d) (by rw[ae];exact aG) af) ?_;try conv=>cbv
   obtain⟨ak,a2⟩:=AK (l:=L) (i:=i') (by omega);refine⟨ak,fun _=>⟨by omega,by rw[show (i).toNat=i' by omega];exact a2⟩,?_⟩;try conv=>cbv
   have az:ak=a7:=Option.some.inj (a2.symm.trans z);refine AB (r:= .one (.sl AA wC)) hE (dG G.toGam U hu aE hT (by rw[af];have:=MW (G.Ag U).red (G.Ag hu).red;rwa [ae] at this) (by rw[az];exact ar) au ab) ?_;try conv=>cbv
   refine⟨[(T,wC)],fun _=>⟨rfl,by decide,rfl,⟨rfl,by first | exact t1 | exact t2 | exact t4 | simp[Ao,BA,cells],trivial⟩⟩,.inr ?_⟩;try conv=>cbv
   refine .inl ⟨[(T,wC)],fun _=>⟨rfl,aq,rfl,by show (o.length+1)*48<=140737488355328;(try simp only[List.length_take,List.length_drop]);omega⟩,?_⟩;intro (f:List (el At)) D g;have I:f=(o:List (el At))++([(T,wC)]:List (el At)):=g.1;have J:D=List.length (α:=(el At)) f:=g.2;conv=>cbv
   intro av aS;conv=>cbv
   refine AI ?_;refine⟨L.length-(i'+1),?_,?_⟩
   ·omega
   rw[aa];exact⟨T,f,D,i'+1,av,rfl,rfl,⟨⟨by omega⟩,by omega,J⟩,hT,by rw[I,hinv,Cg Q,List.map_append];simp[nm,hT,ab],rfl⟩
  obtain⟨aJ,ai⟩:=AK (l:=L) (i:=i') (by omega);refine⟨aJ,fun _=>⟨by omega,by rw[show (i).toNat=i' by omega];exact ai⟩,?_⟩;try conv=>cbv
  have aQ:aJ=a7:=Option.some.inj (ai.symm.trans z);refine AB (r:= .one (.sl AA wC)) hE (Pr (G.Ag U) hT (by rw[aQ];exact ar) au.mem (ad.1 rfl) ab) ?_;try conv=>cbv
  refine⟨[(T,wC)],fun _=>⟨rfl,by decide,rfl,⟨rfl,by first | exact t1 | exact t2 | exact t4 | simp[Ao,BA,cells],trivial⟩⟩,.inr ?_⟩;try conv=>cbv
  refine .inl ⟨[(T,wC)],fun _=>⟨rfl,aq,rfl,by show (o.length+1)*48<=140737488355328;(try simp only[List.length_take,List.length_drop]);omega⟩,?_⟩;intro (f:List (el At)) D g;have I:f=(o:List (el At))++([(T,wC)]:List (el At)):=g.1;have J:D=List.length (α:=(el At)) f:=g.2;conv=>cbv
  intro av aS;conv=>cbv
  refine AI ?_;refine⟨L.length-(i'+1),?_,?_⟩
  ·omega
  rw[aa];exact⟨T,f,D,i'+1,av,rfl,rfl,⟨⟨by omega⟩,by omega,J⟩,hT,by rw[I,hinv,Cg Q,List.map_append];simp[nm,hT,ab],rfl⟩
 have aV:=AY aA;refine .inr ?_;obtain⟨F,b⟩:=AK (l:=L) (i:=i') (by omega);refine⟨F,fun _=>⟨by omega,by rw[show (i).toNat=i' by omega];exact b⟩,?_⟩;try conv=>cbv
 obtain⟨u,y,d,ar,Q⟩:=Hj hL b;have W:=List.mem_of_getElem? Q;have hu:TT u:=Y _ W;have au:El u S y:=aD _ W;have aF:List.length (α:=LR) F.1=u.length:=by rw[d,Bb]
 have N:=W2 Q;unfold DO at N
 dsimp only at N
 have Z:TT (Bf (ns.take i')):=G.Bf (fun n hn=>Y n (List.mem_of_mem_take hn));rintro n26 ⟨aM,f26⟩;conv=>cbv
 have b2:n26=(u.length:Int):=aM.trans (congrArg (fun n:Nat=>(n:Int)) aF);rintro n28 ⟨aN,f28⟩;conv=>cbv
 have b1:n28=((Bf (ns.take i')).length:Int):=aN.trans (congrArg (fun n:Nat=>(n:Int)) aU.symm);intro n29 aB;conv=>cbv
 cases n29 <;> conv=>cbv
 ·have aW:=Bq aB;refine .inr ?_;obtain⟨a5,s⟩:=AK (l:=L) (i:=i') (by omega);refine⟨a5,fun _=>⟨by omega,by rw[show (i).toNat=i' by omega];exact s⟩,?_⟩;try conv=>cbv
  have an:a5=F:=Option.some.inj (s.symm.trans b);obtain⟨al,a⟩:=Dv (u<:+(Bf (ns.take i')));refine AB (r:= .one (.bool al)) hE (NG (G.Ag Z) (G.Ag hu) h (by rw[an];exact d) a) ?_;try conv=>cbv
  intro n51 X;conv=>cbv
  refine .inr ?_;cases n51 <;> conv=>cbv
  ·have j:=C3 X;intro n20 a8;conv=>cbv
   refine AI ?_;refine⟨L.length-(i'+1),?_,?_⟩
   ·omega
   rw[H];exact⟨_,i'+1,n20,rfl,rfl,⟨⟨by omega⟩,by omega⟩,by rw[N,if_pos (a.1 j),<-h],rfl⟩
  have j:=C4 X;obtain⟨a6,t⟩:=AK (l:=L) (i:=i') (by omega);refine⟨a6,fun _=>⟨by omega,by rw[show (i).toNat=i' by omega];exact t⟩,?_⟩;try conv=>cbv
  have ao:a6=F:=Option.some.inj (t.symm.trans b);obtain⟨aw,m⟩:=xV (tw (ext (Bf (ns.take i')) u));obtain⟨ax,a1⟩:=xV (EO (Bf (ns.take i')) u);refine AB (r:= .AG [(false,[.sl (.sl AA) aw]),(false,[.sl (.sl AA) ax]),(false,[.int .i64 0])]) hE (Pp G Z hu h (by rw[ao];exact d) m a1) ?_;try conv=>cbv
  refine AU ?_;conv=>cbv
  intro n20 a8;conv=>cbv
  refine AI ?_;refine⟨L.length-(i'+1),?_,?_⟩
  ·omega
  rw[H];exact⟨_,i'+1,n20,rfl,rfl,⟨⟨by omega⟩,by omega⟩,by rw[N,if_neg (fun q=>by have:=a.2 q;rw[j] at this;cases this),if_neg (fun M=>by first | (have:=P.2 M;cases this) | exact absurd (show u<:+Bf (List.take i' ns) from by rw[M.eq_of_length_le (by omega)];exact List.suffix_refl _) (fun q=>by have:=a.2 q;rw[j] at this;cases this)),m],rfl⟩
 have aW:=Br aB;obtain⟨aH,ag⟩:=AK (l:=L) (i:=i') (by omega);refine⟨aH,fun _=>⟨by omega,by rw[show (i).toNat=i' by omega];exact ag⟩,?_⟩;try conv=>cbv
 have aO:aH=F:=Option.some.inj (ag.symm.trans b);obtain⟨ay,P⟩:=Dv ((Bf (ns.take i'))<:+u);refine AB (r:= .one (.bool ay)) hE (NG (G.Ag hu) (G.Ag Z) (by rw[aO];exact d) h P) ?_;try conv=>cbv
 refine .inr ?_;cases ay <;> conv=>cbv
 ·obtain⟨a5,s⟩:=AK (l:=L) (i:=i') (by omega);refine⟨a5,fun _=>⟨by omega,by rw[show (i).toNat=i' by omega];exact s⟩,?_⟩;try conv=>cbv
  have an:a5=F:=Option.some.inj (s.symm.trans b);obtain⟨al,a⟩:=Dv (u<:+(Bf (ns.take i')));refine AB (r:= .one (.bool al)) hE (NG (G.Ag Z) (G.Ag hu) h (by rw[an];exact d) a) ?_;try conv=>cbv
  intro n51 X;conv=>cbv
  refine .inr ?_;cases n51 <;> conv=>cbv
  ·have j:=C3 X;intro n20 a8;conv=>cbv
   refine AI ?_;refine⟨L.length-(i'+1),?_,?_⟩
   ·omega
   rw[H];exact⟨_,i'+1,n20,rfl,rfl,⟨⟨by omega⟩,by omega⟩,by rw[N,if_pos (a.1 j),<-h],rfl⟩
  have j:=C4 X;obtain⟨a6,t⟩:=AK (l:=L) (i:=i') (by omega);refine⟨a6,fun _=>⟨by omega,by rw[show (i).toNat=i' by omega];exact t⟩,?_⟩;try conv=>cbv
  have ao:a6=F:=Option.some.inj (t.symm.trans b);obtain⟨aw,m⟩:=xV (tw (ext (Bf (ns.take i')) u));obtain⟨ax,a1⟩:=xV (EO (Bf (ns.take i')) u);refine AB (r:= .AG [(false,[.sl (.sl AA) aw]),(false,[.sl (.sl AA) ax]),(false,[.int .i64 0])]) hE (Pp G Z hu h (by rw[ao];exact d) m a1) ?_;try conv=>cbv
  refine AU ?_;conv=>cbv
  intro n20 a8;conv=>cbv
  refine AI ?_;refine⟨L.length-(i'+1),?_,?_⟩
  ·omega
  rw[H];exact⟨_,i'+1,n20,rfl,rfl,⟨⟨by omega⟩,by omega⟩,by rw[N,if_neg (fun q=>by have:=a.2 q;rw[j] at this;cases this),if_neg (fun M=>by first | (have:=P.2 M;cases this) | exact absurd (show u<:+Bf (List.take i' ns) from by rw[M.eq_of_length_le (by omega)];exact List.suffix_refl _) (fun q=>by have:=a.2 q;rw[j] at this;cases this)),m],rfl⟩
 obtain⟨aI,ah⟩:=AK (l:=L) (i:=i') (by omega);refine⟨aI,fun _=>⟨by omega,by rw[show (i).toNat=i' by omega];exact ah⟩,?_⟩;try conv=>cbv
 have aP:aI=F:=Option.some.inj (ah.symm.trans b);intro n20 a8;conv=>cbv
 refine AI ?_;refine⟨L.length-(i'+1),?_,?_⟩
 ·omega
 rw[H];exact⟨_,i'+1,n20,rfl,rfl,⟨⟨by omega⟩,by omega⟩,by rw[N,if_neg (fun M=>by have:=M.length_le;omega),if_pos (P.1 rfl),aP];exact d,rfl⟩
end Go.Abs
namespace Go.Abs
abbrev Nu:=List (List Rat)×Re
def B9 (q:Rat):Prop:=q.num.natAbs<18446744073709551616/\q.den<18446744073709551616
theorem Vq:∀{a:List Rat},(∀q∈a,B9 q)->∃D:Nat,0<D/\D<=2^(64*a.length)/\DN D a
 | [],_=>⟨1,by decide,by simp,fun q d=>by simp at d⟩
 | q::a,h=>by
  obtain⟨D,f,g,j⟩:=Vq (a:=a) (fun x b=>h x (List.mem_cons_of_mem _ b));have d:=(h q List.mem_cons_self).2;refine⟨q.den*D,Nat.mul_pos q.den_pos f,?_,fun x b=>?_⟩
  ·have:=Nat.mul_le_mul (show q.den<=2^64 by omega) g;rw[<-Nat.pow_add] at this;rw[List.length_cons,show 64*(a.length+1)=64+64*a.length by omega];exact this
  rcases List.mem_cons.1 b with rfl | b
  ·refine⟨x.num*D,?_⟩;rw[Rat.intCast_mul,<-JN x,Fp];have:((D:Int):Rat)=(D:Rat):=rfl
   grind
  exact j.dvd ⟨q.den,by grind⟩ x b
theorem Xb {q:Rat} {B:Nat} (h:q.num.natAbs<=B): -(B:Rat)<=q/\q<=B:=by
 have g:1<=q.den:=q.den_pos;have j:B*1<=B*q.den:=Nat.mul_le_mul_left B g
 have key:q.num<=(B:Int)*q.den/\ -((B:Int)*q.den)<=q.num:=by
  have:((B*q.den:Nat):Int)=(B:Int)*q.den:=Int.natCast_mul _ _;omega
 have e:=JN q
 have d:(0:Rat)<q.den:=by
  have:((0:Nat):Rat)<(q.den:Rat):=Rat.natCast_lt_natCast.2 q.den_pos;simpa using this
 have k1:(q.num:Rat)<=(B:Rat)*q.den:=by
  have:=Rat.intCast_le_intCast.2 key.1;rw[Rat.intCast_mul] at this;exact this
 have k2: -((B:Rat)*q.den)<=(q.num:Rat):=by
  have:=Rat.intCast_le_intCast.2 key.2;rw[Rat.intCast_neg,Rat.intCast_mul] at this;exact this
 rw[<-e] at k1 k2
 constructor
 ·apply Classical.byContradiction;intro f;have:=Rat.mul_pos (a:= -(B:Rat)-q) (b:=q.den) (by grind) d
  grind
 apply Classical.byContradiction;intro f;have:=Rat.mul_pos (a:=q-(B:Rat)) (b:=q.den) (by grind) d
 grind
theorem F8 {a:List Rat} (h:∀q∈a,B9 q):Bd (64*a.length) a:=by
 obtain⟨D,d,f,g⟩:=Vq h;refine⟨D,d,f,g,fun q b=>?_⟩;have j:1<=a.length:=List.length_pos_of_mem b;exact Xb (Nat.le_trans (Nat.le_of_lt (h q b).1) (show 2^64<=2^(64*a.length) from CP))
structure BP (V:List Re) (n:Nu):Prop where
 red:AT n.1
 mem:In n.1 n.2
 Aq:∀v∈Aq n.1,v∈V
 E2:∀s∈n.1,∀q∈s,B9 q
 cos:∀q∈co n.1 n.2,B9 q
theorem BP.mono {V a:List Re} {n:Nu} (h:BP V n) (hV:∀v∈V,v∈a):BP a n:=⟨h.red,h.mem,fun v b=>hV v (h.Aq v b),h.E2,h.cos⟩
theorem BP.len {V:List Re} {n:Nu} (h:BP V n):n.1.length<=V.length:=by rw[<-Iu];exact IW (Hw h.red) h.Aq
theorem Kk:∀{u:List (List Rat)} {r:List Rat},AT u->r∈u->2*r.length<=2^u.length
 | [],_,_,h=>by simp at h
 | s::u,r,h,a=>by
  rw[Bk];rcases List.mem_cons.1 a with rfl | a
  ·rw[h.2.1];omega
  have:=Kk h.1 a;omega
theorem JX {u w:List (List Rat)} (h:u<:+w):∀v∈Aq u,v∈Aq w:=by
 obtain⟨t,rfl⟩:=h
 induction t with
 | nil=>exact fun v a=>a
 | cons r t b=>exact fun v a=>List.mem_cons_of_mem _ (b v a)
def PN (ns:List Nu) (u:List (List Rat)):Prop:=∃n∈ns,u<:+n.1
section
variable {V:List Re} {ns:List Nu}
theorem Yg {k:Nat} (h:k<=3):2^k<=8:=CP h
theorem PN.EL (hV:V.length<=3) (h:∀n∈ns,BP V n):DU (PN ns) 256:=by
 refine⟨fun {u} ⟨n,a,hs⟩=>Il hs (h n a).red,fun {u} ⟨n,a,hs⟩=>fun r d=>?_,fun {r u} ⟨n,a,hs⟩=>⟨n,a,(List.suffix_cons r u).trans hs⟩⟩;have b:=hs.subset d;have f:=Kk (h n a).red b;have g:=Yg (Nat.le_trans (h n a).len hV);exact (F8 ((h n a).E2 r b)).mono (by omega)
theorem PN.Aq (h:∀n∈ns,BP V n) {u:List (List Rat)} (hu:PN ns u):∀v∈Aq u,v∈V:=by
 obtain⟨n,a,hs⟩:=hu;exact fun v b=>(h n a).Aq v (JX hs v b)
theorem PN.self {n:Nu} (a:n∈ns):PN ns n.1:=⟨n,a,List.suffix_refl _⟩
end
theorem BP.el {V:List Re} {n:Nu} (h:BP V n) (hV:V.length<=3):El n.1 512 n.2:=by
 refine⟨h.mem,(F8 h.cos).mono ?_⟩;have a:=Yg (Nat.le_trans h.len hV);rw[CU h.mem];omega
abbrev Rm:Nat:=93478
abbrev Cm:Nat:=53200000
abbrev Sm:Nat:=500000000000
theorem lr:RR 256 3<=Rm:=by decide +kernel
theorem U8:CC 3 Rm 3 Rm<=Cm:=by decide +kernel
theorem WK:∀h,h<=3->Fit h Rm (Sm+Cm)
 |0,_|1,_|2,_|3,_=>⟨by decide +kernel,by decide +kernel,by decide +kernel,by decide +kernel⟩
 | _+4,h=>absurd h (by omega)
theorem WJ:∀h,h<=3->ES h Rm (Sm+Cm)
 |0,_|1,_|2,_|3,_=>⟨by decide +kernel,by decide +kernel,by decide +kernel,by decide +kernel⟩
 | _+4,h=>absurd h (by omega)
theorem XX:2*(Sm+Cm)+EE 3 Rm<=60000000000000:=by decide +kernel
theorem Qn {P:List (List Rat)->Prop} (I:DU P 256) (hm:∀{u},Tf P u->u.length<=3) {S:Nat} (a:Rm<=S) (d:S<=Sm):Cj (Tf P) Rm Cm S:=
 {Tf.KK I hm lr a U8 (fun h b=>(WK h b).mono (by omega)) (Nat.le_trans (by omega) XX) with IH:=fun {u} hu=>(WJ _ (hm hu)).mono (by omega)}
open Classical in
noncomputable def Ci (x:Re):Re:=if h:x≠0 then Classical.choose (Re.Lp h) else 0
theorem Gh {x:Re} (h:x≠0):x*Ci x=1:=by
 unfold Ci;rw[dif_pos h];exact Classical.choose_spec (Re.Lp h)
theorem Ln {u:List (List Rat)} {x:Re} (hu:AT u) (d:In u x) (a:x≠0):In u (Ci x):=by
 obtain⟨y,f,e⟩:=Eg hu d a;have b:=Gh a
 rw[show Ci x=y by
  have:Ci x=Ci x*(x*y):=by rw[e];grind
  rw[this];have:Ci x*(x*y)=(x*Ci x)*y:=by grind
  rw[this,b];grind]
 exact f
open Classical in
noncomputable def DY (x:Re):Re:=if x<0 then -x else x
theorem Jq (x:Re):0<=DY x:=by unfold DY;split <;> grind
theorem Wi {u:List (List Rat)} {x:Re} (a:In u x):In u (DY x):=by unfold DY;split;exact Gf a;exact a
open Classical in
noncomputable def DM (n:Nu):Nu:=if h:AT n.1/\In n.1 n.2 then (Classical.choose (Mm h.1 h.2 (Nat.le_refl _)),n.2) else n
theorem O9 {n:Nu} (a:AT n.1) (b:In n.1 n.2):EA n.1.length (n.1.reverse,co n.1 n.2)=((DM n).1.reverse,co (DM n).1 (DM n).2)/\FT n.1 n.2 (DM n).1/\(DM n).2=n.2:=by
 unfold DM;rw[dif_pos ⟨a,b⟩];have:=Classical.choose_spec (Mm a b (Nat.le_refl _));exact⟨this.1,this.2,rfl⟩
def H3 (n:Nu):Prop:=(∃q∈co n.1 n.2,¬B9 q)\/∃s∈n.1,∃q∈s,¬B9 q
noncomputable def D3 (k:Nat) (a b:Nu) (roots:Nat):Nu×Nat:=by
 classical
 exact if k=1 then ((A0 a.1 b.1,a.2+b.2),roots)
 else if k=2 then ((A0 a.1 b.1,a.2-b.2),roots)
 else if k=3 then ((A0 a.1 b.1,a.2*b.2),roots)
 else if k=4 then (if b.2=0 then a else (A0 a.1 b.1,a.2*Ci b.2),roots)
 else if roots<3 then ((Ar a.1 (DY a.2),Re.sqrt (DY a.2)),roots+1) else (a,roots)
def F3:Nu:=([],0)
noncomputable def CV (l:List Nu) (i:Nat):Nu:=l.getD (i%l.length) F3
def JZ (n:Int):Int:=(n+9223372036854775808)%18446744073709551616-9223372036854775808
theorem S3 (n:Int): -9223372036854775808<=JZ n/\JZ n<9223372036854775808:=by unfold JZ;omega
def GL (o:el Bn):Rat:=Rat.divInt (JZ o.2.2.2.1) ((o.2.2.2.2.toNat%8+1:Nat):Int)
noncomputable def DG (st:List Nu×Nat) (o:el Bn):Nu×Nat:=by
 classical
 exact if st.1=[]\/o.1.toNat%6=0 then (([],Re.ofRat (GL o)),st.2) else D3 (o.1.toNat%6) (CV st.1 o.2.1.toNat) (CV st.1 o.2.2.1.toNat) st.2
noncomputable def Fa (l:List Nu) (x:Nu):Nu:=by
 classical
 exact if l≠[]/\H3 x then l.getLastD F3 else x
noncomputable def HU (st:List Nu×Nat) (o:el Bn):List Nu×Nat:=(st.1++[DM (Fa st.1 (DG st o).1)],(DG st o).2)
noncomputable def runN (xs:List (el Bn)):List Nu×Nat:=xs.foldl HU ([],0)
theorem ZM (xs:List (el Bn)) (o:el Bn):runN (xs++[o])=HU (runN xs) o:=by rw[runN,List.foldl_append];rfl
def Jh (st:List Nu×Nat):Prop:=st.2<=3/\∃V:List Re,V.length<=st.2/\∀n∈st.1,BP V n
theorem BP.trim {V:List Re} {n:Nu} (h:BP V n):BP V (DM n):=by
 obtain⟨_,t,e⟩:=O9 h.red h.mem;refine⟨t.red,by rw[e];exact t.mem,fun v f=>h.Aq v (t.Aq v f),fun s hs q a=>?_,fun q a=>?_⟩
 ·obtain⟨t',d,b⟩:=t.E2 s hs;exact h.E2 t' d q (b q a)
 rw[e] at a;exact h.cos q (t.cos q a)
theorem BP.j9 {V:List Re} {n:Nu} (d:AT n.1) (f:In n.1 n.2) (h3:∀v∈Go.Abs.Aq n.1,v∈V) (h:¬H3 n):BP V n:=
 ⟨d,f,h3,fun s hs q b=>Classical.byContradiction fun a=>h (.inr ⟨s,hs,q,b,a⟩),fun q b=>Classical.byContradiction fun a=>h (.inl ⟨q,b,a⟩)⟩
theorem Qo {l:List Nu} (h:l≠[]) (i:Nat):CV l i∈l:=by
 have:i%l.length<l.length:=Nat.mod_lt _ (List.length_pos_iff.2 h);unfold CV;rw[List.getD_eq_getElem?_getD,List.getElem?_eq_getElem this];exact List.getElem_mem this
theorem jF {l:List Nu} (h:l≠[]):l.getLastD F3∈l:=by
 cases l with
 | nil=>exact absurd rfl h
 | cons a l=>rw[List.getLastD_cons];cases l with
  | nil=>exact List.mem_cons_self
  | cons b l=>rw[List.getLastD_eq_getLast?];exact List.mem_cons_of_mem _ (by
   rw[List.getLast?_eq_some_getLast (by simp)];exact List.getLast_mem _)
section
variable {V:List Re} {ns:List Nu}
theorem Ga (hV:V.length<=3) (h:∀n∈ns,BP V n) {S:Nat} (a:Rm<=S) (b:S<=Sm:=by first|omega|decide):Cj (Tf (PN ns)) Rm Cm S:=
 Qn (PN.EL hV h) (fun {u} hu=>Nat.le_trans (hu.len (PN.EL hV h) (fun d=>PN.Aq h d)) hV) a b
theorem EH (hV:V.length<=3) (h:∀n∈ns,BP V n) {n:Nu} (a:n∈ns):Tf (PN ns) n.1:=Tf.of (PN.EL hV h) (PN.self a)
structure K9 (V:List Re) (n:Nu):Prop where
 red:AT n.1
 mem:In n.1 n.2
 Aq:∀v∈Aq n.1,v∈V
theorem K9.Oa (hV:V.length<=3) (h:∀n∈ns,BP V n) {n:Nu} (ht:Tf (PN ns) n.1) (hm:In n.1 n.2):K9 V n:=
 ⟨ht.red (PN.EL hV h),hm,ht.Aq (PN.EL hV h) (fun a=>PN.Aq h a)⟩
theorem BP.ZB {n:Nu} (h:BP V n):K9 V n:=⟨h.red,h.mem,h.Aq⟩
theorem gZ (hV:V.length<=3) (h:∀n∈ns,BP V n) {a b:Nu} (ha:a∈ns) (hb:b∈ns):Tf (PN ns) (A0 a.1 b.1)/\In (A0 a.1 b.1) a.2/\In (A0 a.1 b.1) b.2:=by
 have G:=(Ga hV h (Nat.le_refl Rm)).toGam;obtain⟨d,f,h3⟩:=G.A0 (EH hV h ha) (EH hV h hb);exact⟨d,f _ (h a ha).mem,h3 _ (h b hb).mem⟩
theorem Mp {u:List (List Rat)} {v:Re} (b:In u v):∀x∈Aq (Ar u v),x=v\/x∈Aq u:=by
 by_cases hs:Sq u v
 ·rw[Ec hs];exact fun x a=> .inr a
 rw[Dq hs];intro x a;rcases List.mem_cons.1 a with rfl | a
 ·exact .inl (Dr b)
 exact .inr a
theorem ML {u:List (List Rat)} {v:Re} (h:AT u) (a:In u v) (d:0<=v):AT (Ar u v):=by
 by_cases b:v=0
 ·subst b;rw[Ec ⟨0,Bx u,by grind⟩];exact h
 exact SB h a (by grind)
theorem MI {st:List Nu×Nat} (h:Jh st) (o:el Bn):(DG st o).2<=3/\∃V,V.length<=(DG st o).2/\(∀n∈st.1,BP V n)/\K9 V (DG st o).1:=by
 obtain⟨h3,V,hV,d⟩:=h;have f:=Nat.le_trans hV h3;unfold DG
 split
 ·exact⟨h3,V,hV,d,trivial,⟨[GL o],rfl,rfl⟩,fun v j=>by simp[Go.Abs.Aq] at j⟩
 rename_i z
 have k:st.1≠[]:=fun e=>z (.inl e)
 have ha:=Qo k o.2.1.toNat;have hb:=Qo k o.2.2.1.toNat
 generalize CV st.1 o.2.1.toNat=a at*
 generalize CV st.1 o.2.2.1.toNat=b at*
 obtain⟨l,m,s⟩:=gZ f d ha hb;have y:=l.red (PN.EL f d);unfold D3
 split
 ·exact⟨h3,V,hV,d,.Oa f d l (C0 m s)⟩
 split
 ·exact⟨h3,V,hV,d,.Oa f d l (Ep m s)⟩
 split
 ·exact⟨h3,V,hV,d,.Oa f d l (Ak y m s)⟩
 split
 ·refine⟨h3,V,hV,d,?_⟩
  dsimp only
  split
  ·exact (d a ha).ZB
  rename_i t
  exact .Oa f d l (Ak y m (Ln y s t))
 split
 ·rename_i D
  have g:=Wi (d a ha).mem;refine⟨by show st.2+1<=3;omega,DY a.2::V,by show _+1<=st.2+1;omega,fun n hm=>(d n hm).mono fun v j=>List.mem_cons_of_mem _ j,ML (d a ha).red g (Jq _),LM g (Jq _),fun v j=>?_⟩;rcases Mp g v j with rfl | j
  ·exact List.mem_cons_self
  exact List.mem_cons_of_mem _ ((d a ha).Aq v j)
 exact⟨h3,V,hV,d,(d a ha).ZB⟩
end
theorem mR {n:Int} {d:Nat} (b:n.natAbs<18446744073709551616) (f:0<d) (a:d<18446744073709551616):B9 (Rat.divInt n d):=by
 have e:(Rat.divInt n d)=mkRat n d:=Rat.divInt_ofNat n d;rw[e]
 constructor
 ·have:=Rat.num_mkRat n d;rw[this]
  split
  ·simp
  refine Nat.lt_of_le_of_lt ?_ b;exact Int.natAbs_ediv_le_natAbs _ _
 have:=Rat.den_mkRat n d;rw[this]
 split
 ·decide
 exact Nat.lt_of_le_of_lt (Nat.div_le_self _ _) a
theorem Q6 {V:List Re} {l:List Nu} {x:Nu} (f:∀n∈l,BP V n) (a:K9 V x) (d:l=[]->¬H3 x):BP V (Fa l x):=by
 unfold Fa
 split
 ·rename_i h;exact f _ (jF h.1)
 rename_i h
 refine .j9 a.red a.mem a.Aq fun b=>?_
 by_cases he:l=[]
 ·exact d he b
 exact h ⟨he,b⟩
theorem SA (o:el Bn):¬H3 ([],Re.ofRat (GL o)):=by
 have hs:B9 (GL o):=mR (by have:=S3 o.2.2.2.1;omega) (by omega) (by omega);rintro (⟨q,d,b⟩ |⟨s,a,_⟩)
 ·rw[CQ] at d;rw[List.mem_singleton.1 d] at b;exact b hs
 simp at a
theorem na {st:List Nu×Nat} (h:Jh st) (o:el Bn):Jh (HU st o):=by
 obtain⟨b,V,d,h3,f⟩:=MI h o;refine⟨b,V,d,fun n a=>?_⟩;rcases List.mem_append.1 a with a | a
 ·exact h3 n a
 rw[List.mem_singleton.1 a];refine (Q6 h3 f fun he=>?_).trim;have:(DG st o).1=([],Re.ofRat (GL o)):=by unfold DG;rw[if_pos (.inl he)]
 rw[this];exact SA o
theorem ZS:∀{xs:List (el Bn)} {st:List Nu×Nat},Jh st->Jh (xs.foldl HU st)
 | [],_,h=>h
 | o::xs,_,h=>ZS (xs:=xs) (na h o)
theorem SM (xs:List (el Bn)):Jh (runN xs):=ZS ⟨by decide,[],by simp,by simp⟩
end Go.Abs
