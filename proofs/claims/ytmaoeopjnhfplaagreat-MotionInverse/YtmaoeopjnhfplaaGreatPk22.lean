/- Part 23 of a proof. Conditions: each theorem's own. -/
import Derived.Test.YtmaoeopjnhfplaaGreatPk21
set_option linter.all false
set_option maxHeartbeats 8000000
set_option maxRecDepth 20000
open Go.Proofs
namespace Go.Abs
open Go.RowKit
structure FW (h R s:Nat):Prop where
 q:SS h R s<=60000000000000
 v:VV h R (s+GG h R)<=60000000000000
 qR:SS h R R<=60000000000000
 vR:VV h R R<=60000000000000
variable {A B:LR} {R':Nat} {T T2:List LR} {r:List Rat} {u:List (List Rat)} {v x:Re}
theorem FW.v0 {h R s:Nat} (f:FW h R s):VV h R s<=60000000000000:=Nat.le_trans (Jt h R (by omega)) f.v
theorem FW.s {h R s:Nat} (f:FW h R s):s<=60000000000000:=Nat.le_trans (W9 h R s) f.q
theorem FW.mono {h R s t:Nat} (f:FW h R s) (ht:t<=s):FW h R t:=⟨Nat.le_trans (Pp h R ht) f.q,Nat.le_trans (Jt h R (by omega)) f.v,f.qR,f.vR⟩
theorem gz:∀(h R s:Nat),SS h R s<=SS (h+1) R s:=fun h R s=>Nat.le_trans (Pp h R (by unfold TQ;omega)) (W8 h R s)
theorem gy {i h:Nat} (a:i<=h) (R s:Nat):SS i R s<=SS h R s:=by
 induction a with
 | refl=>exact Nat.le_refl _
 | step _ b=>exact Nat.le_trans b (gz _ _ _)
theorem jQ {R s:Nat} (h:Bb R u) (y:T=tw u) (z:A=em u x) (D:El u s x) (n:FW u.length R s) {w:Re} (hw:In u w) (d:w*w=x) (F:Jv u x w) (j:0<=v) (k:v*v=x) (t:B=em u v):CF 342 [.one (.sl (.sl AA) T),.one (.sl AA A)] (.AI [(false,[.sl AA B]),(false,[.bool true])]):=by
 have l:=D.sqrt h hw d;refine Av Tryz.func342 fun E m=>?_
 conv=>cbv
 obtain⟨H,a⟩:=xR (em u w);refine AB m (F y z a) ?_;conv=>cbv
 refine AR ?_;conv=>cbv
 obtain⟨G,g⟩:=xI (Bi w);refine AB m (Ie h y a l n.v (Nat.le_trans (HZ _ _ _) n.v) n.vR g) ?_;conv=>cbv
 intro p f;conv=>cbv
 refine .inr ?_;cases p <;> conv=>cbv
 ·have o:=BX f;exact AF ⟨⟨rfl,congrArg _ (by rw[t,a];congr 1;have:¬w<0:=(fun hc=>by have:=Ky.2 hc;omega);exact Re.LQ j (by grind) (k.trans d.symm)),trivial⟩,t2,trivial⟩
 have o:=BY f;obtain⟨I,b⟩:=xR (em u (-w));refine AB m (MG h a l b) ?_;conv=>cbv
 exact AF ⟨⟨rfl,congrArg _ (by rw[t,b];congr 1;have:w<0:=Ky.1 (by omega);exact Re.LQ j (by grind) (by rw[k,<-d];grind)),trivial⟩,t2,trivial⟩
theorem jP {B:LR} {R s:Nat} (h:Bb R u) (d:T=tw u) (a:A=em u x) (j:El u s x) (g:FW u.length R s) {l:LR} (f:Ju u x l):CF 342 [.one (.sl (.sl AA) T),.one (.sl AA A)] (.AI [(false,[.sl AA (([]:LR))]),(false,[.bool false])]):=by
 refine Av Tryz.func342 fun E b=>?_
 conv=>cbv
 refine AB b (f d a) ?_;conv=>cbv
 refine BM ?_;conv=>cbv
 exact AF ⟨⟨rfl,AJ,trivial⟩,t2,trivial⟩
theorem jR {R s:Nat} (h:Bb R u) (m:T=tw u) (k:A=em u x) (j:El u s x) (b:FW u.length R s) (n:In u v) (f:0<=v) (a:v*v=x) (l:B=em u v):CF 342 [.one (.sl (.sl AA) T),.one (.sl AA A)] (.AI [(false,[.sl AA B]),(false,[.bool true])]):=by
 rcases Wh h j b.q b.vR with⟨w,hw,g,o⟩ |⟨d,_⟩
 ·exact jQ h m k j b hw g o f a l
 exact absurd ⟨v,n,a⟩ d
theorem jO {R s:Nat} (h:Bb R u) (j:T=tw u) (g:A=em u x) (f:El u s x) (a:FW u.length R s) (b:¬Sq u x):CF 342 [.one (.sl (.sl AA) T),.one (.sl AA A)] (.AI [(false,[.sl AA []]),(false,[.bool false])]):=by
 rcases Wh h f a.q a.vR with⟨w,hw,d,m⟩ |⟨_,l,k⟩
 ·exact absurd ⟨w,hw,d⟩ b
 exact jP (B:=[]) h j g f a k
theorem Sp {R:Nat} (h:Bb R u) (F:T=tw u) (hv:VV u.length R R<=60000000000000) (hq:SS u.length R R<=60000000000000):CF 222 [.one (.sl (.sl AA) T)] (.one (.bool true)):=by
 have ah:T.length=u.length:=by rw[F,CI]
 have hR:=h.hR;refine Av Tryz.func222 fun E U=>?_
 conv=>cbv
 refine .inr ?_;obtain⟨J0,g⟩:=xJ fun vs bl k=>∃(i':Nat) (i:Int),vs=[.one (.sl (.sl AA) T),.one (.int .i64 i)]/\(BG i i'/\i'<=T.length)/\k=T.length-i'
 refine⟨[0,3],[],J0,⟨T.length-0,by rw[g];exact⟨0,0,rfl,⟨Bv 0,by omega⟩,rfl⟩⟩,?_⟩;intro vs bl ak hj;rw[g] at hj;obtain⟨i',i,rfl,⟨hi,ai⟩,aj⟩:=hj;conv=>cbv
 have ei:=hi.eq;rintro n8 ⟨e8,f8⟩;conv=>cbv
 intro n9 h9;conv=>cbv
 cases n9 <;> conv=>cbv
 ·have k9:=BX h9;exact AF ⟨t2,trivial⟩
 have k9:=BY h9;refine .inr ?_;intro al ad;conv=>cbv
 refine AY ?_;intro O a8;conv=>cbv
 intro X G;conv=>cbv
 obtain⟨a5,b⟩:=Ao (l:=T) (i:=i') (by omega);refine⟨a5,fun _=>⟨by omega,by rw[show (i).toNat=i' by omega];exact b⟩,?_⟩;try conv=>cbv
 obtain⟨r,M,L⟩:=LG (u:=u) (i:=i') (by omega);have p:BF (r::pre u i'):=M ▸ (h.pre (i'+1)).red;have s:∀x,T[i']? =some x->x=em (pre u i') (Al (pre u i') r):=fun x hx=>by rw[<-F,hx] at L;exact (Option.some.inj L).trans (Ff p)
 have v:=s _ b;have o:El (pre u i') R (Al (pre u i') r):=El.EX (M ▸ h.pre (i'+1));have j:X=tw (pre u i'):=by rw[G,List.drop_zero,show O=i' by omega,F,KH]
 have J:(pre u i').length<=u.length:=by rw[LF (by omega)];omega
 have t:VV (pre u i').length R R<=60000000000000:=Nat.le_trans (No J R R) hv;have V:SS (pre u i').length R R<=60000000000000:=Nat.le_trans (gy J R R) hq;refine AB U (Np (h.pre i') j v o hR) ?_;conv=>cbv
 refine AR ?_;conv=>cbv
 intro an ae;conv=>cbv
 refine AY ?_;intro P aa;conv=>cbv
 intro Y H;conv=>cbv
 obtain⟨a6,d⟩:=Ao (l:=T) (i:=i') (by omega);refine⟨a6,fun _=>⟨by omega,by rw[show (i).toNat=i' by omega];exact d⟩,?_⟩;try conv=>cbv
 have m:Y=tw (pre u i'):=by rw[H,List.drop_zero,show P=i' by omega,F,KH]
 have y:=s _ d;obtain⟨aq,a⟩:=xI (Bi (Al (pre u i') r));refine AB U (Ie (h.pre i') m y o t hR t a) ?_;conv=>cbv
 intro a2 D;conv=>cbv
 refine g2 rfl ?_;cases a2 <;> conv=>cbv
 ·have N:=Mp D;intro ao af;conv=>cbv
  refine AY ?_;intro Q ab;conv=>cbv
  intro Z I;conv=>cbv
  obtain⟨a7,f⟩:=Ao (l:=T) (i:=i') (by omega);refine⟨a7,fun _=>⟨by omega,by rw[show (i).toNat=i' by omega];exact f⟩,?_⟩;try conv=>cbv
  have n:Z=tw (pre u i'):=by rw[I,List.drop_zero,show Q=i' by omega,F,KH]
  have z:=s _ f;obtain⟨l,hn⟩:=((Wh (h.pre i') o V t).resolve_left (fun⟨w,hw,W,_⟩=>p.2.2.2 ⟨w,hw,W⟩)).2;refine AB U (hn n z) ?_;conv=>cbv
  refine g2 rfl ?_;intro a1 ag;conv=>cbv
  refine Ah ?_;refine⟨T.length-(i'+1),?_,?_⟩
  ·omega
  rw[g];exact⟨i'+1,a1,rfl,⟨⟨by omega⟩,by omega⟩,rfl⟩
 have N:=Mq D;exact absurd N (by rw[a,EI p.2.2.1];omega)
theorem iF {R s:Nat} (h:Bb R u) (o:T=tw u) (m:A=em u x) (p:El u s x) (g:FW u.length R s) (y:In u v) (j:0<=v) (d:v*v=x) (t:B=em u v):CF 308 [.one (.sl (.sl AA) T),.one (.sl AA A)] (.AI [(false,[.sl (.sl AA) T]),(false,[.sl AA B]),(false,[.int .i64 0])]):=by
 have k:0<=x:=by rw[<-d];exact Re.Ji v
 refine Av Tryz.func308 fun E n=>?_
 conv=>cbv
 obtain⟨z,a⟩:=xI (Bi x);refine AB n (Ie h o m p g.v0 g.s g.vR a) ?_;conv=>cbv
 intro l b;conv=>cbv
 cases l <;> conv=>cbv
 ·have f:=BX b;refine AB n (jR h o m p g y j d t) ?_;conv=>cbv
  exact AF ⟨t2,t2,t2,trivial⟩
 have f:=BY b;exact (K8 a f k).elim
theorem iG {R s:Nat} (h:Bb R u) (z:T=tw u) (F:A=em u x) (U:El u s x) (y:FW u.length R s) (h8:u.length<8) (M:0<=x) (L:¬Sq u x) (Y:r=co u x) (h':Bb R' (r::u)) (H:T2=tw (r::u)) (W:B=em (r::u) (rt u r)):CF 308 [.one (.sl (.sl AA) T),.one (.sl AA A)] (.AI [(false,[.sl (.sl AA) T2]),(false,[.sl AA B]),(false,[.int .i64 0])]):=by
 have I:T.length=u.length:=by rw[z,CI]
 have X:=h.ht;refine Av Tryz.func308 fun E G=>?_
 conv=>cbv
 obtain⟨a2,f⟩:=xI (Bi x);refine AB G (Ie h z F U y.v0 y.s y.vR f) ?_;conv=>cbv
 intro N l;conv=>cbv
 cases N <;> conv=>cbv
 ·have t:=BX l;refine AB G (jO h z F U y L) ?_;conv=>cbv
  rintro Z ⟨V,f24⟩;conv=>cbv
  intro O m;conv=>cbv
  cases O <;> conv=>cbv
  ·have v:=Gm m;refine⟨[],fun _=>⟨rfl,by decide,rfl,trivial⟩,.inl ?_⟩;try conv=>cbv
   refine .inl ⟨T,fun _=>⟨rfl,rfl,rfl,by show (0+T.length)*24<=140737488355328;(try simp only[List.length_take,List.length_drop]);omega⟩,?_⟩;intro (b:List (el (.sl AA))) P g;have d:b=([]:List (el (.sl AA)))++(T:List (el (.sl AA))):=g.1;have o:P=List.length (α:=(el (.sl AA))) b:=g.2;conv=>cbv
   refine⟨[A],fun _=>⟨rfl,by decide,rfl,⟨rfl,by first | exact t1 | exact t2 | exact t4 | simp[Bg,Bo,cells],trivial⟩⟩,.inr ?_⟩;try conv=>cbv
   have J:b.length=T.length:=by rw[d];simp
   refine .inr ⟨[A],fun _=>⟨rfl,o,rfl,by show (b.length+1)*24<=140737488355328;(try simp only[List.length_take,List.length_drop]);omega⟩,?_⟩;intro (k:List (el (.sl AA))) Q j;have n:k=(b:List (el (.sl AA)))++([A]:List (el (.sl AA))):=j.1;have p:Q=List.length (α:=(el (.sl AA))) k:=j.2;conv=>cbv
   refine⟨fun _=>p,?_⟩;rintro a1 ⟨D,f35⟩;conv=>cbv
   have a:k=tw (r::u):=by rw[n,d,z,PS,F,em,Y];rfl
   refine AB G (ie h' a (BG.of (D.trans (congrArg _ I))) W) ?_;conv=>cbv
   exact AF ⟨⟨rfl,congrArg _ (by rw[H,a]),trivial⟩,t2,t2,trivial⟩
  have v:=Gn m;exact absurd v (by omega)
 have t:=BY l;exact (K8 f t M).elim
theorem ig {R s:Nat} (h:Bb R u) (d:T=tw u) (j:A=em u x) (k:El u s x) (a:FW u.length R s) (m:In u v) (f:0<=v) (g:v*v=x) (l:B=em u v):CF 262 [.one (.sl (.sl AA) T),.one (.sl AA A)] (.AI [(false,[.sl (.sl AA) T]),(false,[.sl AA B]),(false,[.int .i64 0])]):=by
 refine Av Tryz.func262 fun E b=>?_
 conv=>cbv
 refine AB b (Sp h d a.vR a.qR) ?_;conv=>cbv
 refine AR ?_;conv=>cbv
 refine AB b (Np h d j k a.s) ?_;conv=>cbv
 refine AR ?_;conv=>cbv
 refine AB b (iF h d j k a m f g l) ?_;conv=>cbv
 exact AF ⟨t2,t2,t2,trivial⟩
theorem ij {R s:Nat} (h:Bb R u) (d:T=tw u) (k:A=em u x) (l:El u s x) (a:FW u.length R s) (m:u.length<8) (j:0<=x) (g:¬Sq u x) (o:r=co u x) (h':Bb R' (r::u)) (f:T2=tw (r::u)) (n:B=em (r::u) (rt u r)):CF 262 [.one (.sl (.sl AA) T),.one (.sl AA A)] (.AI [(false,[.sl (.sl AA) T2]),(false,[.sl AA B]),(false,[.int .i64 0])]):=by
 refine Av Tryz.func262 fun E b=>?_
 conv=>cbv
 refine AB b (Sp h d a.vR a.qR) ?_;conv=>cbv
 refine AR ?_;conv=>cbv
 refine AB b (Np h d k l a.s) ?_;conv=>cbv
 refine AR ?_;conv=>cbv
 refine AB b (iG h d k l a m j g o h' f n) ?_;conv=>cbv
 exact AF ⟨t2,t2,t2,trivial⟩
theorem Sf {R s:Nat} (h:Bb R u) (h':Bb R' (Aj u v)) (l:(Aj u v).length<=8) (g:T=tw u) (m:A=em u v) (k:El u s v) (n:FW u.length R s) (f:0<=v) (a:T2=tw (Aj u v)) (b:B=em (Aj u v) (Re.sqrt v)):
  CF 262 [.one (.sl (.sl AA) T),.one (.sl AA A)] (.AI [(false,[.sl (.sl AA) T2]),(false,[.sl AA B]),(false,[.int .i64 0])]):=by
 by_cases d:Sq u v
 ·rw[ED d] at a b;have j:T2=T:=a.trans g.symm;subst j;exact ig h g m k n ((I7 f).1 d) (Re.Gg v) (Re.Ev f) b
 rw[C8 d] at h' l a b;rw[<-HA k.mem] at b;exact ij h g m k n (by rw[List.length_cons] at l;omega) f d rfl h' a b
end Go.Abs
namespace Go.Abs
open Go.RowKit
variable {R i:Nat} {c:Bool} {u w:List (List Rat)}
theorem eW {α:Type} {X Y:List α} {x y:α} (a:X[i]? =some x) (b:Y[i]? =some y) (h:X.take i=Y.take i) (e:x=y):X.take (i+1)=Y.take (i+1):=by
 rw[Cb a,Cb b,h,e]
theorem eX {α:Type} {X Y:List α} {n:Nat} {x y:α} (d:X[i]? =some x) (f:Y[i]? =some y) (b:i<n) (e:x≠y):X.take n≠Y.take n:=by
 intro h;apply e;have a:(X.take n)[i]? =(Y.take n)[i]? :=by rw[h]
 rw[List.getElem?_take,List.getElem?_take,if_pos b,if_pos b,d,f] at a;exact Option.some.inj a
theorem jS {X Y:LR} {xs ys:List Rat} (hX:X=Be xs) (hY:Y=Be ys) (hs:FX xs) (ht:FX ys) (hc:c=decide (X=Y)):CF 354 [.one (.sl AA X),.one (.sl AA Y)] (.one (.bool c)):=by
 refine Av Tryz.func354 fun E hE=>?_
 conv=>cbv
 rintro n7 ⟨e7,f7⟩;conv=>cbv
 rintro n9 ⟨e9,f9⟩;conv=>cbv
 intro I j;conv=>cbv
 cases I <;> conv=>cbv
 ·have F:=Es j;refine .inr ?_;obtain⟨U,f⟩:=xJ fun vs V k=>∃(i':Nat) (i:Int),vs=[.one (.sl AA X),.one (.sl AA Y),.one (.int .i64 i)]/\(BG i i'/\i'<=Y.length/\Y.length<=X.length)/\X.take i'=Y.take i'/\k=Y.length-i'
  refine⟨[0,1,5],[],U,⟨Y.length-0,by rw[f];exact⟨0,0,rfl,⟨Bv 0,by omega,by omega⟩,rfl,rfl⟩⟩,?_⟩;intro vs V a7 O;rw[f] at O;obtain⟨i',i,rfl,⟨hi,a1,v⟩,hinv,a2⟩:=O;conv=>cbv
  have ei:=hi.eq;rintro a8 ⟨W,f13⟩;conv=>cbv
  intro J m;conv=>cbv
  cases J <;> conv=>cbv
  ·have G:=BX m;have hl:X.length=Y.length:=by omega
   exact AF ⟨⟨rfl,congrArg _ (by rw[hc,decide_eq_true];have:=hinv;rwa [List.take_of_length_le (by omega),List.take_of_length_le (by omega)] at this),trivial⟩,trivial⟩
  have G:=BY m;refine .inr ?_;obtain⟨g,a⟩:=Ao (l:=X) (i:=i') (by omega);refine⟨g,fun _=>⟨by omega,by rw[show (i).toNat=i' by omega];exact a⟩,?_⟩;try conv=>cbv
  obtain⟨h,b⟩:=Ao (l:=Y) (i:=i') (by omega);refine⟨h,fun _=>⟨by omega,by rw[show (i).toNat=i' by omega];exact b⟩,?_⟩;try conv=>cbv
  obtain⟨p,P,a5,z⟩:=Iq hX hs a;obtain⟨q,Q,a6,D⟩:=Iq hY ht b;have s:g=rp p:=P.rp.symm;have t:h=rp q:=Q.rp.symm;obtain⟨N,d⟩:=xI (ID p q);refine AB hE (iR P Q z D d) ?_;conv=>cbv
  intro M o;conv=>cbv
  refine g2 rfl ?_;cases M <;> conv=>cbv
  ·have H:=Es o;intro L Z;conv=>cbv
   refine Ah ?_;refine⟨Y.length-(i'+1),?_,?_⟩
   ·omega
   rw[f];exact⟨i'+1,L,rfl,⟨⟨by omega⟩,by omega,v⟩,eW a b hinv (by rw[s,t];congr 1;have:=TV p q;rw[<-d,show N=0 by omega] at this;exact of_decide_eq_true this),rfl⟩
  have H:=Et o;have y:g≠h:=fun e=>by have e2:=Vz (s.symm.trans (e.trans t));have:=TV p q;rw[decide_eq_true e2,<-d] at this;simp at this;omega
  exact AF ⟨⟨rfl,congrArg _ (by rw[hc,decide_eq_false];intro e;exact eX (n:=i'+1) a b (by omega) y (by rw[e])),trivial⟩,trivial⟩
 have F:=Et j;exact AF ⟨⟨rfl,congrArg _ (by rw[hc,decide_eq_false];intro e;have:=congrArg List.length e;omega),trivial⟩,trivial⟩
theorem il {X Y:List LR} (hu:Bb R u) (hw:Bb R w) (V:X=tw u) (W:Y=tw w) (hc:c=(decide (Y.length<=X.length)&&decide (X.take Y.length=Y))):CF 329 [.one (.sl (.sl AA) X),.one (.sl (.sl AA) Y)] (.one (.bool c)):=by
 refine Av Tryz.func329 fun E U=>?_
 conv=>cbv
 rintro n7 ⟨e7,f7⟩;conv=>cbv
 rintro n9 ⟨e9,f9⟩;conv=>cbv
 intro G m;conv=>cbv
 cases G <;> conv=>cbv
 ·have z:=Ct m;refine .inr ?_;obtain⟨M,g⟩:=xJ fun vs O k=>∃(i':Nat) (i:Int),vs=[.one (.sl (.sl AA) X),.one (.sl (.sl AA) Y),.one (.int .i64 i)]/\(BG i i'/\i'<=Y.length/\Y.length<=X.length)/\X.take i'=Y.take i'/\k=Y.length-i'
  refine⟨[0,1,5],[],M,⟨Y.length-0,by rw[g];exact⟨0,0,rfl,⟨Bv 0,by omega,by omega⟩,rfl,rfl⟩⟩,?_⟩;intro vs O a5 L;rw[g] at L;obtain⟨i',i,rfl,⟨Z,a1,s⟩,hinv,a2⟩:=L;conv=>cbv
  have ei:=Z.eq;rintro a6 ⟨P,f13⟩;conv=>cbv
  intro H o;conv=>cbv
  cases H <;> conv=>cbv
  ·have D:=BX o;exact AF ⟨⟨rfl,congrArg _ (by rw[hc,decide_eq_true (show Y.length<=X.length by omega),decide_eq_true];rfl;rw[show Y.length=i' by omega,hinv,List.take_of_length_le (by omega)]),trivial⟩,trivial⟩
  have D:=BY o;refine .inr ?_;obtain⟨h,a⟩:=Ao (l:=X) (i:=i') (by omega);refine⟨h,fun _=>⟨by omega,by rw[show (i).toNat=i' by omega];exact a⟩,?_⟩;try conv=>cbv
  obtain⟨j,b⟩:=Ao (l:=Y) (i:=i') (by omega);refine⟨j,fun _=>⟨by omega,by rw[show (i).toNat=i' by omega];exact b⟩,?_⟩;try conv=>cbv
  obtain⟨p,hp,v⟩:=Lq V a;obtain⟨q,hq,y⟩:=Lq W b;obtain⟨N,d⟩:=xB (decide (h=j));refine AB U (jS hp hq ((hu.tb p (List.mem_reverse.1 (List.mem_of_getElem? v))).Cg hu.hR) ((hw.tb q (List.mem_reverse.1 (List.mem_of_getElem? y))).Cg hw.hR) d) ?_;conv=>cbv
  intro J f;conv=>cbv
  refine g2 rfl ?_;cases J <;> conv=>cbv
  ·have F:=Fo f;intro I Q;conv=>cbv
   refine Ah ?_;refine⟨Y.length-(i'+1),?_,?_⟩
   ·omega
   rw[g];exact⟨i'+1,I,rfl,⟨⟨by omega⟩,by omega,s⟩,eW a b hinv (of_decide_eq_true (by rw[<-d];exact Fo f)),rfl⟩
  have F:=Fp f;have t:h≠j:=of_decide_eq_false (by rw[<-d];exact Fp f);exact AF ⟨⟨rfl,congrArg _ (by rw[hc,decide_eq_false (p:=X.take Y.length=Y),Bool.and_false];intro e;exact eX (n:=Y.length) a b (by omega) t (by rw[e,List.take_length])),trivial⟩,trivial⟩
 have z:=Cu m;exact AF ⟨⟨rfl,congrArg _ (by rw[hc,decide_eq_false (show ¬Y.length<=X.length by omega)];rfl),trivial⟩,trivial⟩
theorem Ha {X Y:List LR} (hu:Bb R u) (hw:Bb R w) (a:X=tw u) (b:Y=tw w) (h:c=true↔w<:+u):CF 329 [.one (.sl (.sl AA) X),.one (.sl (.sl AA) Y)] (.one (.bool c)):=
 il hu hw a b (by rw[Bool.eq_iff_iff,h,WM,Bool.and_eq_true,decide_eq_true_eq,decide_eq_true_eq,a,b])
theorem JM {T:List LR} {A C:LR} {x:Re} (h:Bb R w) (hT:T=tw w) (V:A=em u x) (Z:In u x) (hu:u<:+w) (hC:C=em w x):CF 331 [.one (.sl (.sl AA) T),.one (.sl AA A)] (.one (.sl AA C)):=by
 have L:T.length=w.length:=by rw[hT,CI]
 have a5:=h.ht;have a2:A.length=2^u.length:=by rw[V,B5 Z]
 have O:=hu.length_le;have hle:2^u.length<=2^w.length:=C0 O;have Y:=Eo h.ht;have z:=ZL hu h.red Z;refine Av Tryz.func331 fun E hE=>?_
 conv=>cbv
 refine⟨[],fun _=>⟨rfl,by decide,rfl,trivial⟩,.inl ?_⟩;try conv=>cbv
 refine .inl ⟨A,fun _=>⟨rfl,rfl,rfl,by show (0+A.length)*64<=140737488355328;(try simp only[List.length_take,List.length_drop]);omega⟩,?_⟩;intro (G:LR) n8 F;have s:G=([]:LR)++(A:LR):=F.1;have N:n8=List.length (α:=(el AA)) G:=F.2;conv=>cbv
 refine .inr ?_;obtain⟨J0,p⟩:=xJ fun vs U k=>∃(o:LR) (mm j:Nat),vs=[.one (.sl (.sl AA) T),.one (.BI AA 6 0 0 mm)]/\U=[.arr 0 AA o]/\(mm=o.length/\o.length=2^u.length+j/\o.length<=2^w.length)/\o=A++List.replicate j (rp 0)/\k=2^w.length-o.length
 refine⟨[0,5],[6],J0,⟨2^w.length-G.length,by rw[p];exact⟨G,n8,0,rfl,rfl,⟨N,by rw[s];simp;omega,by rw[s];simp;omega⟩,by rw[s];simp,rfl⟩⟩,?_⟩;intro vs U aa W;rw[p] at W;obtain⟨o,mm,j,rfl,rfl,⟨v,a7,a8⟩,hinv,a6⟩:=W;conv=>cbv
 intro ab I;have a1:=I.eq;conv=>cbv
 rintro ad ⟨H,f12⟩;conv=>cbv
 intro ae J;conv=>cbv
 refine AY ?_;have X:=(Ge J (H.trans (congrArg _ L))).eq;intro Q t;conv=>cbv
 cases Q <;> conv=>cbv
 ·have P:=BX t;exact AF ⟨⟨rfl,.inl ⟨_,rfl,by omega,congrArg _ (by rw[hC,v,List.drop_zero,List.take_length,hinv,z,V,show j=2^w.length-2^u.length by omega])⟩,trivial⟩,trivial⟩
 have P:=BY t;refine .inr ?_;obtain⟨f,g,b,d,m⟩:=Ca (((0:Int):Rat));refine AB hE (Gi (by omega) rfl m) ?_;conv=>cbv
 refine⟨[((f,g),(b,d))],fun _=>⟨rfl,by decide,rfl,⟨rfl,by first | exact t1 | exact t2 | exact t4 | simp[Bg,Bo,cells],trivial⟩⟩,.inr ?_⟩;try conv=>cbv
 refine .inl ⟨[((f,g),(b,d))],fun _=>⟨rfl,v,rfl,by show (o.length+1)*64<=140737488355328;(try simp only[List.length_take,List.length_drop]);omega⟩,?_⟩;intro (a:LR) D n;have l:a=(o:LR)++([((f,g),(b,d))]:LR):=n.1;have y:D=List.length (α:=(el AA)) a:=n.2;conv=>cbv
 have M:a.length=o.length+1:=by rw[l];simp
 refine⟨2^w.length-a.length,?_,?_⟩
 ·omega
 rw[p];exact⟨a,D,j+1,rfl,rfl,⟨y,by omega,by omega⟩,by rw[l,hinv,List.replicate_succ',List.append_assoc,<-m.rp];rfl,rfl⟩
end Go.Abs
namespace Go.Abs
open Go.RowKit
structure EM (T:List (List Rat)->Prop) (R C S:Nat):Prop extends Gam T R C S where
 HO:∀{u},T u->FW u.length R (S+C)
def XI (S:Nat) (w u:List (List Rat)):Prop:=∀{T RL:List LR} {A C:LR} {x:Re},T=tw w->HH w RL u->A=em u x->El u S x->C=em w x->
 CF 332 [.one (.sl (.sl AA) T),.one (.sl (.sl AA) RL),.one (.sl AA A)] (.one (.sl AA C))
def XJ (S:Nat) (w u:List (List Rat)):Prop:=∀{T RL:List LR} {A C:LR} {x:Re} {mm:Nat},T=tw w->HH w RL u->mm=RL.length->A=em u x->El u S x->C=em w x->
 Bk Tryz.prog 332 [.one (.sl (.sl AA) T),.one (.BI (.sl AA) 0 0 0 mm),.one (.sl AA A)] (.arr 0 (.sl AA) RL) (.one (.sl AA C))
variable {A C:LR} {K R S mm:Nat} {RL T:List LR} {TT:List (List Rat)->Prop} {p x:Re} {q:Rat} {r:List Rat} {u w:List (List Rat)}
theorem iw {u:List (List Rat)} {x:Re} (G:Gam TT R K S) (hw:TT w) (p:T=tw w) (k:A=em [] (Re.ofRat q)) (t:Cp q) (n:C=em w (Re.ofRat q)):CF 332 [.one (.sl (.sl AA) T),.one (.sl (.sl AA) RL),.one (.sl AA A)] (.one (.sl AA C)):=by
 have d:A=[rp q]:=k.trans (Fc q);have m:A.length=1:=by rw[d];rfl
 refine Av Tryz.func332 fun E o=>?_
 conv=>cbv
 rintro s ⟨j,f12⟩;conv=>cbv
 intro g b;conv=>cbv
 cases g <;> conv=>cbv
 ·have f:=BR b;exact absurd f (by omega)
 have f:=BS b;obtain⟨h,a⟩:=Ao (l:=A) (i:=0) (by omega);refine⟨h,fun _=>⟨by omega,a⟩,?_⟩;try conv=>cbv
 refine AB o (IA (G.BJ hw) p (Gb d a) n) ?_;conv=>cbv
 exact AF ⟨t2,trivial⟩
theorem ix (G:Gam TT R K S) (hw:TT w) (P:T=tw w) {q:Re} (hu:TT (r::u)) (b:Bl (r::u) w) (ih:XI S w u) (hR:HH w RL (r::u)) (Y:A=em (r::u) x) (hx:El (r::u) S x) (o:x=p+q*rt u r) (Q:El u S p) (L:El u S q) (hC:C=em w x):CF 332 [.one (.sl (.sl AA) T),.one (.sl (.sl AA) RL),.one (.sl AA A)] (.one (.sl AA C)):=by
 have n:=(G.BJ hu).red;have v:A.length=2^u.length+2^u.length:=by rw[Y,B5 hx.mem,CW]
 have az:=ER u.length;have aw:(r::u).length<=8:=G.ht hu;have ag:(r::u).length=u.length+1:=rfl;have hmul:=G.mul hw;have a:El w K (rt u r):=by have:=G.CV hu hw b (Im n);rwa [Nat.zero_add] at this
 obtain⟨wk,a2,M,D⟩:=hR.2;obtain⟨rk,N⟩:=xR (em wk (rt u r));rw[<-N] at D;refine Av Tryz.func332 fun E y=>?_
 conv=>cbv
 rintro aD ⟨ak,f12⟩;conv=>cbv
 intro a8 s;conv=>cbv
 cases a8 <;> conv=>cbv
 ·have O:=BR s;rintro aE ⟨al,f20⟩;conv=>cbv
  intro aa ar;conv=>cbv
  refine g2 ⟨by omega,by omega,i64 (by omega)⟩ ?_;refine .inr ?_;obtain⟨J0,j⟩:=xJ fun vs bl k=>∃(k':Nat) (U kk:Int),vs=[.one (.sl (.sl AA) T),.one (.sl (.sl AA) RL),.one (.sl AA A),.one (.int .i64 U),.one (.int .i64 kk)]/\bl=[]/\(BG U (A.length/2)/\BG kk k'/\k'<=u.length)/\k=u.length-k'
  refine⟨[0,1,2,7,8],[],J0,⟨u.length-0,by rw[j];exact⟨0,aa,0,rfl,rfl,⟨⟨by omega⟩,Bv 0,by omega⟩,rfl⟩⟩,?_⟩;intro vs bl aA hj;rw[j] at hj;obtain⟨k',U,kk,rfl,rfl,⟨z,Z,ay⟩,ax⟩:=hj;conv=>cbv
  have ao:=z.eq;have aq:=Z.eq;intro aF au;conv=>cbv
  refine Ah ?_;intro aG X;conv=>cbv
  refine AY ?_;rintro aH ⟨an,f26⟩;conv=>cbv
  have ai:=(Ge (k:=k'+1) X (by omega)).eq;intro ab t;conv=>cbv
  cases ab <;> conv=>cbv
  ·have a5:=BX t;have a1:k'=u.length:=by have:=Mk v (show ¬2^(k'+1)<A.length by omega);omega
   intro aB ah;conv=>cbv
   refine AY ?_;intro W af;conv=>cbv
   intro a6 H;conv=>cbv
   have l:a6=em u p:=by rw[H,List.drop_zero,show W=A.length/2 by omega,Y,Dk n Q.mem L.mem o]
   obtain⟨aI,d⟩:=xR (em w (p));refine AB y (ih P hR.1 l Q d) ?_;conv=>cbv
   intro aC J;conv=>cbv
   refine AY ?_;rintro V aj ⟨ae,F⟩;conv=>cbv
   intro a7 I;conv=>cbv
   have m:a7=em u q:=by rw[I,show V=A.length/2 by omega,F,J,List.take_length,Y,Cz n Q.mem L.mem o]
   obtain⟨aJ,f⟩:=xR (em w (q));refine AB y (ih P hR.1 m L f) ?_;conv=>cbv
   refine g2 rfl ?_;refine⟨rk,fun _=>⟨by omega,by rw[show kk.toNat=u.length by omega];exact D⟩,?_⟩;try conv=>cbv
   obtain⟨aK,g⟩:=xR (em w (rt u r));refine AB y (JM (G.BJ hw) P N M a2 g) ?_;conv=>cbv
   obtain⟨aL,h⟩:=xR (em w (q*rt u r));refine AB y (FY (G.BJ hw) P f g (G.CV (G.sub hu) hw b.tail L) a (by omega) h) ?_;conv=>cbv
   refine AB (r:= .one (.sl AA C)) y (LZ (G.BJ hw) d h (G.CV (G.sub hu) hw b.tail Q) ((G.CV (G.sub hu) hw b.tail L).mul (G.BJ hw) a) (by omega) (by omega) (by rw[hC,o])) ?_;conv=>cbv
   exact AF ⟨t2,trivial⟩
  have a5:=BY t;refine .inr ?_;have a1:k'<u.length:=Mm v (show 2^(k'+1)<A.length by omega);intro ad av;conv=>cbv
  refine Ah ?_;refine⟨u.length-(k'+1),?_,?_⟩
  ·omega
  rw[j];exact⟨k'+1,U,ad,rfl,rfl,⟨z,⟨by omega⟩,by omega⟩,rfl⟩
 have O:=BS s;exact absurd O (by omega)
theorem iy {u:List (List Rat)} {x:Re} (s:mm=RL.length) (G:Gam TT R K S) (hw:TT w) (p:T=tw w) (k:A=em [] (Re.ofRat q)) (v:Cp q) (n:C=em w (Re.ofRat q)):Bk Tryz.prog 332 [.one (.sl (.sl AA) T),.one (.BI (.sl AA) 0 0 0 mm),.one (.sl AA A)] (.arr 0 (.sl AA) RL) (.one (.sl AA C)):=by
 have d:A=[rp q]:=k.trans (Fc q);have m:A.length=1:=by rw[d];rfl
 refine J5 Tryz.func332 (by kernel_rfl) rfl fun E o=>?_
 conv=>cbv
 rintro t ⟨j,f12⟩;conv=>cbv
 intro g b;conv=>cbv
 cases g <;> conv=>cbv
 ·have f:=BR b;exact absurd f (by omega)
 have f:=BS b;obtain⟨h,a⟩:=Ao (l:=A) (i:=0) (by omega);refine⟨h,fun _=>⟨by omega,a⟩,?_⟩;try conv=>cbv
 refine AB o (IA (G.BJ hw) p (Gb d a) n) ?_;conv=>cbv
 refine fun _=>⟨⟨⟨t2,trivial⟩,rfl,by simp⟩,rfl⟩
theorem iz (Q:mm=RL.length) (G:Gam TT R K S) (hw:TT w) (hT:T=tw w) {q:Re} (hu:TT (r::u)) (b:Bl (r::u) w) (ih:XJ S w u) (hR:HH w RL (r::u)) (hA:A=em (r::u) x) (hx:El (r::u) S x) (z:x=p+q*rt u r) (hp:El u S p) (U:El u S q) (hC:C=em w x):Bk Tryz.prog 332 [.one (.sl (.sl AA) T),.one (.BI (.sl AA) 0 0 0 mm),.one (.sl AA A)] (.arr 0 (.sl AA) RL) (.one (.sl AA C)):=by
 have v:=(G.BJ hu).red;have I:A.length=2^u.length+2^u.length:=by rw[hA,B5 hx.mem,CW]
 have aE:=ER u.length;have aB:(r::u).length<=8:=G.ht hu;have ak:(r::u).length=u.length+1:=rfl;have hmul:=G.mul hw;have a:El w K (rt u r):=by have:=G.CV hu hw b (Im v);rwa [Nat.zero_add] at this
 obtain⟨wk,a8,V,d⟩:=hR.2;obtain⟨rk,f⟩:=xR (em wk (rt u r));rw[<-f] at d;refine J5 Tryz.func332 (by kernel_rfl) rfl fun E J=>?_
 conv=>cbv
 rintro aI ⟨ar,f12⟩;conv=>cbv
 intro ab F;conv=>cbv
 cases ab <;> conv=>cbv
 ·have X:=BR F;rintro aJ ⟨au,f20⟩;conv=>cbv
  intro ad ay;conv=>cbv
  refine g2 ⟨by omega,by omega,i64 (by omega)⟩ ?_;refine .inr ?_;obtain⟨J0,o⟩:=xJ fun vs bl k=>∃(k':Nat) (hv kk:Int),vs=[.one (.sl (.sl AA) T),.one (.BI (.sl AA) 0 0 0 mm),.one (.sl AA A),.one (.int .i64 hv),.one (.int .i64 kk)]/\bl=[.arr 0 (.sl AA) RL]/\(BG hv (A.length/2)/\BG kk k'/\k'<=u.length)/\k=u.length-k'
  refine⟨[0,1,2,7,8],[0],J0,⟨u.length-0,by rw[o];exact⟨0,ad,0,rfl,rfl,⟨⟨by omega⟩,Bv 0,by omega⟩,rfl⟩⟩,?_⟩;intro vs bl aF hj;rw[o] at hj;obtain⟨k',hv,kk,rfl,rfl,⟨L,a6,aD⟩,aC⟩:=hj;conv=>cbv
  have aw:=L.eq;have ax:=a6.eq;intro aK az;conv=>cbv
  refine Ah ?_;intro aL a5;conv=>cbv
  refine AY ?_;rintro aM ⟨av,f26⟩;conv=>cbv
  have ao:=(Ge (k:=k'+1) a5 (by omega)).eq;intro ae H;conv=>cbv
  cases ae <;> conv=>cbv
  ·have aa:=BX H;have a7:k'=u.length:=by have:=Mk I (show ¬2^(k'+1)<A.length by omega);omega
   intro aG an;conv=>cbv
   refine AY ?_;intro a2 aj;conv=>cbv
   intro Y N;conv=>cbv
   have s:Y=em u p:=by rw[N,List.drop_zero,show a2=A.length/2 by omega,hA,Dk v hp.mem U.mem z]
   obtain⟨ag,g⟩:=xR (em w (p));refine .inr (.inr (.inl ⟨0,.arr 0 (.sl AA) RL,[.one (.sl (.sl AA) T),.one (.BI (.sl AA) 0 0 0 mm),.one (.sl AA Y)],.one (.sl AA ag),fun _=>⟨rfl,⟨rfl,⟨⟨rfl,rfl⟩,rfl⟩,rfl,trivial⟩⟩,fun _=>H8 J (ih hT hR.1 Q s hp g),?_⟩));try conv=>cbv
   intro aH P;conv=>cbv
   refine AY ?_;rintro a1 aq ⟨ai,M⟩;conv=>cbv
   intro Z O;conv=>cbv
   have t:Z=em u q:=by rw[O,show a1=A.length/2 by omega,M,P,List.take_length,hA,Cz v hp.mem U.mem z]
   obtain⟨ah,h⟩:=xR (em w (q));refine .inr (.inr (.inl ⟨0,.arr 0 (.sl AA) RL,[.one (.sl (.sl AA) T),.one (.BI (.sl AA) 0 0 0 mm),.one (.sl AA Z)],.one (.sl AA ah),fun _=>⟨rfl,⟨rfl,⟨⟨rfl,rfl⟩,rfl⟩,rfl,trivial⟩⟩,fun _=>H8 J (ih hT hR.1 Q t U h),?_⟩));try conv=>cbv
   refine g2 rfl ?_;refine⟨fun _=>⟨by omega,by have:=Hv d;omega⟩,?_⟩;intro W al;conv=>cbv
   obtain⟨D,n⟩:=Ao (l:=RL) (i:=W) (by have:=Hv d;omega);refine⟨D,fun _=>n,?_⟩;try conv=>cbv
   have y:D=rk:=by have:=n;rw[show W=u.length by omega,d] at this;exact (Option.some.inj this).symm
   have f:D=em wk (rt u r):=y.trans f;obtain⟨aN,j⟩:=xR (em w (rt u r));refine AB J (JM (G.BJ hw) hT f V a8 j) ?_;conv=>cbv
   obtain⟨aO,m⟩:=xR (em w (q*rt u r));refine AB J (FY (G.BJ hw) hT h j (G.CV (G.sub hu) hw b.tail U) a (by omega) m) ?_;conv=>cbv
   refine AB (r:= .one (.sl AA C)) J (LZ (G.BJ hw) g m (G.CV (G.sub hu) hw b.tail hp) ((G.CV (G.sub hu) hw b.tail U).mul (G.BJ hw) a) (by omega) (by omega) (by rw[hC,z])) ?_;conv=>cbv
   refine fun _=>⟨⟨⟨t2,trivial⟩,rfl,by simp⟩,rfl⟩
  have aa:=BY H;refine .inr ?_;have a7:k'<u.length:=Mm I (show 2^(k'+1)<A.length by omega);intro af aA;conv=>cbv
  refine Ah ?_;refine⟨u.length-(k'+1),?_,?_⟩
  ·omega
  rw[o];exact⟨k'+1,hv,af,rfl,rfl,⟨L,⟨by omega⟩,by omega⟩,rfl⟩
 have X:=BS F;exact absurd X (by omega)
theorem Jy (G:Gam TT R K S) (hw:TT w):∀{u:List (List Rat)},TT u->Bl u w->XI S w u:=by
 intro u
 induction u with
 | nil=>
  intro hu g T RL A C x h hR d a f;obtain⟨q,rfl⟩:=Dl.1 a.mem;have b:=a.Cg (by have:=G.mul hw;omega);rw[Ew] at b;exact iw (u:=[]) (x:=0) G hw h d (b q List.mem_cons_self) f
 | cons r u l=>
  intro hu g T RL A C x h hR d a f;obtain⟨p,q,j,k,b⟩:=El.parts (G.BJ hu).red a;exact ix G hw h hu g (l (G.sub hu) g.tail) hR d a j k b f
theorem iv (G:Gam TT R K S) (hw:TT w):∀{u:List (List Rat)},TT u->Bl u w->XJ S w u:=by
 intro u
 induction u with
 | nil=>
  intro hu h T RL A C x mm j hR a f b g;obtain⟨q,rfl⟩:=Dl.1 b.mem;have d:=b.Cg (by have:=G.mul hw;omega);rw[Ew] at d;exact iy (u:=[]) (x:=0) a G hw j f (d q List.mem_cons_self) g
 | cons r u m=>
  intro hu h T RL A C x mm j hR a f b g;obtain⟨p,q,k,l,d⟩:=El.parts (G.BJ hu).red b;exact iz a G hw j hu h (m (G.sub hu) h.tail) hR f b k l d g
theorem IB {U T2:List LR} {t:List (List Rat)} (G:EM TT R K S) (ht:TT t) (hu:TT u) (hT:T=tw t) (hU:U=tw u) (a7:T2=tw (ext t u)) (a5:RL=EO t u):CF 330 [.one (.sl (.sl AA) T),.one (.sl (.sl AA) U)] (.AI [(false,[.sl (.sl AA) T2]),(false,[.sl (.sl AA) RL]),(false,[.int .i64 0])]):=by
 have aj:U.length=u.length:=by rw[hU,CI]
 have an:=G.ht hu;have a6:=G.RS;refine Av Tryz.func330 fun E hE=>?_
 conv=>cbv
 refine .inr ?_
 obtain⟨J0,L⟩:∃J:List AV->List BA->Nat->Prop,J=fun vs bl k=>(∃(i:Int),vs=[.one (.sl (.sl AA) T),.one (.sl (.sl AA) U),.one .nil,.one (.int .i64 i)]/\bl=[.dead 0]/\BG i 0/\k=U.length)\/
  (∃(Ti o:List LR) (mm i':Nat) (i:Int),vs=[.one (.sl (.sl AA) Ti),.one (.sl (.sl AA) U),.one (.BI (.sl AA) 38 0 0 mm),.one (.int .i64 i)]/\bl=[.arr 0 (.sl AA) o]/\(BG i i'/\i'<=U.length/\mm=o.length)/\Ti=tw (ext t (pre u i'))/\o=EO t (pre u i')/\k=U.length-i'):=⟨_,rfl⟩
 refine⟨[0,1,7,8],[38],J0,⟨U.length,by rw[L];exact .inl ⟨0,rfl,rfl,Bv 0,rfl⟩⟩,?_⟩;intro vs bl ao hj;rw[L] at hj;rcases hj with⟨i,rfl,rfl,hi,ah⟩ |⟨Ti,o,mm,i',i,rfl,rfl,⟨hi,ak,Q⟩,s,hinv,ah⟩
 ·conv=>cbv
  have ei:=hi.eq;obtain⟨i',P⟩:=xN 0;have s:T=tw (ext t (pre u i')):=by rw[P,M8];exact hT
  rintro ai ⟨ae,f14⟩;conv=>cbv
  intro Z y;conv=>cbv
  cases Z <;> conv=>cbv
  ·have X:=BX y;have ad:u=[]:=List.eq_nil_of_length_eq_zero (by omega);exact AF ⟨⟨rfl,congrArg _ (by rw[a7,hT,ad];rfl),trivial⟩,⟨rfl,.inr (.inl ⟨_,congrArg _ (by rw[a5,ad];rfl)⟩),trivial⟩,t2,trivial⟩
  have X:=BY y;refine .inr ?_;obtain⟨v,m⟩:=Ao (l:=U) (i:=i') (by omega);refine⟨v,fun _=>⟨by omega,by rw[show (i).toNat=i' by omega];exact m⟩,?_⟩;try conv=>cbv
  obtain⟨r,p,F⟩:=LG (u:=u) (i:=i') (by omega);have d:TT (pre u i'):=G.I8 (LH u i') hu;have a:TT (r::pre u i'):=p ▸ G.I8 (LH u (i'+1)) hu;have D:=(G.BJ a).red;have W:v=em (pre u i') (Al (pre u i') r):=by rw[<-hU,m] at F;exact (Option.some.inj F).trans (Ff D)
  have b:TT (ext t (pre u i')):=G.ext ht d;have n:=(Jf (G.BJ ht).red (G.BJ d).red).2;have z:El (pre u i') S (Al (pre u i') r):=(El.EX (G.BJ a)).mono a6;have H:TT (Aj (ext t (pre u i')) (Al (pre u i') r)):=G.Aj b a n;have O:ext t (pre u (i'+1))=Aj (ext t (pre u i')) (Al (pre u i') r):=by rw[p];rfl
  have V:EO t (pre u (i'+1))=EO t (pre u i')++[em (Aj (ext t (pre u i')) (Al (pre u i') r)) (Re.sqrt (Al (pre u i') r))]:=by rw[p];rfl
  obtain⟨a2,g⟩:=xR (em (ext t (pre u i')) (Al (pre u i') r));refine cL (r:= .one (.sl AA a2)) hE (Jy G.toGam b d n s (by rw[P,M8];trivial) W z g) ⟨rfl,.inr ⟨_,rfl⟩,rfl,trivial⟩ ?_;try conv=>cbv
  obtain⟨I,h⟩:=xV (tw (Aj (ext t (pre u i')) (Al (pre u i') r)));obtain⟨f,j⟩:=xR (em (Aj (ext t (pre u i')) (Al (pre u i') r)) (Re.sqrt (Al (pre u i') r)));refine AB (r:= .AI [(false,[.sl (.sl AA) I]),(false,[.sl AA f]),(false,[.int .i64 0])]) hE (Sf (G.BJ b) (G.BJ H) (G.ht H) s g (G.CV d b n z) (G.HO b) (by have:=D.2.2.1;grind) h j) ?_;try conv=>cbv
  refine AR ?_;conv=>cbv
  refine⟨[f],fun _=>⟨rfl,by decide,rfl,⟨rfl,by first | exact t1 | exact t2 | exact t4 | simp[Bg,Bo,cells],trivial⟩⟩,.inr ?_⟩;try conv=>cbv
  refine .inl ⟨[f],fun _=>⟨rfl,by show (1)*24<=140737488355328;(try simp only[List.length_take,List.length_drop]);omega⟩,?_⟩;intro M ag;conv=>cbv
  intro a1 af;conv=>cbv
  refine Ah ?_;refine⟨U.length-(i'+1),?_,?_⟩
  ·omega
  rw[L];exact .inr ⟨I,[f],M,i'+1,a1,rfl,rfl,⟨⟨by omega⟩,by omega,ag⟩,by rw[h,O],by rw[V,j,P,M8];rfl,rfl⟩
 conv=>cbv
 have ei:=hi.eq;have al:o.length<=U.length:=by rw[hinv,PG,LF (by omega)];omega
 rintro ai ⟨ae,f14⟩;conv=>cbv
 intro Z y;conv=>cbv
 cases Z <;> conv=>cbv
 ·have X:=BX y;have ab:pre u i'=u:=by rw[show i'=u.length by omega];exact bz u
  exact AF ⟨⟨rfl,congrArg _ (by rw[a7,s,ab]),trivial⟩,⟨rfl,.inl ⟨_,rfl,by omega,congrArg _ (by rw[a5,Q,List.drop_zero,List.take_length,hinv,ab])⟩,trivial⟩,t2,trivial⟩
 have X:=BY y;refine .inr ?_;obtain⟨v,m⟩:=Ao (l:=U) (i:=i') (by omega);refine⟨v,fun _=>⟨by omega,by rw[show (i).toNat=i' by omega];exact m⟩,?_⟩;try conv=>cbv
 obtain⟨r,p,F⟩:=LG (u:=u) (i:=i') (by omega);have d:TT (pre u i'):=G.I8 (LH u i') hu;have a:TT (r::pre u i'):=p ▸ G.I8 (LH u (i'+1)) hu;have D:=(G.BJ a).red;have W:v=em (pre u i') (Al (pre u i') r):=by rw[<-hU,m] at F;exact (Option.some.inj F).trans (Ff D)
 have b:TT (ext t (pre u i')):=G.ext ht d;have n:=(Jf (G.BJ ht).red (G.BJ d).red).2;have z:El (pre u i') S (Al (pre u i') r):=(El.EX (G.BJ a)).mono a6;have H:TT (Aj (ext t (pre u i')) (Al (pre u i') r)):=G.Aj b a n;have O:ext t (pre u (i'+1))=Aj (ext t (pre u i')) (Al (pre u i') r):=by rw[p];rfl
 have V:EO t (pre u (i'+1))=EO t (pre u i')++[em (Aj (ext t (pre u i')) (Al (pre u i') r)) (Re.sqrt (Al (pre u i') r))]:=by rw[p];rfl
 obtain⟨a2,g⟩:=xR (em (ext t (pre u i')) (Al (pre u i') r));refine .inr (.inr (.inl ⟨38,.arr 0 (.sl AA) o,[.one (.sl (.sl AA) Ti),.one (.BI (.sl AA) 0 0 0 mm),.one (.sl AA v)],.one (.sl AA a2),fun _=>⟨rfl,⟨rfl,⟨⟨rfl,rfl⟩,rfl⟩,rfl,trivial⟩⟩,fun _=>H8 hE (iv G.toGam b d n s (by rw[hinv];exact H6 (G.BJ ht).red (G.BJ d).red) Q W z g),?_⟩));try conv=>cbv
 obtain⟨I,h⟩:=xV (tw (Aj (ext t (pre u i')) (Al (pre u i') r)));obtain⟨f,j⟩:=xR (em (Aj (ext t (pre u i')) (Al (pre u i') r)) (Re.sqrt (Al (pre u i') r)));refine AB (r:= .AI [(false,[.sl (.sl AA) I]),(false,[.sl AA f]),(false,[.int .i64 0])]) hE (Sf (G.BJ b) (G.BJ H) (G.ht H) s g (G.CV d b n z) (G.HO b) (by have:=D.2.2.1;grind) h j) ?_;try conv=>cbv
 refine AR ?_;conv=>cbv
 refine⟨[f],fun _=>⟨rfl,by decide,rfl,⟨rfl,by first | exact t1 | exact t2 | exact t4 | simp[Bg,Bo,cells],trivial⟩⟩,.inr ?_⟩;try conv=>cbv
 refine .inl ⟨[f],fun _=>⟨rfl,Q,rfl,by show (o.length+1)*24<=140737488355328;(try simp only[List.length_take,List.length_drop]);omega⟩,?_⟩;intro (Y:List (el (.sl AA))) M N;have a8:Y=(o:List (el (.sl AA)))++([f]:List (el (.sl AA))):=N.1;have aa:M=List.length (α:=(el (.sl AA))) Y:=N.2;conv=>cbv
 intro a1 af;conv=>cbv
 refine Ah ?_;refine⟨U.length-(i'+1),?_,?_⟩
 ·omega
 rw[L];exact .inr ⟨I,Y,M,i'+1,a1,rfl,rfl,⟨⟨by omega⟩,by omega,aa⟩,by rw[h,O],by rw[a8,hinv,V,j],rfl⟩
end Go.Abs
