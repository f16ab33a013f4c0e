/- Part 40 of a proof. Conditions: each theorem's own. -/
import Derived.Test.YtfilemenbchajaaGreatPk35
import Derived.Test.YtfilemenbchajaaGreatPk37
set_option linter.all false
set_option maxHeartbeats 8000000
set_option maxRecDepth 20000
open Go.Proofs
namespace Go.Abs
open Go.RowKit
structure Dm (h R s:Nat):Prop where
 q:SS h R s<=60000000000000
 v:VV h R (s+GG h R)<=60000000000000
 qR:SS h R R<=60000000000000
 vR:VV h R R<=60000000000000
variable {A B:LR} {R':Nat} {T T2:List LR} {r:List Rat} {u:List (List Rat)} {v x:Re}
theorem Dm.v0 {h R s:Nat} (f:Dm h R s):VV h R s<=60000000000000:=Nat.le_trans (GV h R (by omega)) f.v
theorem Dm.s {h R s:Nat} (f:Dm h R s):s<=60000000000000:=Nat.le_trans (Qa h R s) f.q
theorem Dm.mono {h R s t:Nat} (f:Dm h R s) (ht:t<=s):Dm h R t:=⟨Nat.le_trans (Kx h R ht) f.q,Nat.le_trans (GV h R (by omega)) f.v,f.qR,f.vR⟩
theorem XN:∀(h R s:Nat),SS h R s<=SS (h+1) R s:=fun h R s=>Nat.le_trans (Kx h R (by unfold TQ;omega)) (QZ h R s)
theorem XM {i h:Nat} (a:i<=h) (R s:Nat):SS i R s<=SS h R s:=by
 induction a with
 | refl=>exact Nat.le_refl _
 | step _ b=>exact Nat.le_trans b (XN _ _ _)
theorem YK {R s:Nat} (h:Al R u) (z:T=tw u) (D:A=em u x) (G:El u s x) (o:Dm u.length R s) {w:Re} (hw:In u w) (d:w*w=x) (H:GX u x w) (j:0<=v) (k:v*v=x) (y:B=em u v):CF 278 [.one (.sl (.sl AA) T),.one (.sl AA A)] (.AE [(false,[.sl AA B]),(false,[.bool true])]):=by
 have l:=G.sqrt h hw d;refine AH Tryz.func278 (by kernel_rfl) rfl fun E n=>?_
 conv=>cbv
 obtain⟨L,a⟩:=xR (em u w);refine cL n (H z D a) t2 ?_;try conv=>cbv
 intro I m;cases m.trans (rfl:_=false);conv=>cbv
 obtain⟨J,g⟩:=xI (BJ w);refine cL n (FQ h z a l o.v (Nat.le_trans (Ei _ _ _) o.v) o.vR g) t2 ?_;try conv=>cbv
 intro t f;conv=>cbv
 refine .inr ?_;cases t <;> conv=>cbv
 ·have p:=Ad f;exact fA ⟨⟨rfl,congrArg _ (by rw[y,a];congr 1;have:¬w<0:=(fun F=>by have:=HJ.2 F;omega);exact Re.Gs j (by grind) (k.trans d.symm)),trivial⟩,t2,trivial⟩ rfl (by simp)
 have p:=Ae f;obtain⟨M,b⟩:=xR (em u (-w));refine cL n (IV h a l b) t2 ?_;try conv=>cbv
 exact fA ⟨⟨rfl,congrArg _ (by rw[y,b];congr 1;have:w<0:=HJ.1 (by omega);exact Re.Gs j (by grind) (by rw[k,<-d];grind)),trivial⟩,t2,trivial⟩ rfl (by simp)
theorem YJ {B:LR} {R s:Nat} (h:Al R u) (f:T=tw u) (b:A=em u x) (m:El u s x) (k:Dm u.length R s) {l:LR} (g:GW u x l):CF 278 [.one (.sl (.sl AA) T),.one (.sl AA A)] (.AE [(false,[.sl AA (([]:LR))]),(false,[.bool false])]):=by
 refine AH Tryz.func278 (by kernel_rfl) rfl fun E d=>?_
 conv=>cbv
 refine cL d (g f b) t2 ?_;try conv=>cbv
 intro j a;cases a.trans (rfl:_=true);conv=>cbv
 exact fA ⟨⟨rfl,.inr (.inl ⟨_,rfl⟩),trivial⟩,t2,trivial⟩ rfl (by simp)
theorem YL {R s:Nat} (h:Al R u) (m:T=tw u) (k:A=em u x) (j:El u s x) (b:Dm u.length R s) (n:In u v) (f:0<=v) (a:v*v=x) (l:B=em u v):CF 278 [.one (.sl (.sl AA) T),.one (.sl AA A)] (.AE [(false,[.sl AA B]),(false,[.bool true])]):=by
 rcases QA h j b.q b.vR with⟨w,hw,g,o⟩ |⟨d,_⟩
 ·exact YK h m k j b hw g o f a l
 exact absurd ⟨v,n,a⟩ d
theorem YI {R s:Nat} (h:Al R u) (j:T=tw u) (g:A=em u x) (f:El u s x) (a:Dm u.length R s) (b:¬Sq u x):CF 278 [.one (.sl (.sl AA) T),.one (.sl AA A)] (.AE [(false,[.sl AA []]),(false,[.bool false])]):=by
 rcases QA h f a.q a.vR with⟨w,hw,d,m⟩ |⟨_,l,k⟩
 ·exact absurd ⟨w,hw,d⟩ b
 exact YJ (B:=[]) h j g f a k
theorem NT {R:Nat} (h:Al R u) (F:T=tw u) (hv:VV u.length R R<=60000000000000) (hq:SS u.length R R<=60000000000000):CF 227 [.one (.sl (.sl AA) T)] (.one (.bool true)):=by
 have ai:T.length=u.length:=by rw[F,BU]
 have hR:=h.hR;refine AH Tryz.func227 (by kernel_rfl) rfl fun E V=>?_
 conv=>cbv
 refine .inr ?_;obtain⟨J0,g⟩:=xJ fun vs bl k=>∃(i':Nat) (i:Int),vs=[.one (.sl (.sl AA) T),.one (.int .i64 i)]/\(AS i i'/\i'<=T.length)/\k=T.length-i'
 refine⟨[0,3],[],J0,⟨T.length-0,by rw[g];exact⟨0,0,rfl,⟨BC 0,by omega⟩,rfl⟩⟩,?_⟩;intro vs bl al hj;rw[g] at hj;obtain⟨i',i,rfl,⟨hi,aj⟩,ak⟩:=hj;conv=>cbv
 have ei:=hi.eq;rintro n8 ⟨e8,f8⟩;conv=>cbv
 intro n9 h9;conv=>cbv
 cases n9 <;> conv=>cbv
 ·have k9:=Ad h9;exact fA ⟨t2,trivial⟩ rfl (by simp)
 have k9:=Ae h9;refine .inr ?_;intro an ae;conv=>cbv
 refine g2 (by omega) ?_;intro O aa;conv=>cbv
 intro Y G;conv=>cbv
 obtain⟨a6,b⟩:=AG (l:=T) (i:=i') (by omega);refine⟨a6,fun _=>⟨by omega,by rw[show (i).toNat=i' by omega];exact b⟩,?_⟩;try conv=>cbv
 obtain⟨r,M,L⟩:=HS (u:=u) (i:=i') (by omega);have p:Ab (r::pre u i'):=M ▸ (h.pre (i'+1)).red;have s:∀x,T[i']? =some x->x=em (pre u i') (AN (pre u i') r):=fun x hx=>by rw[<-F,hx] at L;exact (Option.some.inj L).trans (DU p)
 have v:=s _ b;have o:El (pre u i') R (AN (pre u i') r):=El.Ca (M ▸ h.pre (i'+1));have j:Y=tw (pre u i'):=by rw[G,List.drop_zero,show O=i' by omega,F,Gk]
 have J:(pre u i').length<=u.length:=by rw[HR (by omega)];omega
 have t:VV (pre u i').length R R<=60000000000000:=Nat.le_trans (Jb J R R) hv;have W:SS (pre u i').length R R<=60000000000000:=Nat.le_trans (XM J R R) hq;refine cL V (Jc (h.pre i') j v o hR) t2 ?_;try conv=>cbv
 intro ar U;cases U.trans (rfl:_=false);conv=>cbv
 intro ao af;conv=>cbv
 refine g2 (by omega) ?_;intro P ab;conv=>cbv
 intro Z H;conv=>cbv
 obtain⟨a7,d⟩:=AG (l:=T) (i:=i') (by omega);refine⟨a7,fun _=>⟨by omega,by rw[show (i).toNat=i' by omega];exact d⟩,?_⟩;try conv=>cbv
 have m:Z=tw (pre u i'):=by rw[H,List.drop_zero,show P=i' by omega,F,Gk]
 have y:=s _ d;obtain⟨au,a⟩:=xI (BJ (AN (pre u i') r));refine cL V (FQ (h.pre i') m y o t hR t a) t2 ?_;try conv=>cbv
 intro a5 D;conv=>cbv
 refine g2 rfl ?_;cases a5 <;> conv=>cbv
 ·have N:=I1 D;intro aq ag;conv=>cbv
  refine g2 (by omega) ?_;intro Q ad;conv=>cbv
  intro a1 I;conv=>cbv
  obtain⟨a8,f⟩:=AG (l:=T) (i:=i') (by omega);refine⟨a8,fun _=>⟨by omega,by rw[show (i).toNat=i' by omega];exact f⟩,?_⟩;try conv=>cbv
  have n:a1=tw (pre u i'):=by rw[I,List.drop_zero,show Q=i' by omega,F,Gk]
  have z:=s _ f;obtain⟨l,hn⟩:=((QA (h.pre i') o W t).resolve_left (fun⟨w,hw,X,_⟩=>p.2.2.2 ⟨w,hw,X⟩)).2;refine cL V (hn n z) t2 ?_;try conv=>cbv
  refine g2 rfl ?_;intro a2 ah;conv=>cbv
  refine g1 (by omega) ?_;refine⟨T.length-(i'+1),?_,?_⟩
  ·omega
  rw[g];exact⟨i'+1,a2,rfl,⟨⟨by omega⟩,by omega⟩,rfl⟩
 have N:=I2 D;exact absurd N (by rw[a,Fq p.2.2.1];omega)
theorem XW {R s:Nat} (h:Al R u) (o:T=tw u) (m:A=em u x) (p:El u s x) (g:Dm u.length R s) (y:In u v) (j:0<=v) (d:v*v=x) (t:B=em u v):CF 229 [.one (.sl (.sl AA) T),.one (.sl AA A)] (.AE [(false,[.sl (.sl AA) T]),(false,[.sl AA B]),(false,[.int .i64 0])]):=by
 have k:0<=x:=by rw[<-d];exact Re.IE v
 refine AH Tryz.func229 (by kernel_rfl) rfl fun E n=>?_
 conv=>cbv
 obtain⟨z,a⟩:=xI (BJ x);refine cL n (FQ h o m p g.v0 g.s g.vR a) t2 ?_;try conv=>cbv
 intro l b;conv=>cbv
 cases l <;> conv=>cbv
 ·have f:=Ad b;refine cL n (YL h o m p g y j d t) t2 ?_;try conv=>cbv
  exact fA ⟨t2,t2,t2,trivial⟩ rfl (by simp)
 have f:=Ae b;exact (HM a f k).elim
theorem XX {R s:Nat} (h:Al R u) (z:T=tw u) (F:A=em u x) (U:El u s x) (y:Dm u.length R s) (h8:u.length<8) (M:0<=x) (L:¬Sq u x) (Y:r=co u x) (h':Al R' (r::u)) (H:T2=tw (r::u)) (W:B=em (r::u) (rt u r)):CF 229 [.one (.sl (.sl AA) T),.one (.sl AA A)] (.AE [(false,[.sl (.sl AA) T2]),(false,[.sl AA B]),(false,[.int .i64 0])]):=by
 have I:T.length=u.length:=by rw[z,BU]
 have X:=h.ht;refine AH Tryz.func229 (by kernel_rfl) rfl fun E G=>?_
 conv=>cbv
 obtain⟨a2,f⟩:=xI (BJ x);refine cL G (FQ h z F U y.v0 y.s y.vR f) t2 ?_;try conv=>cbv
 intro N l;conv=>cbv
 cases N <;> conv=>cbv
 ·have t:=Ad l;refine cL G (YI h z F U y L) t2 ?_;try conv=>cbv
  rintro Z ⟨V,f24⟩;conv=>cbv
  intro O m;conv=>cbv
  cases O <;> conv=>cbv
  ·have v:=EC m;refine⟨[],fun _=>⟨rfl,by decide,rfl,trivial⟩,.inl ?_⟩;try conv=>cbv
   refine .inl ⟨T,fun _=>⟨rfl,rfl,rfl,by show (0+T.length)*24<=140737488355328;(try simp only[List.length_take,List.length_drop]);omega⟩,?_⟩;intro (b:List (el (.sl AA))) P g;have d:b=([]:List (el (.sl AA)))++(T:List (el (.sl AA))):=g.1;have o:P=List.length (α:=(el (.sl AA))) b:=g.2;conv=>cbv
   refine⟨[A],fun _=>⟨rfl,by decide,rfl,⟨rfl,by first | exact t1 | exact t2 | exact t4 | simp[Aw,BF,cells],trivial⟩⟩,.inr ?_⟩;try conv=>cbv
   have J:b.length=T.length:=by rw[d];simp
   refine .inr ⟨[A],fun _=>⟨rfl,o,rfl,by show (b.length+1)*24<=140737488355328;(try simp only[List.length_take,List.length_drop]);omega⟩,?_⟩;intro (k:List (el (.sl AA))) Q j;have n:k=(b:List (el (.sl AA)))++([A]:List (el (.sl AA))):=j.1;have p:Q=List.length (α:=(el (.sl AA))) k:=j.2;conv=>cbv
   refine⟨fun _=>p,?_⟩;rintro a1 ⟨D,f35⟩;conv=>cbv
   have a:k=tw (r::u):=by rw[n,d,z,Km,F,em,Y];rfl
   refine cL G (Xo h' a (AS.of (D.trans (congrArg _ I))) W) t2 ?_;try conv=>cbv
   exact fA ⟨⟨rfl,congrArg _ (by rw[H,a]),trivial⟩,t2,t2,trivial⟩ rfl (by simp)
  have v:=ED m;exact absurd v (by omega)
 have t:=Ae l;exact (HM f t M).elim
theorem Xp {R s:Nat} (h:Al R u) (f:T=tw u) (k:A=em u x) (l:El u s x) (a:Dm u.length R s) (o:In u v) (g:0<=v) (j:v*v=x) (n:B=em u v):CF 174 [.one (.sl (.sl AA) T),.one (.sl AA A)] (.AE [(false,[.sl (.sl AA) T]),(false,[.sl AA B]),(false,[.int .i64 0])]):=by
 refine AH Tryz.func174 (by kernel_rfl) rfl fun E d=>?_
 conv=>cbv
 refine cL d (NT h f a.vR a.qR) t1 ?_;try conv=>cbv
 intro t m;cases m.trans (rfl:_=false);conv=>cbv
 refine cL d (Jc h f k l a.s) t2 ?_;try conv=>cbv
 intro p b;cases b.trans (rfl:_=false);conv=>cbv
 refine cL d (XW h f k l a o g j n) t2 ?_;try conv=>cbv
 exact fA ⟨t2,t2,t2,trivial⟩ rfl (by simp)
theorem Xq {R s:Nat} (h:Al R u) (f:T=tw u) (l:A=em u x) (m:El u s x) (a:Dm u.length R s) (n:u.length<8) (k:0<=x) (j:¬Sq u x) (t:r=co u x) (h':Al R' (r::u)) (g:T2=tw (r::u)) (p:B=em (r::u) (rt u r)):CF 174 [.one (.sl (.sl AA) T),.one (.sl AA A)] (.AE [(false,[.sl (.sl AA) T2]),(false,[.sl AA B]),(false,[.int .i64 0])]):=by
 refine AH Tryz.func174 (by kernel_rfl) rfl fun E d=>?_
 conv=>cbv
 refine cL d (NT h f a.vR a.qR) t1 ?_;try conv=>cbv
 intro y o;cases o.trans (rfl:_=false);conv=>cbv
 refine cL d (Jc h f l m a.s) t2 ?_;try conv=>cbv
 intro v b;cases b.trans (rfl:_=false);conv=>cbv
 refine cL d (XX h f l m a n k j t h' g p) t2 ?_;try conv=>cbv
 exact fA ⟨t2,t2,t2,trivial⟩ rfl (by simp)
theorem NI {R s:Nat} (h:Al R u) (h':Al R' (Ax u v)) (l:(Ax u v).length<=8) (g:T=tw u) (m:A=em u v) (k:El u s v) (n:Dm u.length R s) (f:0<=v) (a:T2=tw (Ax u v)) (b:B=em (Ax u v) (Re.sqrt v)):
  CF 174 [.one (.sl (.sl AA) T),.one (.sl AA A)] (.AE [(false,[.sl (.sl AA) T2]),(false,[.sl AA B]),(false,[.int .i64 0])]):=by
 by_cases d:Sq u v
 ·rw[EW d] at a b;have j:T2=T:=a.trans g.symm;subst j;exact Xp h g m k n ((Ki f).1 d) (Re.GN v) (Re.E9 f) b
 rw[D9 d] at h' l a b;rw[<-Kc k.mem] at b;exact Xq h g m k n (by rw[List.length_cons] at l;omega) f d rfl h' a b
end Go.Abs
namespace Go.Abs
open Go.RowKit
variable {R i:Nat} {c:Bool} {u w:List (List Rat)}
theorem WG {α:Type} {X Y:List α} {x y:α} (a:X[i]? =some x) (b:Y[i]? =some y) (h:X.take i=Y.take i) (e:x=y):X.take (i+1)=Y.take (i+1):=by
 rw[Bi a,Bi b,h,e]
theorem WH {α:Type} {X Y:List α} {n:Nat} {x y:α} (d:X[i]? =some x) (f:Y[i]? =some y) (b:i<n) (e:x≠y):X.take n≠Y.take n:=by
 intro h;apply e;have a:(X.take n)[i]? =(Y.take n)[i]? :=by rw[h]
 rw[List.getElem?_take,List.getElem?_take,if_pos b,if_pos b,d,f] at a;exact Option.some.inj a
theorem YM {X Y:LR} {xs ys:List Rat} (hX:X=Ao xs) (hY:Y=Ao ys) (hs:DL xs) (ht:DL ys) (y:c=decide (X=Y)):CF 307 [.one (.sl AA X),.one (.sl AA Y)] (.one (.bool c)):=by
 refine AH Tryz.func307 (by kernel_rfl) rfl fun E hE=>?_
 conv=>cbv
 rintro n7 ⟨e7,f7⟩;conv=>cbv
 rintro n9 ⟨e9,f9⟩;conv=>cbv
 intro J j;conv=>cbv
 cases J <;> conv=>cbv
 ·have G:=Dg j;refine .inr ?_;obtain⟨V,f⟩:=xJ fun vs W k=>∃(i':Nat) (i:Int),vs=[.one (.sl AA X),.one (.sl AA Y),.one (.int .i64 i)]/\(AS i i'/\i'<=Y.length/\Y.length<=X.length)/\X.take i'=Y.take i'/\k=Y.length-i'
  refine⟨[0,1,5],[],V,⟨Y.length-0,by rw[f];exact⟨0,0,rfl,⟨BC 0,by omega,by omega⟩,rfl,rfl⟩⟩,?_⟩;intro vs W a8 P;rw[f] at P;obtain⟨i',i,rfl,⟨hi,a2,v⟩,hinv,a5⟩:=P;conv=>cbv
  have ei:=hi.eq;rintro aa ⟨Z,f13⟩;conv=>cbv
  intro L m;conv=>cbv
  cases L <;> conv=>cbv
  ·have H:=Ad m;have hl:X.length=Y.length:=by omega
   exact fA ⟨⟨rfl,congrArg _ (by rw[y,decide_eq_true];have:=hinv;rwa [List.take_of_length_le (by omega),List.take_of_length_le (by omega)] at this),trivial⟩,trivial⟩ rfl (by simp)
  have H:=Ae m;refine .inr ?_;obtain⟨g,a⟩:=AG (l:=X) (i:=i') (by omega);refine⟨g,fun _=>⟨by omega,by rw[show (i).toNat=i' by omega];exact a⟩,?_⟩;try conv=>cbv
  obtain⟨h,b⟩:=AG (l:=Y) (i:=i') (by omega);refine⟨h,fun _=>⟨by omega,by rw[show (i).toNat=i' by omega];exact b⟩,?_⟩;try conv=>cbv
  obtain⟨p,Q,a6,D⟩:=Fa hX hs a;obtain⟨q,U,a7,F⟩:=Fa hY ht b;have s:g=rp p:=Q.rp.symm;have t:h=rp q:=U.rp.symm;obtain⟨O,d⟩:=xI (FG p q);refine cL hE (Xh Q U D F d) ⟨t4,t4,trivial⟩ ?_;try conv=>cbv
  intro N o;conv=>cbv
  refine g2 rfl ?_;cases N <;> conv=>cbv
  ·have I:=Dg o;intro M a1;conv=>cbv
   refine g1 (by omega) ?_;refine⟨Y.length-(i'+1),?_,?_⟩
   ·omega
   rw[f];exact⟨i'+1,M,rfl,⟨⟨by omega⟩,by omega,v⟩,WG a b hinv (by rw[s,t];congr 1;have:=Nx p q;rw[<-d,show O=0 by omega] at this;exact of_decide_eq_true this),rfl⟩
  have I:=Dh o;have z:g≠h:=fun e=>by have e2:=Pa (s.symm.trans (e.trans t));have:=Nx p q;rw[decide_eq_true e2,<-d] at this;simp at this;omega
  exact fA ⟨⟨rfl,congrArg _ (by rw[y,decide_eq_false];intro e;exact WH (n:=i'+1) a b (by omega) z (by rw[e])),trivial⟩,trivial⟩ rfl (by simp)
 have G:=Dh j;exact fA ⟨⟨rfl,congrArg _ (by rw[y,decide_eq_false];intro e;have:=congrArg List.length e;omega),trivial⟩,trivial⟩ rfl (by simp)
theorem Xs {X Y:List LR} (hu:Al R u) (hw:Al R w) (W:X=tw u) (Z:Y=tw w) (t:c=(decide (Y.length<=X.length)&&decide (X.take Y.length=Y))):CF 264 [.one (.sl (.sl AA) X),.one (.sl (.sl AA) Y)] (.one (.bool c)):=by
 refine AH Tryz.func264 (by kernel_rfl) rfl fun E V=>?_
 conv=>cbv
 rintro n7 ⟨e7,f7⟩;conv=>cbv
 rintro n9 ⟨e9,f9⟩;conv=>cbv
 intro H m;conv=>cbv
 cases H <;> conv=>cbv
 ·have D:=CA m;refine .inr ?_;obtain⟨N,g⟩:=xJ fun vs P k=>∃(i':Nat) (i:Int),vs=[.one (.sl (.sl AA) X),.one (.sl (.sl AA) Y),.one (.int .i64 i)]/\(AS i i'/\i'<=Y.length/\Y.length<=X.length)/\X.take i'=Y.take i'/\k=Y.length-i'
  refine⟨[0,1,5],[],N,⟨Y.length-0,by rw[g];exact⟨0,0,rfl,⟨BC 0,by omega,by omega⟩,rfl,rfl⟩⟩,?_⟩;intro vs P a5 M;rw[g] at M;obtain⟨i',i,rfl,⟨hi,a1,s⟩,hinv,a2⟩:=M;conv=>cbv
  have ei:=hi.eq;rintro a6 ⟨Q,f13⟩;conv=>cbv
  intro I o;conv=>cbv
  cases I <;> conv=>cbv
  ·have F:=Ad o;exact fA ⟨⟨rfl,congrArg _ (by rw[t,decide_eq_true (show Y.length<=X.length by omega),decide_eq_true];rfl;rw[show Y.length=i' by omega,hinv,List.take_of_length_le (by omega)]),trivial⟩,trivial⟩ rfl (by simp)
  have F:=Ae o;refine .inr ?_;obtain⟨h,a⟩:=AG (l:=X) (i:=i') (by omega);refine⟨h,fun _=>⟨by omega,by rw[show (i).toNat=i' by omega];exact a⟩,?_⟩;try conv=>cbv
  obtain⟨j,b⟩:=AG (l:=Y) (i:=i') (by omega);refine⟨j,fun _=>⟨by omega,by rw[show (i).toNat=i' by omega];exact b⟩,?_⟩;try conv=>cbv
  obtain⟨p,hp,y⟩:=Hy W a;obtain⟨q,hq,z⟩:=Hy Z b;obtain⟨O,d⟩:=xB (decide (h=j));refine cL V (YM hp hq ((hu.tb p (List.mem_reverse.1 (List.mem_of_getElem? y))).Bh hu.hR) ((hw.tb q (List.mem_reverse.1 (List.mem_of_getElem? z))).Bh hw.hR) d) t2 ?_;try conv=>cbv
  intro L f;conv=>cbv
  refine g2 rfl ?_;cases L <;> conv=>cbv
  ·have G:=CJ f;intro J U;conv=>cbv
   refine g1 (by omega) ?_;refine⟨Y.length-(i'+1),?_,?_⟩
   ·omega
   rw[g];exact⟨i'+1,J,rfl,⟨⟨by omega⟩,by omega,s⟩,WG a b hinv (of_decide_eq_true (by rw[<-d];exact CJ f)),rfl⟩
  have G:=CK f;have v:h≠j:=of_decide_eq_false (by rw[<-d];exact CK f);exact fA ⟨⟨rfl,congrArg _ (by rw[t,decide_eq_false (p:=X.take Y.length=Y),Bool.and_false];intro e;exact WH (n:=Y.length) a b (by omega) v (by rw[e,List.take_length])),trivial⟩,trivial⟩ rfl (by simp)
 have D:=CB m;exact fA ⟨⟨rfl,congrArg _ (by rw[t,decide_eq_false (show ¬Y.length<=X.length by omega)];rfl),trivial⟩,trivial⟩ rfl (by simp)
theorem Ej {X Y:List LR} (hu:Al R u) (hw:Al R w) (a:X=tw u) (b:Y=tw w) (h:c=true↔w<:+u):CF 264 [.one (.sl (.sl AA) X),.one (.sl (.sl AA) Y)] (.one (.bool c)):=
 Xs hu hw a b (by rw[Bool.eq_iff_iff,h,Pu,Bool.and_eq_true,decide_eq_true_eq,decide_eq_true_eq,a,b])
theorem F5 {T:List LR} {A C:LR} {x:Re} (h:Al R w) (hT:T=tw w) (V:A=em u x) (Z:In u x) (hu:u<:+w) (hC:C=em w x):CF 266 [.one (.sl (.sl AA) T),.one (.sl AA A)] (.one (.sl AA C)):=by
 have L:T.length=w.length:=by rw[hT,BU]
 have a5:=h.ht;have a2:A.length=2^u.length:=by rw[V,BL Z]
 have O:=hu.length_le;have hle:2^u.length<=2^w.length:=CX O;have Y:=Cq h.ht;have z:=Sj hu h.red Z;refine AH Tryz.func266 (by kernel_rfl) rfl fun E hE=>?_
 conv=>cbv
 refine⟨[],fun _=>⟨rfl,by decide,rfl,trivial⟩,.inl ?_⟩;try conv=>cbv
 refine .inl ⟨A,fun _=>⟨rfl,rfl,rfl,by show (0+A.length)*64<=140737488355328;(try simp only[List.length_take,List.length_drop]);omega⟩,?_⟩;intro (G:LR) n8 F;have s:G=([]:LR)++(A:LR):=F.1;have N:n8=List.length (α:=(el AA)) G:=F.2;conv=>cbv
 refine .inr ?_;obtain⟨J0,p⟩:=xJ fun vs U k=>∃(o:LR) (mm j:Nat),vs=[.one (.sl (.sl AA) T),.one (.AT AA 6 0 0 mm)]/\U=[.arr 0 AA o]/\(mm=o.length/\o.length=2^u.length+j/\o.length<=2^w.length)/\o=A++List.replicate j (rp 0)/\k=2^w.length-o.length
 refine⟨[0,5],[6],J0,⟨2^w.length-G.length,by rw[p];exact⟨G,n8,0,rfl,rfl,⟨N,by rw[s];simp;omega,by rw[s];simp;omega⟩,by rw[s];simp,rfl⟩⟩,?_⟩;intro vs U aa W;rw[p] at W;obtain⟨o,mm,j,rfl,rfl,⟨v,a7,a8⟩,hinv,a6⟩:=W;conv=>cbv
 intro ab I;have a1:=I.eq;conv=>cbv
 rintro ad ⟨H,f12⟩;conv=>cbv
 intro ae J;conv=>cbv
 refine g2 (by omega) ?_;have X:=(D3 J (H.trans (congrArg _ L)) (by omega)).eq;intro Q t;conv=>cbv
 cases Q <;> conv=>cbv
 ·have P:=Ad t;exact fA ⟨⟨rfl,.inl ⟨_,rfl,by omega,congrArg _ (by rw[hC,v,List.drop_zero,List.take_length,hinv,z,V,show j=2^w.length-2^u.length by omega])⟩,trivial⟩,trivial⟩ rfl (by simp)
 have P:=Ae t;refine .inr ?_;obtain⟨f,g,b,d,m⟩:=Bb (((0:Int):Rat));refine cL hE (D7 (by omega) rfl m) t1 ?_;try conv=>cbv
 refine⟨[((f,g),(b,d))],fun _=>⟨rfl,by decide,rfl,⟨rfl,by first | exact t1 | exact t2 | exact t4 | simp[Aw,BF,cells],trivial⟩⟩,.inr ?_⟩;try conv=>cbv
 refine .inl ⟨[((f,g),(b,d))],fun _=>⟨rfl,v,rfl,by show (o.length+1)*64<=140737488355328;(try simp only[List.length_take,List.length_drop]);omega⟩,?_⟩;intro (a:LR) D n;have l:a=(o:LR)++([((f,g),(b,d))]:LR):=n.1;have y:D=List.length (α:=(el AA)) a:=n.2;conv=>cbv
 have M:a.length=o.length+1:=by rw[l];simp
 refine⟨2^w.length-a.length,?_,?_⟩
 ·omega
 rw[p];exact⟨a,D,j+1,rfl,rfl,⟨y,by omega,by omega⟩,by rw[l,hinv,List.replicate_succ',List.append_assoc,<-m.rp];rfl,rfl⟩
end Go.Abs
namespace Go.Abs
open Go.RowKit
structure Cv (T:List (List Rat)->Prop) (R C S:Nat):Prop extends Gam T R C S where
 HB:∀{u},T u->Dm u.length R (S+C)
def Ql (S:Nat) (w u:List (List Rat)):Prop:=∀{T RL:List LR} {A C:LR} {x:Re},T=tw w->EV w RL u->A=em u x->El u S x->C=em w x->
 CF 267 [.one (.sl (.sl AA) T),.one (.sl (.sl AA) RL),.one (.sl AA A)] (.one (.sl AA C))
def Qm (S:Nat) (w u:List (List Rat)):Prop:=∀{T RL:List LR} {A C:LR} {x:Re} {mm:Nat},T=tw w->EV w RL u->mm=RL.length->A=em u x->El u S x->C=em w x->
 BW Tryz.prog 267 [.one (.sl (.sl AA) T),.one (.AT (.sl AA) 0 0 0 mm),.one (.sl AA A)] (.arr 0 (.sl AA) RL) (.one (.sl AA C))
variable {A C:LR} {K R S mm:Nat} {RL T:List LR} {TT:List (List Rat)->Prop} {p x:Re} {q:Rat} {r:List Rat} {u w:List (List Rat)}
theorem Xw {u:List (List Rat)} {x:Re} (G:Gam TT R K S) (hw:TT w) (p:T=tw w) (k:A=em [] (Re.ofRat q)) (t:Bj q) (n:C=em w (Re.ofRat q)):CF 267 [.one (.sl (.sl AA) T),.one (.sl (.sl AA) RL),.one (.sl AA A)] (.one (.sl AA C)):=by
 have d:A=[rp q]:=k.trans (DT q);have m:A.length=1:=by rw[d];rfl
 refine AH Tryz.func267 (by kernel_rfl) rfl fun E o=>?_
 conv=>cbv
 rintro s ⟨j,f12⟩;conv=>cbv
 intro g b;conv=>cbv
 cases g <;> conv=>cbv
 ·have f:=Au b;exact absurd f (by omega)
 have f:=Av b;obtain⟨h,a⟩:=AG (l:=A) (i:=0) (by omega);refine⟨h,fun _=>⟨by omega,a⟩,?_⟩;try conv=>cbv
 refine cL o (FC (G.AU hw) p (D2 d a) n) ⟨rfl,t4,trivial⟩ ?_;try conv=>cbv
 exact fA ⟨t2,trivial⟩ rfl (by simp)
theorem Xx (G:Gam TT R K S) (hw:TT w) (P:T=tw w) {q:Re} (hu:TT (r::u)) (b:BK (r::u) w) (ih:Ql S w u) (hR:EV w RL (r::u)) (Z:A=em (r::u) x) (hx:El (r::u) S x) (o:x=p+q*rt u r) (Q:El u S p) (L:El u S q) (hC:C=em w x):CF 267 [.one (.sl (.sl AA) T),.one (.sl (.sl AA) RL),.one (.sl AA A)] (.one (.sl AA C)):=by
 have n:=(G.AU hu).red;have v:A.length=2^u.length+2^u.length:=by rw[Z,BL hx.mem,Bc]
 have aA:=DG u.length;have ax:(r::u).length<=8:=G.ht hu;have ah:(r::u).length=u.length+1:=rfl;have hmul:=G.mul hw;have a:El w K (rt u r):=by have:=G.Be hu hw b (Im n);rwa [Nat.zero_add] at this
 obtain⟨wk,a5,M,D⟩:=hR.2;obtain⟨rk,N⟩:=xR (em wk (rt u r));rw[<-N] at D;refine AH Tryz.func267 (by kernel_rfl) rfl fun E y=>?_
 conv=>cbv
 rintro aE ⟨al,f12⟩;conv=>cbv
 intro aa s;conv=>cbv
 cases aa <;> conv=>cbv
 ·have O:=Au s;rintro aF ⟨an,f20⟩;conv=>cbv
  intro ab au;conv=>cbv
  refine g2 ⟨by omega,by omega,i64 (by omega)⟩ ?_;refine .inr ?_;obtain⟨J0,j⟩:=xJ fun vs bl k=>∃(k':Nat) (U V:Int),vs=[.one (.sl (.sl AA) T),.one (.sl (.sl AA) RL),.one (.sl AA A),.one (.int .i64 U),.one (.int .i64 V)]/\bl=[]/\(AS U (A.length/2)/\AS V k'/\k'<=u.length)/\k=u.length-k'
  refine⟨[0,1,2,7,8],[],J0,⟨u.length-0,by rw[j];exact⟨0,ab,0,rfl,rfl,⟨⟨by omega⟩,BC 0,by omega⟩,rfl⟩⟩,?_⟩;intro vs bl aB hj;rw[j] at hj;obtain⟨k',U,V,rfl,rfl,⟨z,a1,az⟩,ay⟩:=hj;conv=>cbv
  have aq:=z.eq;have ar:=a1.eq;intro aG av;conv=>cbv
  refine g1 (by omega) ?_;intro aH Y;conv=>cbv
  refine g2 (by omega) ?_;rintro aI ⟨ao,f26⟩;conv=>cbv
  have aj:=(D3 (k:=k'+1) Y (by omega) (by omega)).eq;intro ad t;conv=>cbv
  cases ad <;> conv=>cbv
  ·have a6:=Ad t;have a2:k'=u.length:=by have:=Iy v (show ¬2^(k'+1)<A.length by omega);omega
   intro aC ai;conv=>cbv
   refine g2 (by omega) ?_;intro X ag;conv=>cbv
   intro a7 H;conv=>cbv
   have l:a7=em u p:=by rw[H,List.drop_zero,show X=A.length/2 by omega,Z,B9 n Q.mem L.mem o]
   obtain⟨aJ,d⟩:=xR (em w (p));refine cL y (ih P hR.1 l Q d) t3 ?_;try conv=>cbv
   intro aD J;conv=>cbv
   refine g2 (by omega) ?_;rintro W ak ⟨af,F⟩;conv=>cbv
   intro a8 I;conv=>cbv
   have m:a8=em u q:=by rw[I,show W=A.length/2 by omega,F,J,List.take_length,Z,Bo n Q.mem L.mem o]
   obtain⟨aK,f⟩:=xR (em w (q));refine cL y (ih P hR.1 m L f) t3 ?_;try conv=>cbv
   refine g2 rfl ?_;refine⟨rk,fun _=>⟨by omega,by rw[show V.toNat=u.length by omega];exact D⟩,?_⟩;try conv=>cbv
   obtain⟨aL,g⟩:=xR (em w (rt u r));refine cL y (F5 (G.AU hw) P N M a5 g) t2 ?_;try conv=>cbv
   obtain⟨aM,h⟩:=xR (em w (q*rt u r));refine cL y (DM (G.AU hw) P f g (G.Be (G.sub hu) hw b.tail L) a (by omega) h) t3 ?_;try conv=>cbv
   refine cL (r:= .one (.sl AA C)) y (Hl (G.AU hw) d h (G.Be (G.sub hu) hw b.tail Q) ((G.Be (G.sub hu) hw b.tail L).mul (G.AU hw) a) (by omega) (by omega) (by rw[hC,o])) t3 ?_;try conv=>cbv
   exact fA ⟨t2,trivial⟩ rfl (by simp)
  have a6:=Ae t;refine .inr ?_;have a2:k'<u.length:=Iz v (show 2^(k'+1)<A.length by omega);intro ae aw;conv=>cbv
  refine g1 (by omega) ?_;refine⟨u.length-(k'+1),?_,?_⟩
  ·omega
  rw[j];exact⟨k'+1,U,ae,rfl,rfl,⟨z,⟨by omega⟩,by omega⟩,rfl⟩
 have O:=Av s;exact absurd O (by omega)
theorem Xy {u:List (List Rat)} {x:Re} (s:mm=RL.length) (G:Gam TT R K S) (hw:TT w) (p:T=tw w) (k:A=em [] (Re.ofRat q)) (v:Bj q) (n:C=em w (Re.ofRat q)):BW Tryz.prog 267 [.one (.sl (.sl AA) T),.one (.AT (.sl AA) 0 0 0 mm),.one (.sl AA A)] (.arr 0 (.sl AA) RL) (.one (.sl AA C)):=by
 have d:A=[rp q]:=k.trans (DT q);have m:A.length=1:=by rw[d];rfl
 refine Gc Tryz.func267 (by kernel_rfl) rfl fun E o=>?_
 conv=>cbv
 rintro t ⟨j,f12⟩;conv=>cbv
 intro g b;conv=>cbv
 cases g <;> conv=>cbv
 ·have f:=Au b;exact absurd f (by omega)
 have f:=Av b;obtain⟨h,a⟩:=AG (l:=A) (i:=0) (by omega);refine⟨h,fun _=>⟨by omega,a⟩,?_⟩;try conv=>cbv
 refine cL o (FC (G.AU hw) p (D2 d a) n) ⟨rfl,t4,trivial⟩ ?_;try conv=>cbv
 refine fun _=>⟨⟨⟨t2,trivial⟩,rfl,by simp⟩,rfl⟩
theorem Xz (Q:mm=RL.length) (G:Gam TT R K S) (hw:TT w) (hT:T=tw w) {q:Re} (hu:TT (r::u)) (b:BK (r::u) w) (ih:Qm S w u) (hR:EV w RL (r::u)) (hA:A=em (r::u) x) (hx:El (r::u) S x) (z:x=p+q*rt u r) (hp:El u S p) (U:El u S q) (hC:C=em w x):BW Tryz.prog 267 [.one (.sl (.sl AA) T),.one (.AT (.sl AA) 0 0 0 mm),.one (.sl AA A)] (.arr 0 (.sl AA) RL) (.one (.sl AA C)):=by
 have v:=(G.AU hu).red;have I:A.length=2^u.length+2^u.length:=by rw[hA,BL hx.mem,Bc]
 have aE:=DG u.length;have aB:(r::u).length<=8:=G.ht hu;have ak:(r::u).length=u.length+1:=rfl;have hmul:=G.mul hw;have a:El w K (rt u r):=by have:=G.Be hu hw b (Im v);rwa [Nat.zero_add] at this
 obtain⟨wk,a8,V,d⟩:=hR.2;obtain⟨rk,f⟩:=xR (em wk (rt u r));rw[<-f] at d;refine Gc Tryz.func267 (by kernel_rfl) rfl fun E J=>?_
 conv=>cbv
 rintro aI ⟨ar,f12⟩;conv=>cbv
 intro ab F;conv=>cbv
 cases ab <;> conv=>cbv
 ·have X:=Au F;rintro aJ ⟨au,f20⟩;conv=>cbv
  intro ad ay;conv=>cbv
  refine g2 ⟨by omega,by omega,i64 (by omega)⟩ ?_;refine .inr ?_;obtain⟨J0,o⟩:=xJ fun vs bl k=>∃(k':Nat) (hv kk:Int),vs=[.one (.sl (.sl AA) T),.one (.AT (.sl AA) 0 0 0 mm),.one (.sl AA A),.one (.int .i64 hv),.one (.int .i64 kk)]/\bl=[.arr 0 (.sl AA) RL]/\(AS hv (A.length/2)/\AS kk k'/\k'<=u.length)/\k=u.length-k'
  refine⟨[0,1,2,7,8],[0],J0,⟨u.length-0,by rw[o];exact⟨0,ad,0,rfl,rfl,⟨⟨by omega⟩,BC 0,by omega⟩,rfl⟩⟩,?_⟩;intro vs bl aF hj;rw[o] at hj;obtain⟨k',hv,kk,rfl,rfl,⟨L,a6,aD⟩,aC⟩:=hj;conv=>cbv
  have aw:=L.eq;have ax:=a6.eq;intro aK az;conv=>cbv
  refine g1 (by omega) ?_;intro aL a5;conv=>cbv
  refine g2 (by omega) ?_;rintro aM ⟨av,f26⟩;conv=>cbv
  have ao:=(D3 (k:=k'+1) a5 (by omega) (by omega)).eq;intro ae H;conv=>cbv
  cases ae <;> conv=>cbv
  ·have aa:=Ad H;have a7:k'=u.length:=by have:=Iy I (show ¬2^(k'+1)<A.length by omega);omega
   intro aG an;conv=>cbv
   refine g2 (by omega) ?_;intro a2 aj;conv=>cbv
   intro Y N;conv=>cbv
   have s:Y=em u p:=by rw[N,List.drop_zero,show a2=A.length/2 by omega,hA,B9 v hp.mem U.mem z]
   obtain⟨ag,g⟩:=xR (em w (p));refine .inr (.inr (.inl ⟨0,.arr 0 (.sl AA) RL,[.one (.sl (.sl AA) T),.one (.AT (.sl AA) 0 0 0 mm),.one (.sl AA Y)],.one (.sl AA ag),fun _=>⟨rfl,⟨rfl,⟨⟨rfl,rfl⟩,rfl⟩,rfl,trivial⟩⟩,fun _=>AP J (ih hT hR.1 Q s hp g),?_⟩));try conv=>cbv
   intro aH P;conv=>cbv
   refine g2 (by omega) ?_;rintro a1 aq ⟨ai,M⟩;conv=>cbv
   intro Z O;conv=>cbv
   have t:Z=em u q:=by rw[O,show a1=A.length/2 by omega,M,P,List.take_length,hA,Bo v hp.mem U.mem z]
   obtain⟨ah,h⟩:=xR (em w (q));refine .inr (.inr (.inl ⟨0,.arr 0 (.sl AA) RL,[.one (.sl (.sl AA) T),.one (.AT (.sl AA) 0 0 0 mm),.one (.sl AA Z)],.one (.sl AA ah),fun _=>⟨rfl,⟨rfl,⟨⟨rfl,rfl⟩,rfl⟩,rfl,trivial⟩⟩,fun _=>AP J (ih hT hR.1 Q t U h),?_⟩));try conv=>cbv
   refine g2 rfl ?_;refine⟨fun _=>⟨by omega,by have:=E0 d;omega⟩,?_⟩;intro W al;conv=>cbv
   obtain⟨D,n⟩:=AG (l:=RL) (i:=W) (by have:=E0 d;omega);refine⟨D,fun _=>n,?_⟩;try conv=>cbv
   have y:D=rk:=by have:=n;rw[show W=u.length by omega,d] at this;exact (Option.some.inj this).symm
   have f:D=em wk (rt u r):=y.trans f;obtain⟨aN,j⟩:=xR (em w (rt u r));refine cL J (F5 (G.AU hw) hT f V a8 j) t2 ?_;try conv=>cbv
   obtain⟨aO,m⟩:=xR (em w (q*rt u r));refine cL J (DM (G.AU hw) hT h j (G.Be (G.sub hu) hw b.tail U) a (by omega) m) t3 ?_;try conv=>cbv
   refine cL (r:= .one (.sl AA C)) J (Hl (G.AU hw) g m (G.Be (G.sub hu) hw b.tail hp) ((G.Be (G.sub hu) hw b.tail U).mul (G.AU hw) a) (by omega) (by omega) (by rw[hC,z])) t3 ?_;try conv=>cbv
   refine fun _=>⟨⟨⟨t2,trivial⟩,rfl,by simp⟩,rfl⟩
  have aa:=Ae H;refine .inr ?_;have a7:k'<u.length:=Iz I (show 2^(k'+1)<A.length by omega);intro af aA;conv=>cbv
  refine g1 (by omega) ?_;refine⟨u.length-(k'+1),?_,?_⟩
  ·omega
  rw[o];exact⟨k'+1,hv,af,rfl,rfl,⟨L,⟨by omega⟩,by omega⟩,rfl⟩
 have X:=Av F;exact absurd X (by omega)
theorem GZ (G:Gam TT R K S) (hw:TT w):∀{u:List (List Rat)},TT u->BK u w->Ql S w u:=by
 intro u
 induction u with
 | nil=>
  intro hu g T RL A C x h hR d a f;obtain⟨q,rfl⟩:=CI.1 a.mem;have b:=a.Bh (by have:=G.mul hw;omega);rw[Co] at b;exact Xw (u:=[]) (x:=0) G hw h d (b q List.mem_cons_self) f
 | cons r u l=>
  intro hu g T RL A C x h hR d a f;obtain⟨p,q,j,k,b⟩:=El.parts (G.AU hu).red a;exact Xx G hw h hu g (l (G.sub hu) g.tail) hR d a j k b f
theorem Xv (G:Gam TT R K S) (hw:TT w):∀{u:List (List Rat)},TT u->BK u w->Qm S w u:=by
 intro u
 induction u with
 | nil=>
  intro hu h T RL A C x mm j hR a f b g;obtain⟨q,rfl⟩:=CI.1 b.mem;have d:=b.Bh (by have:=G.mul hw;omega);rw[Co] at d;exact Xy (u:=[]) (x:=0) a G hw j f (d q List.mem_cons_self) g
 | cons r u m=>
  intro hu h T RL A C x mm j hR a f b g;obtain⟨p,q,k,l,d⟩:=El.parts (G.AU hu).red b;exact Xz a G hw j hu h (m (G.sub hu) h.tail) hR f b k l d g
theorem FD {U T2:List LR} {t:List (List Rat)} (G:Cv TT R K S) (ht:TT t) (hu:TT u) (hT:T=tw t) (hU:U=tw u) (a8:T2=tw (ext t u)) (a6:RL=CT t u):CF 265 [.one (.sl (.sl AA) T),.one (.sl (.sl AA) U)] (.AE [(false,[.sl (.sl AA) T2]),(false,[.sl (.sl AA) RL]),(false,[.int .i64 0])]):=by
 have al:U.length=u.length:=by rw[hU,BU]
 have aq:=G.ht hu;have a7:=G.RS;refine AH Tryz.func265 (by kernel_rfl) rfl fun E hE=>?_
 conv=>cbv
 refine .inr ?_
 obtain⟨J0,L⟩:∃J:List AV->List AM->Nat->Prop,J=fun vs bl k=>(∃(i:Int),vs=[.one (.sl (.sl AA) T),.one (.sl (.sl AA) U),.one .nil,.one (.int .i64 i)]/\bl=[.dead 0]/\AS i 0/\k=U.length)\/
  (∃(Ti o:List LR) (mm i':Nat) (i:Int),vs=[.one (.sl (.sl AA) Ti),.one (.sl (.sl AA) U),.one (.AT (.sl AA) 38 0 0 mm),.one (.int .i64 i)]/\bl=[.arr 0 (.sl AA) o]/\(AS i i'/\i'<=U.length/\mm=o.length)/\Ti=tw (ext t (pre u i'))/\o=CT t (pre u i')/\k=U.length-i'):=⟨_,rfl⟩
 refine⟨[0,1,7,8],[38],J0,⟨U.length,by rw[L];exact .inl ⟨0,rfl,rfl,BC 0,rfl⟩⟩,?_⟩;intro vs bl ar hj;rw[L] at hj;rcases hj with⟨i,rfl,rfl,hi,ai⟩ |⟨Ti,o,mm,i',i,rfl,rfl,⟨hi,an,V⟩,s,hinv,ai⟩
 ·conv=>cbv
  have ei:=hi.eq;obtain⟨i',Q⟩:=xN 0;have s:T=tw (ext t (pre u i')):=by rw[Q,JC];exact hT
  rintro aj ⟨af,f14⟩;conv=>cbv
  intro a1 y;conv=>cbv
  cases a1 <;> conv=>cbv
  ·have Y:=Ad y;have ae:u=[]:=List.eq_nil_of_length_eq_zero (by omega);exact fA ⟨⟨rfl,congrArg _ (by rw[a8,hT,ae];rfl),trivial⟩,⟨rfl,.inr (.inl ⟨_,congrArg _ (by rw[a6,ae];rfl)⟩),trivial⟩,t2,trivial⟩ rfl (by simp)
  have Y:=Ae y;refine .inr ?_;obtain⟨v,m⟩:=AG (l:=U) (i:=i') (by omega);refine⟨v,fun _=>⟨by omega,by rw[show (i).toNat=i' by omega];exact m⟩,?_⟩;try conv=>cbv
  obtain⟨r,p,F⟩:=HS (u:=u) (i:=i') (by omega);have d:TT (pre u i'):=G.Hb (HT u i') hu;have a:TT (r::pre u i'):=p ▸ G.Hb (HT u (i'+1)) hu;have D:=(G.AU a).red;have X:v=em (pre u i') (AN (pre u i') r):=by rw[<-hU,m] at F;exact (Option.some.inj F).trans (DU D)
  have b:TT (ext t (pre u i')):=G.ext ht d;have n:=(HW (G.AU ht).red (G.AU d).red).2;have z:El (pre u i') S (AN (pre u i') r):=(El.Ca (G.AU a)).mono a7;have H:TT (Ax (ext t (pre u i')) (AN (pre u i') r)):=G.Ax b a n;have P:ext t (pre u (i'+1))=Ax (ext t (pre u i')) (AN (pre u i') r):=by rw[p];rfl
  have W:CT t (pre u (i'+1))=CT t (pre u i')++[em (Ax (ext t (pre u i')) (AN (pre u i') r)) (Re.sqrt (AN (pre u i') r))]:=by rw[p];rfl
  obtain⟨a5,g⟩:=xR (em (ext t (pre u i')) (AN (pre u i') r));refine cL (r:= .one (.sl AA a5)) hE (GZ G.toGam b d n s (by rw[Q,JC];trivial) X z g) ⟨rfl,.inr ⟨_,rfl⟩,rfl,trivial⟩ ?_;try conv=>cbv
  obtain⟨I,h⟩:=xV (tw (Ax (ext t (pre u i')) (AN (pre u i') r)));obtain⟨f,j⟩:=xR (em (Ax (ext t (pre u i')) (AN (pre u i') r)) (Re.sqrt (AN (pre u i') r)));refine cL (r:= .AE [(false,[.sl (.sl AA) I]),(false,[.sl AA f]),(false,[.int .i64 0])]) hE (NI (G.AU b) (G.AU H) (G.ht H) s g (G.Be d b n z) (G.HB b) (by have:=D.2.2.1;grind) h j) t2 ?_;try conv=>cbv
  intro ak O;cases O.trans (show _=false by decide);conv=>cbv
  refine⟨[f],fun _=>⟨rfl,by decide,rfl,⟨rfl,by first | exact t1 | exact t2 | exact t4 | simp[Aw,BF,cells],trivial⟩⟩,.inr ?_⟩;try conv=>cbv
  refine .inl ⟨[f],fun _=>⟨rfl,by show (1)*24<=140737488355328;(try simp only[List.length_take,List.length_drop]);omega⟩,?_⟩;intro M ah;conv=>cbv
  intro a2 ag;conv=>cbv
  refine g1 (by omega) ?_;refine⟨U.length-(i'+1),?_,?_⟩
  ·omega
  rw[L];exact .inr ⟨I,[f],M,i'+1,a2,rfl,rfl,⟨⟨by omega⟩,by omega,ah⟩,by rw[h,P],by rw[W,j,Q,JC];rfl,rfl⟩
 conv=>cbv
 have ei:=hi.eq;have ao:o.length<=U.length:=by rw[hinv,Ka,HR (by omega)];omega
 rintro aj ⟨af,f14⟩;conv=>cbv
 intro a1 y;conv=>cbv
 cases a1 <;> conv=>cbv
 ·have Y:=Ad y;have ad:pre u i'=u:=by rw[show i'=u.length by omega];exact Ui u
  exact fA ⟨⟨rfl,congrArg _ (by rw[a8,s,ad]),trivial⟩,⟨rfl,.inl ⟨_,rfl,by omega,congrArg _ (by rw[a6,V,List.drop_zero,List.take_length,hinv,ad])⟩,trivial⟩,t2,trivial⟩ rfl (by simp)
 have Y:=Ae y;refine .inr ?_;obtain⟨v,m⟩:=AG (l:=U) (i:=i') (by omega);refine⟨v,fun _=>⟨by omega,by rw[show (i).toNat=i' by omega];exact m⟩,?_⟩;try conv=>cbv
 obtain⟨r,p,F⟩:=HS (u:=u) (i:=i') (by omega);have d:TT (pre u i'):=G.Hb (HT u i') hu;have a:TT (r::pre u i'):=p ▸ G.Hb (HT u (i'+1)) hu;have D:=(G.AU a).red;have X:v=em (pre u i') (AN (pre u i') r):=by rw[<-hU,m] at F;exact (Option.some.inj F).trans (DU D)
 have b:TT (ext t (pre u i')):=G.ext ht d;have n:=(HW (G.AU ht).red (G.AU d).red).2;have z:El (pre u i') S (AN (pre u i') r):=(El.Ca (G.AU a)).mono a7;have H:TT (Ax (ext t (pre u i')) (AN (pre u i') r)):=G.Ax b a n;have P:ext t (pre u (i'+1))=Ax (ext t (pre u i')) (AN (pre u i') r):=by rw[p];rfl
 have W:CT t (pre u (i'+1))=CT t (pre u i')++[em (Ax (ext t (pre u i')) (AN (pre u i') r)) (Re.sqrt (AN (pre u i') r))]:=by rw[p];rfl
 obtain⟨a5,g⟩:=xR (em (ext t (pre u i')) (AN (pre u i') r));refine .inr (.inr (.inl ⟨38,.arr 0 (.sl AA) o,[.one (.sl (.sl AA) Ti),.one (.AT (.sl AA) 0 0 0 mm),.one (.sl AA v)],.one (.sl AA a5),fun _=>⟨rfl,⟨rfl,⟨⟨rfl,rfl⟩,rfl⟩,rfl,trivial⟩⟩,fun _=>AP hE (Xv G.toGam b d n s (by rw[hinv];exact E8 (G.AU ht).red (G.AU d).red) V X z g),?_⟩));try conv=>cbv
 obtain⟨I,h⟩:=xV (tw (Ax (ext t (pre u i')) (AN (pre u i') r)));obtain⟨f,j⟩:=xR (em (Ax (ext t (pre u i')) (AN (pre u i') r)) (Re.sqrt (AN (pre u i') r)));refine cL (r:= .AE [(false,[.sl (.sl AA) I]),(false,[.sl AA f]),(false,[.int .i64 0])]) hE (NI (G.AU b) (G.AU H) (G.ht H) s g (G.Be d b n z) (G.HB b) (by have:=D.2.2.1;grind) h j) t2 ?_;try conv=>cbv
 intro ak O;cases O.trans (show _=false by decide);conv=>cbv
 refine⟨[f],fun _=>⟨rfl,by decide,rfl,⟨rfl,by first | exact t1 | exact t2 | exact t4 | simp[Aw,BF,cells],trivial⟩⟩,.inr ?_⟩;try conv=>cbv
 refine .inl ⟨[f],fun _=>⟨rfl,V,rfl,by show (o.length+1)*24<=140737488355328;(try simp only[List.length_take,List.length_drop]);omega⟩,?_⟩;intro (Z:List (el (.sl AA))) M N;have aa:Z=(o:List (el (.sl AA)))++([f]:List (el (.sl AA))):=N.1;have ab:M=List.length (α:=(el (.sl AA))) Z:=N.2;conv=>cbv
 intro a2 ag;conv=>cbv
 refine g1 (by omega) ?_;refine⟨U.length-(i'+1),?_,?_⟩
 ·omega
 rw[L];exact .inr ⟨I,Z,M,i'+1,a2,rfl,rfl,⟨⟨by omega⟩,by omega,ab⟩,by rw[h,P],by rw[aa,hinv,W,j],rfl⟩
end Go.Abs
