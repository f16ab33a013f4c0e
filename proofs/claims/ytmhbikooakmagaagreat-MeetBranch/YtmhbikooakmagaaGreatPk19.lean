/- Part 20 of a proof. Conditions: each theorem's own. -/
import Derived.Test.YtmhbikooakmagaaGreatPk18
set_option linter.all false
set_option maxHeartbeats 8000000
set_option maxRecDepth 20000
open Go.Proofs
namespace Go.Abs
open Go.RowKit
variable {A B:LR} {R s zn:Nat} {T:List LR} {c:Int} {i p q x y:Re} {r:List Rat} {u:List (List Rat)}
theorem Uw {C:LR} (h:At R (r::u)) (hT:T=tw (r::u)) (H:A=em (r::u) x) (hx:El (r::u) s x) (f:x=p+q*rt u r) (g:El u s p) (d:El u s q) (hb:2*s+2*EE u.length R+R+1<=60000000000000) (hC:C=em u (p*p-q*q*AL u r)):CF 291 [.one (.sl (.sl AA) T),.one (.sl AA A)] (.one (.sl AA C)):=by
 have aw:T.length=u.length+1:=by rw[hT,CB];rfl
 have av:A.length=2^u.length+2^u.length:=by rw[H,Bl hx.mem,B4]
 have S:=El.DH h;have hR:=h.hR;refine AJ Tryz.func291 fun E V=>?_
 conv=>cbv
 rintro n9 ⟨e9,f9⟩;conv=>cbv
 intro aC aq;conv=>cbv
 refine g2 ⟨by omega,by omega,i64 (by omega)⟩ ?_;rintro aD ⟨an,f13⟩;conv=>cbv
 intro aE ar;conv=>cbv
 refine AN ?_;intro ax ah;conv=>cbv
 refine AI ?_;intro Y ae;conv=>cbv
 intro a2 K;conv=>cbv
 rintro aF ⟨ao,f18⟩;conv=>cbv
 intro aa au;conv=>cbv
 refine AN ?_;obtain⟨U,b⟩:=AP (l:=T) (i:=(T.length-1)) (by omega);refine⟨U,fun _=>⟨by omega,by rw[show (aa).toNat=(T.length-1) by omega];exact b⟩,?_⟩;try conv=>cbv
 refine g2 rfl ?_;intro ay ai;conv=>cbv
 refine AI ?_;intro Z af;conv=>cbv
 intro a5 L;conv=>cbv
 intro az aj;conv=>cbv
 refine AI ?_;intro a1 ag;conv=>cbv
 intro a6 M;conv=>cbv
 have a:a2=tw u:=by rw[K,List.drop_zero,show Y=T.length-1 by omega,hT,Dq]
 have v:a5=em u p:=by rw[L,List.drop_zero,show Z=A.length/2 by omega,H,Co h.red g.mem d.mem f]
 have z:a6=em u p:=by rw[M,List.drop_zero,show a1=A.length/2 by omega,H,Co h.red g.mem d.mem f]
 obtain⟨aG,j⟩:=xR (em u (p*p));refine AB V (D9 h.tail a v z g g (by omega) j) ?_;conv=>cbv
 intro aA P;conv=>cbv
 refine AI ?_;rintro W ak ⟨ab,I⟩;conv=>cbv
 intro a7 N;conv=>cbv
 intro aB Q;conv=>cbv
 refine AI ?_;rintro X al ⟨ad,J⟩;conv=>cbv
 intro a8 O;conv=>cbv
 have D:a7=em u q:=by rw[N,show W=A.length/2 by omega,I,P,List.take_length,H,CP h.red g.mem d.mem f]
 have F:a8=em u q:=by rw[O,show X=A.length/2 by omega,J,Q,List.take_length,H,CP h.red g.mem d.mem f]
 obtain⟨aH,k⟩:=xR (em u (q*q));refine AB V (D9 h.tail a D F d d (by omega) k) ?_;conv=>cbv
 have G:U=em u (AL u r):=by rw[hT,GA] at b;exact (Option.some.inj b).symm.trans (Eu h.red)
 obtain⟨aI,m⟩:=xR (em u (q*q*AL u r));refine AB V (D9 h.tail a k G (d.mul h.tail d) S (by omega) m) ?_;conv=>cbv
 obtain⟨aJ,o⟩:=xR (em u (p*p-q*q*AL u r));refine AB V (Ns h.tail j m (g.mul h.tail g) ((d.mul h.tail d).mul h.tail S) (by omega) (by omega) o) ?_;conv=>cbv
 refine g2 rfl ?_;exact AD ⟨⟨rfl,congrArg _ (by rw[hC,o]),trivial⟩,trivial⟩
def Pu (R:Nat) (u:List (List Rat)):Prop:=∀{T:List LR} {A B:LR} {zn s:Nat} {x y:Re},T=tw u->A=em u x->El u s x->In u y->x*y=1->II u.length R s<=60000000000000->B=em u y->zn=B.length->
 CF 219 [.one (.sl (.sl AA) T),.one (.sl AA A)] (.AF [(false,[.own AA B zn]),(false,[.int .i64 0])])
theorem dk {p q:Rat} (U:T=[]) (G:A=[rp p]) (P:B=[rp q]) (h:p≠0) (H:q=1/p) (I:zn=B.length):CF 219 [.one (.sl (.sl AA) T),.one (.sl AA A)] (.AF [(false,[.own AA B zn]),(false,[.int .i64 0])]):=by
 refine AJ Tryz.func219 fun E S=>?_
 conv=>cbv
 rintro W ⟨D,f13⟩;conv=>cbv
 intro K f;conv=>cbv
 cases K <;> conv=>cbv
 ·have k:=Ao f;exact absurd (by rw[D,U];rfl) k
 have k:=BA f;have Q:A.length=1:=by rw[G];rfl
 obtain⟨m,a⟩:=AP (l:=A) (i:=0) (by omega);refine⟨m,fun _=>⟨by omega,a⟩,?_⟩;try conv=>cbv
 have j:=Ff G a;rintro L ⟨F,f20⟩;conv=>cbv
 have O:L=((List.length (α:=UInt32) m.1.2:Nat):Int):=F;intro M g;conv=>cbv
 cases M <;> conv=>cbv
 ·have J:=Ao g;obtain⟨N,b⟩:=AP (l:=A) (i:=0) (by omega);refine⟨N,fun _=>⟨by omega,b⟩,?_⟩;try conv=>cbv
  have V:=Ff G b;obtain⟨z,C,o,v,d⟩:=CH q;refine AB S (dO V h H d) ?_;conv=>cbv
  refine⟨[((z,C),(o,v))],fun _=>⟨rfl,by decide,rfl,⟨rfl,by first | exact t1 | exact t2 | exact t4 | simp[BV,Bm,cells],trivial⟩⟩,.inl ?_⟩;try conv=>cbv
  exact AD ⟨⟨rfl,.inr (.inl ⟨_,_,by decide,rfl,rfl,rfl,rfl,Dn (by rw[P,d.rp]) (by rw[I,P];rfl)⟩),trivial⟩,t2,trivial⟩
 have J:=BA g;exact absurd (Rat.num_eq_zero.1 (j.num.GR.1 (by omega))) h
theorem dr {y:Re} (h:At R (r::u)) (ih:Pu R u) (hT:T=tw (r::u)) (U:A=em (r::u) x) (hx:El (r::u) s x) (M:x=p+q*rt u r) (W:El u s p) (Y:El u s q) (h0:q=0) (V:In u i) (X:p*i=1) (hs:II (r::u).length R s<=60000000000000) (hB:B=em (r::u) i) (Z:zn=B.length):CF 219 [.one (.sl (.sl AA) T),.one (.sl AA A)] (.AF [(false,[.own AA B zn]),(false,[.int .i64 0])]):=by
 have aA:T.length=u.length+1:=by rw[hT,CB];rfl
 have ay:A.length=2^u.length+2^u.length:=by rw[U,Bl hx.mem,B4]
 have az:II (r::u).length R s=s+EE u.length R+II u.length R (2*s+2*EE u.length R+R+1):=rfl;have ah:=Js u.length R (s:=s) (t:=2*s+2*EE u.length R+R+1) (by omega);refine AJ Tryz.func219 fun E O=>?_
 conv=>cbv
 rintro aE ⟨ar,f13⟩;conv=>cbv
 intro a6 D;conv=>cbv
 cases a6 <;> conv=>cbv
 ·have N:=Ao D;rintro aF ⟨au,f28⟩;conv=>cbv
  intro aG aw;conv=>cbv
  refine g2 ⟨by omega,by omega,i64 (by omega)⟩ ?_;rintro aH ⟨av,f32⟩;conv=>cbv
  intro aI ax;conv=>cbv
  refine AN ?_;intro aB af;conv=>cbv
  refine AI ?_;intro Q aa;conv=>cbv
  intro a1 G;conv=>cbv
  intro aC K;conv=>cbv
  refine AI ?_;rintro P aq ⟨a8,F⟩;conv=>cbv
  intro a2 H;conv=>cbv
  have v:a2=em u q:=by rw[H,show P=A.length/2 by omega,F,K,List.take_length,U,CP h.red W.mem Y.mem M]
  refine AB O (Ig h.tail.red Y.mem v h0) ?_;conv=>cbv
  intro aD ag;conv=>cbv
  refine AI ?_;intro S ab;conv=>cbv
  intro a5 I;conv=>cbv
  have a:a1=tw u:=by rw[G,List.drop_zero,show Q=T.length-1 by omega,hT,Dq]
  have z:a5=em u p:=by rw[I,List.drop_zero,show S=A.length/2 by omega,U,Co h.red W.mem Y.mem M]
  obtain⟨j,b⟩:=xR (em u i);obtain⟨aj,d⟩:=xN j.length;refine AB O (ih a z W V X (by omega) b d) ?_;conv=>cbv
  refine AO ?_;conv=>cbv
  obtain⟨an,ao,ak,al,m⟩:=CH (((0:Int):Rat));refine AB O (Fk (by omega) rfl m) ?_;conv=>cbv
  obtain⟨g,f⟩:=xR (em u (0));refine AB (r:= .one (.sl AA g)) O (HD h.tail a m (by rw[show Re.ofRat ((0:Int):Rat)=0 from rfl];exact f)) ?_;try conv=>cbv
  have ad:j.length=2^u.length:=by rw[b,Bl V]
  have ae:g.length=2^u.length:=by rw[f,Bl (CG u)]
  have ai:=DS h.tail.ht;refine .inl ⟨g,fun _=>⟨rfl,d,rfl,by show (j.length+g.length)*64<=140737488355328;(try simp only[List.length_take,List.length_drop]);omega⟩,?_⟩;intro (C:LR) a7 o;have J:C=(j:LR)++(g:LR):=o.1;have L:a7=List.length (α:=(el AA)) C:=o.2;conv=>cbv
  have k:B=C:=by rw[hB,J,b,f];exact Fp h.red V (CG u) (by clear ih;grind)
  exact AD ⟨⟨rfl,.inr (.inl ⟨_,_,by decide,rfl,rfl,L,rfl,Dn (k) (by rw[Z,k])⟩),trivial⟩,t2,trivial⟩
 have N:=BA D;exact absurd N (by omega)
theorem dm (h:At R (r::u)) (ih:Pu R u) (hT:T=tw (r::u)) (N:A=em (r::u) x) (hx:El (r::u) s x) (k:x=p+q*rt u r) (C:El u s p) (m:El u s q) (h0:q≠0) (hi:In u i) (O:(p*p-q*q*AL u r)*i=1) (hy:y=p*i+ -q*i*rt u r) (hs:II (r::u).length R s<=60000000000000) (hB:B=em (r::u) y) (ab:zn=B.length):CF 219 [.one (.sl (.sl AA) T),.one (.sl AA A)] (.AF [(false,[.own AA B zn]),(false,[.int .i64 0])]):=by
 have aH:T.length=u.length+1:=by rw[hT,CB];rfl
 have aF:A.length=2^u.length+2^u.length:=by rw[N,Bl hx.mem,B4]
 have aG:II (r::u).length R s=s+EE u.length R+II u.length R (2*s+2*EE u.length R+R+1):=rfl;have hN:=El.norm h C.mem m.mem (k ▸ hx);have b:=hN.inv h.tail hi O;have av:=E1 u.length R (2*s+2*EE u.length R+R+1);have a1:=(m.neg h.red.1).mul h.tail b;refine AJ Tryz.func219 fun E L=>?_
 conv=>cbv
 rintro aM ⟨aA,f13⟩;conv=>cbv
 intro ah M;conv=>cbv
 cases ah <;> conv=>cbv
 ·have a5:=Ao M;rintro aN ⟨aB,f28⟩;conv=>cbv
  intro aO aD;conv=>cbv
  refine g2 ⟨by omega,by omega,i64 (by omega)⟩ ?_;rintro aP ⟨aC,f32⟩;conv=>cbv
  intro aQ aE;conv=>cbv
  refine AN ?_;intro aI ar;conv=>cbv
  refine AI ?_;intro a8 al;conv=>cbv
  intro ad S;conv=>cbv
  intro aJ Y;conv=>cbv
  refine AI ?_;rintro a6 ay ⟨aj,P⟩;conv=>cbv
  intro ae U;conv=>cbv
  have H:ae=em u q:=by rw[U,show a6=A.length/2 by omega,P,Y,List.take_length,N,CP h.red C.mem m.mem k]
  refine AB L (JC h.tail.red m.mem H h0) ?_;conv=>cbv
  have a:ad=tw u:=by rw[S,List.drop_zero,show a8=T.length-1 by omega,hT,Dq]
  obtain⟨aR,D⟩:=xR (em u (p*p-q*q*AL u r));refine AB L (Uw h hT N hx k C m (by omega) D) ?_;conv=>cbv
  obtain⟨aS,d⟩:=xR (em u i);refine AB L (DQ (ih a D hN hi O (by omega) d rfl)) ?_;conv=>cbv
  refine AO ?_;conv=>cbv
  intro aK au;conv=>cbv
  refine AI ?_;intro aa an;conv=>cbv
  intro af V;conv=>cbv
  have I:af=em u p:=by rw[V,List.drop_zero,show aa=A.length/2 by omega,N,Co h.red C.mem m.mem k]
  obtain⟨o,f⟩:=xR (em u (p*i));obtain⟨ax,g⟩:=xN o.length;refine AB L (bE h.tail a I d C b (by omega) f g) ?_;conv=>cbv
  intro aL Z;conv=>cbv
  refine AI ?_;rintro a7 az ⟨ak,Q⟩;conv=>cbv
  intro ag W;conv=>cbv
  have J:ag=em u q:=by rw[W,show a7=A.length/2 by omega,Q,Z,List.take_length,N,CP h.red C.mem m.mem k]
  obtain⟨aT,F⟩:=xR (em u (-q));refine AB L (Ke h.tail J m F) ?_;conv=>cbv
  obtain⟨v,j⟩:=xR (em u (-q*i));refine AB L (D9 h.tail a F d (m.neg h.red.1) b (by omega) j) ?_;conv=>cbv
  have ao:o.length=2^u.length:=by rw[f,Bl (C.mul h.tail b).mem]
  have aq:v.length=2^u.length:=by rw[j,Bl a1.mem]
  have aw:=DS h.tail.ht;refine .inl ⟨v,fun _=>⟨rfl,g,rfl,by show (o.length+v.length)*64<=140737488355328;(try simp only[List.length_take,List.length_drop]);omega⟩,?_⟩;intro (K:LR) ai G;have X:K=(o:LR)++(v:LR):=G.1;have a2:ai=List.length (α:=(el AA)) K:=G.2;conv=>cbv
  refine g2 rfl ?_;have z:B=K:=by rw[hB,X,f,j];exact Fp h.red (C.mul h.tail b).mem a1.mem hy
  exact AD ⟨⟨rfl,.inr (.inl ⟨_,_,by decide,rfl,rfl,a2,rfl,Dn (z) (by rw[ab,z])⟩),trivial⟩,t2,trivial⟩
 have a5:=BA M;exact absurd a5 (by omega)
theorem ow (h:At R u):Pu R u:=by
 induction u with
 | nil=>
  intro T A B zn s x y C j g K b I k f;obtain⟨p,rfl⟩:=Cp.1 g.mem;obtain⟨q,rfl⟩:=Cp.1 K;rw[EJ] at j k;rw[<-Re.ofRat_mul] at b;have e:=Re.F7.1 b;exact dk C j k (by intro L;subst L;grind) (by grind) f
 | cons r u d=>
  intro T A B zn s x y C j g K b I k f;obtain⟨p,q,a,o,D⟩:=El.parts h.red g;have O:=Cq h.red;have M:(0:Re)<1:=Re.G1.2 (show (0:Rat)<1 by decide)
  by_cases z:q=0
  ·have H:p≠0:=by intro e;rw[e,z] at a;rw[a] at b;clear d;grind
   obtain⟨i,G,v⟩:=EC h.red.1 o.mem H
   have J:y=i:=by
    have:y=i*(x*y):=by
     have e2:x=p:=by rw[a,z];clear d;grind
     rw[e2];have:i*(p*y)=y*(p*i):=by clear d;grind
     rw[this,v];clear d;grind
    rw[b] at this;clear d;grind
   exact dr (y:=y) h (d h.tail) C j g a o D z G v I (J ▸ k) f
  have N:=El.norm h o.mem D.mem (a ▸ g);have F:p*p-q*q*AL u r≠0:=YL h.red o.mem D.mem (by intro e;rw[<-a] at e;rw[e] at b;clear d;grind);obtain⟨i,G,m⟩:=EC h.red.1 N.mem F;refine dm h (d h.tail) C j g a o D z G m ?_ I k f
  have:y=x*y*((p-q*rt u r)*i):=by
   have:x*y*((p-q*rt u r)*i)=y*((p*p-q*q*AL u r)*i):=by rw[a];clear d;grind
   rw[this,m];clear d;grind
  rw[b] at this
  clear d;grind
theorem Nr (h:At R u) (f:T=tw u) (b:A=em u x) (j:El u s x) (k:In u y) (a:x*y=1) (g:II u.length R s<=60000000000000) (d:B=em u y):
 CF 219 [.one (.sl (.sl AA) T),.one (.sl AA A)] (.AF [(false,[.sl AA B]),(false,[.int .i64 0])]):=DQ (ow h f b j k a g d rfl)
theorem di (G:T=[]) (D:A=[rp 0]):CF 219 [.one (.sl (.sl AA) T),.one (.sl AA A)] (.AF [(false,[.sl AA (([]:LR))]),(false,[.int .i64 6])]):=by
 refine AJ Tryz.func219 fun E I=>?_
 conv=>cbv
 rintro H ⟨m,f13⟩;conv=>cbv
 intro v d;conv=>cbv
 cases v <;> conv=>cbv
 ·have h:=Ao d;exact absurd (by rw[m,G];rfl) h
 have h:=BA d;have F:A.length=1:=by rw[D];rfl
 obtain⟨k,a⟩:=AP (l:=A) (i:=0) (by omega);refine⟨k,fun _=>⟨by omega,a⟩,?_⟩;try conv=>cbv
 have g:=Ff D a;rintro z ⟨o,f20⟩;conv=>cbv
 have b:z=((List.length (α:=UInt32) k.1.2:Nat):Int):=o;intro C f;conv=>cbv
 cases C <;> conv=>cbv
 ·have j:=Ao f;exact absurd (by rw[b,g.num.GR.2 rfl];rfl) j
 have j:=BA f;exact AD ⟨⟨rfl,AU,trivial⟩,t2,trivial⟩
theorem dj (h:At R (r::u)) (ih:∀{T A},T=tw u->A=em u 0->CF 219 [.one (.sl (.sl AA) T),.one (.sl AA A)] (.AF [(false,[.sl AA []]),(false,[.int .i64 6])])) (M:T=tw (r::u)) (G:A=em (r::u) 0):CF 219 [.one (.sl (.sl AA) T),.one (.sl AA A)] (.AF [(false,[.sl AA (([]:LR))]),(false,[.int .i64 6])]):=by
 have hx:El (r::u) 0 0:=El.rat h.red HF;have f:(0:Re)=0+0*rt u r:=by grind
 have a2:T.length=u.length+1:=by rw[M,CB];rfl
 have a1:A.length=2^u.length+2^u.length:=by rw[G,Bl hx.mem,B4]
 refine AJ Tryz.func219 fun E L=>?_
 conv=>cbv
 rintro a8 ⟨V,f13⟩;conv=>cbv
 intro K g;conv=>cbv
 cases K <;> conv=>cbv
 ·have z:=Ao g;rintro aa ⟨W,f28⟩;conv=>cbv
  intro ab Y;conv=>cbv
  refine g2 ⟨by omega,by omega,i64 (by omega)⟩ ?_;rintro ad ⟨X,f32⟩;conv=>cbv
  intro ae Z;conv=>cbv
  refine AN ?_;intro a5 Q;conv=>cbv
  refine AI ?_;intro D O;conv=>cbv
  intro H k;conv=>cbv
  intro a6 v;conv=>cbv
  refine AI ?_;rintro C U ⟨N,j⟩;conv=>cbv
  intro I m;conv=>cbv
  have b:I=em u 0:=by rw[m,show C=A.length/2 by omega,j,v,List.take_length,G,CP h.red (CG u) (CG u) f]
  refine AB L (Ig h.tail.red (CG u) b rfl) ?_;conv=>cbv
  intro a7 S;conv=>cbv
  refine AI ?_;intro F P;conv=>cbv
  intro J o;conv=>cbv
  have a:H=tw u:=by rw[k,List.drop_zero,show D=T.length-1 by omega,M,Dq]
  have d:J=em u 0:=by rw[o,List.drop_zero,show F=A.length/2 by omega,G,Co h.red (CG u) (CG u) f]
  refine AB L (ih a d) ?_;conv=>cbv
  refine BG ?_;conv=>cbv
  exact AD ⟨⟨rfl,AU,trivial⟩,t2,trivial⟩
 have z:=BA g;exact absurd z (by omega)
theorem Uu:∀{u:List (List Rat)} {R:Nat},At R u->∀{T A},T=tw u->A=em u 0->CF 219 [.one (.sl (.sl AA) T),.one (.sl AA A)] (.AF [(false,[.sl AA []]),(false,[.int .i64 6])])
 | [],R,h=>fun b a=>di b (a.trans (EJ 0))
 | r::u,R,h=>fun b a=>dj h (Uu h.tail) b a
def Uo (R:Nat) (u:List (List Rat)):Prop:=∀{T:List LR} {A:LR} {s:Nat} {x:Re} {c:Int},T=tw u->A=em u x->El u s x->VV u.length R s<=60000000000000->c=BT x->
 CF 292 [.one (.sl (.sl AA) T),.one (.sl AA A)] (.one (.int .i64 c))
theorem eU {p:Rat} (v:T=[]) (k:A=[rp p]) (hc:c=Ez p):CF 292 [.one (.sl (.sl AA) T),.one (.sl AA A)] (.one (.int .i64 c)):=by
 refine AJ Tryz.func292 fun E o=>?_
 conv=>cbv
 rintro z ⟨g,f11⟩;conv=>cbv
 intro h d;conv=>cbv
 cases h <;> conv=>cbv
 ·have f:=Ao d;exact absurd (by rw[g,v];rfl) f
 have f:=BA d;have m:A.length=1:=by rw[k];rfl
 obtain⟨j,b⟩:=AP (l:=A) (i:=0) (by omega);refine⟨j,fun _=>⟨by omega,b⟩,?_⟩;try conv=>cbv
 obtain⟨C,a⟩:=xI (Ez p);refine AB o (Ui (Ff k b) a) ?_;conv=>cbv
 exact AD ⟨⟨rfl,congrArg _ (hc.trans a.symm),trivial⟩,trivial⟩
theorem eV (h:At R (r::u)) (ih:Uo R u) (L:T=tw (r::u)) (Y:A=em (r::u) x) (hx:El (r::u) s x) (hs:VV (r::u).length R s<=60000000000000) (hc:c=BT x):CF 292 [.one (.sl (.sl AA) T),.one (.sl AA A)] (.one (.int .i64 c)):=by
 obtain⟨p,q,d,V,W⟩:=El.parts h.red hx;have aG:T.length=u.length+1:=by rw[L,CB];rfl
 have aF:A.length=2^u.length+2^u.length:=by rw[Y,Bl hx.mem,B4]
 have aI:VV (r::u).length R s=VV u.length R (2*s+2*EE u.length R+R+1):=rfl;have aJ:=GY u.length R (2*s+2*EE u.length R+R+1);have aH:=Ib u.length R (s:=s) (t:=2*s+2*EE u.length R+R+1) (by omega);have hN:=El.norm h V.mem W.mem (d ▸ hx);have g:=ZZ h.red;have a8:=Cq h.red;refine AJ Tryz.func292 fun E Z=>?_
 conv=>cbv
 rintro aO ⟨ay,f11⟩;conv=>cbv
 intro ag G;conv=>cbv
 cases ag <;> conv=>cbv
 ·have X:=Ao G;rintro aP ⟨az,f18⟩;conv=>cbv
  intro aQ aC;conv=>cbv
  refine AN ?_;rintro aR ⟨aA,f22⟩;conv=>cbv
  intro aS aD;conv=>cbv
  refine g2 ⟨by omega,by omega,i64 (by omega)⟩ ?_;intro aK ar;conv=>cbv
  refine AI ?_;intro a2 al;conv=>cbv
  intro aa N;conv=>cbv
  rintro aT ⟨aB,f27⟩;conv=>cbv
  intro aU aE;conv=>cbv
  refine g2 ⟨by omega,by omega,i64 (by omega)⟩ ?_;intro aL U;conv=>cbv
  refine AI ?_;rintro a1 ax ⟨ak,M⟩;conv=>cbv
  intro ab O;conv=>cbv
  refine g2 rfl ?_;intro m32 au;conv=>cbv
  refine AI ?_;intro a5 an;conv=>cbv
  intro ad P;conv=>cbv
  have o:ad=tw u:=by rw[P,List.drop_zero,show a5=T.length-1 by omega,L,Dq]
  have k:aa=em u p:=by rw[N,List.drop_zero,show a2=A.length/2 by omega,Y,Co h.red V.mem W.mem d]
  obtain⟨aW,a⟩:=xI (BT p);refine AB Z (ih o k V (by omega) a) ?_;conv=>cbv
  intro aM av;conv=>cbv
  refine AI ?_;intro a6 ao;conv=>cbv
  intro ae Q;conv=>cbv
  have v:ae=tw u:=by rw[Q,List.drop_zero,show a6=T.length-1 by omega,L,Dq]
  have m:ab=em u q:=by rw[O,show a1=A.length/2 by omega,M,U,List.take_length,Y,CP h.red V.mem W.mem d]
  obtain⟨aX,b⟩:=xI (BT q);refine AB Z (ih v m W (by omega) b) ?_;conv=>cbv
  refine g2 rfl ?_;intro ah H;conv=>cbv
  cases ah <;> conv=>cbv
  ·have C:=Ao H;intro ai I;conv=>cbv
   cases ai <;> conv=>cbv
   ·have D:=Ao I;intro aj J;conv=>cbv
    cases aj <;> conv=>cbv
    ·have F:=Ao J;intro aN aw;conv=>cbv
     refine AI ?_;intro a7 aq;conv=>cbv
     intro af S;conv=>cbv
     have z:af=tw u:=by rw[S,List.drop_zero,show a7=T.length-1 by omega,L,Dq]
     obtain⟨aZ,j⟩:=xR (em u (p*p-q*q*AL u r));refine AB Z (Uw h L Y hx d V W (by omega) j) ?_;conv=>cbv
     obtain⟨aY,f⟩:=xI (BT (p*p-q*q*AL u r));refine AB Z (ih z j hN (by omega) f) ?_;conv=>cbv
     intro aV K;conv=>cbv
     refine⟨fun _=>by rw[K,a,f];exact Zn _ _,?_⟩;refine g2 rfl ?_;exact AD ⟨⟨rfl,congrArg _ (by rw[hc,K,a,f,d];exact Zr g a8 (fun e=>F (by rw[a,e];exact Gk)) (fun e=>C (by rw[b,e];exact Gk)) (by rw[<-a,<-b];exact D)),trivial⟩,trivial⟩
    have F:=BA J;exact AD ⟨⟨rfl,congrArg _ (by rw[hc,b,d];exact Zs g (Gj.1 (a ▸ F))),trivial⟩,trivial⟩
   have D:=BA I;exact AD ⟨⟨rfl,congrArg _ (by rw[hc,a,d];exact PR g (.inr (by rw[<-a,<-b];exact D))),trivial⟩,trivial⟩
  have C:=BA H;exact AD ⟨⟨rfl,congrArg _ (by rw[hc,a,d];exact PR g (.inl (Gj.1 (b ▸ C)))),trivial⟩,trivial⟩
 have X:=BA G;exact absurd X (by omega)
theorem Th (h:At R u):Uo R u:=by
 induction u with
 | nil=>
  intro T A s x c b a d f hc;obtain⟨p,rfl⟩:=Cp.1 d.mem;rw[EJ] at a;exact eU b a (hc.trans (Zp p))
 | cons r u g=>
  intro T A s x c b a d f hc;exact eV h (g h.tail) b a d f hc
end Go.Abs
namespace Go.Abs
open Go.RowKit
variable {A:LR} {R s:Nat} {T:List LR} {c:Int} {u:List (List Rat)} {x:Re}
theorem dC (h:At R u) (d:T=tw u) (a:A=em u x) (g:El u s x) (f:VV u.length R s<=60000000000000) (hc:c=BT x):CF 220 [.one (.sl (.sl AA) T),.one (.sl AA A)] (.one (.int .i64 c)):=by
 refine AJ Tryz.func220 fun E b=>?_
 conv=>cbv
 refine AB b (Th h d a g f hc) ?_;conv=>cbv
 exact AD ⟨t2,trivial⟩
theorem dU (h:At R u) (G:T=tw u) (hs:VV u.length R R<=60000000000000):CF 318 [.one (.sl (.sl AA) T)] (.one (.bool true)):=by
 have Y:T.length=u.length:=by rw[G,CB]
 refine AJ Tryz.func318 fun E P=>?_
 conv=>cbv
 refine AB P (Um h G) ?_;conv=>cbv
 refine AO ?_;conv=>cbv
 refine .inr ?_;obtain⟨V,d⟩:=xJ fun vs W k=>∃(i':Nat) (i:Int),vs=[.one (.sl (.sl AA) T),.one (.int .i64 i)]/\(AW i i'/\i'<=T.length)/\k=T.length-i'
 refine⟨[],[0,3],[],V,⟨T.length-0,by rw[d];exact⟨0,0,rfl,⟨Bb 0,by omega⟩,rfl⟩⟩,?_⟩;intro vs W a5 S;rw[d] at S;obtain⟨i',i,rfl,⟨Z,a1⟩,a2⟩:=S;conv=>cbv
 have ei:=Z.eq;rintro n9 ⟨e9,f9⟩;conv=>cbv
 intro L m;conv=>cbv
 cases L <;> conv=>cbv
 ·have J:=BB m;exact AD ⟨t2,trivial⟩
 have J:=BC m;refine .inr ?_;intro a6 U;conv=>cbv
 refine AI ?_;intro H Q;conv=>cbv
 intro K v;conv=>cbv
 obtain⟨j,b⟩:=AP (l:=T) (i:=i') (by omega);refine⟨j,fun _=>⟨by omega,by rw[show (i).toNat=i' by omega];exact b⟩,?_⟩;try conv=>cbv
 obtain⟨r,D,C⟩:=KJ (u:=u) (i:=i') (by omega);have z:AZ (r::pre u i'):=D ▸ (h.pre (i'+1)).red;have I:j=BD r:=by rw[<-G,b] at C;exact Option.some.inj C
 have g:j=em (pre u i') (AL (pre u i') r):=I.trans (Eu z);have f:K=tw (pre u i'):=by rw[v,List.drop_zero,show H=i' by omega,G,Ix]
 obtain⟨O,a⟩:=xI (BT (AL (pre u i') r));refine AB (r:= .one (.int .i64 O)) P (Th (h.pre i') f g (El.DH (D ▸ h.pre (i'+1))) (by rw[Jd (by omega)];exact Nat.le_trans (L2 (by omega) R R) hs) a) ?_;try conv=>cbv
 intro N o;conv=>cbv
 refine g2 rfl ?_;cases N <;> conv=>cbv
 ·have F:=C8 o;intro M X;conv=>cbv
  refine AN ?_;refine⟨T.length-(i'+1),?_,?_⟩
  ·omega
  rw[d];exact⟨i'+1,M,rfl,⟨⟨by omega⟩,by omega⟩,rfl⟩
 have F:=DA o;exact absurd (a.trans (E8 z.2.2.1)) F
theorem Hb (h:At R u) (b:T=tw u) (f:A=em u x) (g:El u s x) (j:VV u.length R s<=60000000000000) (d:s<=60000000000000) (hR:VV u.length R R<=60000000000000) (hc:c=BT x):CF 246 [.one (.sl (.sl AA) T),.one (.sl AA A)] (.one (.int .i64 c)):=by
 refine AJ Tryz.func246 fun E a=>?_
 conv=>cbv
 refine AB a (Nj h b f g d) ?_;conv=>cbv
 refine AO ?_;conv=>cbv
 refine AB a (dU h b hR) ?_;conv=>cbv
 refine AO ?_;conv=>cbv
 refine AB a (Th h b f g j hc) ?_;conv=>cbv
 exact AD ⟨t2,trivial⟩
theorem dV {C:LR} {r:List Rat} {k:Int} (h:At R (r::u)) (Q:T=tw (r::u)) (U:AW k u.length) (P:C=em (r::u) (rt u r)):CF 344 [.one (.sl (.sl AA) T),.one (.int .i64 k)] (.one (.sl AA C)):=by
 have O:=U.eq;have S:(r::u).length<=16:=h.ht;have V:(r::u).length=u.length+1:=rfl;refine AJ Tryz.func344 fun E H=>?_
 conv=>cbv
 obtain⟨a2,a5,Z,a1,F⟩:=CH (((0:Int):Rat));refine AB H (Fk (by omega) rfl F) ?_;conv=>cbv
 obtain⟨v,m⟩:=xR (em (r::u) (0));obtain⟨J,D⟩:=xN v.length;refine AB (r:= .one (.own AA v J)) H (Ud h Q F (by rw[show Re.ofRat ((0:Int):Rat)=0 from rfl];exact m) D) ?_;try conv=>cbv
 intro Y G;conv=>cbv
 refine AI ?_;have N:=(Fg (k:=u.length) G O).eq;obtain⟨g,j,d,f,b⟩:=CH (((1:Int):Rat));refine AB H (Fk (by omega) rfl b) ?_;conv=>cbv
 have W:v.length=2^u.length+2^u.length:=by rw[m,Bl (CG _),B4]
 have X:=C2 u.length;have M:=DS (n:=u.length);refine AI ?_;intro I L;conv=>cbv
 refine⟨((g,j),(d,f)),fun _=>⟨by show _<List.length (α:=(el AA)) v;(first | omega | (simp;omega)),by first | exact t1 | exact t2 | exact t4 | simp[BV,Bm,cells]⟩,?_⟩;intro (o:LR) (a:o=List.set (α:=(el AA)) v I (((g,j),(d,f))));have K:o.length=v.length:=by rw[a,List.length_set]
 conv=>cbv
 refine g2 rfl ?_;have z:C=o:=by rw[P,Wh h.red,a,m];congr 1 <;> first | omega | exact b.rp
 exact AD ⟨⟨rfl,.inl ⟨_,rfl,by omega,congrArg _ (by rw[z,List.drop_zero,List.take_of_length_le (by omega)])⟩,trivial⟩,trivial⟩
end Go.Abs
namespace Go.Abs
def TQ (h R s:Nat):Nat:=3*s+4*EE h R+R+GG h R+3+II h R R
def SS:Nat->Nat->Nat->Nat
 | 0,_,s=>s
 | h+1,R,s=>max (VV (h+1) R s) (max (SS h R (TQ h R s)) (s+II h R (TQ h R s+GG h R)+2*EE h R+2))
theorem UU (h R:Nat) {s t:Nat} (a:s<=t):TQ h R s<=TQ h R t:=by unfold TQ;omega
theorem Nf:∀(h R:Nat) {s t:Nat},s<=t->SS h R s<=SS h R t
 | 0,_,_,_,a=>a
 | h+1,R,s,t,a=>by
  have b:=Ib (h+1) R a;have d:=Nf h R (UU h R a);have h3:=Js h R (Nat.add_le_add_right (UU h R a) (GG h R))
  show max _ (max _ _)<=max _ (max _ _)
  omega
theorem I9 (h R s:Nat):VV (h+1) R s<=SS (h+1) R s:=by show _<=max _ (max _ _);omega
theorem UR (h R s:Nat):SS h R (TQ h R s)<=SS (h+1) R s:=by show _<=max _ (max _ _);omega
theorem Jt (h R s:Nat):s+II h R (TQ h R s+GG h R)+2*EE h R+2<=SS (h+1) R s:=by show _<=max _ (max _ _);omega
theorem US (h R s:Nat):s<=SS h R s:=by
 cases h with
 | zero=>exact Nat.le_refl _
 | succ h=>exact Nat.le_trans (GY _ _ _) (I9 h R s)
end Go.Abs
namespace Go.Abs
open Go.RowKit
variable {A B l:LR} {R k0 s:Nat} {T:List LR} {i n p q t w x:Re} {r:List Rat} {u:List (List Rat)}
theorem P8 {C:LR} (F:A.length<=1000000) (G:B.length<=1000000) (o:C=A++B):CF 320 [.one (.sl AA A),.one (.sl AA B)] (.one (.sl AA C)):=by
 refine AJ Tryz.func320 fun E H=>?_
 conv=>cbv
 refine⟨[],fun _=>⟨rfl,by decide,rfl,trivial⟩,.inl ?_⟩;try conv=>cbv
 refine .inl ⟨A,fun _=>⟨rfl,rfl,rfl,by show (0+A.length)*64<=140737488355328;(try simp only[List.length_take,List.length_drop]);omega⟩,?_⟩;intro (d:LR) z f;have b:d=([]:LR)++(A:LR):=f.1;have j:z=List.length (α:=(el AA)) d:=f.2;conv=>cbv
 have m:d.length=A.length:=by rw[b];simp
 refine .inl ⟨B,fun _=>⟨rfl,j,rfl,by show (d.length+B.length)*64<=140737488355328;(try simp only[List.length_take,List.length_drop]);omega⟩,?_⟩;intro (k:LR) D g;have h:k=(d:LR)++(B:LR):=g.1;have v:D=List.length (α:=(el AA)) k:=g.2;conv=>cbv
 have a:C=k:=by rw[o,h,b];rfl
 exact AD ⟨⟨rfl,.inl ⟨_,rfl,by omega,congrArg _ (by rw[a,List.drop_zero,List.take_of_length_le (by omega)])⟩,trivial⟩,trivial⟩
def Ic (u:List (List Rat)) (x:Re) (l:LR):Prop:=∀{T:List LR} {A:LR},T=tw u->A=em u x->
 CF 247 [.one (.sl (.sl AA) T),.one (.sl AA A)] (.AF [(false,[.sl AA l]),(false,[.bool false])])
def Ie (u:List (List Rat)) (x w:Re):Prop:=∀{T:List LR} {A B:LR},T=tw u->A=em u x->B=em u w->
 CF 247 [.one (.sl (.sl AA) T),.one (.sl AA A)] (.AF [(false,[.sl AA B]),(false,[.bool true])])
theorem JY {c:Int} (hc:c=BT x) (h:c<0) (a:0<=x):False:=by
 have:=(JV (x:=x)).1 (by omega)
 grind
theorem eP (h:At R (r::u)) (z:T=tw (r::u)) (v:A=em (r::u) x) (D:El (r::u) s x) (P:x=p+q*rt u r) (U:El u s p) (V:El u s q) (W:SS (r::u).length R s<=60000000000000) (j:VV (r::u).length R R<=60000000000000) (g:x<0):CF 247 [.one (.sl (.sl AA) T),.one (.sl AA A)] (.AF [(false,[.sl AA (([]:LR))]),(false,[.bool false])]):=by
 have J:T.length=u.length+1:=by rw[z,CB];rfl
 have G:A.length=2^u.length+2^u.length:=by rw[v,Bl D.mem,B4]
 have L:=El.DH h;have hR:=h.hR;have O:VV (r::u).length R s<=SS (r::u).length R s:=I9 u.length R s;have N:s+II u.length R (TQ u.length R s+GG u.length R)+2*EE u.length R+2<=SS (r::u).length R s:=Jt u.length R s;have M:=GY (r::u).length R s;have K:=E1 u.length R (TQ u.length R s+GG u.length R);have I:TQ u.length R s=3*s+4*EE u.length R+R+GG u.length R+3+II u.length R R:=rfl;have C:=DS h.tail.ht;refine AJ Tryz.func247 fun E H=>?_
 conv=>cbv
 rintro Q ⟨F,f31⟩;conv=>cbv
 intro m a;conv=>cbv
 cases m <;> conv=>cbv
 ·have f:=Ao a;obtain⟨S,d⟩:=xI (BT x);refine AB H (Hb h z v D (by omega) (by omega) j d) ?_;conv=>cbv
  intro o b;conv=>cbv
  cases o <;> conv=>cbv
  ·have k:=BB b;exact absurd (JV.2 g) (by omega)
  have k:=BC b;exact AD ⟨⟨rfl,AU,trivial⟩,t2,trivial⟩
 have f:=BA a;exact absurd f (by omega)
theorem eQ (h:At R (r::u)) (O:T=tw (r::u)) (N:A=em (r::u) x) (hx:El (r::u) s x) (I:x=p+q*rt u r) (hp:El u s p) (W:El u s q) (hs:SS (r::u).length R s<=60000000000000) (X:VV (r::u).length R R<=60000000000000) (U:0<=x) (h0:q=0) (hw:In u w) (hy:Ie u p w) (hB:B=em (r::u) w):CF 247 [.one (.sl (.sl AA) T),.one (.sl AA A)] (.AF [(false,[.sl AA B]),(false,[.bool true])]):=by
 have ax:T.length=u.length+1:=by rw[O,CB];rfl
 have av:A.length=2^u.length+2^u.length:=by rw[N,Bl hx.mem,B4]
 have az:=El.DH h;have hR:=h.hR;have aC:VV (r::u).length R s<=SS (r::u).length R s:=I9 u.length R s;have aB:s+II u.length R (TQ u.length R s+GG u.length R)+2*EE u.length R+2<=SS (r::u).length R s:=Jt u.length R s;have aA:=GY (r::u).length R s;have ay:=E1 u.length R (TQ u.length R s+GG u.length R);have aw:TQ u.length R s=3*s+4*EE u.length R+R+GG u.length R+3+II u.length R R:=rfl;have ag:=DS h.tail.ht;refine AJ Tryz.func247 fun E o=>?_
 conv=>cbv
 rintro aG ⟨an,f31⟩;conv=>cbv
 intro a5 v;conv=>cbv
 cases a5 <;> conv=>cbv
 ·have J:=Ao v;obtain⟨aK,g⟩:=xI (BT x);refine AB o (Hb h O N hx (by omega) (by omega) X g) ?_;conv=>cbv
  intro a6 z;conv=>cbv
  cases a6 <;> conv=>cbv
  ·have K:=BB z;rintro aH ⟨ao,f48⟩;conv=>cbv
   intro a7 ar;conv=>cbv
   refine AN ?_;intro aD ae;conv=>cbv
   refine AI ?_;intro Q ab;conv=>cbv
   intro Z D;conv=>cbv
   obtain⟨M,f⟩:=AP (l:=T) (i:=(T.length-1)) (by omega);refine⟨M,fun _=>⟨by omega,by rw[show (a7).toNat=(T.length-1) by omega];exact f⟩,?_⟩;try conv=>cbv
   refine g2 rfl ?_;rintro aI ⟨aq,f58⟩;conv=>cbv
   intro aJ au;conv=>cbv
   refine g2 ⟨by omega,by omega,i64 (by omega)⟩ ?_;intro aE af;conv=>cbv
   refine AI ?_;intro S ad;conv=>cbv
   intro a1 F;conv=>cbv
   intro aF H;conv=>cbv
   refine AI ?_;rintro P al ⟨aa,C⟩;conv=>cbv
   intro a2 G;conv=>cbv
   refine g2 rfl ?_;have a:Z=tw u:=by rw[D,List.drop_zero,show Q=T.length-1 by omega,O,Dq]
   have Y:M=em u (AL u r):=by rw[O,GA] at f;exact (Option.some.inj f).symm.trans (Eu h.red)
   have k:a1=em u p:=by rw[F,List.drop_zero,show S=A.length/2 by omega,N,Co h.red hp.mem W.mem I]
   have m:a2=em u q:=by rw[G,show P=A.length/2 by omega,C,H,List.take_length,N,CP h.red hp.mem W.mem I]
   obtain⟨aj,ak,ah,ai,j⟩:=CH (((0:Int):Rat));refine AB o (Fk (by omega) rfl j) ?_;conv=>cbv
   obtain⟨L,b⟩:=xR (em u (0));refine AB (r:= .one (.sl AA L)) o (HD h.tail a j (by rw[show Re.ofRat ((0:Int):Rat)=0 from rfl];exact b)) ?_;try conv=>cbv
   refine AB o (Ig h.tail.red W.mem m h0) ?_;conv=>cbv
   obtain⟨a8,d⟩:=xR (em u w);refine AB o (hy a k d) ?_;conv=>cbv
   have V:B=a8++L:=by rw[hB,d,b];exact Fp h.red hw (CG u) (by grind)
   refine AB (r:= .one (.sl AA B)) o (P8 (by rw[d,Bl hw];omega) (by rw[b,Bl (CG u)];omega) V) ?_;try conv=>cbv
   exact AD ⟨t2,t2,trivial⟩
  have K:=BC z;exact (JY g K U).elim
 have J:=BA v;exact absurd J (by omega)
theorem eR (h:At R (r::u)) (V:T=tw (r::u)) (U:A=em (r::u) x) (hx:El (r::u) s x) (N:x=p+q*rt u r) (hp:El u s p) (hq:El u s q) (hs:SS (r::u).length R s<=60000000000000) (a5:VV (r::u).length R R<=60000000000000) (Z:0<=x) (h0:q=0) (hi:In u i) (L:AL u r*i=1) (hn:Ic u p l) (hw:In u w) (hy:Ie u (p*i) w) (hB:B=em (r::u) (w*rt u r)):CF 247 [.one (.sl (.sl AA) T),.one (.sl AA A)] (.AF [(false,[.sl AA B]),(false,[.bool true])]):=by
 have aC:T.length=u.length+1:=by rw[V,CB];rfl
 have aA:A.length=2^u.length+2^u.length:=by rw[U,Bl hx.mem,B4]
 have M:=El.DH h;have hR:=h.hR;have aG:VV (r::u).length R s<=SS (r::u).length R s:=I9 u.length R s;have aF:s+II u.length R (TQ u.length R s+GG u.length R)+2*EE u.length R+2<=SS (r::u).length R s:=Jt u.length R s;have aE:=GY (r::u).length R s;have aD:=E1 u.length R (TQ u.length R s+GG u.length R);have aB:TQ u.length R s=3*s+4*EE u.length R+R+GG u.length R+3+II u.length R R:=rfl;have al:=DS h.tail.ht;have a2:=M.inv h.tail hi L;refine AJ Tryz.func247 fun E j=>?_
 conv=>cbv
 rintro aK ⟨av,f31⟩;conv=>cbv
 intro aa D;conv=>cbv
 cases aa <;> conv=>cbv
 ·have O:=Ao D;obtain⟨aO,k⟩:=xI (BT x);refine AB j (Hb h V U hx (by omega) (by omega) a5 k) ?_;conv=>cbv
  intro ab F;conv=>cbv
  cases ab <;> conv=>cbv
  ·have P:=BB F;rintro aL ⟨aw,f48⟩;conv=>cbv
   intro ad ay;conv=>cbv
   refine AN ?_;intro aH aj;conv=>cbv
   refine AI ?_;intro X ah;conv=>cbv
   intro a6 H;conv=>cbv
   obtain⟨S,g⟩:=AP (l:=T) (i:=(T.length-1)) (by omega);refine⟨S,fun _=>⟨by omega,by rw[show (ad).toNat=(T.length-1) by omega];exact g⟩,?_⟩;try conv=>cbv
   refine g2 rfl ?_;rintro aM ⟨ax,f58⟩;conv=>cbv
   intro aN az;conv=>cbv
   refine g2 ⟨by omega,by omega,i64 (by omega)⟩ ?_;intro aI ak;conv=>cbv
   refine AI ?_;intro Y ai;conv=>cbv
   intro a7 I;conv=>cbv
   intro aJ K;conv=>cbv
   refine AI ?_;rintro W au ⟨ag,G⟩;conv=>cbv
   intro a8 J;conv=>cbv
   refine g2 rfl ?_;have a:a6=tw u:=by rw[H,List.drop_zero,show X=T.length-1 by omega,V,Dq]
   have C:S=em u (AL u r):=by rw[V,GA] at g;exact (Option.some.inj g).symm.trans (Eu h.red)
   have b:a7=em u p:=by rw[I,List.drop_zero,show Y=A.length/2 by omega,U,Co h.red hp.mem hq.mem N]
   have z:a8=em u q:=by rw[J,show W=A.length/2 by omega,G,K,List.take_length,U,CP h.red hp.mem hq.mem N]
   obtain⟨aq,ar,an,ao,v⟩:=CH (((0:Int):Rat));refine AB j (Fk (by omega) rfl v) ?_;conv=>cbv
   obtain⟨Q,d⟩:=xR (em u (0));refine AB (r:= .one (.sl AA Q)) j (HD h.tail a v (by rw[show Re.ofRat ((0:Int):Rat)=0 from rfl];exact d)) ?_;try conv=>cbv
   refine AB j (Ig h.tail.red hq.mem z h0) ?_;conv=>cbv
   refine AB j (hn a b) ?_;conv=>cbv
   obtain⟨ae,m⟩:=xR (em u (i));refine AB (r:= .AF [(false,[.sl AA ae]),(false,[.int .i64 0])]) j (Nr h.tail a C M hi L (by have:=Js u.length R (s:=R) (t:=TQ u.length R s+GG u.length R) (by omega);omega) m) ?_;try conv=>cbv
   obtain⟨aP,o⟩:=xR (em u (p*i));refine AB j (D9 h.tail a b m hp a2 (by omega) o) ?_;conv=>cbv
   obtain⟨af,f⟩:=xR (em u w);refine AB j (hy a o f) ?_;conv=>cbv
   have a1:B=Q++af:=by rw[hB,f,d];exact Fp h.red (CG u) hw (by grind)
   refine AB (r:= .one (.sl AA B)) j (P8 (by rw[d,Bl (CG u)];omega) (by rw[f,Bl hw];omega) a1) ?_;try conv=>cbv
   exact AD ⟨t2,t2,trivial⟩
  have P:=BC F;exact (JY k P Z).elim
 have O:=BA D;exact absurd O (by omega)
theorem eS (h:At R (r::u)) (S:T=tw (r::u)) (Q:A=em (r::u) x) (hx:El (r::u) s x) (M:x=p+q*rt u r) (hp:El u s p) (hq:El u s q) (hs:SS (r::u).length R s<=60000000000000) (a1:VV (r::u).length R R<=60000000000000) (X:0<=x) (h0:q=0) (hi:In u i) (J:AL u r*i=1) (hn:Ic u p l) {l2:LR} (Z:Ic u (p*i) l2):CF 247 [.one (.sl (.sl AA) T),.one (.sl AA A)] (.AF [(false,[.sl AA (([]:LR))]),(false,[.bool false])]):=by
 have aA:T.length=u.length+1:=by rw[S,CB];rfl
 have ay:A.length=2^u.length+2^u.length:=by rw[Q,Bl hx.mem,B4]
 have K:=El.DH h;have hR:=h.hR;have aE:VV (r::u).length R s<=SS (r::u).length R s:=I9 u.length R s;have aD:s+II u.length R (TQ u.length R s+GG u.length R)+2*EE u.length R+2<=SS (r::u).length R s:=Jt u.length R s;have aC:=GY (r::u).length R s;have aB:=E1 u.length R (TQ u.length R s+GG u.length R);have az:TQ u.length R s=3*s+4*EE u.length R+R+GG u.length R+3+II u.length R R:=rfl;have aj:=DS h.tail.ht;have Y:=K.inv h.tail hi J;refine AJ Tryz.func247 fun E f=>?_
 conv=>cbv
 rintro aI ⟨ar,f31⟩;conv=>cbv
 intro a7 z;conv=>cbv
 cases a7 <;> conv=>cbv
 ·have N:=Ao z;obtain⟨aM,g⟩:=xI (BT x);refine AB f (Hb h S Q hx (by omega) (by omega) a1 g) ?_;conv=>cbv
  intro a8 C;conv=>cbv
  cases a8 <;> conv=>cbv
  ·have O:=BB C;rintro aJ ⟨au,f48⟩;conv=>cbv
   intro aa aw;conv=>cbv
   refine AN ?_;intro aF ah;conv=>cbv
   refine AI ?_;intro V af;conv=>cbv
   intro a2 F;conv=>cbv
   obtain⟨P,d⟩:=AP (l:=T) (i:=(T.length-1)) (by omega);refine⟨P,fun _=>⟨by omega,by rw[show (aa).toNat=(T.length-1) by omega];exact d⟩,?_⟩;try conv=>cbv
   refine g2 rfl ?_;rintro aK ⟨av,f58⟩;conv=>cbv
   intro aL ax;conv=>cbv
   refine g2 ⟨by omega,by omega,i64 (by omega)⟩ ?_;intro aG ai;conv=>cbv
   refine AI ?_;intro W ag;conv=>cbv
   intro a5 G;conv=>cbv
   intro aH I;conv=>cbv
   refine AI ?_;rintro U aq ⟨ae,D⟩;conv=>cbv
   intro a6 H;conv=>cbv
   refine g2 rfl ?_;have a:a2=tw u:=by rw[F,List.drop_zero,show V=T.length-1 by omega,S,Dq]
   have v:P=em u (AL u r):=by rw[S,GA] at d;exact (Option.some.inj d).symm.trans (Eu h.red)
   have b:a5=em u p:=by rw[G,List.drop_zero,show W=A.length/2 by omega,Q,Co h.red hp.mem hq.mem M]
   have o:a6=em u q:=by rw[H,show U=A.length/2 by omega,D,I,List.take_length,Q,CP h.red hp.mem hq.mem M]
   obtain⟨an,ao,ak,al,m⟩:=CH (((0:Int):Rat));refine AB f (Fk (by omega) rfl m) ?_;conv=>cbv
   obtain⟨ab,L⟩:=xR (em u (0));refine AB (r:= .one (.sl AA ab)) f (HD h.tail a m (by rw[show Re.ofRat ((0:Int):Rat)=0 from rfl];exact L)) ?_;try conv=>cbv
   refine AB f (Ig h.tail.red hq.mem o h0) ?_;conv=>cbv
   refine AB f (hn a b) ?_;conv=>cbv
   obtain⟨ad,j⟩:=xR (em u (i));refine AB (r:= .AF [(false,[.sl AA ad]),(false,[.int .i64 0])]) f (Nr h.tail a v K hi J (by have:=Js u.length R (s:=R) (t:=TQ u.length R s+GG u.length R) (by omega);omega) j) ?_;try conv=>cbv
   obtain⟨aN,k⟩:=xR (em u (p*i));refine AB f (D9 h.tail a b j hp Y (by omega) k) ?_;conv=>cbv
   refine AB f (Z a k) ?_;conv=>cbv
   exact AD ⟨⟨rfl,AU,trivial⟩,t2,trivial⟩
  have O:=BC C;exact (JY g O X).elim
 have N:=BA z;exact absurd N (by omega)
theorem eK (h:At R (r::u)) (X:T=tw (r::u)) (W:A=em (r::u) x) (hx:El (r::u) s x) (P:x=p+q*rt u r) (F:El u s p) (v:El u s q) (hs:SS (r::u).length R s<=60000000000000) (a6:VV (r::u).length R R<=60000000000000) (a2:0<=x) (h0:q≠0) (hn:Ic u (p*p-q*q*AL u r) l):CF 247 [.one (.sl (.sl AA) T),.one (.sl AA A)] (.AF [(false,[.sl AA (([]:LR))]),(false,[.bool false])]):=by
 have aF:T.length=u.length+1:=by rw[X,CB];rfl
 have aD:A.length=2^u.length+2^u.length:=by rw[W,Bl hx.mem,B4]
 have N:=El.DH h;have hR:=h.hR;have aJ:VV (r::u).length R s<=SS (r::u).length R s:=I9 u.length R s;have aI:s+II u.length R (TQ u.length R s+GG u.length R)+2*EE u.length R+2<=SS (r::u).length R s:=Jt u.length R s;have aH:=GY (r::u).length R s;have aG:=E1 u.length R (TQ u.length R s+GG u.length R);have aE:TQ u.length R s=3*s+4*EE u.length R+R+GG u.length R+3+II u.length R R:=rfl;have al:=DS h.tail.ht;refine AJ Tryz.func247 fun E o=>?_
 conv=>cbv
 rintro aN ⟨ay,f31⟩;conv=>cbv
 intro ab G;conv=>cbv
 cases ab <;> conv=>cbv
 ·have Q:=Ao G;obtain⟨aR,z⟩:=xI (BT x);refine AB o (Hb h X W hx (by omega) (by omega) a6 z) ?_;conv=>cbv
  intro ad H;conv=>cbv
  cases ad <;> conv=>cbv
  ·have S:=BB H;rintro aO ⟨az,f48⟩;conv=>cbv
   intro ae aB;conv=>cbv
   refine AN ?_;intro aK aj;conv=>cbv
   refine AI ?_;intro Z ah;conv=>cbv
   intro a7 J;conv=>cbv
   obtain⟨V,m⟩:=AP (l:=T) (i:=(T.length-1)) (by omega);refine⟨V,fun _=>⟨by omega,by rw[show (ae).toNat=(T.length-1) by omega];exact m⟩,?_⟩;try conv=>cbv
   refine g2 rfl ?_;rintro aP ⟨aA,f58⟩;conv=>cbv
   intro aQ aC;conv=>cbv
   refine g2 ⟨by omega,by omega,i64 (by omega)⟩ ?_;intro aL ak;conv=>cbv
   refine AI ?_;intro a1 ai;conv=>cbv
   intro a8 K;conv=>cbv
   intro aM M;conv=>cbv
   refine AI ?_;rintro Y ax ⟨ag,I⟩;conv=>cbv
   intro aa L;conv=>cbv
   refine g2 rfl ?_;have a:a7=tw u:=by rw[J,List.drop_zero,show Z=T.length-1 by omega,X,Dq]
   have D:V=em u (AL u r):=by rw[X,GA] at m;exact (Option.some.inj m).symm.trans (Eu h.red)
   have d:a8=em u p:=by rw[K,List.drop_zero,show a1=A.length/2 by omega,W,Co h.red F.mem v.mem P]
   have b:aa=em u q:=by rw[L,show Y=A.length/2 by omega,I,M,List.take_length,W,CP h.red F.mem v.mem P]
   obtain⟨av,aw,ar,au,C⟩:=CH (((0:Int):Rat));refine AB o (Fk (by omega) rfl C) ?_;conv=>cbv
   obtain⟨af,O⟩:=xR (em u (0));refine AB (r:= .one (.sl AA af)) o (HD h.tail a C (by rw[show Re.ofRat ((0:Int):Rat)=0 from rfl];exact O)) ?_;try conv=>cbv
   refine AB o (JC h.tail.red v.mem b h0) ?_;conv=>cbv
   obtain⟨an,f⟩:=xR (em u (p*p));refine AB o (D9 h.tail a d d F F (by omega) f) ?_;conv=>cbv
   obtain⟨ao,g⟩:=xR (em u (q*q));refine AB o (D9 h.tail a b b v v (by omega) g) ?_;conv=>cbv
   obtain⟨aq,j⟩:=xR (em u (AL u r*(q*q)));refine AB o (D9 h.tail a D g N (v.mul h.tail v) (by omega) j) ?_;conv=>cbv
   obtain⟨U,k⟩:=xR (em u (p*p-AL u r*(q*q)));refine AB o (Ns h.tail f j (F.mul h.tail F) (N.mul h.tail (v.mul h.tail v)) (by omega) (by omega) k) ?_;conv=>cbv
   have a5:U=em u (p*p-q*q*AL u r):=by rw[k,show p*p-AL u r*(q*q)=p*p-q*q*AL u r by grind]
   refine AB o (hn a a5) ?_;conv=>cbv
   refine BG ?_;conv=>cbv
   exact AD ⟨⟨rfl,AU,trivial⟩,t2,trivial⟩
  have S:=BC H;exact (JY z S a2).elim
 have Q:=BA G;exact absurd Q (by omega)
theorem eO (h:At R (r::u)) (hT:T=tw (r::u)) (hA:A=em (r::u) x) (hx:El (r::u) s x) (X:x=p+q*rt u r) (O:El u s p) (J:El u s q) (hs:SS (r::u).length R s<=60000000000000) (aE:VV (r::u).length R R<=60000000000000) (ay:0<=x) (h0:q≠0) (hn:In u n) (aB:n*n=p*p-q*q*AL u r) (ht:t=Re.ofRat (1/2)) (aI:Ie u (p*p-q*q*AL u r) n) {y:Nat->Re} (aF:y 0=p+n) (aG:y 1=p-n) (aH:∀i,El u (s+(2*s+2*EE u.length R+R+1+GG u.length R)+1) (y i)) {L:Nat->LR} (hk:k0<=2) (aC:∀i,i<k0->Ic u (t*y i) (L i)) (U:k0=2):CF 247 [.one (.sl (.sl AA) T),.one (.sl AA A)] (.AF [(false,[.sl AA (([]:LR))]),(false,[.bool false])]):=by
 have bf:T.length=u.length+1:=by rw[hT,CB];rfl
 have bc:A.length=2^u.length+2^u.length:=by rw[hA,Bl hx.mem,B4]
 have ab:=El.DH h;have hR:=h.hR;have bn:VV (r::u).length R s<=SS (r::u).length R s:=I9 u.length R s;have bm:s+II u.length R (TQ u.length R s+GG u.length R)+2*EE u.length R+2<=SS (r::u).length R s:=Jt u.length R s;have bk:=GY (r::u).length R s;have bj:=E1 u.length R (TQ u.length R s+GG u.length R);have bd:TQ u.length R s=3*s+4*EE u.length R+R+GG u.length R+3+II u.length R R:=rfl;have aX:=DS h.tail.ht;have hN:=El.norm h O.mem J.mem (X ▸ hx);have aa:=hN.sqrt h.tail hn aB;have aD:El u 1 t:=by rw[ht];exact El.rat h.red.1 MC
 refine AJ Tryz.func247 fun E b=>?_
 conv=>cbv
 rintro bs ⟨b7,f31⟩;conv=>cbv
 intro aJ Y;conv=>cbv
 cases aJ <;> conv=>cbv
 ·have af:=Ao Y;obtain⟨bx,P⟩:=xI (BT x);refine AB b (Hb h hT hA hx (by omega) (by omega) aE P) ?_;conv=>cbv
  intro aK Z;conv=>cbv
  cases aK <;> conv=>cbv
  ·have ag:=BB Z;rintro bt ⟨b8,f48⟩;conv=>cbv
   intro aL ba;conv=>cbv
   refine AN ?_;intro bp aV;conv=>cbv
   refine AI ?_;intro aw aT;conv=>cbv
   intro ah a2;conv=>cbv
   obtain⟨au,H⟩:=AP (l:=T) (i:=(T.length-1)) (by omega);refine⟨au,fun _=>⟨by omega,by rw[show (aL).toNat=(T.length-1) by omega];exact H⟩,?_⟩;try conv=>cbv
   refine g2 rfl ?_;rintro bu ⟨b9,f58⟩;conv=>cbv
   intro bw bb;conv=>cbv
   refine g2 ⟨by omega,by omega,i64 (by omega)⟩ ?_;intro bq aW;conv=>cbv
   refine AI ?_;intro ax aU;conv=>cbv
   intro ai a5;conv=>cbv
   intro br a7;conv=>cbv
   refine AI ?_;rintro av b6 ⟨aS,a1⟩;conv=>cbv
   intro aj a6;conv=>cbv
   refine g2 rfl ?_;have a:ah=tw u:=by rw[a2,List.drop_zero,show aw=T.length-1 by omega,hT,Dq]
   have W:au=em u (AL u r):=by rw[hT,GA] at H;exact (Option.some.inj H).symm.trans (Eu h.red)
   have d:ai=em u p:=by rw[a5,List.drop_zero,show ax=A.length/2 by omega,hA,Co h.red O.mem J.mem X]
   have f:aj=em u q:=by rw[a6,show av=A.length/2 by omega,a1,a7,List.take_length,hA,CP h.red O.mem J.mem X]
   obtain⟨b4,b5,b2,b3,Q⟩:=CH (((0:Int):Rat));refine AB b (Fk (by omega) rfl Q) ?_;conv=>cbv
   obtain⟨aM,ad⟩:=xR (em u (0));refine AB (r:= .one (.sl AA aM)) b (HD h.tail a Q (by rw[show Re.ofRat ((0:Int):Rat)=0 from rfl];exact ad)) ?_;try conv=>cbv
   refine AB b (JC h.tail.red J.mem f h0) ?_;conv=>cbv
   obtain⟨aY,g⟩:=xR (em u (p*p));refine AB b (D9 h.tail a d d O O (by omega) g) ?_;conv=>cbv
   obtain⟨aZ,j⟩:=xR (em u (q*q));refine AB b (D9 h.tail a f f J J (by omega) j) ?_;conv=>cbv
   obtain⟨b0,o⟩:=xR (em u (AL u r*(q*q)));refine AB b (D9 h.tail a W j ab (J.mul h.tail J) (by omega) o) ?_;conv=>cbv
   obtain⟨an,v⟩:=xR (em u (p*p-AL u r*(q*q)));refine AB b (Ns h.tail g o (O.mul h.tail O) (ab.mul h.tail (J.mul h.tail J)) (by omega) (by omega) v) ?_;conv=>cbv
   have az:an=em u (p*p-q*q*AL u r):=by rw[v,show p*p-AL u r*(q*q)=p*p-q*q*AL u r by grind]
   obtain⟨ao,z⟩:=xR (em u n);refine AB b (aI a az z) ?_;conv=>cbv
   refine AO ?_;conv=>cbv
   obtain⟨aP,aQ,aN,aO,I⟩:=CH ((1/2:Rat));refine AB b (Pt (by omega) (by omega) (by decide) (by decide +kernel) I) ?_;conv=>cbv
   obtain⟨S,C⟩:=xR (em u (t));refine AB (r:= .one (.sl AA S)) b (HD h.tail a I (C.trans (by rw[ht]))) ?_;conv=>cbv
   refine .inr ?_;obtain⟨J0,K⟩:=xJ fun vs bl k=>∃(k':Nat) (m:Re) (M:LR) (i:Int),vs=[.one (.sl (.sl AA) ah),.one (.sl AA ai),.one (.sl AA aj),.one (.sl AA M),.one (.sl AA S),.one (.int .i64 i)]/\(AW i k'/\k'<=2)/\(M=em u m/\m=if k'=1 then -n else n)/\k=2-k'
   refine⟨[],[9,12,13,22,24,25],[],J0,⟨2-0,by rw[K];exact⟨0,n,ao,0,rfl,⟨Bb 0,by omega⟩,⟨z,rfl⟩,rfl⟩⟩,?_⟩;intro vs bl bo hj;rw[K] at hj;obtain⟨k',m,M,i,rfl,⟨hi,bg⟩,⟨hM,V⟩,bh⟩:=hj;conv=>cbv
   have ei:=hi.eq;intro ak N;conv=>cbv
   cases ak <;> conv=>cbv
   ·have ae:=BB N;exact AD ⟨⟨rfl,AU,trivial⟩,t2,trivial⟩
   have ae:=BC N;refine .inr ?_;have U:k'=0\/k'=1:=by omega
   have a8:El u (2*s+2*EE u.length R+R+1+GG u.length R) m:=by rw[V];split;exact aa.neg h.red.1;exact aa
   have aA:p+m=y k':=by rcases U with e | e <;> rw[e,V,e] <;> first | (rw[aF];rfl) | (rw[aG];simp;grind)
   obtain⟨aq,D⟩:=xR (em u (y k'));refine AB (r:= .one (.sl AA aq)) b (Ju h.tail d hM O a8 (by omega) (by omega) (D.trans (by rw[aA]))) ?_;conv=>cbv
   obtain⟨b1,F⟩:=xR (em u (t*y k'));refine AB b (D9 h.tail a C D aD (aH k') (by omega) F) ?_;conv=>cbv
   refine AB b (aC k' (by omega) a F) ?_;conv=>cbv
   obtain⟨ar,G⟩:=xR (em u (-m));refine AB b (Ke h.tail hM a8 G) ?_;conv=>cbv
   intro al aR;conv=>cbv
   refine AN ?_;refine⟨2-(k'+1),?_,?_⟩
   ·omega
   rw[K];exact⟨k'+1,-m,ar,al,rfl,⟨⟨by omega⟩,by omega⟩,⟨G,by clear K;rcases U with e | e <;> rw[V,e] <;> first | rfl | (show- -n=n;grind)⟩,rfl⟩
  have ag:=BC Z;exact (JY P ag ay).elim
 have af:=BA Y;exact absurd af (by omega)
theorem eN (h:At R (r::u)) (hT:T=tw (r::u)) (hA:A=em (r::u) x) (hx:El (r::u) s x) (hxe:x=p+q*rt u r) (hp:El u s p) (hq:El u s q) (hs:SS (r::u).length R s<=60000000000000) (hvR:VV (r::u).length R R<=60000000000000) (h0x:0<=x) (h0:q≠0) (hn:In u n) (hnn:n*n=p*p-q*q*AL u r) (ht:t=Re.ofRat (1/2)) (hyn:Ie u (p*p-q*q*AL u r) n) {y:Nat->Re} (hy0:y 0=p+n) (hy1:y 1=p-n) (hyE:∀i,El u (s+(2*s+2*EE u.length R+R+1+GG u.length R)+1) (y i)) {L:Nat->LR} (hk:k0<=2) (hno:∀i,i<k0->Ic u (t*y i) (L i)) (hk1:k0<2) {j:Re} (hw:In u w) (hww:w*w=t*y k0) (hyw:Ie u (t*y k0) w) (hj:In u j) (hwj:w*j=1) (hB:B=em (r::u) (w+t*(q*j)*rt u r)):CF 247 [.one (.sl (.sl AA) T),.one (.sl AA A)] (.AF [(false,[.sl AA B]),(false,[.bool true])]):=by
 have hTl:T.length=u.length+1:=by rw[hT,CB];rfl
 have hAl:A.length=2^u.length+2^u.length:=by rw[hA,Bl hx.mem,B4]
 have hrr:=El.DH h;have hR:=h.hR;have hsv:VV (r::u).length R s<=SS (r::u).length R s:=I9 u.length R s;have hsi:s+II u.length R (TQ u.length R s+GG u.length R)+2*EE u.length R+2<=SS (r::u).length R s:=Jt u.length R s;have hsg:=GY (r::u).length R s;have hmn:=E1 u.length R (TQ u.length R s+GG u.length R);have hTQ:TQ u.length R s=3*s+4*EE u.length R+R+GG u.length R+3+II u.length R R:=rfl;have hp16:=DS h.tail.ht;have hN:=El.norm h hp.mem hq.mem (hxe ▸ hx);have hnE:=hN.sqrt h.tail hn hnn;have htE:El u 1 t:=by rw[ht];exact El.rat h.red.1 MC
 have hhE:=htE.mul h.tail (hyE k0);have hwE:=hhE.sqrt h.tail hw hww;have hjE:=(hwE.mono (t:=TQ u.length R s+GG u.length R) (by omega)).inv h.tail hj hwj;refine AJ Tryz.func247 fun E hE=>?_
 conv=>cbv
 rintro n31 ⟨e31,f31⟩;conv=>cbv
 intro n32 h32;conv=>cbv
 cases n32 <;> conv=>cbv
 ·have k32:=Ao h32;obtain⟨r45,hr45⟩:=xI (BT x);refine AB hE (Hb h hT hA hx (by omega) (by omega) hvR hr45) ?_;conv=>cbv
  intro n46 h46;conv=>cbv
  cases n46 <;> conv=>cbv
  ·have k46:=BB h46;rintro n48 ⟨e48,f48⟩;conv=>cbv
   intro n49 h49;conv=>cbv
   refine AN ?_;intro m52 hm52;conv=>cbv
   refine AI ?_;intro b52 hb52;conv=>cbv
   intro l52 hl52;conv=>cbv
   obtain⟨x55,hx55⟩:=AP (l:=T) (i:=(T.length-1)) (by omega);refine⟨x55,fun _=>⟨by omega,by rw[show (n49).toNat=(T.length-1) by omega];exact hx55⟩,?_⟩;try conv=>cbv
   refine g2 rfl ?_;rintro n58 ⟨e58,f58⟩;conv=>cbv
   intro n59 h59;conv=>cbv
   refine g2 ⟨by omega,by omega,i64 (by omega)⟩ ?_;intro m62 hm62;conv=>cbv
   refine AI ?_;intro b62 hb62;conv=>cbv
   intro l62 hl62;conv=>cbv
   intro m65 hm65;conv=>cbv
   refine AI ?_;rintro a65 b65 ⟨ha65,hb65⟩;conv=>cbv
   intro l65 hl65;conv=>cbv
   refine g2 rfl ?_;have hl52e:l52=tw u:=by rw[hl52,List.drop_zero,show b52=T.length-1 by omega,hT,Dq]
   have hx55e:x55=em u (AL u r):=by rw[hT,GA] at hx55;exact (Option.some.inj hx55).symm.trans (Eu h.red)
   have hl62e:l62=em u p:=by rw[hl62,List.drop_zero,show b62=A.length/2 by omega,hA,Co h.red hp.mem hq.mem hxe]
   have hl65e:l65=em u q:=by rw[hl65,show a65=A.length/2 by omega,hb65,hm65,List.take_length,hA,CP h.red hp.mem hq.mem hxe]
   obtain⟨zb67,zl67,yb67,yl67,hz67⟩:=CH (((0:Int):Rat));refine AB hE (Fk (by omega) rfl hz67) ?_;conv=>cbv
   obtain⟨w68,hw68⟩:=xR (em u (0));refine AB (r:= .one (.sl AA w68)) hE (HD h.tail hl52e hz67 (by rw[show Re.ofRat ((0:Int):Rat)=0 from rfl];exact hw68)) ?_;try conv=>cbv
   refine AB hE (JC h.tail.red hq.mem hl65e h0) ?_;conv=>cbv
   obtain⟨w104,hw104⟩:=xR (em u (p*p));refine AB hE (D9 h.tail hl52e hl62e hl62e hp hp (by omega) hw104) ?_;conv=>cbv
   obtain⟨w110,hw110⟩:=xR (em u (q*q));refine AB hE (D9 h.tail hl52e hl65e hl65e hq hq (by omega) hw110) ?_;conv=>cbv
   obtain⟨w111,hw111⟩:=xR (em u (AL u r*(q*q)));refine AB hE (D9 h.tail hl52e hx55e hw110 hrr (hq.mul h.tail hq) (by omega) hw111) ?_;conv=>cbv
   obtain⟨w112,hw112⟩:=xR (em u (p*p-AL u r*(q*q)));refine AB hE (Ns h.tail hw104 hw111 (hp.mul h.tail hp) (hrr.mul h.tail (hq.mul h.tail hq)) (by omega) (by omega) hw112) ?_;conv=>cbv
   have hNe:w112=em u (p*p-q*q*AL u r):=by rw[hw112,show p*p-AL u r*(q*q)=p*p-q*q*AL u r by grind]
   obtain⟨w117,hw117⟩:=xR (em u n);refine AB hE (hyn hl52e hNe hw117) ?_;conv=>cbv
   refine AO ?_;conv=>cbv
   obtain⟨zb122,zl122,yb122,yl122,hz122⟩:=CH ((1/2:Rat));refine AB hE (Pt (by omega) (by omega) (by decide) (by decide +kernel) hz122) ?_;conv=>cbv
   obtain⟨w123,hw123⟩:=xR (em u (t));refine AB (r:= .one (.sl AA w123)) hE (HD h.tail hl52e hz122 (hw123.trans (by rw[ht]))) ?_;conv=>cbv
   refine .inr ?_;obtain⟨J0,hJ0⟩:=xJ fun vs bl k=>∃(k':Nat) (m:Re) (M:LR) (i:Int),vs=[.one (.sl (.sl AA) l52),.one (.sl AA l62),.one (.sl AA l65),.one (.sl AA M),.one (.sl AA w123),.one (.int .i64 i)]/\(AW i k'/\k'<=k0)/\(M=em u m/\m=if k'=1 then -n else n)/\k=k0-k'
   refine⟨[],[9,12,13,22,24,25],[],J0,⟨k0-0,by rw[hJ0];exact⟨0,n,w117,0,rfl,⟨Bb 0,by omega⟩,⟨hw117,rfl⟩,rfl⟩⟩,?_⟩;intro vs bl kk0 hj;rw[hJ0] at hj;obtain⟨k',m,M,i,rfl,⟨hi,hik⟩,⟨hM,hmv⟩,hk0⟩:=hj;conv=>cbv
   have ei:=hi.eq;intro n125 h125;conv=>cbv
   cases n125 <;> conv=>cbv
   ·have k125:=BB h125;exact absurd k125 (by omega)
   have k125:=BC h125;refine .inr ?_;have hk2:k'=0\/k'=1:=by omega
   have hmE:El u (2*s+2*EE u.length R+R+1+GG u.length R) m:=by rw[hmv];split;exact hnE.neg h.red.1;exact hnE
   have hmy:p+m=y k':=by rcases hk2 with e | e <;> rw[e,hmv,e] <;> first | (rw[hy0];rfl) | (rw[hy1];simp;grind)
   obtain⟨w135,hw135⟩:=xR (em u (y k'));refine AB (r:= .one (.sl AA w135)) hE (Ju h.tail hl62e hM hp hmE (by omega) (by omega) (hw135.trans (by rw[hmy]))) ?_;conv=>cbv
   obtain⟨w136,hw136⟩:=xR (em u (t*y k'));refine AB hE (D9 h.tail hl52e hw123 hw135 htE (hyE k') (by omega) hw136) ?_;conv=>cbv
   obtain⟨wl,bb,hcall,hbt,hbf⟩:∃(wl:LR) (bb:Bool),CF 247 [.one (.sl (.sl AA) l52),.one (.sl AA w136)] (.AF [(false,[.sl AA wl]),(false,[.bool bb])])/\(bb=true->k'=k0/\wl=em u w)/\(bb=false->k'<k0):=by
    by_cases e:k'<k0
    ·exact⟨L k',false,hno k' e hl52e hw136,fun e=>(Bool.false_ne_true e).elim,fun _=>e⟩
    have e2:k'=k0:=by omega
    exact⟨em u w,true,hyw hl52e (hw136.trans (by rw[e2])) rfl,fun _=>⟨e2,rfl⟩,fun e=>(Bool.noConfusion e)⟩
   refine AB hE hcall ?_;conv=>cbv
   cases bb <;> conv=>cbv
   ·have hkl:=hbf rfl;obtain⟨w158,hw158⟩:=xR (em u (-m));refine AB hE (Ke h.tail hM hmE hw158) ?_;conv=>cbv
    intro n127 h127;conv=>cbv
    refine AN ?_;refine⟨k0-(k'+1),?_,?_⟩
    ·omega
    rw[hJ0];exact⟨k'+1,-m,w158,n127,rfl,⟨⟨by omega⟩,by omega⟩,⟨hw158,by clear hJ0;rcases hk2 with e | e <;> rw[hmv,e] <;> first | rfl | (show- -n=n;grind)⟩,rfl⟩
   obtain⟨hke,hwl⟩:=hbt rfl;subst hke;obtain⟨w144,hw144⟩:=xR (em u (j));refine AB hE (Nr h.tail hl52e hwl (hwE.mono (t:=TQ u.length R s+GG u.length R) (by omega)) hj hwj (by omega) hw144) ?_;conv=>cbv
   obtain⟨w153,hw153⟩:=xR (em u (q*j));refine AB hE (D9 h.tail hl52e hl65e hw144 hq hjE (by omega) hw153) ?_;conv=>cbv
   obtain⟨w154,hw154⟩:=xR (em u (t*(q*j)));refine AB hE (D9 h.tail hl52e hw123 hw153 htE (hq.mul h.tail hjE) (by omega) hw154) ?_;conv=>cbv
   have htq:=htE.mul h.tail (hq.mul h.tail hjE);have hBj:B=wl++w154:=by rw[hB,hwl,hw154];exact Fp h.red hw htq.mem rfl
   refine AB (r:= .one (.sl AA B)) hE (P8 (by rw[hwl,Bl hw];omega) (by rw[hw154,Bl htq.mem];omega) hBj) ?_;try conv=>cbv
   exact AD ⟨t2,t2,trivial⟩
  have k46:=BC h46;exact (JY hr45 k46 h0x).elim
 have k32:=BA h32;exact absurd k32 (by omega)
end Go.Abs
