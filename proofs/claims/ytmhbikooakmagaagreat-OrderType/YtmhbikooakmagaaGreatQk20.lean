/- Part 21 of a proof. Conditions: each theorem's own. -/
import Derived.Test.YtmhbikooakmagaaGreatQk19
set_option linter.all false
set_option maxHeartbeats 8000000
set_option maxRecDepth 20000
open Go.Proofs
namespace Go.Abs
open Go.RowKit
variable {A B:LR} {R s zn:Nat} {T:List LR} {c:Int} {i p q x y:Re} {r:List Rat} {u:List (List Rat)}
theorem QT {C:LR} (h:Aa R (r::u)) (hT:T=tw (r::u)) (H:A=em (r::u) x) (hx:El (r::u) s x) (f:x=p+q*rt u r) (g:El u s p) (d:El u s q) (hb:2*s+2*EE u.length R+R+1<=60000000000000) (hC:C=em u (p*p-q*q*AM u r)):CF 291 [.one (.sl (.sl AA) T),.one (.sl AA A)] (.one (.sl AA C)):=by
 have av:T.length=u.length+1:=by rw[hT,BN];rfl
 have au:A.length=2^u.length+2^u.length:=by rw[H,Aw hx.mem,BM]
 have S:=El.CK h;have hR:=h.hR;refine AJ Tryz.func291 fun E V=>?_
 conv=>cbv
 rintro n9 ⟨e9,f9⟩;conv=>cbv
 intro aB ao;conv=>cbv
 refine g2 ⟨by omega,by omega,i64 (by omega)⟩ ?_;rintro aC ⟨al,f13⟩;conv=>cbv
 intro aD aq;conv=>cbv
 refine AH ?_;intro aw ag;conv=>cbv
 refine AG ?_;intro Y ad;conv=>cbv
 intro a2 K;conv=>cbv
 rintro n18 ⟨an,f18⟩;conv=>cbv
 intro n19 ar;conv=>cbv
 refine AH ?_;obtain⟨U,b⟩:=AL (l:=T) (i:=(T.length-1)) (by omega);refine⟨U,fun _=>⟨by omega,by rw[show (n19).toNat=(T.length-1) by omega];exact b⟩,?_⟩;try conv=>cbv
 refine g2 rfl ?_;intro ax ah;conv=>cbv
 refine AG ?_;intro Z ae;conv=>cbv
 intro a5 L;conv=>cbv
 intro ay ai;conv=>cbv
 refine AG ?_;intro a1 af;conv=>cbv
 intro a6 M;conv=>cbv
 have a:a2=tw u:=by rw[K,List.drop_zero,show Y=T.length-1 by omega,hT,Ci]
 have v:a5=em u p:=by rw[L,List.drop_zero,show Z=A.length/2 by omega,H,Br h.red g.mem d.mem f]
 have z:a6=em u p:=by rw[M,List.drop_zero,show a1=A.length/2 by omega,H,Br h.red g.mem d.mem f]
 obtain⟨aE,j⟩:=xR (em u (p*p));refine AB V (C5 h.tail a v z g g (by omega) j) ?_;conv=>cbv
 intro az P;conv=>cbv
 refine AG ?_;rintro W aj ⟨aa,I⟩;conv=>cbv
 intro a7 N;conv=>cbv
 intro aA Q;conv=>cbv
 refine AG ?_;rintro X ak ⟨ab,J⟩;conv=>cbv
 intro a8 O;conv=>cbv
 have D:a7=em u q:=by rw[N,show W=A.length/2 by omega,I,P,List.take_length,H,Bc h.red g.mem d.mem f]
 have F:a8=em u q:=by rw[O,show X=A.length/2 by omega,J,Q,List.take_length,H,Bc h.red g.mem d.mem f]
 obtain⟨aF,k⟩:=xR (em u (q*q));refine AB V (C5 h.tail a D F d d (by omega) k) ?_;conv=>cbv
 have G:U=em u (AM u r):=by rw[hT,EL] at b;exact (Option.some.inj b).symm.trans (DR h.red)
 obtain⟨aG,m⟩:=xR (em u (q*q*AM u r));refine AB V (C5 h.tail a k G (d.mul h.tail d) S (by omega) m) ?_;conv=>cbv
 obtain⟨aH,o⟩:=xR (em u (p*p-q*q*AM u r));refine AB V (Km h.tail j m (g.mul h.tail g) ((d.mul h.tail d).mul h.tail S) (by omega) (by omega) o) ?_;conv=>cbv
 refine g2 rfl ?_;exact AD ⟨⟨rfl,congrArg _ (by rw[hC,o]),trivial⟩,trivial⟩
def Mj (R:Nat) (u:List (List Rat)):Prop:=∀{T:List LR} {A B:LR} {zn s:Nat} {x y:Re},T=tw u->A=em u x->El u s x->In u y->x*y=1->II u.length R s<=60000000000000->B=em u y->zn=B.length->
 CF 219 [.one (.sl (.sl AA) T),.one (.sl AA A)] (.AI [(false,[.own AA B zn]),(false,[.int .i64 0])])
theorem Xg {p q:Rat} (Q:T=[]) (G:A=[rp p]) (N:B=[rp q]) (h:p≠0) (H:q=1/p) (I:zn=B.length):CF 219 [.one (.sl (.sl AA) T),.one (.sl AA A)] (.AI [(false,[.own AA B zn]),(false,[.int .i64 0])]):=by
 refine AJ Tryz.func219 fun E P=>?_
 conv=>cbv
 rintro U ⟨D,f13⟩;conv=>cbv
 intro K f;conv=>cbv
 cases K <;> conv=>cbv
 ·have k:=Ac f;exact absurd (by rw[D,Q];rfl) k
 have k:=Ae f;have O:A.length=1:=by rw[G];rfl
 obtain⟨m,a⟩:=AL (l:=A) (i:=0) (by omega);refine⟨m,fun _=>⟨by omega,a⟩,?_⟩;try conv=>cbv
 have j:=Dw G a;rintro n20 ⟨F,f20⟩;conv=>cbv
 have M:n20=((List.length (α:=UInt32) m.1.2:Nat):Int):=F;intro n21 g;conv=>cbv
 cases n21 <;> conv=>cbv
 ·have J:=Ac g;obtain⟨L,b⟩:=AL (l:=A) (i:=0) (by omega);refine⟨L,fun _=>⟨by omega,b⟩,?_⟩;try conv=>cbv
  have S:=Dw G b;obtain⟨z,C,o,v,d⟩:=BP q;refine AB P (XK S h H d) ?_;conv=>cbv
  refine⟨[((z,C),(o,v))],fun _=>⟨rfl,by decide,rfl,⟨rfl,by first | exact t1 | exact t2 | exact t4 | simp[Aj,Ar,cells],trivial⟩⟩,.inl ?_⟩;try conv=>cbv
  exact AD ⟨⟨rfl,.inr (.inl ⟨_,_,by decide,rfl,rfl,rfl,rfl,CX (by rw[N,d.rp]) (by rw[I,N];rfl)⟩),trivial⟩,t2,trivial⟩
 have J:=Ae g;exact absurd (Rat.num_eq_zero.1 (j.num.EW.1 (by omega))) h
theorem Xi {y:Re} (h:Aa R (r::u)) (ih:Mj R u) (hT:T=tw (r::u)) (U:A=em (r::u) x) (hx:El (r::u) s x) (M:x=p+q*rt u r) (W:El u s p) (Y:El u s q) (h0:q=0) (V:In u i) (X:p*i=1) (hs:II (r::u).length R s<=60000000000000) (hB:B=em (r::u) i) (Z:zn=B.length):CF 219 [.one (.sl (.sl AA) T),.one (.sl AA A)] (.AI [(false,[.own AA B zn]),(false,[.int .i64 0])]):=by
 have aA:T.length=u.length+1:=by rw[hT,BN];rfl
 have ay:A.length=2^u.length+2^u.length:=by rw[U,Aw hx.mem,BM]
 have az:II (r::u).length R s=s+EE u.length R+II u.length R (2*s+2*EE u.length R+R+1):=rfl;have ah:=HO u.length R (s:=s) (t:=2*s+2*EE u.length R+R+1) (by omega);refine AJ Tryz.func219 fun E O=>?_
 conv=>cbv
 rintro aE ⟨ar,f13⟩;conv=>cbv
 intro a6 D;conv=>cbv
 cases a6 <;> conv=>cbv
 ·have N:=Ac D;rintro n28 ⟨au,f28⟩;conv=>cbv
  intro n29 aw;conv=>cbv
  refine g2 ⟨by omega,by omega,i64 (by omega)⟩ ?_;rintro n32 ⟨av,f32⟩;conv=>cbv
  intro n33 ax;conv=>cbv
  refine AH ?_;intro aB af;conv=>cbv
  refine AG ?_;intro Q aa;conv=>cbv
  intro a1 G;conv=>cbv
  intro aC K;conv=>cbv
  refine AG ?_;rintro P aq ⟨a8,F⟩;conv=>cbv
  intro a2 H;conv=>cbv
  have v:a2=em u q:=by rw[H,show P=A.length/2 by omega,F,K,List.take_length,U,Bc h.red W.mem Y.mem M]
  refine AB O (GL h.tail.red Y.mem v h0) ?_;conv=>cbv
  intro aD ag;conv=>cbv
  refine AG ?_;intro S ab;conv=>cbv
  intro a5 I;conv=>cbv
  have a:a1=tw u:=by rw[G,List.drop_zero,show Q=T.length-1 by omega,hT,Ci]
  have z:a5=em u p:=by rw[I,List.drop_zero,show S=A.length/2 by omega,U,Br h.red W.mem Y.mem M]
  obtain⟨j,b⟩:=xR (em u i);obtain⟨aj,d⟩:=xN j.length;refine AB O (ih a z W V X (by omega) b d) ?_;conv=>cbv
  refine Ai ?_;conv=>cbv
  obtain⟨an,ao,ak,al,m⟩:=BP (((0:Int):Rat));refine AB O (D1 (by omega) rfl m) ?_;conv=>cbv
  obtain⟨g,f⟩:=xR (em u (0));refine AB (r:= .one (.sl AA g)) O (E3 h.tail a m (by rw[show Re.ofRat ((0:Int):Rat)=0 from rfl];exact f)) ?_;try conv=>cbv
  have ad:j.length=2^u.length:=by rw[b,Aw V]
  have ae:g.length=2^u.length:=by rw[f,Aw (Bl u)]
  have ai:=CT h.tail.ht;refine .inl ⟨g,fun _=>⟨rfl,d,rfl,by show (j.length+g.length)*64<=140737488355328;(try simp only[List.length_take,List.length_drop]);omega⟩,?_⟩;intro (C:LR) a7 o;have J:C=(j:LR)++(g:LR):=o.1;have L:a7=List.length (α:=(el AA)) C:=o.2;conv=>cbv
  have k:B=C:=by rw[hB,J,b,f];exact D6 h.red V (Bl u) (by clear ih;grind)
  exact AD ⟨⟨rfl,.inr (.inl ⟨_,_,by decide,rfl,rfl,L,rfl,CX (k) (by rw[Z,k])⟩),trivial⟩,t2,trivial⟩
 have N:=Ae D;exact absurd N (by omega)
theorem Xh (h:Aa R (r::u)) (ih:Mj R u) (hT:T=tw (r::u)) (N:A=em (r::u) x) (hx:El (r::u) s x) (k:x=p+q*rt u r) (C:El u s p) (m:El u s q) (h0:q≠0) (hi:In u i) (O:(p*p-q*q*AM u r)*i=1) (hy:y=p*i+ -q*i*rt u r) (hs:II (r::u).length R s<=60000000000000) (hB:B=em (r::u) y) (ab:zn=B.length):CF 219 [.one (.sl (.sl AA) T),.one (.sl AA A)] (.AI [(false,[.own AA B zn]),(false,[.int .i64 0])]):=by
 have aH:T.length=u.length+1:=by rw[hT,BN];rfl
 have aF:A.length=2^u.length+2^u.length:=by rw[N,Aw hx.mem,BM]
 have aG:II (r::u).length R s=s+EE u.length R+II u.length R (2*s+2*EE u.length R+R+1):=rfl;have hN:=El.norm h C.mem m.mem (k ▸ hx);have b:=hN.inv h.tail hi O;have av:=Df u.length R (2*s+2*EE u.length R+R+1);have a1:=(m.neg h.red.1).mul h.tail b;refine AJ Tryz.func219 fun E L=>?_
 conv=>cbv
 rintro aM ⟨aA,f13⟩;conv=>cbv
 intro ah M;conv=>cbv
 cases ah <;> conv=>cbv
 ·have a5:=Ac M;rintro n28 ⟨aB,f28⟩;conv=>cbv
  intro n29 aD;conv=>cbv
  refine g2 ⟨by omega,by omega,i64 (by omega)⟩ ?_;rintro n32 ⟨aC,f32⟩;conv=>cbv
  intro n33 aE;conv=>cbv
  refine AH ?_;intro aI ar;conv=>cbv
  refine AG ?_;intro a8 al;conv=>cbv
  intro ad S;conv=>cbv
  intro aJ Y;conv=>cbv
  refine AG ?_;rintro a6 ay ⟨aj,P⟩;conv=>cbv
  intro ae U;conv=>cbv
  have H:ae=em u q:=by rw[U,show a6=A.length/2 by omega,P,Y,List.take_length,N,Bc h.red C.mem m.mem k]
  refine AB L (Gp h.tail.red m.mem H h0) ?_;conv=>cbv
  have a:ad=tw u:=by rw[S,List.drop_zero,show a8=T.length-1 by omega,hT,Ci]
  obtain⟨aN,D⟩:=xR (em u (p*p-q*q*AM u r));refine AB L (QT h hT N hx k C m (by omega) D) ?_;conv=>cbv
  obtain⟨aO,d⟩:=xR (em u i);refine AB L (CP (ih a D hN hi O (by omega) d rfl)) ?_;conv=>cbv
  refine Ai ?_;conv=>cbv
  intro aK au;conv=>cbv
  refine AG ?_;intro aa an;conv=>cbv
  intro af V;conv=>cbv
  have I:af=em u p:=by rw[V,List.drop_zero,show aa=A.length/2 by omega,N,Br h.red C.mem m.mem k]
  obtain⟨o,f⟩:=xR (em u (p*i));obtain⟨ax,g⟩:=xN o.length;refine AB L (WG h.tail a I d C b (by omega) f g) ?_;conv=>cbv
  intro aL Z;conv=>cbv
  refine AG ?_;rintro a7 az ⟨ak,Q⟩;conv=>cbv
  intro ag W;conv=>cbv
  have J:ag=em u q:=by rw[W,show a7=A.length/2 by omega,Q,Z,List.take_length,N,Bc h.red C.mem m.mem k]
  obtain⟨aP,F⟩:=xR (em u (-q));refine AB L (H2 h.tail J m F) ?_;conv=>cbv
  obtain⟨v,j⟩:=xR (em u (-q*i));refine AB L (C5 h.tail a F d (m.neg h.red.1) b (by omega) j) ?_;conv=>cbv
  have ao:o.length=2^u.length:=by rw[f,Aw (C.mul h.tail b).mem]
  have aq:v.length=2^u.length:=by rw[j,Aw a1.mem]
  have aw:=CT h.tail.ht;refine .inl ⟨v,fun _=>⟨rfl,g,rfl,by show (o.length+v.length)*64<=140737488355328;(try simp only[List.length_take,List.length_drop]);omega⟩,?_⟩;intro (K:LR) ai G;have X:K=(o:LR)++(v:LR):=G.1;have a2:ai=List.length (α:=(el AA)) K:=G.2;conv=>cbv
  refine g2 rfl ?_;have z:B=K:=by rw[hB,X,f,j];exact D6 h.red (C.mul h.tail b).mem a1.mem hy
  exact AD ⟨⟨rfl,.inr (.inl ⟨_,_,by decide,rfl,rfl,a2,rfl,CX (z) (by rw[ab,z])⟩),trivial⟩,t2,trivial⟩
 have a5:=Ae M;exact absurd a5 (by omega)
theorem fR (h:Aa R u):Mj R u:=by
 induction u with
 | nil=>
  intro T A B zn s x y C j g K b I k f;obtain⟨p,rfl⟩:=Bv.1 g.mem;obtain⟨q,rfl⟩:=Bv.1 K;rw[DD] at j k;rw[<-Re.ofRat_mul] at b;have e:=Re.Jz.1 b;exact Xg C j k (by intro L;subst L;grind) (by grind) f
 | cons r u d=>
  intro T A B zn s x y C j g K b I k f;obtain⟨p,q,a,o,D⟩:=El.parts h.red g;have P:=B4 h.red;have N:(0:Re)<1:=Re.G6.2 (show (0:Rat)<1 by decide)
  by_cases z:q=0
  ·have H:p≠0:=by intro e;rw[e,z] at a;rw[a] at b;clear d;grind
   obtain⟨i,G,v⟩:=D8 h.red.1 o.mem H
   have J:y=i:=by
    have:y=i*(x*y):=by
     have M:x=p:=by rw[a,z];clear d;grind
     rw[M];have:i*(p*y)=y*(p*i):=by clear d;grind
     rw[this,v];clear d;grind
    rw[b] at this;clear d;grind
   exact Xi (y:=y) h (d h.tail) C j g a o D z G v I (J ▸ k) f
  have O:=El.norm h o.mem D.mem (a ▸ g);have F:p*p-q*q*AM u r≠0:=Ta h.red o.mem D.mem (by intro e;rw[<-a] at e;rw[e] at b;clear d;grind);obtain⟨i,G,m⟩:=D8 h.red.1 O.mem F;refine Xh h (d h.tail) C j g a o D z G m ?_ I k f
  have:y=x*y*((p-q*rt u r)*i):=by
   have:x*y*((p-q*rt u r)*i)=y*((p*p-q*q*AM u r)*i):=by rw[a];clear d;grind
   rw[this,m];clear d;grind
  rw[b] at this
  clear d;grind
theorem Kl (h:Aa R u) (f:T=tw u) (b:A=em u x) (j:El u s x) (k:In u y) (a:x*y=1) (g:II u.length R s<=60000000000000) (d:B=em u y):
 CF 219 [.one (.sl (.sl AA) T),.one (.sl AA A)] (.AI [(false,[.sl AA B]),(false,[.int .i64 0])]):=CP (fR h f b j k a g d rfl)
theorem Xe (D:T=[]) (z:A=[rp 0]):CF 219 [.one (.sl (.sl AA) T),.one (.sl AA A)] (.AI [(false,[.sl AA (([]:LR))]),(false,[.int .i64 6])]):=by
 refine AJ Tryz.func219 fun E G=>?_
 conv=>cbv
 rintro F ⟨m,f13⟩;conv=>cbv
 intro v d;conv=>cbv
 cases v <;> conv=>cbv
 ·have h:=Ac d;exact absurd (by rw[m,D];rfl) h
 have h:=Ae d;have C:A.length=1:=by rw[z];rfl
 obtain⟨k,a⟩:=AL (l:=A) (i:=0) (by omega);refine⟨k,fun _=>⟨by omega,a⟩,?_⟩;try conv=>cbv
 have g:=Dw z a;rintro n20 ⟨o,f20⟩;conv=>cbv
 have b:n20=((List.length (α:=UInt32) k.1.2:Nat):Int):=o;intro n21 f;conv=>cbv
 cases n21 <;> conv=>cbv
 ·have j:=Ac f;exact absurd (by rw[b,g.num.EW.2 rfl];rfl) j
 have j:=Ae f;exact AD ⟨⟨rfl,C7,trivial⟩,t2,trivial⟩
theorem Xf (h:Aa R (r::u)) (ih:∀{T A},T=tw u->A=em u 0->CF 219 [.one (.sl (.sl AA) T),.one (.sl AA A)] (.AI [(false,[.sl AA []]),(false,[.int .i64 6])])) (M:T=tw (r::u)) (G:A=em (r::u) 0):CF 219 [.one (.sl (.sl AA) T),.one (.sl AA A)] (.AI [(false,[.sl AA (([]:LR))]),(false,[.int .i64 6])]):=by
 have hx:El (r::u) 0 0:=El.rat h.red GP;have f:(0:Re)=0+0*rt u r:=by grind
 have a2:T.length=u.length+1:=by rw[M,BN];rfl
 have a1:A.length=2^u.length+2^u.length:=by rw[G,Aw hx.mem,BM]
 refine AJ Tryz.func219 fun E L=>?_
 conv=>cbv
 rintro a8 ⟨V,f13⟩;conv=>cbv
 intro K g;conv=>cbv
 cases K <;> conv=>cbv
 ·have z:=Ac g;rintro n28 ⟨W,f28⟩;conv=>cbv
  intro n29 Y;conv=>cbv
  refine g2 ⟨by omega,by omega,i64 (by omega)⟩ ?_;rintro n32 ⟨X,f32⟩;conv=>cbv
  intro n33 Z;conv=>cbv
  refine AH ?_;intro a5 Q;conv=>cbv
  refine AG ?_;intro D O;conv=>cbv
  intro H k;conv=>cbv
  intro a6 v;conv=>cbv
  refine AG ?_;rintro C U ⟨N,j⟩;conv=>cbv
  intro I m;conv=>cbv
  have b:I=em u 0:=by rw[m,show C=A.length/2 by omega,j,v,List.take_length,G,Bc h.red (Bl u) (Bl u) f]
  refine AB L (GL h.tail.red (Bl u) b rfl) ?_;conv=>cbv
  intro a7 S;conv=>cbv
  refine AG ?_;intro F P;conv=>cbv
  intro J o;conv=>cbv
  have a:H=tw u:=by rw[k,List.drop_zero,show D=T.length-1 by omega,M,Ci]
  have d:J=em u 0:=by rw[o,List.drop_zero,show F=A.length/2 by omega,G,Br h.red (Bl u) (Bl u) f]
  refine AB L (ih a d) ?_;conv=>cbv
  refine Bu ?_;conv=>cbv
  exact AD ⟨⟨rfl,C7,trivial⟩,t2,trivial⟩
 have z:=Ae g;exact absurd z (by omega)
theorem QR:∀{u:List (List Rat)} {R:Nat},Aa R u->∀{T A},T=tw u->A=em u 0->CF 219 [.one (.sl (.sl AA) T),.one (.sl AA A)] (.AI [(false,[.sl AA []]),(false,[.int .i64 6])])
 | [],R,h=>fun b a=>Xe b (a.trans (DD 0))
 | r::u,R,h=>fun b a=>Xf h (QR h.tail) b a
def QL (R:Nat) (u:List (List Rat)):Prop:=∀{T:List LR} {A:LR} {s:Nat} {x:Re} {c:Int},T=tw u->A=em u x->El u s x->VV u.length R s<=60000000000000->c=AZ x->
 CF 292 [.one (.sl (.sl AA) T),.one (.sl AA A)] (.one (.int .i64 c))
theorem YA {p:Rat} (v:T=[]) (k:A=[rp p]) (z:c=Cw p):CF 292 [.one (.sl (.sl AA) T),.one (.sl AA A)] (.one (.int .i64 c)):=by
 refine AJ Tryz.func292 fun E o=>?_
 conv=>cbv
 rintro C ⟨g,f11⟩;conv=>cbv
 intro h d;conv=>cbv
 cases h <;> conv=>cbv
 ·have f:=Ac d;exact absurd (by rw[g,v];rfl) f
 have f:=Ae d;have m:A.length=1:=by rw[k];rfl
 obtain⟨j,b⟩:=AL (l:=A) (i:=0) (by omega);refine⟨j,fun _=>⟨by omega,b⟩,?_⟩;try conv=>cbv
 obtain⟨D,a⟩:=xI (Cw p);refine AB o (QF (Dw k b) a) ?_;conv=>cbv
 exact AD ⟨⟨rfl,congrArg _ (z.trans a.symm),trivial⟩,trivial⟩
theorem YB (h:Aa R (r::u)) (ih:QL R u) (L:T=tw (r::u)) (Y:A=em (r::u) x) (hx:El (r::u) s x) (hs:VV (r::u).length R s<=60000000000000) (hc:c=AZ x):CF 292 [.one (.sl (.sl AA) T),.one (.sl AA A)] (.one (.int .i64 c)):=by
 obtain⟨p,q,d,V,W⟩:=El.parts h.red hx;have aG:T.length=u.length+1:=by rw[L,BN];rfl
 have aF:A.length=2^u.length+2^u.length:=by rw[Y,Aw hx.mem,BM]
 have aI:VV (r::u).length R s=VV u.length R (2*s+2*EE u.length R+R+1):=rfl;have aJ:=Eb u.length R (2*s+2*EE u.length R+R+1);have aH:=GI u.length R (s:=s) (t:=2*s+2*EE u.length R+R+1) (by omega);have hN:=El.norm h V.mem W.mem (d ▸ hx);have g:=Ur h.red;have a8:=B4 h.red;refine AJ Tryz.func292 fun E Z=>?_
 conv=>cbv
 rintro aO ⟨ay,f11⟩;conv=>cbv
 intro ag G;conv=>cbv
 cases ag <;> conv=>cbv
 ·have X:=Ac G;rintro n18 ⟨az,f18⟩;conv=>cbv
  intro n19 aC;conv=>cbv
  refine AH ?_;rintro n22 ⟨aA,f22⟩;conv=>cbv
  intro n23 aD;conv=>cbv
  refine g2 ⟨by omega,by omega,i64 (by omega)⟩ ?_;intro aK ar;conv=>cbv
  refine AG ?_;intro a2 al;conv=>cbv
  intro aa N;conv=>cbv
  rintro n27 ⟨aB,f27⟩;conv=>cbv
  intro n28 aE;conv=>cbv
  refine g2 ⟨by omega,by omega,i64 (by omega)⟩ ?_;intro aL U;conv=>cbv
  refine AG ?_;rintro a1 ax ⟨ak,M⟩;conv=>cbv
  intro ab O;conv=>cbv
  refine g2 rfl ?_;intro m32 au;conv=>cbv
  refine AG ?_;intro a5 an;conv=>cbv
  intro ad P;conv=>cbv
  have o:ad=tw u:=by rw[P,List.drop_zero,show a5=T.length-1 by omega,L,Ci]
  have k:aa=em u p:=by rw[N,List.drop_zero,show a2=A.length/2 by omega,Y,Br h.red V.mem W.mem d]
  obtain⟨aQ,a⟩:=xI (AZ p);refine AB Z (ih o k V (by omega) a) ?_;conv=>cbv
  intro aM av;conv=>cbv
  refine AG ?_;intro a6 ao;conv=>cbv
  intro ae Q;conv=>cbv
  have v:ae=tw u:=by rw[Q,List.drop_zero,show a6=T.length-1 by omega,L,Ci]
  have m:ab=em u q:=by rw[O,show a1=A.length/2 by omega,M,U,List.take_length,Y,Bc h.red V.mem W.mem d]
  obtain⟨aR,b⟩:=xI (AZ q);refine AB Z (ih v m W (by omega) b) ?_;conv=>cbv
  refine g2 rfl ?_;intro ah H;conv=>cbv
  cases ah <;> conv=>cbv
  ·have C:=Ac H;intro ai I;conv=>cbv
   cases ai <;> conv=>cbv
   ·have D:=Ac I;intro aj J;conv=>cbv
    cases aj <;> conv=>cbv
    ·have F:=Ac J;intro aN aw;conv=>cbv
     refine AG ?_;intro a7 aq;conv=>cbv
     intro af S;conv=>cbv
     have z:af=tw u:=by rw[S,List.drop_zero,show a7=T.length-1 by omega,L,Ci]
     obtain⟨aT,j⟩:=xR (em u (p*p-q*q*AM u r));refine AB Z (QT h L Y hx d V W (by omega) j) ?_;conv=>cbv
     obtain⟨aS,f⟩:=xI (AZ (p*p-q*q*AM u r));refine AB Z (ih z j hN (by omega) f) ?_;conv=>cbv
     intro aP K;conv=>cbv
     refine⟨fun _=>by rw[K,a,f];exact U7 _ _,?_⟩;refine g2 rfl ?_;exact AD ⟨⟨rfl,congrArg _ (by rw[hc,K,a,f,d];exact VA g a8 (fun e=>F (by rw[a,e];exact E0)) (fun e=>C (by rw[b,e];exact E0)) (by rw[<-a,<-b];exact D)),trivial⟩,trivial⟩
    have F:=Ae J;exact AD ⟨⟨rfl,congrArg _ (by rw[hc,b,d];exact VB g (Dx.1 (a ▸ F))),trivial⟩,trivial⟩
   have D:=Ae I;exact AD ⟨⟨rfl,congrArg _ (by rw[hc,a,d];exact MH g (.inr (by rw[<-a,<-b];exact D))),trivial⟩,trivial⟩
  have C:=Ae H;exact AD ⟨⟨rfl,congrArg _ (by rw[hc,a,d];exact MH g (.inl (Dx.1 (b ▸ C)))),trivial⟩,trivial⟩
 have X:=Ae G;exact absurd X (by omega)
theorem PU (h:Aa R u):QL R u:=by
 induction u with
 | nil=>
  intro T A s x c b a f g d;obtain⟨p,rfl⟩:=Bv.1 f.mem;rw[DD] at a;exact YA b a (d.trans (Fg p))
 | cons r u j=>
  intro T A s x c b a f g d;exact YB h (j h.tail) b a f g d
end Go.Abs
namespace Go.Abs
open Go.RowKit
variable {A:LR} {R s:Nat} {T:List LR} {c:Int} {u:List (List Rat)} {x:Re}
theorem W7 (h:Aa R u) (d:T=tw u) (a:A=em u x) (j:El u s x) (g:VV u.length R s<=60000000000000) (f:c=AZ x):CF 220 [.one (.sl (.sl AA) T),.one (.sl AA A)] (.one (.int .i64 c)):=by
 refine AJ Tryz.func220 fun E b=>?_
 conv=>cbv
 refine AB b (PU h d a j g f) ?_;conv=>cbv
 exact AD ⟨t2,trivial⟩
theorem XQ (h:Aa R u) (G:T=tw u) (hs:VV u.length R R<=60000000000000):CF 318 [.one (.sl (.sl AA) T)] (.one (.bool true)):=by
 have X:T.length=u.length:=by rw[G,BN]
 refine AJ Tryz.func318 fun E O=>?_
 conv=>cbv
 refine AB O (QJ h G) ?_;conv=>cbv
 refine Ai ?_;conv=>cbv
 refine .inr ?_;obtain⟨U,d⟩:=xJ fun vs V k=>∃(i':Nat) (i:Int),vs=[.one (.sl (.sl AA) T),.one (.int .i64 i)]/\(AQ i i'/\i'<=T.length)/\k=T.length-i'
 refine⟨[],[0,3],[],U,⟨T.length-0,by rw[d];exact⟨0,0,rfl,⟨An 0,by omega⟩,rfl⟩⟩,?_⟩;intro vs V a2 Q;rw[d] at Q;obtain⟨i',i,rfl,⟨Y,Z⟩,a1⟩:=Q;conv=>cbv
 have ei:=Y.eq;rintro n9 ⟨e9,f9⟩;conv=>cbv
 intro L m;conv=>cbv
 cases L <;> conv=>cbv
 ·have J:=AW m;exact AD ⟨t2,trivial⟩
 have J:=AY m;refine .inr ?_;intro a5 S;conv=>cbv
 refine AG ?_;intro H P;conv=>cbv
 intro K v;conv=>cbv
 obtain⟨j,b⟩:=AL (l:=T) (i:=i') (by omega);refine⟨j,fun _=>⟨by omega,by rw[show (i).toNat=i' by omega];exact b⟩,?_⟩;try conv=>cbv
 obtain⟨r,D,C⟩:=Hk (u:=u) (i:=i') (by omega);have z:AS (r::pre u i'):=D ▸ (h.pre (i'+1)).red;have I:j=Ad r:=by rw[<-G,b] at C;exact Option.some.inj C
 have g:j=em (pre u i') (AM (pre u i') r):=I.trans (DR z);have f:K=tw (pre u i'):=by rw[v,List.drop_zero,show H=i' by omega,G,Gd]
 obtain⟨N,a⟩:=xI (AZ (AM (pre u i') r));refine AB (r:= .one (.int .i64 N)) O (PU (h.pre i') f g (El.CK (D ▸ h.pre (i'+1))) (by rw[HA (by omega)];exact Nat.le_trans (JF (by omega) R R) hs) a) ?_;try conv=>cbv
 intro n21 o;conv=>cbv
 refine g2 rfl ?_;cases n21 <;> conv=>cbv
 ·have F:=Cr o;intro M W;conv=>cbv
  refine AH ?_;refine⟨T.length-(i'+1),?_,?_⟩
  ·omega
  rw[d];exact⟨i'+1,M,rfl,⟨⟨by omega⟩,by omega⟩,rfl⟩
 have F:=Cs o;exact absurd (a.trans (FE z.2.2.1)) F
theorem FJ (h:Aa R u) (b:T=tw u) (f:A=em u x) (g:El u s x) (k:VV u.length R s<=60000000000000) (d:s<=60000000000000) (hR:VV u.length R R<=60000000000000) (j:c=AZ x):CF 246 [.one (.sl (.sl AA) T),.one (.sl AA A)] (.one (.int .i64 c)):=by
 refine AJ Tryz.func246 fun E a=>?_
 conv=>cbv
 refine AB a (Kd h b f g d) ?_;conv=>cbv
 refine Ai ?_;conv=>cbv
 refine AB a (XQ h b hR) ?_;conv=>cbv
 refine Ai ?_;conv=>cbv
 refine AB a (PU h b f g k j) ?_;conv=>cbv
 exact AD ⟨t2,trivial⟩
theorem XR {C:LR} {r:List Rat} {k:Int} (h:Aa R (r::u)) (Q:T=tw (r::u)) (U:AQ k u.length) (P:C=em (r::u) (rt u r)):CF 344 [.one (.sl (.sl AA) T),.one (.int .i64 k)] (.one (.sl AA C)):=by
 have O:=U.eq;have S:(r::u).length<=16:=h.ht;have V:(r::u).length=u.length+1:=rfl;refine AJ Tryz.func344 fun E H=>?_
 conv=>cbv
 obtain⟨a2,a5,Z,a1,F⟩:=BP (((0:Int):Rat));refine AB H (D1 (by omega) rfl F) ?_;conv=>cbv
 obtain⟨v,m⟩:=xR (em (r::u) (0));obtain⟨J,D⟩:=xN v.length;refine AB (r:= .one (.own AA v J)) H (QB h Q F (by rw[show Re.ofRat ((0:Int):Rat)=0 from rfl];exact m) D) ?_;try conv=>cbv
 intro Y G;conv=>cbv
 refine AG ?_;have N:=(Dy (k:=u.length) G O).eq;obtain⟨g,j,d,f,b⟩:=BP (((1:Int):Rat));refine AB H (D1 (by omega) rfl b) ?_;conv=>cbv
 have W:v.length=2^u.length+2^u.length:=by rw[m,Aw (Bl _),BM]
 have X:=Cu u.length;have M:=CT (n:=u.length);refine AG ?_;intro I L;conv=>cbv
 refine⟨((g,j),(d,f)),fun _=>⟨by show _<List.length (α:=(el AA)) v;(first | omega | (simp;omega)),by first | exact t1 | exact t2 | exact t4 | simp[Aj,Ar,cells]⟩,?_⟩;intro (o:LR) (a:o=List.set (α:=(el AA)) v I (((g,j),(d,f))));have K:o.length=v.length:=by rw[a,List.length_set]
 conv=>cbv
 refine g2 rfl ?_;have z:C=o:=by rw[P,SA h.red,a,m];congr 1 <;> first | omega | exact b.rp
 exact AD ⟨⟨rfl,.inl ⟨_,rfl,by omega,congrArg _ (by rw[z,List.drop_zero,List.take_of_length_le (by omega)])⟩,trivial⟩,trivial⟩
end Go.Abs
namespace Go.Abs
def TQ (h R s:Nat):Nat:=3*s+4*EE h R+R+GG h R+3+II h R R
def SS:Nat->Nat->Nat->Nat
 | 0,_,s=>s
 | h+1,R,s=>max (VV (h+1) R s) (max (SS h R (TQ h R s)) (s+II h R (TQ h R s+GG h R)+2*EE h R+2))
theorem Pz (h R:Nat) {s t:Nat} (a:s<=t):TQ h R s<=TQ h R t:=by unfold TQ;omega
theorem KZ:∀(h R:Nat) {s t:Nat},s<=t->SS h R s<=SS h R t
 | 0,_,_,_,a=>a
 | h+1,R,s,t,a=>by
  have b:=GI (h+1) R a;have d:=KZ h R (Pz h R a);have h3:=HO h R (Nat.add_le_add_right (Pz h R a) (GG h R))
  show max _ (max _ _)<=max _ (max _ _)
  omega
theorem Gm (h R s:Nat):VV (h+1) R s<=SS (h+1) R s:=by show _<=max _ (max _ _);omega
theorem Pw (h R s:Nat):SS h R (TQ h R s)<=SS (h+1) R s:=by show _<=max _ (max _ _);omega
theorem HQ (h R s:Nat):s+II h R (TQ h R s+GG h R)+2*EE h R+2<=SS (h+1) R s:=by show _<=max _ (max _ _);omega
theorem Px (h R s:Nat):s<=SS h R s:=by
 cases h with
 | zero=>exact Nat.le_refl _
 | succ h=>exact Nat.le_trans (Eb _ _ _) (Gm h R s)
end Go.Abs
namespace Go.Abs
open Go.RowKit
variable {A B l:LR} {R k0 s:Nat} {T:List LR} {i n p q t w x:Re} {r:List Rat} {u:List (List Rat)}
theorem Ms {C:LR} (F:A.length<=1000000) (G:B.length<=1000000) (o:C=A++B):CF 320 [.one (.sl AA A),.one (.sl AA B)] (.one (.sl AA C)):=by
 refine AJ Tryz.func320 fun E H=>?_
 conv=>cbv
 refine⟨[],fun _=>⟨rfl,by decide,rfl,trivial⟩,.inl ?_⟩;try conv=>cbv
 refine .inl ⟨A,fun _=>⟨rfl,rfl,rfl,by show (0+A.length)*64<=140737488355328;(try simp only[List.length_take,List.length_drop]);omega⟩,?_⟩;intro (d:LR) z f;have b:d=([]:LR)++(A:LR):=f.1;have j:z=List.length (α:=(el AA)) d:=f.2;conv=>cbv
 have m:d.length=A.length:=by rw[b];simp
 refine .inl ⟨B,fun _=>⟨rfl,j,rfl,by show (d.length+B.length)*64<=140737488355328;(try simp only[List.length_take,List.length_drop]);omega⟩,?_⟩;intro (k:LR) D g;have h:k=(d:LR)++(B:LR):=g.1;have v:D=List.length (α:=(el AA)) k:=g.2;conv=>cbv
 have a:C=k:=by rw[o,h,b];rfl
 exact AD ⟨⟨rfl,.inl ⟨_,rfl,by omega,congrArg _ (by rw[a,List.drop_zero,List.take_of_length_le (by omega)])⟩,trivial⟩,trivial⟩
def GJ (u:List (List Rat)) (x:Re) (l:LR):Prop:=∀{T:List LR} {A:LR},T=tw u->A=em u x->
 CF 247 [.one (.sl (.sl AA) T),.one (.sl AA A)] (.AI [(false,[.sl AA l]),(false,[.bool false])])
def GK (u:List (List Rat)) (x w:Re):Prop:=∀{T:List LR} {A B:LR},T=tw u->A=em u x->B=em u w->
 CF 247 [.one (.sl (.sl AA) T),.one (.sl AA A)] (.AI [(false,[.sl AA B]),(false,[.bool true])])
theorem G5 {c:Int} (b:c=AZ x) (h:c<0) (a:0<=x):False:=by
 have:=(G3 (x:=x)).1 (by omega)
 grind
theorem X5 (h:Aa R (r::u)) (v:T=tw (r::u)) (o:A=em (r::u) x) (C:El (r::u) s x) (O:x=p+q*rt u r) (Q:El u s p) (S:El u s q) (U:SS (r::u).length R s<=60000000000000) (j:VV (r::u).length R R<=60000000000000) (g:x<0):CF 247 [.one (.sl (.sl AA) T),.one (.sl AA A)] (.AI [(false,[.sl AA (([]:LR))]),(false,[.bool false])]):=by
 have I:T.length=u.length+1:=by rw[v,BN];rfl
 have F:A.length=2^u.length+2^u.length:=by rw[o,Aw C.mem,BM]
 have K:=El.CK h;have hR:=h.hR;have N:VV (r::u).length R s<=SS (r::u).length R s:=Gm u.length R s;have M:s+II u.length R (TQ u.length R s+GG u.length R)+2*EE u.length R+2<=SS (r::u).length R s:=HQ u.length R s;have L:=Eb (r::u).length R s;have J:=Df u.length R (TQ u.length R s+GG u.length R);have H:TQ u.length R s=3*s+4*EE u.length R+R+GG u.length R+3+II u.length R R:=rfl;have z:=CT h.tail.ht;refine AJ Tryz.func247 fun E G=>?_
 conv=>cbv
 rintro n31 ⟨D,f31⟩;conv=>cbv
 intro n32 a;conv=>cbv
 cases n32 <;> conv=>cbv
 ·have f:=Ac a;obtain⟨P,d⟩:=xI (AZ x);refine AB G (FJ h v o C (by omega) (by omega) j d) ?_;conv=>cbv
  intro m b;conv=>cbv
  cases m <;> conv=>cbv
  ·have k:=AW b;exact absurd (G3.2 g) (by omega)
  have k:=AY b;exact AD ⟨⟨rfl,C7,trivial⟩,t2,trivial⟩
 have f:=Ae a;exact absurd f (by omega)
theorem X6 (h:Aa R (r::u)) (O:T=tw (r::u)) (N:A=em (r::u) x) (hx:El (r::u) s x) (I:x=p+q*rt u r) (hp:El u s p) (W:El u s q) (hs:SS (r::u).length R s<=60000000000000) (X:VV (r::u).length R R<=60000000000000) (U:0<=x) (h0:q=0) (hw:In u w) (hy:GK u p w) (hB:B=em (r::u) w):CF 247 [.one (.sl (.sl AA) T),.one (.sl AA A)] (.AI [(false,[.sl AA B]),(false,[.bool true])]):=by
 have aw:T.length=u.length+1:=by rw[O,BN];rfl
 have au:A.length=2^u.length+2^u.length:=by rw[N,Aw hx.mem,BM]
 have ay:=El.CK h;have hR:=h.hR;have aB:VV (r::u).length R s<=SS (r::u).length R s:=Gm u.length R s;have aA:s+II u.length R (TQ u.length R s+GG u.length R)+2*EE u.length R+2<=SS (r::u).length R s:=HQ u.length R s;have az:=Eb (r::u).length R s;have ax:=Df u.length R (TQ u.length R s+GG u.length R);have av:TQ u.length R s=3*s+4*EE u.length R+R+GG u.length R+3+II u.length R R:=rfl;have af:=CT h.tail.ht;refine AJ Tryz.func247 fun E o=>?_
 conv=>cbv
 rintro n31 ⟨al,f31⟩;conv=>cbv
 intro n32 v;conv=>cbv
 cases n32 <;> conv=>cbv
 ·have J:=Ac v;obtain⟨aI,g⟩:=xI (AZ x);refine AB o (FJ h O N hx (by omega) (by omega) X g) ?_;conv=>cbv
  intro a5 z;conv=>cbv
  cases a5 <;> conv=>cbv
  ·have K:=AW z;rintro aF ⟨an,f48⟩;conv=>cbv
   intro a6 aq;conv=>cbv
   refine AH ?_;intro aC ad;conv=>cbv
   refine AG ?_;intro Q aa;conv=>cbv
   intro Z D;conv=>cbv
   obtain⟨M,f⟩:=AL (l:=T) (i:=(T.length-1)) (by omega);refine⟨M,fun _=>⟨by omega,by rw[show (a6).toNat=(T.length-1) by omega];exact f⟩,?_⟩;try conv=>cbv
   refine g2 rfl ?_;rintro aG ⟨ao,f58⟩;conv=>cbv
   intro aH ar;conv=>cbv
   refine g2 ⟨by omega,by omega,i64 (by omega)⟩ ?_;intro aD ae;conv=>cbv
   refine AG ?_;intro S ab;conv=>cbv
   intro a1 F;conv=>cbv
   intro aE H;conv=>cbv
   refine AG ?_;rintro P ak ⟨a8,C⟩;conv=>cbv
   intro a2 G;conv=>cbv
   refine g2 rfl ?_;have a:Z=tw u:=by rw[D,List.drop_zero,show Q=T.length-1 by omega,O,Ci]
   have Y:M=em u (AM u r):=by rw[O,EL] at f;exact (Option.some.inj f).symm.trans (DR h.red)
   have k:a1=em u p:=by rw[F,List.drop_zero,show S=A.length/2 by omega,N,Br h.red hp.mem W.mem I]
   have m:a2=em u q:=by rw[G,show P=A.length/2 by omega,C,H,List.take_length,N,Bc h.red hp.mem W.mem I]
   obtain⟨ai,aj,ag,ah,j⟩:=BP (((0:Int):Rat));refine AB o (D1 (by omega) rfl j) ?_;conv=>cbv
   obtain⟨L,b⟩:=xR (em u (0));refine AB (r:= .one (.sl AA L)) o (E3 h.tail a j (by rw[show Re.ofRat ((0:Int):Rat)=0 from rfl];exact b)) ?_;try conv=>cbv
   refine AB o (GL h.tail.red W.mem m h0) ?_;conv=>cbv
   obtain⟨a7,d⟩:=xR (em u w);refine AB o (hy a k d) ?_;conv=>cbv
   have V:B=a7++L:=by rw[hB,d,b];exact D6 h.red hw (Bl u) (by grind)
   refine AB (r:= .one (.sl AA B)) o (Ms (by rw[d,Aw hw];omega) (by rw[b,Aw (Bl u)];omega) V) ?_;try conv=>cbv
   exact AD ⟨t2,t2,trivial⟩
  have K:=AY z;exact (G5 g K U).elim
 have J:=Ae v;exact absurd J (by omega)
theorem X7 (h:Aa R (r::u)) (V:T=tw (r::u)) (U:A=em (r::u) x) (hx:El (r::u) s x) (N:x=p+q*rt u r) (hp:El u s p) (hq:El u s q) (hs:SS (r::u).length R s<=60000000000000) (a5:VV (r::u).length R R<=60000000000000) (Z:0<=x) (h0:q=0) (hi:In u i) (L:AM u r*i=1) (hn:GJ u p l) (hw:In u w) (hy:GK u (p*i) w) (hB:B=em (r::u) (w*rt u r)):CF 247 [.one (.sl (.sl AA) T),.one (.sl AA A)] (.AI [(false,[.sl AA B]),(false,[.bool true])]):=by
 have aB:T.length=u.length+1:=by rw[V,BN];rfl
 have az:A.length=2^u.length+2^u.length:=by rw[U,Aw hx.mem,BM]
 have M:=El.CK h;have hR:=h.hR;have aF:VV (r::u).length R s<=SS (r::u).length R s:=Gm u.length R s;have aE:s+II u.length R (TQ u.length R s+GG u.length R)+2*EE u.length R+2<=SS (r::u).length R s:=HQ u.length R s;have aD:=Eb (r::u).length R s;have aC:=Df u.length R (TQ u.length R s+GG u.length R);have aA:TQ u.length R s=3*s+4*EE u.length R+R+GG u.length R+3+II u.length R R:=rfl;have ak:=CT h.tail.ht;have a2:=M.inv h.tail hi L;refine AJ Tryz.func247 fun E j=>?_
 conv=>cbv
 rintro n31 ⟨au,f31⟩;conv=>cbv
 intro n32 D;conv=>cbv
 cases n32 <;> conv=>cbv
 ·have O:=Ac D;obtain⟨aM,k⟩:=xI (AZ x);refine AB j (FJ h V U hx (by omega) (by omega) a5 k) ?_;conv=>cbv
  intro aa F;conv=>cbv
  cases aa <;> conv=>cbv
  ·have P:=AW F;rintro aJ ⟨av,f48⟩;conv=>cbv
   intro ab ax;conv=>cbv
   refine AH ?_;intro aG ai;conv=>cbv
   refine AG ?_;intro X ag;conv=>cbv
   intro a6 H;conv=>cbv
   obtain⟨S,g⟩:=AL (l:=T) (i:=(T.length-1)) (by omega);refine⟨S,fun _=>⟨by omega,by rw[show (ab).toNat=(T.length-1) by omega];exact g⟩,?_⟩;try conv=>cbv
   refine g2 rfl ?_;rintro aK ⟨aw,f58⟩;conv=>cbv
   intro aL ay;conv=>cbv
   refine g2 ⟨by omega,by omega,i64 (by omega)⟩ ?_;intro aH aj;conv=>cbv
   refine AG ?_;intro Y ah;conv=>cbv
   intro a7 I;conv=>cbv
   intro aI K;conv=>cbv
   refine AG ?_;rintro W ar ⟨af,G⟩;conv=>cbv
   intro a8 J;conv=>cbv
   refine g2 rfl ?_;have a:a6=tw u:=by rw[H,List.drop_zero,show X=T.length-1 by omega,V,Ci]
   have C:S=em u (AM u r):=by rw[V,EL] at g;exact (Option.some.inj g).symm.trans (DR h.red)
   have b:a7=em u p:=by rw[I,List.drop_zero,show Y=A.length/2 by omega,U,Br h.red hp.mem hq.mem N]
   have z:a8=em u q:=by rw[J,show W=A.length/2 by omega,G,K,List.take_length,U,Bc h.red hp.mem hq.mem N]
   obtain⟨ao,aq,al,an,v⟩:=BP (((0:Int):Rat));refine AB j (D1 (by omega) rfl v) ?_;conv=>cbv
   obtain⟨Q,d⟩:=xR (em u (0));refine AB (r:= .one (.sl AA Q)) j (E3 h.tail a v (by rw[show Re.ofRat ((0:Int):Rat)=0 from rfl];exact d)) ?_;try conv=>cbv
   refine AB j (GL h.tail.red hq.mem z h0) ?_;conv=>cbv
   refine AB j (hn a b) ?_;conv=>cbv
   obtain⟨ad,m⟩:=xR (em u (i));refine AB (r:= .AI [(false,[.sl AA ad]),(false,[.int .i64 0])]) j (Kl h.tail a C M hi L (by have:=HO u.length R (s:=R) (t:=TQ u.length R s+GG u.length R) (by omega);omega) m) ?_;try conv=>cbv
   obtain⟨aN,o⟩:=xR (em u (p*i));refine AB j (C5 h.tail a b m hp a2 (by omega) o) ?_;conv=>cbv
   obtain⟨ae,f⟩:=xR (em u w);refine AB j (hy a o f) ?_;conv=>cbv
   have a1:B=Q++ae:=by rw[hB,f,d];exact D6 h.red (Bl u) hw (by grind)
   refine AB (r:= .one (.sl AA B)) j (Ms (by rw[d,Aw (Bl u)];omega) (by rw[f,Aw hw];omega) a1) ?_;try conv=>cbv
   exact AD ⟨t2,t2,trivial⟩
  have P:=AY F;exact (G5 k P Z).elim
 have O:=Ae D;exact absurd O (by omega)
theorem X8 (h:Aa R (r::u)) (S:T=tw (r::u)) (Q:A=em (r::u) x) (hx:El (r::u) s x) (M:x=p+q*rt u r) (hp:El u s p) (hq:El u s q) (hs:SS (r::u).length R s<=60000000000000) (a1:VV (r::u).length R R<=60000000000000) (X:0<=x) (h0:q=0) (hi:In u i) (J:AM u r*i=1) (hn:GJ u p l) {l2:LR} (Z:GJ u (p*i) l2):CF 247 [.one (.sl (.sl AA) T),.one (.sl AA A)] (.AI [(false,[.sl AA (([]:LR))]),(false,[.bool false])]):=by
 have az:T.length=u.length+1:=by rw[S,BN];rfl
 have ax:A.length=2^u.length+2^u.length:=by rw[Q,Aw hx.mem,BM]
 have K:=El.CK h;have hR:=h.hR;have aD:VV (r::u).length R s<=SS (r::u).length R s:=Gm u.length R s;have aC:s+II u.length R (TQ u.length R s+GG u.length R)+2*EE u.length R+2<=SS (r::u).length R s:=HQ u.length R s;have aB:=Eb (r::u).length R s;have aA:=Df u.length R (TQ u.length R s+GG u.length R);have ay:TQ u.length R s=3*s+4*EE u.length R+R+GG u.length R+3+II u.length R R:=rfl;have ai:=CT h.tail.ht;have Y:=K.inv h.tail hi J;refine AJ Tryz.func247 fun E f=>?_
 conv=>cbv
 rintro n31 ⟨aq,f31⟩;conv=>cbv
 intro n32 z;conv=>cbv
 cases n32 <;> conv=>cbv
 ·have N:=Ac z;obtain⟨aK,g⟩:=xI (AZ x);refine AB f (FJ h S Q hx (by omega) (by omega) a1 g) ?_;conv=>cbv
  intro a7 C;conv=>cbv
  cases a7 <;> conv=>cbv
  ·have O:=AW C;rintro aH ⟨ar,f48⟩;conv=>cbv
   intro a8 av;conv=>cbv
   refine AH ?_;intro aE ag;conv=>cbv
   refine AG ?_;intro V ae;conv=>cbv
   intro a2 F;conv=>cbv
   obtain⟨P,d⟩:=AL (l:=T) (i:=(T.length-1)) (by omega);refine⟨P,fun _=>⟨by omega,by rw[show (a8).toNat=(T.length-1) by omega];exact d⟩,?_⟩;try conv=>cbv
   refine g2 rfl ?_;rintro aI ⟨au,f58⟩;conv=>cbv
   intro aJ aw;conv=>cbv
   refine g2 ⟨by omega,by omega,i64 (by omega)⟩ ?_;intro aF ah;conv=>cbv
   refine AG ?_;intro W af;conv=>cbv
   intro a5 G;conv=>cbv
   intro aG I;conv=>cbv
   refine AG ?_;rintro U ao ⟨ad,D⟩;conv=>cbv
   intro a6 H;conv=>cbv
   refine g2 rfl ?_;have a:a2=tw u:=by rw[F,List.drop_zero,show V=T.length-1 by omega,S,Ci]
   have v:P=em u (AM u r):=by rw[S,EL] at d;exact (Option.some.inj d).symm.trans (DR h.red)
   have b:a5=em u p:=by rw[G,List.drop_zero,show W=A.length/2 by omega,Q,Br h.red hp.mem hq.mem M]
   have o:a6=em u q:=by rw[H,show U=A.length/2 by omega,D,I,List.take_length,Q,Bc h.red hp.mem hq.mem M]
   obtain⟨al,an,aj,ak,m⟩:=BP (((0:Int):Rat));refine AB f (D1 (by omega) rfl m) ?_;conv=>cbv
   obtain⟨aa,L⟩:=xR (em u (0));refine AB (r:= .one (.sl AA aa)) f (E3 h.tail a m (by rw[show Re.ofRat ((0:Int):Rat)=0 from rfl];exact L)) ?_;try conv=>cbv
   refine AB f (GL h.tail.red hq.mem o h0) ?_;conv=>cbv
   refine AB f (hn a b) ?_;conv=>cbv
   obtain⟨ab,j⟩:=xR (em u (i));refine AB (r:= .AI [(false,[.sl AA ab]),(false,[.int .i64 0])]) f (Kl h.tail a v K hi J (by have:=HO u.length R (s:=R) (t:=TQ u.length R s+GG u.length R) (by omega);omega) j) ?_;try conv=>cbv
   obtain⟨aL,k⟩:=xR (em u (p*i));refine AB f (C5 h.tail a b j hp Y (by omega) k) ?_;conv=>cbv
   refine AB f (Z a k) ?_;conv=>cbv
   exact AD ⟨⟨rfl,C7,trivial⟩,t2,trivial⟩
  have O:=AY C;exact (G5 g O X).elim
 have N:=Ae z;exact absurd N (by omega)
theorem Xz (h:Aa R (r::u)) (X:T=tw (r::u)) (W:A=em (r::u) x) (hx:El (r::u) s x) (P:x=p+q*rt u r) (F:El u s p) (v:El u s q) (hs:SS (r::u).length R s<=60000000000000) (a6:VV (r::u).length R R<=60000000000000) (a2:0<=x) (h0:q≠0) (hn:GJ u (p*p-q*q*AM u r) l):CF 247 [.one (.sl (.sl AA) T),.one (.sl AA A)] (.AI [(false,[.sl AA (([]:LR))]),(false,[.bool false])]):=by
 have aE:T.length=u.length+1:=by rw[X,BN];rfl
 have aC:A.length=2^u.length+2^u.length:=by rw[W,Aw hx.mem,BM]
 have N:=El.CK h;have hR:=h.hR;have aI:VV (r::u).length R s<=SS (r::u).length R s:=Gm u.length R s;have aH:s+II u.length R (TQ u.length R s+GG u.length R)+2*EE u.length R+2<=SS (r::u).length R s:=HQ u.length R s;have aG:=Eb (r::u).length R s;have aF:=Df u.length R (TQ u.length R s+GG u.length R);have aD:TQ u.length R s=3*s+4*EE u.length R+R+GG u.length R+3+II u.length R R:=rfl;have ak:=CT h.tail.ht;refine AJ Tryz.func247 fun E o=>?_
 conv=>cbv
 rintro n31 ⟨ax,f31⟩;conv=>cbv
 intro n32 G;conv=>cbv
 cases n32 <;> conv=>cbv
 ·have Q:=Ac G;obtain⟨aP,z⟩:=xI (AZ x);refine AB o (FJ h X W hx (by omega) (by omega) a6 z) ?_;conv=>cbv
  intro ab H;conv=>cbv
  cases ab <;> conv=>cbv
  ·have S:=AW H;rintro aM ⟨ay,f48⟩;conv=>cbv
   intro ad aA;conv=>cbv
   refine AH ?_;intro aJ ai;conv=>cbv
   refine AG ?_;intro Z ag;conv=>cbv
   intro a7 J;conv=>cbv
   obtain⟨V,m⟩:=AL (l:=T) (i:=(T.length-1)) (by omega);refine⟨V,fun _=>⟨by omega,by rw[show (ad).toNat=(T.length-1) by omega];exact m⟩,?_⟩;try conv=>cbv
   refine g2 rfl ?_;rintro aN ⟨az,f58⟩;conv=>cbv
   intro aO aB;conv=>cbv
   refine g2 ⟨by omega,by omega,i64 (by omega)⟩ ?_;intro aK aj;conv=>cbv
   refine AG ?_;intro a1 ah;conv=>cbv
   intro a8 K;conv=>cbv
   intro aL M;conv=>cbv
   refine AG ?_;rintro Y aw ⟨af,I⟩;conv=>cbv
   intro aa L;conv=>cbv
   refine g2 rfl ?_;have a:a7=tw u:=by rw[J,List.drop_zero,show Z=T.length-1 by omega,X,Ci]
   have D:V=em u (AM u r):=by rw[X,EL] at m;exact (Option.some.inj m).symm.trans (DR h.red)
   have d:a8=em u p:=by rw[K,List.drop_zero,show a1=A.length/2 by omega,W,Br h.red F.mem v.mem P]
   have b:aa=em u q:=by rw[L,show Y=A.length/2 by omega,I,M,List.take_length,W,Bc h.red F.mem v.mem P]
   obtain⟨au,av,aq,ar,C⟩:=BP (((0:Int):Rat));refine AB o (D1 (by omega) rfl C) ?_;conv=>cbv
   obtain⟨ae,O⟩:=xR (em u (0));refine AB (r:= .one (.sl AA ae)) o (E3 h.tail a C (by rw[show Re.ofRat ((0:Int):Rat)=0 from rfl];exact O)) ?_;try conv=>cbv
   refine AB o (Gp h.tail.red v.mem b h0) ?_;conv=>cbv
   obtain⟨al,f⟩:=xR (em u (p*p));refine AB o (C5 h.tail a d d F F (by omega) f) ?_;conv=>cbv
   obtain⟨an,g⟩:=xR (em u (q*q));refine AB o (C5 h.tail a b b v v (by omega) g) ?_;conv=>cbv
   obtain⟨ao,j⟩:=xR (em u (AM u r*(q*q)));refine AB o (C5 h.tail a D g N (v.mul h.tail v) (by omega) j) ?_;conv=>cbv
   obtain⟨U,k⟩:=xR (em u (p*p-AM u r*(q*q)));refine AB o (Km h.tail f j (F.mul h.tail F) (N.mul h.tail (v.mul h.tail v)) (by omega) (by omega) k) ?_;conv=>cbv
   have a5:U=em u (p*p-q*q*AM u r):=by rw[k,show p*p-AM u r*(q*q)=p*p-q*q*AM u r by grind]
   refine AB o (hn a a5) ?_;conv=>cbv
   refine Bu ?_;conv=>cbv
   exact AD ⟨⟨rfl,C7,trivial⟩,t2,trivial⟩
  have S:=AY H;exact (G5 z S a2).elim
 have Q:=Ae G;exact absurd Q (by omega)
theorem X4 (h:Aa R (r::u)) (hT:T=tw (r::u)) (hA:A=em (r::u) x) (hx:El (r::u) s x) (X:x=p+q*rt u r) (O:El u s p) (J:El u s q) (hs:SS (r::u).length R s<=60000000000000) (aE:VV (r::u).length R R<=60000000000000) (ay:0<=x) (h0:q≠0) (hn:In u n) (aB:n*n=p*p-q*q*AM u r) (ht:t=Re.ofRat (1/2)) (aI:GK u (p*p-q*q*AM u r) n) {y:Nat->Re} (aF:y 0=p+n) (aG:y 1=p-n) (aH:∀i,El u (s+(2*s+2*EE u.length R+R+1+GG u.length R)+1) (y i)) {L:Nat->LR} (hk:k0<=2) (aC:∀i,i<k0->GJ u (t*y i) (L i)) (U:k0=2):CF 247 [.one (.sl (.sl AA) T),.one (.sl AA A)] (.AI [(false,[.sl AA (([]:LR))]),(false,[.bool false])]):=by
 have bd:T.length=u.length+1:=by rw[hT,BN];rfl
 have bb:A.length=2^u.length+2^u.length:=by rw[hA,Aw hx.mem,BM]
 have ab:=El.CK h;have hR:=h.hR;have bm:VV (r::u).length R s<=SS (r::u).length R s:=Gm u.length R s;have bk:s+II u.length R (TQ u.length R s+GG u.length R)+2*EE u.length R+2<=SS (r::u).length R s:=HQ u.length R s;have bj:=Eb (r::u).length R s;have bh:=Df u.length R (TQ u.length R s+GG u.length R);have bc:TQ u.length R s=3*s+4*EE u.length R+R+GG u.length R+3+II u.length R R:=rfl;have aW:=CT h.tail.ht;have hN:=El.norm h O.mem J.mem (X ▸ hx);have aa:=hN.sqrt h.tail hn aB;have aD:El u 1 t:=by rw[ht];exact El.rat h.red.1 JO
 refine AJ Tryz.func247 fun E b=>?_
 conv=>cbv
 rintro n31 ⟨b6,f31⟩;conv=>cbv
 intro n32 Y;conv=>cbv
 cases n32 <;> conv=>cbv
 ·have af:=Ac Y;obtain⟨bu,P⟩:=xI (AZ x);refine AB b (FJ h hT hA hx (by omega) (by omega) aE P) ?_;conv=>cbv
  intro aJ Z;conv=>cbv
  cases aJ <;> conv=>cbv
  ·have ag:=AW Z;rintro br ⟨b7,f48⟩;conv=>cbv
   intro aK b9;conv=>cbv
   refine AH ?_;intro bo aU;conv=>cbv
   refine AG ?_;intro aw aS;conv=>cbv
   intro ah a2;conv=>cbv
   obtain⟨au,H⟩:=AL (l:=T) (i:=(T.length-1)) (by omega);refine⟨au,fun _=>⟨by omega,by rw[show (aK).toNat=(T.length-1) by omega];exact H⟩,?_⟩;try conv=>cbv
   refine g2 rfl ?_;rintro bs ⟨b8,f58⟩;conv=>cbv
   intro bt ba;conv=>cbv
   refine g2 ⟨by omega,by omega,i64 (by omega)⟩ ?_;intro bp aV;conv=>cbv
   refine AG ?_;intro ax aT;conv=>cbv
   intro ai a5;conv=>cbv
   intro bq a7;conv=>cbv
   refine AG ?_;rintro av b5 ⟨aR,a1⟩;conv=>cbv
   intro aj a6;conv=>cbv
   refine g2 rfl ?_;have a:ah=tw u:=by rw[a2,List.drop_zero,show aw=T.length-1 by omega,hT,Ci]
   have W:au=em u (AM u r):=by rw[hT,EL] at H;exact (Option.some.inj H).symm.trans (DR h.red)
   have d:ai=em u p:=by rw[a5,List.drop_zero,show ax=A.length/2 by omega,hA,Br h.red O.mem J.mem X]
   have f:aj=em u q:=by rw[a6,show av=A.length/2 by omega,a1,a7,List.take_length,hA,Bc h.red O.mem J.mem X]
   obtain⟨b3,b4,b1,b2,Q⟩:=BP (((0:Int):Rat));refine AB b (D1 (by omega) rfl Q) ?_;conv=>cbv
   obtain⟨aL,ad⟩:=xR (em u (0));refine AB (r:= .one (.sl AA aL)) b (E3 h.tail a Q (by rw[show Re.ofRat ((0:Int):Rat)=0 from rfl];exact ad)) ?_;try conv=>cbv
   refine AB b (Gp h.tail.red J.mem f h0) ?_;conv=>cbv
   obtain⟨aX,g⟩:=xR (em u (p*p));refine AB b (C5 h.tail a d d O O (by omega) g) ?_;conv=>cbv
   obtain⟨aY,j⟩:=xR (em u (q*q));refine AB b (C5 h.tail a f f J J (by omega) j) ?_;conv=>cbv
   obtain⟨aZ,o⟩:=xR (em u (AM u r*(q*q)));refine AB b (C5 h.tail a W j ab (J.mul h.tail J) (by omega) o) ?_;conv=>cbv
   obtain⟨an,v⟩:=xR (em u (p*p-AM u r*(q*q)));refine AB b (Km h.tail g o (O.mul h.tail O) (ab.mul h.tail (J.mul h.tail J)) (by omega) (by omega) v) ?_;conv=>cbv
   have az:an=em u (p*p-q*q*AM u r):=by rw[v,show p*p-AM u r*(q*q)=p*p-q*q*AM u r by grind]
   obtain⟨ao,z⟩:=xR (em u n);refine AB b (aI a az z) ?_;conv=>cbv
   refine Ai ?_;conv=>cbv
   obtain⟨aO,aP,aM,aN,I⟩:=BP ((1/2:Rat));refine AB b (Ke (by omega) (by omega) (by decide) (by decide +kernel) I) ?_;conv=>cbv
   obtain⟨S,C⟩:=xR (em u (t));refine AB (r:= .one (.sl AA S)) b (E3 h.tail a I (C.trans (by rw[ht]))) ?_;conv=>cbv
   refine .inr ?_;obtain⟨J0,K⟩:=xJ fun vs bl k=>∃(k':Nat) (m:Re) (M:LR) (i:Int),vs=[.one (.sl (.sl AA) ah),.one (.sl AA ai),.one (.sl AA aj),.one (.sl AA M),.one (.sl AA S),.one (.int .i64 i)]/\(AQ i k'/\k'<=2)/\(M=em u m/\m=if k'=1 then -n else n)/\k=2-k'
   refine⟨[],[9,12,13,22,24,25],[],J0,⟨2-0,by rw[K];exact⟨0,n,ao,0,rfl,⟨An 0,by omega⟩,⟨z,rfl⟩,rfl⟩⟩,?_⟩;intro vs bl bn hj;rw[K] at hj;obtain⟨k',m,M,i,rfl,⟨hi,bf⟩,⟨hM,V⟩,bg⟩:=hj;conv=>cbv
   have ei:=hi.eq;intro ak N;conv=>cbv
   cases ak <;> conv=>cbv
   ·have ae:=AW N;exact AD ⟨⟨rfl,C7,trivial⟩,t2,trivial⟩
   have ae:=AY N;refine .inr ?_;have U:k'=0\/k'=1:=by omega
   have a8:El u (2*s+2*EE u.length R+R+1+GG u.length R) m:=by rw[V];split;exact aa.neg h.red.1;exact aa
   have aA:p+m=y k':=by rcases U with e | e <;> rw[e,V,e] <;> first | (rw[aF];rfl) | (rw[aG];simp;grind)
   obtain⟨aq,D⟩:=xR (em u (y k'));refine AB (r:= .one (.sl AA aq)) b (HR h.tail d hM O a8 (by omega) (by omega) (D.trans (by rw[aA]))) ?_;conv=>cbv
   obtain⟨b0,F⟩:=xR (em u (t*y k'));refine AB b (C5 h.tail a C D aD (aH k') (by omega) F) ?_;conv=>cbv
   refine AB b (aC k' (by omega) a F) ?_;conv=>cbv
   obtain⟨ar,G⟩:=xR (em u (-m));refine AB b (H2 h.tail hM a8 G) ?_;conv=>cbv
   intro al aQ;conv=>cbv
   refine AH ?_;refine⟨2-(k'+1),?_,?_⟩
   ·omega
   rw[K];exact⟨k'+1,-m,ar,al,rfl,⟨⟨by omega⟩,by omega⟩,⟨G,by clear K;rcases U with e | e <;> rw[V,e] <;> first | rfl | (show- -n=n;grind)⟩,rfl⟩
  have ag:=AY Z;exact (G5 P ag ay).elim
 have af:=Ae Y;exact absurd af (by omega)
theorem X3 (h:Aa R (r::u)) (hT:T=tw (r::u)) (hA:A=em (r::u) x) (hx:El (r::u) s x) (hxe:x=p+q*rt u r) (hp:El u s p) (hq:El u s q) (hs:SS (r::u).length R s<=60000000000000) (hvR:VV (r::u).length R R<=60000000000000) (h0x:0<=x) (h0:q≠0) (hn:In u n) (hnn:n*n=p*p-q*q*AM u r) (ht:t=Re.ofRat (1/2)) (hyn:GK u (p*p-q*q*AM u r) n) {y:Nat->Re} (hy0:y 0=p+n) (hy1:y 1=p-n) (hyE:∀i,El u (s+(2*s+2*EE u.length R+R+1+GG u.length R)+1) (y i)) {L:Nat->LR} (hk:k0<=2) (hno:∀i,i<k0->GJ u (t*y i) (L i)) (hk1:k0<2) {j:Re} (hw:In u w) (hww:w*w=t*y k0) (hyw:GK u (t*y k0) w) (hj:In u j) (hwj:w*j=1) (hB:B=em (r::u) (w+t*(q*j)*rt u r)):CF 247 [.one (.sl (.sl AA) T),.one (.sl AA A)] (.AI [(false,[.sl AA B]),(false,[.bool true])]):=by
 have hTl:T.length=u.length+1:=by rw[hT,BN];rfl
 have hAl:A.length=2^u.length+2^u.length:=by rw[hA,Aw hx.mem,BM]
 have hrr:=El.CK h;have hR:=h.hR;have hsv:VV (r::u).length R s<=SS (r::u).length R s:=Gm u.length R s;have hsi:s+II u.length R (TQ u.length R s+GG u.length R)+2*EE u.length R+2<=SS (r::u).length R s:=HQ u.length R s;have hsg:=Eb (r::u).length R s;have hmn:=Df u.length R (TQ u.length R s+GG u.length R);have hTQ:TQ u.length R s=3*s+4*EE u.length R+R+GG u.length R+3+II u.length R R:=rfl;have hp16:=CT h.tail.ht;have hN:=El.norm h hp.mem hq.mem (hxe ▸ hx);have hnE:=hN.sqrt h.tail hn hnn;have htE:El u 1 t:=by rw[ht];exact El.rat h.red.1 JO
 have hhE:=htE.mul h.tail (hyE k0);have hwE:=hhE.sqrt h.tail hw hww;have hjE:=(hwE.mono (t:=TQ u.length R s+GG u.length R) (by omega)).inv h.tail hj hwj;refine AJ Tryz.func247 fun E hE=>?_
 conv=>cbv
 rintro n31 ⟨e31,f31⟩;conv=>cbv
 intro n32 h32;conv=>cbv
 cases n32 <;> conv=>cbv
 ·have k32:=Ac h32;obtain⟨r45,hr45⟩:=xI (AZ x);refine AB hE (FJ h hT hA hx (by omega) (by omega) hvR hr45) ?_;conv=>cbv
  intro n46 h46;conv=>cbv
  cases n46 <;> conv=>cbv
  ·have k46:=AW h46;rintro n48 ⟨e48,f48⟩;conv=>cbv
   intro n49 h49;conv=>cbv
   refine AH ?_;intro m52 hm52;conv=>cbv
   refine AG ?_;intro b52 hb52;conv=>cbv
   intro l52 hl52;conv=>cbv
   obtain⟨x55,hx55⟩:=AL (l:=T) (i:=(T.length-1)) (by omega);refine⟨x55,fun _=>⟨by omega,by rw[show (n49).toNat=(T.length-1) by omega];exact hx55⟩,?_⟩;try conv=>cbv
   refine g2 rfl ?_;rintro n58 ⟨e58,f58⟩;conv=>cbv
   intro n59 h59;conv=>cbv
   refine g2 ⟨by omega,by omega,i64 (by omega)⟩ ?_;intro m62 hm62;conv=>cbv
   refine AG ?_;intro b62 hb62;conv=>cbv
   intro l62 hl62;conv=>cbv
   intro m65 hm65;conv=>cbv
   refine AG ?_;rintro a65 b65 ⟨ha65,hb65⟩;conv=>cbv
   intro l65 hl65;conv=>cbv
   refine g2 rfl ?_;have hl52e:l52=tw u:=by rw[hl52,List.drop_zero,show b52=T.length-1 by omega,hT,Ci]
   have hx55e:x55=em u (AM u r):=by rw[hT,EL] at hx55;exact (Option.some.inj hx55).symm.trans (DR h.red)
   have hl62e:l62=em u p:=by rw[hl62,List.drop_zero,show b62=A.length/2 by omega,hA,Br h.red hp.mem hq.mem hxe]
   have hl65e:l65=em u q:=by rw[hl65,show a65=A.length/2 by omega,hb65,hm65,List.take_length,hA,Bc h.red hp.mem hq.mem hxe]
   obtain⟨zb67,zl67,yb67,yl67,hz67⟩:=BP (((0:Int):Rat));refine AB hE (D1 (by omega) rfl hz67) ?_;conv=>cbv
   obtain⟨w68,hw68⟩:=xR (em u (0));refine AB (r:= .one (.sl AA w68)) hE (E3 h.tail hl52e hz67 (by rw[show Re.ofRat ((0:Int):Rat)=0 from rfl];exact hw68)) ?_;try conv=>cbv
   refine AB hE (Gp h.tail.red hq.mem hl65e h0) ?_;conv=>cbv
   obtain⟨w104,hw104⟩:=xR (em u (p*p));refine AB hE (C5 h.tail hl52e hl62e hl62e hp hp (by omega) hw104) ?_;conv=>cbv
   obtain⟨w110,hw110⟩:=xR (em u (q*q));refine AB hE (C5 h.tail hl52e hl65e hl65e hq hq (by omega) hw110) ?_;conv=>cbv
   obtain⟨w111,hw111⟩:=xR (em u (AM u r*(q*q)));refine AB hE (C5 h.tail hl52e hx55e hw110 hrr (hq.mul h.tail hq) (by omega) hw111) ?_;conv=>cbv
   obtain⟨w112,hw112⟩:=xR (em u (p*p-AM u r*(q*q)));refine AB hE (Km h.tail hw104 hw111 (hp.mul h.tail hp) (hrr.mul h.tail (hq.mul h.tail hq)) (by omega) (by omega) hw112) ?_;conv=>cbv
   have hNe:w112=em u (p*p-q*q*AM u r):=by rw[hw112,show p*p-AM u r*(q*q)=p*p-q*q*AM u r by grind]
   obtain⟨w117,hw117⟩:=xR (em u n);refine AB hE (hyn hl52e hNe hw117) ?_;conv=>cbv
   refine Ai ?_;conv=>cbv
   obtain⟨zb122,zl122,yb122,yl122,hz122⟩:=BP ((1/2:Rat));refine AB hE (Ke (by omega) (by omega) (by decide) (by decide +kernel) hz122) ?_;conv=>cbv
   obtain⟨w123,hw123⟩:=xR (em u (t));refine AB (r:= .one (.sl AA w123)) hE (E3 h.tail hl52e hz122 (hw123.trans (by rw[ht]))) ?_;conv=>cbv
   refine .inr ?_;obtain⟨J0,hJ0⟩:=xJ fun vs bl k=>∃(k':Nat) (m:Re) (M:LR) (i:Int),vs=[.one (.sl (.sl AA) l52),.one (.sl AA l62),.one (.sl AA l65),.one (.sl AA M),.one (.sl AA w123),.one (.int .i64 i)]/\(AQ i k'/\k'<=k0)/\(M=em u m/\m=if k'=1 then -n else n)/\k=k0-k'
   refine⟨[],[9,12,13,22,24,25],[],J0,⟨k0-0,by rw[hJ0];exact⟨0,n,w117,0,rfl,⟨An 0,by omega⟩,⟨hw117,rfl⟩,rfl⟩⟩,?_⟩;intro vs bl kk0 hj;rw[hJ0] at hj;obtain⟨k',m,M,i,rfl,⟨hi,hik⟩,⟨hM,hmv⟩,hk0⟩:=hj;conv=>cbv
   have ei:=hi.eq;intro n125 h125;conv=>cbv
   cases n125 <;> conv=>cbv
   ·have k125:=AW h125;exact absurd k125 (by omega)
   have k125:=AY h125;refine .inr ?_;have hk2:k'=0\/k'=1:=by omega
   have hmE:El u (2*s+2*EE u.length R+R+1+GG u.length R) m:=by rw[hmv];split;exact hnE.neg h.red.1;exact hnE
   have hmy:p+m=y k':=by rcases hk2 with e | e <;> rw[e,hmv,e] <;> first | (rw[hy0];rfl) | (rw[hy1];simp;grind)
   obtain⟨w135,hw135⟩:=xR (em u (y k'));refine AB (r:= .one (.sl AA w135)) hE (HR h.tail hl62e hM hp hmE (by omega) (by omega) (hw135.trans (by rw[hmy]))) ?_;conv=>cbv
   obtain⟨w136,hw136⟩:=xR (em u (t*y k'));refine AB hE (C5 h.tail hl52e hw123 hw135 htE (hyE k') (by omega) hw136) ?_;conv=>cbv
   obtain⟨wl,bb,hcall,hbt,hbf⟩:∃(wl:LR) (bb:Bool),CF 247 [.one (.sl (.sl AA) l52),.one (.sl AA w136)] (.AI [(false,[.sl AA wl]),(false,[.bool bb])])/\(bb=true->k'=k0/\wl=em u w)/\(bb=false->k'<k0):=by
    by_cases e:k'<k0
    ·exact⟨L k',false,hno k' e hl52e hw136,fun e=>(Bool.false_ne_true e).elim,fun _=>e⟩
    have e2:k'=k0:=by omega
    exact⟨em u w,true,hyw hl52e (hw136.trans (by rw[e2])) rfl,fun _=>⟨e2,rfl⟩,fun e=>(Bool.noConfusion e)⟩
   refine AB hE hcall ?_;conv=>cbv
   cases bb <;> conv=>cbv
   ·have hkl:=hbf rfl;obtain⟨w158,hw158⟩:=xR (em u (-m));refine AB hE (H2 h.tail hM hmE hw158) ?_;conv=>cbv
    intro n127 h127;conv=>cbv
    refine AH ?_;refine⟨k0-(k'+1),?_,?_⟩
    ·omega
    rw[hJ0];exact⟨k'+1,-m,w158,n127,rfl,⟨⟨by omega⟩,by omega⟩,⟨hw158,by clear hJ0;rcases hk2 with e | e <;> rw[hmv,e] <;> first | rfl | (show- -n=n;grind)⟩,rfl⟩
   obtain⟨hke,hwl⟩:=hbt rfl;subst hke;obtain⟨w144,hw144⟩:=xR (em u (j));refine AB hE (Kl h.tail hl52e hwl (hwE.mono (t:=TQ u.length R s+GG u.length R) (by omega)) hj hwj (by omega) hw144) ?_;conv=>cbv
   obtain⟨w153,hw153⟩:=xR (em u (q*j));refine AB hE (C5 h.tail hl52e hl65e hw144 hq hjE (by omega) hw153) ?_;conv=>cbv
   obtain⟨w154,hw154⟩:=xR (em u (t*(q*j)));refine AB hE (C5 h.tail hl52e hw123 hw153 htE (hq.mul h.tail hjE) (by omega) hw154) ?_;conv=>cbv
   have htq:=htE.mul h.tail (hq.mul h.tail hjE);have hBj:B=wl++w154:=by rw[hB,hwl,hw154];exact D6 h.red hw htq.mem rfl
   refine AB (r:= .one (.sl AA B)) hE (Ms (by rw[hwl,Aw hw];omega) (by rw[hw154,Aw htq.mem];omega) hBj) ?_;try conv=>cbv
   exact AD ⟨t2,t2,trivial⟩
  have k46:=AY h46;exact (G5 hr45 k46 h0x).elim
 have k32:=Ae h32;exact absurd k32 (by omega)
end Go.Abs
