/- Part 21 of a proof. Conditions: each theorem's own. -/
import Derived.Test.YtmhbikooakmagaaGreatRk19
set_option linter.all false
set_option maxHeartbeats 8000000
set_option maxRecDepth 20000
open Go.Proofs
namespace Go.Abs
open Go.RowKit
variable {A B:LR} {R s zn:Nat} {T:List LR} {c:Int} {i p q x y:Re} {r:List Rat} {u:List (List Rat)}
theorem UA {C:LR} (h:Ae R (r::u)) (hT:T=tw (r::u)) (H:A=em (r::u) x) (hx:El (r::u) s x) (f:x=p+q*rt u r) (g:El u s p) (d:El u s q) (hb:2*s+2*EE u.length R+R+1<=60000000000000) (hC:C=em u (p*p-q*q*AM u r)):CF 291 [.one (.sl (.sl AA) T),.one (.sl AA A)] (.one (.sl AA C)):=by
 have av:T.length=u.length+1:=by rw[hT,Bb];rfl
 have au:A.length=2^u.length+2^u.length:=by rw[H,BJ hx.mem,Bk]
 have S:=El.Cv h;have hR:=h.hR;refine AJ Tryz.func291 fun E V=>?_
 conv=>cbv
 rintro n9 ⟨e9,f9⟩;conv=>cbv
 intro aB ao;conv=>cbv
 refine g2 ⟨by omega,by omega,i64 (by omega)⟩ ?_;rintro aC ⟨al,f13⟩;conv=>cbv
 intro aD aq;conv=>cbv
 refine AI ?_;intro aw ag;conv=>cbv
 refine AH ?_;intro Y ad;conv=>cbv
 intro a2 K;conv=>cbv
 rintro n18 ⟨an,f18⟩;conv=>cbv
 intro n19 ar;conv=>cbv
 refine AI ?_;obtain⟨U,b⟩:=AK (l:=T) (i:=(T.length-1)) (by omega);refine⟨U,fun _=>⟨by omega,by rw[show (n19).toNat=(T.length-1) by omega];exact b⟩,?_⟩;try conv=>cbv
 refine g2 rfl ?_;intro ax ah;conv=>cbv
 refine AH ?_;intro Z ae;conv=>cbv
 intro a5 L;conv=>cbv
 intro ay ai;conv=>cbv
 refine AH ?_;intro a1 af;conv=>cbv
 intro a6 M;conv=>cbv
 have a:a2=tw u:=by rw[K,List.drop_zero,show Y=T.length-1 by omega,hT,DT]
 have v:a5=em u p:=by rw[L,List.drop_zero,show Z=A.length/2 by omega,H,CM h.red g.mem d.mem f]
 have z:a6=em u p:=by rw[M,List.drop_zero,show a1=A.length/2 by omega,H,CM h.red g.mem d.mem f]
 obtain⟨aE,j⟩:=xR (em u (p*p));refine AB V (Dp h.tail a v z g g (by omega) j) ?_;conv=>cbv
 intro az P;conv=>cbv
 refine AH ?_;rintro W aj ⟨aa,I⟩;conv=>cbv
 intro a7 N;conv=>cbv
 intro aA Q;conv=>cbv
 refine AH ?_;rintro X ak ⟨ab,J⟩;conv=>cbv
 intro a8 O;conv=>cbv
 have D:a7=em u q:=by rw[N,show W=A.length/2 by omega,I,P,List.take_length,H,CA h.red g.mem d.mem f]
 have F:a8=em u q:=by rw[O,show X=A.length/2 by omega,J,Q,List.take_length,H,CA h.red g.mem d.mem f]
 obtain⟨aF,k⟩:=xR (em u (q*q));refine AB V (Dp h.tail a D F d d (by omega) k) ?_;conv=>cbv
 have G:U=em u (AM u r):=by rw[hT,E5] at b;exact (Option.some.inj b).symm.trans (EG h.red)
 obtain⟨aG,m⟩:=xR (em u (q*q*AM u r));refine AB V (Dp h.tail a k G (d.mul h.tail d) S (by omega) m) ?_;conv=>cbv
 obtain⟨aH,o⟩:=xR (em u (p*p-q*q*AM u r));refine AB V (NJ h.tail j m (g.mul h.tail g) ((d.mul h.tail d).mul h.tail S) (by omega) (by omega) o) ?_;conv=>cbv
 refine g2 rfl ?_;exact AD ⟨⟨rfl,congrArg _ (by rw[hC,o]),trivial⟩,trivial⟩
def Pd (R:Nat) (u:List (List Rat)):Prop:=∀{T:List LR} {A B:LR} {zn s:Nat} {x y:Re},T=tw u->A=em u x->El u s x->In u y->x*y=1->II u.length R s<=60000000000000->B=em u y->zn=B.length->
 CF 219 [.one (.sl (.sl AA) T),.one (.sl AA A)] (.AG [(false,[.own AA B zn]),(false,[.int .i64 0])])
theorem dP {p q:Rat} (Q:T=[]) (G:A=[rp p]) (N:B=[rp q]) (h:p≠0) (H:q=1/p) (I:zn=B.length):CF 219 [.one (.sl (.sl AA) T),.one (.sl AA A)] (.AG [(false,[.own AA B zn]),(false,[.int .i64 0])]):=by
 refine AJ Tryz.func219 fun E P=>?_
 conv=>cbv
 rintro U ⟨D,f13⟩;conv=>cbv
 intro K f;conv=>cbv
 cases K <;> conv=>cbv
 ·have k:=Ah f;exact absurd (by rw[D,Q];rfl) k
 have k:=Aj f;have O:A.length=1:=by rw[G];rfl
 obtain⟨m,a⟩:=AK (l:=A) (i:=0) (by omega);refine⟨m,fun _=>⟨by omega,a⟩,?_⟩;try conv=>cbv
 have j:=Eh G a;rintro n20 ⟨F,f20⟩;conv=>cbv
 have M:n20=((List.length (α:=UInt32) m.1.2:Nat):Int):=F;intro n21 g;conv=>cbv
 cases n21 <;> conv=>cbv
 ·have J:=Ah g;obtain⟨L,b⟩:=AK (l:=A) (i:=0) (by omega);refine⟨L,fun _=>⟨by omega,b⟩,?_⟩;try conv=>cbv
  have S:=Eh G b;obtain⟨z,C,o,v,d⟩:=Be q;refine AB P (cY S h H d) ?_;conv=>cbv
  refine⟨[((z,C),(o,v))],fun _=>⟨rfl,by decide,rfl,⟨rfl,by first | exact t1 | exact t2 | exact t4 | simp[Ao,BA,cells],trivial⟩⟩,.inl ?_⟩;try conv=>cbv
  exact AD ⟨⟨rfl,.inr (.inl ⟨_,_,by decide,rfl,rfl,rfl,rfl,C5 (by rw[N,d.rp]) (by rw[I,N];rfl)⟩),trivial⟩,t2,trivial⟩
 have J:=Aj g;exact absurd (Rat.num_eq_zero.1 (j.num.FF.1 (by omega))) h
theorem dR {y:Re} (h:Ae R (r::u)) (ih:Pd R u) (hT:T=tw (r::u)) (U:A=em (r::u) x) (hx:El (r::u) s x) (M:x=p+q*rt u r) (V:El u s p) (X:El u s q) (h0:q=0) (hi:In u i) (W:p*i=1) (hs:II (r::u).length R s<=60000000000000) (hB:B=em (r::u) i) (Y:zn=B.length):CF 219 [.one (.sl (.sl AA) T),.one (.sl AA A)] (.AG [(false,[.own AA B zn]),(false,[.int .i64 0])]):=by
 have az:T.length=u.length+1:=by rw[hT,Bb];rfl
 have ax:A.length=2^u.length+2^u.length:=by rw[U,BJ hx.mem,Bk]
 have ay:II (r::u).length R s=s+EE u.length R+II u.length R (2*s+2*EE u.length R+R+1):=rfl;have ag:=Iy u.length R (s:=s) (t:=2*s+2*EE u.length R+R+1) (by omega);refine AJ Tryz.func219 fun E O=>?_
 conv=>cbv
 rintro aD ⟨aq,f13⟩;conv=>cbv
 intro a5 D;conv=>cbv
 cases a5 <;> conv=>cbv
 ·have N:=Ah D;rintro n28 ⟨ar,f28⟩;conv=>cbv
  intro n29 av;conv=>cbv
  refine g2 ⟨by omega,by omega,i64 (by omega)⟩ ?_;rintro n32 ⟨au,f32⟩;conv=>cbv
  intro n33 aw;conv=>cbv
  refine AI ?_;intro aA ae;conv=>cbv
  refine AH ?_;intro Q a8;conv=>cbv
  intro Z G;conv=>cbv
  intro aB K;conv=>cbv
  refine AH ?_;rintro P ao ⟨a7,F⟩;conv=>cbv
  intro a1 H;conv=>cbv
  have v:a1=em u q:=by rw[H,show P=A.length/2 by omega,F,K,List.take_length,U,CA h.red V.mem X.mem M]
  refine AB O (Hc h.tail.red X.mem v h0) ?_;conv=>cbv
  intro aC af;conv=>cbv
  refine AH ?_;intro S aa;conv=>cbv
  intro a2 I;conv=>cbv
  have a:Z=tw u:=by rw[G,List.drop_zero,show Q=T.length-1 by omega,hT,DT]
  have z:a2=em u p:=by rw[I,List.drop_zero,show S=A.length/2 by omega,U,CM h.red V.mem X.mem M]
  obtain⟨j,b⟩:=xR (em u i);obtain⟨ai,d⟩:=xN j.length;refine AB O (ih a z V hi W (by omega) b d) ?_;conv=>cbv
  refine AU ?_;conv=>cbv
  obtain⟨al,an,aj,ak,m⟩:=Be (((0:Int):Rat));refine AB O (Ej (by omega) rfl m) ?_;conv=>cbv
  obtain⟨g,f⟩:=xR (em u (0));refine AB (r:= .one (.sl AA g)) O (F4 h.tail a m (by rw[show Re.ofRat ((0:Int):Rat)=0 from rfl];exact f)) ?_;try conv=>cbv
  have ab:j.length=2^u.length:=by rw[b,BJ hi]
  have ad:g.length=2^u.length:=by rw[f,BJ (Bx u)]
  have ah:=DD h.tail.ht;refine .inl ⟨g,fun _=>⟨rfl,d,rfl,by show (j.length+g.length)*64<=140737488355328;(try simp only[List.length_take,List.length_drop]);omega⟩,?_⟩;intro (C:LR) a6 o;have J:C=(j:LR)++(g:LR):=o.1;have L:a6=List.length (α:=(el AA)) C:=o.2;conv=>cbv
  have k:B=C:=by rw[hB,J,b,f];exact En h.red hi (Bx u) (by clear ih;grind)
  exact AD ⟨⟨rfl,.inr (.inl ⟨_,_,by decide,rfl,rfl,L,rfl,C5 (k) (by rw[Y,k])⟩),trivial⟩,t2,trivial⟩
 have N:=Aj D;exact absurd N (by omega)
theorem dQ (h:Ae R (r::u)) (ih:Pd R u) (hT:T=tw (r::u)) (N:A=em (r::u) x) (hx:El (r::u) s x) (k:x=p+q*rt u r) (C:El u s p) (m:El u s q) (h0:q≠0) (hi:In u i) (O:(p*p-q*q*AM u r)*i=1) (hy:y=p*i+ -q*i*rt u r) (hs:II (r::u).length R s<=60000000000000) (hB:B=em (r::u) y) (ab:zn=B.length):CF 219 [.one (.sl (.sl AA) T),.one (.sl AA A)] (.AG [(false,[.own AA B zn]),(false,[.int .i64 0])]):=by
 have aI:T.length=u.length+1:=by rw[hT,Bb];rfl
 have aG:A.length=2^u.length+2^u.length:=by rw[N,BJ hx.mem,Bk]
 have aH:II (r::u).length R s=s+EE u.length R+II u.length R (2*s+2*EE u.length R+R+1):=rfl;have hN:=El.norm h C.mem m.mem (k ▸ hx);have b:=hN.inv h.tail hi O;have aw:=ET u.length R (2*s+2*EE u.length R+R+1);have a1:=(m.neg h.red.1).mul h.tail b;refine AJ Tryz.func219 fun E L=>?_
 conv=>cbv
 rintro aN ⟨aB,f13⟩;conv=>cbv
 intro ah M;conv=>cbv
 cases ah <;> conv=>cbv
 ·have a5:=Ah M;rintro n28 ⟨aC,f28⟩;conv=>cbv
  intro n29 aE;conv=>cbv
  refine g2 ⟨by omega,by omega,i64 (by omega)⟩ ?_;rintro n32 ⟨aD,f32⟩;conv=>cbv
  intro n33 aF;conv=>cbv
  refine AI ?_;intro aJ au;conv=>cbv
  refine AH ?_;intro a8 al;conv=>cbv
  intro ad S;conv=>cbv
  intro aK Y;conv=>cbv
  refine AH ?_;rintro a6 az ⟨aj,P⟩;conv=>cbv
  intro ae U;conv=>cbv
  have H:ae=em u q:=by rw[U,show a6=A.length/2 by omega,P,Y,List.take_length,N,CA h.red C.mem m.mem k]
  refine AB L (H7 h.tail.red m.mem H h0) ?_;conv=>cbv
  have a:ad=tw u:=by rw[S,List.drop_zero,show a8=T.length-1 by omega,hT,DT]
  obtain⟨aO,D⟩:=xR (em u (p*p-q*q*AM u r));refine AB L (UA h hT N hx k C m (by omega) D) ?_;conv=>cbv
  obtain⟨aP,d⟩:=xR (em u i);refine AB L (C8 (ih a D hN hi O (by omega) d rfl)) ?_;conv=>cbv
  refine AU ?_;conv=>cbv
  intro aL av;conv=>cbv
  refine AH ?_;intro aa an;conv=>cbv
  intro af V;conv=>cbv
  have I:af=em u p:=by rw[V,List.drop_zero,show aa=A.length/2 by omega,N,CM h.red C.mem m.mem k]
  obtain⟨o,f⟩:=xR (em u (p*i));obtain⟨ay,g⟩:=xN o.length;refine AB L (ar h.tail a I d C b (by omega) f g) ?_;conv=>cbv
  intro aM Z;conv=>cbv
  refine AH ?_;rintro a7 aA ⟨ak,Q⟩;conv=>cbv
  intro ag W;conv=>cbv
  have J:ag=em u q:=by rw[W,show a7=A.length/2 by omega,Q,Z,List.take_length,N,CA h.red C.mem m.mem k]
  obtain⟨aQ,F⟩:=xR (em u (-q));refine AB L (Jp h.tail J m F) ?_;conv=>cbv
  obtain⟨v,j⟩:=xR (em u (-q*i));refine AB L (Dp h.tail a F d (m.neg h.red.1) b (by omega) j) ?_;conv=>cbv
  have ao:o.length=2^u.length:=by rw[f,BJ (C.mul h.tail b).mem]
  have aq:v.length=2^u.length:=by rw[j,BJ a1.mem]
  have ax:=DD h.tail.ht;refine .inl ⟨v,fun _=>⟨rfl,g,rfl,by show (o.length+v.length)*64<=140737488355328;(try simp only[List.length_take,List.length_drop]);omega⟩,?_⟩;intro (K:LR) ai G;have X:K=(o:LR)++(v:LR):=G.1;have a2:ai=List.length (α:=(el AA)) K:=G.2;conv=>cbv
  refine g2 rfl ?_;have z:B=K:=by rw[hB,X,f,j];exact En h.red (C.mul h.tail b).mem a1.mem hy
  exact AD ⟨⟨rfl,.inr (.inl ⟨_,_,by decide,rfl,rfl,a2,rfl,C5 (z) (by rw[ab,z])⟩),trivial⟩,t2,trivial⟩
 have a5:=Aj M;exact absurd a5 (by omega)
theorem oV (h:Ae R u):Pd R u:=by
 induction u with
 | nil=>
  intro T A B zn s x y C j g I b hs k f;obtain⟨p,rfl⟩:=CN.1 g.mem;obtain⟨q,rfl⟩:=CN.1 I;rw[Dx] at j k;rw[<-Re.ofRat_mul] at b;have e:=Re.E0.1 b;exact dP C j k (by intro J;subst J;grind) (by grind) f
 | cons r u d=>
  intro T A B zn s x y C j g I b hs k f;obtain⟨p,q,a,o,D⟩:=El.parts h.red g;have N:=Cb h.red;have L:(0:Re)<1:=Re.HO.2 (show (0:Rat)<1 by decide)
  by_cases z:q=0
  ·have G:p≠0:=by intro e;rw[e,z] at a;rw[a] at b;clear d;grind
   obtain⟨i,hi,v⟩:=Eg h.red.1 o.mem G
   have H:y=i:=by
    have:y=i*(x*y):=by
     have K:x=p:=by rw[a,z];clear d;grind
     rw[K];have:i*(p*y)=y*(p*i):=by clear d;grind
     rw[this,v];clear d;grind
    rw[b] at this;clear d;grind
   exact dR (y:=y) h (d h.tail) C j g a o D z hi v hs (H ▸ k) f
  have M:=El.norm h o.mem D.mem (a ▸ g);have F:p*p-q*q*AM u r≠0:=Xs h.red o.mem D.mem (by intro e;rw[<-a] at e;rw[e] at b;clear d;grind);obtain⟨i,hi,m⟩:=Eg h.red.1 M.mem F;refine dQ h (d h.tail) C j g a o D z hi m ?_ hs k f
  have:y=x*y*((p-q*rt u r)*i):=by
   have:x*y*((p-q*rt u r)*i)=y*((p*p-q*q*AM u r)*i):=by rw[a];clear d;grind
   rw[this,m];clear d;grind
  rw[b] at this
  clear d;grind
theorem NI (h:Ae R u) (f:T=tw u) (b:A=em u x) (g:El u s x) (j:In u y) (a:x*y=1) (hs:II u.length R s<=60000000000000) (d:B=em u y):
 CF 219 [.one (.sl (.sl AA) T),.one (.sl AA A)] (.AG [(false,[.sl AA B]),(false,[.int .i64 0])]):=C8 (oV h f b g j a hs d rfl)
theorem dN (D:T=[]) (z:A=[rp 0]):CF 219 [.one (.sl (.sl AA) T),.one (.sl AA A)] (.AG [(false,[.sl AA (([]:LR))]),(false,[.int .i64 6])]):=by
 refine AJ Tryz.func219 fun E G=>?_
 conv=>cbv
 rintro F ⟨m,f13⟩;conv=>cbv
 intro v d;conv=>cbv
 cases v <;> conv=>cbv
 ·have h:=Ah d;exact absurd (by rw[m,D];rfl) h
 have h:=Aj d;have C:A.length=1:=by rw[z];rfl
 obtain⟨k,a⟩:=AK (l:=A) (i:=0) (by omega);refine⟨k,fun _=>⟨by omega,a⟩,?_⟩;try conv=>cbv
 have g:=Eh z a;rintro n20 ⟨o,f20⟩;conv=>cbv
 have b:n20=((List.length (α:=UInt32) k.1.2:Nat):Int):=o;intro n21 f;conv=>cbv
 cases n21 <;> conv=>cbv
 ·have j:=Ah f;exact absurd (by rw[b,g.num.FF.2 rfl];rfl) j
 have j:=Aj f;exact AD ⟨⟨rfl,Bj,trivial⟩,t2,trivial⟩
theorem dO (h:Ae R (r::u)) (ih:∀{T A},T=tw u->A=em u 0->CF 219 [.one (.sl (.sl AA) T),.one (.sl AA A)] (.AG [(false,[.sl AA []]),(false,[.int .i64 6])])) (M:T=tw (r::u)) (G:A=em (r::u) 0):CF 219 [.one (.sl (.sl AA) T),.one (.sl AA A)] (.AG [(false,[.sl AA (([]:LR))]),(false,[.int .i64 6])]):=by
 have hx:El (r::u) 0 0:=El.rat h.red Hf;have f:(0:Re)=0+0*rt u r:=by grind
 have a2:T.length=u.length+1:=by rw[M,Bb];rfl
 have a1:A.length=2^u.length+2^u.length:=by rw[G,BJ hx.mem,Bk]
 refine AJ Tryz.func219 fun E L=>?_
 conv=>cbv
 rintro a8 ⟨V,f13⟩;conv=>cbv
 intro K g;conv=>cbv
 cases K <;> conv=>cbv
 ·have z:=Ah g;rintro n28 ⟨W,f28⟩;conv=>cbv
  intro n29 Y;conv=>cbv
  refine g2 ⟨by omega,by omega,i64 (by omega)⟩ ?_;rintro n32 ⟨X,f32⟩;conv=>cbv
  intro n33 Z;conv=>cbv
  refine AI ?_;intro a5 Q;conv=>cbv
  refine AH ?_;intro D O;conv=>cbv
  intro H k;conv=>cbv
  intro a6 v;conv=>cbv
  refine AH ?_;rintro C U ⟨N,j⟩;conv=>cbv
  intro I m;conv=>cbv
  have b:I=em u 0:=by rw[m,show C=A.length/2 by omega,j,v,List.take_length,G,CA h.red (Bx u) (Bx u) f]
  refine AB L (Hc h.tail.red (Bx u) b rfl) ?_;conv=>cbv
  intro a7 S;conv=>cbv
  refine AH ?_;intro F P;conv=>cbv
  intro J o;conv=>cbv
  have a:H=tw u:=by rw[k,List.drop_zero,show D=T.length-1 by omega,M,DT]
  have d:J=em u 0:=by rw[o,List.drop_zero,show F=A.length/2 by omega,G,CM h.red (Bx u) (Bx u) f]
  refine AB L (ih a d) ?_;conv=>cbv
  refine Bc ?_;conv=>cbv
  exact AD ⟨⟨rfl,Bj,trivial⟩,t2,trivial⟩
 have z:=Aj g;exact absurd z (by omega)
theorem Tz:∀{u:List (List Rat)} {R:Nat},Ae R u->∀{T A},T=tw u->A=em u 0->CF 219 [.one (.sl (.sl AA) T),.one (.sl AA A)] (.AG [(false,[.sl AA []]),(false,[.int .i64 6])])
 | [],R,h=>fun b a=>dN b (a.trans (Dx 0))
 | r::u,R,h=>fun b a=>dO h (Tz h.tail) b a
def Tu (R:Nat) (u:List (List Rat)):Prop:=∀{T:List LR} {A:LR} {s:Nat} {x:Re} {c:Int},T=tw u->A=em u x->El u s x->VV u.length R s<=60000000000000->c=An x->
 CF 292 [.one (.sl (.sl AA) T),.one (.sl AA A)] (.one (.int .i64 c))
theorem dw {p:Rat} (v:T=[]) (k:A=[rp p]) (z:c=DR p):CF 292 [.one (.sl (.sl AA) T),.one (.sl AA A)] (.one (.int .i64 c)):=by
 refine AJ Tryz.func292 fun E o=>?_
 conv=>cbv
 rintro C ⟨g,f11⟩;conv=>cbv
 intro h d;conv=>cbv
 cases h <;> conv=>cbv
 ·have f:=Ah d;exact absurd (by rw[g,v];rfl) f
 have f:=Aj d;have m:A.length=1:=by rw[k];rfl
 obtain⟨j,b⟩:=AK (l:=A) (i:=0) (by omega);refine⟨j,fun _=>⟨by omega,b⟩,?_⟩;try conv=>cbv
 obtain⟨D,a⟩:=xI (DR p);refine AB o (Tp (Eh k b) a) ?_;conv=>cbv
 exact AD ⟨⟨rfl,congrArg _ (z.trans a.symm),trivial⟩,trivial⟩
theorem dx (h:Ae R (r::u)) (ih:Tu R u) (L:T=tw (r::u)) (Y:A=em (r::u) x) (hx:El (r::u) s x) (hs:VV (r::u).length R s<=60000000000000) (hc:c=An x):CF 292 [.one (.sl (.sl AA) T),.one (.sl AA A)] (.one (.int .i64 c)):=by
 obtain⟨p,q,d,V,W⟩:=El.parts h.red hx;have aD:T.length=u.length+1:=by rw[L,Bb];rfl
 have aC:A.length=2^u.length+2^u.length:=by rw[Y,BJ hx.mem,Bk]
 have aF:VV (r::u).length R s=VV u.length R (2*s+2*EE u.length R+R+1):=rfl;have aG:=FU u.length R (2*s+2*EE u.length R+R+1);have aE:=HY u.length R (s:=s) (t:=2*s+2*EE u.length R+R+1) (by omega);have hN:=El.norm h V.mem W.mem (d ▸ hx);have g:=ZK h.red;have a8:=Cb h.red;refine AJ Tryz.func292 fun E Z=>?_
 conv=>cbv
 rintro aL ⟨av,f11⟩;conv=>cbv
 intro ag G;conv=>cbv
 cases ag <;> conv=>cbv
 ·have X:=Ah G;rintro n18 ⟨aw,f18⟩;conv=>cbv
  intro n19 az;conv=>cbv
  refine AI ?_;rintro n22 ⟨ax,f22⟩;conv=>cbv
  intro n23 aA;conv=>cbv
  refine g2 ⟨by omega,by omega,i64 (by omega)⟩ ?_;intro aH an;conv=>cbv
  refine AH ?_;intro a2 ai;conv=>cbv
  intro aa N;conv=>cbv
  rintro n27 ⟨ay,f27⟩;conv=>cbv
  intro n28 aB;conv=>cbv
  refine g2 ⟨by omega,by omega,i64 (by omega)⟩ ?_;intro aI U;conv=>cbv
  refine AH ?_;rintro a1 au ⟨ah,M⟩;conv=>cbv
  intro ab O;conv=>cbv
  refine g2 rfl ?_;intro m32 ao;conv=>cbv
  refine AH ?_;intro a5 aj;conv=>cbv
  intro ad P;conv=>cbv
  have o:ad=tw u:=by rw[P,List.drop_zero,show a5=T.length-1 by omega,L,DT]
  have k:aa=em u p:=by rw[N,List.drop_zero,show a2=A.length/2 by omega,Y,CM h.red V.mem W.mem d]
  obtain⟨aM,a⟩:=xI (An p);refine AB Z (ih o k V (by omega) a) ?_;conv=>cbv
  intro aJ aq;conv=>cbv
  refine AH ?_;intro a6 ak;conv=>cbv
  intro ae Q;conv=>cbv
  have v:ae=tw u:=by rw[Q,List.drop_zero,show a6=T.length-1 by omega,L,DT]
  have m:ab=em u q:=by rw[O,show a1=A.length/2 by omega,M,U,List.take_length,Y,CA h.red V.mem W.mem d]
  obtain⟨aN,b⟩:=xI (An q);refine AB Z (ih v m W (by omega) b) ?_;conv=>cbv
  refine g2 rfl ?_;intro n41 H;conv=>cbv
  cases n41 <;> conv=>cbv
  ·have C:=Ah H;intro n45 I;conv=>cbv
   cases n45 <;> conv=>cbv
   ·have D:=Ah I;intro n49 J;conv=>cbv
    cases n49 <;> conv=>cbv
    ·have F:=Ah J;intro aK ar;conv=>cbv
     refine AH ?_;intro a7 al;conv=>cbv
     intro af S;conv=>cbv
     have z:af=tw u:=by rw[S,List.drop_zero,show a7=T.length-1 by omega,L,DT]
     obtain⟨aP,j⟩:=xR (em u (p*p-q*q*AM u r));refine AB Z (UA h L Y hx d V W (by omega) j) ?_;conv=>cbv
     obtain⟨aO,f⟩:=xI (An (p*p-q*q*AM u r));refine AB Z (ih z j hN (by omega) f) ?_;conv=>cbv
     intro n59 K;conv=>cbv
     refine⟨fun _=>by rw[K,a,f];exact ZZ _ _,?_⟩;refine g2 rfl ?_;exact AD ⟨⟨rfl,congrArg _ (by rw[hc,K,a,f,d];exact Zb g a8 (fun e=>F (by rw[a,e];exact EZ)) (fun e=>C (by rw[b,e];exact EZ)) (by rw[<-a,<-b];exact D)),trivial⟩,trivial⟩
    have F:=Aj J;exact AD ⟨⟨rfl,congrArg _ (by rw[hc,b,d];exact Zc g (EP.1 (a ▸ F))),trivial⟩,trivial⟩
   have D:=Aj I;exact AD ⟨⟨rfl,congrArg _ (by rw[hc,a,d];exact Ov g (.inr (by rw[<-a,<-b];exact D))),trivial⟩,trivial⟩
  have C:=Aj H;exact AD ⟨⟨rfl,congrArg _ (by rw[hc,a,d];exact Ov g (.inl (EP.1 (b ▸ C)))),trivial⟩,trivial⟩
 have X:=Aj G;exact absurd X (by omega)
theorem S4 (h:Ae R u):Tu R u:=by
 induction u with
 | nil=>
  intro T A s x c b a f hs d;obtain⟨p,rfl⟩:=CN.1 f.mem;rw[Dx] at a;exact dw b a (d.trans (Gv p))
 | cons r u g=>
  intro T A s x c b a f hs d;exact dx h (g h.tail) b a f hs d
end Go.Abs
namespace Go.Abs
open Go.RowKit
variable {A:LR} {R s:Nat} {T:List LR} {c:Int} {u:List (List Rat)} {x:Re}
theorem cO (h:Ae R u) (d:T=tw u) (a:A=em u x) (g:El u s x) (hs:VV u.length R s<=60000000000000) (f:c=An x):CF 220 [.one (.sl (.sl AA) T),.one (.sl AA A)] (.one (.int .i64 c)):=by
 refine AJ Tryz.func220 fun E b=>?_
 conv=>cbv
 refine AB b (S4 h d a g hs f) ?_;conv=>cbv
 exact AD ⟨t2,trivial⟩
theorem cu (h:Ae R u) (G:T=tw u) (hs:VV u.length R R<=60000000000000):CF 318 [.one (.sl (.sl AA) T)] (.one (.bool true)):=by
 have X:T.length=u.length:=by rw[G,Bb]
 refine AJ Tryz.func318 fun E O=>?_
 conv=>cbv
 refine AB O (Tt h G) ?_;conv=>cbv
 refine AU ?_;conv=>cbv
 refine .inr ?_;obtain⟨U,d⟩:=xJ fun vs V k=>∃(i':Nat) (i:Int),vs=[.one (.sl (.sl AA) T),.one (.int .i64 i)]/\(AO i i'/\i'<=T.length)/\k=T.length-i'
 refine⟨[],[0,3],[],U,⟨T.length-0,by rw[d];exact⟨0,0,rfl,⟨Al 0,by omega⟩,rfl⟩⟩,?_⟩;intro vs V a1 Q;rw[d] at Q;obtain⟨i',i,rfl,⟨hi,Y⟩,Z⟩:=Q;conv=>cbv
 have ei:=hi.eq;rintro n9 ⟨e9,f9⟩;conv=>cbv
 intro L m;conv=>cbv
 cases L <;> conv=>cbv
 ·have J:=AW m;exact AD ⟨t2,trivial⟩
 have J:=AY m;refine .inr ?_;intro a2 S;conv=>cbv
 refine AH ?_;intro H P;conv=>cbv
 intro K v;conv=>cbv
 obtain⟨j,b⟩:=AK (l:=T) (i:=i') (by omega);refine⟨j,fun _=>⟨by omega,by rw[show (i).toNat=i' by omega];exact b⟩,?_⟩;try conv=>cbv
 obtain⟨r,D,C⟩:=Ig (u:=u) (i:=i') (by omega);have z:AT (r::pre u i'):=D ▸ (h.pre (i'+1)).red;have I:j=Aa r:=by rw[<-G,b] at C;exact Option.some.inj C
 have g:j=em (pre u i') (AM (pre u i') r):=I.trans (EG z);have f:K=tw (pre u i'):=by rw[v,List.drop_zero,show H=i' by omega,G,FI]
 obtain⟨N,a⟩:=xI (An (AM (pre u i') r));refine AB (r:= .one (.int .i64 N)) O (S4 (h.pre i') f g (El.Cv (D ▸ h.pre (i'+1))) (by rw[GJ (by omega)];exact Nat.le_trans (I1 (by omega) R R) hs) a) ?_;try conv=>cbv
 intro n21 o;conv=>cbv
 refine g2 rfl ?_;cases n21 <;> conv=>cbv
 ·have F:=Co o;intro M W;conv=>cbv
  refine AI ?_;refine⟨T.length-(i'+1),?_,?_⟩
  ·omega
  rw[d];exact⟨i'+1,M,rfl,⟨⟨by omega⟩,by omega⟩,rfl⟩
 have F:=Cp o;exact absurd (a.trans (F0 z.2.2.1)) F
theorem F5 (h:Ae R u) (b:T=tw u) (f:A=em u x) (g:El u s x) (hs:VV u.length R s<=60000000000000) (d:s<=60000000000000) (hR:VV u.length R R<=60000000000000) (j:c=An x):CF 246 [.one (.sl (.sl AA) T),.one (.sl AA A)] (.one (.int .i64 c)):=by
 refine AJ Tryz.func246 fun E a=>?_
 conv=>cbv
 refine AB a (Jn h b f g d) ?_;conv=>cbv
 refine AU ?_;conv=>cbv
 refine AB a (cu h b hR) ?_;conv=>cbv
 refine AU ?_;conv=>cbv
 refine AB a (S4 h b f g hs j) ?_;conv=>cbv
 exact AD ⟨t2,trivial⟩
theorem cz {C:LR} {r:List Rat} {k:Int} (h:Ae R (r::u)) (Q:T=tw (r::u)) (U:AO k u.length) (P:C=em (r::u) (rt u r)):CF 344 [.one (.sl (.sl AA) T),.one (.int .i64 k)] (.one (.sl AA C)):=by
 have O:=U.eq;have S:(r::u).length<=16:=h.ht;have V:(r::u).length=u.length+1:=rfl;refine AJ Tryz.func344 fun E H=>?_
 conv=>cbv
 obtain⟨a2,a5,Z,a1,F⟩:=Be (((0:Int):Rat));refine AB H (Ej (by omega) rfl F) ?_;conv=>cbv
 obtain⟨v,m⟩:=xR (em (r::u) (0));obtain⟨J,D⟩:=xN v.length;refine AB (r:= .one (.own AA v J)) H (Th h Q F (by rw[show Re.ofRat ((0:Int):Rat)=0 from rfl];exact m) D) ?_;try conv=>cbv
 intro Y G;conv=>cbv
 refine AH ?_;have N:=(Dt (k:=u.length) G O).eq;obtain⟨g,j,d,f,b⟩:=Be (((1:Int):Rat));refine AB H (Ej (by omega) rfl b) ?_;conv=>cbv
 have W:v.length=2^u.length+2^u.length:=by rw[m,BJ (Bx _),Bk]
 have X:=De u.length;have M:=DD (n:=u.length);refine AH ?_;intro I L;conv=>cbv
 refine⟨((g,j),(d,f)),fun _=>⟨by show _<List.length (α:=(el AA)) v;(first | omega | (simp;omega)),by first | exact t1 | exact t2 | exact t4 | simp[Ao,BA,cells]⟩,?_⟩;intro (o:LR) (a:o=List.set (α:=(el AA)) v I (((g,j),(d,f))));have K:o.length=v.length:=by rw[a,List.length_set]
 conv=>cbv
 refine g2 rfl ?_;have z:C=o:=by rw[P,V6 h.red,a,m];congr 1 <;> first | omega | exact b.rp
 exact AD ⟨⟨rfl,.inl ⟨_,rfl,by omega,congrArg _ (by rw[z,List.drop_zero,List.take_of_length_le (by omega)])⟩,trivial⟩,trivial⟩
end Go.Abs
namespace Go.Abs
def TQ (h R s:Nat):Nat:=3*s+4*EE h R+R+GG h R+3+II h R R
def SS:Nat->Nat->Nat->Nat
 | 0,_,s=>s
 | h+1,R,s=>max (VV (h+1) R s) (max (SS h R (TQ h R s)) (s+II h R (TQ h R s+GG h R)+2*EE h R+2))
theorem Tb (h R:Nat) {s t:Nat} (a:s<=t):TQ h R s<=TQ h R t:=by unfold TQ;omega
theorem M4:∀(h R:Nat) {s t:Nat},s<=t->SS h R s<=SS h R t
 | 0,_,_,_,a=>a
 | h+1,R,s,t,a=>by
  have b:=HY (h+1) R a;have d:=M4 h R (Tb h R a);have h3:=Iy h R (Nat.add_le_add_right (Tb h R a) (GG h R))
  show max _ (max _ _)<=max _ (max _ _)
  omega
theorem H5 (h R s:Nat):VV (h+1) R s<=SS (h+1) R s:=by show _<=max _ (max _ _);omega
theorem TX (h R s:Nat):SS h R (TQ h R s)<=SS (h+1) R s:=by show _<=max _ (max _ _);omega
theorem I0 (h R s:Nat):s+II h R (TQ h R s+GG h R)+2*EE h R+2<=SS (h+1) R s:=by show _<=max _ (max _ _);omega
theorem TY (h R s:Nat):s<=SS h R s:=by
 cases h with
 | zero=>exact Nat.le_refl _
 | succ h=>exact Nat.le_trans (FU _ _ _) (H5 h R s)
end Go.Abs
namespace Go.Abs
open Go.RowKit
variable {A B l:LR} {R k0 s:Nat} {T:List LR} {i n p q t w x:Re} {r:List Rat} {u:List (List Rat)}
theorem Pq {C:LR} (F:A.length<=1000000) (G:B.length<=1000000) (o:C=A++B):CF 320 [.one (.sl AA A),.one (.sl AA B)] (.one (.sl AA C)):=by
 refine AJ Tryz.func320 fun E H=>?_
 conv=>cbv
 refine⟨[],fun _=>⟨rfl,by decide,rfl,trivial⟩,.inl ?_⟩;try conv=>cbv
 refine .inl ⟨A,fun _=>⟨rfl,rfl,rfl,by show (0+A.length)*64<=140737488355328;(try simp only[List.length_take,List.length_drop]);omega⟩,?_⟩;intro (d:LR) z f;have b:d=([]:LR)++(A:LR):=f.1;have j:z=List.length (α:=(el AA)) d:=f.2;conv=>cbv
 have m:d.length=A.length:=by rw[b];simp
 refine .inl ⟨B,fun _=>⟨rfl,j,rfl,by show (d.length+B.length)*64<=140737488355328;(try simp only[List.length_take,List.length_drop]);omega⟩,?_⟩;intro (k:LR) D g;have h:k=(d:LR)++(B:LR):=g.1;have v:D=List.length (α:=(el AA)) k:=g.2;conv=>cbv
 have a:C=k:=by rw[o,h,b];rfl
 exact AD ⟨⟨rfl,.inl ⟨_,rfl,by omega,congrArg _ (by rw[a,List.drop_zero,List.take_of_length_le (by omega)])⟩,trivial⟩,trivial⟩
def Ha (u:List (List Rat)) (x:Re) (l:LR):Prop:=∀{T:List LR} {A:LR},T=tw u->A=em u x->
 CF 247 [.one (.sl (.sl AA) T),.one (.sl AA A)] (.AG [(false,[.sl AA l]),(false,[.bool false])])
def Hb (u:List (List Rat)) (x w:Re):Prop:=∀{T:List LR} {A B:LR},T=tw u->A=em u x->B=em u w->
 CF 247 [.one (.sl (.sl AA) T),.one (.sl AA A)] (.AG [(false,[.sl AA B]),(false,[.bool true])])
theorem IY {c:Int} (b:c=An x) (h:c<0) (a:0<=x):False:=by
 have:=(IT (x:=x)).1 (by omega)
 grind
theorem dm (h:Ae R (r::u)) (o:T=tw (r::u)) (m:A=em (r::u) x) (z:El (r::u) s x) (N:x=p+q*rt u r) (P:El u s p) (Q:El u s q) (hs:SS (r::u).length R s<=60000000000000) (j:VV (r::u).length R R<=60000000000000) (g:x<0):CF 247 [.one (.sl (.sl AA) T),.one (.sl AA A)] (.AG [(false,[.sl AA (([]:LR))]),(false,[.bool false])]):=by
 have H:T.length=u.length+1:=by rw[o,Bb];rfl
 have D:A.length=2^u.length+2^u.length:=by rw[m,BJ z.mem,Bk]
 have J:=El.Cv h;have hR:=h.hR;have M:VV (r::u).length R s<=SS (r::u).length R s:=H5 u.length R s;have L:s+II u.length R (TQ u.length R s+GG u.length R)+2*EE u.length R+2<=SS (r::u).length R s:=I0 u.length R s;have K:=FU (r::u).length R s;have I:=ET u.length R (TQ u.length R s+GG u.length R);have G:TQ u.length R s=3*s+4*EE u.length R+R+GG u.length R+3+II u.length R R:=rfl;have v:=DD h.tail.ht;refine AJ Tryz.func247 fun E F=>?_
 conv=>cbv
 rintro n31 ⟨C,f31⟩;conv=>cbv
 intro n32 a;conv=>cbv
 cases n32 <;> conv=>cbv
 ·have f:=Ah a;obtain⟨O,d⟩:=xI (An x);refine AB F (F5 h o m z (by omega) (by omega) j d) ?_;conv=>cbv
  intro n46 b;conv=>cbv
  cases n46 <;> conv=>cbv
  ·have k:=AW b;exact absurd (IT.2 g) (by omega)
  have k:=AY b;exact AD ⟨⟨rfl,Bj,trivial⟩,t2,trivial⟩
 have f:=Aj a;exact absurd f (by omega)
theorem dr (h:Ae R (r::u)) (O:T=tw (r::u)) (N:A=em (r::u) x) (hx:El (r::u) s x) (I:x=p+q*rt u r) (hp:El u s p) (W:El u s q) (hs:SS (r::u).length R s<=60000000000000) (X:VV (r::u).length R R<=60000000000000) (U:0<=x) (h0:q=0) (hw:In u w) (hy:Hb u p w) (hB:B=em (r::u) w):CF 247 [.one (.sl (.sl AA) T),.one (.sl AA A)] (.AG [(false,[.sl AA B]),(false,[.bool true])]):=by
 have au:T.length=u.length+1:=by rw[O,Bb];rfl
 have aq:A.length=2^u.length+2^u.length:=by rw[N,BJ hx.mem,Bk]
 have aw:=El.Cv h;have hR:=h.hR;have az:VV (r::u).length R s<=SS (r::u).length R s:=H5 u.length R s;have ay:s+II u.length R (TQ u.length R s+GG u.length R)+2*EE u.length R+2<=SS (r::u).length R s:=I0 u.length R s;have ax:=FU (r::u).length R s;have av:=ET u.length R (TQ u.length R s+GG u.length R);have ar:TQ u.length R s=3*s+4*EE u.length R+R+GG u.length R+3+II u.length R R:=rfl;have ad:=DD h.tail.ht;refine AJ Tryz.func247 fun E o=>?_
 conv=>cbv
 rintro n31 ⟨aj,f31⟩;conv=>cbv
 intro n32 v;conv=>cbv
 cases n32 <;> conv=>cbv
 ·have J:=Ah v;obtain⟨aF,g⟩:=xI (An x);refine AB o (F5 h O N hx (by omega) (by omega) X g) ?_;conv=>cbv
  intro n46 z;conv=>cbv
  cases n46 <;> conv=>cbv
  ·have K:=AW z;rintro aD ⟨ak,f48⟩;conv=>cbv
   intro n49 an;conv=>cbv
   refine AI ?_;intro aA aa;conv=>cbv
   refine AH ?_;intro Q a7;conv=>cbv
   intro Z D;conv=>cbv
   obtain⟨M,f⟩:=AK (l:=T) (i:=(T.length-1)) (by omega);refine⟨M,fun _=>⟨by omega,by rw[show (n49).toNat=(T.length-1) by omega];exact f⟩,?_⟩;try conv=>cbv
   refine g2 rfl ?_;rintro aE ⟨al,f58⟩;conv=>cbv
   intro n59 ao;conv=>cbv
   refine g2 ⟨by omega,by omega,i64 (by omega)⟩ ?_;intro aB ab;conv=>cbv
   refine AH ?_;intro S a8;conv=>cbv
   intro a1 F;conv=>cbv
   intro aC H;conv=>cbv
   refine AH ?_;rintro P ai ⟨a6,C⟩;conv=>cbv
   intro a2 G;conv=>cbv
   refine g2 rfl ?_;have a:Z=tw u:=by rw[D,List.drop_zero,show Q=T.length-1 by omega,O,DT]
   have Y:M=em u (AM u r):=by rw[O,E5] at f;exact (Option.some.inj f).symm.trans (EG h.red)
   have k:a1=em u p:=by rw[F,List.drop_zero,show S=A.length/2 by omega,N,CM h.red hp.mem W.mem I]
   have m:a2=em u q:=by rw[G,show P=A.length/2 by omega,C,H,List.take_length,N,CA h.red hp.mem W.mem I]
   obtain⟨ag,ah,ae,af,j⟩:=Be (((0:Int):Rat));refine AB o (Ej (by omega) rfl j) ?_;conv=>cbv
   obtain⟨L,b⟩:=xR (em u (0));refine AB (r:= .one (.sl AA L)) o (F4 h.tail a j (by rw[show Re.ofRat ((0:Int):Rat)=0 from rfl];exact b)) ?_;try conv=>cbv
   refine AB o (Hc h.tail.red W.mem m h0) ?_;conv=>cbv
   obtain⟨a5,d⟩:=xR (em u w);refine AB o (hy a k d) ?_;conv=>cbv
   have V:B=a5++L:=by rw[hB,d,b];exact En h.red hw (Bx u) (by grind)
   refine AB (r:= .one (.sl AA B)) o (Pq (by rw[d,BJ hw];omega) (by rw[b,BJ (Bx u)];omega) V) ?_;try conv=>cbv
   exact AD ⟨t2,t2,trivial⟩
  have K:=AY z;exact (IY g K U).elim
 have J:=Aj v;exact absurd J (by omega)
theorem dt (h:Ae R (r::u)) (V:T=tw (r::u)) (U:A=em (r::u) x) (hx:El (r::u) s x) (N:x=p+q*rt u r) (hp:El u s p) (hq:El u s q) (hs:SS (r::u).length R s<=60000000000000) (a5:VV (r::u).length R R<=60000000000000) (Z:0<=x) (h0:q=0) (hi:In u i) (L:AM u r*i=1) (hn:Ha u p l) (hw:In u w) (hy:Hb u (p*i) w) (hB:B=em (r::u) (w*rt u r)):CF 247 [.one (.sl (.sl AA) T),.one (.sl AA A)] (.AG [(false,[.sl AA B]),(false,[.bool true])]):=by
 have az:T.length=u.length+1:=by rw[V,Bb];rfl
 have ax:A.length=2^u.length+2^u.length:=by rw[U,BJ hx.mem,Bk]
 have M:=El.Cv h;have hR:=h.hR;have aD:VV (r::u).length R s<=SS (r::u).length R s:=H5 u.length R s;have aC:s+II u.length R (TQ u.length R s+GG u.length R)+2*EE u.length R+2<=SS (r::u).length R s:=I0 u.length R s;have aB:=FU (r::u).length R s;have aA:=ET u.length R (TQ u.length R s+GG u.length R);have ay:TQ u.length R s=3*s+4*EE u.length R+R+GG u.length R+3+II u.length R R:=rfl;have ai:=DD h.tail.ht;have a2:=M.inv h.tail hi L;refine AJ Tryz.func247 fun E j=>?_
 conv=>cbv
 rintro n31 ⟨aq,f31⟩;conv=>cbv
 intro n32 D;conv=>cbv
 cases n32 <;> conv=>cbv
 ·have O:=Ah D;obtain⟨aJ,k⟩:=xI (An x);refine AB j (F5 h V U hx (by omega) (by omega) a5 k) ?_;conv=>cbv
  intro n46 F;conv=>cbv
  cases n46 <;> conv=>cbv
  ·have P:=AW F;rintro aH ⟨ar,f48⟩;conv=>cbv
   intro n49 av;conv=>cbv
   refine AI ?_;intro aE ag;conv=>cbv
   refine AH ?_;intro X ae;conv=>cbv
   intro a6 H;conv=>cbv
   obtain⟨S,g⟩:=AK (l:=T) (i:=(T.length-1)) (by omega);refine⟨S,fun _=>⟨by omega,by rw[show (n49).toNat=(T.length-1) by omega];exact g⟩,?_⟩;try conv=>cbv
   refine g2 rfl ?_;rintro aI ⟨au,f58⟩;conv=>cbv
   intro n59 aw;conv=>cbv
   refine g2 ⟨by omega,by omega,i64 (by omega)⟩ ?_;intro aF ah;conv=>cbv
   refine AH ?_;intro Y af;conv=>cbv
   intro a7 I;conv=>cbv
   intro aG K;conv=>cbv
   refine AH ?_;rintro W ao ⟨ad,G⟩;conv=>cbv
   intro a8 J;conv=>cbv
   refine g2 rfl ?_;have a:a6=tw u:=by rw[H,List.drop_zero,show X=T.length-1 by omega,V,DT]
   have C:S=em u (AM u r):=by rw[V,E5] at g;exact (Option.some.inj g).symm.trans (EG h.red)
   have b:a7=em u p:=by rw[I,List.drop_zero,show Y=A.length/2 by omega,U,CM h.red hp.mem hq.mem N]
   have z:a8=em u q:=by rw[J,show W=A.length/2 by omega,G,K,List.take_length,U,CA h.red hp.mem hq.mem N]
   obtain⟨al,an,aj,ak,v⟩:=Be (((0:Int):Rat));refine AB j (Ej (by omega) rfl v) ?_;conv=>cbv
   obtain⟨Q,d⟩:=xR (em u (0));refine AB (r:= .one (.sl AA Q)) j (F4 h.tail a v (by rw[show Re.ofRat ((0:Int):Rat)=0 from rfl];exact d)) ?_;try conv=>cbv
   refine AB j (Hc h.tail.red hq.mem z h0) ?_;conv=>cbv
   refine AB j (hn a b) ?_;conv=>cbv
   obtain⟨aa,m⟩:=xR (em u (i));refine AB (r:= .AG [(false,[.sl AA aa]),(false,[.int .i64 0])]) j (NI h.tail a C M hi L (by have:=Iy u.length R (s:=R) (t:=TQ u.length R s+GG u.length R) (by omega);omega) m) ?_;try conv=>cbv
   obtain⟨aK,o⟩:=xR (em u (p*i));refine AB j (Dp h.tail a b m hp a2 (by omega) o) ?_;conv=>cbv
   obtain⟨ab,f⟩:=xR (em u w);refine AB j (hy a o f) ?_;conv=>cbv
   have a1:B=Q++ab:=by rw[hB,f,d];exact En h.red (Bx u) hw (by grind)
   refine AB (r:= .one (.sl AA B)) j (Pq (by rw[d,BJ (Bx u)];omega) (by rw[f,BJ hw];omega) a1) ?_;try conv=>cbv
   exact AD ⟨t2,t2,trivial⟩
  have P:=AY F;exact (IY k P Z).elim
 have O:=Aj D;exact absurd O (by omega)
theorem du (h:Ae R (r::u)) (S:T=tw (r::u)) (Q:A=em (r::u) x) (hx:El (r::u) s x) (M:x=p+q*rt u r) (hp:El u s p) (hq:El u s q) (hs:SS (r::u).length R s<=60000000000000) (a1:VV (r::u).length R R<=60000000000000) (X:0<=x) (h0:q=0) (hi:In u i) (J:AM u r*i=1) (hn:Ha u p l) {l2:LR} (Z:Ha u (p*i) l2):CF 247 [.one (.sl (.sl AA) T),.one (.sl AA A)] (.AG [(false,[.sl AA (([]:LR))]),(false,[.bool false])]):=by
 have ax:T.length=u.length+1:=by rw[S,Bb];rfl
 have av:A.length=2^u.length+2^u.length:=by rw[Q,BJ hx.mem,Bk]
 have K:=El.Cv h;have hR:=h.hR;have aB:VV (r::u).length R s<=SS (r::u).length R s:=H5 u.length R s;have aA:s+II u.length R (TQ u.length R s+GG u.length R)+2*EE u.length R+2<=SS (r::u).length R s:=I0 u.length R s;have az:=FU (r::u).length R s;have ay:=ET u.length R (TQ u.length R s+GG u.length R);have aw:TQ u.length R s=3*s+4*EE u.length R+R+GG u.length R+3+II u.length R R:=rfl;have ag:=DD h.tail.ht;have Y:=K.inv h.tail hi J;refine AJ Tryz.func247 fun E f=>?_
 conv=>cbv
 rintro n31 ⟨an,f31⟩;conv=>cbv
 intro n32 z;conv=>cbv
 cases n32 <;> conv=>cbv
 ·have N:=Ah z;obtain⟨aH,g⟩:=xI (An x);refine AB f (F5 h S Q hx (by omega) (by omega) a1 g) ?_;conv=>cbv
  intro n46 C;conv=>cbv
  cases n46 <;> conv=>cbv
  ·have O:=AW C;rintro aF ⟨ao,f48⟩;conv=>cbv
   intro n49 ar;conv=>cbv
   refine AI ?_;intro aC ae;conv=>cbv
   refine AH ?_;intro V ab;conv=>cbv
   intro a2 F;conv=>cbv
   obtain⟨P,d⟩:=AK (l:=T) (i:=(T.length-1)) (by omega);refine⟨P,fun _=>⟨by omega,by rw[show (n49).toNat=(T.length-1) by omega];exact d⟩,?_⟩;try conv=>cbv
   refine g2 rfl ?_;rintro aG ⟨aq,f58⟩;conv=>cbv
   intro n59 au;conv=>cbv
   refine g2 ⟨by omega,by omega,i64 (by omega)⟩ ?_;intro aD af;conv=>cbv
   refine AH ?_;intro W ad;conv=>cbv
   intro a5 G;conv=>cbv
   intro aE I;conv=>cbv
   refine AH ?_;rintro U al ⟨aa,D⟩;conv=>cbv
   intro a6 H;conv=>cbv
   refine g2 rfl ?_;have a:a2=tw u:=by rw[F,List.drop_zero,show V=T.length-1 by omega,S,DT]
   have v:P=em u (AM u r):=by rw[S,E5] at d;exact (Option.some.inj d).symm.trans (EG h.red)
   have b:a5=em u p:=by rw[G,List.drop_zero,show W=A.length/2 by omega,Q,CM h.red hp.mem hq.mem M]
   have o:a6=em u q:=by rw[H,show U=A.length/2 by omega,D,I,List.take_length,Q,CA h.red hp.mem hq.mem M]
   obtain⟨aj,ak,ah,ai,m⟩:=Be (((0:Int):Rat));refine AB f (Ej (by omega) rfl m) ?_;conv=>cbv
   obtain⟨a7,L⟩:=xR (em u (0));refine AB (r:= .one (.sl AA a7)) f (F4 h.tail a m (by rw[show Re.ofRat ((0:Int):Rat)=0 from rfl];exact L)) ?_;try conv=>cbv
   refine AB f (Hc h.tail.red hq.mem o h0) ?_;conv=>cbv
   refine AB f (hn a b) ?_;conv=>cbv
   obtain⟨a8,j⟩:=xR (em u (i));refine AB (r:= .AG [(false,[.sl AA a8]),(false,[.int .i64 0])]) f (NI h.tail a v K hi J (by have:=Iy u.length R (s:=R) (t:=TQ u.length R s+GG u.length R) (by omega);omega) j) ?_;try conv=>cbv
   obtain⟨aI,k⟩:=xR (em u (p*i));refine AB f (Dp h.tail a b j hp Y (by omega) k) ?_;conv=>cbv
   refine AB f (Z a k) ?_;conv=>cbv
   exact AD ⟨⟨rfl,Bj,trivial⟩,t2,trivial⟩
  have O:=AY C;exact (IY g O X).elim
 have N:=Aj z;exact absurd N (by omega)
theorem di (h:Ae R (r::u)) (X:T=tw (r::u)) (W:A=em (r::u) x) (hx:El (r::u) s x) (P:x=p+q*rt u r) (F:El u s p) (v:El u s q) (hs:SS (r::u).length R s<=60000000000000) (a6:VV (r::u).length R R<=60000000000000) (a2:0<=x) (h0:q≠0) (hn:Ha u (p*p-q*q*AM u r) l):CF 247 [.one (.sl (.sl AA) T),.one (.sl AA A)] (.AG [(false,[.sl AA (([]:LR))]),(false,[.bool false])]):=by
 have aC:T.length=u.length+1:=by rw[X,Bb];rfl
 have aA:A.length=2^u.length+2^u.length:=by rw[W,BJ hx.mem,Bk]
 have N:=El.Cv h;have hR:=h.hR;have aG:VV (r::u).length R s<=SS (r::u).length R s:=H5 u.length R s;have aF:s+II u.length R (TQ u.length R s+GG u.length R)+2*EE u.length R+2<=SS (r::u).length R s:=I0 u.length R s;have aE:=FU (r::u).length R s;have aD:=ET u.length R (TQ u.length R s+GG u.length R);have aB:TQ u.length R s=3*s+4*EE u.length R+R+GG u.length R+3+II u.length R R:=rfl;have ai:=DD h.tail.ht;refine AJ Tryz.func247 fun E o=>?_
 conv=>cbv
 rintro n31 ⟨av,f31⟩;conv=>cbv
 intro n32 G;conv=>cbv
 cases n32 <;> conv=>cbv
 ·have Q:=Ah G;obtain⟨aM,z⟩:=xI (An x);refine AB o (F5 h X W hx (by omega) (by omega) a6 z) ?_;conv=>cbv
  intro n46 H;conv=>cbv
  cases n46 <;> conv=>cbv
  ·have S:=AW H;rintro aK ⟨aw,f48⟩;conv=>cbv
   intro n49 ay;conv=>cbv
   refine AI ?_;intro aH ag;conv=>cbv
   refine AH ?_;intro Z ae;conv=>cbv
   intro a7 J;conv=>cbv
   obtain⟨V,m⟩:=AK (l:=T) (i:=(T.length-1)) (by omega);refine⟨V,fun _=>⟨by omega,by rw[show (n49).toNat=(T.length-1) by omega];exact m⟩,?_⟩;try conv=>cbv
   refine g2 rfl ?_;rintro aL ⟨ax,f58⟩;conv=>cbv
   intro n59 az;conv=>cbv
   refine g2 ⟨by omega,by omega,i64 (by omega)⟩ ?_;intro aI ah;conv=>cbv
   refine AH ?_;intro a1 af;conv=>cbv
   intro a8 K;conv=>cbv
   intro aJ M;conv=>cbv
   refine AH ?_;rintro Y au ⟨ad,I⟩;conv=>cbv
   intro aa L;conv=>cbv
   refine g2 rfl ?_;have a:a7=tw u:=by rw[J,List.drop_zero,show Z=T.length-1 by omega,X,DT]
   have D:V=em u (AM u r):=by rw[X,E5] at m;exact (Option.some.inj m).symm.trans (EG h.red)
   have d:a8=em u p:=by rw[K,List.drop_zero,show a1=A.length/2 by omega,W,CM h.red F.mem v.mem P]
   have b:aa=em u q:=by rw[L,show Y=A.length/2 by omega,I,M,List.take_length,W,CA h.red F.mem v.mem P]
   obtain⟨aq,ar,an,ao,C⟩:=Be (((0:Int):Rat));refine AB o (Ej (by omega) rfl C) ?_;conv=>cbv
   obtain⟨ab,O⟩:=xR (em u (0));refine AB (r:= .one (.sl AA ab)) o (F4 h.tail a C (by rw[show Re.ofRat ((0:Int):Rat)=0 from rfl];exact O)) ?_;try conv=>cbv
   refine AB o (H7 h.tail.red v.mem b h0) ?_;conv=>cbv
   obtain⟨aj,f⟩:=xR (em u (p*p));refine AB o (Dp h.tail a d d F F (by omega) f) ?_;conv=>cbv
   obtain⟨ak,g⟩:=xR (em u (q*q));refine AB o (Dp h.tail a b b v v (by omega) g) ?_;conv=>cbv
   obtain⟨al,j⟩:=xR (em u (AM u r*(q*q)));refine AB o (Dp h.tail a D g N (v.mul h.tail v) (by omega) j) ?_;conv=>cbv
   obtain⟨U,k⟩:=xR (em u (p*p-AM u r*(q*q)));refine AB o (NJ h.tail f j (F.mul h.tail F) (N.mul h.tail (v.mul h.tail v)) (by omega) (by omega) k) ?_;conv=>cbv
   have a5:U=em u (p*p-q*q*AM u r):=by rw[k,show p*p-AM u r*(q*q)=p*p-q*q*AM u r by grind]
   refine AB o (hn a a5) ?_;conv=>cbv
   refine Bc ?_;conv=>cbv
   exact AD ⟨⟨rfl,Bj,trivial⟩,t2,trivial⟩
  have S:=AY H;exact (IY z S a2).elim
 have Q:=Aj G;exact absurd Q (by omega)
theorem dk (h:Ae R (r::u)) (hT:T=tw (r::u)) (hA:A=em (r::u) x) (hx:El (r::u) s x) (X:x=p+q*rt u r) (O:El u s p) (J:El u s q) (hs:SS (r::u).length R s<=60000000000000) (aE:VV (r::u).length R R<=60000000000000) (ay:0<=x) (h0:q≠0) (hn:In u n) (aB:n*n=p*p-q*q*AM u r) (ht:t=Re.ofRat (1/2)) (aI:Hb u (p*p-q*q*AM u r) n) {y:Nat->Re} (aF:y 0=p+n) (aG:y 1=p-n) (aH:∀i,El u (s+(2*s+2*EE u.length R+R+1+GG u.length R)+1) (y i)) {L:Nat->LR} (hk:k0<=2) (aC:∀i,i<k0->Ha u (t*y i) (L i)) (U:k0=2):CF 247 [.one (.sl (.sl AA) T),.one (.sl AA A)] (.AG [(false,[.sl AA (([]:LR))]),(false,[.bool false])]):=by
 have bb:T.length=u.length+1:=by rw[hT,Bb];rfl
 have b9:A.length=2^u.length+2^u.length:=by rw[hA,BJ hx.mem,Bk]
 have ab:=El.Cv h;have hR:=h.hR;have bj:VV (r::u).length R s<=SS (r::u).length R s:=H5 u.length R s;have bh:s+II u.length R (TQ u.length R s+GG u.length R)+2*EE u.length R+2<=SS (r::u).length R s:=I0 u.length R s;have bg:=FU (r::u).length R s;have bf:=ET u.length R (TQ u.length R s+GG u.length R);have ba:TQ u.length R s=3*s+4*EE u.length R+R+GG u.length R+3+II u.length R R:=rfl;have aU:=DD h.tail.ht;have hN:=El.norm h O.mem J.mem (X ▸ hx);have aa:=hN.sqrt h.tail hn aB;have aD:El u 1 t:=by rw[ht];exact El.rat h.red.1 LU
 refine AJ Tryz.func247 fun E b=>?_
 conv=>cbv
 rintro n31 ⟨b4,f31⟩;conv=>cbv
 intro n32 Y;conv=>cbv
 cases n32 <;> conv=>cbv
 ·have af:=Ah Y;obtain⟨br,P⟩:=xI (An x);refine AB b (F5 h hT hA hx (by omega) (by omega) aE P) ?_;conv=>cbv
  intro n46 Z;conv=>cbv
  cases n46 <;> conv=>cbv
  ·have ag:=AW Z;rintro bp ⟨b5,f48⟩;conv=>cbv
   intro n49 b7;conv=>cbv
   refine AI ?_;intro bm aS;conv=>cbv
   refine AH ?_;intro aw aQ;conv=>cbv
   intro ah a2;conv=>cbv
   obtain⟨au,H⟩:=AK (l:=T) (i:=(T.length-1)) (by omega);refine⟨au,fun _=>⟨by omega,by rw[show (n49).toNat=(T.length-1) by omega];exact H⟩,?_⟩;try conv=>cbv
   refine g2 rfl ?_;rintro bq ⟨b6,f58⟩;conv=>cbv
   intro n59 b8;conv=>cbv
   refine g2 ⟨by omega,by omega,i64 (by omega)⟩ ?_;intro bn aT;conv=>cbv
   refine AH ?_;intro ax aR;conv=>cbv
   intro ai a5;conv=>cbv
   intro bo a7;conv=>cbv
   refine AH ?_;rintro av b3 ⟨aP,a1⟩;conv=>cbv
   intro aj a6;conv=>cbv
   refine g2 rfl ?_;have a:ah=tw u:=by rw[a2,List.drop_zero,show aw=T.length-1 by omega,hT,DT]
   have W:au=em u (AM u r):=by rw[hT,E5] at H;exact (Option.some.inj H).symm.trans (EG h.red)
   have d:ai=em u p:=by rw[a5,List.drop_zero,show ax=A.length/2 by omega,hA,CM h.red O.mem J.mem X]
   have f:aj=em u q:=by rw[a6,show av=A.length/2 by omega,a1,a7,List.take_length,hA,CA h.red O.mem J.mem X]
   obtain⟨b1,b2,aZ,b0,Q⟩:=Be (((0:Int):Rat));refine AB b (Ej (by omega) rfl Q) ?_;conv=>cbv
   obtain⟨aJ,ad⟩:=xR (em u (0));refine AB (r:= .one (.sl AA aJ)) b (F4 h.tail a Q (by rw[show Re.ofRat ((0:Int):Rat)=0 from rfl];exact ad)) ?_;try conv=>cbv
   refine AB b (H7 h.tail.red J.mem f h0) ?_;conv=>cbv
   obtain⟨aV,g⟩:=xR (em u (p*p));refine AB b (Dp h.tail a d d O O (by omega) g) ?_;conv=>cbv
   obtain⟨aW,j⟩:=xR (em u (q*q));refine AB b (Dp h.tail a f f J J (by omega) j) ?_;conv=>cbv
   obtain⟨aX,o⟩:=xR (em u (AM u r*(q*q)));refine AB b (Dp h.tail a W j ab (J.mul h.tail J) (by omega) o) ?_;conv=>cbv
   obtain⟨an,v⟩:=xR (em u (p*p-AM u r*(q*q)));refine AB b (NJ h.tail g o (O.mul h.tail O) (ab.mul h.tail (J.mul h.tail J)) (by omega) (by omega) v) ?_;conv=>cbv
   have az:an=em u (p*p-q*q*AM u r):=by rw[v,show p*p-AM u r*(q*q)=p*p-q*q*AM u r by grind]
   obtain⟨ao,z⟩:=xR (em u n);refine AB b (aI a az z) ?_;conv=>cbv
   refine AU ?_;conv=>cbv
   obtain⟨aM,aN,aK,aL,I⟩:=Be ((1/2:Rat));refine AB b (I2 (by omega) (by omega) (by decide) (by decide +kernel) I) ?_;conv=>cbv
   obtain⟨S,C⟩:=xR (em u (t));refine AB (r:= .one (.sl AA S)) b (F4 h.tail a I (C.trans (by rw[ht]))) ?_;conv=>cbv
   refine .inr ?_;obtain⟨J0,K⟩:=xJ fun vs bl k=>∃(k':Nat) (m:Re) (M:LR) (i:Int),vs=[.one (.sl (.sl AA) ah),.one (.sl AA ai),.one (.sl AA aj),.one (.sl AA M),.one (.sl AA S),.one (.int .i64 i)]/\(AO i k'/\k'<=2)/\(M=em u m/\m=if k'=1 then -n else n)/\k=2-k'
   refine⟨[],[9,12,13,22,24,25],[],J0,⟨2-0,by rw[K];exact⟨0,n,ao,0,rfl,⟨Al 0,by omega⟩,⟨z,rfl⟩,rfl⟩⟩,?_⟩;intro vs bl bk hj;rw[K] at hj;obtain⟨k',m,M,i,rfl,⟨hi,bc⟩,⟨hM,V⟩,bd⟩:=hj;conv=>cbv
   have ei:=hi.eq;intro ak N;conv=>cbv
   cases ak <;> conv=>cbv
   ·have ae:=AW N;exact AD ⟨⟨rfl,Bj,trivial⟩,t2,trivial⟩
   have ae:=AY N;refine .inr ?_;have U:k'=0\/k'=1:=by omega
   have a8:El u (2*s+2*EE u.length R+R+1+GG u.length R) m:=by rw[V];split;exact aa.neg h.red.1;exact aa
   have aA:p+m=y k':=by rcases U with e | e <;> rw[e,V,e] <;> first | (rw[aF];rfl) | (rw[aG];simp;grind)
   obtain⟨aq,D⟩:=xR (em u (y k'));refine AB (r:= .one (.sl AA aq)) b (I4 h.tail d hM O a8 (by omega) (by omega) (D.trans (by rw[aA]))) ?_;conv=>cbv
   obtain⟨aY,F⟩:=xR (em u (t*y k'));refine AB b (Dp h.tail a C D aD (aH k') (by omega) F) ?_;conv=>cbv
   refine AB b (aC k' (by omega) a F) ?_;conv=>cbv
   obtain⟨ar,G⟩:=xR (em u (-m));refine AB b (Jp h.tail hM a8 G) ?_;conv=>cbv
   intro al aO;conv=>cbv
   refine AI ?_;refine⟨2-(k'+1),?_,?_⟩
   ·omega
   rw[K];exact⟨k'+1,-m,ar,al,rfl,⟨⟨by omega⟩,by omega⟩,⟨G,by clear K;rcases U with e | e <;> rw[V,e] <;> first | rfl | (show- -n=n;grind)⟩,rfl⟩
  have ag:=AY Z;exact (IY P ag ay).elim
 have af:=Aj Y;exact absurd af (by omega)
theorem dj (h:Ae R (r::u)) (hT:T=tw (r::u)) (hA:A=em (r::u) x) (hx:El (r::u) s x) (hxe:x=p+q*rt u r) (hp:El u s p) (hq:El u s q) (hs:SS (r::u).length R s<=60000000000000) (hvR:VV (r::u).length R R<=60000000000000) (h0x:0<=x) (h0:q≠0) (hn:In u n) (hnn:n*n=p*p-q*q*AM u r) (ht:t=Re.ofRat (1/2)) (hyn:Hb u (p*p-q*q*AM u r) n) {y:Nat->Re} (hy0:y 0=p+n) (hy1:y 1=p-n) (hyE:∀i,El u (s+(2*s+2*EE u.length R+R+1+GG u.length R)+1) (y i)) {L:Nat->LR} (hk:k0<=2) (hno:∀i,i<k0->Ha u (t*y i) (L i)) (hk1:k0<2) {j:Re} (hw:In u w) (hww:w*w=t*y k0) (hyw:Hb u (t*y k0) w) (hj:In u j) (hwj:w*j=1) (hB:B=em (r::u) (w+t*(q*j)*rt u r)):CF 247 [.one (.sl (.sl AA) T),.one (.sl AA A)] (.AG [(false,[.sl AA B]),(false,[.bool true])]):=by
 have hTl:T.length=u.length+1:=by rw[hT,Bb];rfl
 have hAl:A.length=2^u.length+2^u.length:=by rw[hA,BJ hx.mem,Bk]
 have hrr:=El.Cv h;have hR:=h.hR;have hsv:VV (r::u).length R s<=SS (r::u).length R s:=H5 u.length R s;have hsi:s+II u.length R (TQ u.length R s+GG u.length R)+2*EE u.length R+2<=SS (r::u).length R s:=I0 u.length R s;have hsg:=FU (r::u).length R s;have hmn:=ET u.length R (TQ u.length R s+GG u.length R);have hTQ:TQ u.length R s=3*s+4*EE u.length R+R+GG u.length R+3+II u.length R R:=rfl;have hp16:=DD h.tail.ht;have hN:=El.norm h hp.mem hq.mem (hxe ▸ hx);have hnE:=hN.sqrt h.tail hn hnn;have htE:El u 1 t:=by rw[ht];exact El.rat h.red.1 LU
 have hhE:=htE.mul h.tail (hyE k0);have hwE:=hhE.sqrt h.tail hw hww;have hjE:=(hwE.mono (t:=TQ u.length R s+GG u.length R) (by omega)).inv h.tail hj hwj;refine AJ Tryz.func247 fun E hE=>?_
 conv=>cbv
 rintro n31 ⟨e31,f31⟩;conv=>cbv
 intro n32 h32;conv=>cbv
 cases n32 <;> conv=>cbv
 ·have k32:=Ah h32;obtain⟨r45,hr45⟩:=xI (An x);refine AB hE (F5 h hT hA hx (by omega) (by omega) hvR hr45) ?_;conv=>cbv
  intro n46 h46;conv=>cbv
  cases n46 <;> conv=>cbv
  ·have k46:=AW h46;rintro n48 ⟨e48,f48⟩;conv=>cbv
   intro n49 h49;conv=>cbv
   refine AI ?_;intro m52 hm52;conv=>cbv
   refine AH ?_;intro b52 hb52;conv=>cbv
   intro l52 hl52;conv=>cbv
   obtain⟨x55,hx55⟩:=AK (l:=T) (i:=(T.length-1)) (by omega);refine⟨x55,fun _=>⟨by omega,by rw[show (n49).toNat=(T.length-1) by omega];exact hx55⟩,?_⟩;try conv=>cbv
   refine g2 rfl ?_;rintro n58 ⟨e58,f58⟩;conv=>cbv
   intro n59 h59;conv=>cbv
   refine g2 ⟨by omega,by omega,i64 (by omega)⟩ ?_;intro m62 hm62;conv=>cbv
   refine AH ?_;intro b62 hb62;conv=>cbv
   intro l62 hl62;conv=>cbv
   intro m65 hm65;conv=>cbv
   refine AH ?_;rintro a65 b65 ⟨ha65,hb65⟩;conv=>cbv
   intro l65 hl65;conv=>cbv
   refine g2 rfl ?_;have hl52e:l52=tw u:=by rw[hl52,List.drop_zero,show b52=T.length-1 by omega,hT,DT]
   have hx55e:x55=em u (AM u r):=by rw[hT,E5] at hx55;exact (Option.some.inj hx55).symm.trans (EG h.red)
   have hl62e:l62=em u p:=by rw[hl62,List.drop_zero,show b62=A.length/2 by omega,hA,CM h.red hp.mem hq.mem hxe]
   have hl65e:l65=em u q:=by rw[hl65,show a65=A.length/2 by omega,hb65,hm65,List.take_length,hA,CA h.red hp.mem hq.mem hxe]
   obtain⟨zb67,zl67,yb67,yl67,hz67⟩:=Be (((0:Int):Rat));refine AB hE (Ej (by omega) rfl hz67) ?_;conv=>cbv
   obtain⟨w68,hw68⟩:=xR (em u (0));refine AB (r:= .one (.sl AA w68)) hE (F4 h.tail hl52e hz67 (by rw[show Re.ofRat ((0:Int):Rat)=0 from rfl];exact hw68)) ?_;try conv=>cbv
   refine AB hE (H7 h.tail.red hq.mem hl65e h0) ?_;conv=>cbv
   obtain⟨w104,hw104⟩:=xR (em u (p*p));refine AB hE (Dp h.tail hl52e hl62e hl62e hp hp (by omega) hw104) ?_;conv=>cbv
   obtain⟨w110,hw110⟩:=xR (em u (q*q));refine AB hE (Dp h.tail hl52e hl65e hl65e hq hq (by omega) hw110) ?_;conv=>cbv
   obtain⟨w111,hw111⟩:=xR (em u (AM u r*(q*q)));refine AB hE (Dp h.tail hl52e hx55e hw110 hrr (hq.mul h.tail hq) (by omega) hw111) ?_;conv=>cbv
   obtain⟨w112,hw112⟩:=xR (em u (p*p-AM u r*(q*q)));refine AB hE (NJ h.tail hw104 hw111 (hp.mul h.tail hp) (hrr.mul h.tail (hq.mul h.tail hq)) (by omega) (by omega) hw112) ?_;conv=>cbv
   have hNe:w112=em u (p*p-q*q*AM u r):=by rw[hw112,show p*p-AM u r*(q*q)=p*p-q*q*AM u r by grind]
   obtain⟨w117,hw117⟩:=xR (em u n);refine AB hE (hyn hl52e hNe hw117) ?_;conv=>cbv
   refine AU ?_;conv=>cbv
   obtain⟨zb122,zl122,yb122,yl122,hz122⟩:=Be ((1/2:Rat));refine AB hE (I2 (by omega) (by omega) (by decide) (by decide +kernel) hz122) ?_;conv=>cbv
   obtain⟨w123,hw123⟩:=xR (em u (t));refine AB (r:= .one (.sl AA w123)) hE (F4 h.tail hl52e hz122 (hw123.trans (by rw[ht]))) ?_;conv=>cbv
   refine .inr ?_;obtain⟨J0,hJ0⟩:=xJ fun vs bl k=>∃(k':Nat) (m:Re) (M:LR) (i:Int),vs=[.one (.sl (.sl AA) l52),.one (.sl AA l62),.one (.sl AA l65),.one (.sl AA M),.one (.sl AA w123),.one (.int .i64 i)]/\(AO i k'/\k'<=k0)/\(M=em u m/\m=if k'=1 then -n else n)/\k=k0-k'
   refine⟨[],[9,12,13,22,24,25],[],J0,⟨k0-0,by rw[hJ0];exact⟨0,n,w117,0,rfl,⟨Al 0,by omega⟩,⟨hw117,rfl⟩,rfl⟩⟩,?_⟩;intro vs bl kk0 hj;rw[hJ0] at hj;obtain⟨k',m,M,i,rfl,⟨hi,hik⟩,⟨hM,hmv⟩,hk0⟩:=hj;conv=>cbv
   have ei:=hi.eq;intro n125 h125;conv=>cbv
   cases n125 <;> conv=>cbv
   ·have k125:=AW h125;exact absurd k125 (by omega)
   have k125:=AY h125;refine .inr ?_;have hk2:k'=0\/k'=1:=by omega
   have hmE:El u (2*s+2*EE u.length R+R+1+GG u.length R) m:=by rw[hmv];split;exact hnE.neg h.red.1;exact hnE
   have hmy:p+m=y k':=by rcases hk2 with e | e <;> rw[e,hmv,e] <;> first | (rw[hy0];rfl) | (rw[hy1];simp;grind)
   obtain⟨w135,hw135⟩:=xR (em u (y k'));refine AB (r:= .one (.sl AA w135)) hE (I4 h.tail hl62e hM hp hmE (by omega) (by omega) (hw135.trans (by rw[hmy]))) ?_;conv=>cbv
   obtain⟨w136,hw136⟩:=xR (em u (t*y k'));refine AB hE (Dp h.tail hl52e hw123 hw135 htE (hyE k') (by omega) hw136) ?_;conv=>cbv
   obtain⟨wl,bb,hcall,hbt,hbf⟩:∃(wl:LR) (bb:Bool),CF 247 [.one (.sl (.sl AA) l52),.one (.sl AA w136)] (.AG [(false,[.sl AA wl]),(false,[.bool bb])])/\(bb=true->k'=k0/\wl=em u w)/\(bb=false->k'<k0):=by
    by_cases e:k'<k0
    ·exact⟨L k',false,hno k' e hl52e hw136,fun e=>(Bool.false_ne_true e).elim,fun _=>e⟩
    have e2:k'=k0:=by omega
    exact⟨em u w,true,hyw hl52e (hw136.trans (by rw[e2])) rfl,fun _=>⟨e2,rfl⟩,fun e=>(Bool.noConfusion e)⟩
   refine AB hE hcall ?_;conv=>cbv
   cases bb <;> conv=>cbv
   ·have hkl:=hbf rfl;obtain⟨w158,hw158⟩:=xR (em u (-m));refine AB hE (Jp h.tail hM hmE hw158) ?_;conv=>cbv
    intro n127 h127;conv=>cbv
    refine AI ?_;refine⟨k0-(k'+1),?_,?_⟩
    ·omega
    rw[hJ0];exact⟨k'+1,-m,w158,n127,rfl,⟨⟨by omega⟩,by omega⟩,⟨hw158,by clear hJ0;rcases hk2 with e | e <;> rw[hmv,e] <;> first | rfl | (show- -n=n;grind)⟩,rfl⟩
   obtain⟨hke,hwl⟩:=hbt rfl;subst hke;obtain⟨w144,hw144⟩:=xR (em u (j));refine AB hE (NI h.tail hl52e hwl (hwE.mono (t:=TQ u.length R s+GG u.length R) (by omega)) hj hwj (by omega) hw144) ?_;conv=>cbv
   obtain⟨w153,hw153⟩:=xR (em u (q*j));refine AB hE (Dp h.tail hl52e hl65e hw144 hq hjE (by omega) hw153) ?_;conv=>cbv
   obtain⟨w154,hw154⟩:=xR (em u (t*(q*j)));refine AB hE (Dp h.tail hl52e hw123 hw153 htE (hq.mul h.tail hjE) (by omega) hw154) ?_;conv=>cbv
   have htq:=htE.mul h.tail (hq.mul h.tail hjE);have hBj:B=wl++w154:=by rw[hB,hwl,hw154];exact En h.red hw htq.mem rfl
   refine AB (r:= .one (.sl AA B)) hE (Pq (by rw[hwl,BJ hw];omega) (by rw[hw154,BJ htq.mem];omega) hBj) ?_;try conv=>cbv
   exact AD ⟨t2,t2,trivial⟩
  have k46:=AY h46;exact (IY hr45 k46 h0x).elim
 have k32:=Aj h32;exact absurd k32 (by omega)
end Go.Abs
