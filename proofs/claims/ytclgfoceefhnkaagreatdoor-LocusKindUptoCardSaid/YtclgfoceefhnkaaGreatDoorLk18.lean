/- Part 19 of a proof. Conditions: each theorem's own. -/
import Derived.Test.YtclgfoceefhnkaaGreatDoorLk16
import Derived.Test.YtclgfoceefhnkaaGreatDoorLk17
set_option linter.all false
set_option maxHeartbeats 80000000
set_option maxRecDepth 20000
open Go.Proofs
namespace Go.Abs
open Go.RowKit
variable {A B C:LR} {R s t:Nat} {T:List LR} {p x y:Re} {q:Rat} {r:List Rat} {u:List (List Rat)}
theorem Uu {q:Re} (h:Ah R (r::u)) (L:T=tw (r::u)) (J:A=em (r::u) x) (M:El (r::u) s x) (I:x=p+q*rt u r) (F:In u p) (H:In u q) (Y:2*s+2*EE u.length R+R+1<=60000000000000) (K:C=em u (p*p-q*q*AP u r)):CF 373 [.one (.sl (.sl AA) T),.one (.sl AA A)] (.one (.sl AA C)):=by
 have G:=R4 h.red F H (I ▸ M.bd);have D:El u s p:=⟨F,G.1⟩;have i:El u s q:=⟨H,G.2⟩;have z:=El.Cj h;have hR:=h.hR;refine AM Tryz.func373 fun E w=>?_
 conv=>cbv
 obtain⟨N,d⟩:=xV (tw u);obtain⟨O,j⟩:=xR (Aj r);refine AB w (Pu L d j) ?_;conv=>cbv
 obtain⟨P,f⟩:=xR (em u p);obtain⟨Q,g⟩:=xR (em u q);refine AB w (MC h.red D.mem i.mem I J f g) ?_;conv=>cbv
 obtain⟨S,k⟩:=xR (em u (p*p));refine AB w (KY h.tail d f f D D (by omega) k) ?_;conv=>cbv
 obtain⟨U,m⟩:=xR (em u (q*q));refine AB w (KY h.tail d g g i i (by omega) m) ?_;conv=>cbv
 obtain⟨V,n⟩:=xR (em u (q*q*AP u r));refine AB w (KY h.tail d m (j.trans (Dw h.red)) (i.mul h.tail i) z (by omega) n) ?_;conv=>cbv
 obtain⟨W,o⟩:=xR (em u (-(q*q*AP u r)));refine AB w (Ma h.tail n ((i.mul h.tail i).mul h.tail z) (by omega) o) ?_;conv=>cbv
 obtain⟨X,v⟩:=xR (em u (p*p+ -(q*q*AP u r)));refine AB w (LV h.tail k o (D.mul h.tail D) (((i.mul h.tail i).mul h.tail z).neg h.red.1) (by omega) (by omega) v) ?_;conv=>cbv
 exact AD ⟨⟨rfl,congrArg _ (by rw[K,v];congr 1),trivial⟩,trivial⟩
theorem bu {p:Rat} (O:T=[]) (G:A=[rp p]) (N:B=[rp q]) (Q:Bt p) (w:p≠0) (z:q=1/p):CF 342 [.one (.sl (.sl AA) T),.one (.sl AA A)] (.AJ [(false,[.sl AA B]),(false,[.bool true])]):=by
 refine AM Tryz.func342 fun E H=>?_
 conv=>cbv
 rintro S ⟨v,f15⟩;conv=>cbv
 intro D h;conv=>cbv
 cases D <;> conv=>cbv
 ·have j:=AN h;exact absurd (by rw[v,O];rfl) j
 have j:=AO h;obtain⟨K,L,I,J,f⟩:=Bl (((1:Int):Rat));refine AB H (Gn (by omega) rfl f) ?_;conv=>cbv
 have M:A.length=1:=by rw[G];rfl
 obtain⟨F,d⟩:=AL (l:=A) (i:=0) (by omega);refine⟨F,fun _=>⟨by omega,d⟩,?_⟩;try conv=>cbv
 have P:=ED G d;obtain⟨n,o,k,m,g⟩:=Bl q;refine AB H (Xy f P ⟨by decide +kernel,by decide +kernel⟩ Q w z g) ?_;conv=>cbv
 refine g2 rfl ?_;refine⟨[((n,o),(k,m))],fun _=>⟨rfl,by decide,rfl,⟨rfl,by first | exact t1 | exact t2 | exact t4 | simp[Aq,BG,cells],trivial⟩⟩,.inl ?_⟩;try conv=>cbv
 refine Cc ?_;conv=>cbv
 exact AD ⟨⟨rfl,.inl ⟨_,rfl,by simp,congrArg _ (by rw[N,g.rp];rfl)⟩,trivial⟩,t2,trivial⟩
def QW (f:FuncId) (R:Nat) (u:List (List Rat)):Prop:=∀{T:List LR} {A B:LR} {s:Nat} {x y:Re},T=tw u->A=em u x->El u s x->In u y->x*y=1->II u.length R s<=60000000000000->B=em u y->
 CF f [.one (.sl (.sl AA) T),.one (.sl AA A)] (.AJ [(false,[.sl AA B]),(false,[.bool true])])
def iL (f:FuncId) (u:List (List Rat)):Prop:=∀{T:List LR} {A:LR},T=tw u->A=em u 0->
 ∃l,CF f [.one (.sl (.sl AA) T),.one (.sl AA A)] (.AJ [(false,[.sl AA l]),(false,[.bool false])])
theorem bz {q i:Re} (h:Ah R (r::u)) (ih:QW 342 R u) (S:T=tw (r::u)) (X:A=em (r::u) x) (hx:El (r::u) s x) (I:x=p+q*rt u r) (K:El u s p) (H:El u s q) (Z:In u i) (M:(p*p-q*q*AP u r)*i=1) (hy:y=p*i+ -(q*i)*rt u r) (hs:II (r::u).length R s<=60000000000000) (hB:B=em (r::u) y):CF 342 [.one (.sl (.sl AA) T),.one (.sl AA A)] (.AJ [(false,[.sl AA B]),(false,[.bool true])]):=by
 have aa:II (r::u).length R s=s+EE u.length R+II u.length R (2*s+2*EE u.length R+R+1):=rfl;have Y:=El.norm h K.mem H.mem (I ▸ hx);have d:=Y.inv h.tail Z M;have a5:=D2 u.length R (2*s+2*EE u.length R+R+1);refine AM Tryz.func342 fun E G=>?_
 conv=>cbv
 rintro ab ⟨a8,f15⟩;conv=>cbv
 intro V L;conv=>cbv
 cases V <;> conv=>cbv
 ·have U:=AN L;obtain⟨ad,f⟩:=xV (tw u);obtain⟨ae,Q⟩:=xR (Aj r);refine AB G (Pu S f Q) ?_;conv=>cbv
  obtain⟨af,v⟩:=xR (em u (p*p-q*q*AP u r));refine AB G (Uu h S X hx I K.mem H.mem (by omega) v) ?_;conv=>cbv
  obtain⟨ag,g⟩:=xR (em u i);refine AB G (ih f v Y Z M (by omega) g) ?_;conv=>cbv
  refine BK ?_;conv=>cbv
  obtain⟨ah,w⟩:=xR (em u p);obtain⟨ai,z⟩:=xR (em u q);refine AB G (MC h.red K.mem H.mem I X w z) ?_;conv=>cbv
  obtain⟨n,j⟩:=xR (em u (p*i));obtain⟨a7,k⟩:=xN n.length;refine AB G (mulC h.tail f w g K d (by omega) j k) ?_;conv=>cbv
  obtain⟨aj,D⟩:=xR (em u (q*i));refine AB G (KY h.tail f z g H d (by omega) D) ?_;conv=>cbv
  obtain⟨o,m⟩:=xR (em u (-(q*i)));refine AB G (Ma h.tail D (H.mul h.tail d) (by omega) m) ?_;conv=>cbv
  have a1:n.length=2^u.length:=by rw[j,BI (K.mul h.tail d).mem]
  have a2:o.length=2^u.length:=by rw[m,BI ((H.mul h.tail d).neg h.red.1).mem]
  have a6:=Cu h.tail.ht;refine .inl ⟨o,fun _=>⟨rfl,k,rfl,by show (n.length+o.length)*64<=140737488355328;(try simp only[List.length_take,List.length_drop]);omega⟩,?_⟩;intro (J:LR) W F;have O:J=(n:LR)++(o:LR):=F.1;have P:W=List.length (α:=(el AA)) J:=F.2;conv=>cbv
  have N:B=J:=by rw[hB,O,j,m];exact EN h.red (K.mul h.tail d).mem ((H.mul h.tail d).neg h.red.1).mem hy
  exact AD ⟨⟨rfl,.inl ⟨_,rfl,by omega,congrArg _ (by rw[N,P,List.drop_zero,List.take_length])⟩,trivial⟩,t2,trivial⟩
 have U:=AO L;exact absurd (List.length_eq_zero_iff.1 (by omega)) (S ▸ Jc r u)
theorem bn (h:Ah R u):QW 342 R u:=by
 induction u with
 | nil=>
  intro T A B s x y w m j F d D n;obtain⟨p,rfl⟩:=CV.1 j.mem;obtain⟨q,rfl⟩:=CV.1 F;rw[Dl] at m n;rw[<-Re.ofRat_mul] at d;have e:=Re.JB.1 d;have g:=j.B8 (by have:=D2 0 R s;have:II ([]:List (List Rat)).length R s=II 0 R s:=rfl;omega);rw[DY] at g;exact bu w m n (g _ List.mem_cons_self) (by intro G;subst G;grind) (by grind)
 | cons r u o=>
  intro T A B s x y w m j F d D n;obtain⟨p,q,f,g,z⟩:=El.parts h.red j;have K:=CX h.red;have H:=El.norm h g.mem z.mem (f ▸ j);have v:p*p-q*q*AP u r≠0:=Ut h.red g.mem z.mem (by intro e;rw[<-f] at e;rw[e] at d;have J:(0:Re)<1:=Re.Hc.2 (show (0:Rat)<1 by decide);grind);obtain⟨i,I,k⟩:=EP h.red.1 H.mem v;refine bz h (o h.tail) w m j f g z I k ?_ D n
  have:y=x*y*((p-q*rt u r)*i):=by
   have:x*y*((p-q*rt u r)*i)=y*((p*p-q*q*AP u r)*i):=by rw[f];clear o;grind
   rw[this,k];clear o;grind
  rw[d] at this
  clear o;grind
theorem Jg (h:Ah R u) (m:T=tw u) (g:A=em u x) (i:B=em u y) (d:El u s x) (f:El u t y) (n:s<=60000000000000) (ht:t<=60000000000000) (k:C=em u (x+y)):CF 300 [.one (.sl (.sl AA) T),.one (.sl AA A),.one (.sl AA B)] (.one (.sl AA C)):=by
 refine AM Tryz.func300 fun E j=>?_
 conv=>cbv
 refine AB (r:= .one (.bool true)) j (OO m h.FK g (d.B8 (by omega)) (by rw[d.len,List.length_reverse]) i (f.B8 (by omega)) (by rw[f.len,List.length_reverse])) ?_;conv=>cbv
 refine BK ?_;conv=>cbv
 refine AB j (LV h g i d f n ht k) ?_;conv=>cbv
 exact AD ⟨t2,trivial⟩
theorem NS (h:Ah R u) (n:T=tw u) (j:A=em u x) (k:B=em u y) (i:El u s x) (f:El u t y) (o:s<=60000000000000) (ht:t<=60000000000000) (m:C=em u (x-y)):CF 253 [.one (.sl (.sl AA) T),.one (.sl AA A),.one (.sl AA B)] (.one (.sl AA C)):=by
 refine AM Tryz.func253 fun E g=>?_
 conv=>cbv
 refine AB (r:= .one (.bool true)) g (OO n h.FK j (i.B8 (by omega)) (by rw[i.len,List.length_reverse]) k (f.B8 (by omega)) (by rw[f.len,List.length_reverse])) ?_;conv=>cbv
 refine BK ?_;conv=>cbv
 obtain⟨v,d⟩:=xR (em u (-y));refine AB g (Ma h k f ht d) ?_;conv=>cbv
 refine AB (r:= .one (.sl AA C)) g (LV h j d i (f.neg h.red) o ht (by rw[m];congr 1)) ?_;try conv=>cbv
 exact AD ⟨t2,trivial⟩
theorem GP (h:Ah R u) (m:T=tw u) (i:A=em u x) (j:B=em u y) (f:El u s x) (g:El u t y) (d:s+t+EE u.length R<=60000000000000) (n:C=em u (x*y)):CF 279 [.one (.sl (.sl AA) T),.one (.sl AA A),.one (.sl AA B)] (.one (.sl AA C)):=by
 refine AM Tryz.func279 fun E k=>?_
 conv=>cbv
 refine AB (r:= .one (.bool true)) k (OO m h.FK i (f.B8 (by omega)) (by rw[f.len,List.length_reverse]) j (g.B8 (by omega)) (by rw[g.len,List.length_reverse])) ?_;conv=>cbv
 refine BK ?_;conv=>cbv
 refine AB k (KY h m i j f g d n) ?_;conv=>cbv
 exact AD ⟨t2,trivial⟩
theorem Qb (h:Ah R u) (j:T=tw u) (f:A=em u x) (d:El u s x) (k:s<=60000000000000) (i:C=em u (-x)):CF 168 [.one (.sl (.sl AA) T),.one (.sl AA A)] (.one (.sl AA C)):=by
 refine AM Tryz.func168 fun E g=>?_
 conv=>cbv
 refine AB (r:= .one (.bool true)) g (Gl j h.FK f (d.B8 (by omega)) (by rw[d.len,List.length_reverse];exact (decide_eq_true rfl).symm)) ?_;try conv=>cbv
 refine BK ?_;conv=>cbv
 refine AB g (Ma h f d k i) ?_;conv=>cbv
 exact AD ⟨t2,trivial⟩
theorem NN (h:Ah R u) (j:T=tw u) (g:A=em u x) (d:El u s x) (o:In u y) (f:x*y=1) (n:II u.length R s<=60000000000000) (k:C=em u y):CF 289 [.one (.sl (.sl AA) T),.one (.sl AA A)] (.AJ [(false,[.sl AA C]),(false,[.int .i64 0])]):=by
 have m:=D2 u.length R s;refine AM Tryz.func289 fun E i=>?_
 conv=>cbv
 refine AB (r:= .one (.bool true)) i (Gl j h.FK g (d.B8 (by omega)) (by rw[d.len,List.length_reverse];exact (decide_eq_true rfl).symm)) ?_;try conv=>cbv
 refine BK ?_;conv=>cbv
 refine AB i (bn h j g d o f n k) ?_;conv=>cbv
 refine BK ?_;conv=>cbv
 exact AD ⟨t2,t2,trivial⟩
theorem NO {q:Re} (h:Ah R (r::u)) (f:T=tw (r::u)) (o:A=em (r::u) x) (j:El (r::u) s x) (k:x=p+q*rt u r) (g:In u p) (i:In u q) (D:2*s+2*EE u.length R+R+1<=60000000000000) (z:C=em u (p*p-q*q*AP u r)):CF 376 [.one (.sl (.sl AA) T),.one (.sl AA A)] (.one (.sl AA C)):=by
 refine AM Tryz.func376 fun E v=>?_
 conv=>cbv
 refine AB (r:= .one (.bool true)) v (Gl f h.FK o (j.B8 (by omega)) (by rw[j.len,List.length_reverse];exact (decide_eq_true rfl).symm)) ?_;try conv=>cbv
 refine BK ?_;conv=>cbv
 rintro F ⟨w,f11⟩;conv=>cbv
 intro n d;conv=>cbv
 cases n <;> conv=>cbv
 ·have m:=AN d;refine AB v (Uu h f o j k g i D z) ?_;conv=>cbv
  exact AD ⟨t2,trivial⟩
 have m:=AO d;exact absurd (List.length_eq_zero_iff.1 (by omega)) (f ▸ Jc r u)
theorem fE {n:Nat} (h:0<n):(List.replicate n (rp 0)).set 0 (rp q)=rp q::List.replicate (n-1) (rp 0):=by
 cases n with
 | zero=>omega
 | succ n=>rfl
theorem TE (h:Ag u):em u (Re.ofRat q)=(em u 0).set 0 (rp q):=by
 rw[em,KG q h,OB h,Aj,Aj,List.map_cons,List.map_replicate,List.map_replicate,fE (DR _)]
theorem TF (h:Ag (r::u)):em (r::u) (rt u r)=(em (r::u) 0).set (2^u.length) (rp 1):=by
 have e:rt u r=0+1*rt u r:=by grind
 rw[EN h (CH u) (Ty u) e,EN (x:=0) h (CH u) (CH u) (by grind),List.set_append_right _ _ (by rw[BI (CH u)];omega),BI (CH u),Nat.sub_self]
 congr 1
 exact TE (q:=1) h.1
theorem Ho {b1 b2:Bool} {l1 l2:List UInt32} (h:Ah R u) (F:T=tw u) (w:BE q b1 l1 b2 l2) (M:Bt q) (J:C=em u (Re.ofRat q)):CF 355 [.one (.sl (.sl AA) T),.agg (BV b1 l1 b2 l2)] (.one (.sl AA C)):=by
 refine AM Tryz.func355 fun E o=>?_
 conv=>cbv
 refine AB o (PO F h.FK rfl) ?_;conv=>cbv
 refine BK ?_;conv=>cbv
 have L:=w.small M;refine AB o (Qg (K4.2 ⟨q,w⟩).symm (by omega) (by omega)) ?_;conv=>cbv
 refine BK ?_;conv=>cbv
 have v:T.length=u.length:=by rw[F,Bh]
 have k:=h.ht;rintro N ⟨n,f15⟩;conv=>cbv
 intro O k;conv=>cbv
 refine AH ?_;obtain⟨f,d⟩:=xR (em u (0));obtain⟨I,i⟩:=xN f.length;refine AB o (NI h (EG k (n.trans (congrArg _ v))) d i) ?_;conv=>cbv
 have H:f.length=2^u.length:=by rw[d,BI (CH u)]
 have K:=DR u.length;refine AH ?_;intro z G;conv=>cbv
 refine⟨((b1,l1),(b2,l2)),fun _=>⟨by show _<List.length (α:=(el AA)) f;(first | omega | (simp;omega)),by first | exact t1 | exact t2 | exact t4 | simp[Aq,BG,cells]⟩,?_⟩;intro (j:LR) (g:j=List.set (α:=(el AA)) f z (((b1,l1),(b2,l2))));have D:j.length=f.length:=by rw[g,List.length_set]
 conv=>cbv
 have m:C=j:=by rw[J,TE h.red,g,d,w.rp];congr 1;omega
 exact AD ⟨⟨rfl,.inl ⟨_,rfl,by omega,congrArg _ (by rw[m,List.drop_zero,List.take_of_length_le (by omega)])⟩,trivial⟩,trivial⟩
theorem X5 {k:Int} (h:Ah R (r::u)) (Q:T=tw (r::u)) (hk:AR k u.length) (hC:C=em (r::u) (rt u r)):CF 294 [.one (.sl (.sl AA) T),.one (.int .i64 k)] (.one (.sl AA C)):=by
 have Z:=hk.eq;have L:T.length=u.length+1:=by rw[Q,Bh];rfl
 have a1:=h.ht;have S:(r::u).length=u.length+1:=rfl;refine AM Tryz.func294 fun E K=>?_
 conv=>cbv
 refine AB K (PO Q h.FK rfl) ?_;conv=>cbv
 refine BK ?_;conv=>cbv
 intro N z;conv=>cbv
 cases N <;> conv=>cbv
 ·have G:=AY z;rintro a6 ⟨Y,f16⟩;conv=>cbv
  intro O D;conv=>cbv
  cases O <;> conv=>cbv
  ·have B0:=DI D;rintro a7 ⟨H,f20⟩;conv=>cbv
   intro a8 I;conv=>cbv
   refine AH ?_;obtain⟨f,d⟩:=xR (em (r::u) (0));obtain⟨X,v⟩:=xN f.length;refine AB K (NI h (EG I (H.trans (congrArg _ L))) d v) ?_;conv=>cbv
   intro aa J;conv=>cbv
   refine AH ?_;obtain⟨n,o,j,m,i⟩:=Bl (((1:Int):Rat));refine AB K (Gn (by omega) rfl i) ?_;conv=>cbv
   have V:f.length=2^(r::u).length:=by rw[d,BI (CH _)]
   have a5:=DR u.length;have a2:=Br r u;have W:=(EG J Z).eq;refine AH ?_;intro M U;conv=>cbv
   refine⟨((n,o),(j,m)),fun _=>⟨by show _<List.length (α:=(el AA)) f;(first | omega | (simp;omega)),by first | exact t1 | exact t2 | exact t4 | simp[Aq,BG,cells]⟩,?_⟩;intro (w:LR) (g:w=List.set (α:=(el AA)) f M (((n,o),(j,m))));have P:w.length=f.length:=by rw[g,List.length_set]
   conv=>cbv
   refine g2 rfl ?_;have F:C=w:=by rw[hC,TF h.red,g,d];congr 1 <;> first | omega | exact i.rp
   exact AD ⟨⟨rfl,.inl ⟨_,rfl,by omega,congrArg _ (by rw[F,List.drop_zero,List.take_of_length_le (by omega)])⟩,trivial⟩,trivial⟩
  have B0:=DJ D;exact absurd B0 (by omega)
 have G:=AZ z;exact absurd G (by omega)
end Go.Abs
namespace Go.Abs
open Go.RowKit
variable {a b:Nat} {b1 b2 c c1 c2 d1 d2:Bool} {k1 k2 l l' l1 l2 m1 m2:List UInt32} {r:Rat} {x y:Int}
theorem MV (p q:Rat):(p*q).num=(p.num/((Nat.gcd p.num.natAbs q.den:Nat):Int))*(q.num/((Nat.gcd q.num.natAbs p.den:Nat):Int)):=by
 show (Rat.mul p q).num=_
 unfold Rat.mul
 dsimp only
 rw[Int.divExact_eq_ediv,Int.divExact_eq_ediv]
theorem MU (p q:Rat):((p*q).den:Int)=((p.den:Int)/((Nat.gcd q.num.natAbs p.den:Nat):Int))*((q.den:Int)/((Nat.gcd p.num.natAbs q.den:Nat):Int)):=by
 have:(p*q).den=(p.den/Nat.gcd q.num.natAbs p.den)*(q.den/Nat.gcd p.num.natAbs q.den):=by
  show (Rat.mul p q).den=_
  unfold Rat.mul
  dsimp only
  rw[Nat.divExact_eq_div,Nat.divExact_eq_div]
 rw[this,Int.natCast_mul,Int.natCast_ediv,Int.natCast_ediv]
theorem RZ (p q:Rat) (h:Nat.gcd p.den q.den=1):(p+q).num=p.num*q.den+q.num*p.den/\((p+q).den:Int)=(p.den:Int)*q.den:=by
 have:(p+q)=Rat.add p q:=rfl;rw[this];unfold Rat.add
 dsimp only
 rw[dif_pos h];exact⟨rfl,by rw[Int.natCast_mul]⟩
theorem Ra (p q:Rat) {g h:Nat} {N:Int} (i:g=Nat.gcd p.den q.den) (m:g≠1) (v:x=(p.den:Int)/g) (w:y=(q.den:Int)/g) (n:N=p.num*y+q.num*x) (k:h=Nat.gcd N.natAbs g):
  (p+q).num=N/h/\((p+q).den:Int)=x*((q.den:Int)/h):=by
 have e:(p+q)=Rat.add p q:=rfl;have d:x=((p.den/g:Nat):Int):=by rw[v,Int.natCast_ediv]
 have j:y=((q.den/g:Nat):Int):=by rw[w,Int.natCast_ediv]
 have f:p.num*((q.den/Nat.gcd p.den q.den:Nat):Int)+q.num*((p.den/Nat.gcd p.den q.den:Nat):Int)=N:=by rw[n,d,j,i]
 have o:h∣q.den:=by rw[k];exact Nat.dvd_trans (Nat.gcd_dvd_right _ _) (by rw[i];exact Nat.gcd_dvd_right _ _)
 subst i;rw[e];unfold Rat.add
 dsimp only
 rw[dif_neg m,Rat.maybeNormalize_eq]
 dsimp only
 rw[Int.divExact_eq_ediv,f,<-k];refine⟨rfl,?_⟩;rw[d,Nat.mul_div_assoc _ o,Int.natCast_mul,Int.natCast_ediv (q.den)]
theorem EC {a:Int} (d:b≠0):a=a/((Nat.gcd a.natAbs b:Nat):Int)*((Nat.gcd a.natAbs b:Nat):Int)/\(b:Int)=(b:Int)/((Nat.gcd a.natAbs b:Nat):Int)*((Nat.gcd a.natAbs b:Nat):Int):=by
 exact⟨(Int.ediv_mul_cancel (Int.ofNat_dvd_left.2 (Nat.gcd_dvd_left _ _))).symm,(Int.ediv_mul_cancel (Int.natCast_dvd_natCast.2 (Nat.gcd_dvd_right _ _))).symm⟩
theorem D4 (d:b≠0):((Nat.gcd a b:Nat):Int)≠0:=by
 have:=Nat.gcd_pos_of_pos_right a (n:=b) (by omega);omega
theorem FA {q:Int} {b b':Bool} (f:Af x b l) (d:Af q b' l') (g:y≠0) (h:x=q*y):l'.length<=l.length:=by
 rw[f.BD,d.BD];exact Df (by rw[h,Int.natAbs_mul];exact Nat.le_mul_of_pos_right _ (by omega))
theorem FZ {x:Int} {d:Bool} (f:b≠0) (h:Af (b:Int) c l) (h':Af ((Nat.gcd a b:Nat):Int) d l'):l'.length<=l.length:=by
 rw[h.BD,h'.BD,Int.natAbs_natCast,Int.natAbs_natCast];exact Df (Nat.le_of_dvd (by omega) (Nat.gcd_dvd_right _ _))
theorem HP {b:Bool} (h:Af x b l) (k:c=decide (x=1)):CF 197 [.agg (BC b l)] (.one (.bool c)):=by
 refine AM Tryz.func197 fun E I=>?_
 conv=>cbv
 rintro J ⟨H,f5⟩;conv=>cbv
 intro G v;conv=>cbv
 cases G <;> conv=>cbv
 ·have z:=AN v;exact AD ⟨⟨rfl,congrArg _ (by rw[k];exact (U8 h (by omega)).symm),trivial⟩,trivial⟩
 have z:=AO v;obtain⟨o,d⟩:=AL (l:=l) (i:=0) (by omega);refine⟨o,fun _=>⟨by omega,d⟩,?_⟩;try conv=>cbv
 intro D f;have w:=f.eq;have f11:=f.lt;conv=>cbv
 intro n g;conv=>cbv
 cases n <;> conv=>cbv
 ·have m:=AN g;exact AD ⟨⟨rfl,congrArg _ (by rw[k];cases b with | true=>exact (PD h rfl).symm | false=>rw[<-PF h rfl (by omega) d];simp only[decide_eq_false_iff_not];omega),trivial⟩,trivial⟩
 have m:=AO g;intro F j;conv=>cbv
 exact AD ⟨⟨rfl,congrArg _ (by rw[k,j];cases b with | true=>exact (PD h rfl).symm | false=>rw[<-PF h rfl (by omega) d];simp;omega),trivial⟩,trivial⟩
theorem Dv {q:Int} {b3:Bool} {l3:List UInt32} (i:Af x b1 l1) (j:Af y b2 l2) (f:y≠0) (d:x=q*y) (h:Af q b3 l3) (s1:l1.length<=17592186043000) (s2:l2.length<=17592186043000):CF 277 [.agg (BC b1 l1),.agg (BC b2 l2)] (.agg (BC b3 l3)):=by
 refine AM Tryz.func277 fun E g=>?_
 conv=>cbv
 refine AB g (YJ i j f d h s1 s2) ?_;conv=>cbv
 exact AD ⟨t3,trivial⟩
theorem D3 {q:Rat} (j: -9223372036854775808<=x/\x<9223372036854775808) (g:q=(x:Rat)) (h:BE q c1 m1 c2 m2):CF 34 [.one (.int .i64 x)] (.agg (BV c1 m1 c2 m2)):=by
 refine AM Tryz.func34 fun E i=>?_
 conv=>cbv
 obtain⟨k,n,d⟩:=AW (x);refine AB i (Jr j d) ?_;conv=>cbv
 obtain⟨m,o,f⟩:=AW (1);refine AB i (Jr (by omega) f) ?_;conv=>cbv
 exact AD ⟨⟨rfl,congrArg _ ((d.uniq h.num (by rw[g];rfl)).1.symm),congrArg _ ((d.uniq h.num (by rw[g];rfl)).2.symm),congrArg _ ((f.uniq h.den (by rw[g];rfl)).1.symm),congrArg _ ((f.uniq h.den (by rw[g];rfl)).2.symm),trivial⟩,trivial⟩
theorem NW {q:Rat} {c:Int} (h:BE q b1 l1 b2 l2) (g:c=DO q):CF 259 [.agg (BV b1 l1 b2 l2)] (.one (.int .i64 c)):=by
 refine AM Tryz.func259 fun E f=>?_
 conv=>cbv
 obtain⟨i,d⟩:=xI (B7 q.num);refine AB f (Hu h.num d) ?_;conv=>cbv
 exact AD ⟨⟨rfl,congrArg _ (by rw[g,d];rfl),trivial⟩,trivial⟩
theorem Yc {q p:Rat} (h:BE q b1 l1 b2 l2) (f:p= -q) (g:BE p c1 m1 c2 m2):CF 199 [.agg (BV b1 l1 b2 l2)] (.agg (BV c1 m1 c2 m2)):=by
 refine AM Tryz.func199 fun E i=>?_
 conv=>cbv
 obtain⟨j,k,d⟩:=AW (-q.num);refine AB i (Ju h.num d) ?_;conv=>cbv
 refine g2 rfl ?_;exact AD ⟨⟨rfl,congrArg _ ((d.uniq g.num (by rw[f];rfl)).1.symm),congrArg _ ((d.uniq g.num (by rw[f];rfl)).2.symm),congrArg _ ((h.den.uniq g.den (by rw[f];rfl)).1.symm),congrArg _ ((h.den.uniq g.den (by rw[f];rfl)).2.symm),trivial⟩,trivial⟩
theorem YZ {p q:Rat} {c:Int} (f:BE p b1 l1 b2 l2) (g:BE q c1 m1 c2 m2) (j:Bt p) (ht:Bt q) (z:c=FV p q):CF 364 [.agg (BV b1 l1 b2 l2),.agg (BV c1 m1 c2 m2)] (.one (.int .i64 c)):=by
 refine AM Tryz.func364 fun E n=>?_
 conv=>cbv
 obtain⟨v,w,i⟩:=AW (p.num*q.den);refine AB (r:= .agg [.bool v,.sl .u32 w]) n (DF f.num g.den i (by have:=f.small j;have:=g.small ht;omega) (by have:=f.small j;have:=g.small ht;omega)) ?_;try conv=>cbv
 obtain⟨k,m,d⟩:=AW (q.num*p.den);refine AB (r:= .agg [.bool k,.sl .u32 m]) n (DF g.num f.den d (by have:=f.small j;have:=g.small ht;omega) (by have:=f.small j;have:=g.small ht;omega)) ?_;try conv=>cbv
 obtain⟨o,h⟩:=xI (BQ (p.num*q.den) (q.num*p.den));refine AB (r:= .one (.int .i64 o)) n (YI i d h (by have:=f.small j;have:=g.small ht;have:=f.num.C8 g.den i rfl;omega) (by have:=f.small j;have:=g.small ht;have:=g.num.C8 f.den d rfl;omega)) ?_;try conv=>cbv
 refine g2 rfl ?_;exact AD ⟨⟨rfl,congrArg _ (by rw[z,h,Sd]),trivial⟩,trivial⟩
theorem Q0 {p q:Rat} (k:BE p b1 l1 b2 l2) (F:BE q c1 m1 c2 m2) (hs:Bt p) (ht:Bt q) (I:r=p*q) (G:BE r d1 k1 d2 k2):CF 203 [.agg (BV b1 l1 b2 l2),.agg (BV c1 m1 c2 m2)] (.agg (BV d1 k1 d2 k2)):=by
 have an:=k.small hs;have ao:=F.small ht;have d:=p.den_nz;have f:=q.den_nz;refine AM Tryz.func203 fun E D=>?_
 conv=>cbv
 rintro aq ⟨ak,f10⟩;conv=>cbv
 intro ag a5;conv=>cbv
 cases ag <;> conv=>cbv
 ·have af:=AN a5;rintro ar ⟨al,f16⟩;conv=>cbv
  intro ah a6;conv=>cbv
  cases ah <;> conv=>cbv
  ·have B0:=AN a6;obtain⟨ad,j⟩:=xB (decide ((p.den:Int)=1));refine AB D (HP k.den j) ?_;conv=>cbv
   cases ad <;> conv=>cbv
   ·obtain⟨a7,aa,h⟩:=AW (((Nat.gcd p.num.natAbs q.den:Nat):Int));refine AB D (Fp k.num F.den h (by omega) (by omega)) ?_;conv=>cbv
    obtain⟨a8,ab,i⟩:=AW (((Nat.gcd q.num.natAbs p.den:Nat):Int));refine AB D (Fp F.num k.den i (by omega) (by omega)) ?_;conv=>cbv
    refine g2 rfl ?_;obtain⟨N,W,m⟩:=AW (p.num/((Nat.gcd p.num.natAbs q.den:Nat):Int));refine AB (r:= .agg [.bool N,.sl .u32 W]) D (Dv k.num h (D4 f) (EC f).1 m (by omega) (by have:=FZ (x:=0) f F.den h;omega)) ?_;try conv=>cbv
    obtain⟨O,X,n⟩:=AW (q.num/((Nat.gcd q.num.natAbs p.den:Nat):Int));refine AB (r:= .agg [.bool O,.sl .u32 X]) D (Dv F.num i (D4 d) (EC d).1 n (by omega) (by have:=FZ (x:=0) d k.den i;omega)) ?_;try conv=>cbv
    obtain⟨P,Y,o⟩:=AW ((p.num/((Nat.gcd p.num.natAbs q.den:Nat):Int))*(q.num/((Nat.gcd q.num.natAbs p.den:Nat):Int)));refine AB (r:= .agg [.bool P,.sl .u32 Y]) D (DF m n o (by have:=FA k.num m (D4 f) (EC f).1;omega) (by have:=FA F.num n (D4 d) (EC d).1;omega)) ?_;try conv=>cbv
    obtain⟨Q,Z,v⟩:=AW ((p.den:Int)/((Nat.gcd q.num.natAbs p.den:Nat):Int));refine AB (r:= .agg [.bool Q,.sl .u32 Z]) D (Dv k.den i (D4 d) (EC d).2 v (by omega) (by have:=FZ (x:=0) d k.den i;omega)) ?_;try conv=>cbv
    obtain⟨S,a1,w⟩:=AW ((q.den:Int)/((Nat.gcd p.num.natAbs q.den:Nat):Int));refine AB (r:= .agg [.bool S,.sl .u32 a1]) D (Dv F.den h (D4 f) (EC f).2 w (by omega) (by have:=FZ (x:=0) f F.den h;omega)) ?_;try conv=>cbv
    obtain⟨U,a2,z⟩:=AW (((p.den:Int)/((Nat.gcd q.num.natAbs p.den:Nat):Int))*((q.den:Int)/((Nat.gcd p.num.natAbs q.den:Nat):Int)));refine AB (r:= .agg [.bool U,.sl .u32 a2]) D (DF v w z (by have:=FA k.den v (D4 d) (EC d).2;omega) (by have:=FA F.den w (D4 f) (EC f).2;omega)) ?_;try conv=>cbv
    refine g2 rfl ?_;exact AD ⟨⟨rfl,congrArg _ ((o.uniq G.num (by rw[I,MV])).1.symm),congrArg _ ((o.uniq G.num (by rw[I,MV])).2.symm),congrArg _ ((z.uniq G.den (by rw[I,MU])).1.symm),congrArg _ ((z.uniq G.den (by rw[I,MU])).2.symm),trivial⟩,trivial⟩
   obtain⟨ae,H⟩:=xB (decide ((q.den:Int)=1));refine AB D (HP F.den H) ?_;conv=>cbv
   cases ae <;> conv=>cbv
   ·obtain⟨a7,aa,h⟩:=AW (((Nat.gcd p.num.natAbs q.den:Nat):Int));refine AB D (Fp k.num F.den h (by omega) (by omega)) ?_;conv=>cbv
    obtain⟨a8,ab,i⟩:=AW (((Nat.gcd q.num.natAbs p.den:Nat):Int));refine AB D (Fp F.num k.den i (by omega) (by omega)) ?_;conv=>cbv
    refine g2 rfl ?_;obtain⟨N,W,m⟩:=AW (p.num/((Nat.gcd p.num.natAbs q.den:Nat):Int));refine AB (r:= .agg [.bool N,.sl .u32 W]) D (Dv k.num h (D4 f) (EC f).1 m (by omega) (by have:=FZ (x:=0) f F.den h;omega)) ?_;try conv=>cbv
    obtain⟨O,X,n⟩:=AW (q.num/((Nat.gcd q.num.natAbs p.den:Nat):Int));refine AB (r:= .agg [.bool O,.sl .u32 X]) D (Dv F.num i (D4 d) (EC d).1 n (by omega) (by have:=FZ (x:=0) d k.den i;omega)) ?_;try conv=>cbv
    obtain⟨P,Y,o⟩:=AW ((p.num/((Nat.gcd p.num.natAbs q.den:Nat):Int))*(q.num/((Nat.gcd q.num.natAbs p.den:Nat):Int)));refine AB (r:= .agg [.bool P,.sl .u32 Y]) D (DF m n o (by have:=FA k.num m (D4 f) (EC f).1;omega) (by have:=FA F.num n (D4 d) (EC d).1;omega)) ?_;try conv=>cbv
    obtain⟨Q,Z,v⟩:=AW ((p.den:Int)/((Nat.gcd q.num.natAbs p.den:Nat):Int));refine AB (r:= .agg [.bool Q,.sl .u32 Z]) D (Dv k.den i (D4 d) (EC d).2 v (by omega) (by have:=FZ (x:=0) d k.den i;omega)) ?_;try conv=>cbv
    obtain⟨S,a1,w⟩:=AW ((q.den:Int)/((Nat.gcd p.num.natAbs q.den:Nat):Int));refine AB (r:= .agg [.bool S,.sl .u32 a1]) D (Dv F.den h (D4 f) (EC f).2 w (by omega) (by have:=FZ (x:=0) f F.den h;omega)) ?_;try conv=>cbv
    obtain⟨U,a2,z⟩:=AW (((p.den:Int)/((Nat.gcd q.num.natAbs p.den:Nat):Int))*((q.den:Int)/((Nat.gcd p.num.natAbs q.den:Nat):Int)));refine AB (r:= .agg [.bool U,.sl .u32 a2]) D (DF v w z (by have:=FA k.den v (D4 d) (EC d).2;omega) (by have:=FA F.den w (D4 f) (EC f).2;omega)) ?_;try conv=>cbv
    refine g2 rfl ?_;exact AD ⟨⟨rfl,congrArg _ ((o.uniq G.num (by rw[I,MV])).1.symm),congrArg _ ((o.uniq G.num (by rw[I,MV])).2.symm),congrArg _ ((z.uniq G.den (by rw[I,MU])).1.symm),congrArg _ ((z.uniq G.den (by rw[I,MU])).2.symm),trivial⟩,trivial⟩
   obtain⟨ai,aj,J⟩:=AW (p.num*q.num);refine AB D (DF k.num F.num J (by omega) (by omega)) ?_;conv=>cbv
   refine g2 rfl ?_;exact AD ⟨⟨rfl,congrArg _ ((J.uniq G.num (by rw[I];exact (mul_ones (of_decide_eq_true j.symm) (of_decide_eq_true H.symm)).1.symm)).1.symm),congrArg _ ((J.uniq G.num (by rw[I];exact (mul_ones (of_decide_eq_true j.symm) (of_decide_eq_true H.symm)).1.symm)).2.symm),congrArg _ ((k.den.uniq G.den (by rw[I,(mul_ones (of_decide_eq_true j.symm) (of_decide_eq_true H.symm)).2];exact of_decide_eq_true j.symm)).1.symm),congrArg _ ((k.den.uniq G.den (by rw[I,(mul_ones (of_decide_eq_true j.symm) (of_decide_eq_true H.symm)).2];exact of_decide_eq_true j.symm)).2.symm),trivial⟩,trivial⟩
  have B0:=AO a6;obtain⟨M,V,K,L,g⟩:=Bl (r);refine AB (r:= .agg [.bool M,.sl .u32 V,.bool K,.sl .u32 L]) D (D3 (x:=0) (by omega) (by rw[I];first | (rw[Rat.num_eq_zero.1 (k.num.Eo.1 (by omega)),Rat.zero_mul];rfl) | (rw[Rat.num_eq_zero.1 (F.num.Eo.1 (by omega)),Rat.mul_zero];rfl)) g) ?_;try conv=>cbv
  exact AD ⟨⟨rfl,congrArg _ ((g.uniq G rfl).1.1.symm),congrArg _ ((g.uniq G rfl).1.2.symm),congrArg _ ((g.uniq G rfl).2.1.symm),congrArg _ ((g.uniq G rfl).2.2.symm),trivial⟩,trivial⟩
 have af:=AO a5;obtain⟨M,V,K,L,g⟩:=Bl (r);refine AB (r:= .agg [.bool M,.sl .u32 V,.bool K,.sl .u32 L]) D (D3 (x:=0) (by omega) (by rw[I];first | (rw[Rat.num_eq_zero.1 (k.num.Eo.1 (by omega)),Rat.zero_mul];rfl) | (rw[Rat.num_eq_zero.1 (F.num.Eo.1 (by omega)),Rat.mul_zero];rfl)) g) ?_;try conv=>cbv
 exact AD ⟨⟨rfl,congrArg _ ((g.uniq G rfl).1.1.symm),congrArg _ ((g.uniq G rfl).1.2.symm),congrArg _ ((g.uniq G rfl).2.1.symm),congrArg _ ((g.uniq G rfl).2.2.symm),trivial⟩,trivial⟩
theorem YY {p q:Rat} (i:BE p b1 l1 b2 l2) (g:BE q c1 m1 c2 m2) (hs:Bt p) (ht:Bt q) (M:r=p+q) (w:BE r d1 k1 d2 k2):CF 209 [.agg (BV b1 l1 b2 l2),.agg (BV c1 m1 c2 m2)] (.agg (BV d1 k1 d2 k2)):=by
 have aZ:=i.small hs;have b0:=g.small ht;have aY:=p.den_nz;have a7:=q.den_nz;have P:((Nat.gcd p.den q.den:Nat):Int)≠0:=D4 a7;obtain⟨x,a8⟩:=xI ((p.den:Int)/((Nat.gcd p.den q.den:Nat):Int));obtain⟨y,aa⟩:=xI ((q.den:Int)/((Nat.gcd p.den q.den:Nat):Int));have a1:(p.den:Int)=x*((Nat.gcd p.den q.den:Nat):Int):=by rw[a8];exact (Int.ediv_mul_cancel (Int.natCast_dvd_natCast.2 (Nat.gcd_dvd_left _ _))).symm
 have a2:(q.den:Int)=y*((Nat.gcd p.den q.den:Nat):Int):=by rw[aa];exact (Int.ediv_mul_cancel (Int.natCast_dvd_natCast.2 (Nat.gcd_dvd_right _ _))).symm
 refine AM Tryz.func209 fun E h=>?_
 conv=>cbv
 rintro b3 ⟨aW,f14⟩;conv=>cbv
 intro aS ab;conv=>cbv
 cases aS <;> conv=>cbv
 ·have aQ:=AN ab;rintro b4 ⟨aX,f20⟩;conv=>cbv
  intro aT ad;conv=>cbv
  cases aT <;> conv=>cbv
  ·have aR:=AN ad;obtain⟨aO,z⟩:=xB (decide ((p.den:Int)=1));refine AB h (HP i.den z) ?_;conv=>cbv
   cases aO <;> conv=>cbv
   ·obtain⟨an,aC,d⟩:=AW (((Nat.gcd p.den q.den:Nat):Int));refine AB h (Fp i.den g.den d (by omega) (by omega)) ?_;conv=>cbv
    have ae:=FZ (x:=0) a7 g.den d;obtain⟨a5,D⟩:=xB (decide (((Nat.gcd p.den q.den:Nat):Int)=1));refine AB h (HP d D) ?_;conv=>cbv
    cases a5 <;> conv=>cbv
    ·obtain⟨au,aG,f⟩:=AW (x);refine AB h (Dv i.den d P a1 f (by omega) (by omega)) ?_;conv=>cbv
     have af:=FA i.den f P a1;obtain⟨av,aH,j⟩:=AW (y);refine AB h (Dv g.den d P a2 j (by omega) (by omega)) ?_;conv=>cbv
     have ag:=FA g.den j P a2;refine g2 rfl ?_;obtain⟨aw,aI,m⟩:=AW (p.num*y);refine AB h (DF i.num j m (by omega) (by omega)) ?_;conv=>cbv
     have ah:=i.num.C8 j m rfl;obtain⟨ax,aJ,n⟩:=AW (q.num*x);refine AB h (DF g.num f n (by omega) (by omega)) ?_;conv=>cbv
     have ai:=g.num.C8 f n rfl;obtain⟨ay,aK,o⟩:=AW ((p.num*y+q.num*x));refine AB h (IY m n o (by omega) (by omega)) ?_;conv=>cbv
     have aj:=m.LS n o rfl (k:=8000000000000) (by omega) (by omega);refine g2 rfl ?_;obtain⟨X,Z,v⟩:=AW (((Nat.gcd (p.num*y+q.num*x).natAbs (Nat.gcd p.den q.den):Nat):Int));refine AB (r:= .agg [.bool X,.sl .u32 Z]) h (Fp o d (by rw[Int.natAbs_natCast];exact v) (by omega) (by omega)) ?_;try conv=>cbv
     have Q:Nat.gcd p.den q.den≠0:=by omega
     have ak:=FZ (x:=0) Q d v;have a6:(p.num*y+q.num*x)=(p.num*y+q.num*x)/((Nat.gcd (p.num*y+q.num*x).natAbs (Nat.gcd p.den q.den):Nat):Int)*((Nat.gcd (p.num*y+q.num*x).natAbs (Nat.gcd p.den q.den):Nat):Int):=(EC Q).1;have S:=D4 (a:=(p.num*y+q.num*x).natAbs) Q;have U:(q.den:Int)=(q.den:Int)/((Nat.gcd (p.num*y+q.num*x).natAbs (Nat.gcd p.den q.den):Nat):Int)*((Nat.gcd (p.num*y+q.num*x).natAbs (Nat.gcd p.den q.den):Nat):Int):=(Int.ediv_mul_cancel (Int.natCast_dvd_natCast.2 (Nat.dvd_trans (Nat.gcd_dvd_right _ _) (Nat.gcd_dvd_right _ _)))).symm;obtain⟨az,aL,J⟩:=AW ((p.num*y+q.num*x)/((Nat.gcd (p.num*y+q.num*x).natAbs (Nat.gcd p.den q.den):Nat):Int));refine AB h (Dv o v S a6 J (by omega) (by omega)) ?_;conv=>cbv
     obtain⟨aA,aM,K⟩:=AW ((q.den:Int)/((Nat.gcd (p.num*y+q.num*x).natAbs (Nat.gcd p.den q.den):Nat):Int));refine AB h (Dv g.den v S U K (by omega) (by omega)) ?_;conv=>cbv
     have al:=FA g.den K S U;obtain⟨aB,aN,L⟩:=AW (x*((q.den:Int)/((Nat.gcd (p.num*y+q.num*x).natAbs (Nat.gcd p.den q.den):Nat):Int)));refine AB h (DF f K L (by omega) (by omega)) ?_;conv=>cbv
     refine g2 rfl ?_;have N:=Ra p q rfl (fun e=>by have:=of_decide_eq_false D.symm;omega) a8 aa rfl rfl;exact AD ⟨⟨rfl,congrArg _ ((J.uniq w.num (by rw[M];exact N.1.symm)).1.symm),congrArg _ ((J.uniq w.num (by rw[M];exact N.1.symm)).2.symm),congrArg _ ((L.uniq w.den (by rw[M];exact N.2.symm)).1.symm),congrArg _ ((L.uniq w.den (by rw[M];exact N.2.symm)).2.symm),trivial⟩,trivial⟩
    obtain⟨ao,aD,F⟩:=AW (p.num*q.den);refine AB h (DF i.num g.den F (by omega) (by omega)) ?_;conv=>cbv
    obtain⟨aq,aE,G⟩:=AW (q.num*p.den);refine AB h (DF g.num i.den G (by omega) (by omega)) ?_;conv=>cbv
    obtain⟨W,Y,H⟩:=AW (p.num*q.den+q.num*p.den);refine AB (r:= .agg [.bool W,.sl .u32 Y]) h (IY F G H (by have:=i.num.C8 g.den F rfl;omega) (by have:=g.num.C8 i.den G rfl;omega)) ?_;try conv=>cbv
    refine g2 rfl ?_;obtain⟨ar,aF,I⟩:=AW ((p.den:Int)*q.den);refine AB h (DF i.den g.den I (by omega) (by omega)) ?_;conv=>cbv
    refine g2 rfl ?_;have N:=RZ p q (by have:=of_decide_eq_true D.symm;omega);exact AD ⟨⟨rfl,congrArg _ ((H.uniq w.num (by rw[M];exact N.1.symm)).1.symm),congrArg _ ((H.uniq w.num (by rw[M];exact N.1.symm)).2.symm),congrArg _ ((I.uniq w.den (by rw[M];exact N.2.symm)).1.symm),congrArg _ ((I.uniq w.den (by rw[M];exact N.2.symm)).2.symm),trivial⟩,trivial⟩
   obtain⟨aP,O⟩:=xB (decide ((q.den:Int)=1));refine AB h (HP g.den O) ?_;conv=>cbv
   cases aP <;> conv=>cbv
   ·obtain⟨an,aC,d⟩:=AW (((Nat.gcd p.den q.den:Nat):Int));refine AB h (Fp i.den g.den d (by omega) (by omega)) ?_;conv=>cbv
    have ae:=FZ (x:=0) a7 g.den d;obtain⟨a5,D⟩:=xB (decide (((Nat.gcd p.den q.den:Nat):Int)=1));refine AB h (HP d D) ?_;conv=>cbv
    cases a5 <;> conv=>cbv
    ·obtain⟨au,aG,f⟩:=AW (x);refine AB h (Dv i.den d P a1 f (by omega) (by omega)) ?_;conv=>cbv
     have af:=FA i.den f P a1;obtain⟨av,aH,j⟩:=AW (y);refine AB h (Dv g.den d P a2 j (by omega) (by omega)) ?_;conv=>cbv
     have ag:=FA g.den j P a2;refine g2 rfl ?_;obtain⟨aw,aI,m⟩:=AW (p.num*y);refine AB h (DF i.num j m (by omega) (by omega)) ?_;conv=>cbv
     have ah:=i.num.C8 j m rfl;obtain⟨ax,aJ,n⟩:=AW (q.num*x);refine AB h (DF g.num f n (by omega) (by omega)) ?_;conv=>cbv
     have ai:=g.num.C8 f n rfl;obtain⟨ay,aK,o⟩:=AW ((p.num*y+q.num*x));refine AB h (IY m n o (by omega) (by omega)) ?_;conv=>cbv
     have aj:=m.LS n o rfl (k:=8000000000000) (by omega) (by omega);refine g2 rfl ?_;obtain⟨X,Z,v⟩:=AW (((Nat.gcd (p.num*y+q.num*x).natAbs (Nat.gcd p.den q.den):Nat):Int));refine AB (r:= .agg [.bool X,.sl .u32 Z]) h (Fp o d (by rw[Int.natAbs_natCast];exact v) (by omega) (by omega)) ?_;try conv=>cbv
     have Q:Nat.gcd p.den q.den≠0:=by omega
     have ak:=FZ (x:=0) Q d v;have a6:(p.num*y+q.num*x)=(p.num*y+q.num*x)/((Nat.gcd (p.num*y+q.num*x).natAbs (Nat.gcd p.den q.den):Nat):Int)*((Nat.gcd (p.num*y+q.num*x).natAbs (Nat.gcd p.den q.den):Nat):Int):=(EC Q).1;have S:=D4 (a:=(p.num*y+q.num*x).natAbs) Q;have U:(q.den:Int)=(q.den:Int)/((Nat.gcd (p.num*y+q.num*x).natAbs (Nat.gcd p.den q.den):Nat):Int)*((Nat.gcd (p.num*y+q.num*x).natAbs (Nat.gcd p.den q.den):Nat):Int):=(Int.ediv_mul_cancel (Int.natCast_dvd_natCast.2 (Nat.dvd_trans (Nat.gcd_dvd_right _ _) (Nat.gcd_dvd_right _ _)))).symm;obtain⟨az,aL,J⟩:=AW ((p.num*y+q.num*x)/((Nat.gcd (p.num*y+q.num*x).natAbs (Nat.gcd p.den q.den):Nat):Int));refine AB h (Dv o v S a6 J (by omega) (by omega)) ?_;conv=>cbv
     obtain⟨aA,aM,K⟩:=AW ((q.den:Int)/((Nat.gcd (p.num*y+q.num*x).natAbs (Nat.gcd p.den q.den):Nat):Int));refine AB h (Dv g.den v S U K (by omega) (by omega)) ?_;conv=>cbv
     have al:=FA g.den K S U;obtain⟨aB,aN,L⟩:=AW (x*((q.den:Int)/((Nat.gcd (p.num*y+q.num*x).natAbs (Nat.gcd p.den q.den):Nat):Int)));refine AB h (DF f K L (by omega) (by omega)) ?_;conv=>cbv
     refine g2 rfl ?_;have N:=Ra p q rfl (fun e=>by have:=of_decide_eq_false D.symm;omega) a8 aa rfl rfl;exact AD ⟨⟨rfl,congrArg _ ((J.uniq w.num (by rw[M];exact N.1.symm)).1.symm),congrArg _ ((J.uniq w.num (by rw[M];exact N.1.symm)).2.symm),congrArg _ ((L.uniq w.den (by rw[M];exact N.2.symm)).1.symm),congrArg _ ((L.uniq w.den (by rw[M];exact N.2.symm)).2.symm),trivial⟩,trivial⟩
    obtain⟨ao,aD,F⟩:=AW (p.num*q.den);refine AB h (DF i.num g.den F (by omega) (by omega)) ?_;conv=>cbv
    obtain⟨aq,aE,G⟩:=AW (q.num*p.den);refine AB h (DF g.num i.den G (by omega) (by omega)) ?_;conv=>cbv
    obtain⟨W,Y,H⟩:=AW (p.num*q.den+q.num*p.den);refine AB (r:= .agg [.bool W,.sl .u32 Y]) h (IY F G H (by have:=i.num.C8 g.den F rfl;omega) (by have:=g.num.C8 i.den G rfl;omega)) ?_;try conv=>cbv
    refine g2 rfl ?_;obtain⟨ar,aF,I⟩:=AW ((p.den:Int)*q.den);refine AB h (DF i.den g.den I (by omega) (by omega)) ?_;conv=>cbv
    refine g2 rfl ?_;have N:=RZ p q (by have:=of_decide_eq_true D.symm;omega);exact AD ⟨⟨rfl,congrArg _ ((H.uniq w.num (by rw[M];exact N.1.symm)).1.symm),congrArg _ ((H.uniq w.num (by rw[M];exact N.1.symm)).2.symm),congrArg _ ((I.uniq w.den (by rw[M];exact N.2.symm)).1.symm),congrArg _ ((I.uniq w.den (by rw[M];exact N.2.symm)).2.symm),trivial⟩,trivial⟩
   obtain⟨aU,aV,V⟩:=AW (p.num+q.num);refine AB h (IY i.num g.num V (by omega) (by omega)) ?_;conv=>cbv
   refine g2 rfl ?_;exact AD ⟨⟨rfl,congrArg _ ((V.uniq w.num (by rw[M];exact (HQ (of_decide_eq_true z.symm) (of_decide_eq_true O.symm)).1.symm)).1.symm),congrArg _ ((V.uniq w.num (by rw[M];exact (HQ (of_decide_eq_true z.symm) (of_decide_eq_true O.symm)).1.symm)).2.symm),congrArg _ ((i.den.uniq w.den (by rw[M,(HQ (of_decide_eq_true z.symm) (of_decide_eq_true O.symm)).2];exact of_decide_eq_true z.symm)).1.symm),congrArg _ ((i.den.uniq w.den (by rw[M,(HQ (of_decide_eq_true z.symm) (of_decide_eq_true O.symm)).2];exact of_decide_eq_true z.symm)).2.symm),trivial⟩,trivial⟩
  have aR:=AO ad;have e0:q=0:=Rat.num_eq_zero.1 (g.num.Eo.1 (by omega));have e1:r=p:=by rw[M,e0,Rat.add_zero]
  exact AD ⟨⟨rfl,congrArg _ ((i.num.uniq w.num (by rw[e1])).1.symm),congrArg _ ((i.num.uniq w.num (by rw[e1])).2.symm),congrArg _ ((i.den.uniq w.den (by rw[e1])).1.symm),congrArg _ ((i.den.uniq w.den (by rw[e1])).2.symm),trivial⟩,trivial⟩
 have aQ:=AO ab;have e0:p=0:=Rat.num_eq_zero.1 (i.num.Eo.1 (by omega));have e1:r=q:=by rw[M,e0,Rat.zero_add]
 exact AD ⟨⟨rfl,congrArg _ ((g.num.uniq w.num (by rw[e1])).1.symm),congrArg _ ((g.num.uniq w.num (by rw[e1])).2.symm),congrArg _ ((g.den.uniq w.den (by rw[e1])).1.symm),congrArg _ ((g.den.uniq w.den (by rw[e1])).2.symm),trivial⟩,trivial⟩
theorem bx {p:Rat} (h:p≠0):(1/p).num=(if p.num<0 then -(p.den:Int) else p.den)/\((1/p).den:Int)=if p.num<0 then -p.num else p.num:=by
 have f:p.num≠0:=mt Rat.num_eq_zero.1 h;have e:1/p=Rat.inv p:=by rw[Rat.div_def,Rat.one_mul];rfl
 rw[e];unfold Rat.inv
 split
 ·rename_i d;exact⟨rfl,by show ((p.num.natAbs:Nat):Int)=_;omega⟩
 rename_i d
 rw[dif_pos (by omega)];exact⟨rfl,by show ((p.num.natAbs:Nat):Int)=_;omega⟩
theorem Ya {p:Rat} (i:BE p b1 l1 b2 l2) (v:p≠0) (w:r=1/p) (j:BE r d1 k1 d2 k2):CF 263 [.agg (BV b1 l1 b2 l2)] (.agg (BV d1 k1 d2 k2)):=by
 obtain⟨f,d⟩:=bx v;rw[<-w] at f d;refine AM Tryz.func263 fun E m=>?_
 conv=>cbv
 cases b1 <;> conv=>cbv
 ·have h:=Of i.num rfl;exact AD ⟨⟨rfl,congrArg _ ((i.den.uniq j.num (by rw[f,if_neg h])).1.symm),congrArg _ ((i.den.uniq j.num (by rw[f,if_neg h])).2.symm),congrArg _ ((i.num.uniq j.den (by rw[d,if_neg h])).1.symm),congrArg _ ((i.num.uniq j.den (by rw[d,if_neg h])).2.symm),trivial⟩,trivial⟩
 obtain⟨z,D,k⟩:=AW (-(p.den:Int));refine AB m (Ju i.den k) ?_;conv=>cbv
 obtain⟨n,o,g⟩:=AW (-p.num);refine AB m (Ju i.num g) ?_;conv=>cbv
 refine g2 rfl ?_;have h:=Og i.num rfl;exact AD ⟨⟨rfl,congrArg _ ((k.uniq j.num (by rw[f,if_pos h])).1.symm),congrArg _ ((k.uniq j.num (by rw[f,if_pos h])).2.symm),congrArg _ ((g.uniq j.den (by rw[d,if_pos h])).1.symm),congrArg _ ((g.uniq j.den (by rw[d,if_pos h])).2.symm),trivial⟩,trivial⟩
theorem Yf {p:Rat} (f:BE p b1 l1 b2 l2) (w:Bt p):CF 96 [.agg (BV b1 l1 b2 l2)] (.one (.bool true)):=by
 have z:=f.small w;have v:=p.den_pos;refine AM Tryz.func96 fun E h=>?_
 conv=>cbv
 refine AB h (RD f.num) ?_;conv=>cbv
 refine AB h (RD f.den) ?_;conv=>cbv
 obtain⟨o,i⟩:=xI ((1:Int));refine AB (r:= .one (.int .i64 o)) h (Hu f.den (i.trans (by unfold B7;rw[if_neg (by omega),if_neg (by omega)]))) ?_;try conv=>cbv
 intro n g;conv=>cbv
 cases n <;> conv=>cbv
 ·have j:=Bf g;exact absurd j (by omega)
 have j:=Bg g;obtain⟨k,m,d⟩:=AW ((1:Int));refine AB (r:= .agg [.bool k,.sl .u32 m]) h (Fp f.num f.den (by rw[Int.natAbs_natCast,show Nat.gcd p.num.natAbs p.den=1 from p.reduced];exact d) (by omega) (by omega)) ?_;try conv=>cbv
 refine AB h (HP d rfl) ?_;conv=>cbv
 exact AD ⟨t2,trivial⟩
theorem Uo {d r:Int} (f:r=B7 d) (h:r<0):d<0:=by rcases Es d with⟨a,e⟩ |⟨a,e⟩ |⟨a,e⟩ <;> omega
theorem Up {d r:Int} (f:r=B7 d) (h:0<=r):¬d<0:=by rcases Es d with⟨a,e⟩ |⟨a,e⟩ |⟨a,e⟩ <;> omega
theorem Lq {g:Int} (d:g≠0) (h:g∣x):x=B9 x g*g:=by
 unfold B9
 split
 ·exact (Int.ediv_mul_cancel h).symm
 have:=Int.ediv_mul_cancel (a:= -x) (b:= -g) (Int.neg_dvd.2 (Int.dvd_neg.2 h));rw[Int.mul_neg] at this
 generalize -x/ -g*g=Q at*
 omega
theorem L7 (n d:Int):(if d<0 then -((Nat.gcd n.natAbs d.natAbs:Nat):Int) else ((Nat.gcd n.natAbs d.natAbs:Nat):Int))∣n/\(if d<0 then -((Nat.gcd n.natAbs d.natAbs:Nat):Int) else ((Nat.gcd n.natAbs d.natAbs:Nat):Int))∣d:=by
 have f:((Nat.gcd n.natAbs d.natAbs:Nat):Int)∣n:=Int.ofNat_dvd_left.2 (Nat.gcd_dvd_left _ _);have g:((Nat.gcd n.natAbs d.natAbs:Nat):Int)∣d:=Int.ofNat_dvd_left.2 (Nat.gcd_dvd_right _ _)
 split
 ·exact⟨Int.neg_dvd.2 f,Int.neg_dvd.2 g⟩
 exact⟨f,g⟩
theorem YR {n d:Int} {q:Rat} (S:Af n b1 l1) (F:Af d b2 l2) (D:d≠0) (Q:q=Rat.divInt n d) (G:BE q c1 m1 c2 m2) (s1:l1.length<=17592186042000) (s2:l2.length<=17592186042000):CF 265 [.agg (BC b1 l1),.agg (BC b2 l2)] (.agg (BV c1 m1 c2 m2)):=by
 refine AM Tryz.func265 fun E H=>?_
 conv=>cbv
 obtain⟨V,W,k⟩:=AW (((Nat.gcd n.natAbs d.natAbs:Nat):Int));refine AB H (Fp S F k (by omega) (by omega)) ?_;conv=>cbv
 obtain⟨X,i⟩:=xI (B7 d);refine AB H (Hu F i) ?_;conv=>cbv
 intro U K;conv=>cbv
 refine .inr ?_;cases U <;> conv=>cbv
 ·have m:=AY K;obtain⟨o,w,f⟩:=AW (B9 n (if d<0 then -((Nat.gcd n.natAbs d.natAbs:Nat):Int) else ((Nat.gcd n.natAbs d.natAbs:Nat):Int)));have N:Af (if d<0 then -((Nat.gcd n.natAbs d.natAbs:Nat):Int) else ((Nat.gcd n.natAbs d.natAbs:Nat):Int)) V W:=by rw[if_neg (Up i m)];exact k
  have h:(if d<0 then -((Nat.gcd n.natAbs d.natAbs:Nat):Int) else ((Nat.gcd n.natAbs d.natAbs:Nat):Int))≠0:=by rw[if_neg (Up i m)];have:=L6 (n:=n) D;omega
  have M:B9 n (if d<0 then -((Nat.gcd n.natAbs d.natAbs:Nat):Int) else ((Nat.gcd n.natAbs d.natAbs:Nat):Int))=q.num:=by rw[Q];exact (MP D).symm
  have L:B9 d (if d<0 then -((Nat.gcd n.natAbs d.natAbs:Nat):Int) else ((Nat.gcd n.natAbs d.natAbs:Nat):Int))=(q.den:Int):=by rw[Q];exact (MO D).symm
  have J:n=B9 n (if d<0 then -((Nat.gcd n.natAbs d.natAbs:Nat):Int) else ((Nat.gcd n.natAbs d.natAbs:Nat):Int))*(if d<0 then -((Nat.gcd n.natAbs d.natAbs:Nat):Int) else ((Nat.gcd n.natAbs d.natAbs:Nat):Int)):=Lq h (L7 n d).1;have I:d=B9 d (if d<0 then -((Nat.gcd n.natAbs d.natAbs:Nat):Int) else ((Nat.gcd n.natAbs d.natAbs:Nat):Int))*(if d<0 then -((Nat.gcd n.natAbs d.natAbs:Nat):Int) else ((Nat.gcd n.natAbs d.natAbs:Nat):Int)):=Lq h (L7 n d).2;refine AB (r:= .agg [.bool o,.sl .u32 w]) H (Dv S N h (J) f (by omega) (by have:=KK D F k;omega)) ?_;try conv=>cbv
  obtain⟨v,z,g⟩:=AW (B9 d (if d<0 then -((Nat.gcd n.natAbs d.natAbs:Nat):Int) else ((Nat.gcd n.natAbs d.natAbs:Nat):Int)));refine AB (r:= .agg [.bool v,.sl .u32 z]) H (Dv F N h (I) g (by omega) (by have:=KK D F k;omega)) ?_;try conv=>cbv
  refine g2 rfl ?_;exact AD ⟨⟨rfl,congrArg _ ((f.uniq G.num M).1.symm),congrArg _ ((f.uniq G.num M).2.symm),congrArg _ ((g.uniq G.den L).1.symm),congrArg _ ((g.uniq G.den L).2.symm),trivial⟩,trivial⟩
 have m:=AZ K;obtain⟨O,P,j⟩:=AW (-((Nat.gcd n.natAbs d.natAbs:Nat):Int));refine AB H (Ju k j) ?_;conv=>cbv
 obtain⟨o,w,f⟩:=AW (B9 n (if d<0 then -((Nat.gcd n.natAbs d.natAbs:Nat):Int) else ((Nat.gcd n.natAbs d.natAbs:Nat):Int)));have N:Af (if d<0 then -((Nat.gcd n.natAbs d.natAbs:Nat):Int) else ((Nat.gcd n.natAbs d.natAbs:Nat):Int)) O P:=by rw[if_pos (Uo i m)];exact j
 have h:(if d<0 then -((Nat.gcd n.natAbs d.natAbs:Nat):Int) else ((Nat.gcd n.natAbs d.natAbs:Nat):Int))≠0:=by rw[if_pos (Uo i m)];have:=L6 (n:=n) D;omega
 have M:B9 n (if d<0 then -((Nat.gcd n.natAbs d.natAbs:Nat):Int) else ((Nat.gcd n.natAbs d.natAbs:Nat):Int))=q.num:=by rw[Q];exact (MP D).symm
 have L:B9 d (if d<0 then -((Nat.gcd n.natAbs d.natAbs:Nat):Int) else ((Nat.gcd n.natAbs d.natAbs:Nat):Int))=(q.den:Int):=by rw[Q];exact (MO D).symm
 have J:n=B9 n (if d<0 then -((Nat.gcd n.natAbs d.natAbs:Nat):Int) else ((Nat.gcd n.natAbs d.natAbs:Nat):Int))*(if d<0 then -((Nat.gcd n.natAbs d.natAbs:Nat):Int) else ((Nat.gcd n.natAbs d.natAbs:Nat):Int)):=Lq h (L7 n d).1;have I:d=B9 d (if d<0 then -((Nat.gcd n.natAbs d.natAbs:Nat):Int) else ((Nat.gcd n.natAbs d.natAbs:Nat):Int))*(if d<0 then -((Nat.gcd n.natAbs d.natAbs:Nat):Int) else ((Nat.gcd n.natAbs d.natAbs:Nat):Int)):=Lq h (L7 n d).2;refine AB (r:= .agg [.bool o,.sl .u32 w]) H (Dv S N h (J) f (by omega) (by have:=L5 D F j;omega)) ?_;try conv=>cbv
 obtain⟨v,z,g⟩:=AW (B9 d (if d<0 then -((Nat.gcd n.natAbs d.natAbs:Nat):Int) else ((Nat.gcd n.natAbs d.natAbs:Nat):Int)));refine AB (r:= .agg [.bool v,.sl .u32 z]) H (Dv F N h (I) g (by omega) (by have:=L5 D F j;omega)) ?_;try conv=>cbv
 refine g2 rfl ?_;exact AD ⟨⟨rfl,congrArg _ ((f.uniq G.num M).1.symm),congrArg _ ((f.uniq G.num M).2.symm),congrArg _ ((g.uniq G.den L).1.symm),congrArg _ ((g.uniq G.den L).2.symm),trivial⟩,trivial⟩
theorem NT {n d:Int} {q:Rat} (m: -9223372036854775808<=n/\n<9223372036854775808) (k: -9223372036854775808<=d/\d<9223372036854775808) (i:d≠0) (z:q=Rat.divInt n d) (D:BE q c1 m1 c2 m2):CF 188 [.one (.int .i64 n),.one (.int .i64 d)] (.agg (BV c1 m1 c2 m2)):=by
 refine AM Tryz.func188 fun E h=>?_
 conv=>cbv
 intro F j;conv=>cbv
 cases F <;> conv=>cbv
 ·have o:=AN j;obtain⟨G,H,g⟩:=AW (n);refine AB h (Jr m g) ?_;conv=>cbv
  obtain⟨v,w,f⟩:=AW (d);refine AB h (Jr k f) ?_;conv=>cbv
  refine AB (r:= .agg [.bool c1,.sl .u32 m1,.bool c2,.sl .u32 m2]) h (YR g f i z D (by have:=NG m g;omega) (by have:=NG k f;omega)) ?_;try conv=>cbv
  exact AD ⟨⟨rfl,rfl,rfl,rfl,rfl,trivial⟩,trivial⟩
 have o:=AO j;exact absurd o i
end Go.Abs
