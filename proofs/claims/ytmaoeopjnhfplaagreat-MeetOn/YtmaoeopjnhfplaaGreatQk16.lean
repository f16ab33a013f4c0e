/- Part 17 of a proof. Conditions: each theorem's own. -/
import Derived.Test.YtmaoeopjnhfplaaGreatQk14
import Derived.Test.YtmaoeopjnhfplaaGreatQk15
set_option linter.all false
set_option maxHeartbeats 8000000
set_option maxRecDepth 20000
open Go.Proofs
namespace Go.Abs
open Go.RowKit
variable {A B C:LR} {R s t:Nat} {T:List LR} {p x y:Re} {q:Rat} {r:List Rat} {u:List (List Rat)}
theorem Yn {q:Re} (h:BJ R (r::u)) (L:T=tw (r::u)) (J:A=em (r::u) x) (M:El (r::u) s x) (I:x=p+q*rt u r) (F:In u p) (H:In u q) (Y:2*s+2*EE u.length R+R+1<=60000000000000) (K:C=em u (p*p-q*q*AP u r)):CF 296 [.one (.sl (.sl AA) T),.one (.sl AA A)] (.one (.sl AA C)):=by
 have G:=V6 h.red F H (I ▸ M.bd);have D:El u s p:=⟨F,G.1⟩;have i:El u s q:=⟨H,G.2⟩;have z:=El.DK h;have hR:=h.hR;refine AO Tryz.func296 fun E w=>?_
 conv=>cbv
 obtain⟨N,d⟩:=xV (tw u);obtain⟨O,j⟩:=xR (BN r);refine AB w (Tl L d j) ?_;conv=>cbv
 obtain⟨P,f⟩:=xR (em u p);obtain⟨Q,g⟩:=xR (em u q);refine AB w (OS h.red D.mem i.mem I J f g) ?_;conv=>cbv
 obtain⟨S,k⟩:=xR (em u (p*p));refine AB w (Mm h.tail d f f D D (by omega) k) ?_;conv=>cbv
 obtain⟨U,m⟩:=xR (em u (q*q));refine AB w (Mm h.tail d g g i i (by omega) m) ?_;conv=>cbv
 obtain⟨V,n⟩:=xR (em u (q*q*AP u r));refine AB w (Mm h.tail d m (j.trans (FN h.red)) (i.mul h.tail i) z (by omega) n) ?_;conv=>cbv
 obtain⟨W,o⟩:=xR (em u (-(q*q*AP u r)));refine AB w (Oq h.tail n ((i.mul h.tail i).mul h.tail z) (by omega) o) ?_;conv=>cbv
 obtain⟨X,v⟩:=xR (em u (p*p+ -(q*q*AP u r)));refine AB w (No h.tail k o (D.mul h.tail D) (((i.mul h.tail i).mul h.tail z).neg h.red.1) (by omega) (by omega) v) ?_;conv=>cbv
 exact AF ⟨⟨rfl,congrArg _ (by rw[K,v];congr 1),trivial⟩,trivial⟩
theorem il {p:Rat} (O:T=[]) (G:A=[rp p]) (N:B=[rp q]) (Q:CQ p) (w:p≠0) (z:q=1/p):CF 253 [.one (.sl (.sl AA) T),.one (.sl AA A)] (.AG [(false,[.sl AA B]),(false,[.bool true])]):=by
 refine AO Tryz.func253 fun E H=>?_
 conv=>cbv
 rintro S ⟨v,f15⟩;conv=>cbv
 intro D h;conv=>cbv
 cases D <;> conv=>cbv
 ·have j:=BR h;exact absurd (by rw[v,O];rfl) j
 have j:=BS h;obtain⟨K,L,I,J,f⟩:=CI (((1:Int):Rat));refine AB H (Hn (by omega) rfl f) ?_;conv=>cbv
 have M:A.length=1:=by rw[G];rfl
 obtain⟨F,d⟩:=AS (l:=A) (i:=0) (by omega);refine⟨F,fun _=>⟨by omega,d⟩,?_⟩;try conv=>cbv
 have P:=Fq G d;obtain⟨n,o,k,m,g⟩:=CI q;refine AB H (cV f P ⟨by decide +kernel,by decide +kernel⟩ Q w z g) ?_;conv=>cbv
 refine g2 rfl ?_;refine⟨[((n,o),(k,m))],fun _=>⟨rfl,by decide,rfl,⟨rfl,by first | exact t1 | exact t2 | exact t4 | simp[BX,Bl,cells],trivial⟩⟩,.inl ?_⟩;try conv=>cbv
 refine Aw ?_;conv=>cbv
 exact AF ⟨⟨rfl,.inl ⟨_,rfl,by simp,congrArg _ (by rw[N,g.rp];rfl)⟩,trivial⟩,t2,trivial⟩
def Um (f:FuncId) (R:Nat) (u:List (List Rat)):Prop:=∀{T:List LR} {A B:LR} {s:Nat} {x y:Re},T=tw u->A=em u x->El u s x->In u y->x*y=1->II u.length R s<=60000000000000->B=em u y->
 CF f [.one (.sl (.sl AA) T),.one (.sl AA A)] (.AG [(false,[.sl AA B]),(false,[.bool true])])
def oG (f:FuncId) (u:List (List Rat)):Prop:=∀{T:List LR} {A:LR},T=tw u->A=em u 0->
 ∃l,CF f [.one (.sl (.sl AA) T),.one (.sl AA A)] (.AG [(false,[.sl AA l]),(false,[.bool false])])
theorem iw {q i:Re} (h:BJ R (r::u)) (ih:Um 253 R u) (S:T=tw (r::u)) (X:A=em (r::u) x) (hx:El (r::u) s x) (I:x=p+q*rt u r) (K:El u s p) (H:El u s q) (Z:In u i) (M:(p*p-q*q*AP u r)*i=1) (hy:y=p*i+ -(q*i)*rt u r) (hs:II (r::u).length R s<=60000000000000) (hB:B=em (r::u) y):CF 253 [.one (.sl (.sl AA) T),.one (.sl AA A)] (.AG [(false,[.sl AA B]),(false,[.bool true])]):=by
 have aa:II (r::u).length R s=s+EE u.length R+II u.length R (2*s+2*EE u.length R+R+1):=rfl;have Y:=El.norm h K.mem H.mem (I ▸ hx);have d:=Y.inv h.tail Z M;have a5:=FT u.length R (2*s+2*EE u.length R+R+1);refine AO Tryz.func253 fun E G=>?_
 conv=>cbv
 rintro ab ⟨a8,f15⟩;conv=>cbv
 intro V L;conv=>cbv
 cases V <;> conv=>cbv
 ·have U:=BR L;obtain⟨ad,f⟩:=xV (tw u);obtain⟨ae,Q⟩:=xR (BN r);refine AB G (Tl S f Q) ?_;conv=>cbv
  obtain⟨af,v⟩:=xR (em u (p*p-q*q*AP u r));refine AB G (Yn h S X hx I K.mem H.mem (by omega) v) ?_;conv=>cbv
  obtain⟨ag,g⟩:=xR (em u i);refine AB G (ih f v Y Z M (by omega) g) ?_;conv=>cbv
  refine AL ?_;conv=>cbv
  obtain⟨ah,w⟩:=xR (em u p);obtain⟨ai,z⟩:=xR (em u q);refine AB G (OS h.red K.mem H.mem I X w z) ?_;conv=>cbv
  obtain⟨n,j⟩:=xR (em u (p*i));obtain⟨a7,k⟩:=xN n.length;refine AB G (mulC h.tail f w g K d (by omega) j k) ?_;conv=>cbv
  obtain⟨aj,D⟩:=xR (em u (q*i));refine AB G (Mm h.tail f z g H d (by omega) D) ?_;conv=>cbv
  obtain⟨o,m⟩:=xR (em u (-(q*i)));refine AB G (Oq h.tail D (H.mul h.tail d) (by omega) m) ?_;conv=>cbv
  have a1:n.length=2^u.length:=by rw[j,Bk (K.mul h.tail d).mem]
  have a2:o.length=2^u.length:=by rw[m,Bk ((H.mul h.tail d).neg h.red.1).mem]
  have a6:=De h.tail.ht;refine .inl ⟨o,fun _=>⟨rfl,k,rfl,by show (n.length+o.length)*64<=140737488355328;(try simp only[List.length_take,List.length_drop]);omega⟩,?_⟩;intro (J:LR) W F;have O:J=(n:LR)++(o:LR):=F.1;have P:W=List.length (α:=(el AA)) J:=F.2;conv=>cbv
  have N:B=J:=by rw[hB,O,j,m];exact Fx h.red (K.mul h.tail d).mem ((H.mul h.tail d).neg h.red.1).mem hy
  exact AF ⟨⟨rfl,.inl ⟨_,rfl,by omega,congrArg _ (by rw[N,P,List.drop_zero,List.take_length])⟩,trivial⟩,t2,trivial⟩
 have U:=BS L;exact absurd (List.length_eq_zero_iff.1 (by omega)) (S ▸ Lm r u)
theorem ik (h:BJ R u):Um 253 R u:=by
 induction u with
 | nil=>
  intro T A B s x y w m j F d D n;obtain⟨p,rfl⟩:=Cs.1 j.mem;obtain⟨q,rfl⟩:=Cs.1 F;rw[E8] at m n;rw[<-Re.ofRat_mul] at d;have e:=Re.Ds.1 d;have g:=j.CM (by have:=FT 0 R s;have:II ([]:List (List Rat)).length R s=II 0 R s:=rfl;omega);rw[Dl] at g;exact il w m n (g _ List.mem_cons_self) (by intro G;subst G;grind) (by grind)
 | cons r u o=>
  intro T A B s x y w m j F d D n;obtain⟨p,q,f,g,z⟩:=El.parts h.red j;have K:=Ct h.red;have H:=El.norm h g.mem z.mem (f ▸ j);have v:p*p-q*q*AP u r≠0:=Ym h.red g.mem z.mem (by intro e;rw[<-f] at e;rw[e] at d;have J:(0:Re)<1:=Re.GC.2 (show (0:Rat)<1 by decide);grind);obtain⟨i,I,k⟩:=E1 h.red.1 H.mem v;refine iw h (o h.tail) w m j f g z I k ?_ D n
  have:y=x*y*((p-q*rt u r)*i):=by
   have:x*y*((p-q*rt u r)*i)=y*((p*p-q*q*AP u r)*i):=by rw[f];clear o;grind
   rw[this,k];clear o;grind
  rw[d] at this
  clear o;grind
theorem KU (h:BJ R u) (m:T=tw u) (g:A=em u x) (i:B=em u y) (d:El u s x) (f:El u t y) (n:s<=60000000000000) (ht:t<=60000000000000) (k:C=em u (x+y)):CF 220 [.one (.sl (.sl AA) T),.one (.sl AA A),.one (.sl AA B)] (.one (.sl AA C)):=by
 refine AO Tryz.func220 fun E j=>?_
 conv=>cbv
 refine AB (r:= .one (.bool true)) j (Q4 m h.G3 g (d.CM (by omega)) (by rw[d.len,List.length_reverse]) i (f.CM (by omega)) (by rw[f.len,List.length_reverse])) ?_;conv=>cbv
 refine AL ?_;conv=>cbv
 refine AB j (No h g i d f n ht k) ?_;conv=>cbv
 exact AF ⟨t2,trivial⟩
theorem NW (h:BJ R u) (n:T=tw u) (j:A=em u x) (k:B=em u y) (i:El u s x) (f:El u t y) (o:s<=60000000000000) (ht:t<=60000000000000) (m:C=em u (x-y)):CF 228 [.one (.sl (.sl AA) T),.one (.sl AA A),.one (.sl AA B)] (.one (.sl AA C)):=by
 refine AO Tryz.func228 fun E g=>?_
 conv=>cbv
 refine AB (r:= .one (.bool true)) g (Q4 n h.G3 j (i.CM (by omega)) (by rw[i.len,List.length_reverse]) k (f.CM (by omega)) (by rw[f.len,List.length_reverse])) ?_;conv=>cbv
 refine AL ?_;conv=>cbv
 obtain⟨v,d⟩:=xR (em u (-y));refine AB g (Oq h k f ht d) ?_;conv=>cbv
 refine AB (r:= .one (.sl AA C)) g (No h j d i (f.neg h.red) o ht (by rw[m];congr 1)) ?_;try conv=>cbv
 exact AF ⟨t2,trivial⟩
theorem Hm (h:BJ R u) (m:T=tw u) (i:A=em u x) (j:B=em u y) (f:El u s x) (g:El u t y) (d:s+t+EE u.length R<=60000000000000) (n:C=em u (x*y)):CF 229 [.one (.sl (.sl AA) T),.one (.sl AA A),.one (.sl AA B)] (.one (.sl AA C)):=by
 refine AO Tryz.func229 fun E k=>?_
 conv=>cbv
 refine AB (r:= .one (.bool true)) k (Q4 m h.G3 i (f.CM (by omega)) (by rw[f.len,List.length_reverse]) j (g.CM (by omega)) (by rw[g.len,List.length_reverse])) ?_;conv=>cbv
 refine AL ?_;conv=>cbv
 refine AB k (Mm h m i j f g d n) ?_;conv=>cbv
 exact AF ⟨t2,trivial⟩
theorem Us (h:BJ R u) (j:T=tw u) (f:A=em u x) (d:El u s x) (k:s<=60000000000000) (i:C=em u (-x)):CF 169 [.one (.sl (.sl AA) T),.one (.sl AA A)] (.one (.sl AA C)):=by
 refine AO Tryz.func169 fun E g=>?_
 conv=>cbv
 refine AB (r:= .one (.bool true)) g (IF j h.G3 f (d.CM (by omega)) (by rw[d.len,List.length_reverse];exact (decide_eq_true rfl).symm)) ?_;try conv=>cbv
 refine AL ?_;conv=>cbv
 refine AB g (Oq h f d k i) ?_;conv=>cbv
 exact AF ⟨t2,trivial⟩
theorem NR (h:BJ R u) (j:T=tw u) (g:A=em u x) (d:El u s x) (o:In u y) (f:x*y=1) (n:II u.length R s<=60000000000000) (k:C=em u y):CF 186 [.one (.sl (.sl AA) T),.one (.sl AA A)] (.AG [(false,[.sl AA C]),(false,[.int .i64 0])]):=by
 have m:=FT u.length R s;refine AO Tryz.func186 fun E i=>?_
 conv=>cbv
 refine AB (r:= .one (.bool true)) i (IF j h.G3 g (d.CM (by omega)) (by rw[d.len,List.length_reverse];exact (decide_eq_true rfl).symm)) ?_;try conv=>cbv
 refine AL ?_;conv=>cbv
 refine AB i (ik h j g d o f n k) ?_;conv=>cbv
 refine AL ?_;conv=>cbv
 exact AF ⟨t2,t2,trivial⟩
theorem Pp {q:Re} (h:BJ R (r::u)) (f:T=tw (r::u)) (o:A=em (r::u) x) (j:El (r::u) s x) (k:x=p+q*rt u r) (g:In u p) (i:In u q) (D:2*s+2*EE u.length R+R+1<=60000000000000) (z:C=em u (p*p-q*q*AP u r)):CF 362 [.one (.sl (.sl AA) T),.one (.sl AA A)] (.one (.sl AA C)):=by
 refine AO Tryz.func362 fun E v=>?_
 conv=>cbv
 refine AB (r:= .one (.bool true)) v (IF f h.G3 o (j.CM (by omega)) (by rw[j.len,List.length_reverse];exact (decide_eq_true rfl).symm)) ?_;try conv=>cbv
 refine AL ?_;conv=>cbv
 rintro F ⟨w,f11⟩;conv=>cbv
 intro n d;conv=>cbv
 cases n <;> conv=>cbv
 ·have m:=BR d;refine AB v (Yn h f o j k g i D z) ?_;conv=>cbv
  exact AF ⟨t2,trivial⟩
 have m:=BS d;exact absurd (List.length_eq_zero_iff.1 (by omega)) (f ▸ Lm r u)
theorem mI {n:Nat} (h:0<n):(List.replicate n (rp 0)).set 0 (rp q)=rp q::List.replicate (n-1) (rp 0):=by
 cases n with
 | zero=>omega
 | succ n=>rfl
theorem W7 (h:Al u):em u (Re.ofRat q)=(em u 0).set 0 (rp q):=by
 rw[em,Hs q h,Qw h,BN,BN,List.map_cons,List.map_replicate,List.map_replicate,mI (DB _)]
theorem W8 (h:Al (r::u)):em (r::u) (rt u r)=(em (r::u) 0).set (2^u.length) (rp 1):=by
 have e:rt u r=0+1*rt u r:=by grind
 rw[Fx h (CK u) (Jy u) e,Fx (x:=0) h (CK u) (CK u) (by grind),List.set_append_right _ _ (by rw[Bk (CK u)];omega),Bk (CK u),Nat.sub_self]
 congr 1
 exact W7 (q:=1) h.1
theorem Jg {b1 b2:Bool} {l1 l2:List UInt32} (h:BJ R u) (F:T=tw u) (w:Bm q b1 l1 b2 l2) (M:CQ q) (J:C=em u (Re.ofRat q)):CF 279 [.one (.sl (.sl AA) T),.agg (B5 b1 l1 b2 l2)] (.one (.sl AA C)):=by
 refine AO Tryz.func279 fun E o=>?_
 conv=>cbv
 refine AB o (Sx F h.G3 rfl) ?_;conv=>cbv
 refine AL ?_;conv=>cbv
 have L:=w.small M;refine AB o (Uv (UM.2 ⟨q,w⟩).symm (by omega) (by omega)) ?_;conv=>cbv
 refine AL ?_;conv=>cbv
 have v:T.length=u.length:=by rw[F,CA]
 have k:=h.ht;rintro N ⟨n,f15⟩;conv=>cbv
 intro O k;conv=>cbv
 refine AM ?_;obtain⟨f,d⟩:=xR (em u (0));obtain⟨I,i⟩:=xN f.length;refine AB o (Pg h (Fs k (n.trans (congrArg _ v))) d i) ?_;conv=>cbv
 have H:f.length=2^u.length:=by rw[d,Bk (CK u)]
 have K:=DB u.length;refine AM ?_;intro z G;conv=>cbv
 refine⟨((b1,l1),(b2,l2)),fun _=>⟨by show _<List.length (α:=(el AA)) f;(first | omega | (simp;omega)),by first | exact t1 | exact t2 | exact t4 | simp[BX,Bl,cells]⟩,?_⟩;intro (j:LR) (g:j=List.set (α:=(el AA)) f z (((b1,l1),(b2,l2))));have D:j.length=f.length:=by rw[g,List.length_set]
 conv=>cbv
 have m:C=j:=by rw[J,W7 h.red,g,d,w.rp];congr 1;omega
 exact AF ⟨⟨rfl,.inl ⟨_,rfl,by omega,congrArg _ (by rw[m,List.drop_zero,List.take_of_length_le (by omega)])⟩,trivial⟩,trivial⟩
theorem ck {k:Int} (h:BJ R (r::u)) (S:T=tw (r::u)) (hk:Ag k u.length) (hC:C=em (r::u) (rt u r)):CF 303 [.one (.sl (.sl AA) T),.one (.int .i64 k)] (.one (.sl AA C)):=by
 have ek:=hk.eq;have M:T.length=u.length+1:=by rw[S,CA];rfl
 have a1:=h.ht;have U:(r::u).length=u.length+1:=rfl;refine AO Tryz.func303 fun E L=>?_
 conv=>cbv
 refine AB L (Sx S h.G3 rfl) ?_;conv=>cbv
 refine AL ?_;conv=>cbv
 intro O z;conv=>cbv
 cases O <;> conv=>cbv
 ·have G:=BK z;rintro a6 ⟨Z,f16⟩;conv=>cbv
  intro P D;conv=>cbv
  cases P <;> conv=>cbv
  ·have H:=F0 D;rintro a7 ⟨I,f20⟩;conv=>cbv
   intro a8 J;conv=>cbv
   refine AM ?_;obtain⟨f,d⟩:=xR (em (r::u) (0));obtain⟨Y,v⟩:=xN f.length;refine AB L (Pg h (Fs J (I.trans (congrArg _ M))) d v) ?_;conv=>cbv
   intro aa K;conv=>cbv
   refine AM ?_;obtain⟨n,o,j,m,i⟩:=CI (((1:Int):Rat));refine AB L (Hn (by omega) rfl i) ?_;conv=>cbv
   have W:f.length=2^(r::u).length:=by rw[d,Bk (CK _)]
   have a5:=DB u.length;have a2:=B3 r u;have X:=(Fs K ek).eq;refine AM ?_;intro N V;conv=>cbv
   refine⟨((n,o),(j,m)),fun _=>⟨by show _<List.length (α:=(el AA)) f;(first | omega | (simp;omega)),by first | exact t1 | exact t2 | exact t4 | simp[BX,Bl,cells]⟩,?_⟩;intro (w:LR) (g:w=List.set (α:=(el AA)) f N (((n,o),(j,m))));have Q:w.length=f.length:=by rw[g,List.length_set]
   conv=>cbv
   refine g2 rfl ?_;have F:C=w:=by rw[hC,W8 h.red,g,d];congr 1 <;> first | omega | exact i.rp
   exact AF ⟨⟨rfl,.inl ⟨_,rfl,by omega,congrArg _ (by rw[F,List.drop_zero,List.take_of_length_le (by omega)])⟩,trivial⟩,trivial⟩
  have H:=F1 D;exact absurd H (by omega)
 have G:=BL z;exact absurd G (by omega)
end Go.Abs
namespace Go.Abs
open Go.RowKit
variable {a b:Nat} {b1 b2 c c1 c2 d1 d2:Bool} {k1 k2 l l' l1 l2 m1 m2:List UInt32} {r:Rat} {x y:Int}
theorem Om (p q:Rat):(p*q).num=(p.num/((Nat.gcd p.num.natAbs q.den:Nat):Int))*(q.num/((Nat.gcd q.num.natAbs p.den:Nat):Int)):=by
 show (Rat.mul p q).num=_
 unfold Rat.mul
 dsimp only
 rw[Int.divExact_eq_ediv,Int.divExact_eq_ediv]
theorem Ol (p q:Rat):((p*q).den:Int)=((p.den:Int)/((Nat.gcd q.num.natAbs p.den:Nat):Int))*((q.den:Int)/((Nat.gcd p.num.natAbs q.den:Nat):Int)):=by
 have:(p*q).den=(p.den/Nat.gcd q.num.natAbs p.den)*(q.den/Nat.gcd p.num.natAbs q.den):=by
  show (Rat.mul p q).den=_
  unfold Rat.mul
  dsimp only
  rw[Nat.divExact_eq_div,Nat.divExact_eq_div]
 rw[this,Int.natCast_mul,Int.natCast_ediv,Int.natCast_ediv]
theorem Vg (p q:Rat) (h:Nat.gcd p.den q.den=1):(p+q).num=p.num*q.den+q.num*p.den/\((p+q).den:Int)=(p.den:Int)*q.den:=by
 have:(p+q)=Rat.add p q:=rfl;rw[this];unfold Rat.add
 dsimp only
 rw[dif_pos h];exact⟨rfl,by rw[Int.natCast_mul]⟩
theorem Vh (p q:Rat) {g h:Nat} {N:Int} (i:g=Nat.gcd p.den q.den) (m:g≠1) (v:x=(p.den:Int)/g) (w:y=(q.den:Int)/g) (n:N=p.num*y+q.num*x) (k:h=Nat.gcd N.natAbs g):
  (p+q).num=N/h/\((p+q).den:Int)=x*((q.den:Int)/h):=by
 have e:(p+q)=Rat.add p q:=rfl;have d:x=((p.den/g:Nat):Int):=by rw[v,Int.natCast_ediv]
 have j:y=((q.den/g:Nat):Int):=by rw[w,Int.natCast_ediv]
 have f:p.num*((q.den/Nat.gcd p.den q.den:Nat):Int)+q.num*((p.den/Nat.gcd p.den q.den:Nat):Int)=N:=by rw[n,d,j,i]
 have o:h∣q.den:=by rw[k];exact Nat.dvd_trans (Nat.gcd_dvd_right _ _) (by rw[i];exact Nat.gcd_dvd_right _ _)
 subst i;rw[e];unfold Rat.add
 dsimp only
 rw[dif_neg m,Rat.maybeNormalize_eq]
 dsimp only
 rw[Int.divExact_eq_ediv,f,<-k];refine⟨rfl,?_⟩;rw[d,Nat.mul_div_assoc _ o,Int.natCast_mul,Int.natCast_ediv (q.den)]
theorem Fh {a:Int} (hb:b≠0):a=a/((Nat.gcd a.natAbs b:Nat):Int)*((Nat.gcd a.natAbs b:Nat):Int)/\(b:Int)=(b:Int)/((Nat.gcd a.natAbs b:Nat):Int)*((Nat.gcd a.natAbs b:Nat):Int):=by
 exact⟨(Int.ediv_mul_cancel (Int.ofNat_dvd_left.2 (Nat.gcd_dvd_left _ _))).symm,(Int.ediv_mul_cancel (Int.natCast_dvd_natCast.2 (Nat.gcd_dvd_right _ _))).symm⟩
theorem FU (hb:b≠0):((Nat.gcd a b:Nat):Int)≠0:=by
 have:=Nat.gcd_pos_of_pos_right a (n:=b) (by omega);omega
theorem Gm {q:Int} {b b':Bool} (f:BH x b l) (d:BH q b' l') (g:y≠0) (h:x=q*y):l'.length<=l.length:=by
 rw[f.Bj,d.Bj];exact FB (by rw[h,Int.natAbs_mul];exact Nat.le_mul_of_pos_right _ (by omega))
theorem HB {x:Int} {d:Bool} (hb:b≠0) (h:BH (b:Int) c l) (h':BH ((Nat.gcd a b:Nat):Int) d l'):l'.length<=l.length:=by
 rw[h.Bj,h'.Bj,Int.natAbs_natCast,Int.natAbs_natCast];exact FB (Nat.le_of_dvd (by omega) (Nat.gcd_dvd_right _ _))
theorem Jn {b:Bool} (h:BH x b l) (hc:c=decide (x=1)):CF 333 [.agg (Bi b l)] (.one (.bool c)):=by
 refine AO Tryz.func333 fun E H=>?_
 conv=>cbv
 rintro I ⟨G,f5⟩;conv=>cbv
 intro F o;conv=>cbv
 cases F <;> conv=>cbv
 ·have w:=BR o;exact AF ⟨⟨rfl,congrArg _ (by rw[hc];exact (Y0 h (by omega)).symm),trivial⟩,trivial⟩
 have w:=BS o;obtain⟨n,d⟩:=AS (l:=l) (i:=0) (by omega);refine⟨n,fun _=>⟨by omega,d⟩,?_⟩;try conv=>cbv
 intro z f;have v:=f.eq;have f11:=f.lt;conv=>cbv
 intro m g;conv=>cbv
 cases m <;> conv=>cbv
 ·have k:=BR g;exact AF ⟨⟨rfl,congrArg _ (by rw[hc];cases b with | true=>exact (SO h rfl).symm | false=>rw[<-SQ h rfl (by omega) d];simp only[decide_eq_false_iff_not];omega),trivial⟩,trivial⟩
 have k:=BS g;intro D j;conv=>cbv
 exact AF ⟨⟨rfl,congrArg _ (by rw[hc,j];cases b with | true=>exact (SO h rfl).symm | false=>rw[<-SQ h rfl (by omega) d];simp;omega),trivial⟩,trivial⟩
theorem FK {q:Int} {b3:Bool} {l3:List UInt32} (i:BH x b1 l1) (j:BH y b2 l2) (f:y≠0) (d:x=q*y) (h:BH q b3 l3) (s1:l1.length<=17592186043000) (s2:l2.length<=17592186043000):CF 307 [.agg (Bi b1 l1),.agg (Bi b2 l2)] (.agg (Bi b3 l3)):=by
 refine AO Tryz.func307 fun E g=>?_
 conv=>cbv
 refine AB g (dF i j f d h s1 s2) ?_;conv=>cbv
 exact AF ⟨t3,trivial⟩
theorem Fv {q:Rat} (j: -9223372036854775808<=x/\x<9223372036854775808) (g:q=(x:Rat)) (h:Bm q c1 m1 c2 m2):CF 143 [.one (.int .i64 x)] (.agg (B5 c1 m1 c2 m2)):=by
 refine AO Tryz.func143 fun E i=>?_
 conv=>cbv
 obtain⟨k,n,d⟩:=BE (x);refine AB i (NZ j d) ?_;conv=>cbv
 obtain⟨m,o,f⟩:=BE (1);refine AB i (NZ (by omega) f) ?_;conv=>cbv
 exact AF ⟨⟨rfl,congrArg _ ((d.uniq h.num (by rw[g];rfl)).1.symm),congrArg _ ((d.uniq h.num (by rw[g];rfl)).2.symm),congrArg _ ((f.uniq h.den (by rw[g];rfl)).1.symm),congrArg _ ((f.uniq h.den (by rw[g];rfl)).2.symm),trivial⟩,trivial⟩
theorem VF {q:Rat} {c:Int} (g:Bm q b1 l1 b2 l2) (hc:c=FQ q):CF 316 [.agg (B5 b1 l1 b2 l2)] (.one (.int .i64 c)):=by
 refine AO Tryz.func316 fun E f=>?_
 conv=>cbv
 obtain⟨h,d⟩:=xI (Cg q.num);refine AB f (KY g.num d) ?_;conv=>cbv
 exact AF ⟨⟨rfl,congrArg _ (by rw[hc,d];rfl),trivial⟩,trivial⟩
theorem dX {q p:Rat} (h:Bm q b1 l1 b2 l2) (f:p= -q) (g:Bm p c1 m1 c2 m2):CF 177 [.agg (B5 b1 l1 b2 l2)] (.agg (B5 c1 m1 c2 m2)):=by
 refine AO Tryz.func177 fun E i=>?_
 conv=>cbv
 obtain⟨j,k,d⟩:=BE (-q.num);refine AB i (Ly h.num d) ?_;conv=>cbv
 refine g2 rfl ?_;exact AF ⟨⟨rfl,congrArg _ ((d.uniq g.num (by rw[f];rfl)).1.symm),congrArg _ ((d.uniq g.num (by rw[f];rfl)).2.symm),congrArg _ ((h.den.uniq g.den (by rw[f];rfl)).1.symm),congrArg _ ((h.den.uniq g.den (by rw[f];rfl)).2.symm),trivial⟩,trivial⟩
theorem dU {p q:Rat} {c:Int} (f:Bm p b1 l1 b2 l2) (g:Bm q c1 m1 c2 m2) (j:CQ p) (ht:CQ q) (hc:c=HA p q):CF 377 [.agg (B5 b1 l1 b2 l2),.agg (B5 c1 m1 c2 m2)] (.one (.int .i64 c)):=by
 refine AO Tryz.func377 fun E n=>?_
 conv=>cbv
 obtain⟨v,w,i⟩:=BE (p.num*q.den);refine AB (r:= .agg [.bool v,.sl .u32 w]) n (EN f.num g.den i (by have:=f.small j;have:=g.small ht;omega) (by have:=f.small j;have:=g.small ht;omega)) ?_;try conv=>cbv
 obtain⟨k,m,d⟩:=BE (q.num*p.den);refine AB (r:= .agg [.bool k,.sl .u32 m]) n (EN g.num f.den d (by have:=f.small j;have:=g.small ht;omega) (by have:=f.small j;have:=g.small ht;omega)) ?_;try conv=>cbv
 obtain⟨o,h⟩:=xI (Bv (p.num*q.den) (q.num*p.den));refine AB (r:= .one (.int .i64 o)) n (dE i d h (by have:=f.small j;have:=g.small ht;have:=f.num.Dp g.den i rfl;omega) (by have:=f.small j;have:=g.small ht;have:=g.num.Dp f.den d rfl;omega)) ?_;try conv=>cbv
 refine g2 rfl ?_;exact AF ⟨⟨rfl,congrArg _ (by rw[hc,h,We]),trivial⟩,trivial⟩
theorem dW {p q:Rat} (k:Bm p b1 l1 b2 l2) (F:Bm q c1 m1 c2 m2) (hs:CQ p) (ht:CQ q) (I:r=p*q) (G:Bm r d1 k1 d2 k2):CF 290 [.agg (B5 b1 l1 b2 l2),.agg (B5 c1 m1 c2 m2)] (.agg (B5 d1 k1 d2 k2)):=by
 have ao:=k.small hs;have aq:=F.small ht;have d:=p.den_nz;have f:=q.den_nz;refine AO Tryz.func290 fun E D=>?_
 conv=>cbv
 rintro ar ⟨al,f10⟩;conv=>cbv
 intro ah a5;conv=>cbv
 cases ah <;> conv=>cbv
 ·have af:=BR a5;rintro au ⟨an,f16⟩;conv=>cbv
  intro ai a6;conv=>cbv
  cases ai <;> conv=>cbv
  ·have ag:=BR a6;obtain⟨ad,j⟩:=xB (decide ((p.den:Int)=1));refine AB D (Jn k.den j) ?_;conv=>cbv
   cases ad <;> conv=>cbv
   ·obtain⟨a7,aa,h⟩:=BE (((Nat.gcd p.num.natAbs q.den:Nat):Int));refine AB D (Hq k.num F.den h (by omega) (by omega)) ?_;conv=>cbv
    obtain⟨a8,ab,i⟩:=BE (((Nat.gcd q.num.natAbs p.den:Nat):Int));refine AB D (Hq F.num k.den i (by omega) (by omega)) ?_;conv=>cbv
    refine g2 rfl ?_;obtain⟨N,W,m⟩:=BE (p.num/((Nat.gcd p.num.natAbs q.den:Nat):Int));refine AB (r:= .agg [.bool N,.sl .u32 W]) D (FK k.num h (FU f) (Fh f).1 m (by omega) (by have:=HB (x:=0) f F.den h;omega)) ?_;try conv=>cbv
    obtain⟨O,X,n⟩:=BE (q.num/((Nat.gcd q.num.natAbs p.den:Nat):Int));refine AB (r:= .agg [.bool O,.sl .u32 X]) D (FK F.num i (FU d) (Fh d).1 n (by omega) (by have:=HB (x:=0) d k.den i;omega)) ?_;try conv=>cbv
    obtain⟨P,Y,o⟩:=BE ((p.num/((Nat.gcd p.num.natAbs q.den:Nat):Int))*(q.num/((Nat.gcd q.num.natAbs p.den:Nat):Int)));refine AB (r:= .agg [.bool P,.sl .u32 Y]) D (EN m n o (by have:=Gm k.num m (FU f) (Fh f).1;omega) (by have:=Gm F.num n (FU d) (Fh d).1;omega)) ?_;try conv=>cbv
    obtain⟨Q,Z,v⟩:=BE ((p.den:Int)/((Nat.gcd q.num.natAbs p.den:Nat):Int));refine AB (r:= .agg [.bool Q,.sl .u32 Z]) D (FK k.den i (FU d) (Fh d).2 v (by omega) (by have:=HB (x:=0) d k.den i;omega)) ?_;try conv=>cbv
    obtain⟨S,a1,w⟩:=BE ((q.den:Int)/((Nat.gcd p.num.natAbs q.den:Nat):Int));refine AB (r:= .agg [.bool S,.sl .u32 a1]) D (FK F.den h (FU f) (Fh f).2 w (by omega) (by have:=HB (x:=0) f F.den h;omega)) ?_;try conv=>cbv
    obtain⟨U,a2,z⟩:=BE (((p.den:Int)/((Nat.gcd q.num.natAbs p.den:Nat):Int))*((q.den:Int)/((Nat.gcd p.num.natAbs q.den:Nat):Int)));refine AB (r:= .agg [.bool U,.sl .u32 a2]) D (EN v w z (by have:=Gm k.den v (FU d) (Fh d).2;omega) (by have:=Gm F.den w (FU f) (Fh f).2;omega)) ?_;try conv=>cbv
    refine g2 rfl ?_;exact AF ⟨⟨rfl,congrArg _ ((o.uniq G.num (by rw[I,Om])).1.symm),congrArg _ ((o.uniq G.num (by rw[I,Om])).2.symm),congrArg _ ((z.uniq G.den (by rw[I,Ol])).1.symm),congrArg _ ((z.uniq G.den (by rw[I,Ol])).2.symm),trivial⟩,trivial⟩
   obtain⟨ae,H⟩:=xB (decide ((q.den:Int)=1));refine AB D (Jn F.den H) ?_;conv=>cbv
   cases ae <;> conv=>cbv
   ·obtain⟨a7,aa,h⟩:=BE (((Nat.gcd p.num.natAbs q.den:Nat):Int));refine AB D (Hq k.num F.den h (by omega) (by omega)) ?_;conv=>cbv
    obtain⟨a8,ab,i⟩:=BE (((Nat.gcd q.num.natAbs p.den:Nat):Int));refine AB D (Hq F.num k.den i (by omega) (by omega)) ?_;conv=>cbv
    refine g2 rfl ?_;obtain⟨N,W,m⟩:=BE (p.num/((Nat.gcd p.num.natAbs q.den:Nat):Int));refine AB (r:= .agg [.bool N,.sl .u32 W]) D (FK k.num h (FU f) (Fh f).1 m (by omega) (by have:=HB (x:=0) f F.den h;omega)) ?_;try conv=>cbv
    obtain⟨O,X,n⟩:=BE (q.num/((Nat.gcd q.num.natAbs p.den:Nat):Int));refine AB (r:= .agg [.bool O,.sl .u32 X]) D (FK F.num i (FU d) (Fh d).1 n (by omega) (by have:=HB (x:=0) d k.den i;omega)) ?_;try conv=>cbv
    obtain⟨P,Y,o⟩:=BE ((p.num/((Nat.gcd p.num.natAbs q.den:Nat):Int))*(q.num/((Nat.gcd q.num.natAbs p.den:Nat):Int)));refine AB (r:= .agg [.bool P,.sl .u32 Y]) D (EN m n o (by have:=Gm k.num m (FU f) (Fh f).1;omega) (by have:=Gm F.num n (FU d) (Fh d).1;omega)) ?_;try conv=>cbv
    obtain⟨Q,Z,v⟩:=BE ((p.den:Int)/((Nat.gcd q.num.natAbs p.den:Nat):Int));refine AB (r:= .agg [.bool Q,.sl .u32 Z]) D (FK k.den i (FU d) (Fh d).2 v (by omega) (by have:=HB (x:=0) d k.den i;omega)) ?_;try conv=>cbv
    obtain⟨S,a1,w⟩:=BE ((q.den:Int)/((Nat.gcd p.num.natAbs q.den:Nat):Int));refine AB (r:= .agg [.bool S,.sl .u32 a1]) D (FK F.den h (FU f) (Fh f).2 w (by omega) (by have:=HB (x:=0) f F.den h;omega)) ?_;try conv=>cbv
    obtain⟨U,a2,z⟩:=BE (((p.den:Int)/((Nat.gcd q.num.natAbs p.den:Nat):Int))*((q.den:Int)/((Nat.gcd p.num.natAbs q.den:Nat):Int)));refine AB (r:= .agg [.bool U,.sl .u32 a2]) D (EN v w z (by have:=Gm k.den v (FU d) (Fh d).2;omega) (by have:=Gm F.den w (FU f) (Fh f).2;omega)) ?_;try conv=>cbv
    refine g2 rfl ?_;exact AF ⟨⟨rfl,congrArg _ ((o.uniq G.num (by rw[I,Om])).1.symm),congrArg _ ((o.uniq G.num (by rw[I,Om])).2.symm),congrArg _ ((z.uniq G.den (by rw[I,Ol])).1.symm),congrArg _ ((z.uniq G.den (by rw[I,Ol])).2.symm),trivial⟩,trivial⟩
   obtain⟨aj,ak,J⟩:=BE (p.num*q.num);refine AB D (EN k.num F.num J (by omega) (by omega)) ?_;conv=>cbv
   refine g2 rfl ?_;exact AF ⟨⟨rfl,congrArg _ ((J.uniq G.num (by rw[I];exact (mul_ones (of_decide_eq_true j.symm) (of_decide_eq_true H.symm)).1.symm)).1.symm),congrArg _ ((J.uniq G.num (by rw[I];exact (mul_ones (of_decide_eq_true j.symm) (of_decide_eq_true H.symm)).1.symm)).2.symm),congrArg _ ((k.den.uniq G.den (by rw[I,(mul_ones (of_decide_eq_true j.symm) (of_decide_eq_true H.symm)).2];exact of_decide_eq_true j.symm)).1.symm),congrArg _ ((k.den.uniq G.den (by rw[I,(mul_ones (of_decide_eq_true j.symm) (of_decide_eq_true H.symm)).2];exact of_decide_eq_true j.symm)).2.symm),trivial⟩,trivial⟩
  have ag:=BS a6;obtain⟨M,V,K,L,g⟩:=CI (r);refine AB (r:= .agg [.bool M,.sl .u32 V,.bool K,.sl .u32 L]) D (Fv (x:=0) (by omega) (by rw[I];first | (rw[Rat.num_eq_zero.1 (k.num.GU.1 (by omega)),Rat.zero_mul];rfl) | (rw[Rat.num_eq_zero.1 (F.num.GU.1 (by omega)),Rat.mul_zero];rfl)) g) ?_;try conv=>cbv
  exact AF ⟨⟨rfl,congrArg _ ((g.uniq G rfl).1.1.symm),congrArg _ ((g.uniq G rfl).1.2.symm),congrArg _ ((g.uniq G rfl).2.1.symm),congrArg _ ((g.uniq G rfl).2.2.symm),trivial⟩,trivial⟩
 have af:=BS a5;obtain⟨M,V,K,L,g⟩:=CI (r);refine AB (r:= .agg [.bool M,.sl .u32 V,.bool K,.sl .u32 L]) D (Fv (x:=0) (by omega) (by rw[I];first | (rw[Rat.num_eq_zero.1 (k.num.GU.1 (by omega)),Rat.zero_mul];rfl) | (rw[Rat.num_eq_zero.1 (F.num.GU.1 (by omega)),Rat.mul_zero];rfl)) g) ?_;try conv=>cbv
 exact AF ⟨⟨rfl,congrArg _ ((g.uniq G rfl).1.1.symm),congrArg _ ((g.uniq G rfl).1.2.symm),congrArg _ ((g.uniq G rfl).2.1.symm),congrArg _ ((g.uniq G rfl).2.2.symm),trivial⟩,trivial⟩
theorem dT {p q:Rat} (i:Bm p b1 l1 b2 l2) (g:Bm q c1 m1 c2 m2) (hs:CQ p) (ht:CQ q) (M:r=p+q) (w:Bm r d1 k1 d2 k2):CF 289 [.agg (B5 b1 l1 b2 l2),.agg (B5 c1 m1 c2 m2)] (.agg (B5 d1 k1 d2 k2)):=by
 have aZ:=i.small hs;have b0:=g.small ht;have aY:=p.den_nz;have a7:=q.den_nz;have P:((Nat.gcd p.den q.den:Nat):Int)≠0:=FU a7;obtain⟨x,a8⟩:=xI ((p.den:Int)/((Nat.gcd p.den q.den:Nat):Int));obtain⟨y,aa⟩:=xI ((q.den:Int)/((Nat.gcd p.den q.den:Nat):Int));have a1:(p.den:Int)=x*((Nat.gcd p.den q.den:Nat):Int):=by rw[a8];exact (Int.ediv_mul_cancel (Int.natCast_dvd_natCast.2 (Nat.gcd_dvd_left _ _))).symm
 have a2:(q.den:Int)=y*((Nat.gcd p.den q.den:Nat):Int):=by rw[aa];exact (Int.ediv_mul_cancel (Int.natCast_dvd_natCast.2 (Nat.gcd_dvd_right _ _))).symm
 refine AO Tryz.func289 fun E h=>?_
 conv=>cbv
 rintro b3 ⟨aW,f14⟩;conv=>cbv
 intro aS ab;conv=>cbv
 cases aS <;> conv=>cbv
 ·have aQ:=BR ab;rintro b4 ⟨aX,f20⟩;conv=>cbv
  intro aT ad;conv=>cbv
  cases aT <;> conv=>cbv
  ·have aR:=BR ad;obtain⟨aO,z⟩:=xB (decide ((p.den:Int)=1));refine AB h (Jn i.den z) ?_;conv=>cbv
   cases aO <;> conv=>cbv
   ·obtain⟨an,aC,d⟩:=BE (((Nat.gcd p.den q.den:Nat):Int));refine AB h (Hq i.den g.den d (by omega) (by omega)) ?_;conv=>cbv
    have ae:=HB (x:=0) a7 g.den d;obtain⟨a5,D⟩:=xB (decide (((Nat.gcd p.den q.den:Nat):Int)=1));refine AB h (Jn d D) ?_;conv=>cbv
    cases a5 <;> conv=>cbv
    ·obtain⟨au,aG,f⟩:=BE (x);refine AB h (FK i.den d P a1 f (by omega) (by omega)) ?_;conv=>cbv
     have af:=Gm i.den f P a1;obtain⟨av,aH,j⟩:=BE (y);refine AB h (FK g.den d P a2 j (by omega) (by omega)) ?_;conv=>cbv
     have ag:=Gm g.den j P a2;refine g2 rfl ?_;obtain⟨aw,aI,m⟩:=BE (p.num*y);refine AB h (EN i.num j m (by omega) (by omega)) ?_;conv=>cbv
     have ah:=i.num.Dp j m rfl;obtain⟨ax,aJ,n⟩:=BE (q.num*x);refine AB h (EN g.num f n (by omega) (by omega)) ?_;conv=>cbv
     have ai:=g.num.Dp f n rfl;obtain⟨ay,aK,o⟩:=BE ((p.num*y+q.num*x));refine AB h (KX m n o (by omega) (by omega)) ?_;conv=>cbv
     have aj:=m.Nl n o rfl (k:=8000000000000) (by omega) (by omega);refine g2 rfl ?_;obtain⟨X,Z,v⟩:=BE (((Nat.gcd (p.num*y+q.num*x).natAbs (Nat.gcd p.den q.den):Nat):Int));refine AB (r:= .agg [.bool X,.sl .u32 Z]) h (Hq o d (by rw[Int.natAbs_natCast];exact v) (by omega) (by omega)) ?_;try conv=>cbv
     have Q:Nat.gcd p.den q.den≠0:=by omega
     have ak:=HB (x:=0) Q d v;have a6:(p.num*y+q.num*x)=(p.num*y+q.num*x)/((Nat.gcd (p.num*y+q.num*x).natAbs (Nat.gcd p.den q.den):Nat):Int)*((Nat.gcd (p.num*y+q.num*x).natAbs (Nat.gcd p.den q.den):Nat):Int):=(Fh Q).1;have S:=FU (a:=(p.num*y+q.num*x).natAbs) Q;have U:(q.den:Int)=(q.den:Int)/((Nat.gcd (p.num*y+q.num*x).natAbs (Nat.gcd p.den q.den):Nat):Int)*((Nat.gcd (p.num*y+q.num*x).natAbs (Nat.gcd p.den q.den):Nat):Int):=(Int.ediv_mul_cancel (Int.natCast_dvd_natCast.2 (Nat.dvd_trans (Nat.gcd_dvd_right _ _) (Nat.gcd_dvd_right _ _)))).symm;obtain⟨az,aL,J⟩:=BE ((p.num*y+q.num*x)/((Nat.gcd (p.num*y+q.num*x).natAbs (Nat.gcd p.den q.den):Nat):Int));refine AB h (FK o v S a6 J (by omega) (by omega)) ?_;conv=>cbv
     obtain⟨aA,aM,K⟩:=BE ((q.den:Int)/((Nat.gcd (p.num*y+q.num*x).natAbs (Nat.gcd p.den q.den):Nat):Int));refine AB h (FK g.den v S U K (by omega) (by omega)) ?_;conv=>cbv
     have al:=Gm g.den K S U;obtain⟨aB,aN,L⟩:=BE (x*((q.den:Int)/((Nat.gcd (p.num*y+q.num*x).natAbs (Nat.gcd p.den q.den):Nat):Int)));refine AB h (EN f K L (by omega) (by omega)) ?_;conv=>cbv
     refine g2 rfl ?_;have N:=Vh p q rfl (fun e=>by have:=of_decide_eq_false D.symm;omega) a8 aa rfl rfl;exact AF ⟨⟨rfl,congrArg _ ((J.uniq w.num (by rw[M];exact N.1.symm)).1.symm),congrArg _ ((J.uniq w.num (by rw[M];exact N.1.symm)).2.symm),congrArg _ ((L.uniq w.den (by rw[M];exact N.2.symm)).1.symm),congrArg _ ((L.uniq w.den (by rw[M];exact N.2.symm)).2.symm),trivial⟩,trivial⟩
    obtain⟨ao,aD,F⟩:=BE (p.num*q.den);refine AB h (EN i.num g.den F (by omega) (by omega)) ?_;conv=>cbv
    obtain⟨aq,aE,G⟩:=BE (q.num*p.den);refine AB h (EN g.num i.den G (by omega) (by omega)) ?_;conv=>cbv
    obtain⟨W,Y,H⟩:=BE (p.num*q.den+q.num*p.den);refine AB (r:= .agg [.bool W,.sl .u32 Y]) h (KX F G H (by have:=i.num.Dp g.den F rfl;omega) (by have:=g.num.Dp i.den G rfl;omega)) ?_;try conv=>cbv
    refine g2 rfl ?_;obtain⟨ar,aF,I⟩:=BE ((p.den:Int)*q.den);refine AB h (EN i.den g.den I (by omega) (by omega)) ?_;conv=>cbv
    refine g2 rfl ?_;have N:=Vg p q (by have:=of_decide_eq_true D.symm;omega);exact AF ⟨⟨rfl,congrArg _ ((H.uniq w.num (by rw[M];exact N.1.symm)).1.symm),congrArg _ ((H.uniq w.num (by rw[M];exact N.1.symm)).2.symm),congrArg _ ((I.uniq w.den (by rw[M];exact N.2.symm)).1.symm),congrArg _ ((I.uniq w.den (by rw[M];exact N.2.symm)).2.symm),trivial⟩,trivial⟩
   obtain⟨aP,O⟩:=xB (decide ((q.den:Int)=1));refine AB h (Jn g.den O) ?_;conv=>cbv
   cases aP <;> conv=>cbv
   ·obtain⟨an,aC,d⟩:=BE (((Nat.gcd p.den q.den:Nat):Int));refine AB h (Hq i.den g.den d (by omega) (by omega)) ?_;conv=>cbv
    have ae:=HB (x:=0) a7 g.den d;obtain⟨a5,D⟩:=xB (decide (((Nat.gcd p.den q.den:Nat):Int)=1));refine AB h (Jn d D) ?_;conv=>cbv
    cases a5 <;> conv=>cbv
    ·obtain⟨au,aG,f⟩:=BE (x);refine AB h (FK i.den d P a1 f (by omega) (by omega)) ?_;conv=>cbv
     have af:=Gm i.den f P a1;obtain⟨av,aH,j⟩:=BE (y);refine AB h (FK g.den d P a2 j (by omega) (by omega)) ?_;conv=>cbv
     have ag:=Gm g.den j P a2;refine g2 rfl ?_;obtain⟨aw,aI,m⟩:=BE (p.num*y);refine AB h (EN i.num j m (by omega) (by omega)) ?_;conv=>cbv
     have ah:=i.num.Dp j m rfl;obtain⟨ax,aJ,n⟩:=BE (q.num*x);refine AB h (EN g.num f n (by omega) (by omega)) ?_;conv=>cbv
     have ai:=g.num.Dp f n rfl;obtain⟨ay,aK,o⟩:=BE ((p.num*y+q.num*x));refine AB h (KX m n o (by omega) (by omega)) ?_;conv=>cbv
     have aj:=m.Nl n o rfl (k:=8000000000000) (by omega) (by omega);refine g2 rfl ?_;obtain⟨X,Z,v⟩:=BE (((Nat.gcd (p.num*y+q.num*x).natAbs (Nat.gcd p.den q.den):Nat):Int));refine AB (r:= .agg [.bool X,.sl .u32 Z]) h (Hq o d (by rw[Int.natAbs_natCast];exact v) (by omega) (by omega)) ?_;try conv=>cbv
     have Q:Nat.gcd p.den q.den≠0:=by omega
     have ak:=HB (x:=0) Q d v;have a6:(p.num*y+q.num*x)=(p.num*y+q.num*x)/((Nat.gcd (p.num*y+q.num*x).natAbs (Nat.gcd p.den q.den):Nat):Int)*((Nat.gcd (p.num*y+q.num*x).natAbs (Nat.gcd p.den q.den):Nat):Int):=(Fh Q).1;have S:=FU (a:=(p.num*y+q.num*x).natAbs) Q;have U:(q.den:Int)=(q.den:Int)/((Nat.gcd (p.num*y+q.num*x).natAbs (Nat.gcd p.den q.den):Nat):Int)*((Nat.gcd (p.num*y+q.num*x).natAbs (Nat.gcd p.den q.den):Nat):Int):=(Int.ediv_mul_cancel (Int.natCast_dvd_natCast.2 (Nat.dvd_trans (Nat.gcd_dvd_right _ _) (Nat.gcd_dvd_right _ _)))).symm;obtain⟨az,aL,J⟩:=BE ((p.num*y+q.num*x)/((Nat.gcd (p.num*y+q.num*x).natAbs (Nat.gcd p.den q.den):Nat):Int));refine AB h (FK o v S a6 J (by omega) (by omega)) ?_;conv=>cbv
     obtain⟨aA,aM,K⟩:=BE ((q.den:Int)/((Nat.gcd (p.num*y+q.num*x).natAbs (Nat.gcd p.den q.den):Nat):Int));refine AB h (FK g.den v S U K (by omega) (by omega)) ?_;conv=>cbv
     have al:=Gm g.den K S U;obtain⟨aB,aN,L⟩:=BE (x*((q.den:Int)/((Nat.gcd (p.num*y+q.num*x).natAbs (Nat.gcd p.den q.den):Nat):Int)));refine AB h (EN f K L (by omega) (by omega)) ?_;conv=>cbv
     refine g2 rfl ?_;have N:=Vh p q rfl (fun e=>by have:=of_decide_eq_false D.symm;omega) a8 aa rfl rfl;exact AF ⟨⟨rfl,congrArg _ ((J.uniq w.num (by rw[M];exact N.1.symm)).1.symm),congrArg _ ((J.uniq w.num (by rw[M];exact N.1.symm)).2.symm),congrArg _ ((L.uniq w.den (by rw[M];exact N.2.symm)).1.symm),congrArg _ ((L.uniq w.den (by rw[M];exact N.2.symm)).2.symm),trivial⟩,trivial⟩
    obtain⟨ao,aD,F⟩:=BE (p.num*q.den);refine AB h (EN i.num g.den F (by omega) (by omega)) ?_;conv=>cbv
    obtain⟨aq,aE,G⟩:=BE (q.num*p.den);refine AB h (EN g.num i.den G (by omega) (by omega)) ?_;conv=>cbv
    obtain⟨W,Y,H⟩:=BE (p.num*q.den+q.num*p.den);refine AB (r:= .agg [.bool W,.sl .u32 Y]) h (KX F G H (by have:=i.num.Dp g.den F rfl;omega) (by have:=g.num.Dp i.den G rfl;omega)) ?_;try conv=>cbv
    refine g2 rfl ?_;obtain⟨ar,aF,I⟩:=BE ((p.den:Int)*q.den);refine AB h (EN i.den g.den I (by omega) (by omega)) ?_;conv=>cbv
    refine g2 rfl ?_;have N:=Vg p q (by have:=of_decide_eq_true D.symm;omega);exact AF ⟨⟨rfl,congrArg _ ((H.uniq w.num (by rw[M];exact N.1.symm)).1.symm),congrArg _ ((H.uniq w.num (by rw[M];exact N.1.symm)).2.symm),congrArg _ ((I.uniq w.den (by rw[M];exact N.2.symm)).1.symm),congrArg _ ((I.uniq w.den (by rw[M];exact N.2.symm)).2.symm),trivial⟩,trivial⟩
   obtain⟨aU,aV,V⟩:=BE (p.num+q.num);refine AB h (KX i.num g.num V (by omega) (by omega)) ?_;conv=>cbv
   refine g2 rfl ?_;exact AF ⟨⟨rfl,congrArg _ ((V.uniq w.num (by rw[M];exact (I6 (of_decide_eq_true z.symm) (of_decide_eq_true O.symm)).1.symm)).1.symm),congrArg _ ((V.uniq w.num (by rw[M];exact (I6 (of_decide_eq_true z.symm) (of_decide_eq_true O.symm)).1.symm)).2.symm),congrArg _ ((i.den.uniq w.den (by rw[M,(I6 (of_decide_eq_true z.symm) (of_decide_eq_true O.symm)).2];exact of_decide_eq_true z.symm)).1.symm),congrArg _ ((i.den.uniq w.den (by rw[M,(I6 (of_decide_eq_true z.symm) (of_decide_eq_true O.symm)).2];exact of_decide_eq_true z.symm)).2.symm),trivial⟩,trivial⟩
  have aR:=BS ad;have e0:q=0:=Rat.num_eq_zero.1 (g.num.GU.1 (by omega));have e1:r=p:=by rw[M,e0,Rat.add_zero]
  exact AF ⟨⟨rfl,congrArg _ ((i.num.uniq w.num (by rw[e1])).1.symm),congrArg _ ((i.num.uniq w.num (by rw[e1])).2.symm),congrArg _ ((i.den.uniq w.den (by rw[e1])).1.symm),congrArg _ ((i.den.uniq w.den (by rw[e1])).2.symm),trivial⟩,trivial⟩
 have aQ:=BS ab;have e0:p=0:=Rat.num_eq_zero.1 (i.num.GU.1 (by omega));have e1:r=q:=by rw[M,e0,Rat.zero_add]
 exact AF ⟨⟨rfl,congrArg _ ((g.num.uniq w.num (by rw[e1])).1.symm),congrArg _ ((g.num.uniq w.num (by rw[e1])).2.symm),congrArg _ ((g.den.uniq w.den (by rw[e1])).1.symm),congrArg _ ((g.den.uniq w.den (by rw[e1])).2.symm),trivial⟩,trivial⟩
theorem iv {p:Rat} (h:p≠0):(1/p).num=(if p.num<0 then -(p.den:Int) else p.den)/\((1/p).den:Int)=if p.num<0 then -p.num else p.num:=by
 have f:p.num≠0:=mt Rat.num_eq_zero.1 h;have e:1/p=Rat.inv p:=by rw[Rat.div_def,Rat.one_mul];rfl
 rw[e];unfold Rat.inv
 split
 ·rename_i d;exact⟨rfl,by show ((p.num.natAbs:Nat):Int)=_;omega⟩
 rename_i d
 rw[dif_pos (by omega)];exact⟨rfl,by show ((p.num.natAbs:Nat):Int)=_;omega⟩
theorem dV {p:Rat} (i:Bm p b1 l1 b2 l2) (v:p≠0) (w:r=1/p) (j:Bm r d1 k1 d2 k2):CF 284 [.agg (B5 b1 l1 b2 l2)] (.agg (B5 d1 k1 d2 k2)):=by
 obtain⟨f,d⟩:=iv v;rw[<-w] at f d;refine AO Tryz.func284 fun E m=>?_
 conv=>cbv
 cases b1 <;> conv=>cbv
 ·have h:=RJ i.num rfl;exact AF ⟨⟨rfl,congrArg _ ((i.den.uniq j.num (by rw[f,if_neg h])).1.symm),congrArg _ ((i.den.uniq j.num (by rw[f,if_neg h])).2.symm),congrArg _ ((i.num.uniq j.den (by rw[d,if_neg h])).1.symm),congrArg _ ((i.num.uniq j.den (by rw[d,if_neg h])).2.symm),trivial⟩,trivial⟩
 obtain⟨z,D,k⟩:=BE (-(p.den:Int));refine AB m (Ly i.den k) ?_;conv=>cbv
 obtain⟨n,o,g⟩:=BE (-p.num);refine AB m (Ly i.num g) ?_;conv=>cbv
 refine g2 rfl ?_;have h:=RK i.num rfl;exact AF ⟨⟨rfl,congrArg _ ((k.uniq j.num (by rw[f,if_pos h])).1.symm),congrArg _ ((k.uniq j.num (by rw[f,if_pos h])).2.symm),congrArg _ ((g.uniq j.den (by rw[d,if_pos h])).1.symm),congrArg _ ((g.uniq j.den (by rw[d,if_pos h])).2.symm),trivial⟩,trivial⟩
theorem da {p:Rat} (f:Bm p b1 l1 b2 l2) (w:CQ p):CF 311 [.agg (B5 b1 l1 b2 l2)] (.one (.bool true)):=by
 have z:=f.small w;have v:=p.den_pos;refine AO Tryz.func311 fun E h=>?_
 conv=>cbv
 refine AB h (VL f.num) ?_;conv=>cbv
 refine AB h (VL f.den) ?_;conv=>cbv
 obtain⟨o,i⟩:=xI ((1:Int));refine AB (r:= .one (.int .i64 o)) h (KY f.den (i.trans (by unfold Cg;rw[if_neg (by omega),if_neg (by omega)]))) ?_;try conv=>cbv
 intro n g;conv=>cbv
 cases n <;> conv=>cbv
 ·have j:=Cc g;exact absurd j (by omega)
 have j:=Cd g;obtain⟨k,m,d⟩:=BE ((1:Int));refine AB (r:= .agg [.bool k,.sl .u32 m]) h (Hq f.num f.den (by rw[Int.natAbs_natCast,show Nat.gcd p.num.natAbs p.den=1 from p.reduced];exact d) (by omega) (by omega)) ?_;try conv=>cbv
 refine AB h (Jn d rfl) ?_;conv=>cbv
 exact AF ⟨t2,trivial⟩
theorem YZ {d r:Int} (f:r=Cg d) (h:r<0):d<0:=by rcases GY d with⟨a,e⟩ |⟨a,e⟩ |⟨a,e⟩ <;> omega
theorem Yg {d r:Int} (f:r=Cg d) (h:0<=r):¬d<0:=by rcases GY d with⟨a,e⟩ |⟨a,e⟩ |⟨a,e⟩ <;> omega
theorem N9 {g:Int} (d:g≠0) (h:g∣x):x=Cb x g*g:=by
 unfold Cb
 split
 ·exact (Int.ediv_mul_cancel h).symm
 have:=Int.ediv_mul_cancel (a:= -x) (b:= -g) (Int.neg_dvd.2 (Int.dvd_neg.2 h));rw[Int.mul_neg] at this
 generalize -x/ -g*g=Q at*
 omega
theorem OO (n d:Int):(if d<0 then -((Nat.gcd n.natAbs d.natAbs:Nat):Int) else ((Nat.gcd n.natAbs d.natAbs:Nat):Int))∣n/\(if d<0 then -((Nat.gcd n.natAbs d.natAbs:Nat):Int) else ((Nat.gcd n.natAbs d.natAbs:Nat):Int))∣d:=by
 have f:((Nat.gcd n.natAbs d.natAbs:Nat):Int)∣n:=Int.ofNat_dvd_left.2 (Nat.gcd_dvd_left _ _);have g:((Nat.gcd n.natAbs d.natAbs:Nat):Int)∣d:=Int.ofNat_dvd_left.2 (Nat.gcd_dvd_right _ _)
 split
 ·exact⟨Int.neg_dvd.2 f,Int.neg_dvd.2 g⟩
 exact⟨f,g⟩
theorem dM {n d:Int} {q:Rat} (S:BH n b1 l1) (F:BH d b2 l2) (D:d≠0) (Q:q=Rat.divInt n d) (G:Bm q c1 m1 c2 m2) (s1:l1.length<=17592186042000) (s2:l2.length<=17592186042000):CF 259 [.agg (Bi b1 l1),.agg (Bi b2 l2)] (.agg (B5 c1 m1 c2 m2)):=by
 refine AO Tryz.func259 fun E H=>?_
 conv=>cbv
 obtain⟨V,W,k⟩:=BE (((Nat.gcd n.natAbs d.natAbs:Nat):Int));refine AB H (Hq S F k (by omega) (by omega)) ?_;conv=>cbv
 obtain⟨X,i⟩:=xI (Cg d);refine AB H (KY F i) ?_;conv=>cbv
 intro U K;conv=>cbv
 refine .inr ?_;cases U <;> conv=>cbv
 ·have m:=BK K;obtain⟨o,w,f⟩:=BE (Cb n (if d<0 then -((Nat.gcd n.natAbs d.natAbs:Nat):Int) else ((Nat.gcd n.natAbs d.natAbs:Nat):Int)));have N:BH (if d<0 then -((Nat.gcd n.natAbs d.natAbs:Nat):Int) else ((Nat.gcd n.natAbs d.natAbs:Nat):Int)) V W:=by rw[if_neg (Yg i m)];exact k
  have h:(if d<0 then -((Nat.gcd n.natAbs d.natAbs:Nat):Int) else ((Nat.gcd n.natAbs d.natAbs:Nat):Int))≠0:=by rw[if_neg (Yg i m)];have:=ON (n:=n) D;omega
  have M:Cb n (if d<0 then -((Nat.gcd n.natAbs d.natAbs:Nat):Int) else ((Nat.gcd n.natAbs d.natAbs:Nat):Int))=q.num:=by rw[Q];exact (Oc D).symm
  have L:Cb d (if d<0 then -((Nat.gcd n.natAbs d.natAbs:Nat):Int) else ((Nat.gcd n.natAbs d.natAbs:Nat):Int))=(q.den:Int):=by rw[Q];exact (Ob D).symm
  have J:n=Cb n (if d<0 then -((Nat.gcd n.natAbs d.natAbs:Nat):Int) else ((Nat.gcd n.natAbs d.natAbs:Nat):Int))*(if d<0 then -((Nat.gcd n.natAbs d.natAbs:Nat):Int) else ((Nat.gcd n.natAbs d.natAbs:Nat):Int)):=N9 h (OO n d).1;have I:d=Cb d (if d<0 then -((Nat.gcd n.natAbs d.natAbs:Nat):Int) else ((Nat.gcd n.natAbs d.natAbs:Nat):Int))*(if d<0 then -((Nat.gcd n.natAbs d.natAbs:Nat):Int) else ((Nat.gcd n.natAbs d.natAbs:Nat):Int)):=N9 h (OO n d).2;refine AB (r:= .agg [.bool o,.sl .u32 w]) H (FK S N h (J) f (by omega) (by have:=MR D F k;omega)) ?_;try conv=>cbv
  obtain⟨v,z,g⟩:=BE (Cb d (if d<0 then -((Nat.gcd n.natAbs d.natAbs:Nat):Int) else ((Nat.gcd n.natAbs d.natAbs:Nat):Int)));refine AB (r:= .agg [.bool v,.sl .u32 z]) H (FK F N h (I) g (by omega) (by have:=MR D F k;omega)) ?_;try conv=>cbv
  refine g2 rfl ?_;exact AF ⟨⟨rfl,congrArg _ ((f.uniq G.num M).1.symm),congrArg _ ((f.uniq G.num M).2.symm),congrArg _ ((g.uniq G.den L).1.symm),congrArg _ ((g.uniq G.den L).2.symm),trivial⟩,trivial⟩
 have m:=BL K;obtain⟨O,P,j⟩:=BE (-((Nat.gcd n.natAbs d.natAbs:Nat):Int));refine AB H (Ly k j) ?_;conv=>cbv
 obtain⟨o,w,f⟩:=BE (Cb n (if d<0 then -((Nat.gcd n.natAbs d.natAbs:Nat):Int) else ((Nat.gcd n.natAbs d.natAbs:Nat):Int)));have N:BH (if d<0 then -((Nat.gcd n.natAbs d.natAbs:Nat):Int) else ((Nat.gcd n.natAbs d.natAbs:Nat):Int)) O P:=by rw[if_pos (YZ i m)];exact j
 have h:(if d<0 then -((Nat.gcd n.natAbs d.natAbs:Nat):Int) else ((Nat.gcd n.natAbs d.natAbs:Nat):Int))≠0:=by rw[if_pos (YZ i m)];have:=ON (n:=n) D;omega
 have M:Cb n (if d<0 then -((Nat.gcd n.natAbs d.natAbs:Nat):Int) else ((Nat.gcd n.natAbs d.natAbs:Nat):Int))=q.num:=by rw[Q];exact (Oc D).symm
 have L:Cb d (if d<0 then -((Nat.gcd n.natAbs d.natAbs:Nat):Int) else ((Nat.gcd n.natAbs d.natAbs:Nat):Int))=(q.den:Int):=by rw[Q];exact (Ob D).symm
 have J:n=Cb n (if d<0 then -((Nat.gcd n.natAbs d.natAbs:Nat):Int) else ((Nat.gcd n.natAbs d.natAbs:Nat):Int))*(if d<0 then -((Nat.gcd n.natAbs d.natAbs:Nat):Int) else ((Nat.gcd n.natAbs d.natAbs:Nat):Int)):=N9 h (OO n d).1;have I:d=Cb d (if d<0 then -((Nat.gcd n.natAbs d.natAbs:Nat):Int) else ((Nat.gcd n.natAbs d.natAbs:Nat):Int))*(if d<0 then -((Nat.gcd n.natAbs d.natAbs:Nat):Int) else ((Nat.gcd n.natAbs d.natAbs:Nat):Int)):=N9 h (OO n d).2;refine AB (r:= .agg [.bool o,.sl .u32 w]) H (FK S N h (J) f (by omega) (by have:=OM D F j;omega)) ?_;try conv=>cbv
 obtain⟨v,z,g⟩:=BE (Cb d (if d<0 then -((Nat.gcd n.natAbs d.natAbs:Nat):Int) else ((Nat.gcd n.natAbs d.natAbs:Nat):Int)));refine AB (r:= .agg [.bool v,.sl .u32 z]) H (FK F N h (I) g (by omega) (by have:=OM D F j;omega)) ?_;try conv=>cbv
 refine g2 rfl ?_;exact AF ⟨⟨rfl,congrArg _ ((f.uniq G.num M).1.symm),congrArg _ ((f.uniq G.num M).2.symm),congrArg _ ((g.uniq G.den L).1.symm),congrArg _ ((g.uniq G.den L).2.symm),trivial⟩,trivial⟩
theorem Ps {n d:Int} {q:Rat} (m: -9223372036854775808<=n/\n<9223372036854775808) (k: -9223372036854775808<=d/\d<9223372036854775808) (i:d≠0) (z:q=Rat.divInt n d) (D:Bm q c1 m1 c2 m2):CF 208 [.one (.int .i64 n),.one (.int .i64 d)] (.agg (B5 c1 m1 c2 m2)):=by
 refine AO Tryz.func208 fun E h=>?_
 conv=>cbv
 intro F j;conv=>cbv
 cases F <;> conv=>cbv
 ·have o:=BR j;obtain⟨G,H,g⟩:=BE (n);refine AB h (NZ m g) ?_;conv=>cbv
  obtain⟨v,w,f⟩:=BE (d);refine AB h (NZ k f) ?_;conv=>cbv
  refine AB (r:= .agg [.bool c1,.sl .u32 m1,.bool c2,.sl .u32 m2]) h (dM g f i z D (by have:=PY m g;omega) (by have:=PY k f;omega)) ?_;try conv=>cbv
  exact AF ⟨⟨rfl,rfl,rfl,rfl,rfl,trivial⟩,trivial⟩
 have o:=BS j;exact absurd o i
end Go.Abs
