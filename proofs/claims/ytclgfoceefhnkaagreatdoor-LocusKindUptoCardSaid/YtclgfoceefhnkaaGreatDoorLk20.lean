/- Part 21 of a proof. Conditions: each theorem's own. -/
import Derived.Test.YtclgfoceefhnkaaGreatDoorLk19
set_option linter.all false
set_option maxHeartbeats 80000000
set_option maxRecDepth 20000
open Go.Proofs
namespace Go.Abs
open Go.RowKit
variable {A B l:LR} {R k0 s:Nat} {T:List LR} {i n p q t w x:Re} {r:List Rat} {u:List (List Rat)}
theorem Tm {C:LR} {y:Re} (h:Ah R u) (f:T=tw u) (g:A=em u y) (m:El u s y) (ht:t=Re.ofRat (1/2)) (k:s+1+EE u.length R<=60000000000000) (j:C=em u (t*y)):CF 377 [.one (.sl (.sl AA) T),.one (.sl AA A)] (.one (.sl AA C)):=by
 refine AM Tryz.func377 fun E c=>?_
 conv=>cbv
 obtain⟨F,G,z,D,b⟩:=Bl (1/2:Rat);refine AB c (Xh (by omega) (by omega) (by omega) (by decide +kernel) b) ?_;conv=>cbv
 obtain⟨o,a⟩:=xR (em u (t));refine AB (r:= .one (.sl AA o)) c (Ho h f b ⟨by decide +kernel,by decide +kernel⟩ (a.trans (by rw[ht]))) ?_;conv=>cbv
 have d:El u 1 t:=ht ▸ El.rat h.red J7;refine AB (r:= .one (.sl AA C)) c (GP h f g a m d k (by rw[j];congr 1;grind)) ?_;try conv=>cbv
 exact AD ⟨t2,trivial⟩
theorem gB {q r:Rat} (G:T=[]) (y:A=[rp q]) (D:B=[rp r]) (J:Bt q) (z:0<=r) (I:r*r=q):CF 343 [.one (.sl (.sl AA) T),.one (.sl AA A)] (.AJ [(false,[.sl AA B]),(false,[.bool true])]):=by
 refine AM Tryz.func343 fun E F=>?_
 conv=>cbv
 rintro K ⟨k,f27⟩;conv=>cbv
 intro m c;conv=>cbv
 cases m <;> conv=>cbv
 ·have d:=AN c;exact absurd (by rw[k,G];rfl) d
 have d:=AO c;have C:A.length=1:=by rw[y];rfl
 obtain⟨o,a⟩:=AL (l:=A) (i:=0) (by omega);refine⟨o,fun _=>⟨by omega,a⟩,?_⟩;try conv=>cbv
 have H:=ED y a;obtain⟨h,j,f,g,b⟩:=Bl r;refine AB F (X2 H J z I b) ?_;conv=>cbv
 refine⟨[((h,j),(f,g))],fun _=>⟨rfl,by decide,rfl,⟨rfl,by first | exact t1 | exact t2 | exact t4 | simp[Aq,BG,cells],trivial⟩⟩,.inl ?_⟩;try conv=>cbv
 exact AD ⟨⟨rfl,.inl ⟨_,rfl,by simp,congrArg _ (by rw[D,b.rp];rfl)⟩,trivial⟩,t2,trivial⟩
theorem gA {q:Rat} (o:T=[]) (h:A=[rp q]) (k:B=[(((false,[]),(false,[])):el AA)]) (C:Bt q) (z:¬∃r:Rat,0<=r/\r*r=q):CF 343 [.one (.sl (.sl AA) T),.one (.sl AA A)] (.AJ [(false,[.sl AA B]),(false,[.bool false])]):=by
 refine AM Tryz.func343 fun E m=>?_
 conv=>cbv
 rintro D ⟨d,f27⟩;conv=>cbv
 intro f b;conv=>cbv
 cases f <;> conv=>cbv
 ·have c:=AN b;exact absurd (by rw[d,o];rfl) c
 have c:=AO b;have j:A.length=1:=by rw[h];rfl
 obtain⟨g,a⟩:=AL (l:=A) (i:=0) (by omega);refine⟨g,fun _=>⟨by omega,a⟩,?_⟩;try conv=>cbv
 have y:=ED h a;refine AB m (X1 y C z) ?_;conv=>cbv
 refine⟨[((false,[]),(false,[]))],fun _=>⟨rfl,by decide,rfl,⟨rfl,by first | exact t1 | exact t2 | exact t4 | simp[Aq,BG,cells],trivial⟩⟩,.inl ?_⟩;try conv=>cbv
 exact AD ⟨⟨rfl,.inl ⟨_,rfl,by simp,congrArg _ (by rw[k];rfl)⟩,trivial⟩,t2,trivial⟩
def GS (f:FuncId) (u:List (List Rat)) (x w:Re):Prop:=∀{T:List LR} {A B:LR},T=tw u->A=em u x->B=em u w->CF f [.one (.sl (.sl AA) T),.one (.sl AA A)] (.AJ [(false,[.sl AA B]),(false,[.bool true])])
def GR (f:FuncId) (u:List (List Rat)) (x:Re) (l:LR):Prop:=∀{T:List LR} {A:LR},T=tw u->A=em u x->CF f [.one (.sl (.sl AA) T),.one (.sl AA A)] (.AJ [(false,[.sl AA l]),(false,[.bool false])])
def Qm (f:FuncId) (R:Nat) (u:List (List Rat)):Prop:=∀{s:Nat} {x:Re},El u s x->QQ u.length R s<=60000000000000->(∃w,In u w/\w*w=x/\GS f u x w)\/(¬Sq u x/\∃l,l.length<=2^u.length/\GR f u x l)
theorem gG (h:Ah R (r::u)) (P:T=tw (r::u)) (O:A=em (r::u) x) (hx:El (r::u) s x) (F:x=p+q*rt u r) (hp:El u s p) (Q:El u s q) (hs:QQ (r::u).length R s<=60000000000000) (h0:q=0) (hw:In u w) (hy:GS 343 u p w) (hB:B=em (r::u) w):CF 343 [.one (.sl (.sl AA) T),.one (.sl AA A)] (.AJ [(false,[.sl AA B]),(false,[.bool true])]):=by
 have av:T.length=u.length+1:=by rw[P,Bh];rfl
 have au:A.length=2^u.length+2^u.length:=by rw[O,BI hx.mem,Br]
 have aA:=El.Cj h;have aB:=CX h.red;have aa:=Cu h.tail.ht;have ax:=DR u.length;have S:El u 0 0:=El.rat h.red.1 Gx;have ay:QQ (r::u).length R s=max (QQ u.length R (3*s+3*EE u.length R+R+GG u.length R+3+II u.length R R)) (s+II u.length R (2*(3*s+3*EE u.length R+R+GG u.length R+3+II u.length R R+GG u.length R)+1)+EE u.length R):=rfl;have az:=Gm u.length R (3*s+3*EE u.length R+R+GG u.length R+3+II u.length R R);have aw:=D2 u.length R (2*(3*s+3*EE u.length R+R+GG u.length R+3+II u.length R R+GG u.length R)+1);refine AM Tryz.func343 fun E m=>?_
 conv=>cbv
 rintro aF ⟨ah,f27⟩;conv=>cbv
 intro Y k;conv=>cbv
 cases Y <;> conv=>cbv
 ·have G:=AN k;rintro aG ⟨ai,f41⟩;conv=>cbv
  intro aH an;conv=>cbv
  refine AI ?_;intro aC a7;conv=>cbv
  refine AH ?_;intro M a1;conv=>cbv
  intro V y;conv=>cbv
  rintro aI ⟨aj,f46⟩;conv=>cbv
  intro H ao;conv=>cbv
  refine AI ?_;obtain⟨K,d⟩:=AL (l:=T) (i:=(H).toNat) (by omega);refine⟨K,fun _=>⟨by omega,d⟩,?_⟩;try conv=>cbv
  refine g2 rfl ?_;rintro aJ ⟨ak,f52⟩;conv=>cbv
  intro C3 aq;conv=>cbv
  refine g2 ⟨by omega,by omega,i64 (by omega)⟩ ?_;intro aD a8;conv=>cbv
  refine AH ?_;intro N a2;conv=>cbv
  intro W z;conv=>cbv
  rintro aK ⟨al,f57⟩;conv=>cbv
  intro aL ar;conv=>cbv
  refine g2 ⟨by omega,by omega,i64 (by omega)⟩ ?_;intro aE D;conv=>cbv
  refine AH ?_;rintro L ag ⟨Z,o⟩;conv=>cbv
  intro X C;conv=>cbv
  refine g2 rfl ?_;have a:V=tw u:=by rw[y,List.drop_zero,show M=T.length-1 by omega,P,DD]
  have U:K=Aj r:=by have:=Ed r u;rw[<-P,show T.length-1=H.toNat by omega,d] at this;exact Option.some.inj this
  have g:W=em u p:=by rw[z,List.drop_zero,show N=A.length/2 by omega,O,CE h.red hp.mem Q.mem F]
  have j:X=em u q:=by rw[C,show L=A.length/2 by omega,o,D,List.take_length,O,B6 h.red hp.mem Q.mem F]
  refine AB m (Hx h.red.1 Q.mem j h0) ?_;conv=>cbv
  obtain⟨I,b⟩:=xR (em u w);refine AB m (hy a g b) ?_;conv=>cbv
  obtain⟨ae,af,ab,ad,f⟩:=Bl (((0:Int):Rat));refine AB m (Gn (by omega) rfl f) ?_;conv=>cbv
  obtain⟨J,c⟩:=xR (em u (0));refine AB m (Ho h.tail a f ⟨by decide +kernel,by decide +kernel⟩ c) ?_;conv=>cbv
  refine⟨[I,J],fun _=>⟨rfl,by decide,rfl,⟨rfl,by first | exact t1 | exact t2 | exact t4 | simp[Aq,BG,cells],⟨rfl,by first | exact t1 | exact t2 | exact t4 | simp[Aq,BG,cells],trivial⟩⟩⟩,.inr ?_⟩;try conv=>cbv
  have a5:I.length=2^u.length:=by rw[b,BI hw]
  have a6:J.length=2^u.length:=by rw[c,BI S.mem]
  refine AB (r:= .one (.sl AA B)) m (Lk (by omega) (by omega) (by rw[hB,b,c];exact EN h.red hw (CH u) (by grind))) ?_;try conv=>cbv
  exact AD ⟨t2,t2,trivial⟩
 have G:=AO k;exact absurd G (by omega)
theorem gH (h:Ah R (r::u)) (W:T=tw (r::u)) (V:A=em (r::u) x) (hx:El (r::u) s x) (K:x=p+q*rt u r) (Y:El u s p) (Z:El u s q) (hs:QQ (r::u).length R s<=60000000000000) (h0:q=0) (hi:In u i) (I:AP u r*i=1) (hn:GR 343 u p l) (hw:In u w) (hy:GS 343 u (p*i) w) (hB:B=em (r::u) (w*rt u r)):CF 343 [.one (.sl (.sl AA) T),.one (.sl AA A)] (.AJ [(false,[.sl AA B]),(false,[.bool true])]):=by
 have aB:T.length=u.length+1:=by rw[W,Bh];rfl
 have aA:A.length=2^u.length+2^u.length:=by rw[V,BI hx.mem,Br]
 have J:=El.Cj h;have aG:=CX h.red;have ah:=Cu h.tail.ht;have aD:=DR u.length;have a1:El u 0 0:=El.rat h.red.1 Gx;have aE:QQ (r::u).length R s=max (QQ u.length R (3*s+3*EE u.length R+R+GG u.length R+3+II u.length R R)) (s+II u.length R (2*(3*s+3*EE u.length R+R+GG u.length R+3+II u.length R R+GG u.length R)+1)+EE u.length R):=rfl;have aF:=Gm u.length R (3*s+3*EE u.length R+R+GG u.length R+3+II u.length R R);have aC:=D2 u.length R (2*(3*s+3*EE u.length R+R+GG u.length R+3+II u.length R R+GG u.length R)+1);refine AM Tryz.func343 fun E f=>?_
 conv=>cbv
 rintro aK ⟨ao,f27⟩;conv=>cbv
 intro a7 z;conv=>cbv
 cases a7 <;> conv=>cbv
 ·have L:=AN z;rintro aL ⟨aq,f41⟩;conv=>cbv
  intro aM aw;conv=>cbv
  refine AI ?_;intro aH af;conv=>cbv
  refine AH ?_;intro S aa;conv=>cbv
  intro a2 D;conv=>cbv
  rintro aN ⟨ar,f46⟩;conv=>cbv
  intro M ax;conv=>cbv
  refine AI ?_;obtain⟨P,k⟩:=AL (l:=T) (i:=(M).toNat) (by omega);refine⟨P,fun _=>⟨by omega,k⟩,?_⟩;try conv=>cbv
  refine g2 rfl ?_;rintro aO ⟨au,f52⟩;conv=>cbv
  intro C3 ay;conv=>cbv
  refine g2 ⟨by omega,by omega,i64 (by omega)⟩ ?_;intro aI ag;conv=>cbv
  refine AH ?_;intro U ab;conv=>cbv
  intro a5 F;conv=>cbv
  rintro aP ⟨av,f57⟩;conv=>cbv
  intro aQ az;conv=>cbv
  refine g2 ⟨by omega,by omega,i64 (by omega)⟩ ?_;intro aJ H;conv=>cbv
  refine AH ?_;rintro Q an ⟨a8,C⟩;conv=>cbv
  intro a6 G;conv=>cbv
  refine g2 rfl ?_;have a:a2=tw u:=by rw[D,List.drop_zero,show S=T.length-1 by omega,W,DD]
  have y:P=Aj r:=by have:=Ed r u;rw[<-W,show T.length-1=M.toNat by omega,k] at this;exact Option.some.inj this
  have b:a5=em u p:=by rw[F,List.drop_zero,show U=A.length/2 by omega,V,CE h.red Y.mem Z.mem K]
  have o:a6=em u q:=by rw[G,show Q=A.length/2 by omega,C,H,List.take_length,V,B6 h.red Y.mem Z.mem K]
  refine AB f (Hx h.red.1 Z.mem o h0) ?_;conv=>cbv
  refine AB f (hn a b) ?_;conv=>cbv
  obtain⟨aR,g⟩:=xR (em u i);have X:=J.inv h.tail hi I;refine AB f (NN h.tail a (y.trans (Dw h.red)) J hi I (by omega) g) ?_;conv=>cbv
  refine BK ?_;conv=>cbv
  obtain⟨aS,j⟩:=xR (em u (p*i));refine AB f (GP h.tail a b g Y X (by omega) j) ?_;conv=>cbv
  obtain⟨N,c⟩:=xR (em u w);refine AB f (hy a j c) ?_;conv=>cbv
  obtain⟨ak,al,ai,aj,m⟩:=Bl (((0:Int):Rat));refine AB f (Gn (by omega) rfl m) ?_;conv=>cbv
  obtain⟨O,d⟩:=xR (em u (0));refine AB f (Ho h.tail a m ⟨by decide +kernel,by decide +kernel⟩ d) ?_;conv=>cbv
  refine⟨[O,N],fun _=>⟨rfl,by decide,rfl,⟨rfl,by first | exact t1 | exact t2 | exact t4 | simp[Aq,BG,cells],⟨rfl,by first | exact t1 | exact t2 | exact t4 | simp[Aq,BG,cells],trivial⟩⟩⟩,.inr ?_⟩;try conv=>cbv
  have ad:N.length=2^u.length:=by rw[c,BI hw]
  have ae:O.length=2^u.length:=by rw[d,BI a1.mem]
  refine AB (r:= .one (.sl AA B)) f (Lk (by omega) (by omega) (by rw[hB,c,d];exact EN h.red (CH u) hw (by grind))) ?_;try conv=>cbv
  exact AD ⟨t2,t2,trivial⟩
 have L:=AO z;exact absurd L (by omega)
theorem gI (h:Ah R (r::u)) (U:T=tw (r::u)) (S:A=em (r::u) x) (hx:El (r::u) s x) (J:x=p+q*rt u r) (W:El u s p) (X:El u s q) (hs:QQ (r::u).length R s<=60000000000000) {l2:LR} (h0:q=0) (hi:In u i) (H:AP u r*i=1) (hn:GR 343 u p l) (hy:GR 343 u (p*i) l2) (aA:l2.length<=2^u.length) (hB:B=em u 0++l2):CF 343 [.one (.sl (.sl AA) T),.one (.sl AA A)] (.AJ [(false,[.sl AA B]),(false,[.bool false])]):=by
 have ay:T.length=u.length+1:=by rw[U,Bh];rfl
 have ax:A.length=2^u.length+2^u.length:=by rw[S,BI hx.mem,Br]
 have I:=El.Cj h;have aE:=CX h.red;have ae:=Cu h.tail.ht;have aB:=DR u.length;have Y:El u 0 0:=El.rat h.red.1 Gx;have aC:QQ (r::u).length R s=max (QQ u.length R (3*s+3*EE u.length R+R+GG u.length R+3+II u.length R R)) (s+II u.length R (2*(3*s+3*EE u.length R+R+GG u.length R+3+II u.length R R+GG u.length R)+1)+EE u.length R):=rfl;have aD:=Gm u.length R (3*s+3*EE u.length R+R+GG u.length R+3+II u.length R R);have az:=D2 u.length R (2*(3*s+3*EE u.length R+R+GG u.length R+3+II u.length R R+GG u.length R)+1);refine AM Tryz.func343 fun E d=>?_
 conv=>cbv
 rintro aI ⟨ak,f27⟩;conv=>cbv
 intro a5 y;conv=>cbv
 cases a5 <;> conv=>cbv
 ·have K:=AN y;rintro aJ ⟨al,f41⟩;conv=>cbv
  intro aK ar;conv=>cbv
  refine AI ?_;intro aF ab;conv=>cbv
  refine AH ?_;intro P a7;conv=>cbv
  intro Z C;conv=>cbv
  rintro aL ⟨an,f46⟩;conv=>cbv
  intro L au;conv=>cbv
  refine AI ?_;obtain⟨N,j⟩:=AL (l:=T) (i:=(L).toNat) (by omega);refine⟨N,fun _=>⟨by omega,j⟩,?_⟩;try conv=>cbv
  refine g2 rfl ?_;rintro aM ⟨ao,f52⟩;conv=>cbv
  intro C3 av;conv=>cbv
  refine g2 ⟨by omega,by omega,i64 (by omega)⟩ ?_;intro aG ad;conv=>cbv
  refine AH ?_;intro Q a8;conv=>cbv
  intro a1 D;conv=>cbv
  rintro aN ⟨aq,f57⟩;conv=>cbv
  intro aO aw;conv=>cbv
  refine g2 ⟨by omega,by omega,i64 (by omega)⟩ ?_;intro aH G;conv=>cbv
  refine AH ?_;rintro O aj ⟨a6,z⟩;conv=>cbv
  intro a2 F;conv=>cbv
  refine g2 rfl ?_;have a:Z=tw u:=by rw[C,List.drop_zero,show P=T.length-1 by omega,U,DD]
  have o:N=Aj r:=by have:=Ed r u;rw[<-U,show T.length-1=L.toNat by omega,j] at this;exact Option.some.inj this
  have b:a1=em u p:=by rw[D,List.drop_zero,show Q=A.length/2 by omega,S,CE h.red W.mem X.mem J]
  have m:a2=em u q:=by rw[F,show O=A.length/2 by omega,z,G,List.take_length,S,B6 h.red W.mem X.mem J]
  refine AB d (Hx h.red.1 X.mem m h0) ?_;conv=>cbv
  refine AB d (hn a b) ?_;conv=>cbv
  obtain⟨aP,f⟩:=xR (em u i);have V:=I.inv h.tail hi H;refine AB d (NN h.tail a (o.trans (Dw h.red)) I hi H (by omega) f) ?_;conv=>cbv
  refine BK ?_;conv=>cbv
  obtain⟨aQ,g⟩:=xR (em u (p*i));refine AB d (GP h.tail a b f W V (by omega) g) ?_;conv=>cbv
  refine AB d (hy a g) ?_;conv=>cbv
  obtain⟨ah,ai,af,ag,k⟩:=Bl (((0:Int):Rat));refine AB d (Gn (by omega) rfl k) ?_;conv=>cbv
  obtain⟨M,c⟩:=xR (em u (0));refine AB d (Ho h.tail a k ⟨by decide +kernel,by decide +kernel⟩ c) ?_;conv=>cbv
  refine⟨[M,l2],fun _=>⟨rfl,by decide,rfl,⟨rfl,by first | exact t1 | exact t2 | exact t4 | simp[Aq,BG,cells],⟨rfl,by first | exact t1 | exact t2 | exact t4 | simp[Aq,BG,cells],trivial⟩⟩⟩,.inr ?_⟩;try conv=>cbv
  have aa:M.length=2^u.length:=by rw[c,BI Y.mem]
  refine AB (r:= .one (.sl AA B)) d (Lk (by omega) (by omega) (by rw[hB,c])) ?_;conv=>cbv
  exact AD ⟨t2,t2,trivial⟩
 have K:=AO y;exact absurd K (by omega)
theorem gC (h:Ah R (r::u)) (G:T=tw (r::u)) (F:A=em (r::u) x) (hx:El (r::u) s x) (f:x=p+q*rt u r) (N:El u s p) (H:El u s q) (hs:QQ (r::u).length R s<=60000000000000) (h0:q≠0) (hn:GR 343 u (p*p-q*q*AP u r) l) (hB:B=[]):CF 343 [.one (.sl (.sl AA) T),.one (.sl AA A)] (.AJ [(false,[.sl AA B]),(false,[.bool false])]):=by
 have ai:T.length=u.length+1:=by rw[G,Bh];rfl
 have ah:A.length=2^u.length+2^u.length:=by rw[F,BI hx.mem,Br]
 have ao:=El.Cj h;have aq:=CX h.red;have a1:=Cu h.tail.ht;have ak:=DR u.length;have ar:El u 0 0:=El.rat h.red.1 Gx;have al:QQ (r::u).length R s=max (QQ u.length R (3*s+3*EE u.length R+R+GG u.length R+3+II u.length R R)) (s+II u.length R (2*(3*s+3*EE u.length R+R+GG u.length R+3+II u.length R R+GG u.length R)+1)+EE u.length R):=rfl;have an:=Gm u.length R (3*s+3*EE u.length R+R+GG u.length R+3+II u.length R R);have aj:=D2 u.length R (2*(3*s+3*EE u.length R+R+GG u.length R+3+II u.length R R+GG u.length R)+1);refine AM Tryz.func343 fun E L=>?_
 conv=>cbv
 rintro ax ⟨a6,f27⟩;conv=>cbv
 intro U g;conv=>cbv
 cases U <;> conv=>cbv
 ·have z:=AN g;rintro ay ⟨a7,f41⟩;conv=>cbv
  intro az ad;conv=>cbv
  refine AI ?_;intro au Y;conv=>cbv
  refine AH ?_;intro J W;conv=>cbv
  intro P k;conv=>cbv
  rintro aA ⟨a8,f46⟩;conv=>cbv
  intro C ae;conv=>cbv
  refine AI ?_;obtain⟨D,b⟩:=AL (l:=T) (i:=(C).toNat) (by omega);refine⟨D,fun _=>⟨by omega,b⟩,?_⟩;try conv=>cbv
  refine g2 rfl ?_;rintro aB ⟨aa,f52⟩;conv=>cbv
  intro C3 af;conv=>cbv
  refine g2 ⟨by omega,by omega,i64 (by omega)⟩ ?_;intro av Z;conv=>cbv
  refine AH ?_;intro K X;conv=>cbv
  intro Q m;conv=>cbv
  rintro aC ⟨ab,f57⟩;conv=>cbv
  intro aD ag;conv=>cbv
  refine g2 ⟨by omega,by omega,i64 (by omega)⟩ ?_;intro aw y;conv=>cbv
  refine AH ?_;rintro I a5 ⟨V,j⟩;conv=>cbv
  intro S o;conv=>cbv
  refine g2 rfl ?_;have c:P=tw u:=by rw[k,List.drop_zero,show J=T.length-1 by omega,G,DD]
  have O:D=Aj r:=by have:=Ed r u;rw[<-G,show T.length-1=C.toNat by omega,b] at this;exact Option.some.inj this
  have M:Q=em u p:=by rw[m,List.drop_zero,show K=A.length/2 by omega,F,CE h.red N.mem H.mem f]
  have d:S=em u q:=by rw[o,show I=A.length/2 by omega,j,y,List.take_length,F,B6 h.red N.mem H.mem f]
  refine AB L (Gv h.red.1 H.mem d h0) ?_;conv=>cbv
  obtain⟨a2,a⟩:=xR (em u (p*p-q*q*AP u r));refine AB L (NO h G F hx f N.mem H.mem (by omega) a) ?_;conv=>cbv
  refine AB L (hn c a) ?_;conv=>cbv
  refine Cc ?_;conv=>cbv
  exact AD ⟨⟨rfl,.inr (.inl ⟨_,congrArg _ (hB)⟩),trivial⟩,t2,trivial⟩
 have z:=AO g;exact absurd z (by omega)
theorem W4 {a b:Re} {y:Nat->Re} {x:LR} {i:Nat} (h:[A,B][i]? =some x) (f:A=em u a) (g:B=em u b) (c:y 0=a) (d:y 1=b):x=em u (y i):=by
 match i,h with
 | 0,h=>rw[c,<-f];exact (Option.some.inj h).symm
 | 1,h=>rw[d,<-g];exact (Option.some.inj h).symm
 | i+2,h=>simp at h
theorem gF {f:FuncId} {y:Nat->Re} {L:Nat->LR} {i:Nat} {b:Bool} (m:i<=k0) (a:∀i,i<k0->GR f u (t*y i) (L i)) (c:GS f u (t*y k0) w) (k:b=decide (i=k0)) (g:B=if i=k0 then em u w else L i) (j:T=tw u) (d:A=em u (t*y i)):
  CF f [.one (.sl (.sl AA) T),.one (.sl AA A)] (.AJ [(false,[.sl AA B]),(false,[.bool b])]):=by
 by_cases h:i=k0
 ·subst h;rw[k,decide_eq_true rfl];exact c j d (by rw[g,if_pos rfl])
 rw[k,decide_eq_false h,g,if_neg h];exact a i (by omega) j d
theorem El.half {y:Re} (h:El u s y) (hu:Ah R u) (ht:t=Re.ofRat (1/2)):El u (s+1+EE u.length R) (t*y):=by
 have a:El u 1 t:=ht ▸ El.rat hu.red J7;have:=a.mul hu h;rwa [show 1+s+EE u.length R=s+1+EE u.length R by omega] at this
theorem gE (h:Ah R (r::u)) (hT:T=tw (r::u)) (hA:A=em (r::u) x) (hx:El (r::u) s x) (G:x=p+q*rt u r) (O:El u s p) (Y:El u s q) (hs:QQ (r::u).length R s<=60000000000000) (h0:q≠0) (hn:In u n) (ai:n*n=p*p-q*q*AP u r) (ht:t=Re.ofRat (1/2)) (aq:GS 343 u (p*p-q*q*AP u r) n) {y:Nat->Re} (al:y 0=p+n) (an:y 1=p-n) (ao:∀i,El u (s+(2*s+2*EE u.length R+R+1+GG u.length R)+1) (y i)) {L:Nat->LR} (ah:k0<=2) (aj:∀i,i<k0->GR 343 u (t*y i) (L i)) (aV:k0=2) (hB:B=[]):CF 343 [.one (.sl (.sl AA) T),.one (.sl AA A)] (.AJ [(false,[.sl AA B]),(false,[.bool false])]):=by
 have aS:T.length=u.length+1:=by rw[hT,Bh];rfl
 have aR:A.length=2^u.length+2^u.length:=by rw[hA,BI hx.mem,Br]
 have aZ:=El.Cj h;have b0:=CX h.red;have aC:=Cu h.tail.ht;have aW:=DR u.length;have b1:El u 0 0:=El.rat h.red.1 Gx;have aX:QQ (r::u).length R s=max (QQ u.length R (3*s+3*EE u.length R+R+GG u.length R+3+II u.length R R)) (s+II u.length R (2*(3*s+3*EE u.length R+R+GG u.length R+3+II u.length R R+GG u.length R)+1)+EE u.length R):=rfl;have aY:=Gm u.length R (3*s+3*EE u.length R+R+GG u.length R+3+II u.length R R);have aT:=D2 u.length R (2*(3*s+3*EE u.length R+R+GG u.length R+3+II u.length R R+GG u.length R)+1);have hN:=El.norm h O.mem Y.mem (G ▸ hx);refine AM Tryz.func343 fun E K=>?_
 conv=>cbv
 rintro b6 ⟨aH,f27⟩;conv=>cbv
 intro au P;conv=>cbv
 cases au <;> conv=>cbv
 ·have a1:=AN P;rintro b7 ⟨aI,f41⟩;conv=>cbv
  intro b8 aN;conv=>cbv
  refine AI ?_;intro b3 aA;conv=>cbv
  refine AH ?_;intro ae ay;conv=>cbv
  intro a2 S;conv=>cbv
  rintro b9 ⟨aJ,f46⟩;conv=>cbv
  intro aa aO;conv=>cbv
  refine AI ?_;obtain⟨ab,I⟩:=AL (l:=T) (i:=(aa).toNat) (by omega);refine⟨ab,fun _=>⟨by omega,I⟩,?_⟩;try conv=>cbv
  refine g2 rfl ?_;rintro ba ⟨aK,f52⟩;conv=>cbv
  intro C3 aP;conv=>cbv
  refine g2 ⟨by omega,by omega,i64 (by omega)⟩ ?_;intro b4 aB;conv=>cbv
  refine AH ?_;intro af az;conv=>cbv
  intro ar U;conv=>cbv
  rintro bb ⟨aL,f57⟩;conv=>cbv
  intro bc aQ;conv=>cbv
  refine g2 ⟨by omega,by omega,i64 (by omega)⟩ ?_;intro b5 W;conv=>cbv
  refine AH ?_;rintro ad aG ⟨ax,Q⟩;conv=>cbv
  intro a5 V;conv=>cbv
  refine g2 rfl ?_;have a:a2=tw u:=by rw[S,List.drop_zero,show ae=T.length-1 by omega,hT,DD]
  have ak:ab=Aj r:=by have:=Ed r u;rw[<-hT,show T.length-1=aa.toNat by omega,I] at this;exact Option.some.inj this
  have d:ar=em u p:=by rw[U,List.drop_zero,show af=A.length/2 by omega,hA,CE h.red O.mem Y.mem G]
  have N:a5=em u q:=by rw[V,show ad=A.length/2 by omega,Q,W,List.take_length,hA,B6 h.red O.mem Y.mem G]
  refine AB K (Gv h.red.1 Y.mem N h0) ?_;conv=>cbv
  obtain⟨aD,f⟩:=xR (em u (p*p-q*q*AP u r));refine AB K (NO h hT hA hx G O.mem Y.mem (by omega) f) ?_;conv=>cbv
  obtain⟨aE,b⟩:=xR (em u n);have X:=hN.sqrt h.tail hn ai;refine AB K (aq a f b) ?_;conv=>cbv
  refine BK ?_;conv=>cbv
  obtain⟨C,g⟩:=xR (em u (p+n));refine AB K (Jg h.tail a d b O X (by omega) (by omega) g) ?_;conv=>cbv
  obtain⟨D,j⟩:=xR (em u (p-n));refine AB K (NS h.tail a d b O X (by omega) (by omega) j) ?_;conv=>cbv
  refine⟨[C,D],fun _=>⟨rfl,by decide,rfl,⟨rfl,by first | exact t1 | exact t2 | exact t4 | simp[Aq,BG,cells],⟨rfl,by first | exact t1 | exact t2 | exact t4 | simp[Aq,BG,cells],trivial⟩⟩⟩,.inr ?_⟩;try conv=>cbv
  intro a6 c;have av:=c.eq;have f118:=c.le;conv=>cbv
  refine .inr ?_;obtain⟨J0,M⟩:=xJ fun vs bl k=>∃(i':Nat) (m i:Int),vs=[.one (.sl (.sl AA) a2),.one (.sl AA a5),.one (.sl (.sl AA) [C,D]),.one (.int .i64 m),.one (.int .i64 i)]/\(AR m 2/\AR i i'/\i'<=k0)/\k=2-i'
  refine⟨[],[8,11,117,118,119],[],J0,⟨2-0,by rw[M];exact⟨0,a6,0,rfl,⟨⟨c.eq⟩,Ak 0,by omega⟩,rfl⟩⟩,?_⟩;intro vs bl b2 hj;rw[M] at hj;obtain⟨i',m,i,rfl,⟨hM,ag,aU⟩,ah⟩:=hj;conv=>cbv
  have eM:=hM.eq;have aM:=ag.eq;intro a7 H;conv=>cbv
  cases a7 <;> conv=>cbv
  ·have Z:=AY H;exact AD ⟨⟨rfl,.inr (.inl ⟨_,congrArg _ (hB)⟩),trivial⟩,t2,trivial⟩
  have Z:=AZ H;refine .inr ?_;obtain⟨J,z⟩:=AL (l:=[C,D]) (i:=i') (by show _<2;omega);refine⟨J,fun _=>⟨by omega,by rw[show (i).toNat=i' by omega];exact z⟩,?_⟩;try conv=>cbv
  have F:J=em u (y i'):=W4 z g j al an;obtain⟨aF,o⟩:=xR (em u (t*y i'));refine AB K (Tm h.tail a F (ao i') ht (by omega) o) ?_;conv=>cbv
  refine AB K (aj i' (by omega) a o) ?_;conv=>cbv
  refine Cc ?_;conv=>cbv
  intro a8 aw;conv=>cbv
  refine AI ?_;refine⟨2-(i'+1),?_,?_⟩
  ·omega
  rw[M];exact⟨i'+1,m,a8,rfl,⟨hM,⟨by omega⟩,by omega⟩,rfl⟩
 have a1:=AO P;exact absurd a1 (by omega)
theorem gD (h:Ah R (r::u)) (hT:T=tw (r::u)) (hA:A=em (r::u) x) (hx:El (r::u) s x) (V:x=p+q*rt u r) (hp:El u s p) (Y:El u s q) (hs:QQ (r::u).length R s<=60000000000000) (h0:q≠0) (hn:In u n) (aF:n*n=p*p-q*q*AP u r) (ht:t=Re.ofRat (1/2)) (aM:GS 343 u (p*p-q*q*AP u r) n) {y:Nat->Re} (aK:y 0=p+n) (aL:y 1=p-n) (ah:∀i,El u (s+(2*s+2*EE u.length R+R+1+GG u.length R)+1) (y i)) {L:Nat->LR} (aC:k0<=2) (aG:∀i,i<k0->GR 343 u (t*y i) (L i)) (bk:k0<2) {j:Re} (hw:In u w) (aI:w*w=t*y k0) (aH:w≠0) (aN:GS 343 u (t*y k0) w) (hj:In u j) (ag:(w+w)*j=1) (hB:B=em (r::u) (w+q*j*rt u r)):CF 343 [.one (.sl (.sl AA) T),.one (.sl AA A)] (.AJ [(false,[.sl AA B]),(false,[.bool true])]):=by
 have bh:T.length=u.length+1:=by rw[hT,Bh];rfl
 have bg:A.length=2^u.length+2^u.length:=by rw[hA,BI hx.mem,Br]
 have br:=El.Cj h;have bs:=CX h.red;have aY:=Cu h.tail.ht;have bo:=DR u.length;have bt:El u 0 0:=El.rat h.red.1 Gx;have bp:QQ (r::u).length R s=max (QQ u.length R (3*s+3*EE u.length R+R+GG u.length R+3+II u.length R R)) (s+II u.length R (2*(3*s+3*EE u.length R+R+GG u.length R+3+II u.length R R+GG u.length R)+1)+EE u.length R):=rfl;have bq:=Gm u.length R (3*s+3*EE u.length R+R+GG u.length R+3+II u.length R R);have bj:=D2 u.length R (2*(3*s+3*EE u.length R+R+GG u.length R+3+II u.length R R+GG u.length R)+1);have hN:=El.norm h hp.mem Y.mem (V ▸ hx);refine AM Tryz.func343 fun E o=>?_
 conv=>cbv
 rintro bA ⟨b5,f27⟩;conv=>cbv
 intro aP a7;conv=>cbv
 cases aP <;> conv=>cbv
 ·have ai:=AN a7;rintro bB ⟨b6,f41⟩;conv=>cbv
  intro bC bb;conv=>cbv
  refine AI ?_;intro bw aW;conv=>cbv
  refine AH ?_;intro aw aU;conv=>cbv
  intro aj aa;conv=>cbv
  rintro bD ⟨b7,f46⟩;conv=>cbv
  intro ar bc;conv=>cbv
  refine AI ?_;obtain⟨au,Z⟩:=AL (l:=T) (i:=(ar).toNat) (by omega);refine⟨au,fun _=>⟨by omega,Z⟩,?_⟩;try conv=>cbv
  refine g2 rfl ?_;rintro bE ⟨b8,f52⟩;conv=>cbv
  intro C3 bd;conv=>cbv
  refine g2 ⟨by omega,by omega,i64 (by omega)⟩ ?_;intro bx aX;conv=>cbv
  refine AH ?_;intro ax aV;conv=>cbv
  intro aO ab;conv=>cbv
  rintro bF ⟨b9,f57⟩;conv=>cbv
  intro bG bf;conv=>cbv
  refine g2 ⟨by omega,by omega,i64 (by omega)⟩ ?_;intro bz ae;conv=>cbv
  refine AH ?_;rintro av b4 ⟨aT,a8⟩;conv=>cbv
  intro ak ad;conv=>cbv
  refine g2 rfl ?_;have a:aj=tw u:=by rw[aa,List.drop_zero,show aw=T.length-1 by omega,hT,DD]
  have aJ:au=Aj r:=by have:=Ed r u;rw[<-hT,show T.length-1=ar.toNat by omega,Z] at this;exact Option.some.inj this
  have C:aO=em u p:=by rw[ab,List.drop_zero,show ax=A.length/2 by omega,hA,CE h.red hp.mem Y.mem V]
  have D:ak=em u q:=by rw[ad,show av=A.length/2 by omega,a8,ae,List.take_length,hA,B6 h.red hp.mem Y.mem V]
  refine AB o (Gv h.red.1 Y.mem D h0) ?_;conv=>cbv
  obtain⟨aZ,F⟩:=xR (em u (p*p-q*q*AP u r));refine AB o (NO h hT hA hx V hp.mem Y.mem (by omega) F) ?_;conv=>cbv
  obtain⟨b0,d⟩:=xR (em u n);have af:=hN.sqrt h.tail hn aF;refine AB o (aM a F d) ?_;conv=>cbv
  refine BK ?_;conv=>cbv
  obtain⟨P,G⟩:=xR (em u (p+n));refine AB o (Jg h.tail a C d hp af (by omega) (by omega) G) ?_;conv=>cbv
  obtain⟨Q,H⟩:=xR (em u (p-n));refine AB o (NS h.tail a C d hp af (by omega) (by omega) H) ?_;conv=>cbv
  refine⟨[P,Q],fun _=>⟨rfl,by decide,rfl,⟨rfl,by first | exact t1 | exact t2 | exact t4 | simp[Aq,BG,cells],⟨rfl,by first | exact t1 | exact t2 | exact t4 | simp[Aq,BG,cells],trivial⟩⟩⟩,.inr ?_⟩;try conv=>cbv
  intro al z;have aR:=z.eq;have f118:=z.le;conv=>cbv
  refine .inr ?_;obtain⟨J0,a6⟩:=xJ fun vs bl k=>∃(i':Nat) (m i:Int),vs=[.one (.sl (.sl AA) aj),.one (.sl AA ak),.one (.sl (.sl AA) [P,Q]),.one (.int .i64 m),.one (.int .i64 i)]/\(AR m 2/\AR i i'/\i'<=k0)/\k=2-i'
  refine⟨[],[8,11,117,118,119],[],J0,⟨2-0,by rw[a6];exact⟨0,al,0,rfl,⟨⟨z.eq⟩,Ak 0,by omega⟩,rfl⟩⟩,?_⟩;intro vs bl bu hj;rw[a6] at hj;obtain⟨i',m,i,rfl,⟨hM,ay,az⟩,aC⟩:=hj;conv=>cbv
  have eM:=hM.eq;have ba:=ay.eq;intro an W;conv=>cbv
  cases an <;> conv=>cbv
  ·have a1:=AY W;exact absurd a1 (by omega)
  have a1:=AZ W;refine .inr ?_;obtain⟨a5,N⟩:=AL (l:=[P,Q]) (i:=i') (by show _<2;omega);refine⟨a5,fun _=>⟨by omega,by rw[show (i).toNat=i' by omega];exact N⟩,?_⟩;try conv=>cbv
  have U:a5=em u (y i'):=W4 N G H aK aL;obtain⟨b1,I⟩:=xR (em u (t*y i'));refine AB o (Tm h.tail a U (ah i') ht (by omega) I) ?_;conv=>cbv
  obtain⟨aQ,c⟩:=xB (decide (i'=k0));obtain⟨S,J⟩:=xR (if i'=k0 then em u w else L i');refine AB o (gF az aG aN c J a I) ?_;conv=>cbv
  intro ao X;conv=>cbv
  cases ao <;> conv=>cbv
  ·have O:=CN X;have aA:i'=k0:=of_decide_eq_true (c.symm.trans O);have b:S=em u w:=by rw[J,if_pos aA]
   have g:El u (s+(2*s+2*EE u.length R+R+1+GG u.length R)+1+1+EE u.length R+GG u.length R) w:=(((ah k0).half h.tail ht).sqrt h.tail hw aI);have aB:=(g.add h.red.1 g).inv h.tail hj ag;have bm:=Hq u.length R (s:=s+(2*s+2*EE u.length R+R+1+GG u.length R)+1+1+EE u.length R+GG u.length R+(s+(2*s+2*EE u.length R+R+1+GG u.length R)+1+1+EE u.length R+GG u.length R)+1) (t:=2*(3*s+3*EE u.length R+R+GG u.length R+3+II u.length R R+GG u.length R)+1) (by omega);refine AB o (Gv h.red.1 hw b aH) ?_;conv=>cbv
   obtain⟨b2,K⟩:=xR (em u (w+w));refine AB o (Jg h.tail a b b g g (by omega) (by omega) K) ?_;conv=>cbv
   obtain⟨b3,M⟩:=xR (em u j);refine AB o (NN h.tail a K (g.add h.red.1 g) hj ag (by omega) M) ?_;conv=>cbv
   obtain⟨a2,f⟩:=xR (em u (q*j));refine AB o (GP h.tail a D M Y aB (by omega) f) ?_;conv=>cbv
   refine⟨[S,a2],fun _=>⟨rfl,by decide,rfl,⟨rfl,by first | exact t1 | exact t2 | exact t4 | simp[Aq,BG,cells],⟨rfl,by first | exact t1 | exact t2 | exact t4 | simp[Aq,BG,cells],trivial⟩⟩⟩,.inr ?_⟩;try conv=>cbv
   have aD:S.length=2^u.length:=by rw[b,BI hw]
   have aE:a2.length=2^u.length:=by rw[f,BI (Am h.red.1 Y.mem hj)]
   refine AB (r:= .one (.sl AA B)) o (Lk (by omega) (by omega) (by rw[hB,b,f];exact EN h.red hw (Am h.red.1 Y.mem hj) rfl)) ?_;try conv=>cbv
   exact AD ⟨t2,t2,trivial⟩
  have O:=CO X;intro aq aS;conv=>cbv
  refine AI ?_;have bn:i'≠k0:=of_decide_eq_false (c.symm.trans O);refine⟨2-(i'+1),?_,?_⟩
  ·omega
  rw[a6];exact⟨i'+1,m,aq,rfl,⟨hM,⟨by omega⟩,by omega⟩,rfl⟩
 have ai:=AO a7;exact absurd ai (by omega)
end Go.Abs
namespace Go.Abs
open Go.RowKit
theorem Tl {t:Re} (ht:t=Re.ofRat (1/2)):2*t=1:=by
 have a:(2:Re)=Re.ofRat 2:=rfl;rw[ht,a,<-Re.ofRat_mul,show (2:Rat)*(1/2)=1 by decide +kernel];rfl
theorem Pv {u:List (List Rat)} {R:Nat} (h:Ah R u):Qm 343 R u:=by
 induction u with
 | nil=>
  intro s x C I;obtain⟨q,rfl⟩:=CV.1 C.mem
  have a6:Bt q:=by
   have:=C.B8 (by have:=Gm ([]:List (List Rat)).length R s;omega);rw[DY] at this;exact this q List.mem_cons_self
  by_cases V:∃r:Rat,0<=r/\r*r=q
  ·obtain⟨r,F,V⟩:=V;refine .inl ⟨Re.ofRat r,G8 r _,by rw[<-Re.ofRat_mul,V],?_⟩;intro T A B f d O;exact gB f (d.trans (Dl q)) (O.trans (Dl r)) a6 F V
  refine .inr ⟨fun I=>V (Wk.1 I),[(((false,[]),(false,[])):el AA)],?_,?_⟩
  rotate_left
  ·intro T A f d;exact gA f (d.trans (Dl q)) rfl a6 V
  simp
 | cons r u c=>
  have c:Qm 343 R u:=c h.tail;intro s x C I;obtain⟨p,q,a,g,G⟩:=El.parts h.red C;have aq:QQ (r::u).length R s=max (QQ u.length R (3*s+3*EE u.length R+R+GG u.length R+3+II u.length R R)) (s+II u.length R (2*(3*s+3*EE u.length R+R+GG u.length R+3+II u.length R R+GG u.length R)+1)+EE u.length R):=rfl;have hQ:∀s',s'<=3*s+3*EE u.length R+R+GG u.length R+3+II u.length R R->QQ u.length R s'<=60000000000000:=fun s' h'=>Nat.le_trans (LC u.length R h') (by omega)
  have aj:=El.Cj h;have ak:=CX h.red
  by_cases F:q=0
  ·have Q:x=p:=by rw[a,F];clear c;grind
   rcases c g (hQ _ (by omega)) with⟨w,hw,b,S⟩ |⟨o,l,hl,U⟩
   ·refine .inl ⟨w,G9 hw,by rw[Q];exact b,?_⟩;intro T A B f d O;exact gG h f d C a g G I F hw S O
   obtain⟨i,H,z⟩:=EP h.red.1 (CQ h.red) (by have:=h.red.2.2.1;grind);have ae:=aj.inv h.tail H z;rcases c (g.mul h.tail ae) (hQ _ (by omega)) with⟨w,hw,b,S⟩ |⟨a2,l2,af,ah⟩
   ·refine .inl ⟨w*rt u r,Cd.2 ⟨0,w,CH u,hw,by clear c;grind⟩,?_,?_⟩
    ·have:p=p*(AP u r*i):=by rw[z];clear c;grind
     rw[Q];clear c;grind
    intro T A B f d O;exact gH h f d C a g G I F H z U hw S O
   refine .inr ⟨?_,em u 0++l2,?_,?_⟩
   ·rw[Q,Wi h.red g.mem];rintro (h1 |⟨i',al,a5,h1⟩)
    ·exact o h1
    have:i'=i:=by
     have:i'=i'*(AP u r*i):=by rw[z];clear c;grind
     have h2:i=i*(AP u r*i'):=by rw[a5];clear c;grind
     clear c;grind
    rw[this] at h1;exact a2 h1
   ·rw[List.length_append,BI (CH u),Br];omega
   intro T A f d;exact gI h f d C a g G I F H z U ah af rfl
  have hN:=El.norm h g.mem G.mem (a ▸ C);rcases c hN (hQ _ (by omega)) with⟨n,U,k,ad⟩ |⟨o,l,hl,ai⟩
  rotate_left
  ·refine .inr ⟨fun hS=>o (Wm h.red g.mem G.mem (a ▸ hS)),[],Nat.zero_le _,?_⟩;intro T A f d;exact gC h f d C a g G I F ai rfl
  have Y:=hN.sqrt h.tail U k;obtain⟨t,ht⟩:∃t:Re,t=Re.ofRat (1/2):=⟨_,rfl⟩
  have P:=Tl ht;obtain⟨y,S⟩:∃y:Nat->Re,y=fun i=>if i=0 then p+n else p-n:=⟨_,rfl⟩
  have J:y 0=p+n:=by rw[S];rfl
  have K:y 1=p-n:=by rw[S];rfl
  have M:∀i,El u (s+(2*s+2*EE u.length R+R+1+GG u.length R)+1) (y i):=fun i=>by
   rw[S]
   show El u _ (if i=0 then p+n else p-n)
   by_cases H:i=0
   ·rw[if_pos H];exact g.add h.red.1 Y
   rw[if_neg H];exact g.sub h.red.1 Y
  have N:∀(k0:Nat) (L:Nat->LR) (w:Re),k0<2->(∀i,i<k0->GR 343 u (t*y i) (L i))->In u w->w*w=t*y k0->GS 343 u (t*y k0) w->
    ∃w,In (r::u) w/\w*w=x/\GS 343 (r::u) x w:=by
   intro k0 L w hk o hw b D
   have key:∃m,m*m=p*p-q*q*AP u r/\y k0=p+m:=by
    rcases (show k0=0\/k0=1 by omega) with rfl | rfl
    ·exact⟨n,k,J⟩
    exact⟨-n,by rw[<-k];clear c;grind,by rw[K];clear c;grind⟩
   obtain⟨m,W,ab⟩:=key;have a7:w≠0:=Wh h.red F W P (by rw[b,ab])
   have aa:w+w≠0:=by
    intro e;have e1:2*w=0:=by clear c;grind
    rcases Re.FX e1 with e | e
    ·exact NA e
    exact a7 e
   obtain⟨j,hj,a8⟩:=EP h.red.1 (C0 hw hw) aa;refine⟨w+q*j*rt u r,Cd.2 ⟨_,_,hw,Am h.red.1 G.mem hj,rfl⟩,?_,?_⟩
   ·rw[a];exact Wg W P ak (by rw[b,ab]) a8 rfl
   intro T A B f d O;exact gD h f d C a g G I F U k ht ad J K M (by omega) o hk hw b a7 D hj a8 O
  have hb:QQ u.length R (s+(2*s+2*EE u.length R+R+1+GG u.length R)+1+1+EE u.length R)<=60000000000000:=hQ _ (by omega);rcases c ((M 0).half h.tail ht) hb with⟨w,hw,b,D⟩ |⟨Z,l0,an,X⟩
  ·exact .inl (N 0 (fun _=>[]) w (by omega) (fun i H=>by omega) hw b D)
  rcases c ((M 1).half h.tail ht) hb with⟨w,hw,b,D⟩ |⟨a1,l1,ao,ag⟩
  ·exact .inl (N 1 (fun _=>l0) w (by omega) (fun i H=>by rw[show i=0 by omega];exact X) hw b D)
  refine .inr ⟨fun hS=>?_,[],Nat.zero_le _,?_⟩
  ·rcases Wn h.red g.mem G.mem (a ▸ hS) k P with e | e
   ·exact Z (by rw[J];exact e)
   exact a1 (by rw[K];exact e)
  intro T A f d
  exact gE h f d C a g G I F U k ht ad J K M (L:=fun i=>if i=0 then l0 else l1) (Nat.le_refl 2) (fun i H=>by
   rcases (show i=0\/i=1 by omega) with rfl | rfl
   ·exact X
   exact ag) rfl rfl
end Go.Abs
namespace Go.Abs
open Go.RowKit
variable {A B:LR} {R s:Nat} {T:List LR} {u:List (List Rat)} {v x:Re}
theorem Sc {S:Nat} (hl:∀x∈T,x.length<=1000000) (a6:T.length<=1000) (D:S=T.length):CF 292 [.one (.sl (.sl AA) T)] (.one (.own (.sl AA) T S)):=by
 refine AM Tryz.func292 fun E Y=>?_
 conv=>cbv
 rintro n7 ⟨e7,f7⟩;conv=>cbv
 refine⟨fun _=>⟨by omega,by omega,by show _*24<=140737488355328;omega⟩,?_⟩;intro G (H:List (el (.sl AA))) z;have a5:=z.1;have C:H=List.replicate G ([]:el (.sl AA)):=z.2;have W:H.length=G:=by rw[C,List.length_replicate]
 conv=>cbv
 intro I f;have V:=f.eq;have f10:=f.le;conv=>cbv
 refine .inr ?_;obtain⟨U,g⟩:=xJ fun vs M k=>∃(o:List LR) (m i':Nat) (L i:Int),vs=[.one (.AQ (.sl AA) 8 0 0 m),.one (.sl (.sl AA) T),.one (.int .i64 L),.one (.int .i64 i)]/\M=[.arr 0 (.sl AA) o]/\(o.length=T.length/\m=T.length/\Cl L T.length/\AR i i'/\i'<=T.length)/\o.take i'=T.take i'/\k=T.length-i'
 refine⟨[],[3,9,10,11],[8],U,⟨T.length-0,by rw[g];exact⟨H,G,0,I,0,rfl,rfl,⟨by omega,by omega,f,Ak 0,by omega⟩,rfl,rfl⟩⟩,?_⟩;intro vs M a7 P;rw[g] at P;obtain⟨o,m,i',L,i,rfl,rfl,⟨ho,hm,O,Z,a1⟩,hinv,a2⟩:=P;conv=>cbv
 have eL:=O.eq;have ei:=Z.eq;intro J j;conv=>cbv
 cases J <;> conv=>cbv
 ·have F:=AY j;have c:T=o:=by rw[<-List.take_length (l:=T),<-show i'=T.length by omega,<-hinv,List.take_of_length_le (by omega)]
  exact AD ⟨⟨rfl,.inr (.inl ⟨_,_,by decide,rfl,rfl,by omega,rfl,DB (c) (by rw[D,<-c])⟩),trivial⟩,trivial⟩
 have F:=AZ j;refine .inr ?_;obtain⟨b,a⟩:=AL (l:=T) (i:=i') (by omega);refine⟨b,fun _=>⟨by omega,by rw[show (i).toNat=i' by omega];exact a⟩,?_⟩;try conv=>cbv
 refine AB Y (QJ (hl b (List.mem_of_getElem? a))) ?_;conv=>cbv
 refine AH ?_;intro y Q;conv=>cbv
 refine⟨b,fun _=>⟨by show _<List.length (α:=(el (.sl AA))) o;(first | omega | (simp;omega)),by first | exact t1 | exact t2 | exact t4 | simp[Aq,BG,cells]⟩,?_⟩;intro (h:List (el (.sl AA))) (d:h=List.set (α:=(el (.sl AA))) o y b);have N:h.length=o.length:=by rw[d,List.length_set]
 conv=>cbv
 intro K X;conv=>cbv
 refine AI ?_;refine⟨T.length-(i'+1),?_,?_⟩
 ·omega
 rw[g];refine⟨h,m,i'+1,L,K,rfl,rfl,⟨by omega,by omega,O,⟨by omega⟩,by omega⟩,?_,rfl⟩;rw[d,show y=i' by omega,M4 (by omega),hinv,<-Ck a]
theorem Z9 (b:∀x∈T,x.length<=1000000) (a:T.length<=1000):CF 292 [.one (.sl (.sl AA) T)] (.one (.sl (.sl AA) T)):=Ct (Sc b a rfl)
theorem W2 (h:Ah R u) (f:T=tw u):∀x∈T,x.length<=1000000:=by
 intro x b;rw[f,tw] at b;obtain⟨y,g,rfl⟩:=List.mem_map.1 b;obtain⟨i,a⟩:=List.mem_iff_getElem?.1 g;have c:=JL h.red i y a;have d:=Dm a;rw[List.length_reverse] at d;have j:=h.ht;rw[List.length_map,c];exact Nat.le_trans (Cu) (by decide)
theorem HZ:BJ x<0↔x<0:=by
 rcases Ec x with⟨a,b⟩ |⟨a,b⟩ |⟨a,b⟩ <;> rw[b]
 ·exact⟨fun _=>a,fun _=>by decide⟩
 ·rw[a];exact⟨fun h=>absurd h (by decide),fun h=>by grind⟩
 exact⟨fun h=>absurd h (by decide),fun h=>by grind⟩
theorem dj (h:Ah R u) (y:T=tw u) (F:A=em u x) (H:El u s x) (o:Fit u.length R s) {w:Re} (hw:In u w) (c:w*w=x) (I:GS 343 u x w) (g:0<=v) (j:v*v=x) (D:B=em u v):CF 291 [.one (.sl (.sl AA) T),.one (.sl AA A)] (.AJ [(false,[.sl AA B]),(false,[.bool true])]):=by
 have k:=H.sqrt h hw c;refine AM Tryz.func291 fun E m=>?_
 conv=>cbv
 obtain⟨K,a⟩:=xR (em u w);refine AB m (I y F a) ?_;conv=>cbv
 refine BK ?_;conv=>cbv
 obtain⟨J,f⟩:=xI (BJ w);refine AB m (Jo h y a k o.v o.vR f) ?_;conv=>cbv
 intro C d;conv=>cbv
 refine .inr ?_;cases C <;> conv=>cbv
 ·have z:=AY d;exact AD ⟨⟨rfl,congrArg _ (by rw[D,a];congr 1;have:¬w<0:=(fun G=>by have:=HZ.2 G;omega);exact Re.JS g (by grind) (j.trans c.symm)),trivial⟩,t2,trivial⟩
 have z:=AZ d;obtain⟨L,b⟩:=xR (em u (-w));refine AB m (Qb h y a k (Nat.le_trans (Eu u.length R _) o.v) b) ?_;conv=>cbv
 exact AD ⟨⟨rfl,congrArg _ (by rw[D,b];congr 1;have:w<0:=HZ.1 (by omega);exact Re.JS g (by grind) (by rw[j,<-c];grind)),trivial⟩,t2,trivial⟩
theorem di (h:Ah R u) (d:T=tw u) (a:A=em u x) (j:El u s x) (g:Fit u.length R s) {l:LR} (f:GR 343 u x l) (b:B=[]):CF 291 [.one (.sl (.sl AA) T),.one (.sl AA A)] (.AJ [(false,[.sl AA B]),(false,[.bool false])]):=by
 refine AM Tryz.func291 fun E c=>?_
 conv=>cbv
 refine AB c (f d a) ?_;conv=>cbv
 refine Cc ?_;conv=>cbv
 exact AD ⟨⟨rfl,.inr (.inl ⟨_,congrArg _ (b)⟩),trivial⟩,t2,trivial⟩
theorem dk (h:Ah R u) (m:T=tw u) (j:A=em u x) (g:El u s x) (f:Fit u.length R s) (o:In u v) (c:0<=v) (a:v*v=x) (k:B=em u v):CF 291 [.one (.sl (.sl AA) T),.one (.sl AA A)] (.AJ [(false,[.sl AA B]),(false,[.bool true])]):=by
 rcases Pv h g f.q with⟨w,hw,d,y⟩ |⟨b,_⟩
 ·exact dj h m j g f hw d y c a k
 exact absurd ⟨v,o,a⟩ b
theorem dh (h:Ah R u) (j:T=tw u) (f:A=em u x) (d:El u s x) (c:Fit u.length R s) (a:¬Sq u x) (g:B=[]):CF 291 [.one (.sl (.sl AA) T),.one (.sl AA A)] (.AJ [(false,[.sl AA B]),(false,[.bool false])]):=by
 rcases Pv h d c.q with⟨w,hw,b,m⟩ |⟨_,l,_,k⟩
 ·exact absurd ⟨w,hw,b⟩ a
 exact di h j f d c k g
theorem Qh (h:Ah R u) (D:T=tw u) (hv:VV u.length R R<=60000000000000) (hq:QQ u.length R R<=60000000000000):CF 290 [.one (.sl (.sl AA) T)] (.one (.bool true)):=by
 have af:T.length=u.length:=by rw[D,Bh]
 have hR:=h.hR;refine AM Tryz.func290 fun E Q=>?_
 conv=>cbv
 intro n8 P;have e8:=P.eq;have f8:=P.le;conv=>cbv
 refine .inr ?_;obtain⟨J0,f⟩:=xJ fun vs bl k=>∃(i':Nat) (L i:Int),vs=[.one (.sl (.sl AA) T),.one (.sl (.sl AA) T),.one (.int .i64 L),.one (.int .i64 i)]/\(Cl L T.length/\AR i i'/\i'<=T.length)/\k=T.length-i'
 refine⟨[],[0,7,8,9],[],J0,⟨T.length-0,by rw[f];exact⟨0,n8,0,rfl,⟨P,Ak 0,by omega⟩,rfl⟩⟩,?_⟩;intro vs bl ai hj;rw[f] at hj;obtain⟨i',L,i,rfl,⟨hL,hi,ag⟩,ah⟩:=hj;conv=>cbv
 have eL:=hL.eq;have ei:=hi.eq;intro Z z;conv=>cbv
 cases Z <;> conv=>cbv
 ·have V:=AY z;exact AD ⟨t2,trivial⟩
 have V:=AZ z;refine .inr ?_;obtain⟨y,d⟩:=AL (l:=T) (i:=i') (by omega);refine⟨y,fun _=>⟨by omega,by rw[show (i).toNat=i' by omega];exact d⟩,?_⟩;try conv=>cbv
 obtain⟨r,J,I⟩:=IG (u:=u) (i:=i') (by omega);have o:Ag (r::pre u i'):=J ▸ (h.pre (i'+1)).red;have S:y=Aj r:=by rw[<-D,d] at I;exact Option.some.inj I
 have a:y=em (pre u i') (AP (pre u i') r):=S.trans (Dw o);have b:El (pre u i') R (AP (pre u i') r):=El.Cj (J ▸ h.pre (i'+1));intro aj aa;conv=>cbv
 refine AH ?_;intro M a6;conv=>cbv
 intro W F;conv=>cbv
 have g:W=tw (pre u i'):=by rw[F,List.drop_zero,show M=i' by omega,D,HE]
 refine AB (r:= .one (.bool true)) Q (Gl g (h.pre i').FK a (b.B8 hR) (by rw[b.len,List.length_reverse];exact (decide_eq_true rfl).symm)) ?_;try conv=>cbv
 refine BK ?_;conv=>cbv
 intro ak ab;conv=>cbv
 refine AH ?_;intro N a7;conv=>cbv
 intro X G;conv=>cbv
 have j:X=tw (pre u i'):=by rw[G,List.drop_zero,show N=i' by omega,D,HE]
 obtain⟨a5,c⟩:=xI (BJ (AP (pre u i') r));refine AB (r:= .one (.int .i64 a5)) Q (Jo (h.pre i') j a b (by rw[Hg (by omega)];exact Nat.le_trans (Jq (by omega) R R) hv) (by rw[Hg (by omega)];exact Nat.le_trans (Jq (by omega) R R) hv) c) ?_;try conv=>cbv
 intro a1 C;conv=>cbv
 cases a1 <;> conv=>cbv
 ·have K:=BY C;intro al ad;conv=>cbv
  refine AH ?_;intro O a8;conv=>cbv
  intro Y H;conv=>cbv
  have m:Y=tw (pre u i'):=by rw[H,List.drop_zero,show O=i' by omega,D,HE]
  obtain⟨l,hl,hn⟩:=((Pv (h.pre i') b (by rw[Hg (by omega)];exact Nat.le_trans (Xu (by omega) R R) hq)).resolve_left (fun⟨w,hw,U,_⟩=>o.2.2.2 ⟨w,hw,U⟩)).2;refine AB Q (hn m a) ?_;conv=>cbv
  intro a2 ae;conv=>cbv
  refine AI ?_;refine⟨T.length-(i'+1),?_,?_⟩
  ·omega
  rw[f];exact⟨i'+1,L,a2,rfl,⟨hL,⟨by omega⟩,by omega⟩,rfl⟩
 have K:=BZ C;exact absurd K (by rw[c,GH o.2.2.1];omega)
theorem ZT (h:Ah R u) (b:T=tw u) (k:A=em u x) (j:El u s x) (a:Fit u.length R s) (G:In u v) (m:0<=v) (g:v*v=x) (C:B=em u v):CF 227 [.one (.sl (.sl AA) T),.one (.sl AA A)] (.AJ [(false,[.sl (.sl AA) T]),(false,[.sl AA B]),(false,[.int .i64 0])]):=by
 have D:T.length=u.length:=by rw[b,Bh]
 have F:=h.ht;have o:¬x<0:=by rw[<-g];have:=Re.Pw v;grind
 refine AM Tryz.func227 fun E d=>?_
 conv=>cbv
 refine .inr ?_;refine AB (r:= .one (.bool true)) d (Gl b h.FK k (j.B8 a.s) (by rw[j.len,List.length_reverse];exact (decide_eq_true rfl).symm)) ?_;try conv=>cbv
 refine BK ?_;conv=>cbv
 refine AB d (Qh h b a.vR a.qR) ?_;conv=>cbv
 refine BK ?_;conv=>cbv
 obtain⟨H,f⟩:=xI (BJ x);refine AB d (Jo h b k j a.v0 a.vR f) ?_;conv=>cbv
 intro z c;conv=>cbv
 cases z <;> conv=>cbv
 ·have y:=AY c;refine AB d (dk h b k j a G m g C) ?_;conv=>cbv
  refine AB d (Z9 (W2 h b) (by omega)) ?_;conv=>cbv
  exact AD ⟨t2,t2,t2,trivial⟩
 have y:=AZ c;exact absurd ((HZ (x:=x)).1 (by omega)) o
theorem ZU (h:Ah R u) (d:T=tw u) (m:A=em u x) (D:El u s x) (g:Fit u.length R s) {R':Nat} {r:List Rat} {T2:List LR} (h8:u.length<8) (W:0<=x) (J:¬Sq u x) (V:r=co u x) (h':Ah R' (r::u)) (H:T2=tw (r::u)) (S:B=em (r::u) (rt u r)):CF 227 [.one (.sl (.sl AA) T),.one (.sl AA A)] (.AJ [(false,[.sl (.sl AA) T2]),(false,[.sl AA B]),(false,[.int .i64 0])]):=by
 have I:T.length=u.length:=by rw[d,Bh]
 have U:=h.ht;refine AM Tryz.func227 fun E c=>?_
 conv=>cbv
 refine .inr ?_;refine AB (r:= .one (.bool true)) c (Gl d h.FK m (D.B8 g.s) (by rw[D.len,List.length_reverse];exact (decide_eq_true rfl).symm)) ?_;try conv=>cbv
 refine BK ?_;conv=>cbv
 refine AB c (Qh h d g.vR g.qR) ?_;conv=>cbv
 refine BK ?_;conv=>cbv
 obtain⟨Z,z⟩:=xI (BJ x);refine AB c (Jo h d m D g.v0 g.vR z) ?_;conv=>cbv
 intro L j;conv=>cbv
 cases L <;> conv=>cbv
 ·have K:=AY j;refine AB c (dh h d m D g J rfl) ?_;conv=>cbv
  rintro X ⟨P,f36⟩;conv=>cbv
  intro M k;conv=>cbv
  cases M <;> conv=>cbv
  ·have F:=DI k;obtain⟨tn,C⟩:=xN T.length;refine AB c (Sc (W2 h d) (by omega) C) ?_;conv=>cbv
   have Q:A.length=2^u.length:=by rw[m,BI D.mem]
   have O:=Cu h.ht;refine AB c (QJ (by omega)) ?_;conv=>cbv
   refine⟨[A],fun _=>⟨rfl,by decide,rfl,⟨rfl,by first | exact t1 | exact t2 | exact t4 | simp[Aq,BG,cells],trivial⟩⟩,.inr ?_⟩;try conv=>cbv
   refine .inr (.inl ⟨[A],fun _=>⟨rfl,by rw[C],rfl,by show (T.length+1)*24<=140737488355328;(try simp only[List.length_take,List.length_drop]);omega⟩,?_⟩);intro (f:List (el (.sl AA))) N b;have o:f=(T:List (el (.sl AA)))++([A]:List (el (.sl AA))):=b.1;have y:N=List.length (α:=(el (.sl AA))) f:=b.2;conv=>cbv
   refine⟨fun _=>y,?_⟩;rintro Y ⟨G,f47⟩;conv=>cbv
   have a:f=tw (r::u):=by rw[o,d,Kz,m,em,V]
   refine AB c (X5 h' a (AR.of (G.trans (congrArg _ I))) S) ?_;conv=>cbv
   exact AD ⟨⟨rfl,congrArg _ (by rw[H,a]),trivial⟩,t2,t2,trivial⟩
  have F:=DJ k;exact absurd F (by omega)
 have K:=AZ j;exact absurd ((HZ (x:=x)).1 (by omega)) (by grind)
end Go.Abs
