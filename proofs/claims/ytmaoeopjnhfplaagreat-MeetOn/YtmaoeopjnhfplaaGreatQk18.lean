/- Part 19 of a proof. Conditions: each theorem's own. -/
import Derived.Test.YtmaoeopjnhfplaaGreatQk17
set_option linter.all false
set_option maxHeartbeats 8000000
set_option maxRecDepth 20000
open Go.Proofs
namespace Go.Abs
open Go.RowKit
variable {A B l:LR} {R k0 s:Nat} {T:List LR} {i n p q t w x:Re} {r:List Rat} {u:List (List Rat)}
theorem Xf {C:LR} {y:Re} (h:BJ R u) (f:T=tw u) (g:A=em u y) (m:El u s y) (ht:t=Re.ofRat (1/2)) (k:s+1+EE u.length R<=60000000000000) (j:C=em u (t*y)):CF 363 [.one (.sl (.sl AA) T),.one (.sl AA A)] (.one (.sl AA C)):=by
 refine AO Tryz.func363 fun E c=>?_
 conv=>cbv
 obtain⟨F,G,z,D,b⟩:=CI (1/2:Rat);refine AB c (bu (by omega) (by omega) (by omega) (by decide +kernel) b) ?_;conv=>cbv
 obtain⟨o,a⟩:=xR (em u (t));refine AB (r:= .one (.sl AA o)) c (Jg h f b ⟨by decide +kernel,by decide +kernel⟩ (a.trans (by rw[ht]))) ?_;conv=>cbv
 have d:El u 1 t:=ht ▸ El.rat h.red L7;refine AB (r:= .one (.sl AA C)) c (Hm h f g a m d k (by rw[j];congr 1;grind)) ?_;try conv=>cbv
 exact AF ⟨t2,trivial⟩
theorem my {q r:Rat} (G:T=[]) (y:A=[rp q]) (D:B=[rp r]) (J:CQ q) (z:0<=r) (I:r*r=q):CF 338 [.one (.sl (.sl AA) T),.one (.sl AA A)] (.AG [(false,[.sl AA B]),(false,[.bool true])]):=by
 refine AO Tryz.func338 fun E F=>?_
 conv=>cbv
 rintro K ⟨k,f27⟩;conv=>cbv
 intro m c;conv=>cbv
 cases m <;> conv=>cbv
 ·have d:=BR c;exact absurd (by rw[k,G];rfl) d
 have d:=BS c;have C:A.length=1:=by rw[y];rfl
 obtain⟨o,a⟩:=AS (l:=A) (i:=0) (by omega);refine⟨o,fun _=>⟨by omega,a⟩,?_⟩;try conv=>cbv
 have H:=Fq y a;obtain⟨h,j,f,g,b⟩:=CI r;refine AB F (cg H J z I b) ?_;conv=>cbv
 refine⟨[((h,j),(f,g))],fun _=>⟨rfl,by decide,rfl,⟨rfl,by first | exact t1 | exact t2 | exact t4 | simp[BX,Bl,cells],trivial⟩⟩,.inl ?_⟩;try conv=>cbv
 exact AF ⟨⟨rfl,.inl ⟨_,rfl,by simp,congrArg _ (by rw[D,b.rp];rfl)⟩,trivial⟩,t2,trivial⟩
theorem mw {q:Rat} (o:T=[]) (h:A=[rp q]) (k:B=[(((false,[]),(false,[])):el AA)]) (C:CQ q) (z:¬∃r:Rat,0<=r/\r*r=q):CF 338 [.one (.sl (.sl AA) T),.one (.sl AA A)] (.AG [(false,[.sl AA B]),(false,[.bool false])]):=by
 refine AO Tryz.func338 fun E m=>?_
 conv=>cbv
 rintro D ⟨d,f27⟩;conv=>cbv
 intro f b;conv=>cbv
 cases f <;> conv=>cbv
 ·have c:=BR b;exact absurd (by rw[d,o];rfl) c
 have c:=BS b;have j:A.length=1:=by rw[h];rfl
 obtain⟨g,a⟩:=AS (l:=A) (i:=0) (by omega);refine⟨g,fun _=>⟨by omega,a⟩,?_⟩;try conv=>cbv
 have y:=Fq h a;refine AB m (cZ y C z) ?_;conv=>cbv
 refine⟨[((false,[]),(false,[]))],fun _=>⟨rfl,by decide,rfl,⟨rfl,by first | exact t1 | exact t2 | exact t4 | simp[BX,Bl,cells],trivial⟩⟩,.inl ?_⟩;try conv=>cbv
 exact AF ⟨⟨rfl,.inl ⟨_,rfl,by simp,congrArg _ (by rw[k];rfl)⟩,trivial⟩,t2,trivial⟩
def Hp (f:FuncId) (u:List (List Rat)) (x w:Re):Prop:=∀{T:List LR} {A B:LR},T=tw u->A=em u x->B=em u w->CF f [.one (.sl (.sl AA) T),.one (.sl AA A)] (.AG [(false,[.sl AA B]),(false,[.bool true])])
def Ho (f:FuncId) (u:List (List Rat)) (x:Re) (l:LR):Prop:=∀{T:List LR} {A:LR},T=tw u->A=em u x->CF f [.one (.sl (.sl AA) T),.one (.sl AA A)] (.AG [(false,[.sl AA l]),(false,[.bool false])])
def U3 (f:FuncId) (R:Nat) (u:List (List Rat)):Prop:=∀{s:Nat} {x:Re},El u s x->QQ u.length R s<=60000000000000->(∃w,In u w/\w*w=x/\Hp f u x w)\/(¬Sq u x/\∃l,l.length<=2^u.length/\Ho f u x l)
theorem nC (h:BJ R (r::u)) (P:T=tw (r::u)) (O:A=em (r::u) x) (hx:El (r::u) s x) (F:x=p+q*rt u r) (hp:El u s p) (Q:El u s q) (hs:QQ (r::u).length R s<=60000000000000) (h0:q=0) (hw:In u w) (hy:Hp 338 u p w) (hB:B=em (r::u) w):CF 338 [.one (.sl (.sl AA) T),.one (.sl AA A)] (.AG [(false,[.sl AA B]),(false,[.bool true])]):=by
 have av:T.length=u.length+1:=by rw[P,CA];rfl
 have au:A.length=2^u.length+2^u.length:=by rw[O,Bk hx.mem,B3]
 have aA:=El.DK h;have aB:=Ct h.red;have aa:=De h.tail.ht;have ax:=DB u.length;have S:El u 0 0:=El.rat h.red.1 G7;have ay:QQ (r::u).length R s=max (QQ u.length R (3*s+3*EE u.length R+R+GG u.length R+3+II u.length R R)) (s+II u.length R (2*(3*s+3*EE u.length R+R+GG u.length R+3+II u.length R R+GG u.length R)+1)+EE u.length R):=rfl;have az:=IH u.length R (3*s+3*EE u.length R+R+GG u.length R+3+II u.length R R);have aw:=FT u.length R (2*(3*s+3*EE u.length R+R+GG u.length R+3+II u.length R R+GG u.length R)+1);refine AO Tryz.func338 fun E m=>?_
 conv=>cbv
 rintro aF ⟨ah,f27⟩;conv=>cbv
 intro Y k;conv=>cbv
 cases Y <;> conv=>cbv
 ·have G:=BR k;rintro aG ⟨ai,f41⟩;conv=>cbv
  intro aH an;conv=>cbv
  refine AQ ?_;intro aC a7;conv=>cbv
  refine AM ?_;intro M a1;conv=>cbv
  intro V y;conv=>cbv
  rintro aI ⟨aj,f46⟩;conv=>cbv
  intro H ao;conv=>cbv
  refine AQ ?_;obtain⟨K,d⟩:=AS (l:=T) (i:=(H).toNat) (by omega);refine⟨K,fun _=>⟨by omega,d⟩,?_⟩;try conv=>cbv
  refine g2 rfl ?_;rintro aJ ⟨ak,f52⟩;conv=>cbv
  intro EI aq;conv=>cbv
  refine g2 ⟨by omega,by omega,i64 (by omega)⟩ ?_;intro aD a8;conv=>cbv
  refine AM ?_;intro N a2;conv=>cbv
  intro W z;conv=>cbv
  rintro aK ⟨al,f57⟩;conv=>cbv
  intro aL ar;conv=>cbv
  refine g2 ⟨by omega,by omega,i64 (by omega)⟩ ?_;intro aE D;conv=>cbv
  refine AM ?_;rintro L ag ⟨Z,o⟩;conv=>cbv
  intro X C;conv=>cbv
  refine g2 rfl ?_;have a:V=tw u:=by rw[y,List.drop_zero,show M=T.length-1 by omega,P,EM]
  have U:K=BN r:=by have:=GH r u;rw[<-P,show T.length-1=H.toNat by omega,d] at this;exact Option.some.inj this
  have g:W=em u p:=by rw[z,List.drop_zero,show N=A.length/2 by omega,O,Cr h.red hp.mem Q.mem F]
  have j:X=em u q:=by rw[C,show L=A.length/2 by omega,o,D,List.take_length,O,CV h.red hp.mem Q.mem F]
  refine AB m (Jo h.red.1 Q.mem j h0) ?_;conv=>cbv
  obtain⟨I,b⟩:=xR (em u w);refine AB m (hy a g b) ?_;conv=>cbv
  obtain⟨ae,af,ab,ad,f⟩:=CI (((0:Int):Rat));refine AB m (Hn (by omega) rfl f) ?_;conv=>cbv
  obtain⟨J,c⟩:=xR (em u (0));refine AB m (Jg h.tail a f ⟨by decide +kernel,by decide +kernel⟩ c) ?_;conv=>cbv
  refine⟨[I,J],fun _=>⟨rfl,by decide,rfl,⟨rfl,by first | exact t1 | exact t2 | exact t4 | simp[BX,Bl,cells],⟨rfl,by first | exact t1 | exact t2 | exact t4 | simp[BX,Bl,cells],trivial⟩⟩⟩,.inr ?_⟩;try conv=>cbv
  have a5:I.length=2^u.length:=by rw[b,Bk hw]
  have a6:J.length=2^u.length:=by rw[c,Bk S.mem]
  refine AB (r:= .one (.sl AA B)) m (N5 (by omega) (by omega) (by rw[hB,b,c];exact Fx h.red hw (CK u) (by grind))) ?_;try conv=>cbv
  exact AF ⟨t2,t2,trivial⟩
 have G:=BS k;exact absurd G (by omega)
theorem nD (h:BJ R (r::u)) (W:T=tw (r::u)) (V:A=em (r::u) x) (hx:El (r::u) s x) (K:x=p+q*rt u r) (Y:El u s p) (Z:El u s q) (hs:QQ (r::u).length R s<=60000000000000) (h0:q=0) (hi:In u i) (I:AP u r*i=1) (hn:Ho 338 u p l) (hw:In u w) (hy:Hp 338 u (p*i) w) (hB:B=em (r::u) (w*rt u r)):CF 338 [.one (.sl (.sl AA) T),.one (.sl AA A)] (.AG [(false,[.sl AA B]),(false,[.bool true])]):=by
 have aB:T.length=u.length+1:=by rw[W,CA];rfl
 have aA:A.length=2^u.length+2^u.length:=by rw[V,Bk hx.mem,B3]
 have J:=El.DK h;have aG:=Ct h.red;have ah:=De h.tail.ht;have aD:=DB u.length;have a1:El u 0 0:=El.rat h.red.1 G7;have aE:QQ (r::u).length R s=max (QQ u.length R (3*s+3*EE u.length R+R+GG u.length R+3+II u.length R R)) (s+II u.length R (2*(3*s+3*EE u.length R+R+GG u.length R+3+II u.length R R+GG u.length R)+1)+EE u.length R):=rfl;have aF:=IH u.length R (3*s+3*EE u.length R+R+GG u.length R+3+II u.length R R);have aC:=FT u.length R (2*(3*s+3*EE u.length R+R+GG u.length R+3+II u.length R R+GG u.length R)+1);refine AO Tryz.func338 fun E f=>?_
 conv=>cbv
 rintro aK ⟨ao,f27⟩;conv=>cbv
 intro a7 z;conv=>cbv
 cases a7 <;> conv=>cbv
 ·have L:=BR z;rintro aL ⟨aq,f41⟩;conv=>cbv
  intro aM aw;conv=>cbv
  refine AQ ?_;intro aH af;conv=>cbv
  refine AM ?_;intro S aa;conv=>cbv
  intro a2 D;conv=>cbv
  rintro aN ⟨ar,f46⟩;conv=>cbv
  intro M ax;conv=>cbv
  refine AQ ?_;obtain⟨P,k⟩:=AS (l:=T) (i:=(M).toNat) (by omega);refine⟨P,fun _=>⟨by omega,k⟩,?_⟩;try conv=>cbv
  refine g2 rfl ?_;rintro aO ⟨au,f52⟩;conv=>cbv
  intro EI ay;conv=>cbv
  refine g2 ⟨by omega,by omega,i64 (by omega)⟩ ?_;intro aI ag;conv=>cbv
  refine AM ?_;intro U ab;conv=>cbv
  intro a5 F;conv=>cbv
  rintro aP ⟨av,f57⟩;conv=>cbv
  intro aQ az;conv=>cbv
  refine g2 ⟨by omega,by omega,i64 (by omega)⟩ ?_;intro aJ H;conv=>cbv
  refine AM ?_;rintro Q an ⟨a8,C⟩;conv=>cbv
  intro a6 G;conv=>cbv
  refine g2 rfl ?_;have a:a2=tw u:=by rw[D,List.drop_zero,show S=T.length-1 by omega,W,EM]
  have y:P=BN r:=by have:=GH r u;rw[<-W,show T.length-1=M.toNat by omega,k] at this;exact Option.some.inj this
  have b:a5=em u p:=by rw[F,List.drop_zero,show U=A.length/2 by omega,V,Cr h.red Y.mem Z.mem K]
  have o:a6=em u q:=by rw[G,show Q=A.length/2 by omega,C,H,List.take_length,V,CV h.red Y.mem Z.mem K]
  refine AB f (Jo h.red.1 Z.mem o h0) ?_;conv=>cbv
  refine AB f (hn a b) ?_;conv=>cbv
  obtain⟨aR,g⟩:=xR (em u i);have X:=J.inv h.tail hi I;refine AB f (NR h.tail a (y.trans (FN h.red)) J hi I (by omega) g) ?_;conv=>cbv
  refine AL ?_;conv=>cbv
  obtain⟨aS,j⟩:=xR (em u (p*i));refine AB f (Hm h.tail a b g Y X (by omega) j) ?_;conv=>cbv
  obtain⟨N,c⟩:=xR (em u w);refine AB f (hy a j c) ?_;conv=>cbv
  obtain⟨ak,al,ai,aj,m⟩:=CI (((0:Int):Rat));refine AB f (Hn (by omega) rfl m) ?_;conv=>cbv
  obtain⟨O,d⟩:=xR (em u (0));refine AB f (Jg h.tail a m ⟨by decide +kernel,by decide +kernel⟩ d) ?_;conv=>cbv
  refine⟨[O,N],fun _=>⟨rfl,by decide,rfl,⟨rfl,by first | exact t1 | exact t2 | exact t4 | simp[BX,Bl,cells],⟨rfl,by first | exact t1 | exact t2 | exact t4 | simp[BX,Bl,cells],trivial⟩⟩⟩,.inr ?_⟩;try conv=>cbv
  have ad:N.length=2^u.length:=by rw[c,Bk hw]
  have ae:O.length=2^u.length:=by rw[d,Bk a1.mem]
  refine AB (r:= .one (.sl AA B)) f (N5 (by omega) (by omega) (by rw[hB,c,d];exact Fx h.red (CK u) hw (by grind))) ?_;try conv=>cbv
  exact AF ⟨t2,t2,trivial⟩
 have L:=BS z;exact absurd L (by omega)
theorem nE (h:BJ R (r::u)) (U:T=tw (r::u)) (S:A=em (r::u) x) (hx:El (r::u) s x) (J:x=p+q*rt u r) (W:El u s p) (X:El u s q) (hs:QQ (r::u).length R s<=60000000000000) {l2:LR} (h0:q=0) (hi:In u i) (H:AP u r*i=1) (hn:Ho 338 u p l) (hy:Ho 338 u (p*i) l2) (aA:l2.length<=2^u.length) (hB:B=em u 0++l2):CF 338 [.one (.sl (.sl AA) T),.one (.sl AA A)] (.AG [(false,[.sl AA B]),(false,[.bool false])]):=by
 have ay:T.length=u.length+1:=by rw[U,CA];rfl
 have ax:A.length=2^u.length+2^u.length:=by rw[S,Bk hx.mem,B3]
 have I:=El.DK h;have aE:=Ct h.red;have ae:=De h.tail.ht;have aB:=DB u.length;have Y:El u 0 0:=El.rat h.red.1 G7;have aC:QQ (r::u).length R s=max (QQ u.length R (3*s+3*EE u.length R+R+GG u.length R+3+II u.length R R)) (s+II u.length R (2*(3*s+3*EE u.length R+R+GG u.length R+3+II u.length R R+GG u.length R)+1)+EE u.length R):=rfl;have aD:=IH u.length R (3*s+3*EE u.length R+R+GG u.length R+3+II u.length R R);have az:=FT u.length R (2*(3*s+3*EE u.length R+R+GG u.length R+3+II u.length R R+GG u.length R)+1);refine AO Tryz.func338 fun E d=>?_
 conv=>cbv
 rintro aI ⟨ak,f27⟩;conv=>cbv
 intro a5 y;conv=>cbv
 cases a5 <;> conv=>cbv
 ·have K:=BR y;rintro aJ ⟨al,f41⟩;conv=>cbv
  intro aK ar;conv=>cbv
  refine AQ ?_;intro aF ab;conv=>cbv
  refine AM ?_;intro P a7;conv=>cbv
  intro Z C;conv=>cbv
  rintro aL ⟨an,f46⟩;conv=>cbv
  intro L au;conv=>cbv
  refine AQ ?_;obtain⟨N,j⟩:=AS (l:=T) (i:=(L).toNat) (by omega);refine⟨N,fun _=>⟨by omega,j⟩,?_⟩;try conv=>cbv
  refine g2 rfl ?_;rintro aM ⟨ao,f52⟩;conv=>cbv
  intro EI av;conv=>cbv
  refine g2 ⟨by omega,by omega,i64 (by omega)⟩ ?_;intro aG ad;conv=>cbv
  refine AM ?_;intro Q a8;conv=>cbv
  intro a1 D;conv=>cbv
  rintro aN ⟨aq,f57⟩;conv=>cbv
  intro aO aw;conv=>cbv
  refine g2 ⟨by omega,by omega,i64 (by omega)⟩ ?_;intro aH G;conv=>cbv
  refine AM ?_;rintro O aj ⟨a6,z⟩;conv=>cbv
  intro a2 F;conv=>cbv
  refine g2 rfl ?_;have a:Z=tw u:=by rw[C,List.drop_zero,show P=T.length-1 by omega,U,EM]
  have o:N=BN r:=by have:=GH r u;rw[<-U,show T.length-1=L.toNat by omega,j] at this;exact Option.some.inj this
  have b:a1=em u p:=by rw[D,List.drop_zero,show Q=A.length/2 by omega,S,Cr h.red W.mem X.mem J]
  have m:a2=em u q:=by rw[F,show O=A.length/2 by omega,z,G,List.take_length,S,CV h.red W.mem X.mem J]
  refine AB d (Jo h.red.1 X.mem m h0) ?_;conv=>cbv
  refine AB d (hn a b) ?_;conv=>cbv
  obtain⟨aP,f⟩:=xR (em u i);have V:=I.inv h.tail hi H;refine AB d (NR h.tail a (o.trans (FN h.red)) I hi H (by omega) f) ?_;conv=>cbv
  refine AL ?_;conv=>cbv
  obtain⟨aQ,g⟩:=xR (em u (p*i));refine AB d (Hm h.tail a b f W V (by omega) g) ?_;conv=>cbv
  refine AB d (hy a g) ?_;conv=>cbv
  obtain⟨ah,ai,af,ag,k⟩:=CI (((0:Int):Rat));refine AB d (Hn (by omega) rfl k) ?_;conv=>cbv
  obtain⟨M,c⟩:=xR (em u (0));refine AB d (Jg h.tail a k ⟨by decide +kernel,by decide +kernel⟩ c) ?_;conv=>cbv
  refine⟨[M,l2],fun _=>⟨rfl,by decide,rfl,⟨rfl,by first | exact t1 | exact t2 | exact t4 | simp[BX,Bl,cells],⟨rfl,by first | exact t1 | exact t2 | exact t4 | simp[BX,Bl,cells],trivial⟩⟩⟩,.inr ?_⟩;try conv=>cbv
  have aa:M.length=2^u.length:=by rw[c,Bk Y.mem]
  refine AB (r:= .one (.sl AA B)) d (N5 (by omega) (by omega) (by rw[hB,c])) ?_;conv=>cbv
  exact AF ⟨t2,t2,trivial⟩
 have K:=BS y;exact absurd K (by omega)
theorem mz (h:BJ R (r::u)) (G:T=tw (r::u)) (F:A=em (r::u) x) (hx:El (r::u) s x) (f:x=p+q*rt u r) (N:El u s p) (H:El u s q) (hs:QQ (r::u).length R s<=60000000000000) (h0:q≠0) (hn:Ho 338 u (p*p-q*q*AP u r) l) (hB:B=[]):CF 338 [.one (.sl (.sl AA) T),.one (.sl AA A)] (.AG [(false,[.sl AA B]),(false,[.bool false])]):=by
 have ai:T.length=u.length+1:=by rw[G,CA];rfl
 have ah:A.length=2^u.length+2^u.length:=by rw[F,Bk hx.mem,B3]
 have ao:=El.DK h;have aq:=Ct h.red;have a1:=De h.tail.ht;have ak:=DB u.length;have ar:El u 0 0:=El.rat h.red.1 G7;have al:QQ (r::u).length R s=max (QQ u.length R (3*s+3*EE u.length R+R+GG u.length R+3+II u.length R R)) (s+II u.length R (2*(3*s+3*EE u.length R+R+GG u.length R+3+II u.length R R+GG u.length R)+1)+EE u.length R):=rfl;have an:=IH u.length R (3*s+3*EE u.length R+R+GG u.length R+3+II u.length R R);have aj:=FT u.length R (2*(3*s+3*EE u.length R+R+GG u.length R+3+II u.length R R+GG u.length R)+1);refine AO Tryz.func338 fun E L=>?_
 conv=>cbv
 rintro ax ⟨a6,f27⟩;conv=>cbv
 intro U g;conv=>cbv
 cases U <;> conv=>cbv
 ·have z:=BR g;rintro ay ⟨a7,f41⟩;conv=>cbv
  intro az ad;conv=>cbv
  refine AQ ?_;intro au Y;conv=>cbv
  refine AM ?_;intro J W;conv=>cbv
  intro P k;conv=>cbv
  rintro aA ⟨a8,f46⟩;conv=>cbv
  intro C ae;conv=>cbv
  refine AQ ?_;obtain⟨D,b⟩:=AS (l:=T) (i:=(C).toNat) (by omega);refine⟨D,fun _=>⟨by omega,b⟩,?_⟩;try conv=>cbv
  refine g2 rfl ?_;rintro aB ⟨aa,f52⟩;conv=>cbv
  intro EI af;conv=>cbv
  refine g2 ⟨by omega,by omega,i64 (by omega)⟩ ?_;intro av Z;conv=>cbv
  refine AM ?_;intro K X;conv=>cbv
  intro Q m;conv=>cbv
  rintro aC ⟨ab,f57⟩;conv=>cbv
  intro aD ag;conv=>cbv
  refine g2 ⟨by omega,by omega,i64 (by omega)⟩ ?_;intro aw y;conv=>cbv
  refine AM ?_;rintro I a5 ⟨V,j⟩;conv=>cbv
  intro S o;conv=>cbv
  refine g2 rfl ?_;have c:P=tw u:=by rw[k,List.drop_zero,show J=T.length-1 by omega,G,EM]
  have O:D=BN r:=by have:=GH r u;rw[<-G,show T.length-1=C.toNat by omega,b] at this;exact Option.some.inj this
  have M:Q=em u p:=by rw[m,List.drop_zero,show K=A.length/2 by omega,F,Cr h.red N.mem H.mem f]
  have d:S=em u q:=by rw[o,show I=A.length/2 by omega,j,y,List.take_length,F,CV h.red N.mem H.mem f]
  refine AB L (IQ h.red.1 H.mem d h0) ?_;conv=>cbv
  obtain⟨a2,a⟩:=xR (em u (p*p-q*q*AP u r));refine AB L (Pp h G F hx f N.mem H.mem (by omega) a) ?_;conv=>cbv
  refine AB L (hn c a) ?_;conv=>cbv
  refine Aw ?_;conv=>cbv
  exact AF ⟨⟨rfl,.inr (.inl ⟨_,congrArg _ (hB)⟩),trivial⟩,t2,trivial⟩
 have z:=BS g;exact absurd z (by omega)
theorem a8 {a b:Re} {y:Nat->Re} {x:LR} {i:Nat} (h:[A,B][i]? =some x) (f:A=em u a) (g:B=em u b) (c:y 0=a) (d:y 1=b):x=em u (y i):=by
 match i,h with
 | 0,h=>rw[c,<-f];exact (Option.some.inj h).symm
 | 1,h=>rw[d,<-g];exact (Option.some.inj h).symm
 | i+2,h=>simp at h
theorem nB {f:FuncId} {y:Nat->Re} {L:Nat->LR} {i:Nat} {b:Bool} (k:i<=k0) (a:∀i,i<k0->Ho f u (t*y i) (L i)) (c:Hp f u (t*y k0) w) (hb:b=decide (i=k0)) (g:B=if i=k0 then em u w else L i) (j:T=tw u) (d:A=em u (t*y i)):
  CF f [.one (.sl (.sl AA) T),.one (.sl AA A)] (.AG [(false,[.sl AA B]),(false,[.bool b])]):=by
 by_cases h:i=k0
 ·subst h;rw[hb,decide_eq_true rfl];exact c j d (by rw[g,if_pos rfl])
 rw[hb,decide_eq_false h,g,if_neg h];exact a i (by omega) j d
theorem El.half {y:Re} (h:El u s y) (hu:BJ R u) (ht:t=Re.ofRat (1/2)):El u (s+1+EE u.length R) (t*y):=by
 have a:El u 1 t:=ht ▸ El.rat hu.red L7;have:=a.mul hu h;rwa [show 1+s+EE u.length R=s+1+EE u.length R by omega] at this
theorem nA (h:BJ R (r::u)) (hT:T=tw (r::u)) (hA:A=em (r::u) x) (hx:El (r::u) s x) (G:x=p+q*rt u r) (O:El u s p) (Y:El u s q) (hs:QQ (r::u).length R s<=60000000000000) (h0:q≠0) (hn:In u n) (aj:n*n=p*p-q*q*AP u r) (ht:t=Re.ofRat (1/2)) (ar:Hp 338 u (p*p-q*q*AP u r) n) {y:Nat->Re} (an:y 0=p+n) (ao:y 1=p-n) (aq:∀i,El u (s+(2*s+2*EE u.length R+R+1+GG u.length R)+1) (y i)) {L:Nat->LR} (ai:k0<=2) (ak:∀i,i<k0->Ho 338 u (t*y i) (L i)) (aW:k0=2) (hB:B=[]):CF 338 [.one (.sl (.sl AA) T),.one (.sl AA A)] (.AG [(false,[.sl AA B]),(false,[.bool false])]):=by
 have aT:T.length=u.length+1:=by rw[hT,CA];rfl
 have aS:A.length=2^u.length+2^u.length:=by rw[hA,Bk hx.mem,B3]
 have b0:=El.DK h;have b1:=Ct h.red;have aD:=De h.tail.ht;have aX:=DB u.length;have b2:El u 0 0:=El.rat h.red.1 G7;have aY:QQ (r::u).length R s=max (QQ u.length R (3*s+3*EE u.length R+R+GG u.length R+3+II u.length R R)) (s+II u.length R (2*(3*s+3*EE u.length R+R+GG u.length R+3+II u.length R R+GG u.length R)+1)+EE u.length R):=rfl;have aZ:=IH u.length R (3*s+3*EE u.length R+R+GG u.length R+3+II u.length R R);have aU:=FT u.length R (2*(3*s+3*EE u.length R+R+GG u.length R+3+II u.length R R+GG u.length R)+1);have hN:=El.norm h O.mem Y.mem (G ▸ hx);refine AO Tryz.func338 fun E K=>?_
 conv=>cbv
 rintro b7 ⟨aI,f27⟩;conv=>cbv
 intro av P;conv=>cbv
 cases av <;> conv=>cbv
 ·have a1:=BR P;rintro b8 ⟨aJ,f41⟩;conv=>cbv
  intro b9 aO;conv=>cbv
  refine AQ ?_;intro b4 aB;conv=>cbv
  refine AM ?_;intro af az;conv=>cbv
  intro a2 S;conv=>cbv
  rintro ba ⟨aK,f46⟩;conv=>cbv
  intro ab aP;conv=>cbv
  refine AQ ?_;obtain⟨ad,I⟩:=AS (l:=T) (i:=(ab).toNat) (by omega);refine⟨ad,fun _=>⟨by omega,I⟩,?_⟩;try conv=>cbv
  refine g2 rfl ?_;rintro bb ⟨aL,f52⟩;conv=>cbv
  intro EI aQ;conv=>cbv
  refine g2 ⟨by omega,by omega,i64 (by omega)⟩ ?_;intro b5 aC;conv=>cbv
  refine AM ?_;intro ag aA;conv=>cbv
  intro au U;conv=>cbv
  rintro bc ⟨aM,f57⟩;conv=>cbv
  intro bd aR;conv=>cbv
  refine g2 ⟨by omega,by omega,i64 (by omega)⟩ ?_;intro b6 W;conv=>cbv
  refine AM ?_;rintro ae aH ⟨ay,Q⟩;conv=>cbv
  intro a5 V;conv=>cbv
  refine g2 rfl ?_;have a:a2=tw u:=by rw[S,List.drop_zero,show af=T.length-1 by omega,hT,EM]
  have al:ad=BN r:=by have:=GH r u;rw[<-hT,show T.length-1=ab.toNat by omega,I] at this;exact Option.some.inj this
  have d:au=em u p:=by rw[U,List.drop_zero,show ag=A.length/2 by omega,hA,Cr h.red O.mem Y.mem G]
  have N:a5=em u q:=by rw[V,show ae=A.length/2 by omega,Q,W,List.take_length,hA,CV h.red O.mem Y.mem G]
  refine AB K (IQ h.red.1 Y.mem N h0) ?_;conv=>cbv
  obtain⟨aE,f⟩:=xR (em u (p*p-q*q*AP u r));refine AB K (Pp h hT hA hx G O.mem Y.mem (by omega) f) ?_;conv=>cbv
  obtain⟨aF,b⟩:=xR (em u n);have X:=hN.sqrt h.tail hn aj;refine AB K (ar a f b) ?_;conv=>cbv
  refine AL ?_;conv=>cbv
  obtain⟨C,g⟩:=xR (em u (p+n));refine AB K (KU h.tail a d b O X (by omega) (by omega) g) ?_;conv=>cbv
  obtain⟨D,j⟩:=xR (em u (p-n));refine AB K (NW h.tail a d b O X (by omega) (by omega) j) ?_;conv=>cbv
  refine⟨[C,D],fun _=>⟨rfl,by decide,rfl,⟨rfl,by first | exact t1 | exact t2 | exact t4 | simp[BX,Bl,cells],⟨rfl,by first | exact t1 | exact t2 | exact t4 | simp[BX,Bl,cells],trivial⟩⟩⟩,.inr ?_⟩;try conv=>cbv
  intro a6 c;have aw:=c.eq;have f118:=c.le;conv=>cbv
  refine .inr ?_;obtain⟨J0,M⟩:=xJ fun vs bl k=>∃(i':Nat) (m i:Int),vs=[.one (.sl (.sl AA) a2),.one (.sl AA a5),.one (.sl (.sl AA) [C,D]),.one (.int .i64 m),.one (.int .i64 i)]/\(Ag m 2/\Ag i i'/\i'<=k0)/\k=2-i'
  refine⟨[],[8,11,117,118,119],[],J0,⟨2-0,by rw[M];exact⟨0,a6,0,rfl,⟨⟨c.eq⟩,Bf 0,by omega⟩,rfl⟩⟩,?_⟩;intro vs bl b3 hj;rw[M] at hj;obtain⟨i',m,i,rfl,⟨hM,ah,aV⟩,ai⟩:=hj;conv=>cbv
  have eM:=hM.eq;have aN:=ah.eq;intro a7 H;conv=>cbv
  cases a7 <;> conv=>cbv
  ·have Z:=BK H;exact AF ⟨⟨rfl,.inr (.inl ⟨_,congrArg _ (hB)⟩),trivial⟩,t2,trivial⟩
  have Z:=BL H;refine .inr ?_;obtain⟨J,z⟩:=AS (l:=[C,D]) (i:=i') (by show _<2;omega);refine⟨J,fun _=>⟨by omega,by rw[show (i).toNat=i' by omega];exact z⟩,?_⟩;try conv=>cbv
  have F:J=em u (y i'):=a8 z g j an ao;obtain⟨aG,o⟩:=xR (em u (t*y i'));refine AB K (Xf h.tail a F (aq i') ht (by omega) o) ?_;conv=>cbv
  refine AB K (ak i' (by omega) a o) ?_;conv=>cbv
  refine Aw ?_;conv=>cbv
  intro aa ax;conv=>cbv
  refine AQ ?_;refine⟨2-(i'+1),?_,?_⟩
  ·omega
  rw[M];exact⟨i'+1,m,aa,rfl,⟨hM,⟨by omega⟩,by omega⟩,rfl⟩
 have a1:=BS P;exact absurd a1 (by omega)
theorem m0 (h:BJ R (r::u)) (hT:T=tw (r::u)) (hA:A=em (r::u) x) (hx:El (r::u) s x) (V:x=p+q*rt u r) (hp:El u s p) (Y:El u s q) (hs:QQ (r::u).length R s<=60000000000000) (h0:q≠0) (hn:In u n) (aG:n*n=p*p-q*q*AP u r) (ht:t=Re.ofRat (1/2)) (aN:Hp 338 u (p*p-q*q*AP u r) n) {y:Nat->Re} (aL:y 0=p+n) (aM:y 1=p-n) (ai:∀i,El u (s+(2*s+2*EE u.length R+R+1+GG u.length R)+1) (y i)) {L:Nat->LR} (aD:k0<=2) (aH:∀i,i<k0->Ho 338 u (t*y i) (L i)) (bm:k0<2) {j:Re} (hw:In u w) (aJ:w*w=t*y k0) (aI:w≠0) (aO:Hp 338 u (t*y k0) w) (hj:In u j) (ah:(w+w)*j=1) (hB:B=em (r::u) (w+q*j*rt u r)):CF 338 [.one (.sl (.sl AA) T),.one (.sl AA A)] (.AG [(false,[.sl AA B]),(false,[.bool true])]):=by
 have bj:T.length=u.length+1:=by rw[hT,CA];rfl
 have bh:A.length=2^u.length+2^u.length:=by rw[hA,Bk hx.mem,B3]
 have bs:=El.DK h;have bt:=Ct h.red;have aZ:=De h.tail.ht;have bp:=DB u.length;have bu:El u 0 0:=El.rat h.red.1 G7;have bq:QQ (r::u).length R s=max (QQ u.length R (3*s+3*EE u.length R+R+GG u.length R+3+II u.length R R)) (s+II u.length R (2*(3*s+3*EE u.length R+R+GG u.length R+3+II u.length R R+GG u.length R)+1)+EE u.length R):=rfl;have br:=IH u.length R (3*s+3*EE u.length R+R+GG u.length R+3+II u.length R R);have bk:=FT u.length R (2*(3*s+3*EE u.length R+R+GG u.length R+3+II u.length R R+GG u.length R)+1);have hN:=El.norm h hp.mem Y.mem (V ▸ hx);refine AO Tryz.func338 fun E o=>?_
 conv=>cbv
 rintro bB ⟨b6,f27⟩;conv=>cbv
 intro aQ a7;conv=>cbv
 cases aQ <;> conv=>cbv
 ·have aj:=BR a7;rintro bC ⟨b7,f41⟩;conv=>cbv
  intro bD bc;conv=>cbv
  refine AQ ?_;intro bx aX;conv=>cbv
  refine AM ?_;intro ax aV;conv=>cbv
  intro ak ab;conv=>cbv
  rintro bE ⟨b8,f46⟩;conv=>cbv
  intro au bd;conv=>cbv
  refine AQ ?_;obtain⟨av,Z⟩:=AS (l:=T) (i:=(au).toNat) (by omega);refine⟨av,fun _=>⟨by omega,Z⟩,?_⟩;try conv=>cbv
  refine g2 rfl ?_;rintro bF ⟨b9,f52⟩;conv=>cbv
  intro EI bf;conv=>cbv
  refine g2 ⟨by omega,by omega,i64 (by omega)⟩ ?_;intro bz aY;conv=>cbv
  refine AM ?_;intro ay aW;conv=>cbv
  intro aP ad;conv=>cbv
  rintro bG ⟨ba,f57⟩;conv=>cbv
  intro bH bg;conv=>cbv
  refine g2 ⟨by omega,by omega,i64 (by omega)⟩ ?_;intro bA af;conv=>cbv
  refine AM ?_;rintro aw b5 ⟨aU,aa⟩;conv=>cbv
  intro al ae;conv=>cbv
  refine g2 rfl ?_;have a:ak=tw u:=by rw[ab,List.drop_zero,show ax=T.length-1 by omega,hT,EM]
  have aK:av=BN r:=by have:=GH r u;rw[<-hT,show T.length-1=au.toNat by omega,Z] at this;exact Option.some.inj this
  have C:aP=em u p:=by rw[ad,List.drop_zero,show ay=A.length/2 by omega,hA,Cr h.red hp.mem Y.mem V]
  have D:al=em u q:=by rw[ae,show aw=A.length/2 by omega,aa,af,List.take_length,hA,CV h.red hp.mem Y.mem V]
  refine AB o (IQ h.red.1 Y.mem D h0) ?_;conv=>cbv
  obtain⟨b0,F⟩:=xR (em u (p*p-q*q*AP u r));refine AB o (Pp h hT hA hx V hp.mem Y.mem (by omega) F) ?_;conv=>cbv
  obtain⟨b1,d⟩:=xR (em u n);have ag:=hN.sqrt h.tail hn aG;refine AB o (aN a F d) ?_;conv=>cbv
  refine AL ?_;conv=>cbv
  obtain⟨P,G⟩:=xR (em u (p+n));refine AB o (KU h.tail a C d hp ag (by omega) (by omega) G) ?_;conv=>cbv
  obtain⟨Q,H⟩:=xR (em u (p-n));refine AB o (NW h.tail a C d hp ag (by omega) (by omega) H) ?_;conv=>cbv
  refine⟨[P,Q],fun _=>⟨rfl,by decide,rfl,⟨rfl,by first | exact t1 | exact t2 | exact t4 | simp[BX,Bl,cells],⟨rfl,by first | exact t1 | exact t2 | exact t4 | simp[BX,Bl,cells],trivial⟩⟩⟩,.inr ?_⟩;try conv=>cbv
  intro an z;have aS:=z.eq;have f118:=z.le;conv=>cbv
  refine .inr ?_;obtain⟨J0,a6⟩:=xJ fun vs bl k=>∃(i':Nat) (m i:Int),vs=[.one (.sl (.sl AA) ak),.one (.sl AA al),.one (.sl (.sl AA) [P,Q]),.one (.int .i64 m),.one (.int .i64 i)]/\(Ag m 2/\Ag i i'/\i'<=k0)/\k=2-i'
  refine⟨[],[8,11,117,118,119],[],J0,⟨2-0,by rw[a6];exact⟨0,an,0,rfl,⟨⟨z.eq⟩,Bf 0,by omega⟩,rfl⟩⟩,?_⟩;intro vs bl bw hj;rw[a6] at hj;obtain⟨i',m,i,rfl,⟨hM,az,aA⟩,aD⟩:=hj;conv=>cbv
  have eM:=hM.eq;have bb:=az.eq;intro ao W;conv=>cbv
  cases ao <;> conv=>cbv
  ·have a1:=BK W;exact absurd a1 (by omega)
  have a1:=BL W;refine .inr ?_;obtain⟨a5,N⟩:=AS (l:=[P,Q]) (i:=i') (by show _<2;omega);refine⟨a5,fun _=>⟨by omega,by rw[show (i).toNat=i' by omega];exact N⟩,?_⟩;try conv=>cbv
  have U:a5=em u (y i'):=a8 N G H aL aM;obtain⟨b2,I⟩:=xR (em u (t*y i'));refine AB o (Xf h.tail a U (ai i') ht (by omega) I) ?_;conv=>cbv
  obtain⟨aR,c⟩:=xB (decide (i'=k0));obtain⟨S,J⟩:=xR (if i'=k0 then em u w else L i');refine AB o (nB aA aH aO c J a I) ?_;conv=>cbv
  intro aq X;conv=>cbv
  cases aq <;> conv=>cbv
  ·have O:=FX X;have aB:i'=k0:=of_decide_eq_true (c.symm.trans O);have b:S=em u w:=by rw[J,if_pos aB]
   have g:El u (s+(2*s+2*EE u.length R+R+1+GG u.length R)+1+1+EE u.length R+GG u.length R) w:=(((ai k0).half h.tail ht).sqrt h.tail hw aJ);have aC:=(g.add h.red.1 g).inv h.tail hj ah;have bn:=Ji u.length R (s:=s+(2*s+2*EE u.length R+R+1+GG u.length R)+1+1+EE u.length R+GG u.length R+(s+(2*s+2*EE u.length R+R+1+GG u.length R)+1+1+EE u.length R+GG u.length R)+1) (t:=2*(3*s+3*EE u.length R+R+GG u.length R+3+II u.length R R+GG u.length R)+1) (by omega);refine AB o (IQ h.red.1 hw b aI) ?_;conv=>cbv
   obtain⟨b3,K⟩:=xR (em u (w+w));refine AB o (KU h.tail a b b g g (by omega) (by omega) K) ?_;conv=>cbv
   obtain⟨b4,M⟩:=xR (em u j);refine AB o (NR h.tail a K (g.add h.red.1 g) hj ah (by omega) M) ?_;conv=>cbv
   obtain⟨a2,f⟩:=xR (em u (q*j));refine AB o (Hm h.tail a D M Y aC (by omega) f) ?_;conv=>cbv
   refine⟨[S,a2],fun _=>⟨rfl,by decide,rfl,⟨rfl,by first | exact t1 | exact t2 | exact t4 | simp[BX,Bl,cells],⟨rfl,by first | exact t1 | exact t2 | exact t4 | simp[BX,Bl,cells],trivial⟩⟩⟩,.inr ?_⟩;try conv=>cbv
   have aE:S.length=2^u.length:=by rw[b,Bk hw]
   have aF:a2.length=2^u.length:=by rw[f,Bk (BD h.red.1 Y.mem hj)]
   refine AB (r:= .one (.sl AA B)) o (N5 (by omega) (by omega) (by rw[hB,b,f];exact Fx h.red hw (BD h.red.1 Y.mem hj) rfl)) ?_;try conv=>cbv
   exact AF ⟨t2,t2,trivial⟩
  have O:=FY X;intro ar aT;conv=>cbv
  refine AQ ?_;have bo:i'≠k0:=of_decide_eq_false (c.symm.trans O);refine⟨2-(i'+1),?_,?_⟩
  ·omega
  rw[a6];exact⟨i'+1,m,ar,rfl,⟨hM,⟨by omega⟩,by omega⟩,rfl⟩
 have aj:=BS a7;exact absurd aj (by omega)
end Go.Abs
namespace Go.Abs
open Go.RowKit
theorem Xe {t:Re} (ht:t=Re.ofRat (1/2)):2*t=1:=by
 have e2:(2:Re)=Re.ofRat 2:=rfl;rw[ht,e2,<-Re.ofRat_mul,show (2:Rat)*(1/2)=1 by decide +kernel];rfl
theorem To {u:List (List Rat)} {R:Nat} (h:BJ R u):U3 338 R u:=by
 induction u with
 | nil=>
  intro s x C I;obtain⟨q,rfl⟩:=Cs.1 C.mem
  have a6:CQ q:=by
   have:=C.CM (by have:=IH ([]:List (List Rat)).length R s;omega);rw[Dl] at this;exact this q List.mem_cons_self
  by_cases V:∃r:Rat,0<=r/\r*r=q
  ·obtain⟨r,F,V⟩:=V;refine .inl ⟨Re.ofRat r,HS r _,by rw[<-Re.ofRat_mul,V],?_⟩;intro T A B f d O;exact my f (d.trans (E8 q)) (O.trans (E8 r)) a6 F V
  refine .inr ⟨fun I=>V (aV.1 I),[(((false,[]),(false,[])):el AA)],?_,?_⟩
  rotate_left
  ·intro T A f d;exact mw f (d.trans (E8 q)) rfl a6 V
  simp
 | cons r u c=>
  have c:U3 338 R u:=c h.tail;intro s x C I;obtain⟨p,q,a,g,G⟩:=El.parts h.red C;have aq:QQ (r::u).length R s=max (QQ u.length R (3*s+3*EE u.length R+R+GG u.length R+3+II u.length R R)) (s+II u.length R (2*(3*s+3*EE u.length R+R+GG u.length R+3+II u.length R R+GG u.length R)+1)+EE u.length R):=rfl;have hQ:∀s',s'<=3*s+3*EE u.length R+R+GG u.length R+3+II u.length R R->QQ u.length R s'<=60000000000000:=fun s' h'=>Nat.le_trans (NT u.length R h') (by omega)
  have aj:=El.DK h;have ak:=Ct h.red
  by_cases F:q=0
  ·have Q:x=p:=by rw[a,F];clear c;grind
   rcases c g (hQ _ (by omega)) with⟨w,hw,b,S⟩ |⟨o,l,hl,U⟩
   ·refine .inl ⟨w,Fj hw,by rw[Q];exact b,?_⟩;intro T A B f d O;exact nC h f d C a g G I F hw S O
   obtain⟨i,H,z⟩:=E1 h.red.1 (B6 h.red) (by have:=h.red.2.2.1;grind);have ae:=aj.inv h.tail H z;rcases c (g.mul h.tail ae) (hQ _ (by omega)) with⟨w,hw,b,S⟩ |⟨a2,l2,af,ah⟩
   ·refine .inl ⟨w*rt u r,CZ.2 ⟨0,w,CK u,hw,by clear c;grind⟩,?_,?_⟩
    ·have:p=p*(AP u r*i):=by rw[z];clear c;grind
     rw[Q];clear c;grind
    intro T A B f d O;exact nD h f d C a g G I F H z U hw S O
   refine .inr ⟨?_,em u 0++l2,?_,?_⟩
   ·rw[Q,aT h.red g.mem];rintro (h1 |⟨i',al,a5,h1⟩)
    ·exact o h1
    have:i'=i:=by
     have:i'=i'*(AP u r*i):=by rw[z];clear c;grind
     have h2:i=i*(AP u r*i'):=by rw[a5];clear c;grind
     clear c;grind
    rw[this] at h1;exact a2 h1
   ·rw[List.length_append,Bk (CK u),B3];omega
   intro T A f d;exact nE h f d C a g G I F H z U ah af rfl
  have hN:=El.norm h g.mem G.mem (a ▸ C);rcases c hN (hQ _ (by omega)) with⟨n,U,k,ad⟩ |⟨o,l,hl,ai⟩
  rotate_left
  ·refine .inr ⟨fun hS=>o (aX h.red g.mem G.mem (a ▸ hS)),[],Nat.zero_le _,?_⟩;intro T A f d;exact mz h f d C a g G I F ai rfl
  have Y:=hN.sqrt h.tail U k;obtain⟨t,ht⟩:∃t:Re,t=Re.ofRat (1/2):=⟨_,rfl⟩
  have P:=Xe ht;obtain⟨y,S⟩:∃y:Nat->Re,y=fun i=>if i=0 then p+n else p-n:=⟨_,rfl⟩
  have J:y 0=p+n:=by rw[S];rfl
  have K:y 1=p-n:=by rw[S];rfl
  have M:∀i,El u (s+(2*s+2*EE u.length R+R+1+GG u.length R)+1) (y i):=fun i=>by
   rw[S]
   show El u _ (if i=0 then p+n else p-n)
   by_cases H:i=0
   ·rw[if_pos H];exact g.add h.red.1 Y
   rw[if_neg H];exact g.sub h.red.1 Y
  have N:∀(k0:Nat) (L:Nat->LR) (w:Re),k0<2->(∀i,i<k0->Ho 338 u (t*y i) (L i))->In u w->w*w=t*y k0->Hp 338 u (t*y k0) w->
    ∃w,In (r::u) w/\w*w=x/\Hp 338 (r::u) x w:=by
   intro k0 L w hk o hw b D
   have key:∃m,m*m=p*p-q*q*AP u r/\y k0=p+m:=by
    rcases (show k0=0\/k0=1 by omega) with rfl | rfl
    ·exact⟨n,k,J⟩
    exact⟨-n,by rw[<-k];clear c;grind,by rw[K];clear c;grind⟩
   obtain⟨m,W,ab⟩:=key;have a7:w≠0:=aS h.red F W P (by rw[b,ab])
   have aa:w+w≠0:=by
    intro e;have e1:2*w=0:=by clear c;grind
    rcases Re.Gf e1 with e | e
    ·exact PT e
    exact a7 e
   obtain⟨j,hj,a8⟩:=E1 h.red.1 (DP hw hw) aa;refine⟨w+q*j*rt u r,CZ.2 ⟨_,_,hw,BD h.red.1 G.mem hj,rfl⟩,?_,?_⟩
   ·rw[a];exact aR W P ak (by rw[b,ab]) a8 rfl
   intro T A B f d O;exact m0 h f d C a g G I F U k ht ad J K M (by omega) o hk hw b a7 D hj a8 O
  have hb:QQ u.length R (s+(2*s+2*EE u.length R+R+1+GG u.length R)+1+1+EE u.length R)<=60000000000000:=hQ _ (by omega);rcases c ((M 0).half h.tail ht) hb with⟨w,hw,b,D⟩ |⟨Z,l0,an,X⟩
  ·exact .inl (N 0 (fun _=>[]) w (by omega) (fun i H=>by omega) hw b D)
  rcases c ((M 1).half h.tail ht) hb with⟨w,hw,b,D⟩ |⟨a1,l1,ao,ag⟩
  ·exact .inl (N 1 (fun _=>l0) w (by omega) (fun i H=>by rw[show i=0 by omega];exact X) hw b D)
  refine .inr ⟨fun hS=>?_,[],Nat.zero_le _,?_⟩
  ·rcases aY h.red g.mem G.mem (a ▸ hS) k P with e | e
   ·exact Z (by rw[J];exact e)
   exact a1 (by rw[K];exact e)
  intro T A f d
  exact nA h f d C a g G I F U k ht ad J K M (L:=fun i=>if i=0 then l0 else l1) (Nat.le_refl 2) (fun i H=>by
   rcases (show i=0\/i=1 by omega) with rfl | rfl
   ·exact X
   exact ag) rfl rfl
end Go.Abs
namespace Go.Abs
open Go.RowKit
variable {A B:LR} {R s:Nat} {T:List LR} {u:List (List Rat)} {v x:Re}
theorem Wd {S:Nat} (hl:∀x∈T,x.length<=1000000) (a6:T.length<=1000) (D:S=T.length):CF 302 [.one (.sl (.sl AA) T)] (.one (.own (.sl AA) T S)):=by
 refine AO Tryz.func302 fun E Y=>?_
 conv=>cbv
 rintro n7 ⟨e7,f7⟩;conv=>cbv
 refine⟨fun _=>⟨by omega,by omega,by show _*24<=140737488355328;omega⟩,?_⟩;intro G (H:List (el (.sl AA))) z;have a5:=z.1;have C:H=List.replicate G ([]:el (.sl AA)):=z.2;have W:H.length=G:=by rw[C,List.length_replicate]
 conv=>cbv
 intro I f;have V:=f.eq;have f10:=f.le;conv=>cbv
 refine .inr ?_;obtain⟨U,g⟩:=xJ fun vs M k=>∃(o:List LR) (m i':Nat) (L i:Int),vs=[.one (.AZ (.sl AA) 8 0 0 m),.one (.sl (.sl AA) T),.one (.int .i64 L),.one (.int .i64 i)]/\M=[.arr 0 (.sl AA) o]/\(o.length=T.length/\m=T.length/\DX L T.length/\Ag i i'/\i'<=T.length)/\o.take i'=T.take i'/\k=T.length-i'
 refine⟨[],[3,9,10,11],[8],U,⟨T.length-0,by rw[g];exact⟨H,G,0,I,0,rfl,rfl,⟨by omega,by omega,f,Bf 0,by omega⟩,rfl,rfl⟩⟩,?_⟩;intro vs M a7 P;rw[g] at P;obtain⟨o,m,i',L,i,rfl,rfl,⟨ho,hm,O,Z,a1⟩,hinv,a2⟩:=P;conv=>cbv
 have eL:=O.eq;have ei:=Z.eq;intro J j;conv=>cbv
 cases J <;> conv=>cbv
 ·have F:=BK j;have c:T=o:=by rw[<-List.take_length (l:=T),<-show i'=T.length by omega,<-hinv,List.take_of_length_le (by omega)]
  exact AF ⟨⟨rfl,.inr (.inl ⟨_,_,by decide,rfl,rfl,by omega,rfl,EK (c) (by rw[D,<-c])⟩),trivial⟩,trivial⟩
 have F:=BL j;refine .inr ?_;obtain⟨b,a⟩:=AS (l:=T) (i:=i') (by omega);refine⟨b,fun _=>⟨by omega,by rw[show (i).toNat=i' by omega];exact a⟩,?_⟩;try conv=>cbv
 refine AB Y (Uf (hl b (List.mem_of_getElem? a))) ?_;conv=>cbv
 refine AM ?_;intro y Q;conv=>cbv
 refine⟨b,fun _=>⟨by show _<List.length (α:=(el (.sl AA))) o;(first | omega | (simp;omega)),by first | exact t1 | exact t2 | exact t4 | simp[BX,Bl,cells]⟩,?_⟩;intro (h:List (el (.sl AA))) (d:h=List.set (α:=(el (.sl AA))) o y b);have N:h.length=o.length:=by rw[d,List.length_set]
 conv=>cbv
 intro K X;conv=>cbv
 refine AQ ?_;refine⟨T.length-(i'+1),?_,?_⟩
 ·omega
 rw[g];refine⟨h,m,i'+1,L,K,rfl,rfl,⟨by omega,by omega,O,⟨by omega⟩,by omega⟩,?_,rfl⟩;rw[d,show y=i' by omega,PO (by omega),hinv,<-C7 a]
theorem gF (b:∀x∈T,x.length<=1000000) (a:T.length<=1000):CF 302 [.one (.sl (.sl AA) T)] (.one (.sl (.sl AA) T)):=Dc (Wd b a rfl)
theorem a7 (h:BJ R u) (f:T=tw u):∀x∈T,x.length<=1000000:=by
 intro x b;rw[f,tw] at b;obtain⟨y,g,rfl⟩:=List.mem_map.1 b;obtain⟨i,a⟩:=List.mem_iff_getElem?.1 g;have c:=LW h.red i y a;have d:=IV a;rw[List.length_reverse] at d;have h3:=h.ht;rw[List.length_map,c];exact Nat.le_trans (De) (by decide)
theorem JN:BU x<0↔x<0:=by
 rcases Fb x with⟨a,b⟩ |⟨a,b⟩ |⟨a,b⟩ <;> rw[b]
 ·exact⟨fun _=>a,fun _=>by decide⟩
 ·rw[a];exact⟨fun h=>absurd h (by decide),fun h=>by grind⟩
 exact⟨fun h=>absurd h (by decide),fun h=>by grind⟩
theorem lD (h:BJ R u) (y:T=tw u) (F:A=em u x) (G:El u s x) (o:Fit u.length R s) {w:Re} (hw:In u w) (c:w*w=x) (H:Hp 338 u x w) (g:0<=v) (j:v*v=x) (D:B=em u v):CF 301 [.one (.sl (.sl AA) T),.one (.sl AA A)] (.AG [(false,[.sl AA B]),(false,[.bool true])]):=by
 have k:=G.sqrt h hw c;refine AO Tryz.func301 fun E m=>?_
 conv=>cbv
 obtain⟨J,a⟩:=xR (em u w);refine AB m (H y F a) ?_;conv=>cbv
 refine AL ?_;conv=>cbv
 obtain⟨I,f⟩:=xI (BU w);refine AB m (Lt h y a k o.v o.vR f) ?_;conv=>cbv
 intro C d;conv=>cbv
 refine .inr ?_;cases C <;> conv=>cbv
 ·have z:=BK d;exact AF ⟨⟨rfl,congrArg _ (by rw[D,a];congr 1;have:¬w<0:=(fun hc=>by have:=JN.2 hc;omega);exact Re.KP g (by grind) (j.trans c.symm)),trivial⟩,t2,trivial⟩
 have z:=BL d;obtain⟨K,b⟩:=xR (em u (-w));refine AB m (Us h y a k (Nat.le_trans (Gb u.length R _) o.v) b) ?_;conv=>cbv
 exact AF ⟨⟨rfl,congrArg _ (by rw[D,b];congr 1;have:w<0:=JN.1 (by omega);exact Re.KP g (by grind) (by rw[j,<-c];grind)),trivial⟩,t2,trivial⟩
theorem lC (h:BJ R u) (d:T=tw u) (a:A=em u x) (j:El u s x) (g:Fit u.length R s) {l:LR} (f:Ho 338 u x l) (b:B=[]):CF 301 [.one (.sl (.sl AA) T),.one (.sl AA A)] (.AG [(false,[.sl AA B]),(false,[.bool false])]):=by
 refine AO Tryz.func301 fun E c=>?_
 conv=>cbv
 refine AB c (f d a) ?_;conv=>cbv
 refine Aw ?_;conv=>cbv
 exact AF ⟨⟨rfl,.inr (.inl ⟨_,congrArg _ (b)⟩),trivial⟩,t2,trivial⟩
theorem lE (h:BJ R u) (m:T=tw u) (j:A=em u x) (g:El u s x) (f:Fit u.length R s) (o:In u v) (c:0<=v) (a:v*v=x) (k:B=em u v):CF 301 [.one (.sl (.sl AA) T),.one (.sl AA A)] (.AG [(false,[.sl AA B]),(false,[.bool true])]):=by
 rcases To h g f.q with⟨w,hw,d,y⟩ |⟨b,_⟩
 ·exact lD h m j g f hw d y c a k
 exact absurd ⟨v,o,a⟩ b
theorem lB (h:BJ R u) (j:T=tw u) (f:A=em u x) (d:El u s x) (c:Fit u.length R s) (a:¬Sq u x) (g:B=[]):CF 301 [.one (.sl (.sl AA) T),.one (.sl AA A)] (.AG [(false,[.sl AA B]),(false,[.bool false])]):=by
 rcases To h d c.q with⟨w,hw,b,m⟩ |⟨_,l,_,k⟩
 ·exact absurd ⟨w,hw,b⟩ a
 exact lC h j f d c k g
theorem Uw (h:BJ R u) (D:T=tw u) (hv:VV u.length R R<=60000000000000) (hq:QQ u.length R R<=60000000000000):CF 300 [.one (.sl (.sl AA) T)] (.one (.bool true)):=by
 have af:T.length=u.length:=by rw[D,CA]
 have hR:=h.hR;refine AO Tryz.func300 fun E Q=>?_
 conv=>cbv
 intro n8 P;have e8:=P.eq;have f8:=P.le;conv=>cbv
 refine .inr ?_;obtain⟨J0,f⟩:=xJ fun vs bl k=>∃(i':Nat) (L i:Int),vs=[.one (.sl (.sl AA) T),.one (.sl (.sl AA) T),.one (.int .i64 L),.one (.int .i64 i)]/\(DX L T.length/\Ag i i'/\i'<=T.length)/\k=T.length-i'
 refine⟨[],[0,7,8,9],[],J0,⟨T.length-0,by rw[f];exact⟨0,n8,0,rfl,⟨P,Bf 0,by omega⟩,rfl⟩⟩,?_⟩;intro vs bl ai hj;rw[f] at hj;obtain⟨i',L,i,rfl,⟨hL,hi,ag⟩,ah⟩:=hj;conv=>cbv
 have eL:=hL.eq;have ei:=hi.eq;intro Z z;conv=>cbv
 cases Z <;> conv=>cbv
 ·have V:=BK z;exact AF ⟨t2,trivial⟩
 have V:=BL z;refine .inr ?_;obtain⟨y,d⟩:=AS (l:=T) (i:=i') (by omega);refine⟨y,fun _=>⟨by omega,by rw[show (i).toNat=i' by omega];exact d⟩,?_⟩;try conv=>cbv
 obtain⟨r,J,I⟩:=KG (u:=u) (i:=i') (by omega);have o:Al (r::pre u i'):=J ▸ (h.pre (i'+1)).red;have S:y=BN r:=by rw[<-D,d] at I;exact Option.some.inj I
 have a:y=em (pre u i') (AP (pre u i') r):=S.trans (FN o);have b:El (pre u i') R (AP (pre u i') r):=El.DK (J ▸ h.pre (i'+1));intro aj aa;conv=>cbv
 refine AM ?_;intro M a6;conv=>cbv
 intro W F;conv=>cbv
 have g:W=tw (pre u i'):=by rw[F,List.drop_zero,show M=i' by omega,D,Im]
 refine AB (r:= .one (.bool true)) Q (IF g (h.pre i').G3 a (b.CM hR) (by rw[b.len,List.length_reverse];exact (decide_eq_true rfl).symm)) ?_;try conv=>cbv
 refine AL ?_;conv=>cbv
 intro ak ab;conv=>cbv
 refine AM ?_;intro N a7;conv=>cbv
 intro X G;conv=>cbv
 have j:X=tw (pre u i'):=by rw[G,List.drop_zero,show N=i' by omega,D,Im]
 obtain⟨a5,c⟩:=xI (BU (AP (pre u i') r));refine AB (r:= .one (.int .i64 a5)) Q (Lt (h.pre i') j a b (by rw[JY (by omega)];exact Nat.le_trans (Lv (by omega) R R) hv) (by rw[JY (by omega)];exact Nat.le_trans (Lv (by omega) R R) hv) c) ?_;try conv=>cbv
 intro a1 C;conv=>cbv
 cases a1 <;> conv=>cbv
 ·have K:=DQ C;intro al ad;conv=>cbv
  refine AM ?_;intro O a8;conv=>cbv
  intro Y H;conv=>cbv
  have m:Y=tw (pre u i'):=by rw[H,List.drop_zero,show O=i' by omega,D,Im]
  obtain⟨l,hl,hn⟩:=((To (h.pre i') b (by rw[JY (by omega)];exact Nat.le_trans (cQ (by omega) R R) hq)).resolve_left (fun⟨w,hw,U,_⟩=>o.2.2.2 ⟨w,hw,U⟩)).2;refine AB Q (hn m a) ?_;conv=>cbv
  intro a2 ae;conv=>cbv
  refine AQ ?_;refine⟨T.length-(i'+1),?_,?_⟩
  ·omega
  rw[f];exact⟨i'+1,L,a2,rfl,⟨hL,⟨by omega⟩,by omega⟩,rfl⟩
 have K:=DR C;exact absurd K (by rw[c,FH o.2.2.1];omega)
theorem fB (h:BJ R u) (b:T=tw u) (k:A=em u x) (j:El u s x) (a:Fit u.length R s) (G:In u v) (m:0<=v) (g:v*v=x) (C:B=em u v):CF 257 [.one (.sl (.sl AA) T),.one (.sl AA A)] (.AG [(false,[.sl (.sl AA) T]),(false,[.sl AA B]),(false,[.int .i64 0])]):=by
 have D:T.length=u.length:=by rw[b,CA]
 have F:=h.ht;have o:¬x<0:=by rw[<-g];have:=Re.It v;grind
 refine AO Tryz.func257 fun E d=>?_
 conv=>cbv
 refine .inr ?_;refine AB (r:= .one (.bool true)) d (IF b h.G3 k (j.CM a.s) (by rw[j.len,List.length_reverse];exact (decide_eq_true rfl).symm)) ?_;try conv=>cbv
 refine AL ?_;conv=>cbv
 refine AB d (Uw h b a.vR a.qR) ?_;conv=>cbv
 refine AL ?_;conv=>cbv
 obtain⟨H,f⟩:=xI (BU x);refine AB d (Lt h b k j a.v0 a.vR f) ?_;conv=>cbv
 intro z c;conv=>cbv
 cases z <;> conv=>cbv
 ·have y:=BK c;refine AB d (lE h b k j a G m g C) ?_;conv=>cbv
  refine AB d (gF (a7 h b) (by omega)) ?_;conv=>cbv
  exact AF ⟨t2,t2,t2,trivial⟩
 have y:=BL c;exact absurd ((JN (x:=x)).1 (by omega)) o
theorem fC (h:BJ R u) (d:T=tw u) (m:A=em u x) (D:El u s x) (g:Fit u.length R s) {R':Nat} {r:List Rat} {T2:List LR} (h8:u.length<8) (W:0<=x) (J:¬Sq u x) (V:r=co u x) (h':BJ R' (r::u)) (H:T2=tw (r::u)) (S:B=em (r::u) (rt u r)):CF 257 [.one (.sl (.sl AA) T),.one (.sl AA A)] (.AG [(false,[.sl (.sl AA) T2]),(false,[.sl AA B]),(false,[.int .i64 0])]):=by
 have I:T.length=u.length:=by rw[d,CA]
 have U:=h.ht;refine AO Tryz.func257 fun E c=>?_
 conv=>cbv
 refine .inr ?_;refine AB (r:= .one (.bool true)) c (IF d h.G3 m (D.CM g.s) (by rw[D.len,List.length_reverse];exact (decide_eq_true rfl).symm)) ?_;try conv=>cbv
 refine AL ?_;conv=>cbv
 refine AB c (Uw h d g.vR g.qR) ?_;conv=>cbv
 refine AL ?_;conv=>cbv
 obtain⟨Z,z⟩:=xI (BU x);refine AB c (Lt h d m D g.v0 g.vR z) ?_;conv=>cbv
 intro L j;conv=>cbv
 cases L <;> conv=>cbv
 ·have K:=BK j;refine AB c (lB h d m D g J rfl) ?_;conv=>cbv
  rintro X ⟨P,f36⟩;conv=>cbv
  intro M k;conv=>cbv
  cases M <;> conv=>cbv
  ·have F:=F0 k;obtain⟨tn,C⟩:=xN T.length;refine AB c (Wd (a7 h d) (by omega) C) ?_;conv=>cbv
   have Q:A.length=2^u.length:=by rw[m,Bk D.mem]
   have O:=De h.ht;refine AB c (Uf (by omega)) ?_;conv=>cbv
   refine⟨[A],fun _=>⟨rfl,by decide,rfl,⟨rfl,by first | exact t1 | exact t2 | exact t4 | simp[BX,Bl,cells],trivial⟩⟩,.inr ?_⟩;try conv=>cbv
   refine .inr ⟨[A],fun _=>⟨rfl,by rw[C],rfl,by show (T.length+1)*24<=140737488355328;(try simp only[List.length_take,List.length_drop]);omega⟩,?_⟩;intro (f:List (el (.sl AA))) N b;have o:f=(T:List (el (.sl AA)))++([A]:List (el (.sl AA))):=b.1;have y:N=List.length (α:=(el (.sl AA))) f:=b.2;conv=>cbv
   refine⟨fun _=>y,?_⟩;rintro Y ⟨G,f47⟩;conv=>cbv
   have a:f=tw (r::u):=by rw[o,d,NM,m,em,V]
   refine AB c (ck h' a (Ag.of (G.trans (congrArg _ I))) S) ?_;conv=>cbv
   exact AF ⟨⟨rfl,congrArg _ (by rw[H,a]),trivial⟩,t2,t2,trivial⟩
  have F:=F1 k;exact absurd F (by omega)
 have K:=BL j;exact absurd ((JN (x:=x)).1 (by omega)) (by grind)
end Go.Abs
