/- Part 19 of a proof. Conditions: each theorem's own. -/
import Derived.Test.YtmaoeopjnhfplaaGreatPk17
set_option linter.all false
set_option maxHeartbeats 8000000
set_option maxRecDepth 20000
open Go.Proofs
namespace Go.Abs
open Go.RowKit
variable {A B l:LR} {R k0 s:Nat} {T:List LR} {i n p q t w x:Re} {r:List Rat} {u:List (List Rat)}
theorem Zj {C:LR} {y:Re} (h:Bb R u) (f:T=tw u) (g:A=em u y) (m:El u s y) (ht:t=Re.ofRat (1/2)) (k:s+1+EE u.length R<=60000000000000) (j:C=em u (t*y)):CF 363 [.one (.sl (.sl AA) T),.one (.sl AA A)] (.one (.sl AA C)):=by
 refine Av Tryz.func363 fun E c=>?_
 conv=>cbv
 obtain⟨D,F,v,z,b⟩:=Ca (1/2:Rat);refine AB c (fh (by omega) (by omega) (by omega) (by decide +kernel) b) ?_;conv=>cbv
 obtain⟨o,a⟩:=xR (em u (t));refine AB (r:= .one (.sl AA o)) c (LV h f b ⟨by decide +kernel,by decide +kernel⟩ (a.trans (by rw[ht]))) ?_;conv=>cbv
 have d:El u 1 t:=ht ▸ El.rat h.red N3;refine AB (r:= .one (.sl AA C)) c (JG h f g a m d k (by rw[j];congr 1;grind)) ?_;try conv=>cbv
 exact AF ⟨t2,trivial⟩
theorem ru {q r:Rat} (F:T=[]) (v:A=[rp q]) (C:B=[rp r]) (I:Cp q) (y:0<=r) (H:r*r=q):CF 338 [.one (.sl (.sl AA) T),.one (.sl AA A)] (.AI [(false,[.sl AA B]),(false,[.bool true])]):=by
 refine Av Tryz.func338 fun E D=>?_
 conv=>cbv
 rintro J ⟨k,f27⟩;conv=>cbv
 intro m c;conv=>cbv
 cases m <;> conv=>cbv
 ·have d:=BR c;exact absurd (by rw[k,F];rfl) d
 have d:=BS c;have z:A.length=1:=by rw[v];rfl
 obtain⟨o,a⟩:=Ao (l:=A) (i:=0) (by omega);refine⟨o,fun _=>⟨by omega,a⟩,?_⟩;try conv=>cbv
 have G:=Gb v a;obtain⟨h,j,f,g,b⟩:=Ca r;refine AB D (gm G I y H b) ?_;conv=>cbv
 refine⟨[((h,j),(f,g))],fun _=>⟨rfl,by decide,rfl,⟨rfl,by first | exact t1 | exact t2 | exact t4 | simp[Bg,Bo,cells],trivial⟩⟩,.inl ?_⟩;try conv=>cbv
 exact AF ⟨⟨rfl,.inl ⟨_,rfl,by simp,congrArg _ (by rw[C,b.rp];rfl)⟩,trivial⟩,t2,trivial⟩
theorem rq {q:Rat} (o:T=[]) (h:A=[rp q]) (k:B=[(((false,[]),(false,[])):el AA)]) (z:Cp q) (y:¬∃r:Rat,0<=r/\r*r=q):CF 338 [.one (.sl (.sl AA) T),.one (.sl AA A)] (.AI [(false,[.sl AA B]),(false,[.bool false])]):=by
 refine Av Tryz.func338 fun E m=>?_
 conv=>cbv
 rintro C ⟨d,f27⟩;conv=>cbv
 intro f b;conv=>cbv
 cases f <;> conv=>cbv
 ·have c:=BR b;exact absurd (by rw[d,o];rfl) c
 have c:=BS b;have j:A.length=1:=by rw[h];rfl
 obtain⟨g,a⟩:=Ao (l:=A) (i:=0) (by omega);refine⟨g,fun _=>⟨by omega,a⟩,?_⟩;try conv=>cbv
 have v:=Gb h a;refine AB m (gk v z y) ?_;conv=>cbv
 refine⟨[((false,[]),(false,[]))],fun _=>⟨rfl,by decide,rfl,⟨rfl,by first | exact t1 | exact t2 | exact t4 | simp[Bg,Bo,cells],trivial⟩⟩,.inl ?_⟩;try conv=>cbv
 exact AF ⟨⟨rfl,.inl ⟨_,rfl,by simp,congrArg _ (by rw[k];rfl)⟩,trivial⟩,t2,trivial⟩
def JJ (f:FuncId) (u:List (List Rat)) (x w:Re):Prop:=∀{T:List LR} {A B:LR},T=tw u->A=em u x->B=em u w->CF f [.one (.sl (.sl AA) T),.one (.sl AA A)] (.AI [(false,[.sl AA B]),(false,[.bool true])])
def JI (f:FuncId) (u:List (List Rat)) (x:Re) (l:LR):Prop:=∀{T:List LR} {A:LR},T=tw u->A=em u x->CF f [.one (.sl (.sl AA) T),.one (.sl AA A)] (.AI [(false,[.sl AA l]),(false,[.bool false])])
def XA (f:FuncId) (R:Nat) (u:List (List Rat)):Prop:=∀{s:Nat} {x:Re},El u s x->QQ u.length R s<=60000000000000->(∃w,In u w/\w*w=x/\JJ f u x w)\/(¬Sq u x/\∃l,l.length<=2^u.length/\JI f u x l)
theorem r9 (h:Bb R (r::u)) (O:T=tw (r::u)) (N:A=em (r::u) x) (hx:El (r::u) s x) (D:x=p+q*rt u r) (hp:El u s p) (P:El u s q) (hs:QQ (r::u).length R s<=60000000000000) (h0:q=0) (hw:In u w) (hy:JJ 338 u p w) (hB:B=em (r::u) w):CF 338 [.one (.sl (.sl AA) T),.one (.sl AA A)] (.AI [(false,[.sl AA B]),(false,[.bool true])]):=by
 have au:T.length=u.length+1:=by rw[O,CI];rfl
 have ar:A.length=2^u.length+2^u.length:=by rw[N,B5 hx.mem,CW]
 have az:=El.EX h;have aA:=DO h.red;have a8:=Eo h.tail.ht;have aw:=ER u.length;have Q:El u 0 0:=El.rat h.red.1 Gz;have ax:QQ (r::u).length R s=max (QQ u.length R (3*s+3*EE u.length R+R+GG u.length R+3+II u.length R R)) (s+II u.length R (2*(3*s+3*EE u.length R+R+GG u.length R+3+II u.length R R+GG u.length R)+1)+EE u.length R):=rfl;have ay:=Jq u.length R (3*s+3*EE u.length R+R+GG u.length R+3+II u.length R R);have av:=GH u.length R (2*(3*s+3*EE u.length R+R+GG u.length R+3+II u.length R R+GG u.length R)+1);refine Av Tryz.func338 fun E m=>?_
 conv=>cbv
 rintro aE ⟨ag,f27⟩;conv=>cbv
 intro X k;conv=>cbv
 cases X <;> conv=>cbv
 ·have F:=BR k;rintro aF ⟨ah,f41⟩;conv=>cbv
  intro aG al;conv=>cbv
  refine Ah ?_;intro aB a6;conv=>cbv
  refine AY ?_;intro L Z;conv=>cbv
  intro U v;conv=>cbv
  rintro aH ⟨ai,f46⟩;conv=>cbv
  intro G an;conv=>cbv
  refine Ah ?_;obtain⟨J,d⟩:=Ao (l:=T) (i:=(G).toNat) (by omega);refine⟨J,fun _=>⟨by omega,d⟩,?_⟩;try conv=>cbv
  refine g2 rfl ?_;rintro aI ⟨aj,f52⟩;conv=>cbv
  intro E6 ao;conv=>cbv
  refine g2 ⟨by omega,by omega,i64 (by omega)⟩ ?_;intro aC a7;conv=>cbv
  refine AY ?_;intro M a1;conv=>cbv
  intro V y;conv=>cbv
  rintro aJ ⟨ak,f57⟩;conv=>cbv
  intro aK aq;conv=>cbv
  refine g2 ⟨by omega,by omega,i64 (by omega)⟩ ?_;intro aD C;conv=>cbv
  refine AY ?_;rintro K af ⟨Y,o⟩;conv=>cbv
  intro W z;conv=>cbv
  refine g2 rfl ?_;have a:U=tw u:=by rw[v,List.drop_zero,show L=T.length-1 by omega,O,FF]
  have S:J=Be r:=by have:=HD r u;rw[<-O,show T.length-1=G.toNat by omega,d] at this;exact Option.some.inj this
  have g:V=em u p:=by rw[y,List.drop_zero,show M=A.length/2 by omega,N,Dk h.red hp.mem P.mem D]
  have j:W=em u q:=by rw[z,show K=A.length/2 by omega,o,C,List.take_length,N,Cz h.red hp.mem P.mem D]
  refine AB m (Le h.red.1 P.mem j h0) ?_;conv=>cbv
  obtain⟨H,b⟩:=xR (em u w);refine AB m (hy a g b) ?_;conv=>cbv
  obtain⟨ad,ae,aa,ab,f⟩:=Ca (((0:Int):Rat));refine AB m (JH (by omega) rfl f) ?_;conv=>cbv
  obtain⟨I,c⟩:=xR (em u (0));refine AB m (LV h.tail a f ⟨by decide +kernel,by decide +kernel⟩ c) ?_;conv=>cbv
  refine⟨[H,I],fun _=>⟨rfl,by decide,rfl,⟨rfl,by first | exact t1 | exact t2 | exact t4 | simp[Bg,Bo,cells],⟨rfl,by first | exact t1 | exact t2 | exact t4 | simp[Bg,Bo,cells],trivial⟩⟩⟩,.inr ?_⟩;try conv=>cbv
  have a2:H.length=2^u.length:=by rw[b,B5 hw]
  have a5:I.length=2^u.length:=by rw[c,B5 Q.mem]
  refine AB (r:= .one (.sl AA B)) m (QS (by omega) (by omega) (by rw[hB,b,c];exact Gk h.red hw (CZ u) (by grind))) ?_;try conv=>cbv
  exact AF ⟨t2,t2,trivial⟩
 have F:=BS k;exact absurd F (by omega)
theorem sA (h:Bb R (r::u)) (V:T=tw (r::u)) (U:A=em (r::u) x) (hx:El (r::u) s x) (J:x=p+q*rt u r) (X:El u s p) (Y:El u s q) (hs:QQ (r::u).length R s<=60000000000000) (h0:q=0) (hi:In u i) (H:Al u r*i=1) (hn:JI 338 u p l) (hw:In u w) (hy:JJ 338 u (p*i) w) (hB:B=em (r::u) (w*rt u r)):CF 338 [.one (.sl (.sl AA) T),.one (.sl AA A)] (.AI [(false,[.sl AA B]),(false,[.bool true])]):=by
 have aA:T.length=u.length+1:=by rw[V,CI];rfl
 have az:A.length=2^u.length+2^u.length:=by rw[U,B5 hx.mem,CW]
 have I:=El.EX h;have aF:=DO h.red;have ag:=Eo h.tail.ht;have aC:=ER u.length;have Z:El u 0 0:=El.rat h.red.1 Gz;have aD:QQ (r::u).length R s=max (QQ u.length R (3*s+3*EE u.length R+R+GG u.length R+3+II u.length R R)) (s+II u.length R (2*(3*s+3*EE u.length R+R+GG u.length R+3+II u.length R R+GG u.length R)+1)+EE u.length R):=rfl;have aE:=Jq u.length R (3*s+3*EE u.length R+R+GG u.length R+3+II u.length R R);have aB:=GH u.length R (2*(3*s+3*EE u.length R+R+GG u.length R+3+II u.length R R+GG u.length R)+1);refine Av Tryz.func338 fun E f=>?_
 conv=>cbv
 rintro aJ ⟨an,f27⟩;conv=>cbv
 intro a6 y;conv=>cbv
 cases a6 <;> conv=>cbv
 ·have K:=BR y;rintro aK ⟨ao,f41⟩;conv=>cbv
  intro aL av;conv=>cbv
  refine Ah ?_;intro aG ae;conv=>cbv
  refine AY ?_;intro Q a8;conv=>cbv
  intro a1 C;conv=>cbv
  rintro aM ⟨aq,f46⟩;conv=>cbv
  intro L aw;conv=>cbv
  refine Ah ?_;obtain⟨O,k⟩:=Ao (l:=T) (i:=(L).toNat) (by omega);refine⟨O,fun _=>⟨by omega,k⟩,?_⟩;try conv=>cbv
  refine g2 rfl ?_;rintro aN ⟨ar,f52⟩;conv=>cbv
  intro E6 ax;conv=>cbv
  refine g2 ⟨by omega,by omega,i64 (by omega)⟩ ?_;intro aH af;conv=>cbv
  refine AY ?_;intro S aa;conv=>cbv
  intro a2 D;conv=>cbv
  rintro aO ⟨au,f57⟩;conv=>cbv
  intro aP ay;conv=>cbv
  refine g2 ⟨by omega,by omega,i64 (by omega)⟩ ?_;intro aI G;conv=>cbv
  refine AY ?_;rintro P al ⟨a7,z⟩;conv=>cbv
  intro a5 F;conv=>cbv
  refine g2 rfl ?_;have a:a1=tw u:=by rw[C,List.drop_zero,show Q=T.length-1 by omega,V,FF]
  have v:O=Be r:=by have:=HD r u;rw[<-V,show T.length-1=L.toNat by omega,k] at this;exact Option.some.inj this
  have b:a2=em u p:=by rw[D,List.drop_zero,show S=A.length/2 by omega,U,Dk h.red X.mem Y.mem J]
  have o:a5=em u q:=by rw[F,show P=A.length/2 by omega,z,G,List.take_length,U,Cz h.red X.mem Y.mem J]
  refine AB f (Le h.red.1 Y.mem o h0) ?_;conv=>cbv
  refine AB f (hn a b) ?_;conv=>cbv
  obtain⟨aQ,g⟩:=xR (em u i);have W:=I.inv h.tail hi H;refine AB f (Pk h.tail a (v.trans (Ff h.red)) I hi H (by omega) g) ?_;conv=>cbv
  refine AR ?_;conv=>cbv
  obtain⟨aR,j⟩:=xR (em u (p*i));refine AB f (JG h.tail a b g X W (by omega) j) ?_;conv=>cbv
  obtain⟨M,c⟩:=xR (em u w);refine AB f (hy a j c) ?_;conv=>cbv
  obtain⟨aj,ak,ah,ai,m⟩:=Ca (((0:Int):Rat));refine AB f (JH (by omega) rfl m) ?_;conv=>cbv
  obtain⟨N,d⟩:=xR (em u (0));refine AB f (LV h.tail a m ⟨by decide +kernel,by decide +kernel⟩ d) ?_;conv=>cbv
  refine⟨[N,M],fun _=>⟨rfl,by decide,rfl,⟨rfl,by first | exact t1 | exact t2 | exact t4 | simp[Bg,Bo,cells],⟨rfl,by first | exact t1 | exact t2 | exact t4 | simp[Bg,Bo,cells],trivial⟩⟩⟩,.inr ?_⟩;try conv=>cbv
  have ab:M.length=2^u.length:=by rw[c,B5 hw]
  have ad:N.length=2^u.length:=by rw[d,B5 Z.mem]
  refine AB (r:= .one (.sl AA B)) f (QS (by omega) (by omega) (by rw[hB,c,d];exact Gk h.red (CZ u) hw (by grind))) ?_;try conv=>cbv
  exact AF ⟨t2,t2,trivial⟩
 have K:=BS y;exact absurd K (by omega)
theorem sB (h:Bb R (r::u)) (S:T=tw (r::u)) (Q:A=em (r::u) x) (hx:El (r::u) s x) (I:x=p+q*rt u r) (V:El u s p) (W:El u s q) (hs:QQ (r::u).length R s<=60000000000000) {l2:LR} (h0:q=0) (hi:In u i) (G:Al u r*i=1) (hn:JI 338 u p l) (hy:JI 338 u (p*i) l2) (az:l2.length<=2^u.length) (hB:B=em u 0++l2):CF 338 [.one (.sl (.sl AA) T),.one (.sl AA A)] (.AI [(false,[.sl AA B]),(false,[.bool false])]):=by
 have ax:T.length=u.length+1:=by rw[S,CI];rfl
 have aw:A.length=2^u.length+2^u.length:=by rw[Q,B5 hx.mem,CW]
 have H:=El.EX h;have aD:=DO h.red;have ad:=Eo h.tail.ht;have aA:=ER u.length;have X:El u 0 0:=El.rat h.red.1 Gz;have aB:QQ (r::u).length R s=max (QQ u.length R (3*s+3*EE u.length R+R+GG u.length R+3+II u.length R R)) (s+II u.length R (2*(3*s+3*EE u.length R+R+GG u.length R+3+II u.length R R+GG u.length R)+1)+EE u.length R):=rfl;have aC:=Jq u.length R (3*s+3*EE u.length R+R+GG u.length R+3+II u.length R R);have ay:=GH u.length R (2*(3*s+3*EE u.length R+R+GG u.length R+3+II u.length R R+GG u.length R)+1);refine Av Tryz.func338 fun E d=>?_
 conv=>cbv
 rintro aH ⟨aj,f27⟩;conv=>cbv
 intro a2 v;conv=>cbv
 cases a2 <;> conv=>cbv
 ·have J:=BR v;rintro aI ⟨ak,f41⟩;conv=>cbv
  intro aJ aq;conv=>cbv
  refine Ah ?_;intro aE aa;conv=>cbv
  refine AY ?_;intro O a6;conv=>cbv
  intro Y z;conv=>cbv
  rintro aK ⟨al,f46⟩;conv=>cbv
  intro K ar;conv=>cbv
  refine Ah ?_;obtain⟨M,j⟩:=Ao (l:=T) (i:=(K).toNat) (by omega);refine⟨M,fun _=>⟨by omega,j⟩,?_⟩;try conv=>cbv
  refine g2 rfl ?_;rintro aL ⟨an,f52⟩;conv=>cbv
  intro E6 au;conv=>cbv
  refine g2 ⟨by omega,by omega,i64 (by omega)⟩ ?_;intro aF ab;conv=>cbv
  refine AY ?_;intro P a7;conv=>cbv
  intro Z C;conv=>cbv
  rintro aM ⟨ao,f57⟩;conv=>cbv
  intro aN av;conv=>cbv
  refine g2 ⟨by omega,by omega,i64 (by omega)⟩ ?_;intro aG F;conv=>cbv
  refine AY ?_;rintro N ai ⟨a5,y⟩;conv=>cbv
  intro a1 D;conv=>cbv
  refine g2 rfl ?_;have a:Y=tw u:=by rw[z,List.drop_zero,show O=T.length-1 by omega,S,FF]
  have o:M=Be r:=by have:=HD r u;rw[<-S,show T.length-1=K.toNat by omega,j] at this;exact Option.some.inj this
  have b:Z=em u p:=by rw[C,List.drop_zero,show P=A.length/2 by omega,Q,Dk h.red V.mem W.mem I]
  have m:a1=em u q:=by rw[D,show N=A.length/2 by omega,y,F,List.take_length,Q,Cz h.red V.mem W.mem I]
  refine AB d (Le h.red.1 W.mem m h0) ?_;conv=>cbv
  refine AB d (hn a b) ?_;conv=>cbv
  obtain⟨aO,f⟩:=xR (em u i);have U:=H.inv h.tail hi G;refine AB d (Pk h.tail a (o.trans (Ff h.red)) H hi G (by omega) f) ?_;conv=>cbv
  refine AR ?_;conv=>cbv
  obtain⟨aP,g⟩:=xR (em u (p*i));refine AB d (JG h.tail a b f V U (by omega) g) ?_;conv=>cbv
  refine AB d (hy a g) ?_;conv=>cbv
  obtain⟨ag,ah,ae,af,k⟩:=Ca (((0:Int):Rat));refine AB d (JH (by omega) rfl k) ?_;conv=>cbv
  obtain⟨L,c⟩:=xR (em u (0));refine AB d (LV h.tail a k ⟨by decide +kernel,by decide +kernel⟩ c) ?_;conv=>cbv
  refine⟨[L,l2],fun _=>⟨rfl,by decide,rfl,⟨rfl,by first | exact t1 | exact t2 | exact t4 | simp[Bg,Bo,cells],⟨rfl,by first | exact t1 | exact t2 | exact t4 | simp[Bg,Bo,cells],trivial⟩⟩⟩,.inr ?_⟩;try conv=>cbv
  have a8:L.length=2^u.length:=by rw[c,B5 X.mem]
  refine AB (r:= .one (.sl AA B)) d (QS (by omega) (by omega) (by rw[hB,c])) ?_;conv=>cbv
  exact AF ⟨t2,t2,trivial⟩
 have J:=BS v;exact absurd J (by omega)
theorem ry (h:Bb R (r::u)) (F:T=tw (r::u)) (D:A=em (r::u) x) (hx:El (r::u) s x) (f:x=p+q*rt u r) (M:El u s p) (G:El u s q) (hs:QQ (r::u).length R s<=60000000000000) (h0:q≠0) (hn:JI 338 u (p*p-q*q*Al u r) l) (hB:B=[]):CF 338 [.one (.sl (.sl AA) T),.one (.sl AA A)] (.AI [(false,[.sl AA B]),(false,[.bool false])]):=by
 have ah:T.length=u.length+1:=by rw[F,CI];rfl
 have ag:A.length=2^u.length+2^u.length:=by rw[D,B5 hx.mem,CW]
 have an:=El.EX h;have ao:=DO h.red;have Z:=Eo h.tail.ht;have aj:=ER u.length;have aq:El u 0 0:=El.rat h.red.1 Gz;have ak:QQ (r::u).length R s=max (QQ u.length R (3*s+3*EE u.length R+R+GG u.length R+3+II u.length R R)) (s+II u.length R (2*(3*s+3*EE u.length R+R+GG u.length R+3+II u.length R R+GG u.length R)+1)+EE u.length R):=rfl;have al:=Jq u.length R (3*s+3*EE u.length R+R+GG u.length R+3+II u.length R R);have ai:=GH u.length R (2*(3*s+3*EE u.length R+R+GG u.length R+3+II u.length R R+GG u.length R)+1);refine Av Tryz.func338 fun E K=>?_
 conv=>cbv
 rintro aw ⟨a5,f27⟩;conv=>cbv
 intro S g;conv=>cbv
 cases S <;> conv=>cbv
 ·have y:=BR g;rintro ax ⟨a6,f41⟩;conv=>cbv
  intro ay ab;conv=>cbv
  refine Ah ?_;intro ar X;conv=>cbv
  refine AY ?_;intro I V;conv=>cbv
  intro O k;conv=>cbv
  rintro az ⟨a7,f46⟩;conv=>cbv
  intro z ad;conv=>cbv
  refine Ah ?_;obtain⟨C,b⟩:=Ao (l:=T) (i:=(z).toNat) (by omega);refine⟨C,fun _=>⟨by omega,b⟩,?_⟩;try conv=>cbv
  refine g2 rfl ?_;rintro aA ⟨a8,f52⟩;conv=>cbv
  intro E6 ae;conv=>cbv
  refine g2 ⟨by omega,by omega,i64 (by omega)⟩ ?_;intro au Y;conv=>cbv
  refine AY ?_;intro J W;conv=>cbv
  intro P m;conv=>cbv
  rintro aB ⟨aa,f57⟩;conv=>cbv
  intro aC af;conv=>cbv
  refine g2 ⟨by omega,by omega,i64 (by omega)⟩ ?_;intro av v;conv=>cbv
  refine AY ?_;rintro H a2 ⟨U,j⟩;conv=>cbv
  intro Q o;conv=>cbv
  refine g2 rfl ?_;have c:O=tw u:=by rw[k,List.drop_zero,show I=T.length-1 by omega,F,FF]
  have N:C=Be r:=by have:=HD r u;rw[<-F,show T.length-1=z.toNat by omega,b] at this;exact Option.some.inj this
  have L:P=em u p:=by rw[m,List.drop_zero,show J=A.length/2 by omega,D,Dk h.red M.mem G.mem f]
  have d:Q=em u q:=by rw[o,show H=A.length/2 by omega,j,v,List.take_length,D,Cz h.red M.mem G.mem f]
  refine AB K (Jz h.red.1 G.mem d h0) ?_;conv=>cbv
  obtain⟨a1,a⟩:=xR (em u (p*p-q*q*Al u r));refine AB K (Sc h F D hx f M.mem G.mem (by omega) a) ?_;conv=>cbv
  refine AB K (hn c a) ?_;conv=>cbv
  refine BM ?_;conv=>cbv
  exact AF ⟨⟨rfl,.inr (.inl ⟨_,congrArg _ (hB)⟩),trivial⟩,t2,trivial⟩
 have y:=BS g;exact absurd y (by omega)
theorem eu {a b:Re} {y:Nat->Re} {x:LR} {i:Nat} (h:[A,B][i]? =some x) (f:A=em u a) (g:B=em u b) (c:y 0=a) (d:y 1=b):x=em u (y i):=by
 match i,h with
 | 0,h=>rw[c,<-f];exact (Option.some.inj h).symm
 | 1,h=>rw[d,<-g];exact (Option.some.inj h).symm
 | i+2,h=>simp at h
theorem r6 {f:FuncId} {y:Nat->Re} {L:Nat->LR} {i:Nat} {b:Bool} (k:i<=k0) (a:∀i,i<k0->JI f u (t*y i) (L i)) (c:JJ f u (t*y k0) w) (hb:b=decide (i=k0)) (g:B=if i=k0 then em u w else L i) (j:T=tw u) (d:A=em u (t*y i)):
  CF f [.one (.sl (.sl AA) T),.one (.sl AA A)] (.AI [(false,[.sl AA B]),(false,[.bool b])]):=by
 by_cases h:i=k0
 ·subst h;rw[hb,decide_eq_true rfl];exact c j d (by rw[g,if_pos rfl])
 rw[hb,decide_eq_false h,g,if_neg h];exact a i (by omega) j d
theorem El.half {y:Re} (h:El u s y) (hu:Bb R u) (ht:t=Re.ofRat (1/2)):El u (s+1+EE u.length R) (t*y):=by
 have a:El u 1 t:=ht ▸ El.rat hu.red N3;have:=a.mul hu h;rwa [show 1+s+EE u.length R=s+1+EE u.length R by omega] at this
theorem r3 (h:Bb R (r::u)) (hT:T=tw (r::u)) (hA:A=em (r::u) x) (hx:El (r::u) s x) (F:x=p+q*rt u r) (N:El u s p) (X:El u s q) (hs:QQ (r::u).length R s<=60000000000000) (h0:q≠0) (hn:In u n) (ah:n*n=p*p-q*q*Al u r) (ht:t=Re.ofRat (1/2)) (ao:JJ 338 u (p*p-q*q*Al u r) n) {y:Nat->Re} (ak:y 0=p+n) (al:y 1=p-n) (an:∀i,El u (s+(2*s+2*EE u.length R+R+1+GG u.length R)+1) (y i)) {L:Nat->LR} (ag:k0<=2) (ai:∀i,i<k0->JI 338 u (t*y i) (L i)) (aU:k0=2) (hB:B=[]):CF 338 [.one (.sl (.sl AA) T),.one (.sl AA A)] (.AI [(false,[.sl AA B]),(false,[.bool false])]):=by
 have aR:T.length=u.length+1:=by rw[hT,CI];rfl
 have aQ:A.length=2^u.length+2^u.length:=by rw[hA,B5 hx.mem,CW]
 have aY:=El.EX h;have aZ:=DO h.red;have aB:=Eo h.tail.ht;have aV:=ER u.length;have b0:El u 0 0:=El.rat h.red.1 Gz;have aW:QQ (r::u).length R s=max (QQ u.length R (3*s+3*EE u.length R+R+GG u.length R+3+II u.length R R)) (s+II u.length R (2*(3*s+3*EE u.length R+R+GG u.length R+3+II u.length R R+GG u.length R)+1)+EE u.length R):=rfl;have aX:=Jq u.length R (3*s+3*EE u.length R+R+GG u.length R+3+II u.length R R);have aS:=GH u.length R (2*(3*s+3*EE u.length R+R+GG u.length R+3+II u.length R R+GG u.length R)+1);have hN:=El.norm h N.mem X.mem (F ▸ hx);refine Av Tryz.func338 fun E J=>?_
 conv=>cbv
 rintro b5 ⟨aG,f27⟩;conv=>cbv
 intro ar O;conv=>cbv
 cases ar <;> conv=>cbv
 ·have Z:=BR O;rintro b6 ⟨aH,f41⟩;conv=>cbv
  intro b7 aM;conv=>cbv
  refine Ah ?_;intro b2 az;conv=>cbv
  refine AY ?_;intro ad ax;conv=>cbv
  intro a1 Q;conv=>cbv
  rintro b8 ⟨aI,f46⟩;conv=>cbv
  intro a8 aN;conv=>cbv
  refine Ah ?_;obtain⟨aa,H⟩:=Ao (l:=T) (i:=(a8).toNat) (by omega);refine⟨aa,fun _=>⟨by omega,H⟩,?_⟩;try conv=>cbv
  refine g2 rfl ?_;rintro b9 ⟨aJ,f52⟩;conv=>cbv
  intro E6 aO;conv=>cbv
  refine g2 ⟨by omega,by omega,i64 (by omega)⟩ ?_;intro b3 aA;conv=>cbv
  refine AY ?_;intro ae ay;conv=>cbv
  intro aq S;conv=>cbv
  rintro ba ⟨aK,f57⟩;conv=>cbv
  intro bb aP;conv=>cbv
  refine g2 ⟨by omega,by omega,i64 (by omega)⟩ ?_;intro b4 V;conv=>cbv
  refine AY ?_;rintro ab aF ⟨aw,P⟩;conv=>cbv
  intro a2 U;conv=>cbv
  refine g2 rfl ?_;have a:a1=tw u:=by rw[Q,List.drop_zero,show ad=T.length-1 by omega,hT,FF]
  have aj:aa=Be r:=by have:=HD r u;rw[<-hT,show T.length-1=a8.toNat by omega,H] at this;exact Option.some.inj this
  have d:aq=em u p:=by rw[S,List.drop_zero,show ae=A.length/2 by omega,hA,Dk h.red N.mem X.mem F]
  have M:a2=em u q:=by rw[U,show ab=A.length/2 by omega,P,V,List.take_length,hA,Cz h.red N.mem X.mem F]
  refine AB J (Jz h.red.1 X.mem M h0) ?_;conv=>cbv
  obtain⟨aC,f⟩:=xR (em u (p*p-q*q*Al u r));refine AB J (Sc h hT hA hx F N.mem X.mem (by omega) f) ?_;conv=>cbv
  obtain⟨aD,b⟩:=xR (em u n);have W:=hN.sqrt h.tail hn ah;refine AB J (ao a f b) ?_;conv=>cbv
  refine AR ?_;conv=>cbv
  obtain⟨z,g⟩:=xR (em u (p+n));refine AB J (L8 h.tail a d b N W (by omega) (by omega) g) ?_;conv=>cbv
  obtain⟨C,j⟩:=xR (em u (p-n));refine AB J (Pq h.tail a d b N W (by omega) (by omega) j) ?_;conv=>cbv
  refine⟨[z,C],fun _=>⟨rfl,by decide,rfl,⟨rfl,by first | exact t1 | exact t2 | exact t4 | simp[Bg,Bo,cells],⟨rfl,by first | exact t1 | exact t2 | exact t4 | simp[Bg,Bo,cells],trivial⟩⟩⟩,.inr ?_⟩;try conv=>cbv
  intro a5 c;have au:=c.eq;have f118:=c.le;conv=>cbv
  refine .inr ?_;obtain⟨J0,K⟩:=xJ fun vs bl k=>∃(i':Nat) (m i:Int),vs=[.one (.sl (.sl AA) a1),.one (.sl AA a2),.one (.sl (.sl AA) [z,C]),.one (.int .i64 m),.one (.int .i64 i)]/\(BG m 2/\BG i i'/\i'<=k0)/\k=2-i'
  refine⟨[8,11,117,118,119],[],J0,⟨2-0,by rw[K];exact⟨0,a5,0,rfl,⟨⟨c.eq⟩,Bv 0,by omega⟩,rfl⟩⟩,?_⟩;intro vs bl b1 hj;rw[K] at hj;obtain⟨i',m,i,rfl,⟨hM,af,aT⟩,ag⟩:=hj;conv=>cbv
  have eM:=hM.eq;have aL:=af.eq;intro a6 G;conv=>cbv
  cases a6 <;> conv=>cbv
  ·have Y:=BX G;exact AF ⟨⟨rfl,.inr (.inl ⟨_,congrArg _ (hB)⟩),trivial⟩,t2,trivial⟩
  have Y:=BY G;refine .inr ?_;obtain⟨I,v⟩:=Ao (l:=[z,C]) (i:=i') (by show _<2;omega);refine⟨I,fun _=>⟨by omega,by rw[show (i).toNat=i' by omega];exact v⟩,?_⟩;try conv=>cbv
  have D:I=em u (y i'):=eu v g j ak al;obtain⟨aE,o⟩:=xR (em u (t*y i'));refine AB J (Zj h.tail a D (an i') ht (by omega) o) ?_;conv=>cbv
  refine AB J (ai i' (by omega) a o) ?_;conv=>cbv
  refine BM ?_;conv=>cbv
  intro a7 av;conv=>cbv
  refine Ah ?_;refine⟨2-(i'+1),?_,?_⟩
  ·omega
  rw[K];exact⟨i'+1,m,a7,rfl,⟨hM,⟨by omega⟩,by omega⟩,rfl⟩
 have Z:=BS O;exact absurd Z (by omega)
theorem rz (h:Bb R (r::u)) (hT:T=tw (r::u)) (hA:A=em (r::u) x) (hx:El (r::u) s x) (U:x=p+q*rt u r) (hp:El u s p) (X:El u s q) (hs:QQ (r::u).length R s<=60000000000000) (h0:q≠0) (hn:In u n) (aE:n*n=p*p-q*q*Al u r) (ht:t=Re.ofRat (1/2)) (aL:JJ 338 u (p*p-q*q*Al u r) n) {y:Nat->Re} (aJ:y 0=p+n) (aK:y 1=p-n) (ag:∀i,El u (s+(2*s+2*EE u.length R+R+1+GG u.length R)+1) (y i)) {L:Nat->LR} (aB:k0<=2) (aF:∀i,i<k0->JI 338 u (t*y i) (L i)) (bj:k0<2) {j:Re} (hw:In u w) (aH:w*w=t*y k0) (aG:w≠0) (aM:JJ 338 u (t*y k0) w) (hj:In u j) (af:(w+w)*j=1) (hB:B=em (r::u) (w+q*j*rt u r)):CF 338 [.one (.sl (.sl AA) T),.one (.sl AA A)] (.AI [(false,[.sl AA B]),(false,[.bool true])]):=by
 have bg:T.length=u.length+1:=by rw[hT,CI];rfl
 have bf:A.length=2^u.length+2^u.length:=by rw[hA,B5 hx.mem,CW]
 have bq:=El.EX h;have br:=DO h.red;have aX:=Eo h.tail.ht;have bn:=ER u.length;have bs:El u 0 0:=El.rat h.red.1 Gz;have bo:QQ (r::u).length R s=max (QQ u.length R (3*s+3*EE u.length R+R+GG u.length R+3+II u.length R R)) (s+II u.length R (2*(3*s+3*EE u.length R+R+GG u.length R+3+II u.length R R+GG u.length R)+1)+EE u.length R):=rfl;have bp:=Jq u.length R (3*s+3*EE u.length R+R+GG u.length R+3+II u.length R R);have bh:=GH u.length R (2*(3*s+3*EE u.length R+R+GG u.length R+3+II u.length R R+GG u.length R)+1);have hN:=El.norm h hp.mem X.mem (U ▸ hx);refine Av Tryz.func338 fun E o=>?_
 conv=>cbv
 rintro bz ⟨b4,f27⟩;conv=>cbv
 intro aO a6;conv=>cbv
 cases aO <;> conv=>cbv
 ·have ah:=BR a6;rintro bA ⟨b5,f41⟩;conv=>cbv
  intro bB ba;conv=>cbv
  refine Ah ?_;intro bu aV;conv=>cbv
  refine AY ?_;intro av aT;conv=>cbv
  intro ai a8;conv=>cbv
  rintro bC ⟨b6,f46⟩;conv=>cbv
  intro aq bb;conv=>cbv
  refine Ah ?_;obtain⟨ar,Y⟩:=Ao (l:=T) (i:=(aq).toNat) (by omega);refine⟨ar,fun _=>⟨by omega,Y⟩,?_⟩;try conv=>cbv
  refine g2 rfl ?_;rintro bD ⟨b7,f52⟩;conv=>cbv
  intro E6 bc;conv=>cbv
  refine g2 ⟨by omega,by omega,i64 (by omega)⟩ ?_;intro bw aW;conv=>cbv
  refine AY ?_;intro aw aU;conv=>cbv
  intro aN aa;conv=>cbv
  rintro bE ⟨b8,f57⟩;conv=>cbv
  intro bF bd;conv=>cbv
  refine g2 ⟨by omega,by omega,i64 (by omega)⟩ ?_;intro bx ad;conv=>cbv
  refine AY ?_;rintro au b3 ⟨aS,a7⟩;conv=>cbv
  intro aj ab;conv=>cbv
  refine g2 rfl ?_;have a:ai=tw u:=by rw[a8,List.drop_zero,show av=T.length-1 by omega,hT,FF]
  have aI:ar=Be r:=by have:=HD r u;rw[<-hT,show T.length-1=aq.toNat by omega,Y] at this;exact Option.some.inj this
  have z:aN=em u p:=by rw[aa,List.drop_zero,show aw=A.length/2 by omega,hA,Dk h.red hp.mem X.mem U]
  have C:aj=em u q:=by rw[ab,show au=A.length/2 by omega,a7,ad,List.take_length,hA,Cz h.red hp.mem X.mem U]
  refine AB o (Jz h.red.1 X.mem C h0) ?_;conv=>cbv
  obtain⟨aY,D⟩:=xR (em u (p*p-q*q*Al u r));refine AB o (Sc h hT hA hx U hp.mem X.mem (by omega) D) ?_;conv=>cbv
  obtain⟨aZ,d⟩:=xR (em u n);have ae:=hN.sqrt h.tail hn aE;refine AB o (aL a D d) ?_;conv=>cbv
  refine AR ?_;conv=>cbv
  obtain⟨O,F⟩:=xR (em u (p+n));refine AB o (L8 h.tail a z d hp ae (by omega) (by omega) F) ?_;conv=>cbv
  obtain⟨P,G⟩:=xR (em u (p-n));refine AB o (Pq h.tail a z d hp ae (by omega) (by omega) G) ?_;conv=>cbv
  refine⟨[O,P],fun _=>⟨rfl,by decide,rfl,⟨rfl,by first | exact t1 | exact t2 | exact t4 | simp[Bg,Bo,cells],⟨rfl,by first | exact t1 | exact t2 | exact t4 | simp[Bg,Bo,cells],trivial⟩⟩⟩,.inr ?_⟩;try conv=>cbv
  intro ak v;have aQ:=v.eq;have f118:=v.le;conv=>cbv
  refine .inr ?_;obtain⟨J0,a5⟩:=xJ fun vs bl k=>∃(i':Nat) (m i:Int),vs=[.one (.sl (.sl AA) ai),.one (.sl AA aj),.one (.sl (.sl AA) [O,P]),.one (.int .i64 m),.one (.int .i64 i)]/\(BG m 2/\BG i i'/\i'<=k0)/\k=2-i'
  refine⟨[8,11,117,118,119],[],J0,⟨2-0,by rw[a5];exact⟨0,ak,0,rfl,⟨⟨v.eq⟩,Bv 0,by omega⟩,rfl⟩⟩,?_⟩;intro vs bl bt hj;rw[a5] at hj;obtain⟨i',m,i,rfl,⟨hM,ax,ay⟩,aB⟩:=hj;conv=>cbv
  have eM:=hM.eq;have b9:=ax.eq;intro al V;conv=>cbv
  cases al <;> conv=>cbv
  ·have Z:=BX V;exact absurd Z (by omega)
  have Z:=BY V;refine .inr ?_;obtain⟨a2,M⟩:=Ao (l:=[O,P]) (i:=i') (by show _<2;omega);refine⟨a2,fun _=>⟨by omega,by rw[show (i).toNat=i' by omega];exact M⟩,?_⟩;try conv=>cbv
  have S:a2=em u (y i'):=eu M F G aJ aK;obtain⟨b0,H⟩:=xR (em u (t*y i'));refine AB o (Zj h.tail a S (ag i') ht (by omega) H) ?_;conv=>cbv
  obtain⟨aP,c⟩:=xB (decide (i'=k0));obtain⟨Q,I⟩:=xR (if i'=k0 then em u w else L i');refine AB o (r6 ay aF aM c I a H) ?_;conv=>cbv
  intro an W;conv=>cbv
  cases an <;> conv=>cbv
  ·have N:=Fo W;have az:i'=k0:=of_decide_eq_true (c.symm.trans N);have b:Q=em u w:=by rw[I,if_pos az]
   have g:El u (s+(2*s+2*EE u.length R+R+1+GG u.length R)+1+1+EE u.length R+GG u.length R) w:=(((ag k0).half h.tail ht).sqrt h.tail hw aH);have aA:=(g.add h.red.1 g).inv h.tail hj af;have bk:=LX u.length R (s:=s+(2*s+2*EE u.length R+R+1+GG u.length R)+1+1+EE u.length R+GG u.length R+(s+(2*s+2*EE u.length R+R+1+GG u.length R)+1+1+EE u.length R+GG u.length R)+1) (t:=2*(3*s+3*EE u.length R+R+GG u.length R+3+II u.length R R+GG u.length R)+1) (by omega);refine AB o (Jz h.red.1 hw b aG) ?_;conv=>cbv
   obtain⟨b1,J⟩:=xR (em u (w+w));refine AB o (L8 h.tail a b b g g (by omega) (by omega) J) ?_;conv=>cbv
   obtain⟨b2,K⟩:=xR (em u j);refine AB o (Pk h.tail a J (g.add h.red.1 g) hj af (by omega) K) ?_;conv=>cbv
   obtain⟨a1,f⟩:=xR (em u (q*j));refine AB o (JG h.tail a C K X aA (by omega) f) ?_;conv=>cbv
   refine⟨[Q,a1],fun _=>⟨rfl,by decide,rfl,⟨rfl,by first | exact t1 | exact t2 | exact t4 | simp[Bg,Bo,cells],⟨rfl,by first | exact t1 | exact t2 | exact t4 | simp[Bg,Bo,cells],trivial⟩⟩⟩,.inr ?_⟩;try conv=>cbv
   have aC:Q.length=2^u.length:=by rw[b,B5 hw]
   have aD:a1.length=2^u.length:=by rw[f,B5 (BN h.red.1 X.mem hj)]
   refine AB (r:= .one (.sl AA B)) o (QS (by omega) (by omega) (by rw[hB,b,f];exact Gk h.red hw (BN h.red.1 X.mem hj) rfl)) ?_;try conv=>cbv
   exact AF ⟨t2,t2,trivial⟩
  have N:=Fp W;intro ao aR;conv=>cbv
  refine Ah ?_;have bm:i'≠k0:=of_decide_eq_false (c.symm.trans N);refine⟨2-(i'+1),?_,?_⟩
  ·omega
  rw[a5];exact⟨i'+1,m,ao,rfl,⟨hM,⟨by omega⟩,by omega⟩,rfl⟩
 have ah:=BS a6;exact absurd ah (by omega)
end Go.Abs
namespace Go.Abs
open Go.RowKit
theorem Zi {t:Re} (ht:t=Re.ofRat (1/2)):2*t=1:=by
 have e2:(2:Re)=Re.ofRat 2:=rfl;rw[ht,e2,<-Re.ofRat_mul,show (2:Rat)*(1/2)=1 by decide +kernel];rfl
theorem WK {u:List (List Rat)} {R:Nat} (h:Bb R u):XA 338 R u:=by
 induction u with
 | nil=>
  intro s x z H;obtain⟨q,rfl⟩:=Dl.1 z.mem
  have a5:Cp q:=by
   have:=z.Cg (by have:=Jq ([]:List (List Rat)).length R s;omega);rw[Ew] at this;exact this q List.mem_cons_self
  by_cases U:∃r:Rat,0<=r/\r*r=q
  ·obtain⟨r,D,U⟩:=U;refine .inl ⟨Re.ofRat r,He r _,by rw[<-Re.ofRat_mul,U],?_⟩;intro T A B f d N;exact ru f (d.trans (Fc q)) (N.trans (Fc r)) a5 D U
  refine .inr ⟨fun H=>U (eH.1 H),[(((false,[]),(false,[])):el AA)],?_,?_⟩
  rotate_left
  ·intro T A f d;exact rq f (d.trans (Fc q)) rfl a5 U
  simp
 | cons r u c=>
  have c:XA 338 R u:=c h.tail;intro s x z H;obtain⟨p,q,a,g,F⟩:=El.parts h.red z;have ao:QQ (r::u).length R s=max (QQ u.length R (3*s+3*EE u.length R+R+GG u.length R+3+II u.length R R)) (s+II u.length R (2*(3*s+3*EE u.length R+R+GG u.length R+3+II u.length R R+GG u.length R)+1)+EE u.length R):=rfl;have hQ:∀s',s'<=3*s+3*EE u.length R+R+GG u.length R+3+II u.length R R->QQ u.length R s'<=60000000000000:=fun s' h'=>Nat.le_trans (Pn u.length R h') (by omega)
  have ai:=El.EX h;have aj:=DO h.red
  by_cases D:q=0
  ·have P:x=p:=by rw[a,D];clear c;grind
   rcases c g (hQ _ (by omega)) with⟨w,hw,b,Q⟩ |⟨o,l,hl,S⟩
   ·refine .inl ⟨w,Fh hw,by rw[P];exact b,?_⟩;intro T A B f d N;exact r9 h f d z a g F H D hw Q N
   obtain⟨i,G,v⟩:=Em h.red.1 (CO h.red) (by have:=h.red.2.2.1;grind);have ad:=ai.inv h.tail G v;rcases c (g.mul h.tail ad) (hQ _ (by omega)) with⟨w,hw,b,Q⟩ |⟨a1,l2,ae,ag⟩
   ·refine .inl ⟨w*rt u r,Cq.2 ⟨0,w,CZ u,hw,by clear c;grind⟩,?_,?_⟩
    ·have:p=p*(Al u r*i):=by rw[v];clear c;grind
     rw[P];clear c;grind
    intro T A B f d N;exact sA h f d z a g F H D G v S hw Q N
   refine .inr ⟨?_,em u 0++l2,?_,?_⟩
   ·rw[P,eE h.red g.mem];rintro (h1 |⟨i',ak,a2,h1⟩)
    ·exact o h1
    have:i'=i:=by
     have:i'=i'*(Al u r*i):=by rw[v];clear c;grind
     have h2:i=i*(Al u r*i'):=by rw[a2];clear c;grind
     clear c;grind
    rw[this] at h1;exact a1 h1
   ·rw[List.length_append,B5 (CZ u),CW];omega
   intro T A f d;exact sB h f d z a g F H D G v S ag ae rfl
  have hN:=El.norm h g.mem F.mem (a ▸ z);rcases c hN (hQ _ (by omega)) with⟨n,S,k,ab⟩ |⟨o,l,hl,ah⟩
  rotate_left
  ·refine .inr ⟨fun hS=>o (eJ h.red g.mem F.mem (a ▸ hS)),[],Nat.zero_le _,?_⟩;intro T A f d;exact ry h f d z a g F H D ah rfl
  have X:=hN.sqrt h.tail S k;obtain⟨t,ht⟩:∃t:Re,t=Re.ofRat (1/2):=⟨_,rfl⟩
  have O:=Zi ht;obtain⟨y,Q⟩:∃y:Nat->Re,y=fun i=>if i=0 then p+n else p-n:=⟨_,rfl⟩
  have I:y 0=p+n:=by rw[Q];rfl
  have J:y 1=p-n:=by rw[Q];rfl
  have K:∀i,El u (s+(2*s+2*EE u.length R+R+1+GG u.length R)+1) (y i):=fun i=>by
   rw[Q]
   show El u _ (if i=0 then p+n else p-n)
   by_cases G:i=0
   ·rw[if_pos G];exact g.add h.red.1 X
   rw[if_neg G];exact g.sub h.red.1 X
  have M:∀(k0:Nat) (L:Nat->LR) (w:Re),k0<2->(∀i,i<k0->JI 338 u (t*y i) (L i))->In u w->w*w=t*y k0->JJ 338 u (t*y k0) w->
    ∃w,In (r::u) w/\w*w=x/\JJ 338 (r::u) x w:=by
   intro k0 L w hk o hw b C
   have key:∃m,m*m=p*p-q*q*Al u r/\y k0=p+m:=by
    rcases (show k0=0\/k0=1 by omega) with rfl | rfl
    ·exact⟨n,k,I⟩
    exact⟨-n,by rw[<-k];clear c;grind,by rw[J];clear c;grind⟩
   obtain⟨m,V,aa⟩:=key;have a6:w≠0:=eD h.red D V O (by rw[b,aa])
   have a8:w+w≠0:=by
    intro e;have e1:2*w=0:=by clear c;grind
    rcases Re.HN e1 with e | e
    ·exact SM e
    exact a6 e
   obtain⟨j,hj,a7⟩:=Em h.red.1 (ES hw hw) a8;refine⟨w+q*j*rt u r,Cq.2 ⟨_,_,hw,BN h.red.1 F.mem hj,rfl⟩,?_,?_⟩
   ·rw[a];exact eC V O aj (by rw[b,aa]) a7 rfl
   intro T A B f d N;exact rz h f d z a g F H D S k ht ab I J K (by omega) o hk hw b a6 C hj a7 N
  have hb:QQ u.length R (s+(2*s+2*EE u.length R+R+1+GG u.length R)+1+1+EE u.length R)<=60000000000000:=hQ _ (by omega);rcases c ((K 0).half h.tail ht) hb with⟨w,hw,b,C⟩ |⟨Y,l0,al,W⟩
  ·exact .inl (M 0 (fun _=>[]) w (by omega) (fun i G=>by omega) hw b C)
  rcases c ((K 1).half h.tail ht) hb with⟨w,hw,b,C⟩ |⟨Z,l1,an,af⟩
  ·exact .inl (M 1 (fun _=>l0) w (by omega) (fun i G=>by rw[show i=0 by omega];exact W) hw b C)
  refine .inr ⟨fun hS=>?_,[],Nat.zero_le _,?_⟩
  ·rcases eK h.red g.mem F.mem (a ▸ hS) k O with e | e
   ·exact Y (by rw[I];exact e)
   exact Z (by rw[J];exact e)
  intro T A f d
  exact r3 h f d z a g F H D S k ht ab I J K (L:=fun i=>if i=0 then l0 else l1) (Nat.le_refl 2) (fun i G=>by
   rcases (show i=0\/i=1 by omega) with rfl | rfl
   ·exact W
   exact af) rfl rfl
end Go.Abs
namespace Go.Abs
open Go.RowKit
variable {A B:LR} {R s:Nat} {T:List LR} {u:List (List Rat)} {v x:Re}
theorem Ym {Q:Nat} (hl:∀x∈T,x.length<=1000000) (a5:T.length<=1000) (C:Q=T.length):CF 302 [.one (.sl (.sl AA) T)] (.one (.own (.sl AA) T Q)):=by
 refine Av Tryz.func302 fun E X=>?_
 conv=>cbv
 rintro n7 ⟨e7,f7⟩;conv=>cbv
 refine⟨fun _=>⟨by omega,by omega,by show _*24<=140737488355328;omega⟩,?_⟩;intro F (G:List (el (.sl AA))) y;have a2:=y.1;have z:G=List.replicate F ([]:el (.sl AA)):=y.2;have V:G.length=F:=by rw[z,List.length_replicate]
 conv=>cbv
 intro H f;have U:=f.eq;have f10:=f.le;conv=>cbv
 refine .inr ?_;obtain⟨S,g⟩:=xJ fun vs K k=>∃(o:List LR) (m i':Nat) (L i:Int),vs=[.one (.BI (.sl AA) 8 0 0 m),.one (.sl (.sl AA) T),.one (.int .i64 L),.one (.int .i64 i)]/\K=[.arr 0 (.sl AA) o]/\(o.length=T.length/\m=T.length/\EY L T.length/\BG i i'/\i'<=T.length)/\o.take i'=T.take i'/\k=T.length-i'
 refine⟨[3,9,10,11],[8],S,⟨T.length-0,by rw[g];exact⟨G,F,0,H,0,rfl,rfl,⟨by omega,by omega,f,Bv 0,by omega⟩,rfl,rfl⟩⟩,?_⟩;intro vs K a6 O;rw[g] at O;obtain⟨o,m,i',L,i,rfl,rfl,⟨ho,hm,N,Y,Z⟩,hinv,a1⟩:=O;conv=>cbv
 have eL:=N.eq;have ei:=Y.eq;intro I j;conv=>cbv
 cases I <;> conv=>cbv
 ·have D:=BX j;have c:T=o:=by rw[<-List.take_length (l:=T),<-show i'=T.length by omega,<-hinv,List.take_of_length_le (by omega)]
  exact AF ⟨⟨rfl,.inr (.inl ⟨_,_,by decide,rfl,rfl,by omega,rfl,E8 (c) (by rw[C,<-c])⟩),trivial⟩,trivial⟩
 have D:=BY j;refine .inr ?_;obtain⟨b,a⟩:=Ao (l:=T) (i:=i') (by omega);refine⟨b,fun _=>⟨by omega,by rw[show (i).toNat=i' by omega];exact a⟩,?_⟩;try conv=>cbv
 refine AB X (Wl (hl b (List.mem_of_getElem? a))) ?_;conv=>cbv
 refine AY ?_;intro v P;conv=>cbv
 refine⟨b,fun _=>⟨by show _<List.length (α:=(el (.sl AA))) o;(first | omega | (simp;omega)),by first | exact t1 | exact t2 | exact t4 | simp[Bg,Bo,cells]⟩,?_⟩;intro (h:List (el (.sl AA))) (d:h=List.set (α:=(el (.sl AA))) o v b);have M:h.length=o.length:=by rw[d,List.length_set]
 conv=>cbv
 intro J W;conv=>cbv
 refine Ah ?_;refine⟨T.length-(i'+1),?_,?_⟩
 ·omega
 rw[g];refine⟨h,m,i'+1,L,J,rfl,rfl,⟨by omega,by omega,N,⟨by omega⟩,by omega⟩,?_,rfl⟩;rw[d,show v=i' by omega,SI (by omega),hinv,<-Cb a]
theorem kY (b:∀x∈T,x.length<=1000000) (a:T.length<=1000):CF 302 [.one (.sl (.sl AA) T)] (.one (.sl (.sl AA) T)):=Ek (Ym b a rfl)
theorem et (h:Bb R u) (f:T=tw u):∀x∈T,x.length<=1000000:=by
 intro x b;rw[f,tw] at b;obtain⟨y,g,rfl⟩:=List.mem_map.1 b;obtain⟨i,a⟩:=List.mem_iff_getElem?.1 g;have c:=NJ h.red i y a;have d:=J6 a;rw[List.length_reverse] at d;have h3:=h.ht;rw[List.length_map,c];exact Nat.le_trans (Eo) (by decide)
theorem Ky:Bi x<0↔x<0:=by
 rcases GR x with⟨a,b⟩ |⟨a,b⟩ |⟨a,b⟩ <;> rw[b]
 ·exact⟨fun _=>a,fun _=>by decide⟩
 ·rw[a];exact⟨fun h=>absurd h (by decide),fun h=>by grind⟩
 exact⟨fun h=>absurd h (by decide),fun h=>by grind⟩
theorem pX (h:Bb R u) (y:T=tw u) (F:A=em u x) (G:El u s x) (o:Fit u.length R s) {w:Re} (hw:In u w) (c:w*w=x) (H:JJ 338 u x w) (g:0<=v) (j:v*v=x) (D:B=em u v):CF 301 [.one (.sl (.sl AA) T),.one (.sl AA A)] (.AI [(false,[.sl AA B]),(false,[.bool true])]):=by
 have k:=G.sqrt h hw c;refine Av Tryz.func301 fun E m=>?_
 conv=>cbv
 obtain⟨J,a⟩:=xR (em u w);refine AB m (H y F a) ?_;conv=>cbv
 refine AR ?_;conv=>cbv
 obtain⟨I,f⟩:=xI (Bi w);refine AB m (Nl h y a k o.v o.vR f) ?_;conv=>cbv
 intro C d;conv=>cbv
 refine .inr ?_;cases C <;> conv=>cbv
 ·have z:=BX d;exact AF ⟨⟨rfl,congrArg _ (by rw[D,a];congr 1;have:¬w<0:=(fun hc=>by have:=Ky.2 hc;omega);exact Re.LQ g (by grind) (j.trans c.symm)),trivial⟩,t2,trivial⟩
 have z:=BY d;obtain⟨K,b⟩:=xR (em u (-w));refine AB m (W0 h y a k (Nat.le_trans (HZ u.length R _) o.v) b) ?_;conv=>cbv
 exact AF ⟨⟨rfl,congrArg _ (by rw[D,b];congr 1;have:w<0:=Ky.1 (by omega);exact Re.LQ g (by grind) (by rw[j,<-c];grind)),trivial⟩,t2,trivial⟩
theorem pW (h:Bb R u) (d:T=tw u) (a:A=em u x) (j:El u s x) (g:Fit u.length R s) {l:LR} (f:JI 338 u x l) (b:B=[]):CF 301 [.one (.sl (.sl AA) T),.one (.sl AA A)] (.AI [(false,[.sl AA B]),(false,[.bool false])]):=by
 refine Av Tryz.func301 fun E c=>?_
 conv=>cbv
 refine AB c (f d a) ?_;conv=>cbv
 refine BM ?_;conv=>cbv
 exact AF ⟨⟨rfl,.inr (.inl ⟨_,congrArg _ (b)⟩),trivial⟩,t2,trivial⟩
theorem pY (h:Bb R u) (m:T=tw u) (j:A=em u x) (g:El u s x) (f:Fit u.length R s) (o:In u v) (c:0<=v) (a:v*v=x) (k:B=em u v):CF 301 [.one (.sl (.sl AA) T),.one (.sl AA A)] (.AI [(false,[.sl AA B]),(false,[.bool true])]):=by
 rcases WK h g f.q with⟨w,hw,d,y⟩ |⟨b,_⟩
 ·exact pX h m j g f hw d y c a k
 exact absurd ⟨v,o,a⟩ b
theorem pV (h:Bb R u) (j:T=tw u) (f:A=em u x) (d:El u s x) (c:Fit u.length R s) (a:¬Sq u x) (g:B=[]):CF 301 [.one (.sl (.sl AA) T),.one (.sl AA A)] (.AI [(false,[.sl AA B]),(false,[.bool false])]):=by
 rcases WK h d c.q with⟨w,hw,b,m⟩ |⟨_,l,_,k⟩
 ·exact absurd ⟨w,hw,b⟩ a
 exact pW h j f d c k g
theorem W7 (h:Bb R u) (C:T=tw u) (hv:VV u.length R R<=60000000000000) (hq:QQ u.length R R<=60000000000000):CF 300 [.one (.sl (.sl AA) T)] (.one (.bool true)):=by
 have ae:T.length=u.length:=by rw[C,CI]
 have hR:=h.hR;refine Av Tryz.func300 fun E P=>?_
 conv=>cbv
 intro n8 O;have e8:=O.eq;have f8:=O.le;conv=>cbv
 refine .inr ?_;obtain⟨J0,f⟩:=xJ fun vs bl k=>∃(i':Nat) (L i:Int),vs=[.one (.sl (.sl AA) T),.one (.sl (.sl AA) T),.one (.int .i64 L),.one (.int .i64 i)]/\(EY L T.length/\BG i i'/\i'<=T.length)/\k=T.length-i'
 refine⟨[0,7,8,9],[],J0,⟨T.length-0,by rw[f];exact⟨0,n8,0,rfl,⟨O,Bv 0,by omega⟩,rfl⟩⟩,?_⟩;intro vs bl ah hj;rw[f] at hj;obtain⟨i',L,i,rfl,⟨hL,hi,af⟩,ag⟩:=hj;conv=>cbv
 have eL:=hL.eq;have ei:=hi.eq;intro Y y;conv=>cbv
 cases Y <;> conv=>cbv
 ·have U:=BX y;exact AF ⟨t2,trivial⟩
 have U:=BY y;refine .inr ?_;obtain⟨v,d⟩:=Ao (l:=T) (i:=i') (by omega);refine⟨v,fun _=>⟨by omega,by rw[show (i).toNat=i' by omega];exact d⟩,?_⟩;try conv=>cbv
 obtain⟨r,I,H⟩:=LG (u:=u) (i:=i') (by omega);have o:BF (r::pre u i'):=I ▸ (h.pre (i'+1)).red;have Q:v=Be r:=by rw[<-C,d] at H;exact Option.some.inj H
 have a:v=em (pre u i') (Al (pre u i') r):=Q.trans (Ff o);have b:El (pre u i') R (Al (pre u i') r):=El.EX (I ▸ h.pre (i'+1));intro ai a8;conv=>cbv
 refine AY ?_;intro K a5;conv=>cbv
 intro V D;conv=>cbv
 have g:V=tw (pre u i'):=by rw[D,List.drop_zero,show K=i' by omega,C,KH]
 refine AB (r:= .one (.bool true)) P (Jp g (h.pre i').H7 a (b.Cg hR) (by rw[b.len,List.length_reverse];exact (decide_eq_true rfl).symm)) ?_;try conv=>cbv
 refine AR ?_;conv=>cbv
 intro aj aa;conv=>cbv
 refine AY ?_;intro M a6;conv=>cbv
 intro W F;conv=>cbv
 have j:W=tw (pre u i'):=by rw[F,List.drop_zero,show M=i' by omega,C,KH]
 obtain⟨a2,c⟩:=xI (Bi (Al (pre u i') r));refine AB (r:= .one (.int .i64 a2)) P (Nl (h.pre i') j a b (by rw[LF (by omega)];exact Nat.le_trans (No (by omega) R R) hv) (by rw[LF (by omega)];exact Nat.le_trans (No (by omega) R R) hv) c) ?_;try conv=>cbv
 intro Z z;conv=>cbv
 cases Z <;> conv=>cbv
 ·have J:=Es z;intro ak ab;conv=>cbv
  refine AY ?_;intro N a7;conv=>cbv
  intro X G;conv=>cbv
  have m:X=tw (pre u i'):=by rw[G,List.drop_zero,show N=i' by omega,C,KH]
  obtain⟨l,hl,hn⟩:=((WK (h.pre i') b (by rw[LF (by omega)];exact Nat.le_trans (gY (by omega) R R) hq)).resolve_left (fun⟨w,hw,S,_⟩=>o.2.2.2 ⟨w,hw,S⟩)).2;refine AB P (hn m a) ?_;conv=>cbv
  intro a1 ad;conv=>cbv
  refine Ah ?_;refine⟨T.length-(i'+1),?_,?_⟩
  ·omega
  rw[f];exact⟨i'+1,L,a1,rfl,⟨hL,⟨by omega⟩,by omega⟩,rfl⟩
 have J:=Et z;exact absurd J (by rw[c,EI o.2.2.1];omega)
theorem jj (h:Bb R u) (b:T=tw u) (k:A=em u x) (j:El u s x) (a:Fit u.length R s) (G:In u v) (m:0<=v) (g:v*v=x) (C:B=em u v):CF 257 [.one (.sl (.sl AA) T),.one (.sl AA A)] (.AI [(false,[.sl (.sl AA) T]),(false,[.sl AA B]),(false,[.int .i64 0])]):=by
 have D:T.length=u.length:=by rw[b,CI]
 have F:=h.ht;have o:¬x<0:=by rw[<-g];have:=Re.Ji v;grind
 refine Av Tryz.func257 fun E d=>?_
 conv=>cbv
 refine .inr ?_;refine AB (r:= .one (.bool true)) d (Jp b h.H7 k (j.Cg a.s) (by rw[j.len,List.length_reverse];exact (decide_eq_true rfl).symm)) ?_;try conv=>cbv
 refine AR ?_;conv=>cbv
 refine AB d (W7 h b a.vR a.qR) ?_;conv=>cbv
 refine AR ?_;conv=>cbv
 obtain⟨H,f⟩:=xI (Bi x);refine AB d (Nl h b k j a.v0 a.vR f) ?_;conv=>cbv
 intro z c;conv=>cbv
 cases z <;> conv=>cbv
 ·have y:=BX c;refine AB d (pY h b k j a G m g C) ?_;conv=>cbv
  refine AB d (kY (et h b) (by omega)) ?_;conv=>cbv
  exact AF ⟨t2,t2,t2,trivial⟩
 have y:=BY c;exact absurd ((Ky (x:=x)).1 (by omega)) o
theorem jk (h:Bb R u) (d:T=tw u) (m:A=em u x) (C:El u s x) (g:Fit u.length R s) {R':Nat} {r:List Rat} {T2:List LR} (Z:u.length<8) (V:0<=x) (I:¬Sq u x) (U:r=co u x) (h':Bb R' (r::u)) (G:T2=tw (r::u)) (Q:B=em (r::u) (rt u r)):CF 257 [.one (.sl (.sl AA) T),.one (.sl AA A)] (.AI [(false,[.sl (.sl AA) T2]),(false,[.sl AA B]),(false,[.int .i64 0])]):=by
 have H:T.length=u.length:=by rw[d,CI]
 have S:=h.ht;refine Av Tryz.func257 fun E c=>?_
 conv=>cbv
 refine .inr ?_;refine AB (r:= .one (.bool true)) c (Jp d h.H7 m (C.Cg g.s) (by rw[C.len,List.length_reverse];exact (decide_eq_true rfl).symm)) ?_;try conv=>cbv
 refine AR ?_;conv=>cbv
 refine AB c (W7 h d g.vR g.qR) ?_;conv=>cbv
 refine AR ?_;conv=>cbv
 obtain⟨Y,y⟩:=xI (Bi x);refine AB c (Nl h d m C g.v0 g.vR y) ?_;conv=>cbv
 intro K j;conv=>cbv
 cases K <;> conv=>cbv
 ·have J:=BX j;refine AB c (pV h d m C g I rfl) ?_;conv=>cbv
  rintro W ⟨O,f36⟩;conv=>cbv
  intro L k;conv=>cbv
  cases L <;> conv=>cbv
  ·have D:=Gm k;obtain⟨tn,z⟩:=xN T.length;refine AB c (Ym (et h d) (by omega) z) ?_;conv=>cbv
   have P:A.length=2^u.length:=by rw[m,B5 C.mem]
   have N:=Eo h.ht;refine AB c (Wl (by omega)) ?_;conv=>cbv
   refine⟨[A],fun _=>⟨rfl,by decide,rfl,⟨rfl,by first | exact t1 | exact t2 | exact t4 | simp[Bg,Bo,cells],trivial⟩⟩,.inr ?_⟩;try conv=>cbv
   refine .inr ⟨[A],fun _=>⟨rfl,by rw[z],rfl,by show (T.length+1)*24<=140737488355328;(try simp only[List.length_take,List.length_drop]);omega⟩,?_⟩;intro (f:List (el (.sl AA))) M b;have o:f=(T:List (el (.sl AA)))++([A]:List (el (.sl AA))):=b.1;have v:M=List.length (α:=(el (.sl AA))) f:=b.2;conv=>cbv
   refine⟨fun _=>v,?_⟩;rintro X ⟨F,f47⟩;conv=>cbv
   have a:f=tw (r::u):=by rw[o,d,PS,m,em,U]
   refine AB c (gx h' a (BG.of (F.trans (congrArg _ H))) Q) ?_;conv=>cbv
   exact AF ⟨⟨rfl,congrArg _ (by rw[G,a]),trivial⟩,t2,t2,trivial⟩
  have D:=Gn k;exact absurd D (by omega)
 have J:=BY j;exact absurd ((Ky (x:=x)).1 (by omega)) (by grind)
end Go.Abs
