/- Part 20 of a proof. Conditions: each theorem's own. -/
import Derived.Test.YtmhbikooakmagaaGreatQk18
set_option linter.all false
set_option maxHeartbeats 8000000
set_option maxRecDepth 20000
open Go.Proofs
namespace Go.Abs
open Go.RowKit
variable {A B l:LR} {R k0 s:Nat} {T:List LR} {i n p q t w x:Re} {r:List Rat} {u:List (List Rat)}
theorem Sa {C:LR} {y:Re} (h:Aa R u) (f:T=tw u) (g:A=em u y) (m:El u s y) (ht:t=Re.ofRat (1/2)) (k:s+1+EE u.length R<=60000000000000) (j:C=em u (t*y)):CF 332 [.one (.sl (.sl AA) T),.one (.sl AA A)] (.one (.sl AA C)):=by
 refine AJ Tryz.func332 fun E c=>?_
 conv=>cbv
 obtain⟨F,G,z,D,b⟩:=BP (1/2:Rat);refine AB c (WT (by omega) (by omega) (by omega) (by decide +kernel) b) ?_;conv=>cbv
 obtain⟨o,a⟩:=xR (em u (t));refine AB (r:= .one (.sl AA o)) c (HM h f b ⟨by decide +kernel,by decide +kernel⟩ (a.trans (by rw[ht]))) ?_;conv=>cbv
 have d:El u 1 t:=ht ▸ El.rat h.red JO;refine AB (r:= .one (.sl AA C)) c (Fp h f g a m d k (by rw[j];congr 1;grind)) ?_;try conv=>cbv
 exact AD ⟨t2,trivial⟩
theorem eA {q r:Rat} (F:T=[]) (o:A=[rp q]) (C:B=[rp r]) (I:BX q) (y:0<=r) (H:r*r=q):CF 258 [.one (.sl (.sl AA) T),.one (.sl AA A)] (.AI [(false,[.sl AA B]),(false,[.bool true])]):=by
 refine AJ Tryz.func258 fun E D=>?_
 conv=>cbv
 rintro n27 ⟨k,f27⟩;conv=>cbv
 intro n28 c;conv=>cbv
 cases n28 <;> conv=>cbv
 ·have d:=Ac c;exact absurd (by rw[k,F];rfl) d
 have d:=Ae c;have z:A.length=1:=by rw[o];rfl
 obtain⟨m,a⟩:=AL (l:=A) (i:=0) (by omega);refine⟨m,fun _=>⟨by omega,a⟩,?_⟩;try conv=>cbv
 have G:=Dw o a;obtain⟨h,j,f,g,b⟩:=BP r;refine AB D (Wo G I y H b) ?_;conv=>cbv
 refine⟨[((h,j),(f,g))],fun _=>⟨rfl,by decide,rfl,⟨rfl,by first | exact t1 | exact t2 | exact t4 | simp[Aj,Ar,cells],trivial⟩⟩,.inl ?_⟩;try conv=>cbv
 exact AD ⟨⟨rfl,.inl ⟨_,rfl,by simp,congrArg _ (by rw[C,b.rp];rfl)⟩,trivial⟩,t2,trivial⟩
theorem dz {q:Rat} (m:T=[]) (g:A=[rp q]) (j:B=[(((false,[]),(false,[])):el AA)]) (z:BX q) (y:¬∃r:Rat,0<=r/\r*r=q):CF 258 [.one (.sl (.sl AA) T),.one (.sl AA A)] (.AI [(false,[.sl AA B]),(false,[.bool false])]):=by
 refine AJ Tryz.func258 fun E k=>?_
 conv=>cbv
 rintro n27 ⟨d,f27⟩;conv=>cbv
 intro n28 b;conv=>cbv
 cases n28 <;> conv=>cbv
 ·have c:=Ac b;exact absurd (by rw[d,m];rfl) c
 have c:=Ae b;have h:A.length=1:=by rw[g];rfl
 obtain⟨f,a⟩:=AL (l:=A) (i:=0) (by omega);refine⟨f,fun _=>⟨by omega,a⟩,?_⟩;try conv=>cbv
 have o:=Dw g a;refine AB k (Wn o z y) ?_;conv=>cbv
 refine⟨[((false,[]),(false,[]))],fun _=>⟨rfl,by decide,rfl,⟨rfl,by first | exact t1 | exact t2 | exact t4 | simp[Aj,Ar,cells],trivial⟩⟩,.inl ?_⟩;try conv=>cbv
 exact AD ⟨⟨rfl,.inl ⟨_,rfl,by simp,congrArg _ (by rw[j];rfl)⟩,trivial⟩,t2,trivial⟩
def Ft (f:FuncId) (u:List (List Rat)) (x w:Re):Prop:=∀{T:List LR} {A B:LR},T=tw u->A=em u x->B=em u w->CF f [.one (.sl (.sl AA) T),.one (.sl AA A)] (.AI [(false,[.sl AA B]),(false,[.bool true])])
def Fs (f:FuncId) (u:List (List Rat)) (x:Re) (l:LR):Prop:=∀{T:List LR} {A:LR},T=tw u->A=em u x->CF f [.one (.sl (.sl AA) T),.one (.sl AA A)] (.AI [(false,[.sl AA l]),(false,[.bool false])])
def Py (f:FuncId) (R:Nat) (u:List (List Rat)):Prop:=∀{s:Nat} {x:Re},El u s x->QQ u.length R s<=60000000000000->(∃w,In u w/\w*w=x/\Ft f u x w)\/(¬Sq u x/\∃l,l.length<=2^u.length/\Fs f u x l)
theorem eF (h:Aa R (r::u)) (P:T=tw (r::u)) (O:A=em (r::u) x) (hx:El (r::u) s x) (F:x=p+q*rt u r) (hp:El u s p) (Q:El u s q) (hs:QQ (r::u).length R s<=60000000000000) (h0:q=0) (hw:In u w) (hy:Ft 258 u p w) (hB:B=em (r::u) w):CF 258 [.one (.sl (.sl AA) T),.one (.sl AA A)] (.AI [(false,[.sl AA B]),(false,[.bool true])]):=by
 have au:T.length=u.length+1:=by rw[P,BN];rfl
 have ar:A.length=2^u.length+2^u.length:=by rw[O,Aw hx.mem,BM]
 have az:=El.CK h;have aA:=B4 h.red;have a8:=CT h.tail.ht;have aw:=Cu u.length;have S:El u 0 0:=El.rat h.red.1 GP;have ax:QQ (r::u).length R s=max (QQ u.length R (3*s+3*EE u.length R+R+GG u.length R+3+II u.length R R)) (s+II u.length R (2*(3*s+3*EE u.length R+R+GG u.length R+3+II u.length R R+GG u.length R)+1)+EE u.length R):=rfl;have ay:=GD u.length R (3*s+3*EE u.length R+R+GG u.length R+3+II u.length R R);have av:=Df u.length R (2*(3*s+3*EE u.length R+R+GG u.length R+3+II u.length R R+GG u.length R)+1);refine AJ Tryz.func258 fun E m=>?_
 conv=>cbv
 rintro n27 ⟨ag,f27⟩;conv=>cbv
 intro n28 k;conv=>cbv
 cases n28 <;> conv=>cbv
 ·have G:=Ac k;rintro aE ⟨ah,f41⟩;conv=>cbv
  intro aF al;conv=>cbv
  refine AH ?_;intro aB a6;conv=>cbv
  refine AG ?_;intro M Z;conv=>cbv
  intro V y;conv=>cbv
  rintro aG ⟨ai,f46⟩;conv=>cbv
  intro H an;conv=>cbv
  refine AH ?_;obtain⟨K,d⟩:=AL (l:=T) (i:=(H).toNat) (by omega);refine⟨K,fun _=>⟨by omega,d⟩,?_⟩;try conv=>cbv
  refine g2 rfl ?_;rintro aH ⟨aj,f52⟩;conv=>cbv
  intro CW ao;conv=>cbv
  refine g2 ⟨by omega,by omega,i64 (by omega)⟩ ?_;intro aC a7;conv=>cbv
  refine AG ?_;intro N a1;conv=>cbv
  intro W z;conv=>cbv
  rintro aI ⟨ak,f57⟩;conv=>cbv
  intro aJ aq;conv=>cbv
  refine g2 ⟨by omega,by omega,i64 (by omega)⟩ ?_;intro aD D;conv=>cbv
  refine AG ?_;rintro L af ⟨Y,o⟩;conv=>cbv
  intro X C;conv=>cbv
  refine g2 rfl ?_;have a:V=tw u:=by rw[y,List.drop_zero,show M=T.length-1 by omega,P,Ci]
  have U:K=Ad r:=by have:=EL r u;rw[<-P,show T.length-1=H.toNat by omega,d] at this;exact Option.some.inj this
  have g:W=em u p:=by rw[z,List.drop_zero,show N=A.length/2 by omega,O,Br h.red hp.mem Q.mem F]
  have j:X=em u q:=by rw[C,show L=A.length/2 by omega,o,D,List.take_length,O,Bc h.red hp.mem Q.mem F]
  refine AB m (HT h.red.1 Q.mem j h0) ?_;conv=>cbv
  obtain⟨I,b⟩:=xR (em u w);refine AB m (hy a g b) ?_;conv=>cbv
  obtain⟨ad,ae,aa,ab,f⟩:=BP (((0:Int):Rat));refine AB m (Fq (by omega) rfl f) ?_;conv=>cbv
  obtain⟨J,c⟩:=xR (em u (0));refine AB m (HM h.tail a f ⟨by decide +kernel,by decide +kernel⟩ c) ?_;conv=>cbv
  refine⟨[I,J],fun _=>⟨rfl,by decide,rfl,⟨rfl,by first | exact t1 | exact t2 | exact t4 | simp[Aj,Ar,cells],⟨rfl,by first | exact t1 | exact t2 | exact t4 | simp[Aj,Ar,cells],trivial⟩⟩⟩,.inr ?_⟩;try conv=>cbv
  have a2:I.length=2^u.length:=by rw[b,Aw hw]
  have a5:J.length=2^u.length:=by rw[c,Aw S.mem]
  refine AB (r:= .one (.sl AA B)) m (K7 (by omega) (by omega) (by rw[hB,b,c];exact D6 h.red hw (Bl u) (by grind))) ?_;try conv=>cbv
  exact AD ⟨t2,t2,trivial⟩
 have G:=Ae k;exact absurd G (by omega)
theorem eH (h:Aa R (r::u)) (W:T=tw (r::u)) (V:A=em (r::u) x) (hx:El (r::u) s x) (K:x=p+q*rt u r) (Y:El u s p) (Z:El u s q) (hs:QQ (r::u).length R s<=60000000000000) (h0:q=0) (hi:In u i) (I:AM u r*i=1) (hn:Fs 258 u p l) (hw:In u w) (hy:Ft 258 u (p*i) w) (hB:B=em (r::u) (w*rt u r)):CF 258 [.one (.sl (.sl AA) T),.one (.sl AA A)] (.AI [(false,[.sl AA B]),(false,[.bool true])]):=by
 have aA:T.length=u.length+1:=by rw[W,BN];rfl
 have az:A.length=2^u.length+2^u.length:=by rw[V,Aw hx.mem,BM]
 have J:=El.CK h;have aF:=B4 h.red;have ag:=CT h.tail.ht;have aC:=Cu u.length;have a1:El u 0 0:=El.rat h.red.1 GP;have aD:QQ (r::u).length R s=max (QQ u.length R (3*s+3*EE u.length R+R+GG u.length R+3+II u.length R R)) (s+II u.length R (2*(3*s+3*EE u.length R+R+GG u.length R+3+II u.length R R+GG u.length R)+1)+EE u.length R):=rfl;have aE:=GD u.length R (3*s+3*EE u.length R+R+GG u.length R+3+II u.length R R);have aB:=Df u.length R (2*(3*s+3*EE u.length R+R+GG u.length R+3+II u.length R R+GG u.length R)+1);refine AJ Tryz.func258 fun E f=>?_
 conv=>cbv
 rintro n27 ⟨an,f27⟩;conv=>cbv
 intro n28 z;conv=>cbv
 cases n28 <;> conv=>cbv
 ·have L:=Ac z;rintro aJ ⟨ao,f41⟩;conv=>cbv
  intro aK av;conv=>cbv
  refine AH ?_;intro aG ae;conv=>cbv
  refine AG ?_;intro S a8;conv=>cbv
  intro a2 D;conv=>cbv
  rintro aL ⟨aq,f46⟩;conv=>cbv
  intro M aw;conv=>cbv
  refine AH ?_;obtain⟨P,k⟩:=AL (l:=T) (i:=(M).toNat) (by omega);refine⟨P,fun _=>⟨by omega,k⟩,?_⟩;try conv=>cbv
  refine g2 rfl ?_;rintro aM ⟨ar,f52⟩;conv=>cbv
  intro CW ax;conv=>cbv
  refine g2 ⟨by omega,by omega,i64 (by omega)⟩ ?_;intro aH af;conv=>cbv
  refine AG ?_;intro U aa;conv=>cbv
  intro a5 F;conv=>cbv
  rintro aN ⟨au,f57⟩;conv=>cbv
  intro aO ay;conv=>cbv
  refine g2 ⟨by omega,by omega,i64 (by omega)⟩ ?_;intro aI H;conv=>cbv
  refine AG ?_;rintro Q al ⟨a7,C⟩;conv=>cbv
  intro a6 G;conv=>cbv
  refine g2 rfl ?_;have a:a2=tw u:=by rw[D,List.drop_zero,show S=T.length-1 by omega,W,Ci]
  have y:P=Ad r:=by have:=EL r u;rw[<-W,show T.length-1=M.toNat by omega,k] at this;exact Option.some.inj this
  have b:a5=em u p:=by rw[F,List.drop_zero,show U=A.length/2 by omega,V,Br h.red Y.mem Z.mem K]
  have o:a6=em u q:=by rw[G,show Q=A.length/2 by omega,C,H,List.take_length,V,Bc h.red Y.mem Z.mem K]
  refine AB f (HT h.red.1 Z.mem o h0) ?_;conv=>cbv
  refine AB f (hn a b) ?_;conv=>cbv
  obtain⟨aP,g⟩:=xR (em u i);have X:=J.inv h.tail hi I;refine AB f (Md h.tail a (y.trans (DR h.red)) J hi I (by omega) g) ?_;conv=>cbv
  refine Ai ?_;conv=>cbv
  obtain⟨aQ,j⟩:=xR (em u (p*i));refine AB f (Fp h.tail a b g Y X (by omega) j) ?_;conv=>cbv
  obtain⟨N,c⟩:=xR (em u w);refine AB f (hy a j c) ?_;conv=>cbv
  obtain⟨aj,ak,ah,ai,m⟩:=BP (((0:Int):Rat));refine AB f (Fq (by omega) rfl m) ?_;conv=>cbv
  obtain⟨O,d⟩:=xR (em u (0));refine AB f (HM h.tail a m ⟨by decide +kernel,by decide +kernel⟩ d) ?_;conv=>cbv
  refine⟨[O,N],fun _=>⟨rfl,by decide,rfl,⟨rfl,by first | exact t1 | exact t2 | exact t4 | simp[Aj,Ar,cells],⟨rfl,by first | exact t1 | exact t2 | exact t4 | simp[Aj,Ar,cells],trivial⟩⟩⟩,.inr ?_⟩;try conv=>cbv
  have ab:N.length=2^u.length:=by rw[c,Aw hw]
  have ad:O.length=2^u.length:=by rw[d,Aw a1.mem]
  refine AB (r:= .one (.sl AA B)) f (K7 (by omega) (by omega) (by rw[hB,c,d];exact D6 h.red (Bl u) hw (by grind))) ?_;try conv=>cbv
  exact AD ⟨t2,t2,trivial⟩
 have L:=Ae z;exact absurd L (by omega)
theorem eI (h:Aa R (r::u)) (U:T=tw (r::u)) (S:A=em (r::u) x) (hx:El (r::u) s x) (J:x=p+q*rt u r) (W:El u s p) (X:El u s q) (hs:QQ (r::u).length R s<=60000000000000) {l2:LR} (h0:q=0) (hi:In u i) (H:AM u r*i=1) (hn:Fs 258 u p l) (hy:Fs 258 u (p*i) l2) (az:l2.length<=2^u.length) (hB:B=em u 0++l2):CF 258 [.one (.sl (.sl AA) T),.one (.sl AA A)] (.AI [(false,[.sl AA B]),(false,[.bool false])]):=by
 have ax:T.length=u.length+1:=by rw[U,BN];rfl
 have aw:A.length=2^u.length+2^u.length:=by rw[S,Aw hx.mem,BM]
 have I:=El.CK h;have aD:=B4 h.red;have ad:=CT h.tail.ht;have aA:=Cu u.length;have Y:El u 0 0:=El.rat h.red.1 GP;have aB:QQ (r::u).length R s=max (QQ u.length R (3*s+3*EE u.length R+R+GG u.length R+3+II u.length R R)) (s+II u.length R (2*(3*s+3*EE u.length R+R+GG u.length R+3+II u.length R R+GG u.length R)+1)+EE u.length R):=rfl;have aC:=GD u.length R (3*s+3*EE u.length R+R+GG u.length R+3+II u.length R R);have ay:=Df u.length R (2*(3*s+3*EE u.length R+R+GG u.length R+3+II u.length R R+GG u.length R)+1);refine AJ Tryz.func258 fun E d=>?_
 conv=>cbv
 rintro n27 ⟨aj,f27⟩;conv=>cbv
 intro n28 y;conv=>cbv
 cases n28 <;> conv=>cbv
 ·have K:=Ac y;rintro aH ⟨ak,f41⟩;conv=>cbv
  intro aI aq;conv=>cbv
  refine AH ?_;intro aE aa;conv=>cbv
  refine AG ?_;intro P a6;conv=>cbv
  intro Z C;conv=>cbv
  rintro aJ ⟨al,f46⟩;conv=>cbv
  intro L ar;conv=>cbv
  refine AH ?_;obtain⟨N,j⟩:=AL (l:=T) (i:=(L).toNat) (by omega);refine⟨N,fun _=>⟨by omega,j⟩,?_⟩;try conv=>cbv
  refine g2 rfl ?_;rintro aK ⟨an,f52⟩;conv=>cbv
  intro CW au;conv=>cbv
  refine g2 ⟨by omega,by omega,i64 (by omega)⟩ ?_;intro aF ab;conv=>cbv
  refine AG ?_;intro Q a7;conv=>cbv
  intro a1 D;conv=>cbv
  rintro aL ⟨ao,f57⟩;conv=>cbv
  intro aM av;conv=>cbv
  refine g2 ⟨by omega,by omega,i64 (by omega)⟩ ?_;intro aG G;conv=>cbv
  refine AG ?_;rintro O ai ⟨a5,z⟩;conv=>cbv
  intro a2 F;conv=>cbv
  refine g2 rfl ?_;have a:Z=tw u:=by rw[C,List.drop_zero,show P=T.length-1 by omega,U,Ci]
  have o:N=Ad r:=by have:=EL r u;rw[<-U,show T.length-1=L.toNat by omega,j] at this;exact Option.some.inj this
  have b:a1=em u p:=by rw[D,List.drop_zero,show Q=A.length/2 by omega,S,Br h.red W.mem X.mem J]
  have m:a2=em u q:=by rw[F,show O=A.length/2 by omega,z,G,List.take_length,S,Bc h.red W.mem X.mem J]
  refine AB d (HT h.red.1 X.mem m h0) ?_;conv=>cbv
  refine AB d (hn a b) ?_;conv=>cbv
  obtain⟨aN,f⟩:=xR (em u i);have V:=I.inv h.tail hi H;refine AB d (Md h.tail a (o.trans (DR h.red)) I hi H (by omega) f) ?_;conv=>cbv
  refine Ai ?_;conv=>cbv
  obtain⟨aO,g⟩:=xR (em u (p*i));refine AB d (Fp h.tail a b f W V (by omega) g) ?_;conv=>cbv
  refine AB d (hy a g) ?_;conv=>cbv
  obtain⟨ag,ah,ae,af,k⟩:=BP (((0:Int):Rat));refine AB d (Fq (by omega) rfl k) ?_;conv=>cbv
  obtain⟨M,c⟩:=xR (em u (0));refine AB d (HM h.tail a k ⟨by decide +kernel,by decide +kernel⟩ c) ?_;conv=>cbv
  refine⟨[M,l2],fun _=>⟨rfl,by decide,rfl,⟨rfl,by first | exact t1 | exact t2 | exact t4 | simp[Aj,Ar,cells],⟨rfl,by first | exact t1 | exact t2 | exact t4 | simp[Aj,Ar,cells],trivial⟩⟩⟩,.inr ?_⟩;try conv=>cbv
  have a8:M.length=2^u.length:=by rw[c,Aw Y.mem]
  refine AB (r:= .one (.sl AA B)) d (K7 (by omega) (by omega) (by rw[hB,c])) ?_;conv=>cbv
  exact AD ⟨t2,t2,trivial⟩
 have K:=Ae y;exact absurd K (by omega)
theorem eB (h:Aa R (r::u)) (G:T=tw (r::u)) (F:A=em (r::u) x) (hx:El (r::u) s x) (f:x=p+q*rt u r) (N:El u s p) (H:El u s q) (hs:QQ (r::u).length R s<=60000000000000) (h0:q≠0) (hn:Fs 258 u (p*p-q*q*AM u r) l) (hB:B=[]):CF 258 [.one (.sl (.sl AA) T),.one (.sl AA A)] (.AI [(false,[.sl AA B]),(false,[.bool false])]):=by
 have ah:T.length=u.length+1:=by rw[G,BN];rfl
 have ag:A.length=2^u.length+2^u.length:=by rw[F,Aw hx.mem,BM]
 have an:=El.CK h;have ao:=B4 h.red;have Z:=CT h.tail.ht;have aj:=Cu u.length;have aq:El u 0 0:=El.rat h.red.1 GP;have ak:QQ (r::u).length R s=max (QQ u.length R (3*s+3*EE u.length R+R+GG u.length R+3+II u.length R R)) (s+II u.length R (2*(3*s+3*EE u.length R+R+GG u.length R+3+II u.length R R+GG u.length R)+1)+EE u.length R):=rfl;have al:=GD u.length R (3*s+3*EE u.length R+R+GG u.length R+3+II u.length R R);have ai:=Df u.length R (2*(3*s+3*EE u.length R+R+GG u.length R+3+II u.length R R+GG u.length R)+1);refine AJ Tryz.func258 fun E L=>?_
 conv=>cbv
 rintro n27 ⟨a5,f27⟩;conv=>cbv
 intro n28 g;conv=>cbv
 cases n28 <;> conv=>cbv
 ·have z:=Ac g;rintro aw ⟨a6,f41⟩;conv=>cbv
  intro ax ab;conv=>cbv
  refine AH ?_;intro ar X;conv=>cbv
  refine AG ?_;intro J V;conv=>cbv
  intro P k;conv=>cbv
  rintro ay ⟨a7,f46⟩;conv=>cbv
  intro C ad;conv=>cbv
  refine AH ?_;obtain⟨D,b⟩:=AL (l:=T) (i:=(C).toNat) (by omega);refine⟨D,fun _=>⟨by omega,b⟩,?_⟩;try conv=>cbv
  refine g2 rfl ?_;rintro az ⟨a8,f52⟩;conv=>cbv
  intro CW ae;conv=>cbv
  refine g2 ⟨by omega,by omega,i64 (by omega)⟩ ?_;intro au Y;conv=>cbv
  refine AG ?_;intro K W;conv=>cbv
  intro Q m;conv=>cbv
  rintro aA ⟨aa,f57⟩;conv=>cbv
  intro aB af;conv=>cbv
  refine g2 ⟨by omega,by omega,i64 (by omega)⟩ ?_;intro av y;conv=>cbv
  refine AG ?_;rintro I a2 ⟨U,j⟩;conv=>cbv
  intro S o;conv=>cbv
  refine g2 rfl ?_;have c:P=tw u:=by rw[k,List.drop_zero,show J=T.length-1 by omega,G,Ci]
  have O:D=Ad r:=by have:=EL r u;rw[<-G,show T.length-1=C.toNat by omega,b] at this;exact Option.some.inj this
  have M:Q=em u p:=by rw[m,List.drop_zero,show K=A.length/2 by omega,F,Br h.red N.mem H.mem f]
  have d:S=em u q:=by rw[o,show I=A.length/2 by omega,j,y,List.take_length,F,Bc h.red N.mem H.mem f]
  refine AB L (GM h.red.1 H.mem d h0) ?_;conv=>cbv
  obtain⟨a1,a⟩:=xR (em u (p*p-q*q*AM u r));refine AB L (Mg h G F hx f N.mem H.mem (by omega) a) ?_;conv=>cbv
  refine AB L (hn c a) ?_;conv=>cbv
  refine Bu ?_;conv=>cbv
  exact AD ⟨⟨rfl,.inr (.inl ⟨_,congrArg _ (hB)⟩),trivial⟩,t2,trivial⟩
 have z:=Ae g;exact absurd z (by omega)
theorem Vt {a b:Re} {y:Nat->Re} {x:LR} {i:Nat} (h:[A,B][i]? =some x) (f:A=em u a) (g:B=em u b) (c:y 0=a) (d:y 1=b):x=em u (y i):=by
 match i,h with
 | 0,h=>rw[c,<-f];exact (Option.some.inj h).symm
 | 1,h=>rw[d,<-g];exact (Option.some.inj h).symm
 | i+2,h=>simp at h
theorem eE {f:FuncId} {y:Nat->Re} {L:Nat->LR} {i:Nat} {b:Bool} (k:i<=k0) (a:∀i,i<k0->Fs f u (t*y i) (L i)) (c:Ft f u (t*y k0) w) (hb:b=decide (i=k0)) (g:B=if i=k0 then em u w else L i) (j:T=tw u) (d:A=em u (t*y i)):
  CF f [.one (.sl (.sl AA) T),.one (.sl AA A)] (.AI [(false,[.sl AA B]),(false,[.bool b])]):=by
 by_cases h:i=k0
 ·subst h;rw[hb,decide_eq_true rfl];exact c j d (by rw[g,if_pos rfl])
 rw[hb,decide_eq_false h,g,if_neg h];exact a i (by omega) j d
theorem El.half {y:Re} (h:El u s y) (hu:Aa R u) (ht:t=Re.ofRat (1/2)):El u (s+1+EE u.length R) (t*y):=by
 have a:El u 1 t:=ht ▸ El.rat hu.red JO;have:=a.mul hu h;rwa [show 1+s+EE u.length R=s+1+EE u.length R by omega] at this
theorem eD (h:Aa R (r::u)) (hT:T=tw (r::u)) (hA:A=em (r::u) x) (hx:El (r::u) s x) (G:x=p+q*rt u r) (O:El u s p) (Y:El u s q) (hs:QQ (r::u).length R s<=60000000000000) (h0:q≠0) (hn:In u n) (ai:n*n=p*p-q*q*AM u r) (ht:t=Re.ofRat (1/2)) (aq:Ft 258 u (p*p-q*q*AM u r) n) {y:Nat->Re} (al:y 0=p+n) (an:y 1=p-n) (ao:∀i,El u (s+(2*s+2*EE u.length R+R+1+GG u.length R)+1) (y i)) {L:Nat->LR} (ah:k0<=2) (aj:∀i,i<k0->Fs 258 u (t*y i) (L i)) (aU:k0=2) (hB:B=[]):CF 258 [.one (.sl (.sl AA) T),.one (.sl AA A)] (.AI [(false,[.sl AA B]),(false,[.bool false])]):=by
 have aR:T.length=u.length+1:=by rw[hT,BN];rfl
 have aQ:A.length=2^u.length+2^u.length:=by rw[hA,Aw hx.mem,BM]
 have aY:=El.CK h;have aZ:=B4 h.red;have aB:=CT h.tail.ht;have aV:=Cu u.length;have b0:El u 0 0:=El.rat h.red.1 GP;have aW:QQ (r::u).length R s=max (QQ u.length R (3*s+3*EE u.length R+R+GG u.length R+3+II u.length R R)) (s+II u.length R (2*(3*s+3*EE u.length R+R+GG u.length R+3+II u.length R R+GG u.length R)+1)+EE u.length R):=rfl;have aX:=GD u.length R (3*s+3*EE u.length R+R+GG u.length R+3+II u.length R R);have aS:=Df u.length R (2*(3*s+3*EE u.length R+R+GG u.length R+3+II u.length R R+GG u.length R)+1);have hN:=El.norm h O.mem Y.mem (G ▸ hx);refine AJ Tryz.func258 fun E K=>?_
 conv=>cbv
 rintro n27 ⟨aG,f27⟩;conv=>cbv
 intro n28 P;conv=>cbv
 cases n28 <;> conv=>cbv
 ·have a1:=Ac P;rintro b5 ⟨aH,f41⟩;conv=>cbv
  intro b6 aM;conv=>cbv
  refine AH ?_;intro b2 az;conv=>cbv
  refine AG ?_;intro ae ax;conv=>cbv
  intro a2 S;conv=>cbv
  rintro b7 ⟨aI,f46⟩;conv=>cbv
  intro aa aN;conv=>cbv
  refine AH ?_;obtain⟨ab,I⟩:=AL (l:=T) (i:=(aa).toNat) (by omega);refine⟨ab,fun _=>⟨by omega,I⟩,?_⟩;try conv=>cbv
  refine g2 rfl ?_;rintro b8 ⟨aJ,f52⟩;conv=>cbv
  intro CW aO;conv=>cbv
  refine g2 ⟨by omega,by omega,i64 (by omega)⟩ ?_;intro b3 aA;conv=>cbv
  refine AG ?_;intro af ay;conv=>cbv
  intro ar U;conv=>cbv
  rintro b9 ⟨aK,f57⟩;conv=>cbv
  intro ba aP;conv=>cbv
  refine g2 ⟨by omega,by omega,i64 (by omega)⟩ ?_;intro b4 W;conv=>cbv
  refine AG ?_;rintro ad aF ⟨aw,Q⟩;conv=>cbv
  intro a5 V;conv=>cbv
  refine g2 rfl ?_;have a:a2=tw u:=by rw[S,List.drop_zero,show ae=T.length-1 by omega,hT,Ci]
  have ak:ab=Ad r:=by have:=EL r u;rw[<-hT,show T.length-1=aa.toNat by omega,I] at this;exact Option.some.inj this
  have d:ar=em u p:=by rw[U,List.drop_zero,show af=A.length/2 by omega,hA,Br h.red O.mem Y.mem G]
  have N:a5=em u q:=by rw[V,show ad=A.length/2 by omega,Q,W,List.take_length,hA,Bc h.red O.mem Y.mem G]
  refine AB K (GM h.red.1 Y.mem N h0) ?_;conv=>cbv
  obtain⟨aC,f⟩:=xR (em u (p*p-q*q*AM u r));refine AB K (Mg h hT hA hx G O.mem Y.mem (by omega) f) ?_;conv=>cbv
  obtain⟨aD,b⟩:=xR (em u n);have X:=hN.sqrt h.tail hn ai;refine AB K (aq a f b) ?_;conv=>cbv
  refine Ai ?_;conv=>cbv
  obtain⟨C,g⟩:=xR (em u (p+n));refine AB K (Hu h.tail a d b O X (by omega) (by omega) g) ?_;conv=>cbv
  obtain⟨D,j⟩:=xR (em u (p-n));refine AB K (Ka h.tail a d b O X (by omega) (by omega) j) ?_;conv=>cbv
  refine⟨[C,D],fun _=>⟨rfl,by decide,rfl,⟨rfl,by first | exact t1 | exact t2 | exact t4 | simp[Aj,Ar,cells],⟨rfl,by first | exact t1 | exact t2 | exact t4 | simp[Aj,Ar,cells],trivial⟩⟩⟩,.inr ?_⟩;try conv=>cbv
  intro a6 c;have au:=c.eq;have f118:=c.le;conv=>cbv
  refine .inr ?_;obtain⟨J0,M⟩:=xJ fun vs bl k=>∃(i':Nat) (m i:Int),vs=[.one (.sl (.sl AA) a2),.one (.sl AA a5),.one (.sl (.sl AA) [C,D]),.one (.int .i64 m),.one (.int .i64 i)]/\(AQ m 2/\AQ i i'/\i'<=k0)/\k=2-i'
  refine⟨[],[8,11,117,118,119],[],J0,⟨2-0,by rw[M];exact⟨0,a6,0,rfl,⟨⟨c.eq⟩,An 0,by omega⟩,rfl⟩⟩,?_⟩;intro vs bl b1 hj;rw[M] at hj;obtain⟨i',m,i,rfl,⟨hM,ag,aT⟩,ah⟩:=hj;conv=>cbv
  have eM:=hM.eq;have aL:=ag.eq;intro a7 H;conv=>cbv
  cases a7 <;> conv=>cbv
  ·have Z:=AW H;exact AD ⟨⟨rfl,.inr (.inl ⟨_,congrArg _ (hB)⟩),trivial⟩,t2,trivial⟩
  have Z:=AY H;refine .inr ?_;obtain⟨J,z⟩:=AL (l:=[C,D]) (i:=i') (by show _<2;omega);refine⟨J,fun _=>⟨by omega,by rw[show (i).toNat=i' by omega];exact z⟩,?_⟩;try conv=>cbv
  have F:J=em u (y i'):=Vt z g j al an;obtain⟨aE,o⟩:=xR (em u (t*y i'));refine AB K (Sa h.tail a F (ao i') ht (by omega) o) ?_;conv=>cbv
  refine AB K (aj i' (by omega) a o) ?_;conv=>cbv
  refine Bu ?_;conv=>cbv
  intro a8 av;conv=>cbv
  refine AH ?_;refine⟨2-(i'+1),?_,?_⟩
  ·omega
  rw[M];exact⟨i'+1,m,a8,rfl,⟨hM,⟨by omega⟩,by omega⟩,rfl⟩
 have a1:=Ae P;exact absurd a1 (by omega)
theorem eC (h:Aa R (r::u)) (hT:T=tw (r::u)) (hA:A=em (r::u) x) (hx:El (r::u) s x) (V:x=p+q*rt u r) (hp:El u s p) (Y:El u s q) (hs:QQ (r::u).length R s<=60000000000000) (h0:q≠0) (hn:In u n) (aF:n*n=p*p-q*q*AM u r) (ht:t=Re.ofRat (1/2)) (aM:Ft 258 u (p*p-q*q*AM u r) n) {y:Nat->Re} (aK:y 0=p+n) (aL:y 1=p-n) (ah:∀i,El u (s+(2*s+2*EE u.length R+R+1+GG u.length R)+1) (y i)) {L:Nat->LR} (aC:k0<=2) (aG:∀i,i<k0->Fs 258 u (t*y i) (L i)) (bj:k0<2) {j:Re} (hw:In u w) (aI:w*w=t*y k0) (aH:w≠0) (aN:Ft 258 u (t*y k0) w) (hj:In u j) (ag:(w+w)*j=1) (hB:B=em (r::u) (w+q*j*rt u r)):CF 258 [.one (.sl (.sl AA) T),.one (.sl AA A)] (.AI [(false,[.sl AA B]),(false,[.bool true])]):=by
 have bg:T.length=u.length+1:=by rw[hT,BN];rfl
 have bf:A.length=2^u.length+2^u.length:=by rw[hA,Aw hx.mem,BM]
 have bq:=El.CK h;have br:=B4 h.red;have aX:=CT h.tail.ht;have bn:=Cu u.length;have bs:El u 0 0:=El.rat h.red.1 GP;have bo:QQ (r::u).length R s=max (QQ u.length R (3*s+3*EE u.length R+R+GG u.length R+3+II u.length R R)) (s+II u.length R (2*(3*s+3*EE u.length R+R+GG u.length R+3+II u.length R R+GG u.length R)+1)+EE u.length R):=rfl;have bp:=GD u.length R (3*s+3*EE u.length R+R+GG u.length R+3+II u.length R R);have bh:=Df u.length R (2*(3*s+3*EE u.length R+R+GG u.length R+3+II u.length R R+GG u.length R)+1);have hN:=El.norm h hp.mem Y.mem (V ▸ hx);refine AJ Tryz.func258 fun E o=>?_
 conv=>cbv
 rintro n27 ⟨b4,f27⟩;conv=>cbv
 intro n28 a7;conv=>cbv
 cases n28 <;> conv=>cbv
 ·have ai:=Ac a7;rintro bz ⟨b5,f41⟩;conv=>cbv
  intro bA ba;conv=>cbv
  refine AH ?_;intro bu aV;conv=>cbv
  refine AG ?_;intro aw aT;conv=>cbv
  intro aj aa;conv=>cbv
  rintro bB ⟨b6,f46⟩;conv=>cbv
  intro ar bb;conv=>cbv
  refine AH ?_;obtain⟨au,Z⟩:=AL (l:=T) (i:=(ar).toNat) (by omega);refine⟨au,fun _=>⟨by omega,Z⟩,?_⟩;try conv=>cbv
  refine g2 rfl ?_;rintro bC ⟨b7,f52⟩;conv=>cbv
  intro CW bc;conv=>cbv
  refine g2 ⟨by omega,by omega,i64 (by omega)⟩ ?_;intro bw aW;conv=>cbv
  refine AG ?_;intro ax aU;conv=>cbv
  intro aO ab;conv=>cbv
  rintro bD ⟨b8,f57⟩;conv=>cbv
  intro bE bd;conv=>cbv
  refine g2 ⟨by omega,by omega,i64 (by omega)⟩ ?_;intro bx ae;conv=>cbv
  refine AG ?_;rintro av b3 ⟨aS,a8⟩;conv=>cbv
  intro ak ad;conv=>cbv
  refine g2 rfl ?_;have a:aj=tw u:=by rw[aa,List.drop_zero,show aw=T.length-1 by omega,hT,Ci]
  have aJ:au=Ad r:=by have:=EL r u;rw[<-hT,show T.length-1=ar.toNat by omega,Z] at this;exact Option.some.inj this
  have C:aO=em u p:=by rw[ab,List.drop_zero,show ax=A.length/2 by omega,hA,Br h.red hp.mem Y.mem V]
  have D:ak=em u q:=by rw[ad,show av=A.length/2 by omega,a8,ae,List.take_length,hA,Bc h.red hp.mem Y.mem V]
  refine AB o (GM h.red.1 Y.mem D h0) ?_;conv=>cbv
  obtain⟨aY,F⟩:=xR (em u (p*p-q*q*AM u r));refine AB o (Mg h hT hA hx V hp.mem Y.mem (by omega) F) ?_;conv=>cbv
  obtain⟨aZ,d⟩:=xR (em u n);have af:=hN.sqrt h.tail hn aF;refine AB o (aM a F d) ?_;conv=>cbv
  refine Ai ?_;conv=>cbv
  obtain⟨P,G⟩:=xR (em u (p+n));refine AB o (Hu h.tail a C d hp af (by omega) (by omega) G) ?_;conv=>cbv
  obtain⟨Q,H⟩:=xR (em u (p-n));refine AB o (Ka h.tail a C d hp af (by omega) (by omega) H) ?_;conv=>cbv
  refine⟨[P,Q],fun _=>⟨rfl,by decide,rfl,⟨rfl,by first | exact t1 | exact t2 | exact t4 | simp[Aj,Ar,cells],⟨rfl,by first | exact t1 | exact t2 | exact t4 | simp[Aj,Ar,cells],trivial⟩⟩⟩,.inr ?_⟩;try conv=>cbv
  intro al z;have aQ:=z.eq;have f118:=z.le;conv=>cbv
  refine .inr ?_;obtain⟨J0,a6⟩:=xJ fun vs bl k=>∃(i':Nat) (m i:Int),vs=[.one (.sl (.sl AA) aj),.one (.sl AA ak),.one (.sl (.sl AA) [P,Q]),.one (.int .i64 m),.one (.int .i64 i)]/\(AQ m 2/\AQ i i'/\i'<=k0)/\k=2-i'
  refine⟨[],[8,11,117,118,119],[],J0,⟨2-0,by rw[a6];exact⟨0,al,0,rfl,⟨⟨z.eq⟩,An 0,by omega⟩,rfl⟩⟩,?_⟩;intro vs bl bt hj;rw[a6] at hj;obtain⟨i',m,i,rfl,⟨hM,ay,az⟩,aC⟩:=hj;conv=>cbv
  have eM:=hM.eq;have b9:=ay.eq;intro an W;conv=>cbv
  cases an <;> conv=>cbv
  ·have a1:=AW W;exact absurd a1 (by omega)
  have a1:=AY W;refine .inr ?_;obtain⟨a5,N⟩:=AL (l:=[P,Q]) (i:=i') (by show _<2;omega);refine⟨a5,fun _=>⟨by omega,by rw[show (i).toNat=i' by omega];exact N⟩,?_⟩;try conv=>cbv
  have U:a5=em u (y i'):=Vt N G H aK aL;obtain⟨b0,I⟩:=xR (em u (t*y i'));refine AB o (Sa h.tail a U (ah i') ht (by omega) I) ?_;conv=>cbv
  obtain⟨aP,c⟩:=xB (decide (i'=k0));obtain⟨S,J⟩:=xR (if i'=k0 then em u w else L i');refine AB o (eE az aG aN c J a I) ?_;conv=>cbv
  intro ao X;conv=>cbv
  cases ao <;> conv=>cbv
  ·have O:=C1 X;have aA:i'=k0:=of_decide_eq_true (c.symm.trans O);have b:S=em u w:=by rw[J,if_pos aA]
   have g:El u (s+(2*s+2*EE u.length R+R+1+GG u.length R)+1+1+EE u.length R+GG u.length R) w:=(((ah k0).half h.tail ht).sqrt h.tail hw aI);have aB:=(g.add h.red.1 g).inv h.tail hj ag;have bk:=HO u.length R (s:=s+(2*s+2*EE u.length R+R+1+GG u.length R)+1+1+EE u.length R+GG u.length R+(s+(2*s+2*EE u.length R+R+1+GG u.length R)+1+1+EE u.length R+GG u.length R)+1) (t:=2*(3*s+3*EE u.length R+R+GG u.length R+3+II u.length R R+GG u.length R)+1) (by omega);refine AB o (GM h.red.1 hw b aH) ?_;conv=>cbv
   obtain⟨b1,K⟩:=xR (em u (w+w));refine AB o (Hu h.tail a b b g g (by omega) (by omega) K) ?_;conv=>cbv
   obtain⟨b2,M⟩:=xR (em u j);refine AB o (Md h.tail a K (g.add h.red.1 g) hj ag (by omega) M) ?_;conv=>cbv
   obtain⟨a2,f⟩:=xR (em u (q*j));refine AB o (Fp h.tail a D M Y aB (by omega) f) ?_;conv=>cbv
   refine⟨[S,a2],fun _=>⟨rfl,by decide,rfl,⟨rfl,by first | exact t1 | exact t2 | exact t4 | simp[Aj,Ar,cells],⟨rfl,by first | exact t1 | exact t2 | exact t4 | simp[Aj,Ar,cells],trivial⟩⟩⟩,.inr ?_⟩;try conv=>cbv
   have aD:S.length=2^u.length:=by rw[b,Aw hw]
   have aE:a2.length=2^u.length:=by rw[f,Aw (Ag h.red.1 Y.mem hj)]
   refine AB (r:= .one (.sl AA B)) o (K7 (by omega) (by omega) (by rw[hB,b,f];exact D6 h.red hw (Ag h.red.1 Y.mem hj) rfl)) ?_;try conv=>cbv
   exact AD ⟨t2,t2,trivial⟩
  have O:=C2 X;intro aq aR;conv=>cbv
  refine AH ?_;have bm:i'≠k0:=of_decide_eq_false (c.symm.trans O);refine⟨2-(i'+1),?_,?_⟩
  ·omega
  rw[a6];exact⟨i'+1,m,aq,rfl,⟨hM,⟨by omega⟩,by omega⟩,rfl⟩
 have ai:=Ae a7;exact absurd ai (by omega)
end Go.Abs
namespace Go.Abs
open Go.RowKit
theorem SZ {t:Re} (ht:t=Re.ofRat (1/2)):2*t=1:=by
 have a:(2:Re)=Re.ofRat 2:=rfl;rw[ht,a,<-Re.ofRat_mul,show (2:Rat)*(1/2)=1 by decide +kernel];rfl
theorem PB {u:List (List Rat)} {R:Nat} (h:Aa R u):Py 258 R u:=by
 induction u with
 | nil=>
  intro s x C I;obtain⟨q,rfl⟩:=Bv.1 C.mem
  have a6:BX q:=by
   have:=C.BT (by have:=GD ([]:List (List Rat)).length R s;omega);rw[Cp] at this;exact this q List.mem_cons_self
  by_cases V:∃r:Rat,0<=r/\r*r=q
  ·obtain⟨r,F,V⟩:=V;refine .inl ⟨Re.ofRat r,FR r _,by rw[<-Re.ofRat_mul,V],?_⟩;intro T A B f d O;exact eA f (d.trans (DD q)) (O.trans (DD r)) a6 F V
  refine .inr ⟨fun I=>V (VX.1 I),[(((false,[]),(false,[])):el AA)],?_,?_⟩
  rotate_left
  ·intro T A f d;exact dz f (d.trans (DD q)) rfl a6 V
  simp
 | cons r u c=>
  have c:Py 258 R u:=c h.tail;intro s x C I;obtain⟨p,q,a,g,G⟩:=El.parts h.red C;have aq:QQ (r::u).length R s=max (QQ u.length R (3*s+3*EE u.length R+R+GG u.length R+3+II u.length R R)) (s+II u.length R (2*(3*s+3*EE u.length R+R+GG u.length R+3+II u.length R R+GG u.length R)+1)+EE u.length R):=rfl;have hQ:∀s',s'<=3*s+3*EE u.length R+R+GG u.length R+3+II u.length R R->QQ u.length R s'<=60000000000000:=fun s' h'=>Nat.le_trans (KW u.length R h') (by omega)
  have aj:=El.CK h;have ak:=B4 h.red
  by_cases F:q=0
  ·have Q:x=p:=by rw[a,F];clear c;grind
   rcases c g (hQ _ (by omega)) with⟨w,hw,b,S⟩ |⟨o,l,hl,U⟩
   ·refine .inl ⟨w,GX hw,by rw[Q];exact b,?_⟩;intro T A B f d O;exact eF h f d C a g G I F hw S O
   obtain⟨i,H,z⟩:=D8 h.red.1 (Bt h.red) (by have:=h.red.2.2.1;grind);have ae:=aj.inv h.tail H z;rcases c (g.mul h.tail ae) (hQ _ (by omega)) with⟨w,hw,b,S⟩ |⟨a2,l2,af,ah⟩
   ·refine .inl ⟨w*rt u r,By.2 ⟨0,w,Bl u,hw,by clear c;grind⟩,?_,?_⟩
    ·have:p=p*(AM u r*i):=by rw[z];clear c;grind
     rw[Q];clear c;grind
    intro T A B f d O;exact eH h f d C a g G I F H z U hw S O
   refine .inr ⟨?_,em u 0++l2,?_,?_⟩
   ·rw[Q,VU h.red g.mem];rintro (h1 |⟨i',al,a5,h1⟩)
    ·exact o h1
    have:i'=i:=by
     have:i'=i'*(AM u r*i):=by rw[z];clear c;grind
     have h2:i=i*(AM u r*i'):=by rw[a5];clear c;grind
     clear c;grind
    rw[this] at h1;exact a2 h1
   ·rw[List.length_append,Aw (Bl u),BM];omega
   intro T A f d;exact eI h f d C a g G I F H z U ah af rfl
  have hN:=El.norm h g.mem G.mem (a ▸ C);rcases c hN (hQ _ (by omega)) with⟨n,U,k,ad⟩ |⟨o,l,hl,ai⟩
  rotate_left
  ·refine .inr ⟨fun hS=>o (VZ h.red g.mem G.mem (a ▸ hS)),[],Nat.zero_le _,?_⟩;intro T A f d;exact eB h f d C a g G I F ai rfl
  have Y:=hN.sqrt h.tail U k;obtain⟨t,ht⟩:∃t:Re,t=Re.ofRat (1/2):=⟨_,rfl⟩
  have P:=SZ ht;obtain⟨y,S⟩:∃y:Nat->Re,y=fun i=>if i=0 then p+n else p-n:=⟨_,rfl⟩
  have J:y 0=p+n:=by rw[S];rfl
  have K:y 1=p-n:=by rw[S];rfl
  have M:∀i,El u (s+(2*s+2*EE u.length R+R+1+GG u.length R)+1) (y i):=fun i=>by
   rw[S]
   show El u _ (if i=0 then p+n else p-n)
   by_cases H:i=0
   ·rw[if_pos H];exact g.add h.red.1 Y
   rw[if_neg H];exact g.sub h.red.1 Y
  have N:∀(k0:Nat) (L:Nat->LR) (w:Re),k0<2->(∀i,i<k0->Fs 258 u (t*y i) (L i))->In u w->w*w=t*y k0->Ft 258 u (t*y k0) w->
    ∃w,In (r::u) w/\w*w=x/\Ft 258 (r::u) x w:=by
   intro k0 L w hk o hw b D
   have key:∃m,m*m=p*p-q*q*AM u r/\y k0=p+m:=by
    rcases (show k0=0\/k0=1 by omega) with rfl | rfl
    ·exact⟨n,k,J⟩
    exact⟨-n,by rw[<-k];clear c;grind,by rw[K];clear c;grind⟩
   obtain⟨m,W,ab⟩:=key;have a7:w≠0:=VT h.red F W P (by rw[b,ab])
   have aa:w+w≠0:=by
    intro e;have e1:2*w=0:=by clear c;grind
    rcases Re.EH e1 with e | e
    ·exact MQ e
    exact a7 e
   obtain⟨j,hj,a8⟩:=D8 h.red.1 (CQ hw hw) aa;refine⟨w+q*j*rt u r,By.2 ⟨_,_,hw,Ag h.red.1 G.mem hj,rfl⟩,?_,?_⟩
   ·rw[a];exact VS W P ak (by rw[b,ab]) a8 rfl
   intro T A B f d O;exact eC h f d C a g G I F U k ht ad J K M (by omega) o hk hw b a7 D hj a8 O
  have hb:QQ u.length R (s+(2*s+2*EE u.length R+R+1+GG u.length R)+1+1+EE u.length R)<=60000000000000:=hQ _ (by omega);rcases c ((M 0).half h.tail ht) hb with⟨w,hw,b,D⟩ |⟨Z,l0,an,X⟩
  ·exact .inl (N 0 (fun _=>[]) w (by omega) (fun i H=>by omega) hw b D)
  rcases c ((M 1).half h.tail ht) hb with⟨w,hw,b,D⟩ |⟨a1,l1,ao,ag⟩
  ·exact .inl (N 1 (fun _=>l0) w (by omega) (fun i H=>by rw[show i=0 by omega];exact X) hw b D)
  refine .inr ⟨fun hS=>?_,[],Nat.zero_le _,?_⟩
  ·rcases Va h.red g.mem G.mem (a ▸ hS) k P with e | e
   ·exact Z (by rw[J];exact e)
   exact a1 (by rw[K];exact e)
  intro T A f d
  exact eD h f d C a g G I F U k ht ad J K M (L:=fun i=>if i=0 then l0 else l1) (Nat.le_refl 2) (fun i H=>by
   rcases (show i=0\/i=1 by omega) with rfl | rfl
   ·exact X
   exact ag) rfl rfl
end Go.Abs
namespace Go.Abs
open Go.RowKit
variable {A B:LR} {R s:Nat} {T:List LR} {u:List (List Rat)} {v x:Re}
theorem RY {Q:Nat} (hl:∀x∈T,x.length<=1000000) (a5:T.length<=1000) (D:Q=T.length):CF 306 [.one (.sl (.sl AA) T)] (.one (.own (.sl AA) T Q)):=by
 refine AJ Tryz.func306 fun E X=>?_
 conv=>cbv
 rintro n7 ⟨e7,f7⟩;conv=>cbv
 refine⟨fun _=>⟨by omega,by omega,by show _*24<=140737488355328;omega⟩,?_⟩;intro G (H:List (el (.sl AA))) z;have a2:=z.1;have C:H=List.replicate G ([]:el (.sl AA)):=z.2;have V:H.length=G:=by rw[C,List.length_replicate]
 conv=>cbv
 intro I f;have U:=f.eq;have f10:=f.le;conv=>cbv
 refine .inr ?_;obtain⟨S,g⟩:=xJ fun vs K k=>∃(o:List LR) (m i':Nat) (L i:Int),vs=[.one (.AN (.sl AA) 8 0 0 m),.one (.sl (.sl AA) T),.one (.int .i64 L),.one (.int .i64 i)]/\K=[.arr 0 (.sl AA) o]/\(o.length=T.length/\m=T.length/\CM L T.length/\AQ i i'/\i'<=T.length)/\o.take i'=T.take i'/\k=T.length-i'
 refine⟨[],[3,9,10,11],[8],S,⟨T.length-0,by rw[g];exact⟨H,G,0,I,0,rfl,rfl,⟨by omega,by omega,f,An 0,by omega⟩,rfl,rfl⟩⟩,?_⟩;intro vs K a6 O;rw[g] at O;obtain⟨o,m,i',L,i,rfl,rfl,⟨ho,hm,N,Y,Z⟩,hinv,a1⟩:=O;conv=>cbv
 have eL:=N.eq;have ei:=Y.eq;intro J j;conv=>cbv
 cases J <;> conv=>cbv
 ·have F:=AW j;have c:T=o:=by rw[<-List.take_length (l:=T),<-show i'=T.length by omega,<-hinv,List.take_of_length_le (by omega)]
  exact AD ⟨⟨rfl,.inr (.inl ⟨_,_,by decide,rfl,rfl,by omega,rfl,CX (c) (by rw[D,<-c])⟩),trivial⟩,trivial⟩
 have F:=AY j;refine .inr ?_;obtain⟨b,a⟩:=AL (l:=T) (i:=i') (by omega);refine⟨b,fun _=>⟨by omega,by rw[show (i).toNat=i' by omega];exact a⟩,?_⟩;try conv=>cbv
 refine AB X (PZ (hl b (List.mem_of_getElem? a))) ?_;conv=>cbv
 refine AG ?_;intro y P;conv=>cbv
 refine⟨b,fun _=>⟨by show _<List.length (α:=(el (.sl AA))) o;(first | omega | (simp;omega)),by first | exact t1 | exact t2 | exact t4 | simp[Aj,Ar,cells]⟩,?_⟩;intro (h:List (el (.sl AA))) (d:h=List.set (α:=(el (.sl AA))) o y b);have M:h.length=o.length:=by rw[d,List.length_set]
 conv=>cbv
 intro n21 W;conv=>cbv
 refine AH ?_;refine⟨T.length-(i'+1),?_,?_⟩
 ·omega
 rw[g];refine⟨h,m,i'+1,L,n21,rfl,rfl,⟨by omega,by omega,N,⟨by omega⟩,by omega⟩,?_,rfl⟩;rw[d,show y=i' by omega,MM (by omega),hinv,<-CE a]
theorem ZA (b:∀x∈T,x.length<=1000000) (a:T.length<=1000):CF 306 [.one (.sl (.sl AA) T)] (.one (.sl (.sl AA) T)):=CP (RY b a rfl)
theorem Vs (h:Aa R u) (f:T=tw u):∀x∈T,x.length<=1000000:=by
 intro x b;rw[f,tw] at b;obtain⟨y,g,rfl⟩:=List.mem_map.1 b;obtain⟨i,a⟩:=List.mem_iff_getElem?.1 g;have c:=Iq h.red i y a;have d:=GS a;rw[List.length_reverse] at d;have h3:=h.ht;rw[List.length_map,c];exact Nat.le_trans (CT) (by decide)
theorem G3:AZ x<0↔x<0:=by
 rcases Cv x with⟨a,b⟩ |⟨a,b⟩ |⟨a,b⟩ <;> rw[b]
 ·exact⟨fun _=>a,fun _=>by decide⟩
 ·rw[a];exact⟨fun h=>absurd h (by decide),fun h=>by grind⟩
 exact⟨fun h=>absurd h (by decide),fun h=>by grind⟩
theorem cR (h:Aa R u) (y:T=tw u) (D:A=em u x) (G:El u s x) (o:Fit u.length R s) {w:Re} (hw:In u w) (c:w*w=x) (H:Ft 258 u x w) (g:0<=v) (j:v*v=x) (C:B=em u v):CF 305 [.one (.sl (.sl AA) T),.one (.sl AA A)] (.AI [(false,[.sl AA B]),(false,[.bool true])]):=by
 have k:=G.sqrt h hw c;refine AJ Tryz.func305 fun E m=>?_
 conv=>cbv
 obtain⟨J,a⟩:=xR (em u w);refine AB m (H y D a) ?_;conv=>cbv
 refine Ai ?_;conv=>cbv
 obtain⟨I,f⟩:=xI (AZ w);refine AB m (JD h y a k o.v o.vR f) ?_;conv=>cbv
 intro n19 d;conv=>cbv
 refine .inr ?_;cases n19 <;> conv=>cbv
 ·have z:=AW d;exact AD ⟨⟨rfl,congrArg _ (by rw[C,a];congr 1;have:¬w<0:=(fun F=>by have:=G3.2 F;omega);exact Re.Iv g (by grind) (j.trans c.symm)),trivial⟩,t2,trivial⟩
 have z:=AY d;obtain⟨K,b⟩:=xR (em u (-w));refine AB m (Pr h y a k (Nat.le_trans (Eb u.length R _) o.v) b) ?_;conv=>cbv
 exact AD ⟨⟨rfl,congrArg _ (by rw[C,b];congr 1;have:w<0:=G3.1 (by omega);exact Re.Iv g (by grind) (by rw[j,<-c];grind)),trivial⟩,t2,trivial⟩
theorem cQ (h:Aa R u) (d:T=tw u) (a:A=em u x) (j:El u s x) (g:Fit u.length R s) {l:LR} (f:Fs 258 u x l) (b:B=[]):CF 305 [.one (.sl (.sl AA) T),.one (.sl AA A)] (.AI [(false,[.sl AA B]),(false,[.bool false])]):=by
 refine AJ Tryz.func305 fun E c=>?_
 conv=>cbv
 refine AB c (f d a) ?_;conv=>cbv
 refine Bu ?_;conv=>cbv
 exact AD ⟨⟨rfl,.inr (.inl ⟨_,congrArg _ (b)⟩),trivial⟩,t2,trivial⟩
theorem cS (h:Aa R u) (m:T=tw u) (j:A=em u x) (g:El u s x) (f:Fit u.length R s) (o:In u v) (c:0<=v) (a:v*v=x) (k:B=em u v):CF 305 [.one (.sl (.sl AA) T),.one (.sl AA A)] (.AI [(false,[.sl AA B]),(false,[.bool true])]):=by
 rcases PB h g f.q with⟨w,hw,d,y⟩ |⟨b,_⟩
 ·exact cR h m j g f hw d y c a k
 exact absurd ⟨v,o,a⟩ b
theorem cP (h:Aa R u) (j:T=tw u) (f:A=em u x) (d:El u s x) (c:Fit u.length R s) (a:¬Sq u x) (g:B=[]):CF 305 [.one (.sl (.sl AA) T),.one (.sl AA A)] (.AI [(false,[.sl AA B]),(false,[.bool false])]):=by
 rcases PB h d c.q with⟨w,hw,b,m⟩ |⟨_,l,_,k⟩
 ·exact absurd ⟨w,hw,b⟩ a
 exact cQ h j f d c k g
theorem Pv (h:Aa R u) (D:T=tw u) (hv:VV u.length R R<=60000000000000) (hq:QQ u.length R R<=60000000000000):CF 139 [.one (.sl (.sl AA) T)] (.one (.bool true)):=by
 have ad:T.length=u.length:=by rw[D,BN]
 have hR:=h.hR;refine AJ Tryz.func139 fun E Q=>?_
 conv=>cbv
 intro n8 P;have e8:=P.eq;have f8:=P.le;conv=>cbv
 refine .inr ?_;obtain⟨J0,f⟩:=xJ fun vs bl k=>∃(i':Nat) (L i:Int),vs=[.one (.sl (.sl AA) T),.one (.sl (.sl AA) T),.one (.int .i64 L),.one (.int .i64 i)]/\(CM L T.length/\AQ i i'/\i'<=T.length)/\k=T.length-i'
 refine⟨[],[0,7,8,9],[],J0,⟨T.length-0,by rw[f];exact⟨0,n8,0,rfl,⟨P,An 0,by omega⟩,rfl⟩⟩,?_⟩;intro vs bl ag hj;rw[f] at hj;obtain⟨i',L,i,rfl,⟨hL,hi,ae⟩,af⟩:=hj;conv=>cbv
 have eL:=hL.eq;have ei:=hi.eq;intro Z z;conv=>cbv
 cases Z <;> conv=>cbv
 ·have V:=AW z;exact AD ⟨t2,trivial⟩
 have V:=AY z;refine .inr ?_;obtain⟨y,d⟩:=AL (l:=T) (i:=i') (by omega);refine⟨y,fun _=>⟨by omega,by rw[show (i).toNat=i' by omega];exact d⟩,?_⟩;try conv=>cbv
 obtain⟨r,J,I⟩:=Hk (u:=u) (i:=i') (by omega);have o:AS (r::pre u i'):=J ▸ (h.pre (i'+1)).red;have S:y=Ad r:=by rw[<-D,d] at I;exact Option.some.inj I
 have a:y=em (pre u i') (AM (pre u i') r):=S.trans (DR o);have b:El (pre u i') R (AM (pre u i') r):=El.CK (J ▸ h.pre (i'+1));intro ah a7;conv=>cbv
 refine AG ?_;intro M a2;conv=>cbv
 intro W F;conv=>cbv
 have g:W=tw (pre u i'):=by rw[F,List.drop_zero,show M=i' by omega,D,Gd]
 refine AB (r:= .one (.bool true)) Q (GC g (h.pre i').E1 a (b.BT hR) (by rw[b.len,List.length_reverse];exact (decide_eq_true rfl).symm)) ?_;try conv=>cbv
 refine Ai ?_;conv=>cbv
 intro ai a8;conv=>cbv
 refine AG ?_;intro N a5;conv=>cbv
 intro X G;conv=>cbv
 have j:X=tw (pre u i'):=by rw[G,List.drop_zero,show N=i' by omega,D,Gd]
 obtain⟨a1,c⟩:=xI (AZ (AM (pre u i') r));refine AB (r:= .one (.int .i64 a1)) Q (JD (h.pre i') j a b (by rw[HA (by omega)];exact Nat.le_trans (JF (by omega) R R) hv) (by rw[HA (by omega)];exact Nat.le_trans (JF (by omega) R R) hv) c) ?_;try conv=>cbv
 intro n26 C;conv=>cbv
 cases n26 <;> conv=>cbv
 ·have K:=Cr C;intro aj aa;conv=>cbv
  refine AG ?_;intro O a6;conv=>cbv
  intro Y H;conv=>cbv
  have m:Y=tw (pre u i'):=by rw[H,List.drop_zero,show O=i' by omega,D,Gd]
  obtain⟨l,hl,hn⟩:=((PB (h.pre i') b (by rw[HA (by omega)];exact Nat.le_trans (Wg (by omega) R R) hq)).resolve_left (fun⟨w,hw,U,_⟩=>o.2.2.2 ⟨w,hw,U⟩)).2;refine AB Q (hn m a) ?_;conv=>cbv
  intro n37 ab;conv=>cbv
  refine AH ?_;refine⟨T.length-(i'+1),?_,?_⟩
  ·omega
  rw[f];exact⟨i'+1,L,n37,rfl,⟨hL,⟨by omega⟩,by omega⟩,rfl⟩
 have K:=Cs C;exact absurd K (by rw[c,FE o.2.2.1];omega)
theorem YI (h:Aa R u) (b:T=tw u) (k:A=em u x) (j:El u s x) (a:Fit u.length R s) (F:In u v) (m:0<=v) (g:v*v=x) (z:B=em u v):CF 230 [.one (.sl (.sl AA) T),.one (.sl AA A)] (.AI [(false,[.sl (.sl AA) T]),(false,[.sl AA B]),(false,[.int .i64 0])]):=by
 have C:T.length=u.length:=by rw[b,BN]
 have D:=h.ht;have o:¬x<0:=by rw[<-g];have:=Re.Fh v;grind
 refine AJ Tryz.func230 fun E d=>?_
 conv=>cbv
 refine .inr ?_;refine AB (r:= .one (.bool true)) d (GC b h.E1 k (j.BT a.s) (by rw[j.len,List.length_reverse];exact (decide_eq_true rfl).symm)) ?_;try conv=>cbv
 refine Ai ?_;conv=>cbv
 refine AB d (Pv h b a.vR a.qR) ?_;conv=>cbv
 refine Ai ?_;conv=>cbv
 obtain⟨G,f⟩:=xI (AZ x);refine AB d (JD h b k j a.v0 a.vR f) ?_;conv=>cbv
 intro n24 c;conv=>cbv
 cases n24 <;> conv=>cbv
 ·have y:=AW c;refine AB d (cS h b k j a F m g z) ?_;conv=>cbv
  refine AB d (ZA (Vs h b) (by omega)) ?_;conv=>cbv
  exact AD ⟨t2,t2,t2,trivial⟩
 have y:=AY c;exact absurd ((G3 (x:=x)).1 (by omega)) o
theorem YJ (h:Aa R u) (d:T=tw u) (m:A=em u x) (D:El u s x) (g:Fit u.length R s) {R':Nat} {r:List Rat} {T2:List LR} (X:u.length<8) (U:0<=x) (J:¬Sq u x) (S:r=co u x) (h':Aa R' (r::u)) (H:T2=tw (r::u)) (P:B=em (r::u) (rt u r)):CF 230 [.one (.sl (.sl AA) T),.one (.sl AA A)] (.AI [(false,[.sl (.sl AA) T2]),(false,[.sl AA B]),(false,[.int .i64 0])]):=by
 have I:T.length=u.length:=by rw[d,BN]
 have Q:=h.ht;refine AJ Tryz.func230 fun E c=>?_
 conv=>cbv
 refine .inr ?_;refine AB (r:= .one (.bool true)) c (GC d h.E1 m (D.BT g.s) (by rw[D.len,List.length_reverse];exact (decide_eq_true rfl).symm)) ?_;try conv=>cbv
 refine Ai ?_;conv=>cbv
 refine AB c (Pv h d g.vR g.qR) ?_;conv=>cbv
 refine Ai ?_;conv=>cbv
 obtain⟨W,z⟩:=xI (AZ x);refine AB c (JD h d m D g.v0 g.vR z) ?_;conv=>cbv
 intro n24 j;conv=>cbv
 cases n24 <;> conv=>cbv
 ·have K:=AW j;refine AB c (cP h d m D g J rfl) ?_;conv=>cbv
  rintro n36 ⟨N,f36⟩;conv=>cbv
  intro n37 k;conv=>cbv
  cases n37 <;> conv=>cbv
  ·have F:=Dm k;obtain⟨Y,C⟩:=xN T.length;refine AB c (RY (Vs h d) (by omega) C) ?_;conv=>cbv
   have O:A.length=2^u.length:=by rw[m,Aw D.mem]
   have M:=CT h.ht;refine AB c (PZ (by omega)) ?_;conv=>cbv
   refine⟨[A],fun _=>⟨rfl,by decide,rfl,⟨rfl,by first | exact t1 | exact t2 | exact t4 | simp[Aj,Ar,cells],trivial⟩⟩,.inr ?_⟩;try conv=>cbv
   refine .inr (.inl ⟨[A],fun _=>⟨rfl,by rw[C],rfl,by show (T.length+1)*24<=140737488355328;(try simp only[List.length_take,List.length_drop]);omega⟩,?_⟩);intro (f:List (el (.sl AA))) L b;have o:f=(T:List (el (.sl AA)))++([A]:List (el (.sl AA))):=b.1;have y:L=List.length (α:=(el (.sl AA))) f:=b.2;conv=>cbv
   refine⟨fun _=>y,?_⟩;rintro V ⟨G,f47⟩;conv=>cbv
   have a:f=tw (r::u):=by rw[o,d,KP,m,em,S]
   refine AB c (Wr h' a (AQ.of (G.trans (congrArg _ I))) P) ?_;conv=>cbv
   exact AD ⟨⟨rfl,congrArg _ (by rw[H,a]),trivial⟩,t2,t2,trivial⟩
  have F:=Dn k;exact absurd F (by omega)
 have K:=AY j;exact absurd ((G3 (x:=x)).1 (by omega)) (by grind)
end Go.Abs
