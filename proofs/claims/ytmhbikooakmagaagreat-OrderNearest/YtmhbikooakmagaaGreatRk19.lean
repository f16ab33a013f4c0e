/- Part 20 of a proof. Conditions: each theorem's own. -/
import Derived.Test.YtmhbikooakmagaaGreatRk18
set_option linter.all false
set_option maxHeartbeats 8000000
set_option maxRecDepth 20000
open Go.Proofs
namespace Go.Abs
open Go.RowKit
variable {A B l:LR} {R k0 s:Nat} {T:List LR} {i n p q t w x:Re} {r:List Rat} {u:List (List Rat)}
theorem Wb {C:LR} {y:Re} (h:Ae R u) (f:T=tw u) (g:A=em u y) (k:El u s y) (ht:t=Re.ofRat (1/2)) (hs:s+1+EE u.length R<=60000000000000) (j:C=em u (t*y)):CF 332 [.one (.sl (.sl AA) T),.one (.sl AA A)] (.one (.sl AA C)):=by
 refine AJ Tryz.func332 fun E c=>?_
 conv=>cbv
 obtain⟨D,F,o,z,b⟩:=Be (1/2:Rat);refine AB c (TC (by omega) (by omega) (by omega) (by decide +kernel) b) ?_;conv=>cbv
 obtain⟨m,a⟩:=xR (em u (t));refine AB (r:= .one (.sl AA m)) c (Iw h f b ⟨by decide +kernel,by decide +kernel⟩ (a.trans (by rw[ht]))) ?_;conv=>cbv
 have d:El u 1 t:=ht ▸ El.rat h.red LU;refine AB (r:= .one (.sl AA C)) c (G3 h f g a k d hs (by rw[j];congr 1;grind)) ?_;try conv=>cbv
 exact AD ⟨t2,trivial⟩
theorem nH {q r:Rat} (F:T=[]) (o:A=[rp q]) (C:B=[rp r]) (hs:Bu q) (y:0<=r) (H:r*r=q):CF 258 [.one (.sl (.sl AA) T),.one (.sl AA A)] (.AG [(false,[.sl AA B]),(false,[.bool true])]):=by
 refine AJ Tryz.func258 fun E D=>?_
 conv=>cbv
 rintro n27 ⟨k,f27⟩;conv=>cbv
 intro n28 c;conv=>cbv
 cases n28 <;> conv=>cbv
 ·have d:=Ah c;exact absurd (by rw[k,F];rfl) d
 have d:=Aj c;have z:A.length=1:=by rw[o];rfl
 obtain⟨m,a⟩:=AK (l:=A) (i:=0) (by omega);refine⟨m,fun _=>⟨by omega,a⟩,?_⟩;try conv=>cbv
 have G:=Eh o a;obtain⟨h,j,f,g,b⟩:=Be r;refine AB D (bm G hs y H b) ?_;conv=>cbv
 refine⟨[((h,j),(f,g))],fun _=>⟨rfl,by decide,rfl,⟨rfl,by first | exact t1 | exact t2 | exact t4 | simp[Ao,BA,cells],trivial⟩⟩,.inl ?_⟩;try conv=>cbv
 exact AD ⟨⟨rfl,.inl ⟨_,rfl,by simp,congrArg _ (by rw[C,b.rp];rfl)⟩,trivial⟩,t2,trivial⟩
theorem nG {q:Rat} (m:T=[]) (g:A=[rp q]) (j:B=[(((false,[]),(false,[])):el AA)]) (hs:Bu q) (y:¬∃r:Rat,0<=r/\r*r=q):CF 258 [.one (.sl (.sl AA) T),.one (.sl AA A)] (.AG [(false,[.sl AA B]),(false,[.bool false])]):=by
 refine AJ Tryz.func258 fun E k=>?_
 conv=>cbv
 rintro n27 ⟨d,f27⟩;conv=>cbv
 intro n28 b;conv=>cbv
 cases n28 <;> conv=>cbv
 ·have c:=Ah b;exact absurd (by rw[d,m];rfl) c
 have c:=Aj b;have h:A.length=1:=by rw[g];rfl
 obtain⟨f,a⟩:=AK (l:=A) (i:=0) (by omega);refine⟨f,fun _=>⟨by omega,a⟩,?_⟩;try conv=>cbv
 have o:=Eh g a;refine AB k (bj o hs y) ?_;conv=>cbv
 refine⟨[((false,[]),(false,[]))],fun _=>⟨rfl,by decide,rfl,⟨rfl,by first | exact t1 | exact t2 | exact t4 | simp[Ao,BA,cells],trivial⟩⟩,.inl ?_⟩;try conv=>cbv
 exact AD ⟨⟨rfl,.inl ⟨_,rfl,by simp,congrArg _ (by rw[j];rfl)⟩,trivial⟩,t2,trivial⟩
def G6 (f:FuncId) (u:List (List Rat)) (x w:Re):Prop:=∀{T:List LR} {A B:LR},T=tw u->A=em u x->B=em u w->CF f [.one (.sl (.sl AA) T),.one (.sl AA A)] (.AG [(false,[.sl AA B]),(false,[.bool true])])
def G5 (f:FuncId) (u:List (List Rat)) (x:Re) (l:LR):Prop:=∀{T:List LR} {A:LR},T=tw u->A=em u x->CF f [.one (.sl (.sl AA) T),.one (.sl AA A)] (.AG [(false,[.sl AA l]),(false,[.bool false])])
def Ta (f:FuncId) (R:Nat) (u:List (List Rat)):Prop:=∀{s:Nat} {x:Re},El u s x->QQ u.length R s<=60000000000000->(∃w,In u w/\w*w=x/\G6 f u x w)\/(¬Sq u x/\∃l,l.length<=2^u.length/\G5 f u x l)
theorem nM (h:Ae R (r::u)) (P:T=tw (r::u)) (O:A=em (r::u) x) (hx:El (r::u) s x) (F:x=p+q*rt u r) (hp:El u s p) (Q:El u s q) (hs:QQ (r::u).length R s<=60000000000000) (h0:q=0) (hw:In u w) (hy:G6 258 u p w) (hB:B=em (r::u) w):CF 258 [.one (.sl (.sl AA) T),.one (.sl AA A)] (.AG [(false,[.sl AA B]),(false,[.bool true])]):=by
 have au:T.length=u.length+1:=by rw[P,Bb];rfl
 have ar:A.length=2^u.length+2^u.length:=by rw[O,BJ hx.mem,Bk]
 have az:=El.Cv h;have aA:=Cb h.red;have a8:=DD h.tail.ht;have aw:=De u.length;have S:El u 0 0:=El.rat h.red.1 Hf;have ax:QQ (r::u).length R s=max (QQ u.length R (3*s+3*EE u.length R+R+GG u.length R+3+II u.length R R)) (s+II u.length R (2*(3*s+3*EE u.length R+R+GG u.length R+3+II u.length R R+GG u.length R)+1)+EE u.length R):=rfl;have ay:=HW u.length R (3*s+3*EE u.length R+R+GG u.length R+3+II u.length R R);have av:=ET u.length R (2*(3*s+3*EE u.length R+R+GG u.length R+3+II u.length R R+GG u.length R)+1);refine AJ Tryz.func258 fun E m=>?_
 conv=>cbv
 rintro n27 ⟨ag,f27⟩;conv=>cbv
 intro n28 k;conv=>cbv
 cases n28 <;> conv=>cbv
 ·have G:=Ah k;rintro n41 ⟨ah,f41⟩;conv=>cbv
  intro n42 al;conv=>cbv
  refine AI ?_;intro aB a6;conv=>cbv
  refine AH ?_;intro M Z;conv=>cbv
  intro V y;conv=>cbv
  rintro n46 ⟨ai,f46⟩;conv=>cbv
  intro H an;conv=>cbv
  refine AI ?_;obtain⟨K,d⟩:=AK (l:=T) (i:=(H).toNat) (by omega);refine⟨K,fun _=>⟨by omega,d⟩,?_⟩;try conv=>cbv
  refine g2 rfl ?_;rintro n52 ⟨aj,f52⟩;conv=>cbv
  intro C1 ao;conv=>cbv
  refine g2 ⟨by omega,by omega,i64 (by omega)⟩ ?_;intro aC a7;conv=>cbv
  refine AH ?_;intro N a1;conv=>cbv
  intro W z;conv=>cbv
  rintro aE ⟨ak,f57⟩;conv=>cbv
  intro aF aq;conv=>cbv
  refine g2 ⟨by omega,by omega,i64 (by omega)⟩ ?_;intro aD D;conv=>cbv
  refine AH ?_;rintro L af ⟨Y,o⟩;conv=>cbv
  intro X C;conv=>cbv
  refine g2 rfl ?_;have a:V=tw u:=by rw[y,List.drop_zero,show M=T.length-1 by omega,P,DT]
  have U:K=Aa r:=by have:=E5 r u;rw[<-P,show T.length-1=H.toNat by omega,d] at this;exact Option.some.inj this
  have g:W=em u p:=by rw[z,List.drop_zero,show N=A.length/2 by omega,O,CM h.red hp.mem Q.mem F]
  have j:X=em u q:=by rw[C,show L=A.length/2 by omega,o,D,List.take_length,O,CA h.red hp.mem Q.mem F]
  refine AB m (I6 h.red.1 Q.mem j h0) ?_;conv=>cbv
  obtain⟨I,b⟩:=xR (em u w);refine AB m (hy a g b) ?_;conv=>cbv
  obtain⟨ad,ae,aa,ab,f⟩:=Be (((0:Int):Rat));refine AB m (G4 (by omega) rfl f) ?_;conv=>cbv
  obtain⟨J,c⟩:=xR (em u (0));refine AB m (Iw h.tail a f ⟨by decide +kernel,by decide +kernel⟩ c) ?_;conv=>cbv
  refine⟨[I,J],fun _=>⟨rfl,by decide,rfl,⟨rfl,by first | exact t1 | exact t2 | exact t4 | simp[Ao,BA,cells],⟨rfl,by first | exact t1 | exact t2 | exact t4 | simp[Ao,BA,cells],trivial⟩⟩⟩,.inr ?_⟩;try conv=>cbv
  have a2:I.length=2^u.length:=by rw[b,BJ hw]
  have a5:J.length=2^u.length:=by rw[c,BJ S.mem]
  refine AB (r:= .one (.sl AA B)) m (Nj (by omega) (by omega) (by rw[hB,b,c];exact En h.red hw (Bx u) (by grind))) ?_;try conv=>cbv
  exact AD ⟨t2,t2,trivial⟩
 have G:=Aj k;exact absurd G (by omega)
theorem nN (h:Ae R (r::u)) (W:T=tw (r::u)) (V:A=em (r::u) x) (hx:El (r::u) s x) (K:x=p+q*rt u r) (Y:El u s p) (Z:El u s q) (hs:QQ (r::u).length R s<=60000000000000) (h0:q=0) (hi:In u i) (I:AM u r*i=1) (hn:G5 258 u p l) (hw:In u w) (hy:G6 258 u (p*i) w) (hB:B=em (r::u) (w*rt u r)):CF 258 [.one (.sl (.sl AA) T),.one (.sl AA A)] (.AG [(false,[.sl AA B]),(false,[.bool true])]):=by
 have aA:T.length=u.length+1:=by rw[W,Bb];rfl
 have az:A.length=2^u.length+2^u.length:=by rw[V,BJ hx.mem,Bk]
 have J:=El.Cv h;have aF:=Cb h.red;have ag:=DD h.tail.ht;have aC:=De u.length;have a1:El u 0 0:=El.rat h.red.1 Hf;have aD:QQ (r::u).length R s=max (QQ u.length R (3*s+3*EE u.length R+R+GG u.length R+3+II u.length R R)) (s+II u.length R (2*(3*s+3*EE u.length R+R+GG u.length R+3+II u.length R R+GG u.length R)+1)+EE u.length R):=rfl;have aE:=HW u.length R (3*s+3*EE u.length R+R+GG u.length R+3+II u.length R R);have aB:=ET u.length R (2*(3*s+3*EE u.length R+R+GG u.length R+3+II u.length R R+GG u.length R)+1);refine AJ Tryz.func258 fun E f=>?_
 conv=>cbv
 rintro n27 ⟨an,f27⟩;conv=>cbv
 intro n28 z;conv=>cbv
 cases n28 <;> conv=>cbv
 ·have L:=Ah z;rintro n41 ⟨ao,f41⟩;conv=>cbv
  intro n42 av;conv=>cbv
  refine AI ?_;intro aG ae;conv=>cbv
  refine AH ?_;intro S a8;conv=>cbv
  intro a2 D;conv=>cbv
  rintro n46 ⟨aq,f46⟩;conv=>cbv
  intro M aw;conv=>cbv
  refine AI ?_;obtain⟨P,k⟩:=AK (l:=T) (i:=(M).toNat) (by omega);refine⟨P,fun _=>⟨by omega,k⟩,?_⟩;try conv=>cbv
  refine g2 rfl ?_;rintro n52 ⟨ar,f52⟩;conv=>cbv
  intro C1 ax;conv=>cbv
  refine g2 ⟨by omega,by omega,i64 (by omega)⟩ ?_;intro aH af;conv=>cbv
  refine AH ?_;intro U aa;conv=>cbv
  intro a5 F;conv=>cbv
  rintro aJ ⟨au,f57⟩;conv=>cbv
  intro aK ay;conv=>cbv
  refine g2 ⟨by omega,by omega,i64 (by omega)⟩ ?_;intro aI H;conv=>cbv
  refine AH ?_;rintro Q al ⟨a7,C⟩;conv=>cbv
  intro a6 G;conv=>cbv
  refine g2 rfl ?_;have a:a2=tw u:=by rw[D,List.drop_zero,show S=T.length-1 by omega,W,DT]
  have y:P=Aa r:=by have:=E5 r u;rw[<-W,show T.length-1=M.toNat by omega,k] at this;exact Option.some.inj this
  have b:a5=em u p:=by rw[F,List.drop_zero,show U=A.length/2 by omega,V,CM h.red Y.mem Z.mem K]
  have o:a6=em u q:=by rw[G,show Q=A.length/2 by omega,C,H,List.take_length,V,CA h.red Y.mem Z.mem K]
  refine AB f (I6 h.red.1 Z.mem o h0) ?_;conv=>cbv
  refine AB f (hn a b) ?_;conv=>cbv
  obtain⟨aL,g⟩:=xR (em u i);have X:=J.inv h.tail hi I;refine AB f (Mx h.tail a (y.trans (EG h.red)) J hi I (by omega) g) ?_;conv=>cbv
  refine AU ?_;conv=>cbv
  obtain⟨aM,j⟩:=xR (em u (p*i));refine AB f (G3 h.tail a b g Y X (by omega) j) ?_;conv=>cbv
  obtain⟨N,c⟩:=xR (em u w);refine AB f (hy a j c) ?_;conv=>cbv
  obtain⟨aj,ak,ah,ai,m⟩:=Be (((0:Int):Rat));refine AB f (G4 (by omega) rfl m) ?_;conv=>cbv
  obtain⟨O,d⟩:=xR (em u (0));refine AB f (Iw h.tail a m ⟨by decide +kernel,by decide +kernel⟩ d) ?_;conv=>cbv
  refine⟨[O,N],fun _=>⟨rfl,by decide,rfl,⟨rfl,by first | exact t1 | exact t2 | exact t4 | simp[Ao,BA,cells],⟨rfl,by first | exact t1 | exact t2 | exact t4 | simp[Ao,BA,cells],trivial⟩⟩⟩,.inr ?_⟩;try conv=>cbv
  have ab:N.length=2^u.length:=by rw[c,BJ hw]
  have ad:O.length=2^u.length:=by rw[d,BJ a1.mem]
  refine AB (r:= .one (.sl AA B)) f (Nj (by omega) (by omega) (by rw[hB,c,d];exact En h.red (Bx u) hw (by grind))) ?_;try conv=>cbv
  exact AD ⟨t2,t2,trivial⟩
 have L:=Aj z;exact absurd L (by omega)
theorem nO (h:Ae R (r::u)) (U:T=tw (r::u)) (S:A=em (r::u) x) (hx:El (r::u) s x) (J:x=p+q*rt u r) (W:El u s p) (X:El u s q) (hs:QQ (r::u).length R s<=60000000000000) {l2:LR} (h0:q=0) (hi:In u i) (H:AM u r*i=1) (hn:G5 258 u p l) (hy:G5 258 u (p*i) l2) (az:l2.length<=2^u.length) (hB:B=em u 0++l2):CF 258 [.one (.sl (.sl AA) T),.one (.sl AA A)] (.AG [(false,[.sl AA B]),(false,[.bool false])]):=by
 have ax:T.length=u.length+1:=by rw[U,Bb];rfl
 have aw:A.length=2^u.length+2^u.length:=by rw[S,BJ hx.mem,Bk]
 have I:=El.Cv h;have aD:=Cb h.red;have ad:=DD h.tail.ht;have aA:=De u.length;have Y:El u 0 0:=El.rat h.red.1 Hf;have aB:QQ (r::u).length R s=max (QQ u.length R (3*s+3*EE u.length R+R+GG u.length R+3+II u.length R R)) (s+II u.length R (2*(3*s+3*EE u.length R+R+GG u.length R+3+II u.length R R+GG u.length R)+1)+EE u.length R):=rfl;have aC:=HW u.length R (3*s+3*EE u.length R+R+GG u.length R+3+II u.length R R);have ay:=ET u.length R (2*(3*s+3*EE u.length R+R+GG u.length R+3+II u.length R R+GG u.length R)+1);refine AJ Tryz.func258 fun E d=>?_
 conv=>cbv
 rintro n27 ⟨aj,f27⟩;conv=>cbv
 intro n28 y;conv=>cbv
 cases n28 <;> conv=>cbv
 ·have K:=Ah y;rintro n41 ⟨ak,f41⟩;conv=>cbv
  intro n42 aq;conv=>cbv
  refine AI ?_;intro aE aa;conv=>cbv
  refine AH ?_;intro P a6;conv=>cbv
  intro Z C;conv=>cbv
  rintro n46 ⟨al,f46⟩;conv=>cbv
  intro L ar;conv=>cbv
  refine AI ?_;obtain⟨N,j⟩:=AK (l:=T) (i:=(L).toNat) (by omega);refine⟨N,fun _=>⟨by omega,j⟩,?_⟩;try conv=>cbv
  refine g2 rfl ?_;rintro n52 ⟨an,f52⟩;conv=>cbv
  intro C1 au;conv=>cbv
  refine g2 ⟨by omega,by omega,i64 (by omega)⟩ ?_;intro aF ab;conv=>cbv
  refine AH ?_;intro Q a7;conv=>cbv
  intro a1 D;conv=>cbv
  rintro aH ⟨ao,f57⟩;conv=>cbv
  intro aI av;conv=>cbv
  refine g2 ⟨by omega,by omega,i64 (by omega)⟩ ?_;intro aG G;conv=>cbv
  refine AH ?_;rintro O ai ⟨a5,z⟩;conv=>cbv
  intro a2 F;conv=>cbv
  refine g2 rfl ?_;have a:Z=tw u:=by rw[C,List.drop_zero,show P=T.length-1 by omega,U,DT]
  have o:N=Aa r:=by have:=E5 r u;rw[<-U,show T.length-1=L.toNat by omega,j] at this;exact Option.some.inj this
  have b:a1=em u p:=by rw[D,List.drop_zero,show Q=A.length/2 by omega,S,CM h.red W.mem X.mem J]
  have m:a2=em u q:=by rw[F,show O=A.length/2 by omega,z,G,List.take_length,S,CA h.red W.mem X.mem J]
  refine AB d (I6 h.red.1 X.mem m h0) ?_;conv=>cbv
  refine AB d (hn a b) ?_;conv=>cbv
  obtain⟨aJ,f⟩:=xR (em u i);have V:=I.inv h.tail hi H;refine AB d (Mx h.tail a (o.trans (EG h.red)) I hi H (by omega) f) ?_;conv=>cbv
  refine AU ?_;conv=>cbv
  obtain⟨aK,g⟩:=xR (em u (p*i));refine AB d (G3 h.tail a b f W V (by omega) g) ?_;conv=>cbv
  refine AB d (hy a g) ?_;conv=>cbv
  obtain⟨ag,ah,ae,af,k⟩:=Be (((0:Int):Rat));refine AB d (G4 (by omega) rfl k) ?_;conv=>cbv
  obtain⟨M,c⟩:=xR (em u (0));refine AB d (Iw h.tail a k ⟨by decide +kernel,by decide +kernel⟩ c) ?_;conv=>cbv
  refine⟨[M,l2],fun _=>⟨rfl,by decide,rfl,⟨rfl,by first | exact t1 | exact t2 | exact t4 | simp[Ao,BA,cells],⟨rfl,by first | exact t1 | exact t2 | exact t4 | simp[Ao,BA,cells],trivial⟩⟩⟩,.inr ?_⟩;try conv=>cbv
  have a8:M.length=2^u.length:=by rw[c,BJ Y.mem]
  refine AB (r:= .one (.sl AA B)) d (Nj (by omega) (by omega) (by rw[hB,c])) ?_;conv=>cbv
  exact AD ⟨t2,t2,trivial⟩
 have K:=Aj y;exact absurd K (by omega)
theorem nI (h:Ae R (r::u)) (G:T=tw (r::u)) (F:A=em (r::u) x) (hx:El (r::u) s x) (f:x=p+q*rt u r) (N:El u s p) (H:El u s q) (hs:QQ (r::u).length R s<=60000000000000) (h0:q≠0) (hn:G5 258 u (p*p-q*q*AM u r) l) (hB:B=[]):CF 258 [.one (.sl (.sl AA) T),.one (.sl AA A)] (.AG [(false,[.sl AA B]),(false,[.bool false])]):=by
 have ah:T.length=u.length+1:=by rw[G,Bb];rfl
 have ag:A.length=2^u.length+2^u.length:=by rw[F,BJ hx.mem,Bk]
 have an:=El.Cv h;have ao:=Cb h.red;have Z:=DD h.tail.ht;have aj:=De u.length;have aq:El u 0 0:=El.rat h.red.1 Hf;have ak:QQ (r::u).length R s=max (QQ u.length R (3*s+3*EE u.length R+R+GG u.length R+3+II u.length R R)) (s+II u.length R (2*(3*s+3*EE u.length R+R+GG u.length R+3+II u.length R R+GG u.length R)+1)+EE u.length R):=rfl;have al:=HW u.length R (3*s+3*EE u.length R+R+GG u.length R+3+II u.length R R);have ai:=ET u.length R (2*(3*s+3*EE u.length R+R+GG u.length R+3+II u.length R R+GG u.length R)+1);refine AJ Tryz.func258 fun E L=>?_
 conv=>cbv
 rintro n27 ⟨a5,f27⟩;conv=>cbv
 intro n28 g;conv=>cbv
 cases n28 <;> conv=>cbv
 ·have z:=Ah g;rintro n41 ⟨a6,f41⟩;conv=>cbv
  intro n42 ab;conv=>cbv
  refine AI ?_;intro ar X;conv=>cbv
  refine AH ?_;intro J V;conv=>cbv
  intro P k;conv=>cbv
  rintro n46 ⟨a7,f46⟩;conv=>cbv
  intro C ad;conv=>cbv
  refine AI ?_;obtain⟨D,b⟩:=AK (l:=T) (i:=(C).toNat) (by omega);refine⟨D,fun _=>⟨by omega,b⟩,?_⟩;try conv=>cbv
  refine g2 rfl ?_;rintro n52 ⟨a8,f52⟩;conv=>cbv
  intro C1 ae;conv=>cbv
  refine g2 ⟨by omega,by omega,i64 (by omega)⟩ ?_;intro au Y;conv=>cbv
  refine AH ?_;intro K W;conv=>cbv
  intro Q m;conv=>cbv
  rintro aw ⟨aa,f57⟩;conv=>cbv
  intro ax af;conv=>cbv
  refine g2 ⟨by omega,by omega,i64 (by omega)⟩ ?_;intro av y;conv=>cbv
  refine AH ?_;rintro I a2 ⟨U,j⟩;conv=>cbv
  intro S o;conv=>cbv
  refine g2 rfl ?_;have c:P=tw u:=by rw[k,List.drop_zero,show J=T.length-1 by omega,G,DT]
  have O:D=Aa r:=by have:=E5 r u;rw[<-G,show T.length-1=C.toNat by omega,b] at this;exact Option.some.inj this
  have M:Q=em u p:=by rw[m,List.drop_zero,show K=A.length/2 by omega,F,CM h.red N.mem H.mem f]
  have d:S=em u q:=by rw[o,show I=A.length/2 by omega,j,y,List.take_length,F,CA h.red N.mem H.mem f]
  refine AB L (Hd h.red.1 H.mem d h0) ?_;conv=>cbv
  obtain⟨a1,a⟩:=xR (em u (p*p-q*q*AM u r));refine AB L (PZ h G F hx f N.mem H.mem (by omega) a) ?_;conv=>cbv
  refine AB L (hn c a) ?_;conv=>cbv
  refine Bc ?_;conv=>cbv
  exact AD ⟨⟨rfl,.inr (.inl ⟨_,congrArg _ (hB)⟩),trivial⟩,t2,trivial⟩
 have z:=Aj g;exact absurd z (by omega)
theorem aP {a b:Re} {y:Nat->Re} {x:LR} {i:Nat} (h:[A,B][i]? =some x) (f:A=em u a) (g:B=em u b) (c:y 0=a) (d:y 1=b):x=em u (y i):=by
 match i,h with
 | 0,h=>rw[c,<-f];exact (Option.some.inj h).symm
 | 1,h=>rw[d,<-g];exact (Option.some.inj h).symm
 | i+2,h=>simp at h
theorem nL {f:FuncId} {y:Nat->Re} {L:Nat->LR} {i:Nat} {b:Bool} (hi:i<=k0) (a:∀i,i<k0->G5 f u (t*y i) (L i)) (c:G6 f u (t*y k0) w) (hb:b=decide (i=k0)) (g:B=if i=k0 then em u w else L i) (j:T=tw u) (d:A=em u (t*y i)):
  CF f [.one (.sl (.sl AA) T),.one (.sl AA A)] (.AG [(false,[.sl AA B]),(false,[.bool b])]):=by
 by_cases h:i=k0
 ·subst h;rw[hb,decide_eq_true rfl];exact c j d (by rw[g,if_pos rfl])
 rw[hb,decide_eq_false h,g,if_neg h];exact a i (by omega) j d
theorem El.half {y:Re} (h:El u s y) (hu:Ae R u) (ht:t=Re.ofRat (1/2)):El u (s+1+EE u.length R) (t*y):=by
 have a:El u 1 t:=ht ▸ El.rat hu.red LU;have:=a.mul hu h;rwa [show 1+s+EE u.length R=s+1+EE u.length R by omega] at this
theorem nK (h:Ae R (r::u)) (hT:T=tw (r::u)) (hA:A=em (r::u) x) (hx:El (r::u) s x) (G:x=p+q*rt u r) (O:El u s p) (Y:El u s q) (hs:QQ (r::u).length R s<=60000000000000) (h0:q≠0) (hn:In u n) (ai:n*n=p*p-q*q*AM u r) (ht:t=Re.ofRat (1/2)) (aq:G6 258 u (p*p-q*q*AM u r) n) {y:Nat->Re} (al:y 0=p+n) (an:y 1=p-n) (ao:∀i,El u (s+(2*s+2*EE u.length R+R+1+GG u.length R)+1) (y i)) {L:Nat->LR} (ah:k0<=2) (aj:∀i,i<k0->G5 258 u (t*y i) (L i)) (aV:k0=2) (hB:B=[]):CF 258 [.one (.sl (.sl AA) T),.one (.sl AA A)] (.AG [(false,[.sl AA B]),(false,[.bool false])]):=by
 have aS:T.length=u.length+1:=by rw[hT,Bb];rfl
 have aR:A.length=2^u.length+2^u.length:=by rw[hA,BJ hx.mem,Bk]
 have aZ:=El.Cv h;have b0:=Cb h.red;have aB:=DD h.tail.ht;have aW:=De u.length;have b1:El u 0 0:=El.rat h.red.1 Hf;have aX:QQ (r::u).length R s=max (QQ u.length R (3*s+3*EE u.length R+R+GG u.length R+3+II u.length R R)) (s+II u.length R (2*(3*s+3*EE u.length R+R+GG u.length R+3+II u.length R R+GG u.length R)+1)+EE u.length R):=rfl;have aY:=HW u.length R (3*s+3*EE u.length R+R+GG u.length R+3+II u.length R R);have aT:=ET u.length R (2*(3*s+3*EE u.length R+R+GG u.length R+3+II u.length R R+GG u.length R)+1);have hN:=El.norm h O.mem Y.mem (G ▸ hx);refine AJ Tryz.func258 fun E K=>?_
 conv=>cbv
 rintro n27 ⟨aG,f27⟩;conv=>cbv
 intro n28 P;conv=>cbv
 cases n28 <;> conv=>cbv
 ·have a1:=Ah P;rintro n41 ⟨aH,f41⟩;conv=>cbv
  intro n42 aM;conv=>cbv
  refine AI ?_;intro b3 az;conv=>cbv
  refine AH ?_;intro ae ax;conv=>cbv
  intro a2 S;conv=>cbv
  rintro n46 ⟨aI,f46⟩;conv=>cbv
  intro aa aN;conv=>cbv
  refine AI ?_;obtain⟨ab,I⟩:=AK (l:=T) (i:=(aa).toNat) (by omega);refine⟨ab,fun _=>⟨by omega,I⟩,?_⟩;try conv=>cbv
  refine g2 rfl ?_;rintro n52 ⟨aJ,f52⟩;conv=>cbv
  intro C1 aO;conv=>cbv
  refine g2 ⟨by omega,by omega,i64 (by omega)⟩ ?_;intro b4 aA;conv=>cbv
  refine AH ?_;intro af ay;conv=>cbv
  intro ar U;conv=>cbv
  rintro b6 ⟨aK,f57⟩;conv=>cbv
  intro b7 aQ;conv=>cbv
  refine g2 ⟨by omega,by omega,i64 (by omega)⟩ ?_;intro b5 W;conv=>cbv
  refine AH ?_;rintro ad aF ⟨aw,Q⟩;conv=>cbv
  intro a5 V;conv=>cbv
  refine g2 rfl ?_;have a:a2=tw u:=by rw[S,List.drop_zero,show ae=T.length-1 by omega,hT,DT]
  have ak:ab=Aa r:=by have:=E5 r u;rw[<-hT,show T.length-1=aa.toNat by omega,I] at this;exact Option.some.inj this
  have d:ar=em u p:=by rw[U,List.drop_zero,show af=A.length/2 by omega,hA,CM h.red O.mem Y.mem G]
  have N:a5=em u q:=by rw[V,show ad=A.length/2 by omega,Q,W,List.take_length,hA,CA h.red O.mem Y.mem G]
  refine AB K (Hd h.red.1 Y.mem N h0) ?_;conv=>cbv
  obtain⟨aC,f⟩:=xR (em u (p*p-q*q*AM u r));refine AB K (PZ h hT hA hx G O.mem Y.mem (by omega) f) ?_;conv=>cbv
  obtain⟨aD,b⟩:=xR (em u n);have X:=hN.sqrt h.tail hn ai;refine AB K (aq a f b) ?_;conv=>cbv
  refine AU ?_;conv=>cbv
  obtain⟨C,g⟩:=xR (em u (p+n));refine AB K (Jc h.tail a d b O X (by omega) (by omega) g) ?_;conv=>cbv
  obtain⟨D,j⟩:=xR (em u (p-n));refine AB K (M5 h.tail a d b O X (by omega) (by omega) j) ?_;conv=>cbv
  refine⟨[C,D],fun _=>⟨rfl,by decide,rfl,⟨rfl,by first | exact t1 | exact t2 | exact t4 | simp[Ao,BA,cells],⟨rfl,by first | exact t1 | exact t2 | exact t4 | simp[Ao,BA,cells],trivial⟩⟩⟩,.inr ?_⟩;try conv=>cbv
  intro a6 c;have au:=c.eq;have f118:=c.le;conv=>cbv
  refine .inr ?_;obtain⟨J0,M⟩:=xJ fun vs bl k=>∃(i':Nat) (m i:Int),vs=[.one (.sl (.sl AA) a2),.one (.sl AA a5),.one (.sl (.sl AA) [C,D]),.one (.int .i64 m),.one (.int .i64 i)]/\(AO m 2/\AO i i'/\i'<=k0)/\k=2-i'
  refine⟨[],[8,11,117,118,119],[],J0,⟨2-0,by rw[M];exact⟨0,a6,0,rfl,⟨⟨c.eq⟩,Al 0,by omega⟩,rfl⟩⟩,?_⟩;intro vs bl b2 hj;rw[M] at hj;obtain⟨i',m,i,rfl,⟨hM,ag,aU⟩,ah⟩:=hj;conv=>cbv
  have eM:=hM.eq;have aL:=ag.eq;intro a7 H;conv=>cbv
  cases a7 <;> conv=>cbv
  ·have Z:=AW H;exact AD ⟨⟨rfl,.inr (.inl ⟨_,congrArg _ (hB)⟩),trivial⟩,t2,trivial⟩
  have Z:=AY H;refine .inr ?_;obtain⟨J,z⟩:=AK (l:=[C,D]) (i:=i') (by show _<2;omega);refine⟨J,fun _=>⟨by omega,by rw[show (i).toNat=i' by omega];exact z⟩,?_⟩;try conv=>cbv
  have F:J=em u (y i'):=aP z g j al an;obtain⟨aE,o⟩:=xR (em u (t*y i'));refine AB K (Wb h.tail a F (ao i') ht (by omega) o) ?_;conv=>cbv
  refine AB K (aj i' (by omega) a o) ?_;conv=>cbv
  refine Bc ?_;conv=>cbv
  intro a8 av;conv=>cbv
  refine AI ?_;refine⟨2-(i'+1),?_,?_⟩
  ·omega
  rw[M];exact⟨i'+1,m,a8,rfl,⟨hM,⟨by omega⟩,by omega⟩,rfl⟩
 have a1:=Aj P;exact absurd a1 (by omega)
theorem nJ (h:Ae R (r::u)) (hT:T=tw (r::u)) (hA:A=em (r::u) x) (hx:El (r::u) s x) (V:x=p+q*rt u r) (hp:El u s p) (Y:El u s q) (hs:QQ (r::u).length R s<=60000000000000) (h0:q≠0) (hn:In u n) (aF:n*n=p*p-q*q*AM u r) (ht:t=Re.ofRat (1/2)) (aM:G6 258 u (p*p-q*q*AM u r) n) {y:Nat->Re} (aK:y 0=p+n) (aL:y 1=p-n) (ah:∀i,El u (s+(2*s+2*EE u.length R+R+1+GG u.length R)+1) (y i)) {L:Nat->LR} (aC:k0<=2) (aG:∀i,i<k0->G5 258 u (t*y i) (L i)) (bk:k0<2) {j:Re} (hw:In u w) (aI:w*w=t*y k0) (aH:w≠0) (aN:G6 258 u (t*y k0) w) (hj:In u j) (ag:(w+w)*j=1) (hB:B=em (r::u) (w+q*j*rt u r)):CF 258 [.one (.sl (.sl AA) T),.one (.sl AA A)] (.AG [(false,[.sl AA B]),(false,[.bool true])]):=by
 have bh:T.length=u.length+1:=by rw[hT,Bb];rfl
 have bg:A.length=2^u.length+2^u.length:=by rw[hA,BJ hx.mem,Bk]
 have br:=El.Cv h;have bs:=Cb h.red;have aY:=DD h.tail.ht;have bo:=De u.length;have bt:El u 0 0:=El.rat h.red.1 Hf;have bp:QQ (r::u).length R s=max (QQ u.length R (3*s+3*EE u.length R+R+GG u.length R+3+II u.length R R)) (s+II u.length R (2*(3*s+3*EE u.length R+R+GG u.length R+3+II u.length R R+GG u.length R)+1)+EE u.length R):=rfl;have bq:=HW u.length R (3*s+3*EE u.length R+R+GG u.length R+3+II u.length R R);have bj:=ET u.length R (2*(3*s+3*EE u.length R+R+GG u.length R+3+II u.length R R+GG u.length R)+1);have hN:=El.norm h hp.mem Y.mem (V ▸ hx);refine AJ Tryz.func258 fun E o=>?_
 conv=>cbv
 rintro n27 ⟨b5,f27⟩;conv=>cbv
 intro n28 a7;conv=>cbv
 cases n28 <;> conv=>cbv
 ·have ai:=Ah a7;rintro n41 ⟨b6,f41⟩;conv=>cbv
  intro n42 bb;conv=>cbv
  refine AI ?_;intro bw aW;conv=>cbv
  refine AH ?_;intro aw aU;conv=>cbv
  intro aj aa;conv=>cbv
  rintro n46 ⟨b7,f46⟩;conv=>cbv
  intro ar bc;conv=>cbv
  refine AI ?_;obtain⟨au,Z⟩:=AK (l:=T) (i:=(ar).toNat) (by omega);refine⟨au,fun _=>⟨by omega,Z⟩,?_⟩;try conv=>cbv
  refine g2 rfl ?_;rintro n52 ⟨b8,f52⟩;conv=>cbv
  intro C1 bd;conv=>cbv
  refine g2 ⟨by omega,by omega,i64 (by omega)⟩ ?_;intro bx aX;conv=>cbv
  refine AH ?_;intro ax aV;conv=>cbv
  intro aO ab;conv=>cbv
  rintro bA ⟨b9,f57⟩;conv=>cbv
  intro bB bf;conv=>cbv
  refine g2 ⟨by omega,by omega,i64 (by omega)⟩ ?_;intro bz ae;conv=>cbv
  refine AH ?_;rintro av b4 ⟨aT,a8⟩;conv=>cbv
  intro ak ad;conv=>cbv
  refine g2 rfl ?_;have a:aj=tw u:=by rw[aa,List.drop_zero,show aw=T.length-1 by omega,hT,DT]
  have aJ:au=Aa r:=by have:=E5 r u;rw[<-hT,show T.length-1=ar.toNat by omega,Z] at this;exact Option.some.inj this
  have C:aO=em u p:=by rw[ab,List.drop_zero,show ax=A.length/2 by omega,hA,CM h.red hp.mem Y.mem V]
  have D:ak=em u q:=by rw[ad,show av=A.length/2 by omega,a8,ae,List.take_length,hA,CA h.red hp.mem Y.mem V]
  refine AB o (Hd h.red.1 Y.mem D h0) ?_;conv=>cbv
  obtain⟨aZ,F⟩:=xR (em u (p*p-q*q*AM u r));refine AB o (PZ h hT hA hx V hp.mem Y.mem (by omega) F) ?_;conv=>cbv
  obtain⟨b0,d⟩:=xR (em u n);have af:=hN.sqrt h.tail hn aF;refine AB o (aM a F d) ?_;conv=>cbv
  refine AU ?_;conv=>cbv
  obtain⟨P,G⟩:=xR (em u (p+n));refine AB o (Jc h.tail a C d hp af (by omega) (by omega) G) ?_;conv=>cbv
  obtain⟨Q,H⟩:=xR (em u (p-n));refine AB o (M5 h.tail a C d hp af (by omega) (by omega) H) ?_;conv=>cbv
  refine⟨[P,Q],fun _=>⟨rfl,by decide,rfl,⟨rfl,by first | exact t1 | exact t2 | exact t4 | simp[Ao,BA,cells],⟨rfl,by first | exact t1 | exact t2 | exact t4 | simp[Ao,BA,cells],trivial⟩⟩⟩,.inr ?_⟩;try conv=>cbv
  intro al z;have aR:=z.eq;have f118:=z.le;conv=>cbv
  refine .inr ?_;obtain⟨J0,a6⟩:=xJ fun vs bl k=>∃(i':Nat) (m i:Int),vs=[.one (.sl (.sl AA) aj),.one (.sl AA ak),.one (.sl (.sl AA) [P,Q]),.one (.int .i64 m),.one (.int .i64 i)]/\(AO m 2/\AO i i'/\i'<=k0)/\k=2-i'
  refine⟨[],[8,11,117,118,119],[],J0,⟨2-0,by rw[a6];exact⟨0,al,0,rfl,⟨⟨z.eq⟩,Al 0,by omega⟩,rfl⟩⟩,?_⟩;intro vs bl bu hj;rw[a6] at hj;obtain⟨i',m,i,rfl,⟨hM,ay,az⟩,aC⟩:=hj;conv=>cbv
  have eM:=hM.eq;have ba:=ay.eq;intro an W;conv=>cbv
  cases an <;> conv=>cbv
  ·have a1:=AW W;exact absurd a1 (by omega)
  have a1:=AY W;refine .inr ?_;obtain⟨a5,N⟩:=AK (l:=[P,Q]) (i:=i') (by show _<2;omega);refine⟨a5,fun _=>⟨by omega,by rw[show (i).toNat=i' by omega];exact N⟩,?_⟩;try conv=>cbv
  have U:a5=em u (y i'):=aP N G H aK aL;obtain⟨b1,I⟩:=xR (em u (t*y i'));refine AB o (Wb h.tail a U (ah i') ht (by omega) I) ?_;conv=>cbv
  obtain⟨aQ,c⟩:=xB (decide (i'=k0));obtain⟨S,J⟩:=xR (if i'=k0 then em u w else L i');refine AB o (nL az aG aN c J a I) ?_;conv=>cbv
  intro ao X;conv=>cbv
  cases ao <;> conv=>cbv
  ·have O:=C3 X;have aA:i'=k0:=of_decide_eq_true (c.symm.trans O);have b:S=em u w:=by rw[J,if_pos aA]
   have g:El u (s+(2*s+2*EE u.length R+R+1+GG u.length R)+1+1+EE u.length R+GG u.length R) w:=(((ah k0).half h.tail ht).sqrt h.tail hw aI);have aB:=(g.add h.red.1 g).inv h.tail hj ag;have bm:=Iy u.length R (s:=s+(2*s+2*EE u.length R+R+1+GG u.length R)+1+1+EE u.length R+GG u.length R+(s+(2*s+2*EE u.length R+R+1+GG u.length R)+1+1+EE u.length R+GG u.length R)+1) (t:=2*(3*s+3*EE u.length R+R+GG u.length R+3+II u.length R R+GG u.length R)+1) (by omega);refine AB o (Hd h.red.1 hw b aH) ?_;conv=>cbv
   obtain⟨b2,K⟩:=xR (em u (w+w));refine AB o (Jc h.tail a b b g g (by omega) (by omega) K) ?_;conv=>cbv
   obtain⟨b3,M⟩:=xR (em u j);refine AB o (Mx h.tail a K (g.add h.red.1 g) hj ag (by omega) M) ?_;conv=>cbv
   obtain⟨a2,f⟩:=xR (em u (q*j));refine AB o (G3 h.tail a D M Y aB (by omega) f) ?_;conv=>cbv
   refine⟨[S,a2],fun _=>⟨rfl,by decide,rfl,⟨rfl,by first | exact t1 | exact t2 | exact t4 | simp[Ao,BA,cells],⟨rfl,by first | exact t1 | exact t2 | exact t4 | simp[Ao,BA,cells],trivial⟩⟩⟩,.inr ?_⟩;try conv=>cbv
   have aD:S.length=2^u.length:=by rw[b,BJ hw]
   have aE:a2.length=2^u.length:=by rw[f,BJ (Ak h.red.1 Y.mem hj)]
   refine AB (r:= .one (.sl AA B)) o (Nj (by omega) (by omega) (by rw[hB,b,f];exact En h.red hw (Ak h.red.1 Y.mem hj) rfl)) ?_;try conv=>cbv
   exact AD ⟨t2,t2,trivial⟩
  have O:=C4 X;intro aq aS;conv=>cbv
  refine AI ?_;have bn:i'≠k0:=of_decide_eq_false (c.symm.trans O);refine⟨2-(i'+1),?_,?_⟩
  ·omega
  rw[a6];exact⟨i'+1,m,aq,rfl,⟨hM,⟨by omega⟩,by omega⟩,rfl⟩
 have ai:=Aj a7;exact absurd ai (by omega)
end Go.Abs
namespace Go.Abs
open Go.RowKit
theorem Wa {t:Re} (ht:t=Re.ofRat (1/2)):2*t=1:=by
 have a:(2:Re)=Re.ofRat 2:=rfl;rw[ht,a,<-Re.ofRat_mul,show (2:Rat)*(1/2)=1 by decide +kernel];rfl
theorem O0 {u:List (List Rat)} {R:Nat} (h:Ae R u):Ta 258 R u:=by
 induction u with
 | nil=>
  intro s x C hs;obtain⟨q,rfl⟩:=CN.1 C.mem
  have a2:Bu q:=by
   have:=C.Bh (by have:=HW ([]:List (List Rat)).length R s;omega);rw[CQ] at this;exact this q List.mem_cons_self
  by_cases S:∃r:Rat,0<=r/\r*r=q
  ·obtain⟨r,F,S⟩:=S;refine .inl ⟨Re.ofRat r,EK r _,by rw[<-Re.ofRat_mul,S],?_⟩;intro T A B f d M;exact nH f (d.trans (Dx q)) (M.trans (Dx r)) a2 F S
  refine .inr ⟨fun hs=>S (Sd.1 hs),[(((false,[]),(false,[])):el AA)],?_,?_⟩
  rotate_left
  ·intro T A f d;exact nG f (d.trans (Dx q)) rfl a2 S
  simp
 | cons r u c=>
  have c:Ta 258 R u:=c h.tail;intro s x C hs;obtain⟨p,q,a,g,G⟩:=El.parts h.red C;have an:QQ (r::u).length R s=max (QQ u.length R (3*s+3*EE u.length R+R+GG u.length R+3+II u.length R R)) (s+II u.length R (2*(3*s+3*EE u.length R+R+GG u.length R+3+II u.length R R+GG u.length R)+1)+EE u.length R):=rfl;have hQ:∀s',s'<=3*s+3*EE u.length R+R+GG u.length R+3+II u.length R R->QQ u.length R s'<=60000000000000:=fun s' h'=>Nat.le_trans (M1 u.length R h') (by omega)
  have ah:=El.Cv h;have ai:=Cb h.red
  by_cases F:q=0
  ·have O:x=p:=by rw[a,F];clear c;grind
   rcases c g (hQ _ (by omega)) with⟨w,hw,b,P⟩ |⟨o,l,hl,Q⟩
   ·refine .inl ⟨w,Hn hw,by rw[O];exact b,?_⟩;intro T A B f d M;exact nM h f d C a g G hs F hw P M
   obtain⟨i,hi,z⟩:=Eg h.red.1 (CO h.red) (by have:=h.red.2.2.1;grind);have ab:=ah.inv h.tail hi z;rcases c (g.mul h.tail ab) (hQ _ (by omega)) with⟨w,hw,b,P⟩ |⟨Z,l2,ad,af⟩
   ·refine .inl ⟨w*rt u r,CW.2 ⟨0,w,Bx u,hw,by clear c;grind⟩,?_,?_⟩
    ·have:p=p*(AM u r*i):=by rw[z];clear c;grind
     rw[O];clear c;grind
    intro T A B f d M;exact nN h f d C a g G hs F hi z Q hw P M
   refine .inr ⟨?_,em u 0++l2,?_,?_⟩
   ·rw[O,Zy h.red g.mem];rintro (h1 |⟨i',aj,a1,h1⟩)
    ·exact o h1
    have:i'=i:=by
     have:i'=i'*(AM u r*i):=by rw[z];clear c;grind
     have h2:i=i*(AM u r*i'):=by rw[a1];clear c;grind
     clear c;grind
    rw[this] at h1;exact Z h1
   ·rw[List.length_append,BJ (Bx u),Bk];omega
   intro T A f d;exact nO h f d C a g G hs F hi z Q af ad rfl
  have hN:=El.norm h g.mem G.mem (a ▸ C);rcases c hN (hQ _ (by omega)) with⟨n,Q,k,aa⟩ |⟨o,l,hl,ag⟩
  rotate_left
  ·refine .inr ⟨fun hS=>o (Z1 h.red g.mem G.mem (a ▸ hS)),[],Nat.zero_le _,?_⟩;intro T A f d;exact nI h f d C a g G hs F ag rfl
  have W:=hN.sqrt h.tail Q k;obtain⟨t,ht⟩:∃t:Re,t=Re.ofRat (1/2):=⟨_,rfl⟩
  have N:=Wa ht;obtain⟨y,P⟩:∃y:Nat->Re,y=fun i=>if i=0 then p+n else p-n:=⟨_,rfl⟩
  have H:y 0=p+n:=by rw[P];rfl
  have I:y 1=p-n:=by rw[P];rfl
  have J:∀i,El u (s+(2*s+2*EE u.length R+R+1+GG u.length R)+1) (y i):=fun i=>by
   rw[P]
   show El u _ (if i=0 then p+n else p-n)
   by_cases hi:i=0
   ·rw[if_pos hi];exact g.add h.red.1 W
   rw[if_neg hi];exact g.sub h.red.1 W
  have K:∀(k0:Nat) (L:Nat->LR) (w:Re),k0<2->(∀i,i<k0->G5 258 u (t*y i) (L i))->In u w->w*w=t*y k0->G6 258 u (t*y k0) w->
    ∃w,In (r::u) w/\w*w=x/\G6 258 (r::u) x w:=by
   intro k0 L w hk o hw b D
   have key:∃m,m*m=p*p-q*q*AM u r/\y k0=p+m:=by
    rcases (show k0=0\/k0=1 by omega) with rfl | rfl
    ·exact⟨n,k,H⟩
    exact⟨-n,by rw[<-k];clear c;grind,by rw[I];clear c;grind⟩
   obtain⟨m,U,a8⟩:=key;have a5:w≠0:=Zx h.red F U N (by rw[b,a8])
   have a7:w+w≠0:=by
    intro e;have e1:2*w=0:=by clear c;grind
    rcases Re.Cd e1 with e | e
    ·exact PC e
    exact a5 e
   obtain⟨j,hj,a6⟩:=Eg h.red.1 (C0 hw hw) a7;refine⟨w+q*j*rt u r,CW.2 ⟨_,_,hw,Ak h.red.1 G.mem hj,rfl⟩,?_,?_⟩
   ·rw[a];exact Zw U N ai (by rw[b,a8]) a6 rfl
   intro T A B f d M;exact nJ h f d C a g G hs F Q k ht aa H I J (by omega) o hk hw b a5 D hj a6 M
  have hb:QQ u.length R (s+(2*s+2*EE u.length R+R+1+GG u.length R)+1+1+EE u.length R)<=60000000000000:=hQ _ (by omega);rcases c ((J 0).half h.tail ht) hb with⟨w,hw,b,D⟩ |⟨X,l0,ak,V⟩
  ·exact .inl (K 0 (fun _=>[]) w (by omega) (fun i hi=>by omega) hw b D)
  rcases c ((J 1).half h.tail ht) hb with⟨w,hw,b,D⟩ |⟨Y,l1,al,ae⟩
  ·exact .inl (K 1 (fun _=>l0) w (by omega) (fun i hi=>by rw[show i=0 by omega];exact V) hw b D)
  refine .inr ⟨fun hS=>?_,[],Nat.zero_le _,?_⟩
  ·rcases Z2 h.red g.mem G.mem (a ▸ hS) k N with e | e
   ·exact X (by rw[H];exact e)
   exact Y (by rw[I];exact e)
  intro T A f d
  exact nK h f d C a g G hs F Q k ht aa H I J (L:=fun i=>if i=0 then l0 else l1) (Nat.le_refl 2) (fun i hi=>by
   rcases (show i=0\/i=1 by omega) with rfl | rfl
   ·exact V
   exact ae) rfl rfl
end Go.Abs
namespace Go.Abs
open Go.RowKit
variable {A B:LR} {R s:Nat} {T:List LR} {u:List (List Rat)} {v x:Re}
theorem VQ {Q:Nat} (hl:∀x∈T,x.length<=1000000) (a2:T.length<=1000) (D:Q=T.length):CF 306 [.one (.sl (.sl AA) T)] (.one (.own (.sl AA) T Q)):=by
 refine AJ Tryz.func306 fun E X=>?_
 conv=>cbv
 rintro n7 ⟨e7,f7⟩;conv=>cbv
 refine⟨fun _=>⟨by omega,by omega,by show _*24<=140737488355328;omega⟩,?_⟩;intro G (H:List (el (.sl AA))) z;have a1:=z.1;have C:H=List.replicate G ([]:el (.sl AA)):=z.2;have V:H.length=G:=by rw[C,List.length_replicate]
 conv=>cbv
 intro I f;have U:=f.eq;have f10:=f.le;conv=>cbv
 refine .inr ?_;obtain⟨S,g⟩:=xJ fun vs K k=>∃(o:List LR) (m i':Nat) (L i:Int),vs=[.one (.AN (.sl AA) 8 0 0 m),.one (.sl (.sl AA) T),.one (.int .i64 L),.one (.int .i64 i)]/\K=[.arr 0 (.sl AA) o]/\(o.length=T.length/\m=T.length/\CT L T.length/\AO i i'/\i'<=T.length)/\o.take i'=T.take i'/\k=T.length-i'
 refine⟨[],[3,9,10,11],[8],S,⟨T.length-0,by rw[g];exact⟨H,G,0,I,0,rfl,rfl,⟨by omega,by omega,f,Al 0,by omega⟩,rfl,rfl⟩⟩,?_⟩;intro vs K a5 O;rw[g] at O;obtain⟨o,m,i',L,i,rfl,rfl,⟨ho,hm,N,hi,Y⟩,hinv,Z⟩:=O;conv=>cbv
 have eL:=N.eq;have ei:=hi.eq;intro J j;conv=>cbv
 cases J <;> conv=>cbv
 ·have F:=AW j;have c:T=o:=by rw[<-List.take_length (l:=T),<-show i'=T.length by omega,<-hinv,List.take_of_length_le (by omega)]
  exact AD ⟨⟨rfl,.inr (.inl ⟨_,_,by decide,rfl,rfl,by omega,rfl,C5 (c) (by rw[D,<-c])⟩),trivial⟩,trivial⟩
 have F:=AY j;refine .inr ?_;obtain⟨b,a⟩:=AK (l:=T) (i:=i') (by omega);refine⟨b,fun _=>⟨by omega,by rw[show (i).toNat=i' by omega];exact a⟩,?_⟩;try conv=>cbv
 refine AB X (S6 (hl b (List.mem_of_getElem? a))) ?_;conv=>cbv
 refine AH ?_;intro y P;conv=>cbv
 refine⟨b,fun _=>⟨by show _<List.length (α:=(el (.sl AA))) o;(first | omega | (simp;omega)),by first | exact t1 | exact t2 | exact t4 | simp[Ao,BA,cells]⟩,?_⟩;intro (h:List (el (.sl AA))) (d:h=List.set (α:=(el (.sl AA))) o y b);have M:h.length=o.length:=by rw[d,List.length_set]
 conv=>cbv
 intro n21 W;conv=>cbv
 refine AI ?_;refine⟨T.length-(i'+1),?_,?_⟩
 ·omega
 rw[g];refine⟨h,m,i'+1,L,n21,rfl,rfl,⟨by omega,by omega,N,⟨by omega⟩,by omega⟩,?_,rfl⟩;rw[d,show y=i' by omega,O5 (by omega),hinv,<-Cg a]
theorem ff (b:∀x∈T,x.length<=1000000) (a:T.length<=1000):CF 306 [.one (.sl (.sl AA) T)] (.one (.sl (.sl AA) T)):=C8 (VQ b a rfl)
theorem aN (h:Ae R u) (d:T=tw u):∀x∈T,x.length<=1000000:=by
 intro x a;rw[d,tw] at a;obtain⟨y,f,rfl⟩:=List.mem_map.1 a;obtain⟨i,hi⟩:=List.mem_iff_getElem?.1 f;have b:=Ik h.red i y hi;have c:=Gb hi;rw[List.length_reverse] at c;have h3:=h.ht;rw[List.length_map,b];exact Nat.le_trans (DD) (by decide)
theorem IT:An x<0↔x<0:=by
 rcases Df x with⟨a,b⟩ |⟨a,b⟩ |⟨a,b⟩ <;> rw[b]
 ·exact⟨fun _=>a,fun _=>by decide⟩
 ·rw[a];exact⟨fun h=>absurd h (by decide),fun h=>by grind⟩
 exact⟨fun h=>absurd h (by decide),fun h=>by grind⟩
theorem ku (h:Ae R u) (y:T=tw u) (D:A=em u x) (G:El u s x) (o:Fit u.length R s) {w:Re} (hw:In u w) (c:w*w=x) (H:G6 258 u x w) (g:0<=v) (j:v*v=x) (C:B=em u v):CF 305 [.one (.sl (.sl AA) T),.one (.sl AA A)] (.AG [(false,[.sl AA B]),(false,[.bool true])]):=by
 have k:=G.sqrt h hw c;refine AJ Tryz.func305 fun E m=>?_
 conv=>cbv
 obtain⟨J,a⟩:=xR (em u w);refine AB m (H y D a) ?_;conv=>cbv
 refine AU ?_;conv=>cbv
 obtain⟨I,f⟩:=xI (An w);refine AB m (Jj h y a k o.v o.vR f) ?_;conv=>cbv
 intro n19 d;conv=>cbv
 refine .inr ?_;cases n19 <;> conv=>cbv
 ·have z:=AW d;exact AD ⟨⟨rfl,congrArg _ (by rw[C,a];congr 1;have:¬w<0:=(fun F=>by have:=IT.2 F;omega);exact Re.Hv g (by grind) (j.trans c.symm)),trivial⟩,t2,trivial⟩
 have z:=AY d;obtain⟨K,b⟩:=xR (em u (-w));refine AB m (TP h y a k (Nat.le_trans (FU u.length R _) o.v) b) ?_;conv=>cbv
 exact AD ⟨⟨rfl,congrArg _ (by rw[C,b];congr 1;have:w<0:=IT.1 (by omega);exact Re.Hv g (by grind) (by rw[j,<-c];grind)),trivial⟩,t2,trivial⟩
theorem km (h:Ae R u) (d:T=tw u) (a:A=em u x) (j:El u s x) (g:Fit u.length R s) {l:LR} (f:G5 258 u x l) (b:B=[]):CF 305 [.one (.sl (.sl AA) T),.one (.sl AA A)] (.AG [(false,[.sl AA B]),(false,[.bool false])]):=by
 refine AJ Tryz.func305 fun E c=>?_
 conv=>cbv
 refine AB c (f d a) ?_;conv=>cbv
 refine Bc ?_;conv=>cbv
 exact AD ⟨⟨rfl,.inr (.inl ⟨_,congrArg _ (b)⟩),trivial⟩,t2,trivial⟩
theorem kv (h:Ae R u) (m:T=tw u) (j:A=em u x) (g:El u s x) (f:Fit u.length R s) (o:In u v) (c:0<=v) (a:v*v=x) (k:B=em u v):CF 305 [.one (.sl (.sl AA) T),.one (.sl AA A)] (.AG [(false,[.sl AA B]),(false,[.bool true])]):=by
 rcases O0 h g f.q with⟨w,hw,d,y⟩ |⟨b,_⟩
 ·exact ku h m j g f hw d y c a k
 exact absurd ⟨v,o,a⟩ b
theorem kl (h:Ae R u) (j:T=tw u) (f:A=em u x) (d:El u s x) (c:Fit u.length R s) (a:¬Sq u x) (g:B=[]):CF 305 [.one (.sl (.sl AA) T),.one (.sl AA A)] (.AG [(false,[.sl AA B]),(false,[.bool false])]):=by
 rcases O0 h d c.q with⟨w,hw,b,m⟩ |⟨_,l,_,k⟩
 ·exact absurd ⟨w,hw,b⟩ a
 exact km h j f d c k g
theorem TW (h:Ae R u) (D:T=tw u) (hv:VV u.length R R<=60000000000000) (hq:QQ u.length R R<=60000000000000):CF 139 [.one (.sl (.sl AA) T)] (.one (.bool true)):=by
 have ad:T.length=u.length:=by rw[D,Bb]
 have hR:=h.hR;refine AJ Tryz.func139 fun E Q=>?_
 conv=>cbv
 intro n8 P;have e8:=P.eq;have f8:=P.le;conv=>cbv
 refine .inr ?_;obtain⟨J0,f⟩:=xJ fun vs bl k=>∃(i':Nat) (L i:Int),vs=[.one (.sl (.sl AA) T),.one (.sl (.sl AA) T),.one (.int .i64 L),.one (.int .i64 i)]/\(CT L T.length/\AO i i'/\i'<=T.length)/\k=T.length-i'
 refine⟨[],[0,7,8,9],[],J0,⟨T.length-0,by rw[f];exact⟨0,n8,0,rfl,⟨P,Al 0,by omega⟩,rfl⟩⟩,?_⟩;intro vs bl ag hj;rw[f] at hj;obtain⟨i',L,i,rfl,⟨hL,hi,ae⟩,af⟩:=hj;conv=>cbv
 have eL:=hL.eq;have ei:=hi.eq;intro Z z;conv=>cbv
 cases Z <;> conv=>cbv
 ·have V:=AW z;exact AD ⟨t2,trivial⟩
 have V:=AY z;refine .inr ?_;obtain⟨y,d⟩:=AK (l:=T) (i:=i') (by omega);refine⟨y,fun _=>⟨by omega,by rw[show (i).toNat=i' by omega];exact d⟩,?_⟩;try conv=>cbv
 obtain⟨r,J,I⟩:=Ig (u:=u) (i:=i') (by omega);have o:AT (r::pre u i'):=J ▸ (h.pre (i'+1)).red;have S:y=Aa r:=by rw[<-D,d] at I;exact Option.some.inj I
 have a:y=em (pre u i') (AM (pre u i') r):=S.trans (EG o);have b:El (pre u i') R (AM (pre u i') r):=El.Cv (J ▸ h.pre (i'+1));intro ah a7;conv=>cbv
 refine AH ?_;intro M a2;conv=>cbv
 intro W F;conv=>cbv
 have g:W=tw (pre u i'):=by rw[F,List.drop_zero,show M=i' by omega,D,FI]
 refine AB (r:= .one (.bool true)) Q (G0 g (h.pre i').Fj a (b.Bh hR) (by rw[b.len,List.length_reverse];exact (decide_eq_true rfl).symm)) ?_;try conv=>cbv
 refine AU ?_;conv=>cbv
 intro ai a8;conv=>cbv
 refine AH ?_;intro N a5;conv=>cbv
 intro X G;conv=>cbv
 have j:X=tw (pre u i'):=by rw[G,List.drop_zero,show N=i' by omega,D,FI]
 obtain⟨a1,c⟩:=xI (An (AM (pre u i') r));refine AB (r:= .one (.int .i64 a1)) Q (Jj (h.pre i') j a b (by rw[GJ (by omega)];exact Nat.le_trans (I1 (by omega) R R) hv) (by rw[GJ (by omega)];exact Nat.le_trans (I1 (by omega) R R) hv) c) ?_;try conv=>cbv
 intro n26 C;conv=>cbv
 cases n26 <;> conv=>cbv
 ·have K:=Co C;intro aj aa;conv=>cbv
  refine AH ?_;intro O a6;conv=>cbv
  intro Y H;conv=>cbv
  have m:Y=tw (pre u i'):=by rw[H,List.drop_zero,show O=i' by omega,D,FI]
  obtain⟨l,hl,hn⟩:=((O0 (h.pre i') b (by rw[GJ (by omega)];exact Nat.le_trans (TS (by omega) R R) hq)).resolve_left (fun⟨w,hw,U,_⟩=>o.2.2.2 ⟨w,hw,U⟩)).2;refine AB Q (hn m a) ?_;conv=>cbv
  intro n37 ab;conv=>cbv
  refine AI ?_;refine⟨T.length-(i'+1),?_,?_⟩
  ·omega
  rw[f];exact⟨i'+1,L,n37,rfl,⟨hL,⟨by omega⟩,by omega⟩,rfl⟩
 have K:=Cp C;exact absurd K (by rw[c,F0 o.2.2.1];omega)
theorem eC (h:Ae R u) (b:T=tw u) (k:A=em u x) (j:El u s x) (a:Fit u.length R s) (F:In u v) (m:0<=v) (g:v*v=x) (z:B=em u v):CF 230 [.one (.sl (.sl AA) T),.one (.sl AA A)] (.AG [(false,[.sl (.sl AA) T]),(false,[.sl AA B]),(false,[.int .i64 0])]):=by
 have C:T.length=u.length:=by rw[b,Bb]
 have D:=h.ht;have o:¬x<0:=by rw[<-g];have:=Re.Fi v;grind
 refine AJ Tryz.func230 fun E d=>?_
 conv=>cbv
 refine .inr ?_;refine AB (r:= .one (.bool true)) d (G0 b h.Fj k (j.Bh a.s) (by rw[j.len,List.length_reverse];exact (decide_eq_true rfl).symm)) ?_;try conv=>cbv
 refine AU ?_;conv=>cbv
 refine AB d (TW h b a.vR a.qR) ?_;conv=>cbv
 refine AU ?_;conv=>cbv
 obtain⟨G,f⟩:=xI (An x);refine AB d (Jj h b k j a.v0 a.vR f) ?_;conv=>cbv
 intro n24 c;conv=>cbv
 cases n24 <;> conv=>cbv
 ·have y:=AW c;refine AB d (kv h b k j a F m g z) ?_;conv=>cbv
  refine AB d (ff (aN h b) (by omega)) ?_;conv=>cbv
  exact AD ⟨t2,t2,t2,trivial⟩
 have y:=AY c;exact absurd ((IT (x:=x)).1 (by omega)) o
theorem eD (h:Ae R u) (d:T=tw u) (m:A=em u x) (D:El u s x) (g:Fit u.length R s) {R':Nat} {r:List Rat} {T2:List LR} (W:u.length<8) (S:0<=x) (J:¬Sq u x) (Q:r=co u x) (h':Ae R' (r::u)) (H:T2=tw (r::u)) (O:B=em (r::u) (rt u r)):CF 230 [.one (.sl (.sl AA) T),.one (.sl AA A)] (.AG [(false,[.sl (.sl AA) T2]),(false,[.sl AA B]),(false,[.int .i64 0])]):=by
 have I:T.length=u.length:=by rw[d,Bb]
 have P:=h.ht;refine AJ Tryz.func230 fun E c=>?_
 conv=>cbv
 refine .inr ?_;refine AB (r:= .one (.bool true)) c (G0 d h.Fj m (D.Bh g.s) (by rw[D.len,List.length_reverse];exact (decide_eq_true rfl).symm)) ?_;try conv=>cbv
 refine AU ?_;conv=>cbv
 refine AB c (TW h d g.vR g.qR) ?_;conv=>cbv
 refine AU ?_;conv=>cbv
 obtain⟨V,z⟩:=xI (An x);refine AB c (Jj h d m D g.v0 g.vR z) ?_;conv=>cbv
 intro n24 j;conv=>cbv
 cases n24 <;> conv=>cbv
 ·have K:=AW j;refine AB c (kl h d m D g J rfl) ?_;conv=>cbv
  rintro n36 ⟨M,f36⟩;conv=>cbv
  intro n37 k;conv=>cbv
  cases n37 <;> conv=>cbv
  ·have F:=EI k;obtain⟨X,C⟩:=xN T.length;refine AB c (VQ (aN h d) (by omega) C) ?_;conv=>cbv
   have N:A.length=2^u.length:=by rw[m,BJ D.mem]
   have L:=DD h.ht;refine AB c (S6 (by omega)) ?_;conv=>cbv
   refine⟨[A],fun _=>⟨rfl,by decide,rfl,⟨rfl,by first | exact t1 | exact t2 | exact t4 | simp[Ao,BA,cells],trivial⟩⟩,.inr ?_⟩;try conv=>cbv
   refine .inr (.inl ⟨[A],fun _=>⟨rfl,by rw[C],rfl,by show (T.length+1)*24<=140737488355328;(try simp only[List.length_take,List.length_drop]);omega⟩,?_⟩);intro (f:List (el (.sl AA))) n43 b;have o:f=(T:List (el (.sl AA)))++([A]:List (el (.sl AA))):=b.1;have y:n43=List.length (α:=(el (.sl AA))) f:=b.2;conv=>cbv
   refine⟨fun _=>y,?_⟩;rintro U ⟨G,f47⟩;conv=>cbv
   have a:f=tw (r::u):=by rw[o,d,Mn,m,em,Q]
   refine AB c (bx h' a (AO.of (G.trans (congrArg _ I))) O) ?_;conv=>cbv
   exact AD ⟨⟨rfl,congrArg _ (by rw[H,a]),trivial⟩,t2,t2,trivial⟩
  have F:=EJ k;exact absurd F (by omega)
 have K:=AY j;exact absurd ((IT (x:=x)).1 (by omega)) (by grind)
end Go.Abs
