/- Part 32 of a proof. Conditions: each theorem's own. -/
import Derived.Test.YtjpiilcgomggaaaGreatPk26
import Derived.Test.YtjpiilcgomggaaaGreatPk29
set_option linter.all false
set_option maxHeartbeats 8000000
open Go.Proofs
namespace Go.Abs
open Go.RowKit
variable {A B l:LR} {R k0 s:Nat} {T:List LR} {i n p q t w x:Re} {r:List Rat} {u:List (List Rat)}
theorem QY {C:LR} {y:Re} (h:AU R u) (hT:T=tw u) (hA:A=em u y) (j:El u s y) (ht:t=Re.ofRat (1/2)) (g:s+1+EE u.length R<=60000000000000) (f:C=em u (t*y)):CF 231 [.one (.sl (.sl AA) T),.one (.sl AA A)] (.one (.sl AA C)):=by
 refine AE Tryz.func231 (by kernel_rfl) rfl fun E c=>?_
 conv=>cbv
 obtain⟨v,z,m,o,b⟩:=A9 (1/2:Rat);refine cL c (Tm (by omega) (by omega) (by omega) (by decide +kernel) b) t2 ?_;try conv=>cbv
 obtain⟨k,a⟩:=xR (em u (t));refine cL (r:= .one (.sl AA k)) c (GY h hT b ⟨by decide +kernel,by decide +kernel⟩ (a.trans (by rw[ht]))) ⟨rfl,t4,trivial⟩ ?_;try conv=>cbv
 have d:El u 1 t:=ht ▸ El.rat h.red IJ;refine cL (r:= .one (.sl AA C)) c (E5 h hT hA a j d g (by rw[f];congr 1;grind)) t3 ?_;try conv=>cbv
 exact fA ⟨t2,trivial⟩ rfl (by simp)
theorem ZX {q r:Rat} (hT:T=[]) (hA:A=[rp q]) (z:B=[rp r]) (G:BF q) (v:0<=r) (F:r*r=q):CF 197 [.one (.sl (.sl AA) T),.one (.sl AA A)] (.AG [(false,[.sl AA B]),(false,[.bool true])]):=by
 refine AE Tryz.func197 (by kernel_rfl) rfl fun E C=>?_
 conv=>cbv
 rintro H ⟨k,f27⟩;conv=>cbv
 intro m c;conv=>cbv
 cases m <;> conv=>cbv
 ·have d:=Ac c;exact absurd (by rw[k,hT];rfl) d
 have d:=Ad c;have y:A.length=1:=by rw[hA];rfl
 obtain⟨o,a⟩:=AF (l:=A) (i:=0) (by omega);refine⟨o,fun _=>⟨by omega,a⟩,?_⟩;try conv=>cbv
 have D:=C8 hA a;obtain⟨h,j,f,g,b⟩:=A9 r;refine cL C (UF D G v F b) ⟨t4,trivial⟩ ?_;try conv=>cbv
 refine⟨[((h,j),(f,g))],fun _=>⟨rfl,by decide,rfl,⟨rfl,by first | exact t1 | exact t2 | exact t4 | simp[Ae,Ak,cells],trivial⟩⟩,.inl ?_⟩;try conv=>cbv
 exact fA ⟨⟨rfl,.inl ⟨_,rfl,by simp,congrArg _ (by rw[z,b.rp];rfl)⟩,trivial⟩,t2,trivial⟩ rfl (by simp)
theorem ZW {q:Rat} (hT:T=[]) (hA:A=[rp q]) (j:B=[(((false,[]),(false,[])):el AA)]) (v:BF q) (o:¬∃r:Rat,0<=r/\r*r=q):CF 197 [.one (.sl (.sl AA) T),.one (.sl AA A)] (.AG [(false,[.sl AA B]),(false,[.bool false])]):=by
 refine AE Tryz.func197 (by kernel_rfl) rfl fun E k=>?_
 conv=>cbv
 rintro y ⟨d,f27⟩;conv=>cbv
 intro f b;conv=>cbv
 cases f <;> conv=>cbv
 ·have c:=Ac b;exact absurd (by rw[d,hT];rfl) c
 have c:=Ad b;have h:A.length=1:=by rw[hA];rfl
 obtain⟨g,a⟩:=AF (l:=A) (i:=0) (by omega);refine⟨g,fun _=>⟨by omega,a⟩,?_⟩;try conv=>cbv
 have m:=C8 hA a;refine cL k (UE m v o) ⟨t4,trivial⟩ ?_;try conv=>cbv
 refine⟨[((false,[]),(false,[]))],fun _=>⟨rfl,by decide,rfl,⟨rfl,by first | exact t1 | exact t2 | exact t4 | simp[Ae,Ak,cells],trivial⟩⟩,.inl ?_⟩;try conv=>cbv
 exact fA ⟨⟨rfl,.inl ⟨_,rfl,by simp,congrArg _ (by rw[j];rfl)⟩,trivial⟩,t2,trivial⟩ rfl (by simp)
def E7 (f:FuncId) (u:List (List Rat)) (x w:Re):Prop:=∀{T:List LR} {A B:LR},T=tw u->A=em u x->B=em u w->CF f [.one (.sl (.sl AA) T),.one (.sl AA A)] (.AG [(false,[.sl AA B]),(false,[.bool true])])
def E6 (f:FuncId) (u:List (List Rat)) (x:Re) (l:LR):Prop:=∀{T:List LR} {A:LR},T=tw u->A=em u x->CF f [.one (.sl (.sl AA) T),.one (.sl AA A)] (.AG [(false,[.sl AA l]),(false,[.bool false])])
def OF (f:FuncId) (R:Nat) (u:List (List Rat)):Prop:=∀{s:Nat} {x:Re},El u s x->QQ u.length R s<=60000000000000->(∃w,In u w/\w*w=x/\E7 f u x w)\/(¬Sq u x/\∃l,l.length<=2^u.length/\E6 f u x l)
theorem Zd (h:AU R (r::u)) (hT:T=tw (r::u)) (hA:A=em (r::u) x) (hx:El (r::u) s x) (D:x=p+q*rt u r) (hp:El u s p) (N:El u s q) (hs:QQ (r::u).length R s<=60000000000000) (h0:q=0) (hw:In u w) (hy:E7 197 u p w) (hB:B=em (r::u) w):CF 197 [.one (.sl (.sl AA) T),.one (.sl AA A)] (.AG [(false,[.sl AA B]),(false,[.bool true])]):=by
 have aq:T.length=u.length+1:=by rw[hT,Au];rfl
 have ao:A.length=2^u.length+2^u.length:=by rw[hA,Ap hx.mem,BE]
 have ax:=El.Br h;have ay:=Bk h.red;have a6:=B5 h.tail.ht;have au:=Cc u.length;have O:El u 0 0:=El.rat h.red.1 EK;have av:QQ (r::u).length R s=max (QQ u.length R (3*s+3*EE u.length R+R+GG u.length R+3+II u.length R R)) (s+II u.length R (2*(3*s+3*EE u.length R+R+GG u.length R+3+II u.length R R+GG u.length R)+1)+EE u.length R):=rfl;have aw:=FO u.length R (3*s+3*EE u.length R+R+GG u.length R+3+II u.length R R);have ar:=C3 u.length R (2*(3*s+3*EE u.length R+R+GG u.length R+3+II u.length R R+GG u.length R)+1);refine AE Tryz.func197 (by kernel_rfl) rfl fun E m=>?_
 conv=>cbv
 rintro aC ⟨ae,f27⟩;conv=>cbv
 intro V k;conv=>cbv
 cases V <;> conv=>cbv
 ·have F:=Ac k;rintro aD ⟨af,f41⟩;conv=>cbv
  intro aE aj;conv=>cbv
  refine g1 (by omega) ?_;intro az a2;conv=>cbv
  refine g2 (by omega) ?_;intro L X;conv=>cbv
  intro Q v;conv=>cbv
  rintro aF ⟨ag,f46⟩;conv=>cbv
  intro G ak;conv=>cbv
  refine g1 (by omega) ?_;obtain⟨J,d⟩:=AF (l:=T) (i:=(G).toNat) (by omega);refine⟨J,fun _=>⟨by omega,d⟩,?_⟩;try conv=>cbv
  refine g2 rfl ?_;rintro aG ⟨ah,f52⟩;conv=>cbv
  intro CK al;conv=>cbv
  refine g2 ⟨by omega,by omega,i64 (by omega)⟩ ?_;intro aA a5;conv=>cbv
  refine g2 (by omega) ?_;intro M Y;conv=>cbv
  intro S y;conv=>cbv
  rintro aH ⟨ai,f57⟩;conv=>cbv
  intro aI an;conv=>cbv
  refine g2 ⟨by omega,by omega,i64 (by omega)⟩ ?_;intro aB C;conv=>cbv
  refine g2 (by omega) ?_;rintro K ad ⟨W,o⟩;conv=>cbv
  intro U z;conv=>cbv
  refine g2 rfl ?_;have a:Q=tw u:=by rw[v,List.drop_zero,show L=T.length-1 by omega,hT,CO]
  have P:J=AW r:=by have:=DY r u;rw[<-hT,show T.length-1=G.toNat by omega,d] at this;exact Option.some.inj this
  have g:S=em u p:=by rw[y,List.drop_zero,show M=A.length/2 by omega,hA,BY h.red hp.mem N.mem D]
  have j:U=em u q:=by rw[z,show K=A.length/2 by omega,o,C,List.take_length,hA,BL h.red hp.mem N.mem D]
  refine cL m (Ge h.red.1 N.mem j h0) t1 ?_;try conv=>cbv
  obtain⟨H,b⟩:=xR (em u w);refine cL m (hy a g b) t2 ?_;try conv=>cbv
  obtain⟨aa,ab,a7,a8,f⟩:=A9 (((0:Int):Rat));refine cL m (EZ (by omega) rfl f) t1 ?_;try conv=>cbv
  obtain⟨I,c⟩:=xR (em u (0));refine cL m (GY h.tail a f ⟨by decide +kernel,by decide +kernel⟩ c) ⟨rfl,t4,trivial⟩ ?_;try conv=>cbv
  refine⟨[H,I],fun _=>⟨rfl,by decide,rfl,⟨rfl,by first | exact t1 | exact t2 | exact t4 | simp[Ae,Ak,cells],⟨rfl,by first | exact t1 | exact t2 | exact t4 | simp[Ae,Ak,cells],trivial⟩⟩⟩,.inr ?_⟩;try conv=>cbv
  have Z:H.length=2^u.length:=by rw[b,Ap hw]
  have a1:I.length=2^u.length:=by rw[c,Ap O.mem]
  refine cL (r:= .one (.sl AA B)) m (Jj (by omega) (by omega) (by rw[hB,b,c];exact DI h.red hw (BM u) (by grind))) t1 ?_;try conv=>cbv
  exact fA ⟨t2,t2,trivial⟩ rfl (by simp)
 have F:=Ad k;exact absurd F (by omega)
theorem Ze (h:AU R (r::u)) (hT:T=tw (r::u)) (hA:A=em (r::u) x) (hx:El (r::u) s x) (J:x=p+q*rt u r) (W:El u s p) (X:El u s q) (hs:QQ (r::u).length R s<=60000000000000) (h0:q=0) (hi:In u i) (H:AI u r*i=1) (hn:E6 197 u p l) (hw:In u w) (hy:E7 197 u (p*i) w) (hB:B=em (r::u) (w*rt u r)):CF 197 [.one (.sl (.sl AA) T),.one (.sl AA A)] (.AG [(false,[.sl AA B]),(false,[.bool true])]):=by
 have az:T.length=u.length+1:=by rw[hT,Au];rfl
 have ay:A.length=2^u.length+2^u.length:=by rw[hA,Ap hx.mem,BE]
 have I:=El.Br h;have aE:=Bk h.red;have af:=B5 h.tail.ht;have aB:=Cc u.length;have Y:El u 0 0:=El.rat h.red.1 EK;have aC:QQ (r::u).length R s=max (QQ u.length R (3*s+3*EE u.length R+R+GG u.length R+3+II u.length R R)) (s+II u.length R (2*(3*s+3*EE u.length R+R+GG u.length R+3+II u.length R R+GG u.length R)+1)+EE u.length R):=rfl;have aD:=FO u.length R (3*s+3*EE u.length R+R+GG u.length R+3+II u.length R R);have aA:=C3 u.length R (2*(3*s+3*EE u.length R+R+GG u.length R+3+II u.length R R+GG u.length R)+1);refine AE Tryz.func197 (by kernel_rfl) rfl fun E f=>?_
 conv=>cbv
 rintro aI ⟨al,f27⟩;conv=>cbv
 intro a5 y;conv=>cbv
 cases a5 <;> conv=>cbv
 ·have K:=Ac y;rintro aJ ⟨an,f41⟩;conv=>cbv
  intro aK au;conv=>cbv
  refine g1 (by omega) ?_;intro aF ad;conv=>cbv
  refine g2 (by omega) ?_;intro Q a7;conv=>cbv
  intro Z C;conv=>cbv
  rintro aL ⟨ao,f46⟩;conv=>cbv
  intro L av;conv=>cbv
  refine g1 (by omega) ?_;obtain⟨O,k⟩:=AF (l:=T) (i:=(L).toNat) (by omega);refine⟨O,fun _=>⟨by omega,k⟩,?_⟩;try conv=>cbv
  refine g2 rfl ?_;rintro aM ⟨aq,f52⟩;conv=>cbv
  intro CK aw;conv=>cbv
  refine g2 ⟨by omega,by omega,i64 (by omega)⟩ ?_;intro aG ae;conv=>cbv
  refine g2 (by omega) ?_;intro S a8;conv=>cbv
  intro a1 D;conv=>cbv
  rintro aN ⟨ar,f57⟩;conv=>cbv
  intro aO ax;conv=>cbv
  refine g2 ⟨by omega,by omega,i64 (by omega)⟩ ?_;intro aH G;conv=>cbv
  refine g2 (by omega) ?_;rintro P ak ⟨a6,z⟩;conv=>cbv
  intro a2 F;conv=>cbv
  refine g2 rfl ?_;have a:Z=tw u:=by rw[C,List.drop_zero,show Q=T.length-1 by omega,hT,CO]
  have v:O=AW r:=by have:=DY r u;rw[<-hT,show T.length-1=L.toNat by omega,k] at this;exact Option.some.inj this
  have b:a1=em u p:=by rw[D,List.drop_zero,show S=A.length/2 by omega,hA,BY h.red W.mem X.mem J]
  have o:a2=em u q:=by rw[F,show P=A.length/2 by omega,z,G,List.take_length,hA,BL h.red W.mem X.mem J]
  refine cL f (Ge h.red.1 X.mem o h0) t1 ?_;try conv=>cbv
  refine cL f (hn a b) t2 ?_;try conv=>cbv
  obtain⟨aQ,g⟩:=xR (em u i);have V:=I.inv h.tail hi H;refine cL f (JE h.tail a (v.trans (Cj h.red)) I hi H (by omega) g) t2 ?_;try conv=>cbv
  intro aP U;cases U.trans (show _=false by decide);conv=>cbv
  obtain⟨aR,j⟩:=xR (em u (p*i));refine cL f (E5 h.tail a b g W V (by omega) j) t3 ?_;try conv=>cbv
  obtain⟨M,c⟩:=xR (em u w);refine cL f (hy a j c) t2 ?_;try conv=>cbv
  obtain⟨ai,aj,ag,ah,m⟩:=A9 (((0:Int):Rat));refine cL f (EZ (by omega) rfl m) t1 ?_;try conv=>cbv
  obtain⟨N,d⟩:=xR (em u (0));refine cL f (GY h.tail a m ⟨by decide +kernel,by decide +kernel⟩ d) ⟨rfl,t4,trivial⟩ ?_;try conv=>cbv
  refine⟨[N,M],fun _=>⟨rfl,by decide,rfl,⟨rfl,by first | exact t1 | exact t2 | exact t4 | simp[Ae,Ak,cells],⟨rfl,by first | exact t1 | exact t2 | exact t4 | simp[Ae,Ak,cells],trivial⟩⟩⟩,.inr ?_⟩;try conv=>cbv
  have aa:M.length=2^u.length:=by rw[c,Ap hw]
  have ab:N.length=2^u.length:=by rw[d,Ap Y.mem]
  refine cL (r:= .one (.sl AA B)) f (Jj (by omega) (by omega) (by rw[hB,c,d];exact DI h.red (BM u) hw (by grind))) t1 ?_;try conv=>cbv
  exact fA ⟨t2,t2,trivial⟩ rfl (by simp)
 have K:=Ad y;exact absurd K (by omega)
theorem Zf (h:AU R (r::u)) (hT:T=tw (r::u)) (hA:A=em (r::u) x) (hx:El (r::u) s x) (I:x=p+q*rt u r) (U:El u s p) (V:El u s q) (hs:QQ (r::u).length R s<=60000000000000) {l2:LR} (h0:q=0) (hi:In u i) (G:AI u r*i=1) (hn:E6 197 u p l) (hy:E6 197 u (p*i) l2) (ay:l2.length<=2^u.length) (hB:B=em u 0++l2):CF 197 [.one (.sl (.sl AA) T),.one (.sl AA A)] (.AG [(false,[.sl AA B]),(false,[.bool false])]):=by
 have aw:T.length=u.length+1:=by rw[hT,Au];rfl
 have av:A.length=2^u.length+2^u.length:=by rw[hA,Ap hx.mem,BE]
 have H:=El.Br h;have aC:=Bk h.red;have ab:=B5 h.tail.ht;have az:=Cc u.length;have W:El u 0 0:=El.rat h.red.1 EK;have aA:QQ (r::u).length R s=max (QQ u.length R (3*s+3*EE u.length R+R+GG u.length R+3+II u.length R R)) (s+II u.length R (2*(3*s+3*EE u.length R+R+GG u.length R+3+II u.length R R+GG u.length R)+1)+EE u.length R):=rfl;have aB:=FO u.length R (3*s+3*EE u.length R+R+GG u.length R+3+II u.length R R);have ax:=C3 u.length R (2*(3*s+3*EE u.length R+R+GG u.length R+3+II u.length R R+GG u.length R)+1);refine AE Tryz.func197 (by kernel_rfl) rfl fun E d=>?_
 conv=>cbv
 rintro aG ⟨ai,f27⟩;conv=>cbv
 intro a1 v;conv=>cbv
 cases a1 <;> conv=>cbv
 ·have J:=Ac v;rintro aH ⟨aj,f41⟩;conv=>cbv
  intro aI ao;conv=>cbv
  refine g1 (by omega) ?_;intro aD a8;conv=>cbv
  refine g2 (by omega) ?_;intro O a5;conv=>cbv
  intro X z;conv=>cbv
  rintro aJ ⟨ak,f46⟩;conv=>cbv
  intro K aq;conv=>cbv
  refine g1 (by omega) ?_;obtain⟨M,j⟩:=AF (l:=T) (i:=(K).toNat) (by omega);refine⟨M,fun _=>⟨by omega,j⟩,?_⟩;try conv=>cbv
  refine g2 rfl ?_;rintro aK ⟨al,f52⟩;conv=>cbv
  intro CK ar;conv=>cbv
  refine g2 ⟨by omega,by omega,i64 (by omega)⟩ ?_;intro aE aa;conv=>cbv
  refine g2 (by omega) ?_;intro P a6;conv=>cbv
  intro Y C;conv=>cbv
  rintro aL ⟨an,f57⟩;conv=>cbv
  intro aM au;conv=>cbv
  refine g2 ⟨by omega,by omega,i64 (by omega)⟩ ?_;intro aF F;conv=>cbv
  refine g2 (by omega) ?_;rintro N ah ⟨a2,y⟩;conv=>cbv
  intro Z D;conv=>cbv
  refine g2 rfl ?_;have a:X=tw u:=by rw[z,List.drop_zero,show O=T.length-1 by omega,hT,CO]
  have o:M=AW r:=by have:=DY r u;rw[<-hT,show T.length-1=K.toNat by omega,j] at this;exact Option.some.inj this
  have b:Y=em u p:=by rw[C,List.drop_zero,show P=A.length/2 by omega,hA,BY h.red U.mem V.mem I]
  have m:Z=em u q:=by rw[D,show N=A.length/2 by omega,y,F,List.take_length,hA,BL h.red U.mem V.mem I]
  refine cL d (Ge h.red.1 V.mem m h0) t1 ?_;try conv=>cbv
  refine cL d (hn a b) t2 ?_;try conv=>cbv
  obtain⟨aO,f⟩:=xR (em u i);have S:=H.inv h.tail hi G;refine cL d (JE h.tail a (o.trans (Cj h.red)) H hi G (by omega) f) t2 ?_;try conv=>cbv
  intro aN Q;cases Q.trans (show _=false by decide);conv=>cbv
  obtain⟨aP,g⟩:=xR (em u (p*i));refine cL d (E5 h.tail a b f U S (by omega) g) t3 ?_;try conv=>cbv
  refine cL d (hy a g) t2 ?_;try conv=>cbv
  obtain⟨af,ag,ad,ae,k⟩:=A9 (((0:Int):Rat));refine cL d (EZ (by omega) rfl k) t1 ?_;try conv=>cbv
  obtain⟨L,c⟩:=xR (em u (0));refine cL d (GY h.tail a k ⟨by decide +kernel,by decide +kernel⟩ c) ⟨rfl,t4,trivial⟩ ?_;try conv=>cbv
  refine⟨[L,l2],fun _=>⟨rfl,by decide,rfl,⟨rfl,by first | exact t1 | exact t2 | exact t4 | simp[Ae,Ak,cells],⟨rfl,by first | exact t1 | exact t2 | exact t4 | simp[Ae,Ak,cells],trivial⟩⟩⟩,.inr ?_⟩;try conv=>cbv
  have a7:L.length=2^u.length:=by rw[c,Ap W.mem]
  refine cL (r:= .one (.sl AA B)) d (Jj (by omega) (by omega) (by rw[hB,c])) t1 ?_;try conv=>cbv
  exact fA ⟨t2,t2,trivial⟩ rfl (by simp)
 have J:=Ad v;exact absurd J (by omega)
theorem ZZ (h:AU R (r::u)) (hT:T=tw (r::u)) (hA:A=em (r::u) x) (hx:El (r::u) s x) (f:x=p+q*rt u r) (L:El u s p) (F:El u s q) (hs:QQ (r::u).length R s<=60000000000000) (h0:q≠0) (hn:E6 197 u (p*p-q*q*AI u r) l) (hB:B=[]):CF 197 [.one (.sl (.sl AA) T),.one (.sl AA A)] (.AG [(false,[.sl AA B]),(false,[.bool false])]):=by
 have ah:T.length=u.length+1:=by rw[hT,Au];rfl
 have ag:A.length=2^u.length+2^u.length:=by rw[hA,Ap hx.mem,BE]
 have an:=El.Br h;have ao:=Bk h.red;have Y:=B5 h.tail.ht;have aj:=Cc u.length;have aq:El u 0 0:=El.rat h.red.1 EK;have ak:QQ (r::u).length R s=max (QQ u.length R (3*s+3*EE u.length R+R+GG u.length R+3+II u.length R R)) (s+II u.length R (2*(3*s+3*EE u.length R+R+GG u.length R+3+II u.length R R+GG u.length R)+1)+EE u.length R):=rfl;have al:=FO u.length R (3*s+3*EE u.length R+R+GG u.length R+3+II u.length R R);have ai:=C3 u.length R (2*(3*s+3*EE u.length R+R+GG u.length R+3+II u.length R R+GG u.length R)+1);refine AE Tryz.func197 (by kernel_rfl) rfl fun E J=>?_
 conv=>cbv
 rintro aw ⟨a5,f27⟩;conv=>cbv
 intro Q j;conv=>cbv
 cases Q <;> conv=>cbv
 ·have z:=Ac j;rintro ax ⟨a6,f41⟩;conv=>cbv
  intro ay ab;conv=>cbv
  refine g1 (by omega) ?_;intro ar W;conv=>cbv
  refine g2 (by omega) ?_;intro H U;conv=>cbv
  intro N m;conv=>cbv
  rintro az ⟨a7,f46⟩;conv=>cbv
  intro C ad;conv=>cbv
  refine g1 (by omega) ?_;obtain⟨D,b⟩:=AF (l:=T) (i:=(C).toNat) (by omega);refine⟨D,fun _=>⟨by omega,b⟩,?_⟩;try conv=>cbv
  refine g2 rfl ?_;rintro aA ⟨a8,f52⟩;conv=>cbv
  intro CK ae;conv=>cbv
  refine g2 ⟨by omega,by omega,i64 (by omega)⟩ ?_;intro au X;conv=>cbv
  refine g2 (by omega) ?_;intro I V;conv=>cbv
  intro O o;conv=>cbv
  rintro aB ⟨aa,f57⟩;conv=>cbv
  intro aC af;conv=>cbv
  refine g2 ⟨by omega,by omega,i64 (by omega)⟩ ?_;intro av y;conv=>cbv
  refine g2 (by omega) ?_;rintro G a2 ⟨S,k⟩;conv=>cbv
  intro P v;conv=>cbv
  refine g2 rfl ?_;have c:N=tw u:=by rw[m,List.drop_zero,show H=T.length-1 by omega,hT,CO]
  have M:D=AW r:=by have:=DY r u;rw[<-hT,show T.length-1=C.toNat by omega,b] at this;exact Option.some.inj this
  have K:O=em u p:=by rw[o,List.drop_zero,show I=A.length/2 by omega,hA,BY h.red L.mem F.mem f]
  have d:P=em u q:=by rw[v,show G=A.length/2 by omega,k,y,List.take_length,hA,BL h.red L.mem F.mem f]
  refine cL J (FW h.red.1 F.mem d h0) t1 ?_;try conv=>cbv
  obtain⟨a1,a⟩:=xR (em u (p*p-q*q*AI u r));refine cL J (LV h hT hA hx f L.mem F.mem (by omega) a) t2 ?_;try conv=>cbv
  refine cL J (hn c a) t2 ?_;try conv=>cbv
  intro Z g;cases g.trans (rfl:_=true);conv=>cbv
  exact fA ⟨⟨rfl,.inr (.inl ⟨_,congrArg _ (hB)⟩),trivial⟩,t2,trivial⟩ rfl (by simp)
 have z:=Ad j;exact absurd z (by omega)
theorem TL {a b:Re} {y:Nat->Re} {x:LR} {i:Nat} (h:[A,B][i]? =some x) (hA:A=em u a) (f:B=em u b) (c:y 0=a) (d:y 1=b):x=em u (y i):=by
 match i,h with
 | 0,h=>rw[c,<-hA];exact (Option.some.inj h).symm
 | 1,h=>rw[d,<-f];exact (Option.some.inj h).symm
 | i+2,h=>simp at h
theorem Zc {f:FuncId} {y:Nat->Re} {L:Nat->LR} {i:Nat} {b:Bool} (j:i<=k0) (a:∀i,i<k0->E6 f u (t*y i) (L i)) (c:E7 f u (t*y k0) w) (g:b=decide (i=k0)) (d:B=if i=k0 then em u w else L i) (hT:T=tw u) (hA:A=em u (t*y i)):
  CF f [.one (.sl (.sl AA) T),.one (.sl AA A)] (.AG [(false,[.sl AA B]),(false,[.bool b])]):=by
 by_cases h:i=k0
 ·subst h;rw[g,decide_eq_true rfl];exact c hT hA (by rw[d,if_pos rfl])
 rw[g,decide_eq_false h,d,if_neg h];exact a i (by omega) hT hA
theorem El.half {y:Re} (h:El u s y) (hu:AU R u) (ht:t=Re.ofRat (1/2)):El u (s+1+EE u.length R) (t*y):=by
 have a:El u 1 t:=ht ▸ El.rat hu.red IJ;have:=a.mul hu h;rwa [show 1+s+EE u.length R=s+1+EE u.length R by omega] at this
theorem Zb (h:AU R (r::u)) (hT:T=tw (r::u)) (hA:A=em (r::u) x) (hx:El (r::u) s x) (F:x=p+q*rt u r) (N:El u s p) (Z:El u s q) (hs:QQ (r::u).length R s<=60000000000000) (h0:q≠0) (hn:In u n) (aj:n*n=p*p-q*q*AI u r) (ht:t=Re.ofRat (1/2)) (ar:E7 197 u (p*p-q*q*AI u r) n) {y:Nat->Re} (an:y 0=p+n) (ao:y 1=p-n) (aq:∀i,El u (s+(2*s+2*EE u.length R+R+1+GG u.length R)+1) (y i)) {L:Nat->LR} (ai:k0<=2) (ak:∀i,i<k0->E6 197 u (t*y i) (L i)) (aY:k0=2) (hB:B=[]):CF 197 [.one (.sl (.sl AA) T),.one (.sl AA A)] (.AG [(false,[.sl AA B]),(false,[.bool false])]):=by
 have aV:T.length=u.length+1:=by rw[hT,Au];rfl
 have aU:A.length=2^u.length+2^u.length:=by rw[hA,Ap hx.mem,BE]
 have b2:=El.Br h;have b3:=Bk h.red;have aD:=B5 h.tail.ht;have aZ:=Cc u.length;have b4:El u 0 0:=El.rat h.red.1 EK;have b0:QQ (r::u).length R s=max (QQ u.length R (3*s+3*EE u.length R+R+GG u.length R+3+II u.length R R)) (s+II u.length R (2*(3*s+3*EE u.length R+R+GG u.length R+3+II u.length R R+GG u.length R)+1)+EE u.length R):=rfl;have b1:=FO u.length R (3*s+3*EE u.length R+R+GG u.length R+3+II u.length R R);have aW:=C3 u.length R (2*(3*s+3*EE u.length R+R+GG u.length R+3+II u.length R R+GG u.length R)+1);have hN:=El.norm h N.mem Z.mem (F ▸ hx);refine AE Tryz.func197 (by kernel_rfl) rfl fun E J=>?_
 conv=>cbv
 rintro b9 ⟨aK,f27⟩;conv=>cbv
 intro av Q;conv=>cbv
 cases av <;> conv=>cbv
 ·have a2:=Ac Q;rintro ba ⟨aL,f41⟩;conv=>cbv
  intro bb aQ;conv=>cbv
  refine g1 (by omega) ?_;intro b6 aB;conv=>cbv
  refine g2 (by omega) ?_;intro af az;conv=>cbv
  intro a5 U;conv=>cbv
  rintro bc ⟨aM,f46⟩;conv=>cbv
  intro ab aR;conv=>cbv
  refine g1 (by omega) ?_;obtain⟨ad,H⟩:=AF (l:=T) (i:=(ab).toNat) (by omega);refine⟨ad,fun _=>⟨by omega,H⟩,?_⟩;try conv=>cbv
  refine g2 rfl ?_;rintro bd ⟨aN,f52⟩;conv=>cbv
  intro CK aS;conv=>cbv
  refine g2 ⟨by omega,by omega,i64 (by omega)⟩ ?_;intro b7 aC;conv=>cbv
  refine g2 (by omega) ?_;intro ag aA;conv=>cbv
  intro au V;conv=>cbv
  rintro bf ⟨aO,f57⟩;conv=>cbv
  intro bg aT;conv=>cbv
  refine g2 ⟨by omega,by omega,i64 (by omega)⟩ ?_;intro b8 X;conv=>cbv
  refine g2 (by omega) ?_;rintro ae aJ ⟨ay,S⟩;conv=>cbv
  intro a6 W;conv=>cbv
  refine g2 rfl ?_;have a:a5=tw u:=by rw[U,List.drop_zero,show af=T.length-1 by omega,hT,CO]
  have al:ad=AW r:=by have:=DY r u;rw[<-hT,show T.length-1=ab.toNat by omega,H] at this;exact Option.some.inj this
  have d:au=em u p:=by rw[V,List.drop_zero,show ag=A.length/2 by omega,hA,BY h.red N.mem Z.mem F]
  have M:a6=em u q:=by rw[W,show ae=A.length/2 by omega,S,X,List.take_length,hA,BL h.red N.mem Z.mem F]
  refine cL J (FW h.red.1 Z.mem M h0) t1 ?_;try conv=>cbv
  obtain⟨aG,f⟩:=xR (em u (p*p-q*q*AI u r));refine cL J (LV h hT hA hx F N.mem Z.mem (by omega) f) t2 ?_;try conv=>cbv
  obtain⟨aH,b⟩:=xR (em u n);have Y:=hN.sqrt h.tail hn aj;refine cL J (ar a f b) t2 ?_;try conv=>cbv
  intro aE O;cases O.trans (rfl:_=false);conv=>cbv
  obtain⟨z,g⟩:=xR (em u (p+n));refine cL J (G0 h.tail a d b N Y (by omega) (by omega) g) t3 ?_;try conv=>cbv
  obtain⟨C,j⟩:=xR (em u (p-n));refine cL J (JK h.tail a d b N Y (by omega) (by omega) j) t3 ?_;try conv=>cbv
  refine⟨[z,C],fun _=>⟨rfl,by decide,rfl,⟨rfl,by first | exact t1 | exact t2 | exact t4 | simp[Ae,Ak,cells],⟨rfl,by first | exact t1 | exact t2 | exact t4 | simp[Ae,Ak,cells],trivial⟩⟩⟩,.inr ?_⟩;try conv=>cbv
  intro a7 c;have aw:=c.eq;have f118:=c.le;conv=>cbv
  refine .inr ?_;obtain⟨J0,K⟩:=xJ fun vs bl k=>∃(i':Nat) (m i:Int),vs=[.one (.sl (.sl AA) a5),.one (.sl AA a6),.one (.sl (.sl AA) [z,C]),.one (.int .i64 m),.one (.int .i64 i)]/\(AK m 2/\AK i i'/\i'<=k0)/\k=2-i'
  refine⟨[8,11,117,118,119],[],J0,⟨2-0,by rw[K];exact⟨0,a7,0,rfl,⟨⟨c.eq⟩,Ai 0,by omega⟩,rfl⟩⟩,?_⟩;intro vs bl b5 hj;rw[K] at hj;obtain⟨i',m,i,rfl,⟨hM,ah,aX⟩,ai⟩:=hj;conv=>cbv
  have eM:=hM.eq;have aP:=ah.eq;intro a8 G;conv=>cbv
  cases a8 <;> conv=>cbv
  ·have a1:=AR G;exact fA ⟨⟨rfl,.inr (.inl ⟨_,congrArg _ (hB)⟩),trivial⟩,t2,trivial⟩ rfl (by simp)
  have a1:=AS G;refine .inr ?_;obtain⟨I,v⟩:=AF (l:=[z,C]) (i:=i') (by show _<2;omega);refine⟨I,fun _=>⟨by omega,by rw[show (i).toNat=i' by omega];exact v⟩,?_⟩;try conv=>cbv
  have D:I=em u (y i'):=TL v g j an ao;obtain⟨aI,o⟩:=xR (em u (t*y i'));refine cL J (QY h.tail a D (aq i') ht (by omega) o) t2 ?_;try conv=>cbv
  refine cL J (ak i' (by omega) a o) t2 ?_;try conv=>cbv
  intro aF P;cases P.trans (rfl:_=true);conv=>cbv
  intro aa ax;conv=>cbv
  refine g1 (by omega) ?_;refine⟨2-(i'+1),?_,?_⟩
  ·omega
  rw[K];exact⟨i'+1,m,aa,rfl,⟨hM,⟨by omega⟩,by omega⟩,rfl⟩
 have a2:=Ad Q;exact absurd a2 (by omega)
theorem Za (h:AU R (r::u)) (hT:T=tw (r::u)) (hA:A=em (r::u) x) (hx:El (r::u) s x) (U:x=p+q*rt u r) (hp:El u s p) (X:El u s q) (hs:QQ (r::u).length R s<=60000000000000) (h0:q≠0) (hn:In u n) (aF:n*n=p*p-q*q*AI u r) (ht:t=Re.ofRat (1/2)) (aM:E7 197 u (p*p-q*q*AI u r) n) {y:Nat->Re} (aK:y 0=p+n) (aL:y 1=p-n) (ah:∀i,El u (s+(2*s+2*EE u.length R+R+1+GG u.length R)+1) (y i)) {L:Nat->LR} (aC:k0<=2) (aG:∀i,i<k0->E6 197 u (t*y i) (L i)) (bm:k0<2) {j:Re} (hw:In u w) (aI:w*w=t*y k0) (aH:w≠0) (aN:E7 197 u (t*y k0) w) (hj:In u j) (ag:(w+w)*j=1) (hB:B=em (r::u) (w+q*j*rt u r)):CF 197 [.one (.sl (.sl AA) T),.one (.sl AA A)] (.AG [(false,[.sl AA B]),(false,[.bool true])]):=by
 have bj:T.length=u.length+1:=by rw[hT,Au];rfl
 have bh:A.length=2^u.length+2^u.length:=by rw[hA,Ap hx.mem,BE]
 have bs:=El.Br h;have bt:=Bk h.red;have aY:=B5 h.tail.ht;have bp:=Cc u.length;have bu:El u 0 0:=El.rat h.red.1 EK;have bq:QQ (r::u).length R s=max (QQ u.length R (3*s+3*EE u.length R+R+GG u.length R+3+II u.length R R)) (s+II u.length R (2*(3*s+3*EE u.length R+R+GG u.length R+3+II u.length R R+GG u.length R)+1)+EE u.length R):=rfl;have br:=FO u.length R (3*s+3*EE u.length R+R+GG u.length R+3+II u.length R R);have bk:=C3 u.length R (2*(3*s+3*EE u.length R+R+GG u.length R+3+II u.length R R+GG u.length R)+1);have hN:=El.norm h hp.mem X.mem (U ▸ hx);refine AE Tryz.func197 (by kernel_rfl) rfl fun E o=>?_
 conv=>cbv
 rintro bB ⟨b6,f27⟩;conv=>cbv
 intro aP a7;conv=>cbv
 cases aP <;> conv=>cbv
 ·have ai:=Ac a7;rintro bC ⟨b7,f41⟩;conv=>cbv
  intro bD bc;conv=>cbv
  refine g1 (by omega) ?_;intro bx aW;conv=>cbv
  refine g2 (by omega) ?_;intro aw aU;conv=>cbv
  intro aj aa;conv=>cbv
  rintro bE ⟨b8,f46⟩;conv=>cbv
  intro ar bd;conv=>cbv
  refine g1 (by omega) ?_;obtain⟨au,Y⟩:=AF (l:=T) (i:=(ar).toNat) (by omega);refine⟨au,fun _=>⟨by omega,Y⟩,?_⟩;try conv=>cbv
  refine g2 rfl ?_;rintro bF ⟨b9,f52⟩;conv=>cbv
  intro CK bf;conv=>cbv
  refine g2 ⟨by omega,by omega,i64 (by omega)⟩ ?_;intro bz aX;conv=>cbv
  refine g2 (by omega) ?_;intro ax aV;conv=>cbv
  intro aO ab;conv=>cbv
  rintro bG ⟨ba,f57⟩;conv=>cbv
  intro bH bg;conv=>cbv
  refine g2 ⟨by omega,by omega,i64 (by omega)⟩ ?_;intro bA ae;conv=>cbv
  refine g2 (by omega) ?_;rintro av b5 ⟨aT,a8⟩;conv=>cbv
  intro ak ad;conv=>cbv
  refine g2 rfl ?_;have a:aj=tw u:=by rw[aa,List.drop_zero,show aw=T.length-1 by omega,hT,CO]
  have aJ:au=AW r:=by have:=DY r u;rw[<-hT,show T.length-1=ar.toNat by omega,Y] at this;exact Option.some.inj this
  have z:aO=em u p:=by rw[ab,List.drop_zero,show ax=A.length/2 by omega,hA,BY h.red hp.mem X.mem U]
  have C:ak=em u q:=by rw[ad,show av=A.length/2 by omega,a8,ae,List.take_length,hA,BL h.red hp.mem X.mem U]
  refine cL o (FW h.red.1 X.mem C h0) t1 ?_;try conv=>cbv
  obtain⟨b0,D⟩:=xR (em u (p*p-q*q*AI u r));refine cL o (LV h hT hA hx U hp.mem X.mem (by omega) D) t2 ?_;try conv=>cbv
  obtain⟨b1,d⟩:=xR (em u n);have af:=hN.sqrt h.tail hn aF;refine cL o (aM a D d) t2 ?_;try conv=>cbv
  intro aZ a6;cases a6.trans (rfl:_=false);conv=>cbv
  obtain⟨O,F⟩:=xR (em u (p+n));refine cL o (G0 h.tail a z d hp af (by omega) (by omega) F) t3 ?_;try conv=>cbv
  obtain⟨P,G⟩:=xR (em u (p-n));refine cL o (JK h.tail a z d hp af (by omega) (by omega) G) t3 ?_;try conv=>cbv
  refine⟨[O,P],fun _=>⟨rfl,by decide,rfl,⟨rfl,by first | exact t1 | exact t2 | exact t4 | simp[Ae,Ak,cells],⟨rfl,by first | exact t1 | exact t2 | exact t4 | simp[Ae,Ak,cells],trivial⟩⟩⟩,.inr ?_⟩;try conv=>cbv
  intro al v;have aR:=v.eq;have f118:=v.le;conv=>cbv
  refine .inr ?_;obtain⟨J0,a5⟩:=xJ fun vs bl k=>∃(i':Nat) (m i:Int),vs=[.one (.sl (.sl AA) aj),.one (.sl AA ak),.one (.sl (.sl AA) [O,P]),.one (.int .i64 m),.one (.int .i64 i)]/\(AK m 2/\AK i i'/\i'<=k0)/\k=2-i'
  refine⟨[8,11,117,118,119],[],J0,⟨2-0,by rw[a5];exact⟨0,al,0,rfl,⟨⟨v.eq⟩,Ai 0,by omega⟩,rfl⟩⟩,?_⟩;intro vs bl bw hj;rw[a5] at hj;obtain⟨i',m,i,rfl,⟨hM,ay,az⟩,aC⟩:=hj;conv=>cbv
  have eM:=hM.eq;have bb:=ay.eq;intro an V;conv=>cbv
  cases an <;> conv=>cbv
  ·have Z:=AR V;exact absurd Z (by omega)
  have Z:=AS V;refine .inr ?_;obtain⟨a2,M⟩:=AF (l:=[O,P]) (i:=i') (by show _<2;omega);refine⟨a2,fun _=>⟨by omega,by rw[show (i).toNat=i' by omega];exact M⟩,?_⟩;try conv=>cbv
  have S:a2=em u (y i'):=TL M F G aK aL;obtain⟨b2,H⟩:=xR (em u (t*y i'));refine cL o (QY h.tail a S (ah i') ht (by omega) H) t2 ?_;try conv=>cbv
  obtain⟨aQ,c⟩:=xB (decide (i'=k0));obtain⟨Q,I⟩:=xR (if i'=k0 then em u w else L i');refine cL o (Zc az aG aN c I a H) t2 ?_;try conv=>cbv
  intro ao W;conv=>cbv
  cases ao <;> conv=>cbv
  ·have N:=Co W;have aA:i'=k0:=of_decide_eq_true (c.symm.trans N);have b:Q=em u w:=by rw[I,if_pos aA]
   have g:El u (s+(2*s+2*EE u.length R+R+1+GG u.length R)+1+1+EE u.length R+GG u.length R) w:=(((ah k0).half h.tail ht).sqrt h.tail hw aI);have aB:=(g.add h.red.1 g).inv h.tail hj ag;have bn:=Ga u.length R (s:=s+(2*s+2*EE u.length R+R+1+GG u.length R)+1+1+EE u.length R+GG u.length R+(s+(2*s+2*EE u.length R+R+1+GG u.length R)+1+1+EE u.length R+GG u.length R)+1) (t:=2*(3*s+3*EE u.length R+R+GG u.length R+3+II u.length R R+GG u.length R)+1) (by omega);refine cL o (FW h.red.1 hw b aH) t1 ?_;try conv=>cbv
   obtain⟨b3,J⟩:=xR (em u (w+w));refine cL o (G0 h.tail a b b g g (by omega) (by omega) J) t3 ?_;try conv=>cbv
   obtain⟨b4,K⟩:=xR (em u j);refine cL o (JE h.tail a J (g.add h.red.1 g) hj ag (by omega) K) t2 ?_;try conv=>cbv
   obtain⟨a1,f⟩:=xR (em u (q*j));refine cL o (E5 h.tail a C K X aB (by omega) f) t3 ?_;try conv=>cbv
   refine⟨[Q,a1],fun _=>⟨rfl,by decide,rfl,⟨rfl,by first | exact t1 | exact t2 | exact t4 | simp[Ae,Ak,cells],⟨rfl,by first | exact t1 | exact t2 | exact t4 | simp[Ae,Ak,cells],trivial⟩⟩⟩,.inr ?_⟩;try conv=>cbv
   have aD:Q.length=2^u.length:=by rw[b,Ap hw]
   have aE:a1.length=2^u.length:=by rw[f,Ap (Ab h.red.1 X.mem hj)]
   refine cL (r:= .one (.sl AA B)) o (Jj (by omega) (by omega) (by rw[hB,b,f];exact DI h.red hw (Ab h.red.1 X.mem hj) rfl)) t1 ?_;try conv=>cbv
   exact fA ⟨t2,t2,trivial⟩ rfl (by simp)
  have N:=Cp W;intro aq aS;conv=>cbv
  refine g1 (by omega) ?_;have bo:i'≠k0:=of_decide_eq_false (c.symm.trans N);refine⟨2-(i'+1),?_,?_⟩
  ·omega
  rw[a5];exact⟨i'+1,m,aq,rfl,⟨hM,⟨by omega⟩,by omega⟩,rfl⟩
 have ai:=Ad a7;exact absurd ai (by omega)
end Go.Abs
namespace Go.Abs
open Go.RowKit
theorem QX {t:Re} (ht:t=Re.ofRat (1/2)):2*t=1:=by
 have a:(2:Re)=Re.ofRat 2:=rfl;rw[ht,a,<-Re.ofRat_mul,show (2:Rat)*(1/2)=1 by decide +kernel];rfl
theorem NY {u:List (List Rat)} {R:Nat} (h:AU R u):OF 197 R u:=by
 induction u with
 | nil=>
  intro s x hx D;obtain⟨q,rfl⟩:=Bb.1 hx.mem
  have Z:BF q:=by
   have:=hx.BC (by have:=FO ([]:List (List Rat)).length R s;omega);rw[Bn] at this;exact this q List.mem_cons_self
  by_cases P:∃r:Rat,0<=r/\r*r=q
  ·obtain⟨r,v,P⟩:=P;refine .inl ⟨Re.ofRat r,FY r _,by rw[<-Re.ofRat_mul,P],?_⟩;intro T A B hT hA J;exact ZX hT (hA.trans (Cg q)) (J.trans (Cg r)) Z v P
  refine .inr ⟨fun D=>P (NZ.1 D),[(((false,[]),(false,[])):el AA)],?_,?_⟩
  rotate_left
  ·intro T A hT hA;exact ZW hT (hA.trans (Cg q)) rfl Z P
  simp
 | cons r u c=>
  have c:OF 197 R u:=c h.tail;intro s x hx D;obtain⟨p,q,a,d,z⟩:=El.parts h.red hx;have ak:QQ (r::u).length R s=max (QQ u.length R (3*s+3*EE u.length R+R+GG u.length R+3+II u.length R R)) (s+II u.length R (2*(3*s+3*EE u.length R+R+GG u.length R+3+II u.length R R+GG u.length R)+1)+EE u.length R):=rfl;have hQ:∀s',s'<=3*s+3*EE u.length R+R+GG u.length R+3+II u.length R R->QQ u.length R s'<=60000000000000:=fun s' h'=>Nat.le_trans (JH u.length R h') (by omega)
  have af:=El.Br h;have ag:=Bk h.red
  by_cases v:q=0
  ·have M:x=p:=by rw[a,v];clear c;grind
   rcases c d (hQ _ (by omega)) with⟨w,hw,b,N⟩ |⟨g,l,hl,O⟩
   ·refine .inl ⟨w,FZ hw,by rw[M];exact b,?_⟩;intro T A B hT hA J;exact Zd h hT hA hx a d z D v hw N J
   obtain⟨i,C,k⟩:=DR h.red.1 (Bg h.red) (by have:=h.red.2.2.1;grind);have a8:=af.inv h.tail C k;rcases c (d.mul h.tail a8) (hQ _ (by omega)) with⟨w,hw,b,N⟩ |⟨X,l2,aa,ad⟩
   ·refine .inl ⟨w*rt u r,Bo.2 ⟨0,w,BM u,hw,by clear c;grind⟩,?_,?_⟩
    ·have:p=p*(AI u r*i):=by rw[k];clear c;grind
     rw[M];clear c;grind
    intro T A B hT hA J;exact Ze h hT hA hx a d z D v C k O hw N J
   refine .inr ⟨?_,em u 0++l2,?_,?_⟩
   ·rw[M,Sx h.red d.mem];rintro (h1 |⟨i',ah,Y,h1⟩)
    ·exact g h1
    have:i'=i:=by
     have:i'=i'*(AI u r*i):=by rw[k];clear c;grind
     have h2:i=i*(AI u r*i'):=by rw[Y];clear c;grind
     clear c;grind
    rw[this] at h1;exact X h1
   ·rw[List.length_append,Ap (BM u),BE];omega
   intro T A hT hA;exact Zf h hT hA hx a d z D v C k O ad aa rfl
  have hN:=El.norm h d.mem z.mem (a ▸ hx);rcases c hN (hQ _ (by omega)) with⟨n,O,f,a7⟩ |⟨g,l,hl,ae⟩
  rotate_left
  ·refine .inr ⟨fun hS=>g (S3 h.red d.mem z.mem (a ▸ hS)),[],Nat.zero_le _,?_⟩;intro T A hT hA;exact ZZ h hT hA hx a d z D v ae rfl
  have U:=hN.sqrt h.tail O f;obtain⟨t,ht⟩:∃t:Re,t=Re.ofRat (1/2):=⟨_,rfl⟩
  have K:=QX ht;obtain⟨y,N⟩:∃y:Nat->Re,y=fun i=>if i=0 then p+n else p-n:=⟨_,rfl⟩
  have F:y 0=p+n:=by rw[N];rfl
  have G:y 1=p-n:=by rw[N];rfl
  have H:∀i,El u (s+(2*s+2*EE u.length R+R+1+GG u.length R)+1) (y i):=fun i=>by
   rw[N]
   show El u _ (if i=0 then p+n else p-n)
   by_cases C:i=0
   ·rw[if_pos C];exact d.add h.red.1 U
   rw[if_neg C];exact d.sub h.red.1 U
  have I:∀(k0:Nat) (L:Nat->LR) (w:Re),k0<2->(∀i,i<k0->E6 197 u (t*y i) (L i))->In u w->w*w=t*y k0->E7 197 u (t*y k0) w->
    ∃w,In (r::u) w/\w*w=x/\E7 197 (r::u) x w:=by
   intro k0 L w hk g hw b o
   have key:∃m,m*m=p*p-q*q*AI u r/\y k0=p+m:=by
    rcases (show k0=0\/k0=1 by omega) with rfl | rfl
    ·exact⟨n,f,F⟩
    exact⟨-n,by rw[<-f];clear c;grind,by rw[G];clear c;grind⟩
   obtain⟨m,Q,a6⟩:=key;have a1:w≠0:=Sw h.red v Q K (by rw[b,a6])
   have a5:w+w≠0:=by
    intro e;have e1:2*w=0:=by clear c;grind
    rcases Re.EN e1 with e | e
    ·exact K9 e
    exact a1 e
   obtain⟨j,hj,a2⟩:=DR h.red.1 (B3 hw hw) a5;refine⟨w+q*j*rt u r,Bo.2 ⟨_,_,hw,Ab h.red.1 z.mem hj,rfl⟩,?_,?_⟩
   ·rw[a];exact Sv Q K ag (by rw[b,a6]) a2 rfl
   intro T A B hT hA J;exact Za h hT hA hx a d z D v O f ht a7 F G H (by omega) g hk hw b a1 o hj a2 J
  have hb:QQ u.length R (s+(2*s+2*EE u.length R+R+1+GG u.length R)+1+1+EE u.length R)<=60000000000000:=hQ _ (by omega);rcases c ((H 0).half h.tail ht) hb with⟨w,hw,b,o⟩ |⟨V,l0,ai,S⟩
  ·exact .inl (I 0 (fun _=>[]) w (by omega) (fun i C=>by omega) hw b o)
  rcases c ((H 1).half h.tail ht) hb with⟨w,hw,b,o⟩ |⟨W,l1,aj,ab⟩
  ·exact .inl (I 1 (fun _=>l0) w (by omega) (fun i C=>by rw[show i=0 by omega];exact S) hw b o)
  refine .inr ⟨fun hS=>?_,[],Nat.zero_le _,?_⟩
  ·rcases S4 h.red d.mem z.mem (a ▸ hS) f K with e | e
   ·exact V (by rw[F];exact e)
   exact W (by rw[G];exact e)
  intro T A hT hA
  exact Zb h hT hA hx a d z D v O f ht a7 F G H (L:=fun i=>if i=0 then l0 else l1) (Nat.le_refl 2) (fun i C=>by
   rcases (show i=0\/i=1 by omega) with rfl | rfl
   ·exact S
   exact ab) rfl rfl
end Go.Abs
