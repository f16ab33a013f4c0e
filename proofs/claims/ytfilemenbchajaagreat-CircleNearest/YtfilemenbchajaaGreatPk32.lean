/- Part 33 of a proof. Conditions: each theorem's own. -/
import Derived.Test.YtfilemenbchajaaGreatPk27
import Derived.Test.YtfilemenbchajaaGreatPk30
set_option linter.all false
set_option maxHeartbeats 8000000
set_option maxRecDepth 20000
open Go.Proofs
namespace Go.Abs
open Go.RowKit
variable {A B l:LR} {R k0 s:Nat} {T:List LR} {i n p q t w x:Re} {r:List Rat} {u:List (List Rat)}
theorem S8 {C:LR} {y:Re} (h:Al R u) (f:T=tw u) (g:A=em u y) (m:El u s y) (ht:t=Re.ofRat (1/2)) (k:s+1+EE u.length R<=60000000000000) (j:C=em u (t*y)):CF 326 [.one (.sl (.sl AA) T),.one (.sl AA A)] (.one (.sl AA C)):=by
 refine AH Tryz.func326 (by kernel_rfl) rfl fun E c=>?_
 conv=>cbv
 obtain⟨D,F,v,z,b⟩:=Bb (1/2:Rat);refine cL c (QK (by omega) (by omega) (by omega) (by decide +kernel) b) t2 ?_;try conv=>cbv
 obtain⟨o,a⟩:=xR (em u (t));refine cL (r:= .one (.sl AA o)) c (Hf h f b ⟨by decide +kernel,by decide +kernel⟩ (a.trans (by rw[ht]))) ⟨rfl,t4,trivial⟩ ?_;try conv=>cbv
 have d:El u 1 t:=ht ▸ El.rat h.red Jl;refine cL (r:= .one (.sl AA C)) c (Fz h f g a m d k (by rw[j];congr 1;grind)) t3 ?_;try conv=>cbv
 exact fA ⟨t2,trivial⟩ rfl (by simp)
theorem ff {q r:Rat} (F:T=[]) (v:A=[rp q]) (C:B=[rp r]) (I:Bj q) (y:0<=r) (H:r*r=q):CF 283 [.one (.sl (.sl AA) T),.one (.sl AA A)] (.AE [(false,[.sl AA B]),(false,[.bool true])]):=by
 refine AH Tryz.func283 (by kernel_rfl) rfl fun E D=>?_
 conv=>cbv
 rintro J ⟨k,f27⟩;conv=>cbv
 intro m c;conv=>cbv
 cases m <;> conv=>cbv
 ·have d:=Au c;exact absurd (by rw[k,F];rfl) d
 have d:=Av c;have z:A.length=1:=by rw[v];rfl
 obtain⟨o,a⟩:=AG (l:=A) (i:=0) (by omega);refine⟨o,fun _=>⟨by omega,a⟩,?_⟩;try conv=>cbv
 have G:=D2 v a;obtain⟨h,j,f,g,b⟩:=Bb r;refine cL D (XI G I y H b) ⟨t4,trivial⟩ ?_;try conv=>cbv
 refine⟨[((h,j),(f,g))],fun _=>⟨rfl,by decide,rfl,⟨rfl,by first | exact t1 | exact t2 | exact t4 | simp[Aw,BF,cells],trivial⟩⟩,.inl ?_⟩;try conv=>cbv
 exact fA ⟨⟨rfl,.inl ⟨_,rfl,by simp,congrArg _ (by rw[C,b.rp];rfl)⟩,trivial⟩,t2,trivial⟩ rfl (by simp)
theorem fe {q:Rat} (o:T=[]) (h:A=[rp q]) (k:B=[(((false,[]),(false,[])):el AA)]) (z:Bj q) (y:¬∃r:Rat,0<=r/\r*r=q):CF 283 [.one (.sl (.sl AA) T),.one (.sl AA A)] (.AE [(false,[.sl AA B]),(false,[.bool false])]):=by
 refine AH Tryz.func283 (by kernel_rfl) rfl fun E m=>?_
 conv=>cbv
 rintro C ⟨d,f27⟩;conv=>cbv
 intro f b;conv=>cbv
 cases f <;> conv=>cbv
 ·have c:=Au b;exact absurd (by rw[d,o];rfl) c
 have c:=Av b;have j:A.length=1:=by rw[h];rfl
 obtain⟨g,a⟩:=AG (l:=A) (i:=0) (by omega);refine⟨g,fun _=>⟨by omega,a⟩,?_⟩;try conv=>cbv
 have v:=D2 h a;refine cL m (XH v z y) ⟨t4,trivial⟩ ?_;try conv=>cbv
 refine⟨[((false,[]),(false,[]))],fun _=>⟨rfl,by decide,rfl,⟨rfl,by first | exact t1 | exact t2 | exact t4 | simp[Aw,BF,cells],trivial⟩⟩,.inl ?_⟩;try conv=>cbv
 exact fA ⟨⟨rfl,.inl ⟨_,rfl,by simp,congrArg _ (by rw[k];rfl)⟩,trivial⟩,t2,trivial⟩ rfl (by simp)
def F3 (f:FuncId) (u:List (List Rat)) (x w:Re):Prop:=∀{T:List LR} {A B:LR},T=tw u->A=em u x->B=em u w->CF f [.one (.sl (.sl AA) T),.one (.sl AA A)] (.AE [(false,[.sl AA B]),(false,[.bool true])])
def F2 (f:FuncId) (u:List (List Rat)) (x:Re) (l:LR):Prop:=∀{T:List LR} {A:LR},T=tw u->A=em u x->CF f [.one (.sl (.sl AA) T),.one (.sl AA A)] (.AE [(false,[.sl AA l]),(false,[.bool false])])
def Qb (f:FuncId) (R:Nat) (u:List (List Rat)):Prop:=∀{s:Nat} {x:Re},El u s x->QQ u.length R s<=60000000000000->(∃w,In u w/\w*w=x/\F3 f u x w)\/(¬Sq u x/\∃l,l.length<=2^u.length/\F2 f u x l)
theorem fq (h:Al R (r::u)) (O:T=tw (r::u)) (N:A=em (r::u) x) (hx:El (r::u) s x) (D:x=p+q*rt u r) (hp:El u s p) (P:El u s q) (hs:QQ (r::u).length R s<=60000000000000) (h0:q=0) (hw:In u w) (hy:F3 283 u p w) (hB:B=em (r::u) w):CF 283 [.one (.sl (.sl AA) T),.one (.sl AA A)] (.AE [(false,[.sl AA B]),(false,[.bool true])]):=by
 have au:T.length=u.length+1:=by rw[O,BU];rfl
 have ar:A.length=2^u.length+2^u.length:=by rw[N,BL hx.mem,Bc]
 have az:=El.Ca h;have aA:=CO h.red;have a8:=Cq h.tail.ht;have aw:=DG u.length;have Q:El u 0 0:=El.rat h.red.1 Gb;have ax:QQ (r::u).length R s=max (QQ u.length R (3*s+3*EE u.length R+R+GG u.length R+3+II u.length R R)) (s+II u.length R (2*(3*s+3*EE u.length R+R+GG u.length R+3+II u.length R R+GG u.length R)+1)+EE u.length R):=rfl;have ay:=GS u.length R (3*s+3*EE u.length R+R+GG u.length R+3+II u.length R R);have av:=Dn u.length R (2*(3*s+3*EE u.length R+R+GG u.length R+3+II u.length R R+GG u.length R)+1);refine AH Tryz.func283 (by kernel_rfl) rfl fun E m=>?_
 conv=>cbv
 rintro aE ⟨ag,f27⟩;conv=>cbv
 intro X k;conv=>cbv
 cases X <;> conv=>cbv
 ·have F:=Au k;rintro aF ⟨ah,f41⟩;conv=>cbv
  intro aG al;conv=>cbv
  refine g1 (by omega) ?_;intro aB a6;conv=>cbv
  refine g2 (by omega) ?_;intro L Z;conv=>cbv
  intro U v;conv=>cbv
  rintro aH ⟨ai,f46⟩;conv=>cbv
  intro G an;conv=>cbv
  refine g1 (by omega) ?_;obtain⟨J,d⟩:=AG (l:=T) (i:=(G).toNat) (by omega);refine⟨J,fun _=>⟨by omega,d⟩,?_⟩;try conv=>cbv
  refine g2 rfl ?_;rintro aI ⟨aj,f52⟩;conv=>cbv
  intro Cg ao;conv=>cbv
  refine g2 ⟨by omega,by omega,i64 (by omega)⟩ ?_;intro aC a7;conv=>cbv
  refine g2 (by omega) ?_;intro M a1;conv=>cbv
  intro V y;conv=>cbv
  rintro aJ ⟨ak,f57⟩;conv=>cbv
  intro aK aq;conv=>cbv
  refine g2 ⟨by omega,by omega,i64 (by omega)⟩ ?_;intro aD C;conv=>cbv
  refine g2 (by omega) ?_;rintro K af ⟨Y,o⟩;conv=>cbv
  intro W z;conv=>cbv
  refine g2 rfl ?_;have a:U=tw u:=by rw[v,List.drop_zero,show L=T.length-1 by omega,O,DA]
  have S:J=Ao r:=by have:=ES r u;rw[<-O,show T.length-1=G.toNat by omega,d] at this;exact Option.some.inj this
  have g:V=em u p:=by rw[y,List.drop_zero,show M=A.length/2 by omega,N,B9 h.red hp.mem P.mem D]
  have j:W=em u q:=by rw[z,show K=A.length/2 by omega,o,C,List.take_length,N,Bo h.red hp.mem P.mem D]
  refine cL m (Hn h.red.1 P.mem j h0) t1 ?_;try conv=>cbv
  obtain⟨H,b⟩:=xR (em u w);refine cL m (hy a g b) t2 ?_;try conv=>cbv
  obtain⟨ad,ae,aa,ab,f⟩:=Bb (((0:Int):Rat));refine cL m (F1 (by omega) rfl f) t1 ?_;try conv=>cbv
  obtain⟨I,c⟩:=xR (em u (0));refine cL m (Hf h.tail a f ⟨by decide +kernel,by decide +kernel⟩ c) ⟨rfl,t4,trivial⟩ ?_;try conv=>cbv
  refine⟨[H,I],fun _=>⟨rfl,by decide,rfl,⟨rfl,by first | exact t1 | exact t2 | exact t4 | simp[Aw,BF,cells],⟨rfl,by first | exact t1 | exact t2 | exact t4 | simp[Aw,BF,cells],trivial⟩⟩⟩,.inr ?_⟩;try conv=>cbv
  have a2:H.length=2^u.length:=by rw[b,BL hw]
  have a5:I.length=2^u.length:=by rw[c,BL Q.mem]
  refine cL (r:= .one (.sl AA B)) m (LZ (by omega) (by omega) (by rw[hB,b,c];exact EA h.red hw (Bp u) (by grind))) t1 ?_;try conv=>cbv
  exact fA ⟨t2,t2,trivial⟩ rfl (by simp)
 have F:=Av k;exact absurd F (by omega)
theorem ft (h:Al R (r::u)) (W:T=tw (r::u)) (V:A=em (r::u) x) (hx:El (r::u) s x) (J:x=p+q*rt u r) (Y:El u s p) (Z:El u s q) (hs:QQ (r::u).length R s<=60000000000000) (h0:q=0) (hi:In u i) (H:AN u r*i=1) (hn:F2 283 u p l) (hw:In u w) (hy:F3 283 u (p*i) w) (hB:B=em (r::u) (w*rt u r)):CF 283 [.one (.sl (.sl AA) T),.one (.sl AA A)] (.AE [(false,[.sl AA B]),(false,[.bool true])]):=by
 have aB:T.length=u.length+1:=by rw[W,BU];rfl
 have aA:A.length=2^u.length+2^u.length:=by rw[V,BL hx.mem,Bc]
 have I:=El.Ca h;have aG:=CO h.red;have ah:=Cq h.tail.ht;have aD:=DG u.length;have a1:El u 0 0:=El.rat h.red.1 Gb;have aE:QQ (r::u).length R s=max (QQ u.length R (3*s+3*EE u.length R+R+GG u.length R+3+II u.length R R)) (s+II u.length R (2*(3*s+3*EE u.length R+R+GG u.length R+3+II u.length R R+GG u.length R)+1)+EE u.length R):=rfl;have aF:=GS u.length R (3*s+3*EE u.length R+R+GG u.length R+3+II u.length R R);have aC:=Dn u.length R (2*(3*s+3*EE u.length R+R+GG u.length R+3+II u.length R R+GG u.length R)+1);refine AH Tryz.func283 (by kernel_rfl) rfl fun E f=>?_
 conv=>cbv
 rintro aK ⟨ao,f27⟩;conv=>cbv
 intro a7 y;conv=>cbv
 cases a7 <;> conv=>cbv
 ·have K:=Au y;rintro aL ⟨aq,f41⟩;conv=>cbv
  intro aM aw;conv=>cbv
  refine g1 (by omega) ?_;intro aH af;conv=>cbv
  refine g2 (by omega) ?_;intro Q aa;conv=>cbv
  intro a2 C;conv=>cbv
  rintro aN ⟨ar,f46⟩;conv=>cbv
  intro L ax;conv=>cbv
  refine g1 (by omega) ?_;obtain⟨O,k⟩:=AG (l:=T) (i:=(L).toNat) (by omega);refine⟨O,fun _=>⟨by omega,k⟩,?_⟩;try conv=>cbv
  refine g2 rfl ?_;rintro aO ⟨au,f52⟩;conv=>cbv
  intro Cg ay;conv=>cbv
  refine g2 ⟨by omega,by omega,i64 (by omega)⟩ ?_;intro aI ag;conv=>cbv
  refine g2 (by omega) ?_;intro S ab;conv=>cbv
  intro a5 D;conv=>cbv
  rintro aP ⟨av,f57⟩;conv=>cbv
  intro aQ az;conv=>cbv
  refine g2 ⟨by omega,by omega,i64 (by omega)⟩ ?_;intro aJ G;conv=>cbv
  refine g2 (by omega) ?_;rintro P an ⟨a8,z⟩;conv=>cbv
  intro a6 F;conv=>cbv
  refine g2 rfl ?_;have a:a2=tw u:=by rw[C,List.drop_zero,show Q=T.length-1 by omega,W,DA]
  have v:O=Ao r:=by have:=ES r u;rw[<-W,show T.length-1=L.toNat by omega,k] at this;exact Option.some.inj this
  have b:a5=em u p:=by rw[D,List.drop_zero,show S=A.length/2 by omega,V,B9 h.red Y.mem Z.mem J]
  have o:a6=em u q:=by rw[F,show P=A.length/2 by omega,z,G,List.take_length,V,Bo h.red Y.mem Z.mem J]
  refine cL f (Hn h.red.1 Z.mem o h0) t1 ?_;try conv=>cbv
  refine cL f (hn a b) t2 ?_;try conv=>cbv
  obtain⟨aS,g⟩:=xR (em u i);have X:=I.inv h.tail hi H;refine cL f (Ks h.tail a (v.trans (DU h.red)) I hi H (by omega) g) t2 ?_;try conv=>cbv
  intro aR U;cases U.trans (show _=false by decide);conv=>cbv
  obtain⟨aT,j⟩:=xR (em u (p*i));refine cL f (Fz h.tail a b g Y X (by omega) j) t3 ?_;try conv=>cbv
  obtain⟨M,c⟩:=xR (em u w);refine cL f (hy a j c) t2 ?_;try conv=>cbv
  obtain⟨ak,al,ai,aj,m⟩:=Bb (((0:Int):Rat));refine cL f (F1 (by omega) rfl m) t1 ?_;try conv=>cbv
  obtain⟨N,d⟩:=xR (em u (0));refine cL f (Hf h.tail a m ⟨by decide +kernel,by decide +kernel⟩ d) ⟨rfl,t4,trivial⟩ ?_;try conv=>cbv
  refine⟨[N,M],fun _=>⟨rfl,by decide,rfl,⟨rfl,by first | exact t1 | exact t2 | exact t4 | simp[Aw,BF,cells],⟨rfl,by first | exact t1 | exact t2 | exact t4 | simp[Aw,BF,cells],trivial⟩⟩⟩,.inr ?_⟩;try conv=>cbv
  have ad:M.length=2^u.length:=by rw[c,BL hw]
  have ae:N.length=2^u.length:=by rw[d,BL a1.mem]
  refine cL (r:= .one (.sl AA B)) f (LZ (by omega) (by omega) (by rw[hB,c,d];exact EA h.red (Bp u) hw (by grind))) t1 ?_;try conv=>cbv
  exact fA ⟨t2,t2,trivial⟩ rfl (by simp)
 have K:=Av y;exact absurd K (by omega)
theorem fu (h:Al R (r::u)) (U:T=tw (r::u)) (S:A=em (r::u) x) (hx:El (r::u) s x) (I:x=p+q*rt u r) (W:El u s p) (X:El u s q) (hs:QQ (r::u).length R s<=60000000000000) {l2:LR} (h0:q=0) (hi:In u i) (G:AN u r*i=1) (hn:F2 283 u p l) (hy:F2 283 u (p*i) l2) (aA:l2.length<=2^u.length) (hB:B=em u 0++l2):CF 283 [.one (.sl (.sl AA) T),.one (.sl AA A)] (.AE [(false,[.sl AA B]),(false,[.bool false])]):=by
 have ay:T.length=u.length+1:=by rw[U,BU];rfl
 have ax:A.length=2^u.length+2^u.length:=by rw[S,BL hx.mem,Bc]
 have H:=El.Ca h;have aE:=CO h.red;have ae:=Cq h.tail.ht;have aB:=DG u.length;have Y:El u 0 0:=El.rat h.red.1 Gb;have aC:QQ (r::u).length R s=max (QQ u.length R (3*s+3*EE u.length R+R+GG u.length R+3+II u.length R R)) (s+II u.length R (2*(3*s+3*EE u.length R+R+GG u.length R+3+II u.length R R+GG u.length R)+1)+EE u.length R):=rfl;have aD:=GS u.length R (3*s+3*EE u.length R+R+GG u.length R+3+II u.length R R);have az:=Dn u.length R (2*(3*s+3*EE u.length R+R+GG u.length R+3+II u.length R R+GG u.length R)+1);refine AH Tryz.func283 (by kernel_rfl) rfl fun E d=>?_
 conv=>cbv
 rintro aI ⟨ak,f27⟩;conv=>cbv
 intro a5 v;conv=>cbv
 cases a5 <;> conv=>cbv
 ·have J:=Au v;rintro aJ ⟨al,f41⟩;conv=>cbv
  intro aK ar;conv=>cbv
  refine g1 (by omega) ?_;intro aF ab;conv=>cbv
  refine g2 (by omega) ?_;intro O a7;conv=>cbv
  intro Z z;conv=>cbv
  rintro aL ⟨an,f46⟩;conv=>cbv
  intro K au;conv=>cbv
  refine g1 (by omega) ?_;obtain⟨M,j⟩:=AG (l:=T) (i:=(K).toNat) (by omega);refine⟨M,fun _=>⟨by omega,j⟩,?_⟩;try conv=>cbv
  refine g2 rfl ?_;rintro aM ⟨ao,f52⟩;conv=>cbv
  intro Cg av;conv=>cbv
  refine g2 ⟨by omega,by omega,i64 (by omega)⟩ ?_;intro aG ad;conv=>cbv
  refine g2 (by omega) ?_;intro P a8;conv=>cbv
  intro a1 C;conv=>cbv
  rintro aN ⟨aq,f57⟩;conv=>cbv
  intro aO aw;conv=>cbv
  refine g2 ⟨by omega,by omega,i64 (by omega)⟩ ?_;intro aH F;conv=>cbv
  refine g2 (by omega) ?_;rintro N aj ⟨a6,y⟩;conv=>cbv
  intro a2 D;conv=>cbv
  refine g2 rfl ?_;have a:Z=tw u:=by rw[z,List.drop_zero,show O=T.length-1 by omega,U,DA]
  have o:M=Ao r:=by have:=ES r u;rw[<-U,show T.length-1=K.toNat by omega,j] at this;exact Option.some.inj this
  have b:a1=em u p:=by rw[C,List.drop_zero,show P=A.length/2 by omega,S,B9 h.red W.mem X.mem I]
  have m:a2=em u q:=by rw[D,show N=A.length/2 by omega,y,F,List.take_length,S,Bo h.red W.mem X.mem I]
  refine cL d (Hn h.red.1 X.mem m h0) t1 ?_;try conv=>cbv
  refine cL d (hn a b) t2 ?_;try conv=>cbv
  obtain⟨aQ,f⟩:=xR (em u i);have V:=H.inv h.tail hi G;refine cL d (Ks h.tail a (o.trans (DU h.red)) H hi G (by omega) f) t2 ?_;try conv=>cbv
  intro aP Q;cases Q.trans (show _=false by decide);conv=>cbv
  obtain⟨aR,g⟩:=xR (em u (p*i));refine cL d (Fz h.tail a b f W V (by omega) g) t3 ?_;try conv=>cbv
  refine cL d (hy a g) t2 ?_;try conv=>cbv
  obtain⟨ah,ai,af,ag,k⟩:=Bb (((0:Int):Rat));refine cL d (F1 (by omega) rfl k) t1 ?_;try conv=>cbv
  obtain⟨L,c⟩:=xR (em u (0));refine cL d (Hf h.tail a k ⟨by decide +kernel,by decide +kernel⟩ c) ⟨rfl,t4,trivial⟩ ?_;try conv=>cbv
  refine⟨[L,l2],fun _=>⟨rfl,by decide,rfl,⟨rfl,by first | exact t1 | exact t2 | exact t4 | simp[Aw,BF,cells],⟨rfl,by first | exact t1 | exact t2 | exact t4 | simp[Aw,BF,cells],trivial⟩⟩⟩,.inr ?_⟩;try conv=>cbv
  have aa:L.length=2^u.length:=by rw[c,BL Y.mem]
  refine cL (r:= .one (.sl AA B)) d (LZ (by omega) (by omega) (by rw[hB,c])) t1 ?_;try conv=>cbv
  exact fA ⟨t2,t2,trivial⟩ rfl (by simp)
 have J:=Av v;exact absurd J (by omega)
theorem fg (h:Al R (r::u)) (G:T=tw (r::u)) (F:A=em (r::u) x) (hx:El (r::u) s x) (f:x=p+q*rt u r) (N:El u s p) (H:El u s q) (hs:QQ (r::u).length R s<=60000000000000) (h0:q≠0) (hn:F2 283 u (p*p-q*q*AN u r) l) (hB:B=[]):CF 283 [.one (.sl (.sl AA) T),.one (.sl AA A)] (.AE [(false,[.sl AA B]),(false,[.bool false])]):=by
 have aj:T.length=u.length+1:=by rw[G,BU];rfl
 have ai:A.length=2^u.length+2^u.length:=by rw[F,BL hx.mem,Bc]
 have aq:=El.Ca h;have ar:=CO h.red;have a1:=Cq h.tail.ht;have al:=DG u.length;have au:El u 0 0:=El.rat h.red.1 Gb;have an:QQ (r::u).length R s=max (QQ u.length R (3*s+3*EE u.length R+R+GG u.length R+3+II u.length R R)) (s+II u.length R (2*(3*s+3*EE u.length R+R+GG u.length R+3+II u.length R R+GG u.length R)+1)+EE u.length R):=rfl;have ao:=GS u.length R (3*s+3*EE u.length R+R+GG u.length R+3+II u.length R R);have ak:=Dn u.length R (2*(3*s+3*EE u.length R+R+GG u.length R+3+II u.length R R+GG u.length R)+1);refine AH Tryz.func283 (by kernel_rfl) rfl fun E L=>?_
 conv=>cbv
 rintro ay ⟨a7,f27⟩;conv=>cbv
 intro U j;conv=>cbv
 cases U <;> conv=>cbv
 ·have z:=Au j;rintro az ⟨a8,f41⟩;conv=>cbv
  intro aA ae;conv=>cbv
  refine g1 (by omega) ?_;intro av Y;conv=>cbv
  refine g2 (by omega) ?_;intro J W;conv=>cbv
  intro P m;conv=>cbv
  rintro aB ⟨aa,f46⟩;conv=>cbv
  intro C af;conv=>cbv
  refine g1 (by omega) ?_;obtain⟨D,b⟩:=AG (l:=T) (i:=(C).toNat) (by omega);refine⟨D,fun _=>⟨by omega,b⟩,?_⟩;try conv=>cbv
  refine g2 rfl ?_;rintro aC ⟨ab,f52⟩;conv=>cbv
  intro Cg ag;conv=>cbv
  refine g2 ⟨by omega,by omega,i64 (by omega)⟩ ?_;intro aw Z;conv=>cbv
  refine g2 (by omega) ?_;intro K X;conv=>cbv
  intro Q o;conv=>cbv
  rintro aD ⟨ad,f57⟩;conv=>cbv
  intro aE ah;conv=>cbv
  refine g2 ⟨by omega,by omega,i64 (by omega)⟩ ?_;intro ax y;conv=>cbv
  refine g2 (by omega) ?_;rintro I a6 ⟨V,k⟩;conv=>cbv
  intro S v;conv=>cbv
  refine g2 rfl ?_;have c:P=tw u:=by rw[m,List.drop_zero,show J=T.length-1 by omega,G,DA]
  have O:D=Ao r:=by have:=ES r u;rw[<-G,show T.length-1=C.toNat by omega,b] at this;exact Option.some.inj this
  have M:Q=em u p:=by rw[o,List.drop_zero,show K=A.length/2 by omega,F,B9 h.red N.mem H.mem f]
  have d:S=em u q:=by rw[v,show I=A.length/2 by omega,k,y,List.take_length,F,Bo h.red N.mem H.mem f]
  refine cL L (Ga h.red.1 H.mem d h0) t1 ?_;try conv=>cbv
  obtain⟨a5,a⟩:=xR (em u (p*p-q*q*AN u r));refine cL L (NF h G F hx f N.mem H.mem (by omega) a) t2 ?_;try conv=>cbv
  refine cL L (hn c a) t2 ?_;try conv=>cbv
  intro a2 g;cases g.trans (rfl:_=true);conv=>cbv
  exact fA ⟨⟨rfl,.inr (.inl ⟨_,congrArg _ (hB)⟩),trivial⟩,t2,trivial⟩ rfl (by simp)
 have z:=Av j;exact absurd z (by omega)
theorem WM {a b:Re} {y:Nat->Re} {x:LR} {i:Nat} (h:[A,B][i]? =some x) (f:A=em u a) (g:B=em u b) (c:y 0=a) (d:y 1=b):x=em u (y i):=by
 match i,h with
 | 0,h=>rw[c,<-f];exact (Option.some.inj h).symm
 | 1,h=>rw[d,<-g];exact (Option.some.inj h).symm
 | i+2,h=>simp at h
theorem fp {f:FuncId} {y:Nat->Re} {L:Nat->LR} {i:Nat} {b:Bool} (k:i<=k0) (a:∀i,i<k0->F2 f u (t*y i) (L i)) (c:F3 f u (t*y k0) w) (hb:b=decide (i=k0)) (g:B=if i=k0 then em u w else L i) (j:T=tw u) (d:A=em u (t*y i)):
  CF f [.one (.sl (.sl AA) T),.one (.sl AA A)] (.AE [(false,[.sl AA B]),(false,[.bool b])]):=by
 by_cases h:i=k0
 ·subst h;rw[hb,decide_eq_true rfl];exact c j d (by rw[g,if_pos rfl])
 rw[hb,decide_eq_false h,g,if_neg h];exact a i (by omega) j d
theorem El.half {y:Re} (h:El u s y) (hu:Al R u) (ht:t=Re.ofRat (1/2)):El u (s+1+EE u.length R) (t*y):=by
 have a:El u 1 t:=ht ▸ El.rat hu.red Jl;have:=a.mul hu h;rwa [show 1+s+EE u.length R=s+1+EE u.length R by omega] at this
theorem fk (h:Al R (r::u)) (hT:T=tw (r::u)) (hA:A=em (r::u) x) (hx:El (r::u) s x) (F:x=p+q*rt u r) (N:El u s p) (Z:El u s q) (hs:QQ (r::u).length R s<=60000000000000) (h0:q≠0) (hn:In u n) (aj:n*n=p*p-q*q*AN u r) (ht:t=Re.ofRat (1/2)) (ar:F3 283 u (p*p-q*q*AN u r) n) {y:Nat->Re} (an:y 0=p+n) (ao:y 1=p-n) (aq:∀i,El u (s+(2*s+2*EE u.length R+R+1+GG u.length R)+1) (y i)) {L:Nat->LR} (ai:k0<=2) (ak:∀i,i<k0->F2 283 u (t*y i) (L i)) (aY:k0=2) (hB:B=[]):CF 283 [.one (.sl (.sl AA) T),.one (.sl AA A)] (.AE [(false,[.sl AA B]),(false,[.bool false])]):=by
 have aV:T.length=u.length+1:=by rw[hT,BU];rfl
 have aU:A.length=2^u.length+2^u.length:=by rw[hA,BL hx.mem,Bc]
 have b2:=El.Ca h;have b3:=CO h.red;have aD:=Cq h.tail.ht;have aZ:=DG u.length;have b4:El u 0 0:=El.rat h.red.1 Gb;have b0:QQ (r::u).length R s=max (QQ u.length R (3*s+3*EE u.length R+R+GG u.length R+3+II u.length R R)) (s+II u.length R (2*(3*s+3*EE u.length R+R+GG u.length R+3+II u.length R R+GG u.length R)+1)+EE u.length R):=rfl;have b1:=GS u.length R (3*s+3*EE u.length R+R+GG u.length R+3+II u.length R R);have aW:=Dn u.length R (2*(3*s+3*EE u.length R+R+GG u.length R+3+II u.length R R+GG u.length R)+1);have hN:=El.norm h N.mem Z.mem (F ▸ hx);refine AH Tryz.func283 (by kernel_rfl) rfl fun E J=>?_
 conv=>cbv
 rintro b9 ⟨aK,f27⟩;conv=>cbv
 intro av Q;conv=>cbv
 cases av <;> conv=>cbv
 ·have a2:=Au Q;rintro ba ⟨aL,f41⟩;conv=>cbv
  intro bb aQ;conv=>cbv
  refine g1 (by omega) ?_;intro b6 aB;conv=>cbv
  refine g2 (by omega) ?_;intro af az;conv=>cbv
  intro a5 U;conv=>cbv
  rintro bc ⟨aM,f46⟩;conv=>cbv
  intro ab aR;conv=>cbv
  refine g1 (by omega) ?_;obtain⟨ad,H⟩:=AG (l:=T) (i:=(ab).toNat) (by omega);refine⟨ad,fun _=>⟨by omega,H⟩,?_⟩;try conv=>cbv
  refine g2 rfl ?_;rintro bd ⟨aN,f52⟩;conv=>cbv
  intro Cg aS;conv=>cbv
  refine g2 ⟨by omega,by omega,i64 (by omega)⟩ ?_;intro b7 aC;conv=>cbv
  refine g2 (by omega) ?_;intro ag aA;conv=>cbv
  intro au V;conv=>cbv
  rintro bf ⟨aO,f57⟩;conv=>cbv
  intro bg aT;conv=>cbv
  refine g2 ⟨by omega,by omega,i64 (by omega)⟩ ?_;intro b8 X;conv=>cbv
  refine g2 (by omega) ?_;rintro ae aJ ⟨ay,S⟩;conv=>cbv
  intro a6 W;conv=>cbv
  refine g2 rfl ?_;have a:a5=tw u:=by rw[U,List.drop_zero,show af=T.length-1 by omega,hT,DA]
  have al:ad=Ao r:=by have:=ES r u;rw[<-hT,show T.length-1=ab.toNat by omega,H] at this;exact Option.some.inj this
  have d:au=em u p:=by rw[V,List.drop_zero,show ag=A.length/2 by omega,hA,B9 h.red N.mem Z.mem F]
  have M:a6=em u q:=by rw[W,show ae=A.length/2 by omega,S,X,List.take_length,hA,Bo h.red N.mem Z.mem F]
  refine cL J (Ga h.red.1 Z.mem M h0) t1 ?_;try conv=>cbv
  obtain⟨aG,f⟩:=xR (em u (p*p-q*q*AN u r));refine cL J (NF h hT hA hx F N.mem Z.mem (by omega) f) t2 ?_;try conv=>cbv
  obtain⟨aH,b⟩:=xR (em u n);have Y:=hN.sqrt h.tail hn aj;refine cL J (ar a f b) t2 ?_;try conv=>cbv
  intro aE O;cases O.trans (rfl:_=false);conv=>cbv
  obtain⟨z,g⟩:=xR (em u (p+n));refine cL J (IN h.tail a d b N Y (by omega) (by omega) g) t3 ?_;try conv=>cbv
  obtain⟨C,j⟩:=xR (em u (p-n));refine cL J (Ky h.tail a d b N Y (by omega) (by omega) j) t3 ?_;try conv=>cbv
  refine⟨[z,C],fun _=>⟨rfl,by decide,rfl,⟨rfl,by first | exact t1 | exact t2 | exact t4 | simp[Aw,BF,cells],⟨rfl,by first | exact t1 | exact t2 | exact t4 | simp[Aw,BF,cells],trivial⟩⟩⟩,.inr ?_⟩;try conv=>cbv
  intro a7 c;have aw:=c.eq;have f118:=c.le;conv=>cbv
  refine .inr ?_;obtain⟨J0,K⟩:=xJ fun vs bl k=>∃(i':Nat) (m i:Int),vs=[.one (.sl (.sl AA) a5),.one (.sl AA a6),.one (.sl (.sl AA) [z,C]),.one (.int .i64 m),.one (.int .i64 i)]/\(AS m 2/\AS i i'/\i'<=k0)/\k=2-i'
  refine⟨[8,11,117,118,119],[],J0,⟨2-0,by rw[K];exact⟨0,a7,0,rfl,⟨⟨c.eq⟩,BC 0,by omega⟩,rfl⟩⟩,?_⟩;intro vs bl b5 hj;rw[K] at hj;obtain⟨i',m,i,rfl,⟨hM,ah,aX⟩,ai⟩:=hj;conv=>cbv
  have eM:=hM.eq;have aP:=ah.eq;intro a8 G;conv=>cbv
  cases a8 <;> conv=>cbv
  ·have a1:=Ad G;exact fA ⟨⟨rfl,.inr (.inl ⟨_,congrArg _ (hB)⟩),trivial⟩,t2,trivial⟩ rfl (by simp)
  have a1:=Ae G;refine .inr ?_;obtain⟨I,v⟩:=AG (l:=[z,C]) (i:=i') (by show _<2;omega);refine⟨I,fun _=>⟨by omega,by rw[show (i).toNat=i' by omega];exact v⟩,?_⟩;try conv=>cbv
  have D:I=em u (y i'):=WM v g j an ao;obtain⟨aI,o⟩:=xR (em u (t*y i'));refine cL J (S8 h.tail a D (aq i') ht (by omega) o) t2 ?_;try conv=>cbv
  refine cL J (ak i' (by omega) a o) t2 ?_;try conv=>cbv
  intro aF P;cases P.trans (rfl:_=true);conv=>cbv
  intro aa ax;conv=>cbv
  refine g1 (by omega) ?_;refine⟨2-(i'+1),?_,?_⟩
  ·omega
  rw[K];exact⟨i'+1,m,aa,rfl,⟨hM,⟨by omega⟩,by omega⟩,rfl⟩
 have a2:=Av Q;exact absurd a2 (by omega)
theorem fh (h:Al R (r::u)) (hT:T=tw (r::u)) (hA:A=em (r::u) x) (hx:El (r::u) s x) (U:x=p+q*rt u r) (hp:El u s p) (X:El u s q) (hs:QQ (r::u).length R s<=60000000000000) (h0:q≠0) (hn:In u n) (aF:n*n=p*p-q*q*AN u r) (ht:t=Re.ofRat (1/2)) (aM:F3 283 u (p*p-q*q*AN u r) n) {y:Nat->Re} (aK:y 0=p+n) (aL:y 1=p-n) (ah:∀i,El u (s+(2*s+2*EE u.length R+R+1+GG u.length R)+1) (y i)) {L:Nat->LR} (aC:k0<=2) (aG:∀i,i<k0->F2 283 u (t*y i) (L i)) (bm:k0<2) {j:Re} (hw:In u w) (aI:w*w=t*y k0) (aH:w≠0) (aN:F3 283 u (t*y k0) w) (hj:In u j) (ag:(w+w)*j=1) (hB:B=em (r::u) (w+q*j*rt u r)):CF 283 [.one (.sl (.sl AA) T),.one (.sl AA A)] (.AE [(false,[.sl AA B]),(false,[.bool true])]):=by
 have bj:T.length=u.length+1:=by rw[hT,BU];rfl
 have bh:A.length=2^u.length+2^u.length:=by rw[hA,BL hx.mem,Bc]
 have bs:=El.Ca h;have bt:=CO h.red;have aY:=Cq h.tail.ht;have bp:=DG u.length;have bu:El u 0 0:=El.rat h.red.1 Gb;have bq:QQ (r::u).length R s=max (QQ u.length R (3*s+3*EE u.length R+R+GG u.length R+3+II u.length R R)) (s+II u.length R (2*(3*s+3*EE u.length R+R+GG u.length R+3+II u.length R R+GG u.length R)+1)+EE u.length R):=rfl;have br:=GS u.length R (3*s+3*EE u.length R+R+GG u.length R+3+II u.length R R);have bk:=Dn u.length R (2*(3*s+3*EE u.length R+R+GG u.length R+3+II u.length R R+GG u.length R)+1);have hN:=El.norm h hp.mem X.mem (U ▸ hx);refine AH Tryz.func283 (by kernel_rfl) rfl fun E o=>?_
 conv=>cbv
 rintro bB ⟨b6,f27⟩;conv=>cbv
 intro aP a7;conv=>cbv
 cases aP <;> conv=>cbv
 ·have ai:=Au a7;rintro bC ⟨b7,f41⟩;conv=>cbv
  intro bD bc;conv=>cbv
  refine g1 (by omega) ?_;intro bx aW;conv=>cbv
  refine g2 (by omega) ?_;intro aw aU;conv=>cbv
  intro aj aa;conv=>cbv
  rintro bE ⟨b8,f46⟩;conv=>cbv
  intro ar bd;conv=>cbv
  refine g1 (by omega) ?_;obtain⟨au,Y⟩:=AG (l:=T) (i:=(ar).toNat) (by omega);refine⟨au,fun _=>⟨by omega,Y⟩,?_⟩;try conv=>cbv
  refine g2 rfl ?_;rintro bF ⟨b9,f52⟩;conv=>cbv
  intro Cg bf;conv=>cbv
  refine g2 ⟨by omega,by omega,i64 (by omega)⟩ ?_;intro bz aX;conv=>cbv
  refine g2 (by omega) ?_;intro ax aV;conv=>cbv
  intro aO ab;conv=>cbv
  rintro bG ⟨ba,f57⟩;conv=>cbv
  intro bH bg;conv=>cbv
  refine g2 ⟨by omega,by omega,i64 (by omega)⟩ ?_;intro bA ae;conv=>cbv
  refine g2 (by omega) ?_;rintro av b5 ⟨aT,a8⟩;conv=>cbv
  intro ak ad;conv=>cbv
  refine g2 rfl ?_;have a:aj=tw u:=by rw[aa,List.drop_zero,show aw=T.length-1 by omega,hT,DA]
  have aJ:au=Ao r:=by have:=ES r u;rw[<-hT,show T.length-1=ar.toNat by omega,Y] at this;exact Option.some.inj this
  have z:aO=em u p:=by rw[ab,List.drop_zero,show ax=A.length/2 by omega,hA,B9 h.red hp.mem X.mem U]
  have C:ak=em u q:=by rw[ad,show av=A.length/2 by omega,a8,ae,List.take_length,hA,Bo h.red hp.mem X.mem U]
  refine cL o (Ga h.red.1 X.mem C h0) t1 ?_;try conv=>cbv
  obtain⟨b0,D⟩:=xR (em u (p*p-q*q*AN u r));refine cL o (NF h hT hA hx U hp.mem X.mem (by omega) D) t2 ?_;try conv=>cbv
  obtain⟨b1,d⟩:=xR (em u n);have af:=hN.sqrt h.tail hn aF;refine cL o (aM a D d) t2 ?_;try conv=>cbv
  intro aZ a6;cases a6.trans (rfl:_=false);conv=>cbv
  obtain⟨O,F⟩:=xR (em u (p+n));refine cL o (IN h.tail a z d hp af (by omega) (by omega) F) t3 ?_;try conv=>cbv
  obtain⟨P,G⟩:=xR (em u (p-n));refine cL o (Ky h.tail a z d hp af (by omega) (by omega) G) t3 ?_;try conv=>cbv
  refine⟨[O,P],fun _=>⟨rfl,by decide,rfl,⟨rfl,by first | exact t1 | exact t2 | exact t4 | simp[Aw,BF,cells],⟨rfl,by first | exact t1 | exact t2 | exact t4 | simp[Aw,BF,cells],trivial⟩⟩⟩,.inr ?_⟩;try conv=>cbv
  intro al v;have aR:=v.eq;have f118:=v.le;conv=>cbv
  refine .inr ?_;obtain⟨J0,a5⟩:=xJ fun vs bl k=>∃(i':Nat) (m i:Int),vs=[.one (.sl (.sl AA) aj),.one (.sl AA ak),.one (.sl (.sl AA) [O,P]),.one (.int .i64 m),.one (.int .i64 i)]/\(AS m 2/\AS i i'/\i'<=k0)/\k=2-i'
  refine⟨[8,11,117,118,119],[],J0,⟨2-0,by rw[a5];exact⟨0,al,0,rfl,⟨⟨v.eq⟩,BC 0,by omega⟩,rfl⟩⟩,?_⟩;intro vs bl bw hj;rw[a5] at hj;obtain⟨i',m,i,rfl,⟨hM,ay,az⟩,aC⟩:=hj;conv=>cbv
  have eM:=hM.eq;have bb:=ay.eq;intro an V;conv=>cbv
  cases an <;> conv=>cbv
  ·have Z:=Ad V;exact absurd Z (by omega)
  have Z:=Ae V;refine .inr ?_;obtain⟨a2,M⟩:=AG (l:=[O,P]) (i:=i') (by show _<2;omega);refine⟨a2,fun _=>⟨by omega,by rw[show (i).toNat=i' by omega];exact M⟩,?_⟩;try conv=>cbv
  have S:a2=em u (y i'):=WM M F G aK aL;obtain⟨b2,H⟩:=xR (em u (t*y i'));refine cL o (S8 h.tail a S (ah i') ht (by omega) H) t2 ?_;try conv=>cbv
  obtain⟨aQ,c⟩:=xB (decide (i'=k0));obtain⟨Q,I⟩:=xR (if i'=k0 then em u w else L i');refine cL o (fp az aG aN c I a H) t2 ?_;try conv=>cbv
  intro ao W;conv=>cbv
  cases ao <;> conv=>cbv
  ·have N:=CJ W;have aA:i'=k0:=of_decide_eq_true (c.symm.trans N);have b:Q=em u w:=by rw[I,if_pos aA]
   have g:El u (s+(2*s+2*EE u.length R+R+1+GG u.length R)+1+1+EE u.length R+GG u.length R) w:=(((ah k0).half h.tail ht).sqrt h.tail hw aI);have aB:=(g.add h.red.1 g).inv h.tail hj ag;have bn:=Hh u.length R (s:=s+(2*s+2*EE u.length R+R+1+GG u.length R)+1+1+EE u.length R+GG u.length R+(s+(2*s+2*EE u.length R+R+1+GG u.length R)+1+1+EE u.length R+GG u.length R)+1) (t:=2*(3*s+3*EE u.length R+R+GG u.length R+3+II u.length R R+GG u.length R)+1) (by omega);refine cL o (Ga h.red.1 hw b aH) t1 ?_;try conv=>cbv
   obtain⟨b3,J⟩:=xR (em u (w+w));refine cL o (IN h.tail a b b g g (by omega) (by omega) J) t3 ?_;try conv=>cbv
   obtain⟨b4,K⟩:=xR (em u j);refine cL o (Ks h.tail a J (g.add h.red.1 g) hj ag (by omega) K) t2 ?_;try conv=>cbv
   obtain⟨a1,f⟩:=xR (em u (q*j));refine cL o (Fz h.tail a C K X aB (by omega) f) t3 ?_;try conv=>cbv
   refine⟨[Q,a1],fun _=>⟨rfl,by decide,rfl,⟨rfl,by first | exact t1 | exact t2 | exact t4 | simp[Aw,BF,cells],⟨rfl,by first | exact t1 | exact t2 | exact t4 | simp[Aw,BF,cells],trivial⟩⟩⟩,.inr ?_⟩;try conv=>cbv
   have aD:Q.length=2^u.length:=by rw[b,BL hw]
   have aE:a1.length=2^u.length:=by rw[f,BL (Ar h.red.1 X.mem hj)]
   refine cL (r:= .one (.sl AA B)) o (LZ (by omega) (by omega) (by rw[hB,b,f];exact EA h.red hw (Ar h.red.1 X.mem hj) rfl)) t1 ?_;try conv=>cbv
   exact fA ⟨t2,t2,trivial⟩ rfl (by simp)
  have N:=CK W;intro aq aS;conv=>cbv
  refine g1 (by omega) ?_;have bo:i'≠k0:=of_decide_eq_false (c.symm.trans N);refine⟨2-(i'+1),?_,?_⟩
  ·omega
  rw[a5];exact⟨i'+1,m,aq,rfl,⟨hM,⟨by omega⟩,by omega⟩,rfl⟩
 have ai:=Av a7;exact absurd ai (by omega)
end Go.Abs
namespace Go.Abs
open Go.RowKit
theorem S7 {t:Re} (ht:t=Re.ofRat (1/2)):2*t=1:=by
 have a:(2:Re)=Re.ofRat 2:=rfl;rw[ht,a,<-Re.ofRat_mul,show (2:Rat)*(1/2)=1 by decide +kernel];rfl
theorem Pr {u:List (List Rat)} {R:Nat} (h:Al R u):Qb 283 R u:=by
 induction u with
 | nil=>
  intro s x z H;obtain⟨q,rfl⟩:=CI.1 z.mem
  have a5:Bj q:=by
   have:=z.Bh (by have:=GS ([]:List (List Rat)).length R s;omega);rw[Co] at this;exact this q List.mem_cons_self
  by_cases U:∃r:Rat,0<=r/\r*r=q
  ·obtain⟨r,D,U⟩:=U;refine .inl ⟨Re.ofRat r,Ds r _,by rw[<-Re.ofRat_mul,U],?_⟩;intro T A B f d N;exact ff f (d.trans (DT q)) (N.trans (DT r)) a5 D U
  refine .inr ⟨fun H=>U (Ps.1 H),[(((false,[]),(false,[])):el AA)],?_,?_⟩
  rotate_left
  ·intro T A f d;exact fe f (d.trans (DT q)) rfl a5 U
  simp
 | cons r u c=>
  have c:Qb 283 R u:=c h.tail;intro s x z H;obtain⟨p,q,a,g,F⟩:=El.parts h.red z;have ao:QQ (r::u).length R s=max (QQ u.length R (3*s+3*EE u.length R+R+GG u.length R+3+II u.length R R)) (s+II u.length R (2*(3*s+3*EE u.length R+R+GG u.length R+3+II u.length R R+GG u.length R)+1)+EE u.length R):=rfl;have hQ:∀s',s'<=3*s+3*EE u.length R+R+GG u.length R+3+II u.length R R->QQ u.length R s'<=60000000000000:=fun s' h'=>Nat.le_trans (Kv u.length R h') (by omega)
  have ai:=El.Ca h;have aj:=CO h.red
  by_cases D:q=0
  ·have P:x=p:=by rw[a,D];clear c;grind
   rcases c g (hQ _ (by omega)) with⟨w,hw,b,Q⟩ |⟨o,l,hl,S⟩
   ·refine .inl ⟨w,Ge hw,by rw[P];exact b,?_⟩;intro T A B f d N;exact fq h f d z a g F H D hw Q N
   obtain⟨i,G,v⟩:=EF h.red.1 (CG h.red) (by have:=h.red.2.2.1;grind);have ad:=ai.inv h.tail G v;rcases c (g.mul h.tail ad) (hQ _ (by omega)) with⟨w,hw,b,Q⟩ |⟨a1,l2,ae,ag⟩
   ·refine .inl ⟨w*rt u r,CM.2 ⟨0,w,Bp u,hw,by clear c;grind⟩,?_,?_⟩
    ·have:p=p*(AN u r*i):=by rw[v];clear c;grind
     rw[P];clear c;grind
    intro T A B f d N;exact ft h f d z a g F H D G v S hw Q N
   refine .inr ⟨?_,em u 0++l2,?_,?_⟩
   ·rw[P,Vy h.red g.mem];rintro (h1 |⟨i',ak,a2,h1⟩)
    ·exact o h1
    have:i'=i:=by
     have:i'=i'*(AN u r*i):=by rw[v];clear c;grind
     have h2:i=i*(AN u r*i'):=by rw[a2];clear c;grind
     clear c;grind
    rw[this] at h1;exact a1 h1
   ·rw[List.length_append,BL (Bp u),Bc];omega
   intro T A f d;exact fu h f d z a g F H D G v S ag ae rfl
  have hN:=El.norm h g.mem F.mem (a ▸ z);rcases c hN (hQ _ (by omega)) with⟨n,S,k,ab⟩ |⟨o,l,hl,ah⟩
  rotate_left
  ·refine .inr ⟨fun hS=>o (V4 h.red g.mem F.mem (a ▸ hS)),[],Nat.zero_le _,?_⟩;intro T A f d;exact fg h f d z a g F H D ah rfl
  have X:=hN.sqrt h.tail S k;obtain⟨t,ht⟩:∃t:Re,t=Re.ofRat (1/2):=⟨_,rfl⟩
  have O:=S7 ht;obtain⟨y,Q⟩:∃y:Nat->Re,y=fun i=>if i=0 then p+n else p-n:=⟨_,rfl⟩
  have I:y 0=p+n:=by rw[Q];rfl
  have J:y 1=p-n:=by rw[Q];rfl
  have K:∀i,El u (s+(2*s+2*EE u.length R+R+1+GG u.length R)+1) (y i):=fun i=>by
   rw[Q]
   show El u _ (if i=0 then p+n else p-n)
   by_cases G:i=0
   ·rw[if_pos G];exact g.add h.red.1 X
   rw[if_neg G];exact g.sub h.red.1 X
  have M:∀(k0:Nat) (L:Nat->LR) (w:Re),k0<2->(∀i,i<k0->F2 283 u (t*y i) (L i))->In u w->w*w=t*y k0->F3 283 u (t*y k0) w->
    ∃w,In (r::u) w/\w*w=x/\F3 283 (r::u) x w:=by
   intro k0 L w hk o hw b C
   have key:∃m,m*m=p*p-q*q*AN u r/\y k0=p+m:=by
    rcases (show k0=0\/k0=1 by omega) with rfl | rfl
    ·exact⟨n,k,I⟩
    exact⟨-n,by rw[<-k];clear c;grind,by rw[J];clear c;grind⟩
   obtain⟨m,V,aa⟩:=key;have a6:w≠0:=Vx h.red D V O (by rw[b,aa])
   have a8:w+w≠0:=by
    intro e;have e1:2*w=0:=by clear c;grind
    rcases Re.FH e1 with e | e
    ·exact Mx e
    exact a6 e
   obtain⟨j,hj,a7⟩:=EF h.red.1 (Cp hw hw) a8;refine⟨w+q*j*rt u r,CM.2 ⟨_,_,hw,Ar h.red.1 F.mem hj,rfl⟩,?_,?_⟩
   ·rw[a];exact Vw V O aj (by rw[b,aa]) a7 rfl
   intro T A B f d N;exact fh h f d z a g F H D S k ht ab I J K (by omega) o hk hw b a6 C hj a7 N
  have hb:QQ u.length R (s+(2*s+2*EE u.length R+R+1+GG u.length R)+1+1+EE u.length R)<=60000000000000:=hQ _ (by omega);rcases c ((K 0).half h.tail ht) hb with⟨w,hw,b,C⟩ |⟨Y,l0,al,W⟩
  ·exact .inl (M 0 (fun _=>[]) w (by omega) (fun i G=>by omega) hw b C)
  rcases c ((K 1).half h.tail ht) hb with⟨w,hw,b,C⟩ |⟨Z,l1,an,af⟩
  ·exact .inl (M 1 (fun _=>l0) w (by omega) (fun i G=>by rw[show i=0 by omega];exact W) hw b C)
  refine .inr ⟨fun hS=>?_,[],Nat.zero_le _,?_⟩
  ·rcases V5 h.red g.mem F.mem (a ▸ hS) k O with e | e
   ·exact Y (by rw[I];exact e)
   exact Z (by rw[J];exact e)
  intro T A f d
  exact fk h f d z a g F H D S k ht ab I J K (L:=fun i=>if i=0 then l0 else l1) (Nat.le_refl 2) (fun i G=>by
   rcases (show i=0\/i=1 by omega) with rfl | rfl
   ·exact W
   exact af) rfl rfl
end Go.Abs
