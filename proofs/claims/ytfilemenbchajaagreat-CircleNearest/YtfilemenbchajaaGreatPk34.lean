/- Part 35 of a proof. Conditions: each theorem's own. -/
import Derived.Test.YtfilemenbchajaaGreatPk33
set_option linter.all false
set_option maxHeartbeats 8000000
set_option maxRecDepth 20000
open Go.Proofs
namespace Go.Abs
def TQ (h R s:Nat):Nat:=3*s+4*EE h R+R+GG h R+3+II h R R
def SS:Nat->Nat->Nat->Nat
 | 0,_,s=>s
 | h+1,R,s=>max (VV (h+1) R s) (max (SS h R (TQ h R s)) (s+II h R (TQ h R s+GG h R)+2*EE h R+2))
theorem Qc (h R:Nat) {s t:Nat} (a:s<=t):TQ h R s<=TQ h R t:=by unfold TQ;omega
theorem Kx:∀(h R:Nat) {s t:Nat},s<=t->SS h R s<=SS h R t
 | 0,_,_,_,a=>a
 | h+1,R,s,t,a=>by
  have b:=GV (h+1) R a;have c:=Kx h R (Qc h R a);have h3:=Hh h R (Nat.add_le_add_right (Qc h R a) (GG h R))
  show max _ (max _ _)<=max _ (max _ _)
  omega
theorem Gw (h R s:Nat):VV (h+1) R s<=SS (h+1) R s:=by show _<=max _ (max _ _);omega
theorem QZ (h R s:Nat):SS h R (TQ h R s)<=SS (h+1) R s:=by show _<=max _ (max _ _);omega
theorem Hk (h R s:Nat):s+II h R (TQ h R s+GG h R)+2*EE h R+2<=SS (h+1) R s:=by show _<=max _ (max _ _);omega
theorem Qa (h R s:Nat):s<=SS h R s:=by
 cases h with
 | zero=>exact Nat.le_refl _
 | succ h=>exact Nat.le_trans (Ei _ _ _) (Gw h R s)
end Go.Abs
namespace Go.Abs
open Go.RowKit
variable {A B l:LR} {R k0 s:Nat} {T:List LR} {i n p q t w x:Re} {r:List Rat} {u:List (List Rat)}
theorem NU {C:LR} (z:A.length<=1000000) (D:B.length<=1000000) (m:C=A++B):CF 315 [.one (.sl AA A),.one (.sl AA B)] (.one (.sl AA C)):=by
 refine AH Tryz.func315 (by kernel_rfl) rfl fun E F=>?_
 conv=>cbv
 refine⟨[],fun _=>⟨rfl,by decide,rfl,trivial⟩,.inl ?_⟩;try conv=>cbv
 refine .inl ⟨A,fun _=>⟨rfl,rfl,rfl,by show (0+A.length)*64<=140737488355328;(try simp only[List.length_take,List.length_drop]);omega⟩,?_⟩;intro (c:LR) v d;have b:c=([]:LR)++(A:LR):=d.1;have h:v=List.length (α:=(el AA)) c:=d.2;conv=>cbv
 have k:c.length=A.length:=by rw[b];simp
 refine .inl ⟨B,fun _=>⟨rfl,h,rfl,by show (c.length+B.length)*64<=140737488355328;(try simp only[List.length_take,List.length_drop]);omega⟩,?_⟩;intro (j:LR) y f;have g:j=(c:LR)++(B:LR):=f.1;have o:y=List.length (α:=(el AA)) j:=f.2;conv=>cbv
 have a:C=j:=by rw[m,g,b];rfl
 exact fA ⟨⟨rfl,.inl ⟨_,rfl,by omega,congrArg _ (by rw[a,List.drop_zero,List.take_of_length_le (by omega)])⟩,trivial⟩,trivial⟩ rfl (by simp)
def GW (u:List (List Rat)) (x:Re) (l:LR):Prop:=∀{T:List LR} {A:LR},T=tw u->A=em u x->
 CF 275 [.one (.sl (.sl AA) T),.one (.sl AA A)] (.AE [(false,[.sl AA l]),(false,[.bool false])])
def GX (u:List (List Rat)) (x w:Re):Prop:=∀{T:List LR} {A B:LR},T=tw u->A=em u x->B=em u w->
 CF 275 [.one (.sl (.sl AA) T),.one (.sl AA A)] (.AE [(false,[.sl AA B]),(false,[.bool true])])
theorem HM {c:Int} (b:c=BJ x) (h:c<0) (a:0<=x):False:=by
 have:=(HJ (x:=x)).1 (by omega)
 grind
theorem YS (h:Al R (r::u)) (v:T=tw (r::u)) (o:A=em (r::u) x) (z:El (r::u) s x) (N:x=p+q*rt u r) (Q:El u s p) (S:El u s q) (U:SS (r::u).length R s<=60000000000000) (g:VV (r::u).length R R<=60000000000000) (f:x<0):CF 275 [.one (.sl (.sl AA) T),.one (.sl AA A)] (.AE [(false,[.sl AA (([]:LR))]),(false,[.bool false])]):=by
 have H:T.length=u.length+1:=by rw[v,BU];rfl
 have D:A.length=2^u.length+2^u.length:=by rw[o,BL z.mem,Bc]
 have J:=El.Ca h;have hR:=h.hR;have M:VV (r::u).length R s<=SS (r::u).length R s:=Gw u.length R s;have L:s+II u.length R (TQ u.length R s+GG u.length R)+2*EE u.length R+2<=SS (r::u).length R s:=Hk u.length R s;have K:=Ei (r::u).length R s;have I:=Dn u.length R (TQ u.length R s+GG u.length R);have G:TQ u.length R s=3*s+4*EE u.length R+R+GG u.length R+3+II u.length R R:=rfl;have y:=Cq h.tail.ht;refine AH Tryz.func275 (by kernel_rfl) rfl fun E F=>?_
 conv=>cbv
 rintro O ⟨C,f31⟩;conv=>cbv
 intro k a;conv=>cbv
 cases k <;> conv=>cbv
 ·have d:=Au a;obtain⟨P,c⟩:=xI (BJ x);refine cL F (FQ h v o z (by omega) (by omega) g c) t2 ?_;try conv=>cbv
  intro m b;conv=>cbv
  cases m <;> conv=>cbv
  ·have j:=Ad b;exact absurd (HJ.2 f) (by omega)
  have j:=Ae b;exact fA ⟨⟨rfl,.inr (.inl ⟨_,rfl⟩),trivial⟩,t2,trivial⟩ rfl (by simp)
 have d:=Av a;exact absurd d (by omega)
theorem YT (h:Al R (r::u)) (M:T=tw (r::u)) (L:A=em (r::u) x) (hx:El (r::u) s x) (G:x=p+q*rt u r) (hp:El u s p) (U:El u s q) (hs:SS (r::u).length R s<=60000000000000) (V:VV (r::u).length R R<=60000000000000) (Q:0<=x) (h0:q=0) (hw:In u w) (hy:GX u p w) (hB:B=em (r::u) w):CF 275 [.one (.sl (.sl AA) T),.one (.sl AA A)] (.AE [(false,[.sl AA B]),(false,[.bool true])]):=by
 have av:T.length=u.length+1:=by rw[M,BU];rfl
 have ar:A.length=2^u.length+2^u.length:=by rw[L,BL hx.mem,Bc]
 have ax:=El.Ca h;have hR:=h.hR;have aA:VV (r::u).length R s<=SS (r::u).length R s:=Gw u.length R s;have az:s+II u.length R (TQ u.length R s+GG u.length R)+2*EE u.length R+2<=SS (r::u).length R s:=Hk u.length R s;have ay:=Ei (r::u).length R s;have aw:=Dn u.length R (TQ u.length R s+GG u.length R);have au:TQ u.length R s=3*s+4*EE u.length R+R+GG u.length R+3+II u.length R R:=rfl;have ae:=Cq h.tail.ht;refine AH Tryz.func275 (by kernel_rfl) rfl fun E m=>?_
 conv=>cbv
 rintro aE ⟨ak,f31⟩;conv=>cbv
 intro a1 o;conv=>cbv
 cases a1 <;> conv=>cbv
 ·have H:=Au o;obtain⟨aI,f⟩:=xI (BJ x);refine cL m (FQ h M L hx (by omega) (by omega) V f) t2 ?_;try conv=>cbv
  intro a2 v;conv=>cbv
  cases a2 <;> conv=>cbv
  ·have I:=Ad v;rintro aF ⟨al,f48⟩;conv=>cbv
   intro a5 ao;conv=>cbv
   refine g1 (by omega) ?_;intro aB ab;conv=>cbv
   refine g2 (by omega) ?_;intro O a8;conv=>cbv
   intro X z;conv=>cbv
   obtain⟨K,d⟩:=AG (l:=T) (i:=(T.length-1)) (by omega);refine⟨K,fun _=>⟨by omega,by rw[show (a5).toNat=(T.length-1) by omega];exact d⟩,?_⟩;try conv=>cbv
   refine g2 rfl ?_;rintro aG ⟨an,f58⟩;conv=>cbv
   intro aH aq;conv=>cbv
   refine g2 ⟨by omega,by omega,i64 (by omega)⟩ ?_;intro aC ad;conv=>cbv
   refine g2 (by omega) ?_;intro P aa;conv=>cbv
   intro Y C;conv=>cbv
   intro aD F;conv=>cbv
   refine g2 (by omega) ?_;rintro N aj ⟨a7,y⟩;conv=>cbv
   intro Z D;conv=>cbv
   refine g2 rfl ?_;have a:X=tw u:=by rw[z,List.drop_zero,show O=T.length-1 by omega,M,DA]
   have W:K=em u (AN u r):=by rw[M,ES] at d;exact (Option.some.inj d).symm.trans (DU h.red)
   have j:Y=em u p:=by rw[C,List.drop_zero,show P=A.length/2 by omega,L,B9 h.red hp.mem U.mem G]
   have k:Z=em u q:=by rw[D,show N=A.length/2 by omega,y,F,List.take_length,L,Bo h.red hp.mem U.mem G]
   obtain⟨ah,ai,af,ag,g⟩:=Bb (((0:Int):Rat));refine cL m (D7 (by omega) rfl g) t1 ?_;try conv=>cbv
   obtain⟨J,b⟩:=xR (em u (0));refine cL (r:= .one (.sl AA J)) m (FC h.tail a g (by rw[show Re.ofRat ((0:Int):Rat)=0 from rfl];exact b)) ⟨rfl,t4,trivial⟩ ?_;try conv=>cbv
   refine cL m (GY h.tail.red U.mem k h0) t1 ?_;try conv=>cbv
   obtain⟨a6,c⟩:=xR (em u w);refine cL m (hy a j c) t2 ?_;try conv=>cbv
   have S:B=a6++J:=by rw[hB,c,b];exact EA h.red hw (Bp u) (by grind)
   refine cL (r:= .one (.sl AA B)) m (NU (by rw[c,BL hw];omega) (by rw[b,BL (Bp u)];omega) S) t2 ?_;try conv=>cbv
   exact fA ⟨t2,t2,trivial⟩ rfl (by simp)
  have I:=Ae v;exact (HM f I Q).elim
 have H:=Av o;exact absurd H (by omega)
theorem YU (h:Al R (r::u)) (S:T=tw (r::u)) (Q:A=em (r::u) x) (hx:El (r::u) s x) (L:x=p+q*rt u r) (hp:El u s p) (hq:El u s q) (hs:SS (r::u).length R s<=60000000000000) (a1:VV (r::u).length R R<=60000000000000) (X:0<=x) (h0:q=0) (hi:In u i) (J:AN u r*i=1) (hn:GW u p l) (hw:In u w) (hy:GX u (p*i) w) (hB:B=em (r::u) (w*rt u r)):CF 275 [.one (.sl (.sl AA) T),.one (.sl AA A)] (.AE [(false,[.sl AA B]),(false,[.bool true])]):=by
 have aA:T.length=u.length+1:=by rw[S,BU];rfl
 have ay:A.length=2^u.length+2^u.length:=by rw[Q,BL hx.mem,Bc]
 have K:=El.Ca h;have hR:=h.hR;have aE:VV (r::u).length R s<=SS (r::u).length R s:=Gw u.length R s;have aD:s+II u.length R (TQ u.length R s+GG u.length R)+2*EE u.length R+2<=SS (r::u).length R s:=Hk u.length R s;have aC:=Ei (r::u).length R s;have aB:=Dn u.length R (TQ u.length R s+GG u.length R);have az:TQ u.length R s=3*s+4*EE u.length R+R+GG u.length R+3+II u.length R R:=rfl;have aj:=Cq h.tail.ht;have Z:=K.inv h.tail hi J;refine AH Tryz.func275 (by kernel_rfl) rfl fun E g=>?_
 conv=>cbv
 rintro aI ⟨ar,f31⟩;conv=>cbv
 intro a7 z;conv=>cbv
 cases a7 <;> conv=>cbv
 ·have M:=Au z;obtain⟨aM,j⟩:=xI (BJ x);refine cL g (FQ h S Q hx (by omega) (by omega) a1 j) t2 ?_;try conv=>cbv
  intro a8 C;conv=>cbv
  cases a8 <;> conv=>cbv
  ·have N:=Ad C;rintro aJ ⟨au,f48⟩;conv=>cbv
   intro aa aw;conv=>cbv
   refine g1 (by omega) ?_;intro aF ah;conv=>cbv
   refine g2 (by omega) ?_;intro V af;conv=>cbv
   intro a2 F;conv=>cbv
   obtain⟨P,f⟩:=AG (l:=T) (i:=(T.length-1)) (by omega);refine⟨P,fun _=>⟨by omega,by rw[show (aa).toNat=(T.length-1) by omega];exact f⟩,?_⟩;try conv=>cbv
   refine g2 rfl ?_;rintro aK ⟨av,f58⟩;conv=>cbv
   intro aL ax;conv=>cbv
   refine g2 ⟨by omega,by omega,i64 (by omega)⟩ ?_;intro aG ai;conv=>cbv
   refine g2 (by omega) ?_;intro W ag;conv=>cbv
   intro a5 G;conv=>cbv
   intro aH I;conv=>cbv
   refine g2 (by omega) ?_;rintro U aq ⟨ae,D⟩;conv=>cbv
   intro a6 H;conv=>cbv
   refine g2 rfl ?_;have a:a2=tw u:=by rw[F,List.drop_zero,show V=T.length-1 by omega,S,DA]
   have y:P=em u (AN u r):=by rw[S,ES] at f;exact (Option.some.inj f).symm.trans (DU h.red)
   have b:a5=em u p:=by rw[G,List.drop_zero,show W=A.length/2 by omega,Q,B9 h.red hp.mem hq.mem L]
   have v:a6=em u q:=by rw[H,show U=A.length/2 by omega,D,I,List.take_length,Q,Bo h.red hp.mem hq.mem L]
   obtain⟨an,ao,ak,al,o⟩:=Bb (((0:Int):Rat));refine cL g (D7 (by omega) rfl o) t1 ?_;try conv=>cbv
   obtain⟨O,c⟩:=xR (em u (0));refine cL (r:= .one (.sl AA O)) g (FC h.tail a o (by rw[show Re.ofRat ((0:Int):Rat)=0 from rfl];exact c)) ⟨rfl,t4,trivial⟩ ?_;try conv=>cbv
   refine cL g (GY h.tail.red hq.mem v h0) t1 ?_;try conv=>cbv
   refine cL g (hn a b) t2 ?_;try conv=>cbv
   obtain⟨ab,k⟩:=xR (em u (i));refine cL (r:= .AE [(false,[.sl AA ab]),(false,[.int .i64 0])]) g (LB h.tail a y K hi J (by have:=Hh u.length R (s:=R) (t:=TQ u.length R s+GG u.length R) (by omega);omega) k) t2 ?_;try conv=>cbv
   obtain⟨aN,m⟩:=xR (em u (p*i));refine cL g (DM h.tail a b k hp Z (by omega) m) t3 ?_;try conv=>cbv
   obtain⟨ad,d⟩:=xR (em u w);refine cL g (hy a m d) t2 ?_;try conv=>cbv
   have Y:B=O++ad:=by rw[hB,d,c];exact EA h.red (Bp u) hw (by grind)
   refine cL (r:= .one (.sl AA B)) g (NU (by rw[c,BL (Bp u)];omega) (by rw[d,BL hw];omega) Y) t2 ?_;try conv=>cbv
   exact fA ⟨t2,t2,trivial⟩ rfl (by simp)
  have N:=Ae C;exact (HM j N X).elim
 have M:=Av z;exact absurd M (by omega)
theorem YV (h:Al R (r::u)) (P:T=tw (r::u)) (O:A=em (r::u) x) (hx:El (r::u) s x) (K:x=p+q*rt u r) (Y:El u s p) (Z:El u s q) (hs:SS (r::u).length R s<=60000000000000) (a1:VV (r::u).length R R<=60000000000000) (V:0<=x) (h0:q=0) (hi:In u i) (H:AN u r*i=1) (hn:GW u p l) {l2:LR} (X:GW u (p*i) l2):CF 275 [.one (.sl (.sl AA) T),.one (.sl AA A)] (.AE [(false,[.sl AA (([]:LR))]),(false,[.bool false])]):=by
 have aA:T.length=u.length+1:=by rw[P,BU];rfl
 have ay:A.length=2^u.length+2^u.length:=by rw[O,BL hx.mem,Bc]
 have I:=El.Ca h;have hR:=h.hR;have aE:VV (r::u).length R s<=SS (r::u).length R s:=Gw u.length R s;have aD:s+II u.length R (TQ u.length R s+GG u.length R)+2*EE u.length R+2<=SS (r::u).length R s:=Hk u.length R s;have aC:=Ei (r::u).length R s;have aB:=Dn u.length R (TQ u.length R s+GG u.length R);have az:TQ u.length R s=3*s+4*EE u.length R+R+GG u.length R+3+II u.length R R:=rfl;have aj:=Cq h.tail.ht;have W:=I.inv h.tail hi H;refine AH Tryz.func275 (by kernel_rfl) rfl fun E d=>?_
 conv=>cbv
 rintro aI ⟨ar,f31⟩;conv=>cbv
 intro a7 v;conv=>cbv
 cases a7 <;> conv=>cbv
 ·have L:=Au v;obtain⟨aM,f⟩:=xI (BJ x);refine cL d (FQ h P O hx (by omega) (by omega) a1 f) t2 ?_;try conv=>cbv
  intro a8 y;conv=>cbv
  cases a8 <;> conv=>cbv
  ·have M:=Ad y;rintro aJ ⟨au,f48⟩;conv=>cbv
   intro aa aw;conv=>cbv
   refine g1 (by omega) ?_;intro aF ah;conv=>cbv
   refine g2 (by omega) ?_;intro S af;conv=>cbv
   intro a2 C;conv=>cbv
   obtain⟨N,c⟩:=AG (l:=T) (i:=(T.length-1)) (by omega);refine⟨N,fun _=>⟨by omega,by rw[show (aa).toNat=(T.length-1) by omega];exact c⟩,?_⟩;try conv=>cbv
   refine g2 rfl ?_;rintro aK ⟨av,f58⟩;conv=>cbv
   intro aL ax;conv=>cbv
   refine g2 ⟨by omega,by omega,i64 (by omega)⟩ ?_;intro aG ai;conv=>cbv
   refine g2 (by omega) ?_;intro U ag;conv=>cbv
   intro a5 D;conv=>cbv
   intro aH G;conv=>cbv
   refine g2 (by omega) ?_;rintro Q aq ⟨ae,z⟩;conv=>cbv
   intro a6 F;conv=>cbv
   refine g2 rfl ?_;have a:a2=tw u:=by rw[C,List.drop_zero,show S=T.length-1 by omega,P,DA]
   have o:N=em u (AN u r):=by rw[P,ES] at c;exact (Option.some.inj c).symm.trans (DU h.red)
   have b:a5=em u p:=by rw[D,List.drop_zero,show U=A.length/2 by omega,O,B9 h.red Y.mem Z.mem K]
   have m:a6=em u q:=by rw[F,show Q=A.length/2 by omega,z,G,List.take_length,O,Bo h.red Y.mem Z.mem K]
   obtain⟨an,ao,ak,al,k⟩:=Bb (((0:Int):Rat));refine cL d (D7 (by omega) rfl k) t1 ?_;try conv=>cbv
   obtain⟨ab,J⟩:=xR (em u (0));refine cL (r:= .one (.sl AA ab)) d (FC h.tail a k (by rw[show Re.ofRat ((0:Int):Rat)=0 from rfl];exact J)) ⟨rfl,t4,trivial⟩ ?_;try conv=>cbv
   refine cL d (GY h.tail.red Z.mem m h0) t1 ?_;try conv=>cbv
   refine cL d (hn a b) t2 ?_;try conv=>cbv
   obtain⟨ad,g⟩:=xR (em u (i));refine cL (r:= .AE [(false,[.sl AA ad]),(false,[.int .i64 0])]) d (LB h.tail a o I hi H (by have:=Hh u.length R (s:=R) (t:=TQ u.length R s+GG u.length R) (by omega);omega) g) t2 ?_;try conv=>cbv
   obtain⟨aN,j⟩:=xR (em u (p*i));refine cL d (DM h.tail a b g Y W (by omega) j) t3 ?_;try conv=>cbv
   refine cL d (X a j) t2 ?_;try conv=>cbv
   exact fA ⟨⟨rfl,.inr (.inl ⟨_,rfl⟩),trivial⟩,t2,trivial⟩ rfl (by simp)
  have M:=Ae y;exact (HM f M V).elim
 have L:=Av v;exact absurd L (by omega)
theorem YP (h:Al R (r::u)) (W:T=tw (r::u)) (V:A=em (r::u) x) (hx:El (r::u) s x) (O:x=p+q*rt u r) (C:El u s p) (o:El u s q) (hs:SS (r::u).length R s<=60000000000000) (a5:VV (r::u).length R R<=60000000000000) (a1:0<=x) (h0:q≠0) (hn:GW u (p*p-q*q*AN u r) l):CF 275 [.one (.sl (.sl AA) T),.one (.sl AA A)] (.AE [(false,[.sl AA (([]:LR))]),(false,[.bool false])]):=by
 have aF:T.length=u.length+1:=by rw[W,BU];rfl
 have aD:A.length=2^u.length+2^u.length:=by rw[V,BL hx.mem,Bc]
 have M:=El.Ca h;have hR:=h.hR;have aJ:VV (r::u).length R s<=SS (r::u).length R s:=Gw u.length R s;have aI:s+II u.length R (TQ u.length R s+GG u.length R)+2*EE u.length R+2<=SS (r::u).length R s:=Hk u.length R s;have aH:=Ei (r::u).length R s;have aG:=Dn u.length R (TQ u.length R s+GG u.length R);have aE:TQ u.length R s=3*s+4*EE u.length R+R+GG u.length R+3+II u.length R R:=rfl;have ak:=Cq h.tail.ht;refine AH Tryz.func275 (by kernel_rfl) rfl fun E m=>?_
 conv=>cbv
 rintro aN ⟨ay,f31⟩;conv=>cbv
 intro aa F;conv=>cbv
 cases aa <;> conv=>cbv
 ·have P:=Au F;obtain⟨aR,v⟩:=xI (BJ x);refine cL m (FQ h W V hx (by omega) (by omega) a5 v) t2 ?_;try conv=>cbv
  intro ab G;conv=>cbv
  cases ab <;> conv=>cbv
  ·have Q:=Ad G;rintro aO ⟨az,f48⟩;conv=>cbv
   intro ad aB;conv=>cbv
   refine g1 (by omega) ?_;intro aK ai;conv=>cbv
   refine g2 (by omega) ?_;intro Y ag;conv=>cbv
   intro a6 I;conv=>cbv
   obtain⟨U,k⟩:=AG (l:=T) (i:=(T.length-1)) (by omega);refine⟨U,fun _=>⟨by omega,by rw[show (ad).toNat=(T.length-1) by omega];exact k⟩,?_⟩;try conv=>cbv
   refine g2 rfl ?_;rintro aP ⟨aA,f58⟩;conv=>cbv
   intro aQ aC;conv=>cbv
   refine g2 ⟨by omega,by omega,i64 (by omega)⟩ ?_;intro aL aj;conv=>cbv
   refine g2 (by omega) ?_;intro Z ah;conv=>cbv
   intro a7 J;conv=>cbv
   intro aM L;conv=>cbv
   refine g2 (by omega) ?_;rintro X ax ⟨af,H⟩;conv=>cbv
   intro a8 K;conv=>cbv
   refine g2 rfl ?_;have a:a6=tw u:=by rw[I,List.drop_zero,show Y=T.length-1 by omega,W,DA]
   have z:U=em u (AN u r):=by rw[W,ES] at k;exact (Option.some.inj k).symm.trans (DU h.red)
   have c:a7=em u p:=by rw[J,List.drop_zero,show Z=A.length/2 by omega,V,B9 h.red C.mem o.mem O]
   have b:a8=em u q:=by rw[K,show X=A.length/2 by omega,H,L,List.take_length,V,Bo h.red C.mem o.mem O]
   obtain⟨av,aw,ar,au,y⟩:=Bb (((0:Int):Rat));refine cL m (D7 (by omega) rfl y) t1 ?_;try conv=>cbv
   obtain⟨ae,N⟩:=xR (em u (0));refine cL (r:= .one (.sl AA ae)) m (FC h.tail a y (by rw[show Re.ofRat ((0:Int):Rat)=0 from rfl];exact N)) ⟨rfl,t4,trivial⟩ ?_;try conv=>cbv
   refine cL m (G0 h.tail.red o.mem b h0) t1 ?_;try conv=>cbv
   obtain⟨an,d⟩:=xR (em u (p*p));refine cL m (DM h.tail a c c C C (by omega) d) t3 ?_;try conv=>cbv
   obtain⟨ao,f⟩:=xR (em u (q*q));refine cL m (DM h.tail a b b o o (by omega) f) t3 ?_;try conv=>cbv
   obtain⟨aq,g⟩:=xR (em u (AN u r*(q*q)));refine cL m (DM h.tail a z f M (o.mul h.tail o) (by omega) g) t3 ?_;try conv=>cbv
   obtain⟨S,j⟩:=xR (em u (p*p-AN u r*(q*q)));refine cL m (LC h.tail d g (C.mul h.tail C) (M.mul h.tail (o.mul h.tail o)) (by omega) (by omega) j) t3 ?_;try conv=>cbv
   have a2:S=em u (p*p-q*q*AN u r):=by rw[j,show p*p-AN u r*(q*q)=p*p-q*q*AN u r by grind]
   refine cL m (hn a a2) t2 ?_;try conv=>cbv
   intro al D;cases D.trans (rfl:_=true);conv=>cbv
   exact fA ⟨⟨rfl,.inr (.inl ⟨_,rfl⟩),trivial⟩,t2,trivial⟩ rfl (by simp)
  have Q:=Ae G;exact (HM v Q a1).elim
 have P:=Av F;exact absurd P (by omega)
theorem YR (h:Al R (r::u)) (hT:T=tw (r::u)) (hA:A=em (r::u) x) (hx:El (r::u) s x) (W:x=p+q*rt u r) (N:El u s p) (I:El u s q) (hs:SS (r::u).length R s<=60000000000000) (aE:VV (r::u).length R R<=60000000000000) (ay:0<=x) (h0:q≠0) (hn:In u n) (aB:n*n=p*p-q*q*AN u r) (ht:t=Re.ofRat (1/2)) (aI:GX u (p*p-q*q*AN u r) n) {y:Nat->Re} (aF:y 0=p+n) (aG:y 1=p-n) (aH:∀i,El u (s+(2*s+2*EE u.length R+R+1+GG u.length R)+1) (y i)) {L:Nat->LR} (hk:k0<=2) (aC:∀i,i<k0->GW u (t*y i) (L i)) (S:k0=2):CF 275 [.one (.sl (.sl AA) T),.one (.sl AA A)] (.AE [(false,[.sl AA (([]:LR))]),(false,[.bool false])]):=by
 have bg:T.length=u.length+1:=by rw[hT,BU];rfl
 have bd:A.length=2^u.length+2^u.length:=by rw[hA,BL hx.mem,Bc]
 have ab:=El.Ca h;have hR:=h.hR;have bo:VV (r::u).length R s<=SS (r::u).length R s:=Gw u.length R s;have bn:s+II u.length R (TQ u.length R s+GG u.length R)+2*EE u.length R+2<=SS (r::u).length R s:=Hk u.length R s;have bm:=Ei (r::u).length R s;have bk:=Dn u.length R (TQ u.length R s+GG u.length R);have bf:TQ u.length R s=3*s+4*EE u.length R+R+GG u.length R+3+II u.length R R:=rfl;have aX:=Cq h.tail.ht;have hN:=El.norm h N.mem I.mem (W ▸ hx);have aa:=hN.sqrt h.tail hn aB;have aD:El u 1 t:=by rw[ht];exact El.rat h.red.1 Jl
 refine AH Tryz.func275 (by kernel_rfl) rfl fun E b=>?_
 conv=>cbv
 rintro bt ⟨b8,f31⟩;conv=>cbv
 intro aJ Y;conv=>cbv
 cases aJ <;> conv=>cbv
 ·have af:=Au Y;obtain⟨bz,O⟩:=xI (BJ x);refine cL b (FQ h hT hA hx (by omega) (by omega) aE O) t2 ?_;try conv=>cbv
  intro aK Z;conv=>cbv
  cases aK <;> conv=>cbv
  ·have ag:=Ad Z;rintro bu ⟨b9,f48⟩;conv=>cbv
   intro aL bb;conv=>cbv
   refine g1 (by omega) ?_;intro bq aV;conv=>cbv
   refine g2 (by omega) ?_;intro aw aT;conv=>cbv
   intro ah a2;conv=>cbv
   obtain⟨au,G⟩:=AG (l:=T) (i:=(T.length-1)) (by omega);refine⟨au,fun _=>⟨by omega,by rw[show (aL).toNat=(T.length-1) by omega];exact G⟩,?_⟩;try conv=>cbv
   refine g2 rfl ?_;rintro bw ⟨ba,f58⟩;conv=>cbv
   intro bx bc;conv=>cbv
   refine g2 ⟨by omega,by omega,i64 (by omega)⟩ ?_;intro br aW;conv=>cbv
   refine g2 (by omega) ?_;intro ax aU;conv=>cbv
   intro ai a5;conv=>cbv
   intro bs a7;conv=>cbv
   refine g2 (by omega) ?_;rintro av b7 ⟨aS,a1⟩;conv=>cbv
   intro aj a6;conv=>cbv
   refine g2 rfl ?_;have a:ah=tw u:=by rw[a2,List.drop_zero,show aw=T.length-1 by omega,hT,DA]
   have V:au=em u (AN u r):=by rw[hT,ES] at G;exact (Option.some.inj G).symm.trans (DU h.red)
   have c:ai=em u p:=by rw[a5,List.drop_zero,show ax=A.length/2 by omega,hA,B9 h.red N.mem I.mem W]
   have d:aj=em u q:=by rw[a6,show av=A.length/2 by omega,a1,a7,List.take_length,hA,Bo h.red N.mem I.mem W]
   obtain⟨b5,b6,b3,b4,P⟩:=Bb (((0:Int):Rat));refine cL b (D7 (by omega) rfl P) t1 ?_;try conv=>cbv
   obtain⟨aM,ad⟩:=xR (em u (0));refine cL (r:= .one (.sl AA aM)) b (FC h.tail a P (by rw[show Re.ofRat ((0:Int):Rat)=0 from rfl];exact ad)) ⟨rfl,t4,trivial⟩ ?_;try conv=>cbv
   refine cL b (G0 h.tail.red I.mem d h0) t1 ?_;try conv=>cbv
   obtain⟨aZ,f⟩:=xR (em u (p*p));refine cL b (DM h.tail a c c N N (by omega) f) t3 ?_;try conv=>cbv
   obtain⟨b0,g⟩:=xR (em u (q*q));refine cL b (DM h.tail a d d I I (by omega) g) t3 ?_;try conv=>cbv
   obtain⟨b1,j⟩:=xR (em u (AN u r*(q*q)));refine cL b (DM h.tail a V g ab (I.mul h.tail I) (by omega) j) t3 ?_;try conv=>cbv
   obtain⟨an,o⟩:=xR (em u (p*p-AN u r*(q*q)));refine cL b (LC h.tail f j (N.mul h.tail N) (ab.mul h.tail (I.mul h.tail I)) (by omega) (by omega) o) t3 ?_;try conv=>cbv
   have az:an=em u (p*p-q*q*AN u r):=by rw[o,show p*p-AN u r*(q*q)=p*p-q*q*AN u r by grind]
   obtain⟨ao,v⟩:=xR (em u n);refine cL b (aI a az v) t2 ?_;try conv=>cbv
   intro aY X;cases X.trans (rfl:_=false);conv=>cbv
   obtain⟨aP,aQ,aN,aO,H⟩:=Bb ((1/2:Rat));refine cL b (NK (by omega) (by omega) (by decide) (by decide +kernel) H) t2 ?_;try conv=>cbv
   obtain⟨Q,z⟩:=xR (em u (t));refine cL (r:= .one (.sl AA Q)) b (FC h.tail a H (z.trans (by rw[ht]))) ⟨rfl,t4,trivial⟩ ?_;try conv=>cbv
   refine .inr ?_;obtain⟨J0,J⟩:=xJ fun vs bl k=>∃(k':Nat) (m:Re) (M:LR) (i:Int),vs=[.one (.sl (.sl AA) ah),.one (.sl AA ai),.one (.sl AA aj),.one (.sl AA M),.one (.sl AA Q),.one (.int .i64 i)]/\(AS i k'/\k'<=2)/\(M=em u m/\m=if k'=1 then -n else n)/\k=2-k'
   refine⟨[9,12,13,22,24,25],[],J0,⟨2-0,by rw[J];exact⟨0,n,ao,0,rfl,⟨BC 0,by omega⟩,⟨v,rfl⟩,rfl⟩⟩,?_⟩;intro vs bl bp hj;rw[J] at hj;obtain⟨k',m,M,i,rfl,⟨hi,bh⟩,⟨hM,U⟩,bj⟩:=hj;conv=>cbv
   have ei:=hi.eq;intro ak K;conv=>cbv
   cases ak <;> conv=>cbv
   ·have ae:=Ad K;exact fA ⟨⟨rfl,.inr (.inl ⟨_,rfl⟩),trivial⟩,t2,trivial⟩ rfl (by simp)
   have ae:=Ae K;refine .inr ?_;have S:k'=0\/k'=1:=by omega
   have a8:El u (2*s+2*EE u.length R+R+1+GG u.length R) m:=by rw[U];split;exact aa.neg h.red.1;exact aa
   have aA:p+m=y k':=by rcases S with e | e <;> rw[e,U,e] <;> first | (rw[aF];rfl) | (rw[aG];simp;grind)
   obtain⟨aq,C⟩:=xR (em u (y k'));refine cL (r:= .one (.sl AA aq)) b (Hl h.tail c hM N a8 (by omega) (by omega) (C.trans (by rw[aA]))) t3 ?_;try conv=>cbv
   obtain⟨b2,D⟩:=xR (em u (t*y k'));refine cL b (DM h.tail a z C aD (aH k') (by omega) D) t3 ?_;try conv=>cbv
   refine cL b (aC k' (by omega) a D) t2 ?_;try conv=>cbv
   obtain⟨ar,F⟩:=xR (em u (-m));refine cL b (IV h.tail hM a8 F) t2 ?_;try conv=>cbv
   intro al aR;conv=>cbv
   refine g1 (by omega) ?_;refine⟨2-(k'+1),?_,?_⟩
   ·omega
   rw[J];exact⟨k'+1,-m,ar,al,rfl,⟨⟨by omega⟩,by omega⟩,⟨F,by clear J;rcases S with e | e <;> rw[U,e] <;> first | rfl | (show- -n=n;grind)⟩,rfl⟩
  have ag:=Ae Z;exact (HM O ag ay).elim
 have af:=Av Y;exact absurd af (by omega)
theorem YQ (h:Al R (r::u)) (hT:T=tw (r::u)) (hA:A=em (r::u) x) (hx:El (r::u) s x) (hxe:x=p+q*rt u r) (hp:El u s p) (hq:El u s q) (hs:SS (r::u).length R s<=60000000000000) (hvR:VV (r::u).length R R<=60000000000000) (h0x:0<=x) (h0:q≠0) (hn:In u n) (hnn:n*n=p*p-q*q*AN u r) (ht:t=Re.ofRat (1/2)) (hyn:GX u (p*p-q*q*AN u r) n) {y:Nat->Re} (hy0:y 0=p+n) (hy1:y 1=p-n) (hyE:∀i,El u (s+(2*s+2*EE u.length R+R+1+GG u.length R)+1) (y i)) {L:Nat->LR} (hk:k0<=2) (hno:∀i,i<k0->GW u (t*y i) (L i)) (hk1:k0<2) {j:Re} (hw:In u w) (hww:w*w=t*y k0) (hyw:GX u (t*y k0) w) (hj:In u j) (hwj:w*j=1) (hB:B=em (r::u) (w+t*(q*j)*rt u r)):CF 275 [.one (.sl (.sl AA) T),.one (.sl AA A)] (.AE [(false,[.sl AA B]),(false,[.bool true])]):=by
 have hTl:T.length=u.length+1:=by rw[hT,BU];rfl
 have hAl:A.length=2^u.length+2^u.length:=by rw[hA,BL hx.mem,Bc]
 have hrr:=El.Ca h;have hR:=h.hR;have hsv:VV (r::u).length R s<=SS (r::u).length R s:=Gw u.length R s;have hsi:s+II u.length R (TQ u.length R s+GG u.length R)+2*EE u.length R+2<=SS (r::u).length R s:=Hk u.length R s;have hsg:=Ei (r::u).length R s;have hmn:=Dn u.length R (TQ u.length R s+GG u.length R);have hTQ:TQ u.length R s=3*s+4*EE u.length R+R+GG u.length R+3+II u.length R R:=rfl;have hp16:=Cq h.tail.ht;have hN:=El.norm h hp.mem hq.mem (hxe ▸ hx);have hnE:=hN.sqrt h.tail hn hnn;have htE:El u 1 t:=by rw[ht];exact El.rat h.red.1 Jl
 have hhE:=htE.mul h.tail (hyE k0);have hwE:=hhE.sqrt h.tail hw hww;have hjE:=(hwE.mono (t:=TQ u.length R s+GG u.length R) (by omega)).inv h.tail hj hwj;refine AH Tryz.func275 (by kernel_rfl) rfl fun E hE=>?_
 conv=>cbv
 rintro n31 ⟨e31,f31⟩;conv=>cbv
 intro n32 h32;conv=>cbv
 cases n32 <;> conv=>cbv
 ·have k32:=Au h32;obtain⟨r45,hr45⟩:=xI (BJ x);refine cL hE (FQ h hT hA hx (by omega) (by omega) hvR hr45) t2 ?_;try conv=>cbv
  intro n46 h46;conv=>cbv
  cases n46 <;> conv=>cbv
  ·have k46:=Ad h46;rintro n48 ⟨e48,f48⟩;conv=>cbv
   intro n49 h49;conv=>cbv
   refine g1 (by omega) ?_;intro m52 hm52;conv=>cbv
   refine g2 (by omega) ?_;intro b52 hb52;conv=>cbv
   intro l52 hl52;conv=>cbv
   obtain⟨x55,hx55⟩:=AG (l:=T) (i:=(T.length-1)) (by omega);refine⟨x55,fun _=>⟨by omega,by rw[show (n49).toNat=(T.length-1) by omega];exact hx55⟩,?_⟩;try conv=>cbv
   refine g2 rfl ?_;rintro n58 ⟨e58,f58⟩;conv=>cbv
   intro n59 h59;conv=>cbv
   refine g2 ⟨by omega,by omega,i64 (by omega)⟩ ?_;intro m62 hm62;conv=>cbv
   refine g2 (by omega) ?_;intro b62 hb62;conv=>cbv
   intro l62 hl62;conv=>cbv
   intro m65 hm65;conv=>cbv
   refine g2 (by omega) ?_;rintro a65 b65 ⟨ha65,hb65⟩;conv=>cbv
   intro l65 hl65;conv=>cbv
   refine g2 rfl ?_;have hl52e:l52=tw u:=by rw[hl52,List.drop_zero,show b52=T.length-1 by omega,hT,DA]
   have hx55e:x55=em u (AN u r):=by rw[hT,ES] at hx55;exact (Option.some.inj hx55).symm.trans (DU h.red)
   have hl62e:l62=em u p:=by rw[hl62,List.drop_zero,show b62=A.length/2 by omega,hA,B9 h.red hp.mem hq.mem hxe]
   have hl65e:l65=em u q:=by rw[hl65,show a65=A.length/2 by omega,hb65,hm65,List.take_length,hA,Bo h.red hp.mem hq.mem hxe]
   obtain⟨zb67,zl67,yb67,yl67,hz67⟩:=Bb (((0:Int):Rat));refine cL hE (D7 (by omega) rfl hz67) t1 ?_;try conv=>cbv
   obtain⟨w68,hw68⟩:=xR (em u (0));refine cL (r:= .one (.sl AA w68)) hE (FC h.tail hl52e hz67 (by rw[show Re.ofRat ((0:Int):Rat)=0 from rfl];exact hw68)) ⟨rfl,t4,trivial⟩ ?_;try conv=>cbv
   refine cL hE (G0 h.tail.red hq.mem hl65e h0) t1 ?_;try conv=>cbv
   obtain⟨w104,hw104⟩:=xR (em u (p*p));refine cL hE (DM h.tail hl52e hl62e hl62e hp hp (by omega) hw104) t3 ?_;try conv=>cbv
   obtain⟨w110,hw110⟩:=xR (em u (q*q));refine cL hE (DM h.tail hl52e hl65e hl65e hq hq (by omega) hw110) t3 ?_;try conv=>cbv
   obtain⟨w111,hw111⟩:=xR (em u (AN u r*(q*q)));refine cL hE (DM h.tail hl52e hx55e hw110 hrr (hq.mul h.tail hq) (by omega) hw111) t3 ?_;try conv=>cbv
   obtain⟨w112,hw112⟩:=xR (em u (p*p-AN u r*(q*q)));refine cL hE (LC h.tail hw104 hw111 (hp.mul h.tail hp) (hrr.mul h.tail (hq.mul h.tail hq)) (by omega) (by omega) hw112) t3 ?_;try conv=>cbv
   have hNe:w112=em u (p*p-q*q*AN u r):=by rw[hw112,show p*p-AN u r*(q*q)=p*p-q*q*AN u r by grind]
   obtain⟨w117,hw117⟩:=xR (em u n);refine cL hE (hyn hl52e hNe hw117) t2 ?_;try conv=>cbv
   intro n120 h120;cases h120.trans (rfl:_=false);conv=>cbv
   obtain⟨zb122,zl122,yb122,yl122,hz122⟩:=Bb ((1/2:Rat));refine cL hE (NK (by omega) (by omega) (by decide) (by decide +kernel) hz122) t2 ?_;try conv=>cbv
   obtain⟨w123,hw123⟩:=xR (em u (t));refine cL (r:= .one (.sl AA w123)) hE (FC h.tail hl52e hz122 (hw123.trans (by rw[ht]))) ⟨rfl,t4,trivial⟩ ?_;try conv=>cbv
   refine .inr ?_;obtain⟨J0,hJ0⟩:=xJ fun vs bl k=>∃(k':Nat) (m:Re) (M:LR) (i:Int),vs=[.one (.sl (.sl AA) l52),.one (.sl AA l62),.one (.sl AA l65),.one (.sl AA M),.one (.sl AA w123),.one (.int .i64 i)]/\(AS i k'/\k'<=k0)/\(M=em u m/\m=if k'=1 then -n else n)/\k=k0-k'
   refine⟨[9,12,13,22,24,25],[],J0,⟨k0-0,by rw[hJ0];exact⟨0,n,w117,0,rfl,⟨BC 0,by omega⟩,⟨hw117,rfl⟩,rfl⟩⟩,?_⟩;intro vs bl kk0 hj;rw[hJ0] at hj;obtain⟨k',m,M,i,rfl,⟨hi,hik⟩,⟨hM,hmv⟩,hk0⟩:=hj;conv=>cbv
   have ei:=hi.eq;intro n125 h125;conv=>cbv
   cases n125 <;> conv=>cbv
   ·have k125:=Ad h125;exact absurd k125 (by omega)
   have k125:=Ae h125;refine .inr ?_;have hk2:k'=0\/k'=1:=by omega
   have hmE:El u (2*s+2*EE u.length R+R+1+GG u.length R) m:=by rw[hmv];split;exact hnE.neg h.red.1;exact hnE
   have hmy:p+m=y k':=by rcases hk2 with e | e <;> rw[e,hmv,e] <;> first | (rw[hy0];rfl) | (rw[hy1];simp;grind)
   obtain⟨w135,hw135⟩:=xR (em u (y k'));refine cL (r:= .one (.sl AA w135)) hE (Hl h.tail hl62e hM hp hmE (by omega) (by omega) (hw135.trans (by rw[hmy]))) t3 ?_;try conv=>cbv
   obtain⟨w136,hw136⟩:=xR (em u (t*y k'));refine cL hE (DM h.tail hl52e hw123 hw135 htE (hyE k') (by omega) hw136) t3 ?_;try conv=>cbv
   obtain⟨wl,bb,hcall,hbt,hbf⟩:∃(wl:LR) (bb:Bool),CF 275 [.one (.sl (.sl AA) l52),.one (.sl AA w136)] (.AE [(false,[.sl AA wl]),(false,[.bool bb])])/\(bb=true->k'=k0/\wl=em u w)/\(bb=false->k'<k0):=by
    by_cases e:k'<k0
    ·exact⟨L k',false,hno k' e hl52e hw136,fun e=>(Bool.false_ne_true e).elim,fun _=>e⟩
    have e2:k'=k0:=by omega
    exact⟨em u w,true,hyw hl52e (hw136.trans (by rw[e2])) rfl,fun _=>⟨e2,rfl⟩,fun e=>(Bool.noConfusion e)⟩
   refine cL hE hcall t2 ?_;try conv=>cbv
   cases bb <;> conv=>cbv
   ·have hkl:=hbf rfl;obtain⟨w158,hw158⟩:=xR (em u (-m));refine cL hE (IV h.tail hM hmE hw158) t2 ?_;try conv=>cbv
    intro n127 h127;conv=>cbv
    refine g1 (by omega) ?_;refine⟨k0-(k'+1),?_,?_⟩
    ·omega
    rw[hJ0];exact⟨k'+1,-m,w158,n127,rfl,⟨⟨by omega⟩,by omega⟩,⟨hw158,by clear hJ0;rcases hk2 with e | e <;> rw[hmv,e] <;> first | rfl | (show- -n=n;grind)⟩,rfl⟩
   obtain⟨hke,hwl⟩:=hbt rfl;subst hke;obtain⟨w144,hw144⟩:=xR (em u (j));refine cL hE (LB h.tail hl52e hwl (hwE.mono (t:=TQ u.length R s+GG u.length R) (by omega)) hj hwj (by omega) hw144) t2 ?_;try conv=>cbv
   obtain⟨w153,hw153⟩:=xR (em u (q*j));refine cL hE (DM h.tail hl52e hl65e hw144 hq hjE (by omega) hw153) t3 ?_;try conv=>cbv
   obtain⟨w154,hw154⟩:=xR (em u (t*(q*j)));refine cL hE (DM h.tail hl52e hw123 hw153 htE (hq.mul h.tail hjE) (by omega) hw154) t3 ?_;try conv=>cbv
   have htq:=htE.mul h.tail (hq.mul h.tail hjE);have hBj:B=wl++w154:=by rw[hB,hwl,hw154];exact EA h.red hw htq.mem rfl
   refine cL (r:= .one (.sl AA B)) hE (NU (by rw[hwl,BL hw];omega) (by rw[hw154,BL htq.mem];omega) hBj) t2 ?_;try conv=>cbv
   exact fA ⟨t2,t2,trivial⟩ rfl (by simp)
  have k46:=Ae h46;exact (HM hr45 k46 h0x).elim
 have k32:=Av h32;exact absurd k32 (by omega)
end Go.Abs
