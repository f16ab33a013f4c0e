/- Part 31 of a proof. Conditions: each theorem's own. -/
import Derived.Shelf.Spec.SlicesGrow
import Derived.Test.YtfilemenbchajaaGreatPk29
set_option linter.all false
set_option maxHeartbeats 8000000
set_option maxRecDepth 20000
open Go.Proofs
namespace Go.Abs
open Go.RowKit
variable {A B C X Y Z:LR} {R s t zn:Nat} {T:List LR} {a b p q x y:Re} {r:List Rat} {u:List (List Rat)}
theorem GY (h:Ab u) (f:In u x) (d:X=em u x) (c:x=0):CF 224 [.one (.sl AA X)] (.one (.bool true)):=
 Qx d (decide_eq_true ((Ju h f).2 c)).symm
theorem G0 (h:Ab u) (f:In u x) (d:X=em u x) (c:x≠0):CF 224 [.one (.sl AA X)] (.one (.bool false)):=
 Qx d (decide_eq_false (fun k=>c ((Ju h f).1 k))).symm
theorem Qy (h:Al R u) (g:X=em u x) (i:Y=em u y) (c:El u s x) (d:El u t y) (k:s<=60000000000000) (ht:t<=60000000000000) (j:Z=em u (x+y)) (f:zn=Z.length):
  CF 175 [.one (.sl (.sl AA) T),.one (.sl AA X),.one (.sl AA Y)] (.one (.own AA Z zn)):=
 XR g i (c.Bh k) (d.Bh ht) (by rw[c.len,d.len]) (by rw[c.len];exact HQ h.ht) (by rw[j,Se h.red c.mem d.mem]) f
theorem Hl (h:Al R u) (c:X=em u x) (d:Y=em u y) (i:El u s x) (j:El u t y) (g:s<=60000000000000) (ht:t<=60000000000000) (f:Z=em u (x+y)):
 CF 175 [.one (.sl (.sl AA) T),.one (.sl AA X),.one (.sl AA Y)] (.one (.sl AA Z)):=Cl (Qy h c d i j g ht f rfl)
theorem IV (h:Al R u) (d:X=em u x) (c:El u s x) (f:Z=em u (-x)):
  CF 106 [.one (.sl (.sl AA) T),.one (.sl AA X)] (.one (.sl AA Z)):=
 Xf d (by rw[c.len];exact HQ h.ht) (by rw[f,Sf h.red c.mem])
theorem LC (h:Al R u) (i:X=em u x) (j:Y=em u y) (m:El u s x) (g:El u t y) (l:s<=60000000000000) (ht:t<=60000000000000) (k:Z=em u (x-y)):CF 286 [.one (.sl (.sl AA) T),.one (.sl AA X),.one (.sl AA Y)] (.one (.sl AA Z)):=by
 refine AH Tryz.func286 (by kernel_rfl) rfl fun E f=>?_
 conv=>cbv
 obtain⟨n,c⟩:=xR (em u (-y));refine cL f (IV h j g c) t2 ?_;try conv=>cbv
 obtain⟨o,d⟩:=xR (em u (x+ -y));refine cL f (Hl h i c m (g.neg h.red) l ht d) t3 ?_;try conv=>cbv
 exact fA ⟨⟨rfl,congrArg _ (by rw[k,d,show x-y=x+ -y by grind]),trivial⟩,trivial⟩ rfl (by simp)
theorem YC {p q:Rat} (L:T=[]) (F:A=[rp p]) (G:B=[rp q]) (O:Bj p) (ht:Bj q) (H:C=[rp (p*q)]) (v:zn=C.length):CF 168 [.one (.sl (.sl AA) T),.one (.sl AA A),.one (.sl AA B)] (.one (.own AA C zn)):=by
 refine AH Tryz.func168 (by kernel_rfl) rfl fun E K=>?_
 conv=>cbv
 rintro P ⟨o,f14⟩;conv=>cbv
 intro w g;conv=>cbv
 cases w <;> conv=>cbv
 ·have h:=Au g;exact absurd (by rw[o,L];rfl) h
 have h:=Av g;have I:A.length=1:=by rw[F];rfl
 have J:B.length=1:=by rw[G];rfl
 obtain⟨z,c⟩:=AG (l:=A) (i:=0) (by omega);refine⟨z,fun _=>⟨by omega,c⟩,?_⟩;try conv=>cbv
 obtain⟨D,d⟩:=AG (l:=B) (i:=0) (by omega);refine⟨D,fun _=>⟨by omega,d⟩,?_⟩;try conv=>cbv
 have M:=D2 F c;have N:=D2 G d;obtain⟨m,n,j,k,f⟩:=Bb (p*q);refine cL K (Xj M N O ht rfl f) ⟨t4,t4,trivial⟩ ?_;try conv=>cbv
 refine⟨[((m,n),(j,k))],fun _=>⟨rfl,by decide,rfl,⟨rfl,by first | exact t1 | exact t2 | exact t4 | simp[Aw,BF,cells],trivial⟩⟩,.inl ?_⟩;try conv=>cbv
 refine g2 rfl ?_;exact fA ⟨⟨rfl,.inr (.inl ⟨_,_,by decide,rfl,rfl,rfl,rfl,C2 (by rw[H,f.rp]) (by rw[v,H];rfl)⟩),trivial⟩,trivial⟩ rfl (by simp)
def Jd (R:Nat) (u:List (List Rat)):Prop:=∀{T:List LR} {A B C:LR} {zn s t:Nat} {x y:Re},T=tw u->A=em u x->B=em u y->El u s x->El u t y->s+t+EE u.length R<=60000000000000->C=em u (x*y)->zn=C.length->
 CF 168 [.one (.sl (.sl AA) T),.one (.sl AA A),.one (.sl AA B)] (.one (.own AA C zn))
theorem YG (h:Al R (r::u)) (ih:Jd R u) (hT:T=tw (r::u)) (hA:A=em (r::u) x) (hB:B=em (r::u) y) (hx:El (r::u) s x) (hy:El (r::u) t y) (aV:s+t+EE (r::u).length R<=60000000000000) (F:x=p+q*rt u r) (hp:El u s p) (hq:El u s q) (G:y=a+b*rt u r) (ha:El u t a) (hb:El u t b) (h0:q=0) (h1:b=0) (hC:C=em (r::u) (x*y)) (ab:zn=C.length):CF 168 [.one (.sl (.sl AA) T),.one (.sl AA A),.one (.sl AA B)] (.one (.own AA C zn)):=by
 have aR:EE (r::u).length R=2*EE u.length R+R+2:=rfl;have aT:=El.Ca h;have hR:=h.hR;have aU:=CO h.red;have aS:T.length=u.length+1:=by rw[hT,BU];rfl
 have aP:A.length=2^u.length+2^u.length:=by rw[hA,BL hx.mem,Bc]
 have aQ:B.length=2^u.length+2^u.length:=by rw[hB,BL hy.mem,Bc]
 refine AH Tryz.func168 (by kernel_rfl) rfl fun E J=>?_
 conv=>cbv
 rintro b1 ⟨aI,f14⟩;conv=>cbv
 intro ai I;conv=>cbv
 cases ai <;> conv=>cbv
 ·have a2:=Au I;rintro b2 ⟨aJ,f25⟩;conv=>cbv
  intro b3 aM;conv=>cbv
  refine g2 ⟨by omega,by omega,i64 (by omega)⟩ ?_;rintro b4 ⟨aK,f29⟩;conv=>cbv
  intro b5 aN;conv=>cbv
  refine g1 (by omega) ?_;intro aW ax;conv=>cbv
  refine g2 (by omega) ?_;intro a7 aq;conv=>cbv
  intro ad M;conv=>cbv
  rintro b6 ⟨aL,f34⟩;conv=>cbv
  intro aj aO;conv=>cbv
  refine g1 (by omega) ?_;obtain⟨al,a1⟩:=AG (l:=T) (i:=(T.length-1)) (by omega);refine⟨al,fun _=>⟨by omega,by rw[show (aj).toNat=(T.length-1) by omega];exact a1⟩,?_⟩;try conv=>cbv
  refine g2 rfl ?_;intro aX U;conv=>cbv
  refine g2 (by omega) ?_;rintro a5 aG ⟨an,K⟩;conv=>cbv
  intro ae N;conv=>cbv
  have v:ae=em u q:=by rw[N,show a5=A.length/2 by omega,K,U,List.take_length,hA,Bo h.red hp.mem hq.mem F]
  refine cL J (GY h.tail.red hq.mem v h0) t1 ?_;try conv=>cbv
  intro aY V;conv=>cbv
  refine g2 (by omega) ?_;rintro a6 aH ⟨ao,L⟩;conv=>cbv
  intro af O;conv=>cbv
  have w:af=em u b:=by rw[O,show a6=B.length/2 by omega,L,V,List.take_length,hB,Bo h.red ha.mem hb.mem G]
  refine cL J (GY h.tail.red hb.mem w h1) t1 ?_;try conv=>cbv
  refine g2 rfl ?_;intro aZ ay;conv=>cbv
  refine g2 (by omega) ?_;intro a8 ar;conv=>cbv
  intro ag P;conv=>cbv
  intro b0 az;conv=>cbv
  refine g2 (by omega) ?_;intro aa au;conv=>cbv
  intro ah Q;conv=>cbv
  have c:ad=tw u:=by rw[M,List.drop_zero,show a7=T.length-1 by omega,hT,DA]
  have z:ag=em u p:=by rw[P,List.drop_zero,show a8=A.length/2 by omega,hA,B9 h.red hp.mem hq.mem F]
  have D:ah=em u a:=by rw[Q,List.drop_zero,show aa=B.length/2 by omega,hB,B9 h.red ha.mem hb.mem G]
  obtain⟨k,d⟩:=xR (em u (p*a));obtain⟨aB,f⟩:=xN k.length;refine cL J (ih c z D hp ha (by omega) d f) t3 ?_;try conv=>cbv
  refine g2 rfl ?_;obtain⟨aE,aF,aC,aD,n⟩:=Bb (((0:Int):Rat));refine cL J (D7 (by omega) rfl n) t1 ?_;try conv=>cbv
  obtain⟨j,g⟩:=xR (em u (0));refine cL (r:= .one (.sl AA j)) J (FC h.tail c n (by rw[show Re.ofRat ((0:Int):Rat)=0 from rfl];exact g)) ⟨rfl,t4,trivial⟩ ?_;try conv=>cbv
  have av:k.length=2^u.length:=by rw[d,BL (hp.mul h.tail ha).mem]
  have aA:=Cq h.tail.ht;have aw:j.length=2^u.length:=by rw[g,BL (Bp u)]
  refine .inl ⟨j,fun _=>⟨rfl,f,rfl,by show (k.length+j.length)*64<=140737488355328;(try simp only[List.length_take,List.length_drop]);omega⟩,?_⟩;intro (H:LR) ak o;have S:H=(k:LR)++(j:LR):=o.1;have W:ak=List.length (α:=(el AA)) H:=o.2;conv=>cbv
  have m:C=H:=by rw[hC,S,d,g];exact EA h.red (hp.mul h.tail ha).mem (Bp u) (by rw[F,G,h0,h1];clear ih;grind)
  exact fA ⟨⟨rfl,.inr (.inl ⟨_,_,by decide,rfl,rfl,W,rfl,C2 (m) (by rw[ab,m])⟩),trivial⟩,trivial⟩ rfl (by simp)
 have a2:=Av I;exact absurd a2 (by omega)
theorem YF (h:Al R (r::u)) (ih:Jd R u) (hT:T=tw (r::u)) (hA:A=em (r::u) x) (hB:B=em (r::u) y) (hx:El (r::u) s x) (hy:El (r::u) t y) (b4:s+t+EE (r::u).length R<=60000000000000) (k:x=p+q*rt u r) (j:El u s p) (hq:El u s q) (m:y=a+b*rt u r) (ha:El u t a) (hb:El u t b) (h0:q=0) (h1:b≠0) (hC:C=em (r::u) (x*y)) (aj:zn=C.length):CF 168 [.one (.sl (.sl AA) T),.one (.sl AA A),.one (.sl AA B)] (.one (.own AA C zn)):=by
 have b0:EE (r::u).length R=2*EE u.length R+R+2:=rfl;have b2:=El.Ca h;have hR:=h.hR;have b3:=CO h.red;have b1:T.length=u.length+1:=by rw[hT,BU];rfl
 have aY:A.length=2^u.length+2^u.length:=by rw[hA,BL hx.mem,Bc]
 have aZ:B.length=2^u.length+2^u.length:=by rw[hB,BL hy.mem,Bc]
 refine AH Tryz.func168 (by kernel_rfl) rfl fun E hE=>?_
 conv=>cbv
 rintro bc ⟨aR,f14⟩;conv=>cbv
 intro av K;conv=>cbv
 cases av <;> conv=>cbv
 ·have aa:=Au K;rintro bd ⟨aS,f25⟩;conv=>cbv
  intro bf aV;conv=>cbv
  refine g2 ⟨by omega,by omega,i64 (by omega)⟩ ?_;rintro bg ⟨aT,f29⟩;conv=>cbv
  intro bh aW;conv=>cbv
  refine g1 (by omega) ?_;intro b5 aI;conv=>cbv
  refine g2 (by omega) ?_;intro af aC;conv=>cbv
  intro ak O;conv=>cbv
  rintro bj ⟨aU,f34⟩;conv=>cbv
  intro aw aX;conv=>cbv
  refine g1 (by omega) ?_;obtain⟨ay,a8⟩:=AG (l:=T) (i:=(T.length-1)) (by omega);refine⟨ay,fun _=>⟨by omega,by rw[show (aw).toNat=(T.length-1) by omega];exact a8⟩,?_⟩;try conv=>cbv
  refine g2 rfl ?_;intro b6 a2;conv=>cbv
  refine g2 (by omega) ?_;rintro ab aO ⟨az,L⟩;conv=>cbv
  intro al P;conv=>cbv
  have z:al=em u q:=by rw[P,show ab=A.length/2 by omega,L,a2,List.take_length,hA,Bo h.red j.mem hq.mem k]
  refine cL hE (GY h.tail.red hq.mem z h0) t1 ?_;try conv=>cbv
  intro b7 a5;conv=>cbv
  refine g2 (by omega) ?_;rintro ad aP ⟨aA,M⟩;conv=>cbv
  intro an Q;conv=>cbv
  have D:an=em u b:=by rw[Q,show ad=B.length/2 by omega,M,a5,List.take_length,hB,Bo h.red ha.mem hb.mem m]
  refine cL hE (G0 h.tail.red hb.mem D h1) t1 ?_;try conv=>cbv
  refine g2 rfl ?_;intro b8 aJ;conv=>cbv
  refine g2 (by omega) ?_;intro ag aD;conv=>cbv
  intro ao S;conv=>cbv
  intro b9 aK;conv=>cbv
  refine g2 (by omega) ?_;intro ah aE;conv=>cbv
  intro aq U;conv=>cbv
  have c:ak=tw u:=by rw[O,List.drop_zero,show af=T.length-1 by omega,hT,DA]
  have F:ao=em u p:=by rw[S,List.drop_zero,show ag=A.length/2 by omega,hA,B9 h.red j.mem hq.mem k]
  have G:aq=em u a:=by rw[U,List.drop_zero,show ah=B.length/2 by omega,hB,B9 h.red ha.mem hb.mem m]
  obtain⟨n,d⟩:=xR (em u (p*a));obtain⟨aN,f⟩:=xN n.length;refine cL hE (ih c F G j ha (by omega) d f) t3 ?_;try conv=>cbv
  refine g2 rfl ?_;intro ba aL;conv=>cbv
  refine g2 (by omega) ?_;intro ai aF;conv=>cbv
  intro ar V;conv=>cbv
  intro bb a6;conv=>cbv
  refine g2 (by omega) ?_;rintro ae aQ ⟨aB,N⟩;conv=>cbv
  intro au W;conv=>cbv
  have H:ar=em u p:=by rw[V,List.drop_zero,show ai=A.length/2 by omega,hA,B9 h.red j.mem hq.mem k]
  have I:au=em u b:=by rw[W,show ae=B.length/2 by omega,N,a6,List.take_length,hB,Bo h.red ha.mem hb.mem m]
  obtain⟨o,g⟩:=xR (em u (p*b));refine cL hE (Cl (ih c H I j hb (by omega) g rfl)) t3 ?_;try conv=>cbv
  have aG:n.length=2^u.length:=by rw[d,BL (j.mul h.tail ha).mem]
  have aM:=Cq h.tail.ht;have aH:o.length=2^u.length:=by rw[g,BL (j.mul h.tail hb).mem]
  refine .inl ⟨o,fun _=>⟨rfl,f,rfl,by show (n.length+o.length)*64<=140737488355328;(try simp only[List.length_take,List.length_drop]);omega⟩,?_⟩;intro (J:LR) ax w;have a1:J=(n:LR)++(o:LR):=w.1;have a7:ax=List.length (α:=(el AA)) J:=w.2;conv=>cbv
  refine g2 rfl ?_;have v:C=J:=by rw[hC,a1,d,g];exact EA h.red (j.mul h.tail ha).mem (j.mul h.tail hb).mem (by rw[k,m,h0];clear ih;grind)
  exact fA ⟨⟨rfl,.inr (.inl ⟨_,_,by decide,rfl,rfl,a7,rfl,C2 (v) (by rw[aj,v])⟩),trivial⟩,trivial⟩ rfl (by simp)
 have aa:=Av K;exact absurd aa (by omega)
theorem YE (h:Al R (r::u)) (ih:Jd R u) (hT:T=tw (r::u)) (hA:A=em (r::u) x) (hB:B=em (r::u) y) (hx:El (r::u) s x) (hy:El (r::u) t y) (b5:s+t+EE (r::u).length R<=60000000000000) (j:x=p+q*rt u r) (K:El u s p) (I:El u s q) (k:y=a+b*rt u r) (ha:El u t a) (hb:El u t b) (h0:q≠0) (h1:b=0) (hC:C=em (r::u) (x*y)) (ak:zn=C.length):CF 168 [.one (.sl (.sl AA) T),.one (.sl AA A),.one (.sl AA B)] (.one (.own AA C zn)):=by
 have b1:EE (r::u).length R=2*EE u.length R+R+2:=rfl;have b3:=El.Ca h;have hR:=h.hR;have b4:=CO h.red;have b2:T.length=u.length+1:=by rw[hT,BU];rfl
 have aZ:A.length=2^u.length+2^u.length:=by rw[hA,BL hx.mem,Bc]
 have b0:B.length=2^u.length+2^u.length:=by rw[hB,BL hy.mem,Bc]
 refine AH Tryz.func168 (by kernel_rfl) rfl fun E hE=>?_
 conv=>cbv
 rintro bd ⟨aS,f14⟩;conv=>cbv
 intro aw L;conv=>cbv
 cases aw <;> conv=>cbv
 ·have ab:=Au L;rintro bf ⟨aT,f25⟩;conv=>cbv
  intro bg aW;conv=>cbv
  refine g2 ⟨by omega,by omega,i64 (by omega)⟩ ?_;rintro bh ⟨aU,f29⟩;conv=>cbv
  intro bj aX;conv=>cbv
  refine g1 (by omega) ?_;intro b6 aJ;conv=>cbv
  refine g2 (by omega) ?_;intro ag aD;conv=>cbv
  intro al P;conv=>cbv
  rintro bk ⟨aV,f34⟩;conv=>cbv
  intro ax aY;conv=>cbv
  refine g1 (by omega) ?_;obtain⟨az,aa⟩:=AG (l:=T) (i:=(T.length-1)) (by omega);refine⟨az,fun _=>⟨by omega,by rw[show (ax).toNat=(T.length-1) by omega];exact aa⟩,?_⟩;try conv=>cbv
  refine g2 rfl ?_;intro b7 a5;conv=>cbv
  refine g2 (by omega) ?_;rintro ad aP ⟨aA,M⟩;conv=>cbv
  intro an Q;conv=>cbv
  have w:an=em u q:=by rw[Q,show ad=A.length/2 by omega,M,a5,List.take_length,hA,Bo h.red K.mem I.mem j]
  refine cL hE (G0 h.tail.red I.mem w h0) t1 ?_;try conv=>cbv
  intro b8 a6;conv=>cbv
  refine g2 (by omega) ?_;rintro ae aQ ⟨aB,N⟩;conv=>cbv
  intro ao S;conv=>cbv
  have z:ao=em u b:=by rw[S,show ae=B.length/2 by omega,N,a6,List.take_length,hB,Bo h.red ha.mem hb.mem k]
  refine cL hE (GY h.tail.red hb.mem z h1) t1 ?_;try conv=>cbv
  refine g2 rfl ?_;intro b9 aK;conv=>cbv
  refine g2 (by omega) ?_;intro ah aE;conv=>cbv
  intro aq U;conv=>cbv
  intro ba aL;conv=>cbv
  refine g2 (by omega) ?_;intro ai aF;conv=>cbv
  intro ar V;conv=>cbv
  have c:al=tw u:=by rw[P,List.drop_zero,show ag=T.length-1 by omega,hT,DA]
  have D:aq=em u p:=by rw[U,List.drop_zero,show ah=A.length/2 by omega,hA,B9 h.red K.mem I.mem j]
  have F:ar=em u a:=by rw[V,List.drop_zero,show ai=B.length/2 by omega,hB,B9 h.red ha.mem hb.mem k]
  obtain⟨m,d⟩:=xR (em u (p*a));obtain⟨aO,f⟩:=xN m.length;refine cL hE (ih c D F K ha (by omega) d f) t3 ?_;try conv=>cbv
  refine g2 rfl ?_;intro bb a7;conv=>cbv
  refine g2 (by omega) ?_;rintro af aR ⟨aC,O⟩;conv=>cbv
  intro au W;conv=>cbv
  intro bc aM;conv=>cbv
  refine g2 (by omega) ?_;intro aj aG;conv=>cbv
  intro av a1;conv=>cbv
  have G:au=em u q:=by rw[W,show af=A.length/2 by omega,O,a7,List.take_length,hA,Bo h.red K.mem I.mem j]
  have H:av=em u a:=by rw[a1,List.drop_zero,show aj=B.length/2 by omega,hB,B9 h.red ha.mem hb.mem k]
  obtain⟨n,g⟩:=xR (em u (q*a));refine cL hE (Cl (ih c G H I ha (by omega) g rfl)) t3 ?_;try conv=>cbv
  have aH:m.length=2^u.length:=by rw[d,BL (K.mul h.tail ha).mem]
  have aN:=Cq h.tail.ht;have aI:n.length=2^u.length:=by rw[g,BL (I.mul h.tail ha).mem]
  refine .inl ⟨n,fun _=>⟨rfl,f,rfl,by show (m.length+n.length)*64<=140737488355328;(try simp only[List.length_take,List.length_drop]);omega⟩,?_⟩;intro (J:LR) ay v;have a2:J=(m:LR)++(n:LR):=v.1;have a8:ay=List.length (α:=(el AA)) J:=v.2;conv=>cbv
  refine g2 rfl ?_;have o:C=J:=by rw[hC,a2,d,g];exact EA h.red (K.mul h.tail ha).mem (I.mul h.tail ha).mem (by rw[j,k,h1];clear ih;grind)
  exact fA ⟨⟨rfl,.inr (.inl ⟨_,_,by decide,rfl,rfl,a8,rfl,C2 (o) (by rw[ak,o])⟩),trivial⟩,trivial⟩ rfl (by simp)
 have ab:=Av L;exact absurd ab (by omega)
theorem YD (h:Al R (r::u)) (ih:Jd R u) (hT:T=tw (r::u)) (hA:A=em (r::u) x) (hB:B=em (r::u) y) (hx:El (r::u) s x) (hy:El (r::u) t y) (bQ:s+t+EE (r::u).length R<=60000000000000) (k:x=p+q*rt u r) (j:El u s p) (d:El u s q) (m:y=a+b*rt u r) (ha:El u t a) (hb:El u t b) (h0:q≠0) (h1:b≠0) (hC:C=em (r::u) (x*y)) (b1:zn=C.length):CF 168 [.one (.sl (.sl AA) T),.one (.sl AA A),.one (.sl AA B)] (.one (.own AA C zn)):=by
 have bN:EE (r::u).length R=2*EE u.length R+R+2:=rfl;have L:=El.Ca h;have hR:=h.hR;have bP:=CO h.red;have bO:T.length=u.length+1:=by rw[hT,BU];rfl
 have bL:A.length=2^u.length+2^u.length:=by rw[hA,BL hx.mem,Bc]
 have bM:B.length=2^u.length+2^u.length:=by rw[hB,BL hy.mem,Bc]
 refine AH Tryz.func168 (by kernel_rfl) rfl fun E G=>?_
 conv=>cbv
 rintro bY ⟨bE,f14⟩;conv=>cbv
 intro b9 an;conv=>cbv
 cases b9 <;> conv=>cbv
 ·have aG:=Au an;rintro bZ ⟨bF,f25⟩;conv=>cbv
  intro c0 bI;conv=>cbv
  refine g2 ⟨by omega,by omega,i64 (by omega)⟩ ?_;rintro c1 ⟨bG,f29⟩;conv=>cbv
  intro c2 bJ;conv=>cbv
  refine g1 (by omega) ?_;intro bR bn;conv=>cbv
  refine g2 (by omega) ?_;intro aR bj;conv=>cbv
  intro b2 av;conv=>cbv
  rintro c3 ⟨bH,f34⟩;conv=>cbv
  intro ba bK;conv=>cbv
  refine g1 (by omega) ?_;obtain⟨aM,z⟩:=AG (l:=T) (i:=(T.length-1)) (by omega);refine⟨aM,fun _=>⟨by omega,by rw[show (ba).toNat=(T.length-1) by omega];exact z⟩,?_⟩;try conv=>cbv
  refine g2 rfl ?_;intro bS aC;conv=>cbv
  refine g2 (by omega) ?_;rintro aN bA ⟨bd,ao⟩;conv=>cbv
  intro b3 aw;conv=>cbv
  have a6:b3=em u q:=by rw[aw,show aN=A.length/2 by omega,ao,aC,List.take_length,hA,Bo h.red j.mem d.mem k]
  refine cL G (G0 h.tail.red d.mem a6 h0) t1 ?_;try conv=>cbv
  intro bT aD;conv=>cbv
  refine g2 (by omega) ?_;rintro aO bB ⟨bf,aq⟩;conv=>cbv
  intro b4 ax;conv=>cbv
  have a7:b4=em u b:=by rw[ax,show aO=B.length/2 by omega,aq,aD,List.take_length,hB,Bo h.red ha.mem hb.mem m]
  refine cL G (G0 h.tail.red hb.mem a7 h1) t1 ?_;try conv=>cbv
  refine g2 rfl ?_;intro bU bo;conv=>cbv
  refine g2 (by omega) ?_;intro aS bk;conv=>cbv
  intro b5 ay;conv=>cbv
  intro bV bp;conv=>cbv
  refine g2 (by omega) ?_;intro aT bl;conv=>cbv
  intro b6 az;conv=>cbv
  have c:b2=tw u:=by rw[av,List.drop_zero,show aR=T.length-1 by omega,hT,DA]
  have a8:b5=em u p:=by rw[ay,List.drop_zero,show aS=A.length/2 by omega,hA,B9 h.red j.mem d.mem k]
  have aa:b6=em u a:=by rw[az,List.drop_zero,show aT=B.length/2 by omega,hB,B9 h.red ha.mem hb.mem m]
  obtain⟨c4,O⟩:=xR (em u (p*a));refine cL G (Cl (ih c a8 aa j ha (by omega) O rfl)) t3 ?_;try conv=>cbv
  refine g2 rfl ?_;intro bW aE;conv=>cbv
  refine g2 (by omega) ?_;rintro aP bC ⟨bg,ar⟩;conv=>cbv
  intro b7 aA;conv=>cbv
  intro bX aF;conv=>cbv
  refine g2 (by omega) ?_;rintro aQ bD ⟨bh,au⟩;conv=>cbv
  intro b8 aB;conv=>cbv
  have ab:b7=em u q:=by rw[aA,show aP=A.length/2 by omega,ar,aE,List.take_length,hA,Bo h.red j.mem d.mem k]
  have ad:b8=em u b:=by rw[aB,show aQ=B.length/2 by omega,au,aF,List.take_length,hB,Bo h.red ha.mem hb.mem m]
  obtain⟨c5,P⟩:=xR (em u (q*b));refine cL G (Cl (ih c ab ad d hb (by omega) P rfl)) t3 ?_;try conv=>cbv
  have ah:aM=em u (AN u r):=by rw[hT,ES] at z;exact (Option.some.inj z).symm.trans (DU h.red)
  obtain⟨c6,Q⟩:=xR (em u (q*b*AN u r));refine cL G (Cl (ih c P ah (d.mul h.tail hb) L (by omega) Q rfl)) t3 ?_;try conv=>cbv
  obtain⟨M,v⟩:=xR (em u (p*a+q*b*AN u r));obtain⟨bz,w⟩:=xN M.length;refine cL G (Qy h.tail O Q (j.mul h.tail ha) ((d.mul h.tail hb).mul h.tail L) (by omega) (by omega) v w) t3 ?_;try conv=>cbv
  refine g2 rfl ?_;intro br aZ;conv=>cbv
  refine g2 (by omega) ?_;intro ak aW;conv=>cbv
  intro aH V;conv=>cbv
  intro bs ae;conv=>cbv
  refine g2 (by omega) ?_;rintro ai bb ⟨aU,S⟩;conv=>cbv
  intro aI W;conv=>cbv
  have H:aH=em u p:=by rw[V,List.drop_zero,show ak=A.length/2 by omega,hA,B9 h.red j.mem d.mem k]
  have I:aI=em u b:=by rw[W,show ai=B.length/2 by omega,S,ae,List.take_length,hB,Bo h.red ha.mem hb.mem m]
  obtain⟨bw,n⟩:=xR (em u (p*b));refine cL G (Cl (ih c H I j hb (by omega) n rfl)) t3 ?_;try conv=>cbv
  intro bt af;conv=>cbv
  refine g2 (by omega) ?_;rintro aj bc ⟨aV,U⟩;conv=>cbv
  intro aJ a1;conv=>cbv
  intro bu b0;conv=>cbv
  refine g2 (by omega) ?_;intro al aX;conv=>cbv
  intro aK a2;conv=>cbv
  have J:aJ=em u q:=by rw[a1,show aj=A.length/2 by omega,U,af,List.take_length,hA,Bo h.red j.mem d.mem k]
  have K:aK=em u a:=by rw[a2,List.drop_zero,show al=B.length/2 by omega,hB,B9 h.red ha.mem hb.mem m]
  obtain⟨bx,o⟩:=xR (em u (q*a));refine cL G (Cl (ih c J K d ha (by omega) o rfl)) t3 ?_;try conv=>cbv
  obtain⟨g,f⟩:=xR (em u (p*b+q*a));refine cL G (Hl h.tail n o (j.mul h.tail hb) (d.mul h.tail ha) (by omega) (by omega) f) t3 ?_;try conv=>cbv
  have bm:M.length=2^u.length:=by rw[v,BL (Cp (j.mul h.tail ha).mem ((d.mul h.tail hb).mul h.tail L).mem)]
  have aY:g.length=2^u.length:=by rw[f,BL (Cp (j.mul h.tail hb).mem (d.mul h.tail ha).mem)]
  have bq:=Cq h.tail.ht;refine .inl ⟨g,fun _=>⟨rfl,w,rfl,by show (M.length+g.length)*64<=140737488355328;(try simp only[List.length_take,List.length_drop]);omega⟩,?_⟩;intro (D:LR) aL F;have a5:D=(M:LR)++(g:LR):=F.1;have ag:aL=List.length (α:=(el AA)) D:=F.2;conv=>cbv
  refine g2 rfl ?_;have N:C=D:=by rw[hC,a5,v,f];exact EA h.red (Cp (j.mul h.tail ha).mem ((d.mul h.tail hb).mul h.tail L).mem) (Cp (j.mul h.tail hb).mem (d.mul h.tail ha).mem) (by rw[k,m];clear ih;grind)
  exact fA ⟨⟨rfl,.inr (.inl ⟨_,_,by decide,rfl,rfl,ag,rfl,C2 (N) (by rw[b1,N])⟩),trivial⟩,trivial⟩ rfl (by simp)
 have aG:=Av an;exact absurd aG (by omega)
theorem Wf (h:Al R u):Jd R u:=by
 induction u with
 | nil=>
  intro T A B C zn s t x y v k l i j d m c;obtain⟨p,rfl⟩:=CI.1 i.mem;obtain⟨q,rfl⟩:=CI.1 j.mem;rw[DT] at k l;rw[<-Re.ofRat_mul,DT] at m;have n:=i.Bh (by omega);have o:=j.Bh (by omega);rw[Co] at n o;exact YC v k l (n _ List.mem_cons_self) (o _ List.mem_cons_self) m c
 | cons r u D=>
  intro T A B C zn s t x y v k l i j d m c;obtain⟨p,q,f,n,o⟩:=El.parts h.red i;obtain⟨a,b,g,ha,hb⟩:=El.parts h.red j
  by_cases z:q=0
  ·by_cases w:b=0
   ·exact YG h (D h.tail) v k l i j d f n o g ha hb z w m c
   exact YF h (D h.tail) v k l i j d f n o g ha hb z w m c
  by_cases w:b=0
  ·exact YE h (D h.tail) v k l i j d f n o g ha hb z w m c
  exact YD h (D h.tail) v k l i j d f n o g ha hb z w m c
theorem DM (h:Al R u) (i:T=tw u) (d:A=em u x) (f:B=em u y) (j:El u s x) (k:El u t y) (c:s+t+EE u.length R<=60000000000000) (g:C=em u (x*y)):
 CF 168 [.one (.sl (.sl AA) T),.one (.sl AA A),.one (.sl AA B)] (.one (.sl AA C)):=Cl (Wf h i d f j k c g rfl)
end Go.Abs
namespace Go.Abs
open Go.RowKit Go.Shelf Go.Proofs
def Lv:Ren:=⟨fun k=>if k=4 then 353 else 0,fun k=>if k=3 then 3 else if k=4 then 4 else if k=9 then 9 else if k=20 then 20 else if k=22 then 32 else if k=25 then 123 else 0,fun k=>k⟩
theorem aB:Lays8.n4 Tryz.prog Lv where
 mixed:=I6
 f4:=⟨Tryz.f353.name,by kernel_rfl,by kernel_rfl⟩
 t0:=by kernel_rfl
 a0:=by intro w;kernel_rfl
 z0:=by intro w;kernel_rfl
 v0:=by intro w;kernel_rfl
 t3:=by kernel_rfl
 a3:=by intro w;kernel_rfl
 z3:=by intro w;kernel_rfl
 v3:=by intro w;kernel_rfl
 t4:=by kernel_rfl
 a4:=by intro w;kernel_rfl
 z4:=by intro w;kernel_rfl
 v4:=by intro w;kernel_rfl
 t9:=by kernel_rfl
 a9:=by intro w;kernel_rfl
 z9:=by intro w;kernel_rfl
 v9:=by intro w;kernel_rfl
 t20:=by kernel_rfl
 a20:=by intro w;kernel_rfl
 z20:=by intro w;kernel_rfl
 v20:=by intro w;kernel_rfl
 t22:=by kernel_rfl
 a22:=by intro w;kernel_rfl
 z22:=by intro w;kernel_rfl
 v22:=by intro w;kernel_rfl
theorem Ww {n:Int} {k:Nat} (M:AS n k) (L:0<k) (Q:k<=1000000):CF 353 [.one .nil,.one (.int .i64 n)] (.one (.own AA [] 0)):=by
 refine⟨⟨_,_,Tryz.func353,by kernel_rfl,rfl⟩,⟨rfl,rfl⟩,?_⟩;intro w I vs P f
 match vs,f with
 | [v1,v2],⟨D,F,_⟩=>
  have m:v1= .slice none 0 0:=by rcases D with h | h;cases h;exact h
  have v:v2= .int .i64 k:=by rcases F with h | h;cases h;rw[<-M.eq];exact h
  subst m;subst v;obtain⟨_,i0,z,d,N,hb,_,g,l⟩:=(Kk 32).sl rfl
  have j:z.cells.size=4:=by
   have:=(l (C7 w I)).length;rw[FV] at this;have e:(TI 32).elem.size=4:=rfl;rw[e] at this;simpa using this.symm
  have c:i0.bytes=64:=hb;have O:i0.size=4:=N;have H:=Any8.slices_Grow_grow aB i0 z d g (by omega) none 0 0 k [] w (by omega) (by omega) (by rw[c];omega) (by omega) (by simp) (fun _=>rfl) (fun a h=>by cases h);refine H.mono fun e w' ⟨he,hw⟩=>?_
  have J:=grownCap_ge w (0+k) 0 (Lv.t 25);have hle:=grownCap_le_maxLen w (0+k) 0 (Lv.t 25) (by unfold maxLen;omega)
  generalize grownCap w (0+k) 0 (Lv.t 25)=G at*
  subst hw
  have K:∀o:Obj,(w.drew.alloc o).heap[w.heap.size]? =some o:=fun o=>by
   show (w.heap.push o)[w.heap.size]? =_
   rw[Array.getElem?_push,if_pos rfl]
  refine⟨_,some w.heap.size,he,((Below.refl _ _).drew).alloc (Nat.le_refl _) _,.inr ⟨rfl,_,_,rfl,Nat.zero_le _,hle,Nat.zero_le _,.inr ⟨_,_,_,rfl,Nat.le_refl _,rfl,K _,?_,fun i y h=>by simp at h⟩⟩⟩
  show G*4<=_
  simp[size_zeroCells,j];omega
end Go.Abs
namespace Go.Abs
open Go.RowKit
variable {Z x:LR} {zn:Nat}
theorem Sv {X:List LR} {i:Nat} (h:X[i]? =some x):(X.take (i+1)).flatten=(X.take i).flatten++x:=by
 rw[Bi h,List.flatten_append];simp
theorem Su {X:List LR} {i m:Nat} (h:X[i]? =some x) (hm:m=(X.take i).flatten.length):m+x.length=(X.take (i+1)).flatten.length:=by
 rw[Sv h,List.length_append,hm]
theorem Ss (X:List LR) (i:Nat):(X.take i).flatten.length<=X.flatten.length:=by
 conv=>rhs;rw[<-List.take_append_drop i X,List.flatten_append,List.length_append]
 omega
theorem QF {X:LR} (n:X.length<=1000000) (f:zn=X.length):CF 235 [.one (.sl AA X)] (.one (.own AA X zn)):=by
 refine AH Tryz.func235 (by kernel_rfl) rfl fun E m=>?_
 conv=>cbv
 intro n4 k;conv=>cbv
 refine⟨fun j=>?_,?_⟩
 ·conv=>cbv
  have c:X=[]:=by rw[k] at j;simpa using j
  exact fA ⟨⟨rfl,.inr (.inr ⟨_,C2 (c) (by rw[f,c];rfl)⟩),trivial⟩,trivial⟩ rfl (by simp)
 refine⟨[],fun _=>⟨rfl,by decide,rfl,trivial⟩,.inl ?_⟩;try conv=>cbv
 refine .inl ⟨X,fun _=>⟨rfl,by (first | rfl | omega),rfl,by show (0+X.length)*64<=140737488355328;(try simp only[List.length_take,List.length_drop]);omega⟩,?_⟩;intro (i:LR) l g;have d:i=([]:LR)++(X:LR):=g.1;have h:l=List.length (α:=(el AA)) i:=g.2;conv=>cbv
 exact fA ⟨⟨rfl,.inr (.inl ⟨_,_,by decide,rfl,rfl,by rw[h],rfl,C2 (by rw[d];simp) (by rw[f,d];simp)⟩),trivial⟩,trivial⟩ rfl (by simp)
theorem QE {X:LR} (c:X.length<=1000000):CF 235 [.one (.sl AA X)] (.one (.sl AA X)):=Cl (QF c rfl)
theorem Wr {X:List LR} (h0:0<X.flatten.length) (hX:X.flatten.length<=1000000) (hZ:Z=X.flatten) (a1:zn=Z.length):CF 324 [.one (.sl (.sl AA) X)] (.one (.own AA Z zn)):=by
 refine AH Tryz.func324 (by kernel_rfl) rfl fun E hE=>?_
 conv=>cbv
 intro a6 j;have ag:=j.eq;have f10:=j.le;conv=>cbv
 refine .inr ?_;obtain⟨J0,v⟩:=xJ fun vs S k=>∃(i' m':Nat) (m L i:Int),vs=[.one (.sl (.sl AA) X),.one (.int .i64 m),.one (.sl (.sl AA) X),.one (.int .i64 L),.one (.int .i64 i)]/\(Cb L X.length/\AS i i'/\i'<=X.length/\AS m m')/\m'=(X.take i').flatten.length/\k=X.length-i'
 refine⟨[0,3,9,10,11],[],J0,⟨X.length-0,by rw[v];exact⟨0,0,0,a6,0,rfl,⟨j,BC 0,by omega,BC 0⟩,rfl,rfl⟩⟩,?_⟩;intro vs S ar J;rw[v] at J;obtain⟨i',m',m,L,i,rfl,⟨H,V,W,hm⟩,hinv,ao⟩:=J;conv=>cbv
 have eL:=H.eq;have ei:=V.eq;have em:=hm.eq;intro a7 D;conv=>cbv
 cases a7 <;> conv=>cbv
 ·have a2:=Ad D;have an:m'=X.flatten.length:=by rw[hinv,show i'=X.length by omega,List.take_length]
  refine cL hE (Ww hm (by omega) (by omega)) ⟨.inl rfl,rfl,trivial⟩ ?_;try conv=>cbv
  intro ad n;have ai:=n.eq;have f26:=n.le;conv=>cbv
  refine .inr ?_;obtain⟨J1,w⟩:=xJ fun vs S k=>∃(i' mm:Nat) (o:LR) (L i:Int),vs=[.one (.AT AA 24 0 0 mm),.one (.sl (.sl AA) X),.one (.int .i64 L),.one (.int .i64 i)]/\S=[.arr 0 AA o]/\(Cb L X.length/\AS i i'/\i'<=X.length/\mm=o.length)/\o=(X.take i').flatten/\k=X.length-i'
  refine⟨[6,25,26,27],[24],J1,⟨X.length-0,by rw[w];exact⟨0,0,[],ad,0,rfl,rfl,⟨n,BC 0,by omega,rfl⟩,rfl,rfl⟩⟩,?_⟩;intro vs S au J;rw[w] at J;obtain⟨i',mm,o,L,i,rfl,rfl,⟨H,V,W,M⟩,hinv,aq⟩:=J;conv=>cbv
  have eL:=H.eq;have ei:=V.eq;intro ae G;conv=>cbv
  cases ae <;> conv=>cbv
  ·have a5:=Ad G;have f:Z=o:=by rw[hZ,hinv,show i'=X.length by omega,List.take_length]
   exact fA ⟨⟨rfl,.inr (.inl ⟨_,_,by decide,rfl,rfl,M,rfl,C2 (f) (by rw[a1,f])⟩),trivial⟩,trivial⟩ rfl (by simp)
  have a5:=Ae G;refine .inr ?_;obtain⟨d,c⟩:=AG (l:=X) (i:=i') (by omega);refine⟨d,fun _=>⟨by omega,by rw[show (i).toNat=i' by omega];exact c⟩,?_⟩;try conv=>cbv
  have I:=Su c (congrArg _ hinv);have U:=Ss X (i'+1);refine .inl ⟨d,fun _=>⟨rfl,M,rfl,by show (o.length+d.length)*64<=140737488355328;(try simp only[List.length_take,List.length_drop]);omega⟩,?_⟩;intro (z:LR) P h;have K:z=(o:LR)++(d:LR):=h.1;have N:P=List.length (α:=(el AA)) z:=h.2;conv=>cbv
  intro af al;conv=>cbv
  refine g1 (by omega) ?_;refine⟨X.length-(i'+1),?_,?_⟩
  ·omega
  rw[w];exact⟨i'+1,P,z,L,af,rfl,rfl,⟨H,⟨by omega⟩,by omega,by rw[N]⟩,by rw[K,hinv,Sv c],rfl⟩
 have a2:=Ae D;refine .inr ?_;obtain⟨Q,g⟩:=AG (l:=X) (i:=i') (by omega);refine⟨Q,fun _=>⟨by omega,by rw[show (i).toNat=i' by omega];exact g⟩,?_⟩;try conv=>cbv
 rintro av ⟨ah,f17⟩;conv=>cbv
 have I:=Su g hinv;have U:=Ss X (i'+1);intro a8 aj;conv=>cbv
 refine g1 (by omega) ?_;intro aa F;conv=>cbv
 refine .inr ?_;cases aa <;> conv=>cbv
 ·have O:=Ad F;intro ab ak;conv=>cbv
  refine g1 (by omega) ?_;refine⟨X.length-(i'+1),?_,?_⟩
  ·omega
  rw[v];exact⟨i'+1,m'+Q.length,a8,L,ab,rfl,⟨H,⟨by omega⟩,by omega,⟨by omega⟩⟩,I,rfl⟩
 have O:=Ae F;exact absurd O (by omega)
theorem LZ {A B:LR} (d:0<A.length) (f:A.length+B.length<=1000000) (c:Z=A++B):CF 324 [.one (.sl (.sl AA) [A,B])] (.one (.sl AA Z)):=
 Cl (Wr (X:=[A,B]) (by simp;omega) (by simp;omega) (by simp[c]) rfl)
end Go.Abs
