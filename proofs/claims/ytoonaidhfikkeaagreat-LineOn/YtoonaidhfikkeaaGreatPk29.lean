/- Part 30 of a proof. Conditions: each theorem's own. -/
import Derived.Shelf.Spec.SlicesGrow
import Derived.Test.YtoonaidhfikkeaaGreatPk28
set_option linter.all false
set_option maxHeartbeats 8000000
open Go.Proofs
namespace Go.Abs
open Go.RowKit
variable {A B C X Y Z:LR} {R s t zn:Nat} {T:List LR} {a b p q x y:Re} {r:List Rat} {u:List (List Rat)}
theorem Fa (h:AQ u) (f:In u x) (d:X=em u x) (c:x=0):CF 145 [.one (.sl AA X)] (.one (.bool true)):=
 Oj d (decide_eq_true ((IQ h f).2 c)).symm
theorem F3 (h:AQ u) (f:In u x) (d:X=em u x) (c:x≠0):CF 145 [.one (.sl AA X)] (.one (.bool false)):=
 Oj d (decide_eq_false (fun k=>c ((IQ h f).1 k))).symm
theorem Ok (h:AU R u) (g:X=em u x) (i:Y=em u y) (c:El u s x) (d:El u t y) (k:s<=60000000000000) (ht:t<=60000000000000) (j:Z=em u (x+y)) (f:zn=Z.length):
  CF 147 [.one (.sl (.sl AA) T),.one (.sl AA X),.one (.sl AA Y)] (.one (.own AA Z zn)):=
 UY g i (c.BE k) (d.BE ht) (by rw[c.len,d.len]) (by rw[c.len];exact GP h.ht) (by rw[j,QE h.red c.mem d.mem]) f
theorem Ge (h:AU R u) (c:X=em u x) (d:Y=em u y) (i:El u s x) (j:El u t y) (g:s<=60000000000000) (ht:t<=60000000000000) (f:Z=em u (x+y)):
 CF 147 [.one (.sl (.sl AA) T),.one (.sl AA X),.one (.sl AA Y)] (.one (.sl AA Z)):=B8 (Ok h c d i j g ht f rfl)
theorem HB (h:AU R u) (d:X=em u x) (c:El u s x) (f:Z=em u (-x)):
  CF 94 [.one (.sl (.sl AA) T),.one (.sl AA X)] (.one (.sl AA Z)):=
 Uo d (by rw[c.len];exact GP h.ht) (by rw[f,QF h.red c.mem])
theorem JS (h:AU R u) (i:X=em u x) (j:Y=em u y) (m:El u s x) (g:El u t y) (l:s<=60000000000000) (ht:t<=60000000000000) (k:Z=em u (x-y)):CF 180 [.one (.sl (.sl AA) T),.one (.sl AA X),.one (.sl AA Y)] (.one (.sl AA Z)):=by
 refine AE Tryz.func180 (by kernel_rfl) rfl fun E f=>?_
 conv=>cbv
 obtain⟨n,c⟩:=xR (em u (-y));refine cL f (HB h j g c) t2 ?_;try conv=>cbv
 obtain⟨o,d⟩:=xR (em u (x+ -y));refine cL f (Ge h i c m (g.neg h.red) l ht d) t3 ?_;try conv=>cbv
 exact fA ⟨⟨rfl,congrArg _ (by rw[k,d,show x-y=x+ -y by grind]),trivial⟩,trivial⟩ rfl (by simp)
theorem VH {p q:Rat} (L:T=[]) (F:A=[rp p]) (G:B=[rp q]) (O:BK p) (ht:BK q) (H:C=[rp (p*q)]) (v:zn=C.length):CF 96 [.one (.sl (.sl AA) T),.one (.sl AA A),.one (.sl AA B)] (.one (.own AA C zn)):=by
 refine AE Tryz.func96 (by kernel_rfl) rfl fun E K=>?_
 conv=>cbv
 rintro P ⟨o,f14⟩;conv=>cbv
 intro w g;conv=>cbv
 cases w <;> conv=>cbv
 ·have h:=Ab g;exact absurd (by rw[o,L];rfl) h
 have h:=Ad g;have I:A.length=1:=by rw[F];rfl
 have J:B.length=1:=by rw[G];rfl
 obtain⟨z,c⟩:=AG (l:=A) (i:=0) (by omega);refine⟨z,fun _=>⟨by omega,c⟩,?_⟩;try conv=>cbv
 obtain⟨D,d⟩:=AG (l:=B) (i:=0) (by omega);refine⟨D,fun _=>⟨by omega,d⟩,?_⟩;try conv=>cbv
 have M:=C8 F c;have N:=C8 G d;obtain⟨m,n,j,k,f⟩:=BD (p*q);refine cL K (Us M N O ht rfl f) ⟨t4,t4,trivial⟩ ?_;try conv=>cbv
 refine⟨[((m,n),(j,k))],fun _=>⟨rfl,by decide,rfl,⟨rfl,by first | exact t1 | exact t2 | exact t4 | simp[Ac,Ak,cells],trivial⟩⟩,.inl ?_⟩;try conv=>cbv
 refine g2 rfl ?_;exact fA ⟨⟨rfl,.inr (.inl ⟨_,_,by decide,rfl,rfl,rfl,rfl,CM (by rw[H,f.rp]) (by rw[v,H];rfl)⟩),trivial⟩,trivial⟩ rfl (by simp)
def IA (R:Nat) (u:List (List Rat)):Prop:=∀{T:List LR} {A B C:LR} {zn s t:Nat} {x y:Re},T=tw u->A=em u x->B=em u y->El u s x->El u t y->s+t+EE u.length R<=60000000000000->C=em u (x*y)->zn=C.length->
 CF 96 [.one (.sl (.sl AA) T),.one (.sl AA A),.one (.sl AA B)] (.one (.own AA C zn))
theorem VL (h:AU R (r::u)) (ih:IA R u) (hT:T=tw (r::u)) (hA:A=em (r::u) x) (hB:B=em (r::u) y) (hx:El (r::u) s x) (hy:El (r::u) t y) (aW:s+t+EE (r::u).length R<=60000000000000) (F:x=p+q*rt u r) (hp:El u s p) (hq:El u s q) (G:y=a+b*rt u r) (K:El u t a) (hb:El u t b) (h0:q=0) (h1:b=0) (hC:C=em (r::u) (x*y)) (ad:zn=C.length):CF 96 [.one (.sl (.sl AA) T),.one (.sl AA A),.one (.sl AA B)] (.one (.own AA C zn)):=by
 have aS:EE (r::u).length R=2*EE u.length R+R+2:=rfl;have aU:=El.Bz h;have hR:=h.hR;have aV:=Bg h.red;have aT:T.length=u.length+1:=by rw[hT,Ay];rfl
 have aQ:A.length=2^u.length+2^u.length:=by rw[hA,Ao hx.mem,BI]
 have aR:B.length=2^u.length+2^u.length:=by rw[hB,Ao hy.mem,BI]
 refine AE Tryz.func96 (by kernel_rfl) rfl fun E J=>?_
 conv=>cbv
 rintro b2 ⟨aJ,f14⟩;conv=>cbv
 intro aj I;conv=>cbv
 cases aj <;> conv=>cbv
 ·have a5:=Ab I;rintro b3 ⟨aK,f25⟩;conv=>cbv
  intro b4 aN;conv=>cbv
  refine g2 ⟨by omega,by omega,i64 (by omega)⟩ ?_;rintro b5 ⟨aL,f29⟩;conv=>cbv
  intro b6 aO;conv=>cbv
  refine g1 (by omega) ?_;intro aX ay;conv=>cbv
  refine g2 (by omega) ?_;intro a8 ar;conv=>cbv
  intro ae N;conv=>cbv
  rintro b7 ⟨aM,f34⟩;conv=>cbv
  intro ak aP;conv=>cbv
  refine g1 (by omega) ?_;obtain⟨an,a2⟩:=AG (l:=T) (i:=(T.length-1)) (by omega);refine⟨an,fun _=>⟨by omega,by rw[show (ak).toNat=(T.length-1) by omega];exact a2⟩,?_⟩;try conv=>cbv
  refine g2 rfl ?_;intro aY V;conv=>cbv
  refine g2 (by omega) ?_;rintro a6 aH ⟨ao,L⟩;conv=>cbv
  intro af O;conv=>cbv
  have v:af=em u q:=by rw[O,show a6=A.length/2 by omega,L,V,List.take_length,hA,BO h.red hp.mem hq.mem F]
  refine cL J (Fa h.tail.red hq.mem v h0) t1 ?_;try conv=>cbv
  intro aZ W;conv=>cbv
  refine g2 (by omega) ?_;rintro a7 aI ⟨aq,M⟩;conv=>cbv
  intro ag P;conv=>cbv
  have w:ag=em u b:=by rw[P,show a7=B.length/2 by omega,M,W,List.take_length,hB,BO h.red K.mem hb.mem G]
  refine cL J (Fa h.tail.red hb.mem w h1) t1 ?_;try conv=>cbv
  refine g2 rfl ?_;intro b0 az;conv=>cbv
  refine g2 (by omega) ?_;intro aa au;conv=>cbv
  intro ah Q;conv=>cbv
  intro b1 aA;conv=>cbv
  refine g2 (by omega) ?_;intro ab av;conv=>cbv
  intro ai S;conv=>cbv
  have c:ae=tw u:=by rw[N,List.drop_zero,show a8=T.length-1 by omega,hT,CV]
  have z:ah=em u p:=by rw[Q,List.drop_zero,show aa=A.length/2 by omega,hA,Bb h.red hp.mem hq.mem F]
  have D:ai=em u a:=by rw[S,List.drop_zero,show ab=B.length/2 by omega,hB,Bb h.red K.mem hb.mem G]
  obtain⟨k,d⟩:=xR (em u (p*a));obtain⟨aC,f⟩:=xN k.length;refine cL J (ih c z D hp K (by omega) d f) t3 ?_;try conv=>cbv
  refine g2 rfl ?_;obtain⟨aF,aG,aD,aE,n⟩:=BD (((0:Int):Rat));refine cL J (DI (by omega) rfl n) t1 ?_;try conv=>cbv
  obtain⟨j,g⟩:=xR (em u (0));refine cL (r:= .one (.sl AA j)) J (EJ h.tail c n (by rw[show Re.ofRat ((0:Int):Rat)=0 from rfl];exact g)) ⟨rfl,t4,trivial⟩ ?_;try conv=>cbv
  have aw:k.length=2^u.length:=by rw[d,Ao (hp.mul h.tail K).mem]
  have aB:=CA h.tail.ht;have ax:j.length=2^u.length:=by rw[g,Ao (BP u)]
  refine .inl ⟨j,fun _=>⟨rfl,f,rfl,by show (k.length+j.length)*64<=140737488355328;(try simp only[List.length_take,List.length_drop]);omega⟩,?_⟩;intro (H:LR) al o;have U:H=(k:LR)++(j:LR):=o.1;have a1:al=List.length (α:=(el AA)) H:=o.2;conv=>cbv
  have m:C=H:=by rw[hC,U,d,g];exact DL h.red (hp.mul h.tail K).mem (BP u) (by rw[F,G,h0,h1];clear ih;grind)
  exact fA ⟨⟨rfl,.inr (.inl ⟨_,_,by decide,rfl,rfl,a1,rfl,CM (m) (by rw[ad,m])⟩),trivial⟩,trivial⟩ rfl (by simp)
 have a5:=Ad I;exact absurd a5 (by omega)
theorem VK (h:AU R (r::u)) (ih:IA R u) (hT:T=tw (r::u)) (hA:A=em (r::u) x) (hB:B=em (r::u) y) (hx:El (r::u) s x) (hy:El (r::u) t y) (b5:s+t+EE (r::u).length R<=60000000000000) (k:x=p+q*rt u r) (j:El u s p) (hq:El u s q) (m:y=a+b*rt u r) (K:El u t a) (hb:El u t b) (h0:q=0) (h1:b≠0) (hC:C=em (r::u) (x*y)) (ak:zn=C.length):CF 96 [.one (.sl (.sl AA) T),.one (.sl AA A),.one (.sl AA B)] (.one (.own AA C zn)):=by
 have b1:EE (r::u).length R=2*EE u.length R+R+2:=rfl;have b3:=El.Bz h;have hR:=h.hR;have b4:=Bg h.red;have b2:T.length=u.length+1:=by rw[hT,Ay];rfl
 have aZ:A.length=2^u.length+2^u.length:=by rw[hA,Ao hx.mem,BI]
 have b0:B.length=2^u.length+2^u.length:=by rw[hB,Ao hy.mem,BI]
 refine AE Tryz.func96 (by kernel_rfl) rfl fun E hE=>?_
 conv=>cbv
 rintro bd ⟨aS,f14⟩;conv=>cbv
 intro aw L;conv=>cbv
 cases aw <;> conv=>cbv
 ·have ab:=Ab L;rintro bf ⟨aT,f25⟩;conv=>cbv
  intro bg aW;conv=>cbv
  refine g2 ⟨by omega,by omega,i64 (by omega)⟩ ?_;rintro bh ⟨aU,f29⟩;conv=>cbv
  intro bj aX;conv=>cbv
  refine g1 (by omega) ?_;intro b6 aJ;conv=>cbv
  refine g2 (by omega) ?_;intro ag aD;conv=>cbv
  intro al P;conv=>cbv
  rintro bk ⟨aV,f34⟩;conv=>cbv
  intro ax aY;conv=>cbv
  refine g1 (by omega) ?_;obtain⟨az,aa⟩:=AG (l:=T) (i:=(T.length-1)) (by omega);refine⟨az,fun _=>⟨by omega,by rw[show (ax).toNat=(T.length-1) by omega];exact aa⟩,?_⟩;try conv=>cbv
  refine g2 rfl ?_;intro b7 a5;conv=>cbv
  refine g2 (by omega) ?_;rintro ad aP ⟨aA,M⟩;conv=>cbv
  intro an Q;conv=>cbv
  have z:an=em u q:=by rw[Q,show ad=A.length/2 by omega,M,a5,List.take_length,hA,BO h.red j.mem hq.mem k]
  refine cL hE (Fa h.tail.red hq.mem z h0) t1 ?_;try conv=>cbv
  intro b8 a6;conv=>cbv
  refine g2 (by omega) ?_;rintro ae aQ ⟨aB,N⟩;conv=>cbv
  intro ao S;conv=>cbv
  have D:ao=em u b:=by rw[S,show ae=B.length/2 by omega,N,a6,List.take_length,hB,BO h.red K.mem hb.mem m]
  refine cL hE (F3 h.tail.red hb.mem D h1) t1 ?_;try conv=>cbv
  refine g2 rfl ?_;intro b9 aK;conv=>cbv
  refine g2 (by omega) ?_;intro ah aE;conv=>cbv
  intro aq U;conv=>cbv
  intro ba aL;conv=>cbv
  refine g2 (by omega) ?_;intro ai aF;conv=>cbv
  intro ar V;conv=>cbv
  have c:al=tw u:=by rw[P,List.drop_zero,show ag=T.length-1 by omega,hT,CV]
  have F:aq=em u p:=by rw[U,List.drop_zero,show ah=A.length/2 by omega,hA,Bb h.red j.mem hq.mem k]
  have G:ar=em u a:=by rw[V,List.drop_zero,show ai=B.length/2 by omega,hB,Bb h.red K.mem hb.mem m]
  obtain⟨n,d⟩:=xR (em u (p*a));obtain⟨aO,f⟩:=xN n.length;refine cL hE (ih c F G j K (by omega) d f) t3 ?_;try conv=>cbv
  refine g2 rfl ?_;intro bb aM;conv=>cbv
  refine g2 (by omega) ?_;intro aj aG;conv=>cbv
  intro au W;conv=>cbv
  intro bc a7;conv=>cbv
  refine g2 (by omega) ?_;rintro af aR ⟨aC,O⟩;conv=>cbv
  intro av a1;conv=>cbv
  have H:au=em u p:=by rw[W,List.drop_zero,show aj=A.length/2 by omega,hA,Bb h.red j.mem hq.mem k]
  have I:av=em u b:=by rw[a1,show af=B.length/2 by omega,O,a7,List.take_length,hB,BO h.red K.mem hb.mem m]
  obtain⟨o,g⟩:=xR (em u (p*b));refine cL hE (B8 (ih c H I j hb (by omega) g rfl)) t3 ?_;try conv=>cbv
  have aH:n.length=2^u.length:=by rw[d,Ao (j.mul h.tail K).mem]
  have aN:=CA h.tail.ht;have aI:o.length=2^u.length:=by rw[g,Ao (j.mul h.tail hb).mem]
  refine .inl ⟨o,fun _=>⟨rfl,f,rfl,by show (n.length+o.length)*64<=140737488355328;(try simp only[List.length_take,List.length_drop]);omega⟩,?_⟩;intro (J:LR) ay w;have a2:J=(n:LR)++(o:LR):=w.1;have a8:ay=List.length (α:=(el AA)) J:=w.2;conv=>cbv
  refine g2 rfl ?_;have v:C=J:=by rw[hC,a2,d,g];exact DL h.red (j.mul h.tail K).mem (j.mul h.tail hb).mem (by rw[k,m,h0];clear ih;grind)
  exact fA ⟨⟨rfl,.inr (.inl ⟨_,_,by decide,rfl,rfl,a8,rfl,CM (v) (by rw[ak,v])⟩),trivial⟩,trivial⟩ rfl (by simp)
 have ab:=Ad L;exact absurd ab (by omega)
theorem VJ (h:AU R (r::u)) (ih:IA R u) (hT:T=tw (r::u)) (hA:A=em (r::u) x) (hB:B=em (r::u) y) (hx:El (r::u) s x) (hy:El (r::u) t y) (b6:s+t+EE (r::u).length R<=60000000000000) (k:x=p+q*rt u r) (L:El u s p) (J:El u s q) (m:y=a+b*rt u r) (j:El u t a) (hb:El u t b) (h0:q≠0) (h1:b=0) (hC:C=em (r::u) (x*y)) (al:zn=C.length):CF 96 [.one (.sl (.sl AA) T),.one (.sl AA A),.one (.sl AA B)] (.one (.own AA C zn)):=by
 have b2:EE (r::u).length R=2*EE u.length R+R+2:=rfl;have b4:=El.Bz h;have hR:=h.hR;have b5:=Bg h.red;have b3:T.length=u.length+1:=by rw[hT,Ay];rfl
 have b0:A.length=2^u.length+2^u.length:=by rw[hA,Ao hx.mem,BI]
 have b1:B.length=2^u.length+2^u.length:=by rw[hB,Ao hy.mem,BI]
 refine AE Tryz.func96 (by kernel_rfl) rfl fun E hE=>?_
 conv=>cbv
 rintro bf ⟨aT,f14⟩;conv=>cbv
 intro ax M;conv=>cbv
 cases ax <;> conv=>cbv
 ·have ad:=Ab M;rintro bg ⟨aU,f25⟩;conv=>cbv
  intro bh aX;conv=>cbv
  refine g2 ⟨by omega,by omega,i64 (by omega)⟩ ?_;rintro bj ⟨aV,f29⟩;conv=>cbv
  intro bk aY;conv=>cbv
  refine g1 (by omega) ?_;intro b7 aK;conv=>cbv
  refine g2 (by omega) ?_;intro ah aE;conv=>cbv
  intro an Q;conv=>cbv
  rintro bl ⟨aW,f34⟩;conv=>cbv
  intro ay aZ;conv=>cbv
  refine g1 (by omega) ?_;obtain⟨aA,ab⟩:=AG (l:=T) (i:=(T.length-1)) (by omega);refine⟨aA,fun _=>⟨by omega,by rw[show (ay).toNat=(T.length-1) by omega];exact ab⟩,?_⟩;try conv=>cbv
  refine g2 rfl ?_;intro b8 a6;conv=>cbv
  refine g2 (by omega) ?_;rintro ae aQ ⟨aB,N⟩;conv=>cbv
  intro ao S;conv=>cbv
  have z:ao=em u q:=by rw[S,show ae=A.length/2 by omega,N,a6,List.take_length,hA,BO h.red L.mem J.mem k]
  refine cL hE (F3 h.tail.red J.mem z h0) t1 ?_;try conv=>cbv
  intro b9 a7;conv=>cbv
  refine g2 (by omega) ?_;rintro af aR ⟨aC,O⟩;conv=>cbv
  intro aq U;conv=>cbv
  have D:aq=em u b:=by rw[U,show af=B.length/2 by omega,O,a7,List.take_length,hB,BO h.red j.mem hb.mem m]
  refine cL hE (Fa h.tail.red hb.mem D h1) t1 ?_;try conv=>cbv
  refine g2 rfl ?_;intro ba aL;conv=>cbv
  refine g2 (by omega) ?_;intro ai aF;conv=>cbv
  intro ar V;conv=>cbv
  intro bb aM;conv=>cbv
  refine g2 (by omega) ?_;intro aj aG;conv=>cbv
  intro au W;conv=>cbv
  have c:an=tw u:=by rw[Q,List.drop_zero,show ah=T.length-1 by omega,hT,CV]
  have F:ar=em u p:=by rw[V,List.drop_zero,show ai=A.length/2 by omega,hA,Bb h.red L.mem J.mem k]
  have G:au=em u a:=by rw[W,List.drop_zero,show aj=B.length/2 by omega,hB,Bb h.red j.mem hb.mem m]
  obtain⟨n,d⟩:=xR (em u (p*a));obtain⟨aP,f⟩:=xN n.length;refine cL hE (ih c F G L j (by omega) d f) t3 ?_;try conv=>cbv
  refine g2 rfl ?_;intro bc a8;conv=>cbv
  refine g2 (by omega) ?_;rintro ag aS ⟨aD,P⟩;conv=>cbv
  intro av a1;conv=>cbv
  intro bd aN;conv=>cbv
  refine g2 (by omega) ?_;intro ak aH;conv=>cbv
  intro aw a2;conv=>cbv
  have H:av=em u q:=by rw[a1,show ag=A.length/2 by omega,P,a8,List.take_length,hA,BO h.red L.mem J.mem k]
  have I:aw=em u a:=by rw[a2,List.drop_zero,show ak=B.length/2 by omega,hB,Bb h.red j.mem hb.mem m]
  obtain⟨o,g⟩:=xR (em u (q*a));refine cL hE (B8 (ih c H I J j (by omega) g rfl)) t3 ?_;try conv=>cbv
  have aI:n.length=2^u.length:=by rw[d,Ao (L.mul h.tail j).mem]
  have aO:=CA h.tail.ht;have aJ:o.length=2^u.length:=by rw[g,Ao (J.mul h.tail j).mem]
  refine .inl ⟨o,fun _=>⟨rfl,f,rfl,by show (n.length+o.length)*64<=140737488355328;(try simp only[List.length_take,List.length_drop]);omega⟩,?_⟩;intro (K:LR) az w;have a5:K=(n:LR)++(o:LR):=w.1;have aa:az=List.length (α:=(el AA)) K:=w.2;conv=>cbv
  refine g2 rfl ?_;have v:C=K:=by rw[hC,a5,d,g];exact DL h.red (L.mul h.tail j).mem (J.mul h.tail j).mem (by rw[k,m,h1];clear ih;grind)
  exact fA ⟨⟨rfl,.inr (.inl ⟨_,_,by decide,rfl,rfl,aa,rfl,CM (v) (by rw[al,v])⟩),trivial⟩,trivial⟩ rfl (by simp)
 have ad:=Ad M;exact absurd ad (by omega)
theorem VI (h:AU R (r::u)) (ih:IA R u) (hT:T=tw (r::u)) (hA:A=em (r::u) x) (hB:B=em (r::u) y) (hx:El (r::u) s x) (hy:El (r::u) t y) (bR:s+t+EE (r::u).length R<=60000000000000) (m:x=p+q*rt u r) (k:El u s p) (d:El u s q) (n:y=a+b*rt u r) (j:El u t a) (hb:El u t b) (h0:q≠0) (h1:b≠0) (hC:C=em (r::u) (x*y)) (b2:zn=C.length):CF 96 [.one (.sl (.sl AA) T),.one (.sl AA A),.one (.sl AA B)] (.one (.own AA C zn)):=by
 have bO:EE (r::u).length R=2*EE u.length R+R+2:=rfl;have M:=El.Bz h;have hR:=h.hR;have bQ:=Bg h.red;have bP:T.length=u.length+1:=by rw[hT,Ay];rfl
 have bM:A.length=2^u.length+2^u.length:=by rw[hA,Ao hx.mem,BI]
 have bN:B.length=2^u.length+2^u.length:=by rw[hB,Ao hy.mem,BI]
 refine AE Tryz.func96 (by kernel_rfl) rfl fun E H=>?_
 conv=>cbv
 rintro bZ ⟨bF,f14⟩;conv=>cbv
 intro ba ao;conv=>cbv
 cases ba <;> conv=>cbv
 ·have aH:=Ab ao;rintro c0 ⟨bG,f25⟩;conv=>cbv
  intro c1 bJ;conv=>cbv
  refine g2 ⟨by omega,by omega,i64 (by omega)⟩ ?_;rintro c2 ⟨bH,f29⟩;conv=>cbv
  intro c3 bK;conv=>cbv
  refine g1 (by omega) ?_;intro bS bo;conv=>cbv
  refine g2 (by omega) ?_;intro aS bk;conv=>cbv
  intro b3 aw;conv=>cbv
  rintro c4 ⟨bI,f34⟩;conv=>cbv
  intro bb bL;conv=>cbv
  refine g1 (by omega) ?_;obtain⟨aN,D⟩:=AG (l:=T) (i:=(T.length-1)) (by omega);refine⟨aN,fun _=>⟨by omega,by rw[show (bb).toNat=(T.length-1) by omega];exact D⟩,?_⟩;try conv=>cbv
  refine g2 rfl ?_;intro bT aD;conv=>cbv
  refine g2 (by omega) ?_;rintro aO bB ⟨bf,aq⟩;conv=>cbv
  intro b4 ax;conv=>cbv
  have a7:b4=em u q:=by rw[ax,show aO=A.length/2 by omega,aq,aD,List.take_length,hA,BO h.red k.mem d.mem m]
  refine cL H (F3 h.tail.red d.mem a7 h0) t1 ?_;try conv=>cbv
  intro bU aE;conv=>cbv
  refine g2 (by omega) ?_;rintro aP bC ⟨bg,ar⟩;conv=>cbv
  intro b5 ay;conv=>cbv
  have a8:b5=em u b:=by rw[ay,show aP=B.length/2 by omega,ar,aE,List.take_length,hB,BO h.red j.mem hb.mem n]
  refine cL H (F3 h.tail.red hb.mem a8 h1) t1 ?_;try conv=>cbv
  refine g2 rfl ?_;intro bV bp;conv=>cbv
  refine g2 (by omega) ?_;intro aT bl;conv=>cbv
  intro b6 az;conv=>cbv
  intro bW bq;conv=>cbv
  refine g2 (by omega) ?_;intro aU bm;conv=>cbv
  intro b7 aA;conv=>cbv
  have c:b3=tw u:=by rw[aw,List.drop_zero,show aS=T.length-1 by omega,hT,CV]
  have aa:b6=em u p:=by rw[az,List.drop_zero,show aT=A.length/2 by omega,hA,Bb h.red k.mem d.mem m]
  have ab:b7=em u a:=by rw[aA,List.drop_zero,show aU=B.length/2 by omega,hB,Bb h.red j.mem hb.mem n]
  obtain⟨c5,P⟩:=xR (em u (p*a));refine cL H (B8 (ih c aa ab k j (by omega) P rfl)) t3 ?_;try conv=>cbv
  refine g2 rfl ?_;intro bX aF;conv=>cbv
  refine g2 (by omega) ?_;rintro aQ bD ⟨bh,au⟩;conv=>cbv
  intro b8 aB;conv=>cbv
  intro bY aG;conv=>cbv
  refine g2 (by omega) ?_;rintro aR bE ⟨bj,av⟩;conv=>cbv
  intro b9 aC;conv=>cbv
  have ad:b8=em u q:=by rw[aB,show aQ=A.length/2 by omega,au,aF,List.take_length,hA,BO h.red k.mem d.mem m]
  have ae:b9=em u b:=by rw[aC,show aR=B.length/2 by omega,av,aG,List.take_length,hB,BO h.red j.mem hb.mem n]
  obtain⟨c6,Q⟩:=xR (em u (q*b));refine cL H (B8 (ih c ad ae d hb (by omega) Q rfl)) t3 ?_;try conv=>cbv
  have ai:aN=em u (AI u r):=by rw[hT,Da] at D;exact (Option.some.inj D).symm.trans (Cn h.red)
  obtain⟨c7,S⟩:=xR (em u (q*b*AI u r));refine cL H (B8 (ih c Q ai (d.mul h.tail hb) M (by omega) S rfl)) t3 ?_;try conv=>cbv
  obtain⟨N,w⟩:=xR (em u (p*a+q*b*AI u r));obtain⟨bA,z⟩:=xN N.length;refine cL H (Ok h.tail P S (k.mul h.tail j) ((d.mul h.tail hb).mul h.tail M) (by omega) (by omega) w z) t3 ?_;try conv=>cbv
  refine g2 rfl ?_;intro bs b0;conv=>cbv
  refine g2 (by omega) ?_;intro al aX;conv=>cbv
  intro aI W;conv=>cbv
  intro bt af;conv=>cbv
  refine g2 (by omega) ?_;rintro aj bc ⟨aV,U⟩;conv=>cbv
  intro aJ a1;conv=>cbv
  have I:aI=em u p:=by rw[W,List.drop_zero,show al=A.length/2 by omega,hA,Bb h.red k.mem d.mem m]
  have J:aJ=em u b:=by rw[a1,show aj=B.length/2 by omega,U,af,List.take_length,hB,BO h.red j.mem hb.mem n]
  obtain⟨bx,o⟩:=xR (em u (p*b));refine cL H (B8 (ih c I J k hb (by omega) o rfl)) t3 ?_;try conv=>cbv
  intro bu ag;conv=>cbv
  refine g2 (by omega) ?_;rintro ak bd ⟨aW,V⟩;conv=>cbv
  intro aK a2;conv=>cbv
  intro bw b1;conv=>cbv
  refine g2 (by omega) ?_;intro an aY;conv=>cbv
  intro aL a5;conv=>cbv
  have K:aK=em u q:=by rw[a2,show ak=A.length/2 by omega,V,ag,List.take_length,hA,BO h.red k.mem d.mem m]
  have L:aL=em u a:=by rw[a5,List.drop_zero,show an=B.length/2 by omega,hB,Bb h.red j.mem hb.mem n]
  obtain⟨bz,v⟩:=xR (em u (q*a));refine cL H (B8 (ih c K L d j (by omega) v rfl)) t3 ?_;try conv=>cbv
  obtain⟨g,f⟩:=xR (em u (p*b+q*a));refine cL H (Ge h.tail o v (k.mul h.tail hb) (d.mul h.tail j) (by omega) (by omega) f) t3 ?_;try conv=>cbv
  have bn:N.length=2^u.length:=by rw[w,Ao (B6 (k.mul h.tail j).mem ((d.mul h.tail hb).mul h.tail M).mem)]
  have aZ:g.length=2^u.length:=by rw[f,Ao (B6 (k.mul h.tail hb).mem (d.mul h.tail j).mem)]
  have br:=CA h.tail.ht;refine .inl ⟨g,fun _=>⟨rfl,z,rfl,by show (N.length+g.length)*64<=140737488355328;(try simp only[List.length_take,List.length_drop]);omega⟩,?_⟩;intro (F:LR) aM G;have a6:F=(N:LR)++(g:LR):=G.1;have ah:aM=List.length (α:=(el AA)) F:=G.2;conv=>cbv
  refine g2 rfl ?_;have O:C=F:=by rw[hC,a6,w,f];exact DL h.red (B6 (k.mul h.tail j).mem ((d.mul h.tail hb).mul h.tail M).mem) (B6 (k.mul h.tail hb).mem (d.mul h.tail j).mem) (by rw[m,n];clear ih;grind)
  exact fA ⟨⟨rfl,.inr (.inl ⟨_,_,by decide,rfl,rfl,ah,rfl,CM (O) (by rw[b2,O])⟩),trivial⟩,trivial⟩ rfl (by simp)
 have aH:=Ad ao;exact absurd aH (by omega)
theorem Te (h:AU R u):IA R u:=by
 induction u with
 | nil=>
  intro T A B C zn s t x y v k l i j d m c;obtain⟨p,rfl⟩:=Bj.1 i.mem;obtain⟨q,rfl⟩:=Bj.1 j.mem;rw[Ci] at k l;rw[<-Re.ofRat_mul,Ci] at m;have n:=i.BE (by omega);have o:=j.BE (by omega);rw[Bv] at n o;exact VH v k l (n _ List.mem_cons_self) (o _ List.mem_cons_self) m c
 | cons r u F=>
  intro T A B C zn s t x y v k l i j d m c;obtain⟨p,q,f,n,o⟩:=El.parts h.red i;obtain⟨a,b,g,D,hb⟩:=El.parts h.red j
  by_cases z:q=0
  ·by_cases w:b=0
   ·exact VL h (F h.tail) v k l i j d f n o g D hb z w m c
   exact VK h (F h.tail) v k l i j d f n o g D hb z w m c
  by_cases w:b=0
  ·exact VJ h (F h.tail) v k l i j d f n o g D hb z w m c
  exact VI h (F h.tail) v k l i j d f n o g D hb z w m c
theorem Ch (h:AU R u) (i:T=tw u) (d:A=em u x) (f:B=em u y) (j:El u s x) (k:El u t y) (c:s+t+EE u.length R<=60000000000000) (g:C=em u (x*y)):
 CF 96 [.one (.sl (.sl AA) T),.one (.sl AA A),.one (.sl AA B)] (.one (.sl AA C)):=B8 (Te h i d f j k c g rfl)
end Go.Abs
namespace Go.Abs
open Go.RowKit Go.Shelf Go.Proofs
def J8:Ren:=⟨fun k=>if k=4 then 292 else 0,fun k=>if k=3 then 3 else if k=4 then 4 else if k=9 then 9 else if k=20 then 20 else if k=22 then 32 else if k=25 then 113 else 0,fun k=>k⟩
theorem Wy:Lays8.n4 Tryz.prog J8 where
 mixed:=KO
 f4:=⟨Tryz.f292.name,by kernel_rfl,by kernel_rfl⟩
 t0:=by kernel_rfl
 a0:=by intro w;kernel_rfl
 z0:=by intro w;kernel_rfl
 v0:=by intro w;kernel_rfl
 t3:=by kernel_rfl
 a3:=by intro w;kernel_rfl
 z3:=by intro w;kernel_rfl
 v3:=by intro w;kernel_rfl
 t4:=by kernel_rfl
 a4:=by intro w;kernel_rfl
 z4:=by intro w;kernel_rfl
 v4:=by intro w;kernel_rfl
 t9:=by kernel_rfl
 a9:=by intro w;kernel_rfl
 z9:=by intro w;kernel_rfl
 v9:=by intro w;kernel_rfl
 t20:=by kernel_rfl
 a20:=by intro w;kernel_rfl
 z20:=by intro w;kernel_rfl
 v20:=by intro w;kernel_rfl
 t22:=by kernel_rfl
 a22:=by intro w;kernel_rfl
 z22:=by intro w;kernel_rfl
 v22:=by intro w;kernel_rfl
theorem Tt {n:Int} {k:Nat} (M:AK n k) (L:0<k) (S:k<=1000000):CF 292 [.one .nil,.one (.int .i64 n)] (.one (.own AA [] 0)):=by
 refine⟨⟨_,_,Tryz.func292,by kernel_rfl,rfl⟩,⟨rfl,rfl⟩,?_⟩;intro w I P Q f
 match P,f with
 | [v1,v2],⟨D,F,_⟩=>
  have m:v1= .slice none 0 0:=by rcases D with h | h;cases h;exact h
  have v:v2= .int .i64 k:=by rcases F with h | h;cases h;rw[<-M.eq];exact h
  subst m;subst v;obtain⟨_,i0,z,d,N,hb,_,g,l⟩:=(Kz 32).sl rfl
  have j:z.cells.size=4:=by
   have:=(l (CT w I)).length;rw[Ee] at this;have e:(TI 32).elem.size=4:=rfl;rw[e] at this;simpa using this.symm
  have c:i0.bytes=64:=hb;have O:i0.size=4:=N;have H:=Any8.slices_Grow_grow Wy i0 z d g (by omega) none 0 0 k [] w (by omega) (by omega) (by rw[c];omega) (by omega) (by simp) (fun _=>rfl) (fun a h=>by cases h);refine H.mono fun e w' ⟨he,hw⟩=>?_
  have J:=grownCap_ge w (0+k) 0 (J8.t 25);have hle:=grownCap_le_maxLen w (0+k) 0 (J8.t 25) (by unfold maxLen;omega)
  generalize grownCap w (0+k) 0 (J8.t 25)=G at*
  subst hw
  have K:∀o:Obj,(w.drew.alloc o).heap[w.heap.size]? =some o:=fun o=>by
   show (w.heap.push o)[w.heap.size]? =_
   rw[Array.getElem?_push,if_pos rfl]
  refine⟨_,some w.heap.size,he,((Below.refl _ _).drew).alloc (Nat.le_refl _) _,.inr ⟨rfl,_,_,rfl,Nat.zero_le _,hle,Nat.zero_le _,.inr ⟨_,_,_,rfl,Nat.le_refl _,rfl,K _,?_,fun i y h=>by simp at h⟩⟩⟩
  show G*4<=_
  simp[size_zeroCells,j];omega
end Go.Abs
namespace Go.Abs
open Go.RowKit
variable {Z x:LR} {zn:Nat}
theorem QT {X:List LR} {i:Nat} (h:X[i]? =some x):(X.take (i+1)).flatten=(X.take i).flatten++x:=by
 rw[BJ h,List.flatten_append];simp
theorem QS {X:List LR} {i m:Nat} (h:X[i]? =some x) (hm:m=(X.take i).flatten.length):m+x.length=(X.take (i+1)).flatten.length:=by
 rw[QT h,List.length_append,hm]
theorem QR (X:List LR) (i:Nat):(X.take i).flatten.length<=X.flatten.length:=by
 conv=>rhs;rw[<-List.take_append_drop i X,List.flatten_append,List.length_append]
 omega
theorem N3 {X:LR} (n:X.length<=1000000) (f:zn=X.length):CF 202 [.one (.sl AA X)] (.one (.own AA X zn)):=by
 refine AE Tryz.func202 (by kernel_rfl) rfl fun E m=>?_
 conv=>cbv
 intro n4 k;conv=>cbv
 refine⟨fun j=>?_,?_⟩
 ·conv=>cbv
  have c:X=[]:=by rw[k] at j;simpa using j
  exact fA ⟨⟨rfl,.inr (.inr ⟨_,CM (c) (by rw[f,c];rfl)⟩),trivial⟩,trivial⟩ rfl (by simp)
 refine⟨[],fun _=>⟨rfl,by decide,rfl,trivial⟩,.inl ?_⟩;try conv=>cbv
 refine .inl ⟨X,fun _=>⟨rfl,by (first | rfl | omega),rfl,by show (0+X.length)*64<=140737488355328;(try simp only[List.length_take,List.length_drop]);omega⟩,?_⟩;intro (i:LR) l g;have d:i=([]:LR)++(X:LR):=g.1;have h:l=List.length (α:=(el AA)) i:=g.2;conv=>cbv
 exact fA ⟨⟨rfl,.inr (.inl ⟨_,_,by decide,rfl,rfl,by rw[h],rfl,CM (by rw[d];simp) (by rw[f,d];simp)⟩),trivial⟩,trivial⟩ rfl (by simp)
theorem N2 {X:LR} (c:X.length<=1000000):CF 202 [.one (.sl AA X)] (.one (.sl AA X)):=B8 (N3 c rfl)
theorem To {X:List LR} (h0:0<X.flatten.length) (hX:X.flatten.length<=1000000) (hZ:Z=X.flatten) (a2:zn=Z.length):CF 280 [.one (.sl (.sl AA) X)] (.one (.own AA Z zn)):=by
 refine AE Tryz.func280 (by kernel_rfl) rfl fun E hE=>?_
 conv=>cbv
 intro a7 j;have ah:=j.eq;have f10:=j.le;conv=>cbv
 refine .inr ?_;obtain⟨J0,v⟩:=xJ fun Q U k=>∃(i' m':Nat) (m L i:Int),Q=[.one (.sl (.sl AA) X),.one (.int .i64 m),.one (.sl (.sl AA) X),.one (.int .i64 L),.one (.int .i64 i)]/\(B1 L X.length/\AK i i'/\i'<=X.length/\AK m m')/\m'=(X.take i').flatten.length/\k=X.length-i'
 refine⟨[0,3,9,10,11],[],J0,⟨X.length-0,by rw[v];exact⟨0,0,0,a7,0,rfl,⟨j,Ah 0,by omega,Ah 0⟩,rfl,rfl⟩⟩,?_⟩;intro Q U au J;rw[v] at J;obtain⟨i',m',m,L,i,rfl,⟨H,W,a1,hm⟩,hinv,aq⟩:=J;conv=>cbv
 have eL:=H.eq;have ei:=W.eq;have em:=hm.eq;intro a8 D;conv=>cbv
 cases a8 <;> conv=>cbv
 ·have a5:=AR D;have ao:m'=X.flatten.length:=by rw[hinv,show i'=X.length by omega,List.take_length]
  refine cL hE (Tt hm (by omega) (by omega)) ⟨.inl rfl,rfl,trivial⟩ ?_;try conv=>cbv
  intro ae n;have aj:=n.eq;have f26:=n.le;conv=>cbv
  refine .inr ?_;obtain⟨J1,w⟩:=xJ fun Q U k=>∃(i' mm:Nat) (o:LR) (L i:Int),Q=[.one (.AM AA 24 0 0 mm),.one (.sl (.sl AA) X),.one (.int .i64 L),.one (.int .i64 i)]/\U=[.arr 0 AA o]/\(B1 L X.length/\AK i i'/\i'<=X.length/\mm=o.length)/\o=(X.take i').flatten/\k=X.length-i'
  refine⟨[6,25,26,27],[24],J1,⟨X.length-0,by rw[w];exact⟨0,0,[],ae,0,rfl,rfl,⟨n,Ah 0,by omega,rfl⟩,rfl,rfl⟩⟩,?_⟩;intro Q U av J;rw[w] at J;obtain⟨i',mm,o,L,i,rfl,rfl,⟨H,W,a1,M⟩,hinv,ar⟩:=J;conv=>cbv
  have eL:=H.eq;have ei:=W.eq;intro af G;conv=>cbv
  cases af <;> conv=>cbv
  ·have a6:=AR G;have f:Z=o:=by rw[hZ,hinv,show i'=X.length by omega,List.take_length]
   exact fA ⟨⟨rfl,.inr (.inl ⟨_,_,by decide,rfl,rfl,M,rfl,CM (f) (by rw[a2,f])⟩),trivial⟩,trivial⟩ rfl (by simp)
  have a6:=AS G;refine .inr ?_;obtain⟨d,c⟩:=AG (l:=X) (i:=i') (by omega);refine⟨d,fun _=>⟨by omega,by rw[show (i).toNat=i' by omega];exact c⟩,?_⟩;try conv=>cbv
  have I:=QS c (congrArg _ hinv);have V:=QR X (i'+1);refine .inl ⟨d,fun _=>⟨rfl,M,rfl,by show (o.length+d.length)*64<=140737488355328;(try simp only[List.length_take,List.length_drop]);omega⟩,?_⟩;intro (z:LR) P h;have K:z=(o:LR)++(d:LR):=h.1;have N:P=List.length (α:=(el AA)) z:=h.2;conv=>cbv
  intro ag an;conv=>cbv
  refine g1 (by omega) ?_;refine⟨X.length-(i'+1),?_,?_⟩
  ·omega
  rw[w];exact⟨i'+1,P,z,L,ag,rfl,rfl,⟨H,⟨by omega⟩,by omega,by rw[N]⟩,by rw[K,hinv,QT c],rfl⟩
 have a5:=AS D;refine .inr ?_;obtain⟨S,g⟩:=AG (l:=X) (i:=i') (by omega);refine⟨S,fun _=>⟨by omega,by rw[show (i).toNat=i' by omega];exact g⟩,?_⟩;try conv=>cbv
 rintro aw ⟨ai,f17⟩;conv=>cbv
 have I:=QS g hinv;have V:=QR X (i'+1);intro aa ak;conv=>cbv
 refine g1 (by omega) ?_;intro ab F;conv=>cbv
 refine .inr ?_;cases ab <;> conv=>cbv
 ·have O:=AR F;intro ad al;conv=>cbv
  refine g1 (by omega) ?_;refine⟨X.length-(i'+1),?_,?_⟩
  ·omega
  rw[v];exact⟨i'+1,m'+S.length,aa,L,ad,rfl,⟨H,⟨by omega⟩,by omega,⟨by omega⟩⟩,I,rfl⟩
 have O:=AS F;exact absurd O (by omega)
theorem Ji {A B:LR} (d:0<A.length) (f:A.length+B.length<=1000000) (c:Z=A++B):CF 280 [.one (.sl (.sl AA) [A,B])] (.one (.sl AA Z)):=
 B8 (To (X:=[A,B]) (by simp;omega) (by simp;omega) (by simp[c]) rfl)
end Go.Abs
