/- Part 30 of a proof. Conditions: each theorem's own. -/
import Derived.Shelf.Spec.SlicesGrow
import Derived.Test.YtjpiilcgomggaaaGreatPk28
set_option linter.all false
set_option maxHeartbeats 8000000
open Go.Proofs
namespace Go.Abs
open Go.RowKit
variable {A B C X Y Z:LR} {R s t zn:Nat} {T:List LR} {a b p q x y:Re} {r:List Rat} {u:List (List Rat)}
theorem FU (h:AQ u) (hx:In u x) (d:X=em u x) (c:x=0):CF 28 [.one (.sl AA X)] (.one (.bool true)):=
 Oc d (decide_eq_true ((IQ h hx).2 c)).symm
theorem Fy (h:AQ u) (hx:In u x) (d:X=em u x) (c:x≠0):CF 28 [.one (.sl AA X)] (.one (.bool false)):=
 Oc d (decide_eq_false (fun k=>c ((IQ h hx).1 k))).symm
theorem Od (h:AU R u) (f:X=em u x) (g:Y=em u y) (hx:El u s x) (c:El u t y) (j:s<=60000000000000) (ht:t<=60000000000000) (i:Z=em u (x+y)) (d:zn=Z.length):
  CF 102 [.one (.sl (.sl AA) T),.one (.sl AA X),.one (.sl AA Y)] (.one (.own AA Z zn)):=
 UP f g (hx.BC j) (c.BC ht) (by rw[hx.len,c.len]) (by rw[hx.len];exact GN h.ht) (by rw[i,P8 h.red hx.mem c.mem]) d
theorem Gc (h:AU R u) (c:X=em u x) (d:Y=em u y) (hx:El u s x) (i:El u t y) (g:s<=60000000000000) (ht:t<=60000000000000) (f:Z=em u (x+y)):
 CF 102 [.one (.sl (.sl AA) T),.one (.sl AA X),.one (.sl AA Y)] (.one (.sl AA Z)):=B0 (Od h c d hx i g ht f rfl)
theorem G9 (h:AU R u) (c:X=em u x) (hx:El u s x) (d:Z=em u (-x)):
  CF 103 [.one (.sl (.sl AA) T),.one (.sl AA X)] (.one (.sl AA Z)):=
 Ui c (by rw[hx.len];exact GN h.ht) (by rw[d,P9 h.red hx.mem])
theorem JT (h:AU R u) (i:X=em u x) (j:Y=em u y) (hx:El u s x) (g:El u t y) (l:s<=60000000000000) (ht:t<=60000000000000) (k:Z=em u (x-y)):CF 29 [.one (.sl (.sl AA) T),.one (.sl AA X),.one (.sl AA Y)] (.one (.sl AA Z)):=by
 refine AE Tryz.func29 (by kernel_rfl) rfl fun E f=>?_
 conv=>cbv
 obtain⟨m,c⟩:=xR (em u (-y));refine cL f (G9 h j g c) t2 ?_;try conv=>cbv
 obtain⟨n,d⟩:=xR (em u (x+ -y));refine cL f (Gc h i c hx (g.neg h.red) l ht d) t3 ?_;try conv=>cbv
 exact fA ⟨⟨rfl,congrArg _ (by rw[k,d,show x-y=x+ -y by grind]),trivial⟩,trivial⟩ rfl (by simp)
theorem VA {p q:Rat} (hT:T=[]) (hA:A=[rp p]) (F:B=[rp q]) (M:BF p) (ht:BF q) (G:C=[rp (p*q)]) (v:zn=C.length):CF 75 [.one (.sl (.sl AA) T),.one (.sl AA A),.one (.sl AA B)] (.one (.own AA C zn)):=by
 refine AE Tryz.func75 (by kernel_rfl) rfl fun E J=>?_
 conv=>cbv
 rintro N ⟨o,f14⟩;conv=>cbv
 intro w g;conv=>cbv
 cases w <;> conv=>cbv
 ·have h:=Ac g;exact absurd (by rw[o,hT];rfl) h
 have h:=Ad g;have H:A.length=1:=by rw[hA];rfl
 have I:B.length=1:=by rw[F];rfl
 obtain⟨z,c⟩:=AF (l:=A) (i:=0) (by omega);refine⟨z,fun _=>⟨by omega,c⟩,?_⟩;try conv=>cbv
 obtain⟨D,d⟩:=AF (l:=B) (i:=0) (by omega);refine⟨D,fun _=>⟨by omega,d⟩,?_⟩;try conv=>cbv
 have K:=C8 hA c;have L:=C8 F d;obtain⟨m,n,j,k,f⟩:=A9 (p*q);refine cL J (Ul K L M ht rfl f) ⟨t4,t4,trivial⟩ ?_;try conv=>cbv
 refine⟨[((m,n),(j,k))],fun _=>⟨rfl,by decide,rfl,⟨rfl,by first | exact t1 | exact t2 | exact t4 | simp[Ae,Ak,cells],trivial⟩⟩,.inl ?_⟩;try conv=>cbv
 refine g2 rfl ?_;exact fA ⟨⟨rfl,.inr (.inl ⟨_,_,by decide,rfl,rfl,rfl,rfl,CH (by rw[G,f.rp]) (by rw[v,G];rfl)⟩),trivial⟩,trivial⟩ rfl (by simp)
def IB (R:Nat) (u:List (List Rat)):Prop:=∀{T:List LR} {A B C:LR} {zn s t:Nat} {x y:Re},T=tw u->A=em u x->B=em u y->El u s x->El u t y->s+t+EE u.length R<=60000000000000->C=em u (x*y)->zn=C.length->
 CF 75 [.one (.sl (.sl AA) T),.one (.sl AA A),.one (.sl AA B)] (.one (.own AA C zn))
theorem VE (h:AU R (r::u)) (ih:IB R u) (hT:T=tw (r::u)) (hA:A=em (r::u) x) (hB:B=em (r::u) y) (hx:El (r::u) s x) (hy:El (r::u) t y) (aW:s+t+EE (r::u).length R<=60000000000000) (F:x=p+q*rt u r) (hp:El u s p) (hq:El u s q) (G:y=a+b*rt u r) (K:El u t a) (hb:El u t b) (h0:q=0) (h1:b=0) (hC:C=em (r::u) (x*y)) (ad:zn=C.length):CF 75 [.one (.sl (.sl AA) T),.one (.sl AA A),.one (.sl AA B)] (.one (.own AA C zn)):=by
 have aS:EE (r::u).length R=2*EE u.length R+R+2:=rfl;have aU:=El.Br h;have hR:=h.hR;have aV:=Bk h.red;have aT:T.length=u.length+1:=by rw[hT,Au];rfl
 have aQ:A.length=2^u.length+2^u.length:=by rw[hA,Ap hx.mem,BE]
 have aR:B.length=2^u.length+2^u.length:=by rw[hB,Ap hy.mem,BE]
 refine AE Tryz.func75 (by kernel_rfl) rfl fun E J=>?_
 conv=>cbv
 rintro b2 ⟨aJ,f14⟩;conv=>cbv
 intro aj I;conv=>cbv
 cases aj <;> conv=>cbv
 ·have a5:=Ac I;rintro b3 ⟨aK,f25⟩;conv=>cbv
  intro b4 aN;conv=>cbv
  refine g2 ⟨by omega,by omega,i64 (by omega)⟩ ?_;rintro b5 ⟨aL,f29⟩;conv=>cbv
  intro b6 aO;conv=>cbv
  refine g1 (by omega) ?_;intro aX ay;conv=>cbv
  refine g2 (by omega) ?_;intro a8 ar;conv=>cbv
  intro ae N;conv=>cbv
  rintro b7 ⟨aM,f34⟩;conv=>cbv
  intro ak aP;conv=>cbv
  refine g1 (by omega) ?_;obtain⟨an,a2⟩:=AF (l:=T) (i:=(T.length-1)) (by omega);refine⟨an,fun _=>⟨by omega,by rw[show (ak).toNat=(T.length-1) by omega];exact a2⟩,?_⟩;try conv=>cbv
  refine g2 rfl ?_;intro aY V;conv=>cbv
  refine g2 (by omega) ?_;rintro a6 aH ⟨ao,L⟩;conv=>cbv
  intro af O;conv=>cbv
  have v:af=em u q:=by rw[O,show a6=A.length/2 by omega,L,V,List.take_length,hA,BL h.red hp.mem hq.mem F]
  refine cL J (FU h.tail.red hq.mem v h0) t1 ?_;try conv=>cbv
  intro aZ W;conv=>cbv
  refine g2 (by omega) ?_;rintro a7 aI ⟨aq,M⟩;conv=>cbv
  intro ag P;conv=>cbv
  have w:ag=em u b:=by rw[P,show a7=B.length/2 by omega,M,W,List.take_length,hB,BL h.red K.mem hb.mem G]
  refine cL J (FU h.tail.red hb.mem w h1) t1 ?_;try conv=>cbv
  refine g2 rfl ?_;intro b0 az;conv=>cbv
  refine g2 (by omega) ?_;intro aa au;conv=>cbv
  intro ah Q;conv=>cbv
  intro b1 aA;conv=>cbv
  refine g2 (by omega) ?_;intro ab av;conv=>cbv
  intro ai S;conv=>cbv
  have c:ae=tw u:=by rw[N,List.drop_zero,show a8=T.length-1 by omega,hT,CO]
  have z:ah=em u p:=by rw[Q,List.drop_zero,show aa=A.length/2 by omega,hA,BY h.red hp.mem hq.mem F]
  have D:ai=em u a:=by rw[S,List.drop_zero,show ab=B.length/2 by omega,hB,BY h.red K.mem hb.mem G]
  obtain⟨k,d⟩:=xR (em u (p*a));obtain⟨aC,f⟩:=xN k.length;refine cL J (ih c z D hp K (by omega) d f) t3 ?_;try conv=>cbv
  refine g2 rfl ?_;obtain⟨aF,aG,aD,aE,n⟩:=A9 (((0:Int):Rat));refine cL J (Dp (by omega) rfl n) t1 ?_;try conv=>cbv
  obtain⟨j,g⟩:=xR (em u (0));refine cL (r:= .one (.sl AA j)) J (EG h.tail c n (by rw[show Re.ofRat ((0:Int):Rat)=0 from rfl];exact g)) ⟨rfl,t4,trivial⟩ ?_;try conv=>cbv
  have aw:k.length=2^u.length:=by rw[d,Ap (hp.mul h.tail K).mem]
  have aB:=B5 h.tail.ht;have ax:j.length=2^u.length:=by rw[g,Ap (BM u)]
  refine .inl ⟨j,fun _=>⟨rfl,f,rfl,by show (k.length+j.length)*64<=140737488355328;(try simp only[List.length_take,List.length_drop]);omega⟩,?_⟩;intro (H:LR) al o;have U:H=(k:LR)++(j:LR):=o.1;have a1:al=List.length (α:=(el AA)) H:=o.2;conv=>cbv
  have m:C=H:=by rw[hC,U,d,g];exact DI h.red (hp.mul h.tail K).mem (BM u) (by rw[F,G,h0,h1];clear ih;grind)
  exact fA ⟨⟨rfl,.inr (.inl ⟨_,_,by decide,rfl,rfl,a1,rfl,CH (m) (by rw[ad,m])⟩),trivial⟩,trivial⟩ rfl (by simp)
 have a5:=Ad I;exact absurd a5 (by omega)
theorem VD (h:AU R (r::u)) (ih:IB R u) (hT:T=tw (r::u)) (hA:A=em (r::u) x) (hB:B=em (r::u) y) (hx:El (r::u) s x) (hy:El (r::u) t y) (b6:s+t+EE (r::u).length R<=60000000000000) (k:x=p+q*rt u r) (j:El u s p) (hq:El u s q) (m:y=a+b*rt u r) (L:El u t a) (z:El u t b) (h0:q=0) (h1:b≠0) (hC:C=em (r::u) (x*y)) (al:zn=C.length):CF 75 [.one (.sl (.sl AA) T),.one (.sl AA A),.one (.sl AA B)] (.one (.own AA C zn)):=by
 have b2:EE (r::u).length R=2*EE u.length R+R+2:=rfl;have b4:=El.Br h;have hR:=h.hR;have b5:=Bk h.red;have b3:T.length=u.length+1:=by rw[hT,Au];rfl
 have b0:A.length=2^u.length+2^u.length:=by rw[hA,Ap hx.mem,BE]
 have b1:B.length=2^u.length+2^u.length:=by rw[hB,Ap hy.mem,BE]
 refine AE Tryz.func75 (by kernel_rfl) rfl fun E hE=>?_
 conv=>cbv
 rintro bf ⟨aT,f14⟩;conv=>cbv
 intro ax M;conv=>cbv
 cases ax <;> conv=>cbv
 ·have ad:=Ac M;rintro bg ⟨aU,f25⟩;conv=>cbv
  intro bh aX;conv=>cbv
  refine g2 ⟨by omega,by omega,i64 (by omega)⟩ ?_;rintro bj ⟨aV,f29⟩;conv=>cbv
  intro bk aY;conv=>cbv
  refine g1 (by omega) ?_;intro b7 aK;conv=>cbv
  refine g2 (by omega) ?_;intro ah aE;conv=>cbv
  intro an Q;conv=>cbv
  rintro bl ⟨aW,f34⟩;conv=>cbv
  intro ay aZ;conv=>cbv
  refine g1 (by omega) ?_;obtain⟨aA,ab⟩:=AF (l:=T) (i:=(T.length-1)) (by omega);refine⟨aA,fun _=>⟨by omega,by rw[show (ay).toNat=(T.length-1) by omega];exact ab⟩,?_⟩;try conv=>cbv
  refine g2 rfl ?_;intro b8 a6;conv=>cbv
  refine g2 (by omega) ?_;rintro ae aQ ⟨aB,N⟩;conv=>cbv
  intro ao S;conv=>cbv
  have D:ao=em u q:=by rw[S,show ae=A.length/2 by omega,N,a6,List.take_length,hA,BL h.red j.mem hq.mem k]
  refine cL hE (FU h.tail.red hq.mem D h0) t1 ?_;try conv=>cbv
  intro b9 a7;conv=>cbv
  refine g2 (by omega) ?_;rintro af aR ⟨aC,O⟩;conv=>cbv
  intro aq U;conv=>cbv
  have F:aq=em u b:=by rw[U,show af=B.length/2 by omega,O,a7,List.take_length,hB,BL h.red L.mem z.mem m]
  refine cL hE (Fy h.tail.red z.mem F h1) t1 ?_;try conv=>cbv
  refine g2 rfl ?_;intro ba aL;conv=>cbv
  refine g2 (by omega) ?_;intro ai aF;conv=>cbv
  intro ar V;conv=>cbv
  intro bb aM;conv=>cbv
  refine g2 (by omega) ?_;intro aj aG;conv=>cbv
  intro au W;conv=>cbv
  have c:an=tw u:=by rw[Q,List.drop_zero,show ah=T.length-1 by omega,hT,CO]
  have G:ar=em u p:=by rw[V,List.drop_zero,show ai=A.length/2 by omega,hA,BY h.red j.mem hq.mem k]
  have H:au=em u a:=by rw[W,List.drop_zero,show aj=B.length/2 by omega,hB,BY h.red L.mem z.mem m]
  obtain⟨n,d⟩:=xR (em u (p*a));obtain⟨aP,f⟩:=xN n.length;refine cL hE (ih c G H j L (by omega) d f) t3 ?_;try conv=>cbv
  refine g2 rfl ?_;intro bc aN;conv=>cbv
  refine g2 (by omega) ?_;intro ak aH;conv=>cbv
  intro av a1;conv=>cbv
  intro bd a8;conv=>cbv
  refine g2 (by omega) ?_;rintro ag aS ⟨aD,P⟩;conv=>cbv
  intro aw a2;conv=>cbv
  have I:av=em u p:=by rw[a1,List.drop_zero,show ak=A.length/2 by omega,hA,BY h.red j.mem hq.mem k]
  have J:aw=em u b:=by rw[a2,show ag=B.length/2 by omega,P,a8,List.take_length,hB,BL h.red L.mem z.mem m]
  obtain⟨o,g⟩:=xR (em u (p*b));refine cL hE (B0 (ih c I J j z (by omega) g rfl)) t3 ?_;try conv=>cbv
  have aI:n.length=2^u.length:=by rw[d,Ap (j.mul h.tail L).mem]
  have aO:=B5 h.tail.ht;have aJ:o.length=2^u.length:=by rw[g,Ap (j.mul h.tail z).mem]
  refine .inl ⟨o,fun _=>⟨rfl,f,rfl,by show (n.length+o.length)*64<=140737488355328;(try simp only[List.length_take,List.length_drop]);omega⟩,?_⟩;intro (K:LR) az w;have a5:K=(n:LR)++(o:LR):=w.1;have aa:az=List.length (α:=(el AA)) K:=w.2;conv=>cbv
  refine g2 rfl ?_;have v:C=K:=by rw[hC,a5,d,g];exact DI h.red (j.mul h.tail L).mem (j.mul h.tail z).mem (by rw[k,m,h0];clear ih;grind)
  exact fA ⟨⟨rfl,.inr (.inl ⟨_,_,by decide,rfl,rfl,aa,rfl,CH (v) (by rw[al,v])⟩),trivial⟩,trivial⟩ rfl (by simp)
 have ad:=Ad M;exact absurd ad (by omega)
theorem VC (h:AU R (r::u)) (ih:IB R u) (hT:T=tw (r::u)) (hA:A=em (r::u) x) (hB:B=em (r::u) y) (hx:El (r::u) s x) (hy:El (r::u) t y) (b6:s+t+EE (r::u).length R<=60000000000000) (k:x=p+q*rt u r) (L:El u s p) (J:El u s q) (m:y=a+b*rt u r) (j:El u t a) (hb:El u t b) (h0:q≠0) (h1:b=0) (hC:C=em (r::u) (x*y)) (al:zn=C.length):CF 75 [.one (.sl (.sl AA) T),.one (.sl AA A),.one (.sl AA B)] (.one (.own AA C zn)):=by
 have b2:EE (r::u).length R=2*EE u.length R+R+2:=rfl;have b4:=El.Br h;have hR:=h.hR;have b5:=Bk h.red;have b3:T.length=u.length+1:=by rw[hT,Au];rfl
 have b0:A.length=2^u.length+2^u.length:=by rw[hA,Ap hx.mem,BE]
 have b1:B.length=2^u.length+2^u.length:=by rw[hB,Ap hy.mem,BE]
 refine AE Tryz.func75 (by kernel_rfl) rfl fun E hE=>?_
 conv=>cbv
 rintro bf ⟨aT,f14⟩;conv=>cbv
 intro ax M;conv=>cbv
 cases ax <;> conv=>cbv
 ·have ad:=Ac M;rintro bg ⟨aU,f25⟩;conv=>cbv
  intro bh aX;conv=>cbv
  refine g2 ⟨by omega,by omega,i64 (by omega)⟩ ?_;rintro bj ⟨aV,f29⟩;conv=>cbv
  intro bk aY;conv=>cbv
  refine g1 (by omega) ?_;intro b7 aK;conv=>cbv
  refine g2 (by omega) ?_;intro ah aE;conv=>cbv
  intro an Q;conv=>cbv
  rintro bl ⟨aW,f34⟩;conv=>cbv
  intro ay aZ;conv=>cbv
  refine g1 (by omega) ?_;obtain⟨aA,ab⟩:=AF (l:=T) (i:=(T.length-1)) (by omega);refine⟨aA,fun _=>⟨by omega,by rw[show (ay).toNat=(T.length-1) by omega];exact ab⟩,?_⟩;try conv=>cbv
  refine g2 rfl ?_;intro b8 a6;conv=>cbv
  refine g2 (by omega) ?_;rintro ae aQ ⟨aB,N⟩;conv=>cbv
  intro ao S;conv=>cbv
  have z:ao=em u q:=by rw[S,show ae=A.length/2 by omega,N,a6,List.take_length,hA,BL h.red L.mem J.mem k]
  refine cL hE (Fy h.tail.red J.mem z h0) t1 ?_;try conv=>cbv
  intro b9 a7;conv=>cbv
  refine g2 (by omega) ?_;rintro af aR ⟨aC,O⟩;conv=>cbv
  intro aq U;conv=>cbv
  have D:aq=em u b:=by rw[U,show af=B.length/2 by omega,O,a7,List.take_length,hB,BL h.red j.mem hb.mem m]
  refine cL hE (FU h.tail.red hb.mem D h1) t1 ?_;try conv=>cbv
  refine g2 rfl ?_;intro ba aL;conv=>cbv
  refine g2 (by omega) ?_;intro ai aF;conv=>cbv
  intro ar V;conv=>cbv
  intro bb aM;conv=>cbv
  refine g2 (by omega) ?_;intro aj aG;conv=>cbv
  intro au W;conv=>cbv
  have c:an=tw u:=by rw[Q,List.drop_zero,show ah=T.length-1 by omega,hT,CO]
  have F:ar=em u p:=by rw[V,List.drop_zero,show ai=A.length/2 by omega,hA,BY h.red L.mem J.mem k]
  have G:au=em u a:=by rw[W,List.drop_zero,show aj=B.length/2 by omega,hB,BY h.red j.mem hb.mem m]
  obtain⟨n,d⟩:=xR (em u (p*a));obtain⟨aP,f⟩:=xN n.length;refine cL hE (ih c F G L j (by omega) d f) t3 ?_;try conv=>cbv
  refine g2 rfl ?_;intro bc a8;conv=>cbv
  refine g2 (by omega) ?_;rintro ag aS ⟨aD,P⟩;conv=>cbv
  intro av a1;conv=>cbv
  intro bd aN;conv=>cbv
  refine g2 (by omega) ?_;intro ak aH;conv=>cbv
  intro aw a2;conv=>cbv
  have H:av=em u q:=by rw[a1,show ag=A.length/2 by omega,P,a8,List.take_length,hA,BL h.red L.mem J.mem k]
  have I:aw=em u a:=by rw[a2,List.drop_zero,show ak=B.length/2 by omega,hB,BY h.red j.mem hb.mem m]
  obtain⟨o,g⟩:=xR (em u (q*a));refine cL hE (B0 (ih c H I J j (by omega) g rfl)) t3 ?_;try conv=>cbv
  have aI:n.length=2^u.length:=by rw[d,Ap (L.mul h.tail j).mem]
  have aO:=B5 h.tail.ht;have aJ:o.length=2^u.length:=by rw[g,Ap (J.mul h.tail j).mem]
  refine .inl ⟨o,fun _=>⟨rfl,f,rfl,by show (n.length+o.length)*64<=140737488355328;(try simp only[List.length_take,List.length_drop]);omega⟩,?_⟩;intro (K:LR) az w;have a5:K=(n:LR)++(o:LR):=w.1;have aa:az=List.length (α:=(el AA)) K:=w.2;conv=>cbv
  refine g2 rfl ?_;have v:C=K:=by rw[hC,a5,d,g];exact DI h.red (L.mul h.tail j).mem (J.mul h.tail j).mem (by rw[k,m,h1];clear ih;grind)
  exact fA ⟨⟨rfl,.inr (.inl ⟨_,_,by decide,rfl,rfl,aa,rfl,CH (v) (by rw[al,v])⟩),trivial⟩,trivial⟩ rfl (by simp)
 have ad:=Ad M;exact absurd ad (by omega)
theorem VB (h:AU R (r::u)) (ih:IB R u) (hT:T=tw (r::u)) (hA:A=em (r::u) x) (hB:B=em (r::u) y) (hx:El (r::u) s x) (hy:El (r::u) t y) (bS:s+t+EE (r::u).length R<=60000000000000) (n:x=p+q*rt u r) (m:El u s p) (f:El u s q) (o:y=a+b*rt u r) (k:El u t a) (d:El u t b) (h0:q≠0) (h1:b≠0) (hC:C=em (r::u) (x*y)) (b3:zn=C.length):CF 75 [.one (.sl (.sl AA) T),.one (.sl AA A),.one (.sl AA B)] (.one (.own AA C zn)):=by
 have bP:EE (r::u).length R=2*EE u.length R+R+2:=rfl;have N:=El.Br h;have hR:=h.hR;have bR:=Bk h.red;have bQ:T.length=u.length+1:=by rw[hT,Au];rfl
 have bN:A.length=2^u.length+2^u.length:=by rw[hA,Ap hx.mem,BE]
 have bO:B.length=2^u.length+2^u.length:=by rw[hB,Ap hy.mem,BE]
 refine AE Tryz.func75 (by kernel_rfl) rfl fun E I=>?_
 conv=>cbv
 rintro c0 ⟨bG,f14⟩;conv=>cbv
 intro bb aq;conv=>cbv
 cases bb <;> conv=>cbv
 ·have aI:=Ac aq;rintro c1 ⟨bH,f25⟩;conv=>cbv
  intro c2 bK;conv=>cbv
  refine g2 ⟨by omega,by omega,i64 (by omega)⟩ ?_;rintro c3 ⟨bI,f29⟩;conv=>cbv
  intro c4 bL;conv=>cbv
  refine g1 (by omega) ?_;intro bT bp;conv=>cbv
  refine g2 (by omega) ?_;intro aT bl;conv=>cbv
  intro b4 ax;conv=>cbv
  rintro c5 ⟨bJ,f34⟩;conv=>cbv
  intro bc bM;conv=>cbv
  refine g1 (by omega) ?_;obtain⟨aO,F⟩:=AF (l:=T) (i:=(T.length-1)) (by omega);refine⟨aO,fun _=>⟨by omega,by rw[show (bc).toNat=(T.length-1) by omega];exact F⟩,?_⟩;try conv=>cbv
  refine g2 rfl ?_;intro bU aE;conv=>cbv
  refine g2 (by omega) ?_;rintro aP bC ⟨bg,ar⟩;conv=>cbv
  intro b5 ay;conv=>cbv
  have a8:b5=em u q:=by rw[ay,show aP=A.length/2 by omega,ar,aE,List.take_length,hA,BL h.red m.mem f.mem n]
  refine cL I (Fy h.tail.red f.mem a8 h0) t1 ?_;try conv=>cbv
  intro bV aF;conv=>cbv
  refine g2 (by omega) ?_;rintro aQ bD ⟨bh,au⟩;conv=>cbv
  intro b6 az;conv=>cbv
  have aa:b6=em u b:=by rw[az,show aQ=B.length/2 by omega,au,aF,List.take_length,hB,BL h.red k.mem d.mem o]
  refine cL I (Fy h.tail.red d.mem aa h1) t1 ?_;try conv=>cbv
  refine g2 rfl ?_;intro bW bq;conv=>cbv
  refine g2 (by omega) ?_;intro aU bm;conv=>cbv
  intro b7 aA;conv=>cbv
  intro bX br;conv=>cbv
  refine g2 (by omega) ?_;intro aV bn;conv=>cbv
  intro b8 aB;conv=>cbv
  have c:b4=tw u:=by rw[ax,List.drop_zero,show aT=T.length-1 by omega,hT,CO]
  have ab:b7=em u p:=by rw[aA,List.drop_zero,show aU=A.length/2 by omega,hA,BY h.red m.mem f.mem n]
  have ad:b8=em u a:=by rw[aB,List.drop_zero,show aV=B.length/2 by omega,hB,BY h.red k.mem d.mem o]
  obtain⟨c6,Q⟩:=xR (em u (p*a));refine cL I (B0 (ih c ab ad m k (by omega) Q rfl)) t3 ?_;try conv=>cbv
  refine g2 rfl ?_;intro bY aG;conv=>cbv
  refine g2 (by omega) ?_;rintro aR bE ⟨bj,av⟩;conv=>cbv
  intro b9 aC;conv=>cbv
  intro bZ aH;conv=>cbv
  refine g2 (by omega) ?_;rintro aS bF ⟨bk,aw⟩;conv=>cbv
  intro ba aD;conv=>cbv
  have ae:b9=em u q:=by rw[aC,show aR=A.length/2 by omega,av,aG,List.take_length,hA,BL h.red m.mem f.mem n]
  have af:ba=em u b:=by rw[aD,show aS=B.length/2 by omega,aw,aH,List.take_length,hB,BL h.red k.mem d.mem o]
  obtain⟨c7,S⟩:=xR (em u (q*b));refine cL I (B0 (ih c ae af f d (by omega) S rfl)) t3 ?_;try conv=>cbv
  have aj:aO=em u (AI u r):=by rw[hT,DY] at F;exact (Option.some.inj F).symm.trans (Cj h.red)
  obtain⟨c8,U⟩:=xR (em u (q*b*AI u r));refine cL I (B0 (ih c S aj (f.mul h.tail d) N (by omega) U rfl)) t3 ?_;try conv=>cbv
  obtain⟨O,z⟩:=xR (em u (p*a+q*b*AI u r));obtain⟨bB,D⟩:=xN O.length;refine cL I (Od h.tail Q U (m.mul h.tail k) ((f.mul h.tail d).mul h.tail N) (by omega) (by omega) z D) t3 ?_;try conv=>cbv
  refine g2 rfl ?_;intro bt b1;conv=>cbv
  refine g2 (by omega) ?_;intro an aY;conv=>cbv
  intro aJ a1;conv=>cbv
  intro bu ag;conv=>cbv
  refine g2 (by omega) ?_;rintro ak bd ⟨aW,V⟩;conv=>cbv
  intro aK a2;conv=>cbv
  have J:aJ=em u p:=by rw[a1,List.drop_zero,show an=A.length/2 by omega,hA,BY h.red m.mem f.mem n]
  have K:aK=em u b:=by rw[a2,show ak=B.length/2 by omega,V,ag,List.take_length,hB,BL h.red k.mem d.mem o]
  obtain⟨bz,v⟩:=xR (em u (p*b));refine cL I (B0 (ih c J K m d (by omega) v rfl)) t3 ?_;try conv=>cbv
  intro bw ah;conv=>cbv
  refine g2 (by omega) ?_;rintro al bf ⟨aX,W⟩;conv=>cbv
  intro aL a5;conv=>cbv
  intro bx b2;conv=>cbv
  refine g2 (by omega) ?_;intro ao aZ;conv=>cbv
  intro aM a6;conv=>cbv
  have L:aL=em u q:=by rw[a5,show al=A.length/2 by omega,W,ah,List.take_length,hA,BL h.red m.mem f.mem n]
  have M:aM=em u a:=by rw[a6,List.drop_zero,show ao=B.length/2 by omega,hB,BY h.red k.mem d.mem o]
  obtain⟨bA,w⟩:=xR (em u (q*a));refine cL I (B0 (ih c L M f k (by omega) w rfl)) t3 ?_;try conv=>cbv
  obtain⟨j,g⟩:=xR (em u (p*b+q*a));refine cL I (Gc h.tail v w (m.mul h.tail d) (f.mul h.tail k) (by omega) (by omega) g) t3 ?_;try conv=>cbv
  have bo:O.length=2^u.length:=by rw[z,Ap (B3 (m.mul h.tail k).mem ((f.mul h.tail d).mul h.tail N).mem)]
  have b0:j.length=2^u.length:=by rw[g,Ap (B3 (m.mul h.tail d).mem (f.mul h.tail k).mem)]
  have bs:=B5 h.tail.ht;refine .inl ⟨j,fun _=>⟨rfl,D,rfl,by show (O.length+j.length)*64<=140737488355328;(try simp only[List.length_take,List.length_drop]);omega⟩,?_⟩;intro (G:LR) aN H;have a7:G=(O:LR)++(j:LR):=H.1;have ai:aN=List.length (α:=(el AA)) G:=H.2;conv=>cbv
  refine g2 rfl ?_;have P:C=G:=by rw[hC,a7,z,g];exact DI h.red (B3 (m.mul h.tail k).mem ((f.mul h.tail d).mul h.tail N).mem) (B3 (m.mul h.tail d).mem (f.mul h.tail k).mem) (by rw[n,o];clear ih;grind)
  exact fA ⟨⟨rfl,.inr (.inl ⟨_,_,by decide,rfl,rfl,ai,rfl,CH (P) (by rw[b3,P])⟩),trivial⟩,trivial⟩ rfl (by simp)
 have aI:=Ad aq;exact absurd aI (by omega)
theorem Ta (h:AU R u):IB R u:=by
 induction u with
 | nil=>
  intro T A B C zn s t x y hT hA j hx i d k c;obtain⟨p,rfl⟩:=Bb.1 hx.mem;obtain⟨q,rfl⟩:=Bb.1 i.mem;rw[Cg] at hA j;rw[<-Re.ofRat_mul,Cg] at k;have l:=hx.BC (by omega);have m:=i.BC (by omega);rw[Bn] at l m;exact VA hT hA j (l _ List.mem_cons_self) (m _ List.mem_cons_self) k c
 | cons r u z=>
  intro T A B C zn s t x y hT hA j hx i d k c;obtain⟨p,q,f,l,m⟩:=El.parts h.red hx;obtain⟨a,b,g,v,w⟩:=El.parts h.red i
  by_cases o:q=0
  ·by_cases n:b=0
   ·exact VE h (z h.tail) hT hA j hx i d f l m g v w o n k c
   exact VD h (z h.tail) hT hA j hx i d f l m g v w o n k c
  by_cases n:b=0
  ·exact VC h (z h.tail) hT hA j hx i d f l m g v w o n k c
  exact VB h (z h.tail) hT hA j hx i d f l m g v w o n k c
theorem Cf (h:AU R u) (hT:T=tw u) (hA:A=em u x) (d:B=em u y) (hx:El u s x) (g:El u t y) (c:s+t+EE u.length R<=60000000000000) (f:C=em u (x*y)):
 CF 75 [.one (.sl (.sl AA) T),.one (.sl AA A),.one (.sl AA B)] (.one (.sl AA C)):=B0 (Ta h hT hA d hx g c f rfl)
end Go.Abs
namespace Go.Abs
open Go.RowKit Go.Shelf Go.Proofs
def KA:Ren:=⟨fun k=>if k=4 then 257 else 0,fun k=>if k=3 then 3 else if k=4 then 4 else if k=9 then 9 else if k=20 then 20 else if k=22 then 25 else if k=25 then 69 else 0,fun k=>k⟩
theorem Wz:Lays8.n4 Tryz.prog KA where
 mixed:=KR
 f4:=⟨Tryz.f257.name,by kernel_rfl,by kernel_rfl⟩
 t0:=by kernel_rfl
 a0:=by intro w;kernel_rfl
 z0:=by intro w;kernel_rfl
 v0:=by intro w;kernel_rfl
 t3:=by kernel_rfl
 a3:=by intro w;kernel_rfl
 z3:=by intro w;kernel_rfl
 v3:=by intro w;kernel_rfl
 t4:=by kernel_rfl
 a4:=by intro w;kernel_rfl
 z4:=by intro w;kernel_rfl
 v4:=by intro w;kernel_rfl
 t9:=by kernel_rfl
 a9:=by intro w;kernel_rfl
 z9:=by intro w;kernel_rfl
 v9:=by intro w;kernel_rfl
 t20:=by kernel_rfl
 a20:=by intro w;kernel_rfl
 z20:=by intro w;kernel_rfl
 v20:=by intro w;kernel_rfl
 t22:=by kernel_rfl
 a22:=by intro w;kernel_rfl
 z22:=by intro w;kernel_rfl
 v22:=by intro w;kernel_rfl
theorem Tn {n:Int} {k:Nat} (N:AK n k) (M:0<k) (U:k<=1000000):CF 257 [.one .nil,.one (.int .i64 n)] (.one (.own AA [] 0)):=by
 refine⟨⟨_,_,Tryz.func257,by kernel_rfl,rfl⟩,⟨rfl,rfl⟩,?_⟩;intro w I Q S f
 match Q,f with
 | [v1,v2],⟨D,F,_⟩=>
  have m:v1= .slice none 0 0:=by rcases D with h | h;cases h;exact h
  have v:v2= .int .i64 k:=by rcases F with h | h;cases h;rw[<-N.eq];exact h
  subst m;subst v;obtain⟨_,i0,z,d,O,H,_,g,l⟩:=(K5 25).sl rfl
  have j:z.cells.size=4:=by
   have:=(l (CM w I)).length;rw[Ef] at this;have e:(TI 25).elem.size=4:=rfl;rw[e] at this;simpa using this.symm
  have c:i0.bytes=64:=H;have P:i0.size=4:=O;have J:=Any8.slices_Grow_grow Wz i0 z d g (by omega) none 0 0 k [] w (by omega) (by omega) (by rw[c];omega) (by omega) (by simp) (fun _=>rfl) (fun a h=>by cases h);refine J.mono fun e w' ⟨he,hw⟩=>?_
  have K:=grownCap_ge w (0+k) 0 (KA.t 25);have hle:=grownCap_le_maxLen w (0+k) 0 (KA.t 25) (by unfold maxLen;omega)
  generalize grownCap w (0+k) 0 (KA.t 25)=G at*
  subst hw
  have L:∀o:Obj,(w.drew.alloc o).heap[w.heap.size]? =some o:=fun o=>by
   show (w.heap.push o)[w.heap.size]? =_
   rw[Array.getElem?_push,if_pos rfl]
  refine⟨_,some w.heap.size,he,((Below.refl _ _).drew).alloc (Nat.le_refl _) _,.inr ⟨rfl,_,_,rfl,Nat.zero_le _,hle,Nat.zero_le _,.inr ⟨_,_,_,rfl,Nat.le_refl _,rfl,L _,?_,fun i y h=>by simp at h⟩⟩⟩
  show G*4<=_
  simp[size_zeroCells,j];omega
end Go.Abs
namespace Go.Abs
open Go.RowKit
variable {Z x:LR} {zn:Nat}
theorem QO {X:List LR} {i:Nat} (h:X[i]? =some x):(X.take (i+1)).flatten=(X.take i).flatten++x:=by
 rw[BG h,List.flatten_append];simp
theorem QN {X:List LR} {i m:Nat} (h:X[i]? =some x) (hm:m=(X.take i).flatten.length):m+x.length=(X.take (i+1)).flatten.length:=by
 rw[QO h,List.length_append,hm]
theorem QM (X:List LR) (i:Nat):(X.take i).flatten.length<=X.flatten.length:=by
 conv=>rhs;rw[<-List.take_append_drop i X,List.flatten_append,List.length_append]
 omega
theorem Nv {X:LR} (n:X.length<=1000000) (f:zn=X.length):CF 149 [.one (.sl AA X)] (.one (.own AA X zn)):=by
 refine AE Tryz.func149 (by kernel_rfl) rfl fun E m=>?_
 conv=>cbv
 intro n4 k;conv=>cbv
 refine⟨fun j=>?_,?_⟩
 ·conv=>cbv
  have c:X=[]:=by rw[k] at j;simpa using j
  exact fA ⟨⟨rfl,.inr (.inr ⟨_,CH (c) (by rw[f,c];rfl)⟩),trivial⟩,trivial⟩ rfl (by simp)
 refine⟨[],fun _=>⟨rfl,by decide,rfl,trivial⟩,.inl ?_⟩;try conv=>cbv
 refine .inl ⟨X,fun _=>⟨rfl,by (first | rfl | omega),rfl,by show (0+X.length)*64<=140737488355328;(try simp only[List.length_take,List.length_drop]);omega⟩,?_⟩;intro (i:LR) l g;have d:i=([]:LR)++(X:LR):=g.1;have h:l=List.length (α:=(el AA)) i:=g.2;conv=>cbv
 exact fA ⟨⟨rfl,.inr (.inl ⟨_,_,by decide,rfl,rfl,by rw[h],rfl,CH (by rw[d];simp) (by rw[f,d];simp)⟩),trivial⟩,trivial⟩ rfl (by simp)
theorem Nt {X:LR} (c:X.length<=1000000):CF 149 [.one (.sl AA X)] (.one (.sl AA X)):=B0 (Nv c rfl)
theorem Th {X:List LR} (h0:0<X.flatten.length) (hX:X.flatten.length<=1000000) (hZ:Z=X.flatten) (a2:zn=Z.length):CF 229 [.one (.sl (.sl AA) X)] (.one (.own AA Z zn)):=by
 refine AE Tryz.func229 (by kernel_rfl) rfl fun E hE=>?_
 conv=>cbv
 intro a7 j;have ah:=j.eq;have f10:=j.le;conv=>cbv
 refine .inr ?_;obtain⟨J0,v⟩:=xJ fun Q U k=>∃(i' m':Nat) (m L i:Int),Q=[.one (.sl (.sl AA) X),.one (.int .i64 m),.one (.sl (.sl AA) X),.one (.int .i64 L),.one (.int .i64 i)]/\(Bu L X.length/\AK i i'/\i'<=X.length/\AK m m')/\m'=(X.take i').flatten.length/\k=X.length-i'
 refine⟨[0,3,9,10,11],[],J0,⟨X.length-0,by rw[v];exact⟨0,0,0,a7,0,rfl,⟨j,Ai 0,by omega,Ai 0⟩,rfl,rfl⟩⟩,?_⟩;intro Q U au J;rw[v] at J;obtain⟨i',m',m,L,i,rfl,⟨H,W,a1,hm⟩,hinv,aq⟩:=J;conv=>cbv
 have eL:=H.eq;have ei:=W.eq;have em:=hm.eq;intro a8 D;conv=>cbv
 cases a8 <;> conv=>cbv
 ·have a5:=AR D;have ao:m'=X.flatten.length:=by rw[hinv,show i'=X.length by omega,List.take_length]
  refine cL hE (Tn hm (by omega) (by omega)) ⟨.inl rfl,rfl,trivial⟩ ?_;try conv=>cbv
  intro ae n;have aj:=n.eq;have f26:=n.le;conv=>cbv
  refine .inr ?_;obtain⟨J1,w⟩:=xJ fun Q U k=>∃(i' mm:Nat) (o:LR) (L i:Int),Q=[.one (.AL AA 24 0 0 mm),.one (.sl (.sl AA) X),.one (.int .i64 L),.one (.int .i64 i)]/\U=[.arr 0 AA o]/\(Bu L X.length/\AK i i'/\i'<=X.length/\mm=o.length)/\o=(X.take i').flatten/\k=X.length-i'
  refine⟨[6,25,26,27],[24],J1,⟨X.length-0,by rw[w];exact⟨0,0,[],ae,0,rfl,rfl,⟨n,Ai 0,by omega,rfl⟩,rfl,rfl⟩⟩,?_⟩;intro Q U av J;rw[w] at J;obtain⟨i',mm,o,L,i,rfl,rfl,⟨H,W,a1,M⟩,hinv,ar⟩:=J;conv=>cbv
  have eL:=H.eq;have ei:=W.eq;intro af G;conv=>cbv
  cases af <;> conv=>cbv
  ·have a6:=AR G;have f:Z=o:=by rw[hZ,hinv,show i'=X.length by omega,List.take_length]
   exact fA ⟨⟨rfl,.inr (.inl ⟨_,_,by decide,rfl,rfl,M,rfl,CH (f) (by rw[a2,f])⟩),trivial⟩,trivial⟩ rfl (by simp)
  have a6:=AS G;refine .inr ?_;obtain⟨d,c⟩:=AF (l:=X) (i:=i') (by omega);refine⟨d,fun _=>⟨by omega,by rw[show (i).toNat=i' by omega];exact c⟩,?_⟩;try conv=>cbv
  have I:=QN c (congrArg _ hinv);have V:=QM X (i'+1);refine .inl ⟨d,fun _=>⟨rfl,M,rfl,by show (o.length+d.length)*64<=140737488355328;(try simp only[List.length_take,List.length_drop]);omega⟩,?_⟩;intro (z:LR) P h;have K:z=(o:LR)++(d:LR):=h.1;have N:P=List.length (α:=(el AA)) z:=h.2;conv=>cbv
  intro ag an;conv=>cbv
  refine g1 (by omega) ?_;refine⟨X.length-(i'+1),?_,?_⟩
  ·omega
  rw[w];exact⟨i'+1,P,z,L,ag,rfl,rfl,⟨H,⟨by omega⟩,by omega,by rw[N]⟩,by rw[K,hinv,QO c],rfl⟩
 have a5:=AS D;refine .inr ?_;obtain⟨S,g⟩:=AF (l:=X) (i:=i') (by omega);refine⟨S,fun _=>⟨by omega,by rw[show (i).toNat=i' by omega];exact g⟩,?_⟩;try conv=>cbv
 rintro aw ⟨ai,f17⟩;conv=>cbv
 have I:=QN g hinv;have V:=QM X (i'+1);intro aa ak;conv=>cbv
 refine g1 (by omega) ?_;intro ab F;conv=>cbv
 refine .inr ?_;cases ab <;> conv=>cbv
 ·have O:=AR F;intro ad al;conv=>cbv
  refine g1 (by omega) ?_;refine⟨X.length-(i'+1),?_,?_⟩
  ·omega
  rw[v];exact⟨i'+1,m'+S.length,aa,L,ad,rfl,⟨H,⟨by omega⟩,by omega,⟨by omega⟩⟩,I,rfl⟩
 have O:=AS F;exact absurd O (by omega)
theorem Jj {A B:LR} (hA:0<A.length) (d:A.length+B.length<=1000000) (c:Z=A++B):CF 229 [.one (.sl (.sl AA) [A,B])] (.one (.sl AA Z)):=
 B0 (Th (X:=[A,B]) (by simp;omega) (by simp;omega) (by simp[c]) rfl)
end Go.Abs
