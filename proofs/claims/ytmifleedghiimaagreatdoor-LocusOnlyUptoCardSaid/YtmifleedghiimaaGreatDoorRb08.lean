/- Part 9 of a proof. Conditions: each theorem's own. -/
import Derived.Shelf.Spec.SlicesGrow
import Derived.Test.YtmifleedghiimaaGreatDoorRb07
set_option linter.all false
set_option maxHeartbeats 80000000
set_option maxRecDepth 20000
open Go.Proofs
namespace Go.Abs
open Go.RowKit
section
variable {A B C X Y Z:LR} {R s t zn:Nat} {T:List LR} {a b p q x y:Re} {r:List Rat} {u:AG}
def J8 (h:BE u) (g:In u x) (f:X=em u x) (d:x=0):CF 155 [AQ X] (.one (.bool true)):=
 Y2 f (decide_eq_true ((Ou h g).2 d)).symm
def Kp (h:BE u) (g:In u x) (f:X=em u x) (d:x≠0):CF 155 [AQ X] (.one (.bool false)):=
 Y2 f (decide_eq_false (fun k=>d ((Ou h g).1 k))).symm
def Y3 (h:BT R u) (j:X=em u x) (k:Y=em u y) (d:El u s x) (f:El u t y) (o:s<=60000000000000) (ht:t<=60000000000000) (m:Z=em u (x+y)) (g:zn=Z.length):
  CF 89 [BF T,AQ X,AQ Y] (.one (.own AJ Z zn)):=
 lj j k (d.Cy o) (f.Cy ht) (by rw[d.len,f.len]) (by rw[d.len];exact LU h.ht) (by rw[m,bC h.red d.mem f.mem]) g
def Lz (h:BT R u) (d:X=em u x) (f:Y=em u y) (k:El u s x) (m:El u t y) (j:s<=60000000000000) (ht:t<=60000000000000) (g:Z=em u (x+y)):
 CF 89 [BF T,AQ X,AQ Y] (AQ Z):=EW (Y3 h d f k m j ht g rfl)
def Mz (h:BT R u) (f:X=em u x) (d:El u s x) (g:Z=em u (-x)):
  CF 53 [BF T,AQ X] (AQ Z):=
 mK f (by rw[d.len];exact LU h.ht) (by rw[g,bD h.red d.mem])
def Qa (h:BT R u) (k:X=em u x) (m:Y=em u y) (D:El u s x) (j:El u t y) (z:s<=60000000000000) (ht:t<=60000000000000) (o:Z=em u (x-y)):CF 209 [BF T,AQ X,AQ Y] (AQ Z):=by
 refine AL Tryz.func209 fun E g=>?_
 obtain⟨F,d⟩:=xR (em u (-y));refine AB g (Mz h m j d) ?_;obtain⟨G,f⟩:=xR (em u (x+ -y));refine AB g (Lz h k d D (j.neg h.red) z ht f) ?_;exact AO (by rw[o,f,show x-y=x+ -y by grind])
def nD {p q:Rat} (L:T=[]) (F:A=[rp p]) (G:B=[rp q]) (O:Ch p) (ht:Ch q) (H:C=[rp (p*q)]) (D:zn=C.length):CF 106 [BF T,AQ A,AQ B] (.one (.own AJ C zn)):=by
 refine AL Tryz.func106 fun E K=>?_
 rintro P ⟨z,f14⟩;refine Cw (fun h=>?_) fun h=>?_
 ·exact absurd (by rw[z,L];rfl) h
 have I:A.length=1:=by rw[F];rfl
 have J:B.length=1:=by rw[G];rfl
 refine BA 0 fun Q f=>?_
 try conv=>cbv
 refine BA 0 fun S g=>?_
 try conv=>cbv
 have M:=Ge F f;have N:=Ge G g;obtain⟨m,o,j,k,d⟩:=Ca (p*q);refine AB K (QV M N O ht rfl d) ?_;refine⟨[((m,o),(j,k))],Cj,.inl ?_⟩;try conv=>cbv
 refine g2 rfl ?_;exact AN ⟨⟨rfl,.inr (.inl ⟨_,_,AD,rfl,rfl,rfl,rfl,Dm (by rw[H,d.rp]) (by rw[D,H];rfl)⟩),trivial⟩,trivial⟩
def OY (R:Nat) (u:AG):Prop:=∀{T:List LR} {A B C:LR} {zn s t:Nat} {x y:Re},T=tw u->A=em u x->B=em u y->El u s x->El u t y->s+t+EE u.length R<=60000000000000->C=em u (x*y)->zn=C.length->
 CF 106 [BF T,AQ A,AQ B] (.one (.own AJ C zn))
def nH (h:BT R (r::u)) (ih:OY R u) (hT:T=tw (r::u)) (hA:A=em (r::u) x) (hB:B=em (r::u) y) (hx:El (r::u) s x) (hy:El (r::u) t y) (aV:s+t+EE (r::u).length R<=60000000000000) (J:x=p+q*rt u r) (hp:El u s p) (hq:El u s q) (K:y=a+b*rt u r) (ha:El u t a) (hb:El u t b) (h0:q=0) (h1:b=0) (hC:C=em (r::u) (x*y)) (ae:zn=C.length):CF 106 [BF T,AQ A,AQ B] (.one (.own AJ C zn)):=by
 have aR:EE (r::u).length R=2*EE u.length R+R+2:=rfl;have aT:=El.D9 h;have hR:=h.hR;have aU:=De h.red;have aS:T.length=u.length+1:=by rw[hT,Cq];rfl
 have aP:A.length=2^u.length+2^u.length:=by rw[hA,B9 hx.mem,Cc]
 have aQ:B.length=2^u.length+2^u.length:=by rw[hB,B9 hy.mem,Cc]
 refine AL Tryz.func106 fun E M=>?_
 rintro b1 ⟨aI,f14⟩;refine BY (fun a6=>?_) fun a6=>?_
 ·exact absurd a6 AA
 rintro b2 ⟨aJ,f25⟩ b3 aM b4 ⟨aK,f29⟩ b5 aN aW aw aa ao af P b6 ⟨aL,f34⟩ b7 aO;refine BA ((T.length-1)) fun b8 aA=>?_
 refine AM ?_;rintro aX a1 a7 aG ⟨al,N⟩ ag Q;have F:ag=em u q:=by rw[Q,(AA:a7=A.length/2),N,a1,List.take_length,hA,DE h.red hp.mem hq.mem J]
 refine AB M (J8 h.tail.red hq.mem F h0) ?_;rintro aY a2 a8 aH ⟨an,O⟩ ah S;have G:ah=em u b:=by rw[S,(AA:a8=B.length/2),O,a2,List.take_length,hB,DE h.red ha.mem hb.mem K]
 refine AB M (J8 h.tail.red hb.mem G h1) ?_;intro aZ ax ab aq ai U b0 ay ad ar aj V;have d:af=tw u:=by rw[P,List.drop_zero,(AA:aa=T.length-1),hT,Ey]
 have H:ai=em u p:=by rw[U,List.drop_zero,(AA:ab=A.length/2),hA,DX h.red hp.mem hq.mem J]
 have I:aj=em u a:=by rw[V,List.drop_zero,(AA:ad=B.length/2),hB,DX h.red ha.mem hb.mem K]
 obtain⟨m,f⟩:=xR (em u (p*a));obtain⟨aB,g⟩:=xN m.length;refine AB M (ih d H I hp ha AA f g) ?_;obtain⟨aE,aF,aC,aD,z⟩:=Ca (((0:Int):Rat));refine AB M (Ff AA rfl z) ?_;obtain⟨k,j⟩:=xR (em u (0));refine AB (r:= .one (AT k)) M (IL h.tail d z (by rw[show Re.ofRat ((0:Int):Rat)=0 from rfl];exact j)) ?_;have au:m.length=2^u.length:=by rw[f,B9 (hp.mul h.tail ha).mem]
 have az:=Ea h.tail.ht;have av:k.length=2^u.length:=by rw[j,B9 (C0 u)]
 refine .inl ⟨k,fun _=>⟨rfl,g,rfl,Ck (m.length+k.length) 64⟩,?_⟩;intro (L:LR) ak D;have W:L=(m:LR)++(k:LR):=D.1;have a5:ak=List.length (α:=(el AJ)) L:=D.2;conv=>cbv
 have o:C=L:=by rw[hC,W,f,j];exact Gp h.red (hp.mul h.tail ha).mem (C0 u) (by rw[J,K,h0,h1];clear ih;grind)
 exact AN ⟨⟨rfl,.inr (.inl ⟨_,_,AD,rfl,rfl,a5,rfl,Dm (o) (by rw[ae,o])⟩),trivial⟩,trivial⟩
def nG (h:BT R (r::u)) (ih:OY R u) (hT:T=tw (r::u)) (hA:A=em (r::u) x) (hB:B=em (r::u) y) (hx:El (r::u) s x) (hy:El (r::u) t y) (b4:s+t+EE (r::u).length R<=60000000000000) (m:x=p+q*rt u r) (k:El u s p) (hq:El u s q) (o:y=a+b*rt u r) (ha:El u t a) (hb:El u t b) (h0:q=0) (h1:b≠0) (hC:C=em (r::u) (x*y)) (al:zn=C.length):CF 106 [BF T,AQ A,AQ B] (.one (.own AJ C zn)):=by
 have b0:EE (r::u).length R=2*EE u.length R+R+2:=rfl;have b2:=El.D9 h;have hR:=h.hR;have b3:=De h.red;have b1:T.length=u.length+1:=by rw[hT,Cq];rfl
 have aY:A.length=2^u.length+2^u.length:=by rw[hA,B9 hx.mem,Cc]
 have aZ:B.length=2^u.length+2^u.length:=by rw[hB,B9 hy.mem,Cc]
 refine AL Tryz.func106 fun E hE=>?_
 rintro bc ⟨aR,f14⟩;refine BY (fun ad=>?_) fun ad=>?_
 ·exact absurd ad AA
 rintro bd ⟨aS,f25⟩ bf aV bg ⟨aT,f29⟩ bh aW b5 aH ah aB an S bj ⟨aU,f34⟩ bk aX;refine BA ((T.length-1)) fun bl aM=>?_
 refine AM ?_;rintro b6 a7 ae aO ⟨ay,O⟩ ao U;have H:ao=em u q:=by rw[U,(AA:ae=A.length/2),O,a7,List.take_length,hA,DE h.red k.mem hq.mem m]
 refine AB hE (J8 h.tail.red hq.mem H h0) ?_;rintro b7 a8 af aP ⟨az,P⟩ aq V;have I:aq=em u b:=by rw[V,(AA:af=B.length/2),P,a8,List.take_length,hB,DE h.red ha.mem hb.mem o]
 refine AB hE (Kp h.tail.red hb.mem I h1) ?_;intro b8 aI ai aC ar W b9 aJ aj aD au a1;have d:an=tw u:=by rw[S,List.drop_zero,(AA:ah=T.length-1),hT,Ey]
 have J:ar=em u p:=by rw[W,List.drop_zero,(AA:ai=A.length/2),hA,DX h.red k.mem hq.mem m]
 have K:au=em u a:=by rw[a1,List.drop_zero,(AA:aj=B.length/2),hB,DX h.red ha.mem hb.mem o]
 obtain⟨z,f⟩:=xR (em u (p*a));obtain⟨aN,g⟩:=xN z.length;refine AB hE (ih d J K k ha AA f g) ?_;rintro ba aK ak aE av a2 bb aa ag aQ ⟨aA,Q⟩ aw a5;have L:av=em u p:=by rw[a2,List.drop_zero,(AA:ak=A.length/2),hA,DX h.red k.mem hq.mem m]
 have M:aw=em u b:=by rw[a5,(AA:ag=B.length/2),Q,aa,List.take_length,hB,DE h.red ha.mem hb.mem o]
 obtain⟨D,j⟩:=xR (em u (p*b));refine AB hE (EW (ih d L M k hb AA j rfl)) ?_;have aF:z.length=2^u.length:=by rw[f,B9 (k.mul h.tail ha).mem]
 have aL:=Ea h.tail.ht;have aG:D.length=2^u.length:=by rw[j,B9 (k.mul h.tail hb).mem]
 refine .inl ⟨D,fun _=>⟨rfl,g,rfl,Ck (z.length+D.length) 64⟩,?_⟩;intro (N:LR) ax G;have a6:N=(z:LR)++(D:LR):=G.1;have ab:ax=List.length (α:=(el AJ)) N:=G.2;conv=>cbv
 refine g2 rfl ?_;have F:C=N:=by rw[hC,a6,f,j];exact Gp h.red (k.mul h.tail ha).mem (k.mul h.tail hb).mem (by rw[m,o,h0];clear ih;grind)
 exact AN ⟨⟨rfl,.inr (.inl ⟨_,_,AD,rfl,rfl,ab,rfl,Dm (F) (by rw[al,F])⟩),trivial⟩,trivial⟩
def nF (h:BT R (r::u)) (ih:OY R u) (hT:T=tw (r::u)) (hA:A=em (r::u) x) (hB:B=em (r::u) y) (hx:El (r::u) s x) (hy:El (r::u) t y) (b5:s+t+EE (r::u).length R<=60000000000000) (k:x=p+q*rt u r) (O:El u s p) (M:El u s q) (m:y=a+b*rt u r) (ha:El u t a) (hb:El u t b) (h0:q≠0) (h1:b=0) (hC:C=em (r::u) (x*y)) (an:zn=C.length):CF 106 [BF T,AQ A,AQ B] (.one (.own AJ C zn)):=by
 have b1:EE (r::u).length R=2*EE u.length R+R+2:=rfl;have b3:=El.D9 h;have hR:=h.hR;have b4:=De h.red;have b2:T.length=u.length+1:=by rw[hT,Cq];rfl
 have aZ:A.length=2^u.length+2^u.length:=by rw[hA,B9 hx.mem,Cc]
 have b0:B.length=2^u.length+2^u.length:=by rw[hB,B9 hy.mem,Cc]
 refine AL Tryz.func106 fun E hE=>?_
 rintro bd ⟨aS,f14⟩;refine BY (fun ae=>?_) fun ae=>?_
 ·exact absurd ae AA
 rintro bf ⟨aT,f25⟩ bg aW bh ⟨aU,f29⟩ bj aX b6 aI ai aC ao U bk ⟨aV,f34⟩ bl aY;refine BA ((T.length-1)) fun bm aN=>?_
 refine AM ?_;rintro b7 a8 af aP ⟨az,P⟩ aq V;have G:aq=em u q:=by rw[V,(AA:af=A.length/2),P,a8,List.take_length,hA,DE h.red O.mem M.mem k]
 refine AB hE (Kp h.tail.red M.mem G h0) ?_;rintro b8 aa ag aQ ⟨aA,Q⟩ ar W;have H:ar=em u b:=by rw[W,(AA:ag=B.length/2),Q,aa,List.take_length,hB,DE h.red ha.mem hb.mem m]
 refine AB hE (J8 h.tail.red hb.mem H h1) ?_;intro b9 aJ aj aD au a1 ba aK ak aE av a2;have d:ao=tw u:=by rw[U,List.drop_zero,(AA:ai=T.length-1),hT,Ey]
 have I:au=em u p:=by rw[a1,List.drop_zero,(AA:aj=A.length/2),hA,DX h.red O.mem M.mem k]
 have J:av=em u a:=by rw[a2,List.drop_zero,(AA:ak=B.length/2),hB,DX h.red ha.mem hb.mem m]
 obtain⟨o,f⟩:=xR (em u (p*a));obtain⟨aO,g⟩:=xN o.length;refine AB hE (ih d I J O ha AA f g) ?_;rintro bb ab ah aR ⟨aB,S⟩ aw a5 bc aL al aF ax a6;have K:aw=em u q:=by rw[a5,(AA:ah=A.length/2),S,ab,List.take_length,hA,DE h.red O.mem M.mem k]
 have L:ax=em u a:=by rw[a6,List.drop_zero,(AA:al=B.length/2),hB,DX h.red ha.mem hb.mem m]
 obtain⟨z,j⟩:=xR (em u (q*a));refine AB hE (EW (ih d K L M ha AA j rfl)) ?_;have aG:o.length=2^u.length:=by rw[f,B9 (O.mul h.tail ha).mem]
 have aM:=Ea h.tail.ht;have aH:z.length=2^u.length:=by rw[j,B9 (M.mul h.tail ha).mem]
 refine .inl ⟨z,fun _=>⟨rfl,g,rfl,Ck (o.length+z.length) 64⟩,?_⟩;intro (N:LR) ay F;have a7:N=(o:LR)++(z:LR):=F.1;have ad:ay=List.length (α:=(el AJ)) N:=F.2;conv=>cbv
 refine g2 rfl ?_;have D:C=N:=by rw[hC,a7,f,j];exact Gp h.red (O.mul h.tail ha).mem (M.mul h.tail ha).mem (by rw[k,m,h1];clear ih;grind)
 exact AN ⟨⟨rfl,.inr (.inl ⟨_,_,AD,rfl,rfl,ad,rfl,Dm (D) (by rw[an,D])⟩),trivial⟩,trivial⟩
def nE (h:BT R (r::u)) (ih:OY R u) (hT:T=tw (r::u)) (hA:A=em (r::u) x) (hB:B=em (r::u) y) (hx:El (r::u) s x) (hy:El (r::u) t y) (bR:s+t+EE (r::u).length R<=60000000000000) (m:x=p+q*rt u r) (k:El u s p) (f:El u s q) (o:y=a+b*rt u r) (ha:El u t a) (hb:El u t b) (h0:q≠0) (h1:b≠0) (hC:C=em (r::u) (x*y)) (b3:zn=C.length):CF 106 [BF T,AQ A,AQ B] (.one (.own AJ C zn)):=by
 have bO:EE (r::u).length R=2*EE u.length R+R+2:=rfl;have O:=El.D9 h;have hR:=h.hR;have bQ:=De h.red;have bP:T.length=u.length+1:=by rw[hT,Cq];rfl
 have bM:A.length=2^u.length+2^u.length:=by rw[hA,B9 hx.mem,Cc]
 have bN:B.length=2^u.length+2^u.length:=by rw[hB,B9 hy.mem,Cc]
 refine AL Tryz.func106 fun E J=>?_
 rintro bZ ⟨bF,f14⟩;refine BY (fun aJ=>?_) fun aJ=>?_
 ·exact absurd aJ AA
 rintro c0 ⟨bG,f25⟩ c1 bJ c2 ⟨bH,f29⟩ c3 bK bS bo aT bk b4 ay c4 ⟨bI,f34⟩ c5 bL;refine BA ((T.length-1)) fun bb W=>?_
 refine AM ?_;rintro bT aF aP bB ⟨bf,au⟩ b5 az;have ab:b5=em u q:=by rw[az,(AA:aP=A.length/2),au,aF,List.take_length,hA,DE h.red k.mem f.mem m]
 refine AB J (Kp h.tail.red f.mem ab h0) ?_;rintro bU aG aQ bC ⟨bg,av⟩ b6 aA;have ad:b6=em u b:=by rw[aA,(AA:aQ=B.length/2),av,aG,List.take_length,hB,DE h.red ha.mem hb.mem o]
 refine AB J (Kp h.tail.red hb.mem ad h1) ?_;intro bV bp aU bl b7 aB bW bq aV bm b8 aC;have d:b4=tw u:=by rw[ay,List.drop_zero,(AA:aT=T.length-1),hT,Ey]
 have ae:b7=em u p:=by rw[aB,List.drop_zero,(AA:aU=A.length/2),hA,DX h.red k.mem f.mem m]
 have af:b8=em u a:=by rw[aC,List.drop_zero,(AA:aV=B.length/2),hB,DX h.red ha.mem hb.mem o]
 obtain⟨c6,S⟩:=xR (em u (p*a));refine AB J (EW (ih d ae af k ha AA S rfl)) ?_;rintro bX aH aR bD ⟨bh,aw⟩ b9 aD bY aI aS bE ⟨bj,ax⟩ ba aE;have ag:b9=em u q:=by rw[aD,(AA:aR=A.length/2),aw,aH,List.take_length,hA,DE h.red k.mem f.mem m]
 have ah:ba=em u b:=by rw[aE,(AA:aS=B.length/2),ax,aI,List.take_length,hB,DE h.red ha.mem hb.mem o]
 obtain⟨c7,U⟩:=xR (em u (q*b));refine AB J (EW (ih d ag ah f hb AA U rfl)) ?_;have al:bb=em u (AU u r):=by rw[hT,HG] at W;exact (Option.some.inj W).symm.trans (F2 h.red)
 obtain⟨c8,V⟩:=xR (em u (q*b*AU u r));refine AB J (EW (ih d U al (f.mul h.tail hb) O AA V rfl)) ?_;obtain⟨P,F⟩:=xR (em u (p*a+q*b*AU u r));obtain⟨bA,G⟩:=xN P.length;refine AB J (Y3 h.tail S V (k.mul h.tail ha) ((f.mul h.tail hb).mul h.tail O) AA AA F G) ?_;rintro bs b1 aq aY aK a5 bt ai an bc ⟨aW,a1⟩ aL a6;have K:aK=em u p:=by rw[a5,List.drop_zero,(AA:aq=A.length/2),hA,DX h.red k.mem f.mem m]
 have L:aL=em u b:=by rw[a6,(AA:an=B.length/2),a1,ai,List.take_length,hB,DE h.red ha.mem hb.mem o]
 obtain⟨bx,z⟩:=xR (em u (p*b));refine AB J (EW (ih d K L k hb AA z rfl)) ?_;rintro bu aj ao bd ⟨aX,a2⟩ aM a7 bw b2 ar aZ aN a8;have M:aM=em u q:=by rw[a7,(AA:ao=A.length/2),a2,aj,List.take_length,hA,DE h.red k.mem f.mem m]
 have N:aN=em u a:=by rw[a8,List.drop_zero,(AA:ar=B.length/2),hB,DX h.red ha.mem hb.mem o]
 obtain⟨bz,D⟩:=xR (em u (q*a));refine AB J (EW (ih d M N f ha AA D rfl)) ?_;obtain⟨j,g⟩:=xR (em u (p*b+q*a));refine AB J (Lz h.tail z D (k.mul h.tail hb) (f.mul h.tail ha) AA AA g) ?_;have bn:P.length=2^u.length:=by rw[F,B9 (EP (k.mul h.tail ha).mem ((f.mul h.tail hb).mul h.tail O).mem)]
 have b0:j.length=2^u.length:=by rw[g,B9 (EP (k.mul h.tail hb).mem (f.mul h.tail ha).mem)]
 have br:=Ea h.tail.ht;refine .inl ⟨j,fun _=>⟨rfl,G,rfl,Ck (P.length+j.length) 64⟩,?_⟩;intro (H:LR) aO I;have aa:H=(P:LR)++(j:LR):=I.1;have ak:aO=List.length (α:=(el AJ)) H:=I.2;conv=>cbv
 refine g2 rfl ?_;have Q:C=H:=by rw[hC,aa,F,g];exact Gp h.red (EP (k.mul h.tail ha).mem ((f.mul h.tail hb).mul h.tail O).mem) (EP (k.mul h.tail hb).mem (f.mul h.tail ha).mem) (by rw[m,o];clear ih;grind)
 exact AN ⟨⟨rfl,.inr (.inl ⟨_,_,AD,rfl,rfl,ak,rfl,Dm (Q) (by rw[b3,Q])⟩),trivial⟩,trivial⟩
def kI (h:BT R u):OY R u:=by
 induction u with
 | nil=>
  intro T A B C zn s t x y H o z k m f D d;obtain⟨p,rfl⟩:=DZ.1 k.mem;obtain⟨q,rfl⟩:=DZ.1 m.mem;rw[E5] at o z;rw[<-Re.ofRat_mul,E5] at D;have F:=k.Cy AA;have G:=m.Cy AA;rw[D5] at F G;exact nD H o z (F _ List.mem_cons_self) (G _ List.mem_cons_self) D d
 | cons r u K=>
  intro T A B C zn s t x y H o z k m f D d;obtain⟨p,q,g,F,G⟩:=El.parts h.red k;obtain⟨a,b,j,ha,hb⟩:=El.parts h.red m
  by_cases J:q=0
  ·by_cases I:b=0
   ·exact nH h (K h.tail) H o z k m f g F G j ha hb J I D d
   exact nG h (K h.tail) H o z k m f g F G j ha hb J I D d
  by_cases I:b=0
  ·exact nF h (K h.tail) H o z k m f g F G j ha hb J I D d
  exact nE h (K h.tail) H o z k m f g F G j ha hb J I D d
def FP (h:BT R u) (k:T=tw u) (f:A=em u x) (g:B=em u y) (m:El u s x) (o:El u t y) (d:s+t+EE u.length R<=60000000000000) (j:C=em u (x*y)):
 CF 106 [BF T,AQ A,AQ B] (AQ C):=EW (kI h k f g m o d j rfl)
end
section
open Go.RowKit Go.Shelf Go.Proofs
def Rz:Ren:=⟨fun k=>if k=4 then 351 else 0,fun k=>if k=3 then 3 else if k=4 then 4 else if k=9 then 9 else if k=20 then 20 else if k=22 then 26 else if k=25 then 68 else 0,fun k=>k⟩
def qm:Lays8.n4 Tryz.prog Rz where
 mixed:=dr
 f4:=⟨Tryz.f351.name,by kernel_rfl,by kernel_rfl⟩
 t0:=by kernel_rfl
 a0:=by intro w;kernel_rfl
 z0:=by intro w;kernel_rfl
 v0:=by intro w;kernel_rfl
 t3:=by kernel_rfl
 a3:=by intro w;kernel_rfl
 z3:=by intro w;kernel_rfl
 v3:=by intro w;kernel_rfl
 t4:=by kernel_rfl
 a4:=by intro w;kernel_rfl
 z4:=by intro w;kernel_rfl
 v4:=by intro w;kernel_rfl
 t9:=by kernel_rfl
 a9:=by intro w;kernel_rfl
 z9:=by intro w;kernel_rfl
 v9:=by intro w;kernel_rfl
 t20:=by kernel_rfl
 a20:=by intro w;kernel_rfl
 z20:=by intro w;kernel_rfl
 v20:=by intro w;kernel_rfl
 t22:=by kernel_rfl
 a22:=by intro w;kernel_rfl
 z22:=by intro w;kernel_rfl
 v22:=by intro w;kernel_rfl
def ky {n:Int} {k:Nat} (N:AZ n k) (M:0<k) (S:k<=1000000:=by omega):CF 351 [.one .nil,AH n] (.one (.own AJ [] 0)):=by
 refine .mk ⟨_,_,Tryz.func351,by kernel_rfl,rfl⟩ ⟨rfl,rfl⟩ fun w I vs Q g=>?_
 match vs,g with
 | [v1,v2],.cons F (.cons H _)=>
  have e1:v1= .slice none 0 0:=by rcases F with h | h;cases h;exact h
  have e2:v2= .int .i64 k:=by rcases H with h | h;cases h;rw[<-N.eq];exact h
  subst e1;subst e2;obtain⟨_,i0,z,f,O,hb,_,j,D⟩:=(jd 26).sl rfl
  have m:z.cells.size=4:=by
   have:=(D (LL w I)).length;rw[L6] at this;have e:(TI 26).elem.size=4:=rfl;rw[e] at this;simpa using this.symm
  have d:i0.bytes=64:=hb;have P:i0.size=4:=O;have J:=Any8.slices_Grow_grow qm i0 z f j AA none 0 0 k [] w AA AA (by rw[d];omega) AA AS (fun _=>rfl) (fun a h=>by cases h);refine J.mono fun e w' ⟨he,hw⟩=>?_
  have K:=grownCap_ge w (0+k) 0 (Rz.t 25);have hle:=grownCap_le_maxLen w (0+k) 0 (Rz.t 25) (by unfold maxLen;omega)
  generalize grownCap w (0+k) 0 (Rz.t 25)=G at*
  subst hw
  have L:∀o:Obj,(w.drew.alloc o).heap[w.heap.size]? =some o:=fun o=>by
   show (w.heap.push o)[w.heap.size]? =_
   rw[Array.getElem?_push,if_pos rfl]
  refine⟨_,some w.heap.size,he,((Below.refl _ _).drew).alloc (Nat.le_refl _) _,.inr ⟨rfl,_,_,rfl,Nat.zero_le _,hle,Nat.zero_le _,.inr ⟨_,_,_,rfl,Nat.le_refl _,rfl,L _,?_,fun i y h=>by simp at h⟩⟩⟩
  show G*4<=_
  simp[size_zeroCells,m];omega
end
section
variable {Z x:LR} {zn:Nat}
def bj {X:List LR} {i:Nat} (h:X[i]? =some x):(X.take (i+1)).flatten=(X.take i).flatten++x:=by
 rw[EM h,List.flatten_append];simp
def bh {X:List LR} {i m:Nat} (h:X[i]? =some x) (hm:m=(X.take i).flatten.length):m+x.length=(X.take (i+1)).flatten.length:=by
 rw[bj h,List.length_append,hm]
def bg (X:List LR) (i:Nat):(X.take i).flatten.length<=X.flatten.length:=by
 conv=>rhs;rw[<-List.take_append_drop i X,List.flatten_append,List.length_append]
 omega
def YH {X:LR} (F:X.length<=1000000) (g:zn=X.length):CF 293 [AQ X] (.one (.own AJ X zn)):=by
 refine AL Tryz.func293 fun E D=>?_
 intro n4 o;refine⟨fun m=>?_,?_⟩
 ·conv=>cbv
  have d:X=[]:=by rw[o] at m;simpa using m
  exact AN ⟨⟨rfl,.inr (.inr ⟨_,Dm (d) (by rw[g,d];rfl)⟩),trivial⟩,trivial⟩
 refine⟨[],fun _=>⟨rfl,AD,rfl,trivial⟩,.inl ?_⟩;try conv=>cbv
 refine .inl ⟨X,fun _=>⟨rfl,by (first | rfl | omega),rfl,Ck (0+X.length) 64⟩,?_⟩;intro (k:LR) z h;have f:k=([]:LR)++(X:LR):=h.1;have j:z=List.length (α:=(el AJ)) k:=h.2;conv=>cbv
 exact AN ⟨⟨rfl,.inr (.inl ⟨_,_,AD,rfl,rfl,by rw[j],rfl,Dm (by rw[f];simp) (by rw[g,f];simp)⟩),trivial⟩,trivial⟩
def YG {X:LR} (d:X.length<=1000000):CF 293 [AQ X] (AQ X):=EW (YH d rfl)
def kZ {X:List LR} (h0:0<X.flatten.length) (hX:X.flatten.length<=1000000) (hZ:Z=X.flatten) (a1:zn=Z.length):CF 344 [BF X] (.one (.own AJ Z zn)):=by
 refine AL Tryz.func344 fun E hE=>?_
 intro a6 h;have af:=h.eq;have f10:=h.le;refine BX [] [0,3,9,10,11] [] (fun vs P k=>∃(i' m':Nat) (m L i:Int),vs=[BF X,AH m,BF X,AH L,AH i]/\(EN L X.length/\AZ i i'/\i'<=X.length/\AZ m m')/\m'=(X.take i').flatten.length/\k=X.length-i') (X.length-0) ⟨0,0,0,a6,0,rfl,⟨h,BM 0,AA,BM 0⟩,rfl,rfl⟩ ?_;rintro J0 Q vs P aq ⟨i',m',m,L,i,rfl,⟨G,V,W,hm⟩,hinv,an⟩;conv=>cbv
 have eL:=G.eq;have ei:=V.eq;have em:=hm.eq;refine Dk (fun a2=>?_) fun a2=>?_
 ·refine .inr ?_;refine BA i' fun ae M=>?_
  refine Af ?_;rintro au ⟨ag,f17⟩;have H:=bh M hinv;have U:=bg X (i'+1);refine AM ?_;intro a7 ai a8 F;refine .inr ?_;cases a8 <;> conv=>cbv
  ·have N:=EY F;refine AM ?_;intro aa aj;exact Bj Q ⟨i'+1,m'+ae.length,a7,L,aa,rfl,⟨G,⟨AA⟩,AA,⟨AA⟩⟩,H,rfl⟩
  have N:=EZ F;exact absurd N AA
 have al:m'=X.flatten.length:=by rw[hinv,(AA:i'=X.length),List.take_length]
 refine AB hE (ky hm AA) ?_;intro ab j;have ah:=j.eq;have f26:=j.le;refine BX [] [6,25,26,27] [24] (fun vs P k=>∃(i' mm:Nat) (o:LR) (L i:Int),vs=[.one (.Aj AJ 24 0 0 mm),BF X,AH L,AH i]/\P=[.arr 0 AJ o]/\(EN L X.length/\AZ i i'/\i'<=X.length/\mm=o.length)/\o=(X.take i').flatten/\k=X.length-i') (X.length-0) ⟨0,0,[],ab,0,rfl,rfl,⟨j,BM 0,AA,rfl⟩,rfl,rfl⟩ ?_;rintro J1 S vs P ar ⟨i',mm,o,L,i,rfl,rfl,⟨G,V,W,J⟩,hinv,ao⟩;conv=>cbv
 have eL:=G.eq;have ei:=V.eq;refine Bi (fun a5=>?_) fun a5=>?_
 ·have d:Z=o:=by rw[hZ,hinv,(AA:i'=X.length),List.take_length]
  exact AN ⟨⟨rfl,.inr (.inl ⟨_,_,AD,rfl,rfl,J,rfl,Dm (d) (by rw[a1,d])⟩),trivial⟩,trivial⟩
 refine .inr ?_;refine BA i' fun D f=>?_
 try conv=>cbv
 have H:=bh f (congrArg _ hinv);have U:=bg X (i'+1);refine .inl ⟨D,fun _=>⟨rfl,J,rfl,Ck (o.length+D.length) 64⟩,?_⟩;intro (z:LR) O g;have I:z=(o:LR)++(D:LR):=g.1;have K:O=List.length (α:=(el AJ)) z:=g.2;refine AM ?_;intro ad ak;exact Bj S ⟨i'+1,O,z,L,ad,rfl,rfl,⟨G,⟨AA⟩,AA,by rw[K]⟩,by rw[I,hinv,bj f],rfl⟩
def RD {A B:LR} (f:0<A.length) (g:A.length+B.length<=1000000) (d:Z=A++B):CF 344 [.one (.sl (.sl AJ) [A,B])] (AQ Z):=
 EW (kZ (X:=[A,B]) (by simp;omega) (by simp;omega) (by simp[d]) rfl)
end
section
def Yj (f:FuncId) (R:Nat) (u:AG):Prop:=∀{T:List LR} {A:LR} {s:Nat} {x:Re} {c:Int},T=tw u->A=em u x->El u s x->VV u.length R s<=60000000000000->c=Bv x->
 CF f [BF T,AQ A] (.one (.int .i64 c))
variable {A:LR} {R s:Nat} {T:List LR} {c:Int} {u:AG} {x:Re}
def yT {p:Rat} (o:T=[]) (j:A=[rp p]) (z:c=Ef p):CF 179 [BF T,AQ A] (AH c):=by
 refine AL Tryz.func179 fun E m=>?_
 rintro D ⟨h,f14⟩;refine Cw (fun g=>?_) fun g=>?_
 ·exact absurd (by rw[h,o];rfl) g
 have k:A.length=1:=by rw[j];rfl
 refine BA 0 fun G f=>?_
 try conv=>cbv
 obtain⟨F,d⟩:=xI (Ef p);refine AB m (QL (Ge j f) d) ?_;exact AO (z.trans d.symm)
def yU {r:List Rat} (h:BT R (r::u)) (ih:Yj 179 R u) (hT:T=tw (r::u)) (hA:A=em (r::u) x) (hx:El (r::u) s x) (hs:VV (r::u).length R s<=60000000000000) (hc:c=Bv x):CF 179 [BF T,AQ A] (AH c):=by
 obtain⟨p,q,m,F,z⟩:=El.parts h.red hx;have ay:T.length=u.length+1:=by rw[hT,Cq];rfl
 have ax:A.length=2^u.length+2^u.length:=by rw[hA,B9 hx.mem,Cc]
 have aA:VV (r::u).length R s=VV u.length R (2*s+2*EE u.length R+R+1):=rfl;have aB:=Hc u.length R (2*s+2*EE u.length R+R+1);have az:=J4 u.length R (s:=s) (t:=2*s+2*EE u.length R+R+1) AA;have hN:=El.norm h F.mem z.mem (m ▸ hx);have a1:=El.D9 h;have D:=gT h.red;have ab:=De h.red;refine AL Tryz.func179 fun E K=>?_
 rintro aF ⟨aq,f14⟩;refine BY (fun a5=>?_) fun a5=>?_
 ·exact absurd a5 AA
 rintro aG ⟨ar,f21⟩ a6 av aH ⟨au,f24⟩ aI aw aC al a8 aj ad S aD an aa ak ae U aE W a7 ao ⟨ai,Q⟩ af V;have d:ad=tw u:=by rw[S,List.drop_zero,(AA:a8=T.length-1),hT,Ey]
 have j:ae=em u p:=by rw[U,List.drop_zero,(AA:aa=A.length/2),hA,DX h.red F.mem z.mem m]
 have k:af=em u q:=by rw[V,(AA:a7=A.length/2),Q,W,List.take_length,hA,DE h.red F.mem z.mem m]
 obtain⟨aK,f⟩:=xI (Bv p);refine AB K (ih d j F AA f) ?_;obtain⟨aL,g⟩:=xI (Bv q);refine AB K (ih d k z AA g) ?_;refine .inr ?_;refine BY (fun M=>?_) fun M=>?_
 ·exact AO (by rw[hc,f,m];exact S8 D (.inl (G0.1 (g ▸ M))))
 refine BY (fun N=>?_) fun N=>?_
 ·exact AO (by rw[hc,f,m];exact S8 D (.inr (by rw[<-f,<-g];exact N)))
 refine BY (fun O=>?_) fun O=>?_
 ·exact AO (by rw[hc,g,m];exact iQ D (G0.1 (f ▸ O)))
 obtain⟨aM,G⟩:=xR (em u (p*p));refine AB K (JP h.tail d j j F F AA G) ?_;refine BA ((a6).toNat) fun ah a2=>?_
 try conv=>cbv
 have L:ah=BV r:=by have:=HG r u;rw[<-hT,(AA:T.length-1=a6.toNat),a2] at this;exact Option.some.inj this
 obtain⟨aN,H⟩:=xR (em u (q*q));refine AB K (JP h.tail d k k z z AA H) ?_;obtain⟨aO,I⟩:=xR (em u (AU u r*(q*q)));refine AB K (JP h.tail d (L.trans (F2 h.red)) H a1 (z.mul h.tail z) AA I) ?_;obtain⟨aP,J⟩:=xR (em u (p*p-AU u r*(q*q)));refine AB K (QN h.tail d G I (F.mul h.tail F) (a1.mul h.tail (z.mul h.tail z)) AA AA J) ?_;obtain⟨ag,o⟩:=xI (Bv (p*p-q*q*AU u r));refine AB (r:= .one (.int .i64 ag)) K (ih d (J.trans (by congr 1;clear ih;grind)) hN AA o) ?_;intro aJ P;refine⟨fun _=>by rw[P,f,o];exact iJ _ _,?_⟩;exact AO (by rw[hc,P,f,o,m];exact iP D ab (fun e=>O (by rw[f,e];exact Ht)) (fun e=>M (by rw[g,e];exact Ht)) (by rw[<-f,<-g];exact N))
def js (h:BT R u):Yj 179 R u:=by
 induction u with
 | nil=>
  intro T A s x c f d j k g;obtain⟨p,rfl⟩:=DZ.1 j.mem;rw[E5] at d;exact yT f d (g.trans (iL p))
 | cons r u m=>
  intro T A s x c f d j k g;exact yU h (m h.tail) f d j k g
def lT (h:BT R u) (j:T=tw u) (hs:VV u.length R R<=60000000000000):CF 239 [BF T] (.one (.bool true)):=by
 have a7:T.length=u.length:=by rw[j,Cq]
 have G:El u 0 0:=El.rat h.red IP;refine AL Tryz.func239 fun E J=>?_
 obtain⟨ag,ah,ae,af,EH⟩:=Ca (((0:Int):Rat));refine AB J (JR AA rfl EH) ?_;obtain⟨w8,F⟩:=xR (em u (0));refine AB J (Ls h j EH ⟨by decide +kernel,by decide +kernel⟩ F) ?_;refine AB (r:= .one (.bool true)) J (Jv j h.IF F (G.Cy AA) (by rw[G.len,List.length_reverse];exact (decide_eq_true rfl).symm)) ?_;refine BG ?_;intro Q f;have a5:=f.eq;have f12:=f.le;refine BX [] [0,11,12,13] [] (fun vs bl k=>∃(i':Nat) (L i:Int),vs=[BF T,BF T,AH L,AH i]/\(EN L T.length/\AZ i i'/\i'<=T.length)/\k=T.length-i') (T.length-0) ⟨0,Q,0,rfl,⟨f,BM 0,AA⟩,rfl⟩ ?_;rintro J0 M vs bl ab ⟨i',L,i,rfl,⟨W,hi,a8⟩,aa⟩;conv=>cbv
 have eL:=W.eq;have ei:=hi.eq;refine Bi (fun O=>?_) fun O=>?_
 ·exact AN ⟨t2,trivial⟩
 refine .inr ?_;refine BA i' fun V H=>?_
 try conv=>cbv
 obtain⟨r,D,z⟩:=MZ (u:=u) (i:=i') AA;have o:BE (r::pre u i'):=D ▸ (h.pre (i'+1)).red;have N:V=BV r:=by rw[<-j,H] at z;exact Option.some.inj z
 refine AM ?_;intro ad a2 K a1 P m;have g:P=tw (pre u i'):=by rw[m,List.drop_zero,(AA:K=i'),j,KT]
 obtain⟨U,d⟩:=xI (Bv (AU (pre u i') r));refine AB (r:= .one (.int .i64 U)) J (js (h.pre i') g (N.trans (F2 o)) (El.D9 (D ▸ h.pre (i'+1))) (by rw[LV AA];exact Nat.le_trans (OW AA R R) hs) d) ?_;refine zQ (fun I=>?_) fun I=>?_
 ·exact absurd I (by rw[d,JG o.2.2.1];omega)
 intro S a6;exact Bj M ⟨i'+1,L,S,rfl,⟨W,⟨AA⟩,AA⟩,rfl⟩
def qj {L:List LR} (h:BT R u) (H:T=tw u) (Q:VV u.length R R<=60000000000000) (M:∀l∈L,∃x,l=em u x/\El u s x) (j:s<=60000000000000:=by omega):CF 178 [BF T,BF L] (.one (.bool true)):=by
 refine AL Tryz.func178 fun E G=>?_
 intro U f;have W:=f.eq;have f8:=f.le;refine BX [] [0,7,8,9] [] (fun vs J k=>∃(i':Nat) (m i:Int),vs=[BF T,BF L,AH m,AH i]/\(EN m L.length/\AZ i i'/\i'<=L.length)/\k=L.length-i') (L.length-0) ⟨0,U,0,rfl,⟨f,BM 0,AA⟩,rfl⟩ ?_;rintro V g vs J S ⟨i',m,i,rfl,⟨hm,N,O⟩,P⟩;conv=>cbv
 have em:=hm.eq;have ei:=N.eq;refine Bi (fun z=>?_) fun z=>?_
 ·refine AB G (lT h H Q) ?_;exact AN ⟨t2,trivial⟩
 refine .inr ?_;refine BA i' fun F d=>?_
 try conv=>cbv
 obtain⟨x,o,I⟩:=M F (List.mem_of_getElem? d);refine AB (r:= .one (.bool true)) G (Jv H h.IF o (I.Cy j) (by rw[I.len,List.length_reverse];exact (decide_eq_true rfl).symm)) ?_;refine BG ?_;intro D K;exact Bj g ⟨i'+1,m,D,rfl,⟨hm,⟨AA⟩,AA⟩,rfl⟩
def OU (h:BT R u) (g:T=tw u) (d:A=em u x) (j:El u s x) (z:VV u.length R s<=60000000000000) (hR:VV u.length R R<=60000000000000) (k:c=Bv x):CF 122 [BF T,AQ A] (AH c):=by
 have m:=Hc u.length R s;refine AL Tryz.func122 fun E f=>?_
 refine⟨[A],Cj,.inr ?_⟩;try conv=>cbv
 refine AB f (qj h g hR (fun l o=>⟨x,(List.mem_singleton.1 o).trans d,j⟩)) ?_;refine BG ?_;refine AB f (js h g d j z k) ?_;exact AN ⟨t2,trivial⟩
end
section
variable {A B l:LR} {R k0 s:Nat} {T:List LR} {i n p q t w x:Re} {r:List Rat} {u:AG}
def cR {C:LR} {y:Re} (h:BT R u) (j:T=tw u) (k:A=em u y) (z:El u s y) (ht:t=Re.ofRat (1/2)) (o:s+1+EE u.length R<=60000000000000) (m:C=em u (t*y)):CF 346 [BF T,AQ A] (AQ C):=by
 refine AL Tryz.func346 fun E f=>?_
 obtain⟨H,I,F,G,DR⟩:=Ca (1/2:Rat);refine AB f (UG AA AA AA (by decide +kernel) DR) ?_;obtain⟨D,d⟩:=xR (em u (t));refine AB (r:= .one (AT D)) f (Ls h j DR ⟨by decide +kernel,by decide +kernel⟩ (d.trans (by rw[ht]))) ?_;have g:El u 1 t:=ht ▸ El.rat h.red Oh;refine AB (r:= .one (AT C)) f (JP h j k d z g o (by rw[m];congr 1;grind)) ?_;exact AN ⟨t2,trivial⟩
def xX {q r:Rat} (I:T=[]) (z:A=[rp q]) (G:B=[rp r]) (L:Ch q) (D:0<=r) (K:r*r=q):CF 333 [BF T,AQ A] (.BI [(false,[AT B]),(false,[.bool true])]):=by
 refine AL Tryz.func333 fun E H=>?_
 rintro M ⟨o,f27⟩;refine Cw (fun g=>?_) fun g=>?_
 ·exact absurd (by rw[o,I];rfl) g
 have F:A.length=1:=by rw[z];rfl
 refine BA 0 fun N f=>?_
 try conv=>cbv
 have J:=Ge z f;obtain⟨k,m,h,j,d⟩:=Ca r;refine AB H (lS J L D K d) ?_;refine⟨[((k,m),(h,j))],Cj,.inl ?_⟩;try conv=>cbv
 exact AN ⟨⟨rfl,.inl ⟨_,rfl,AS,congrArg _ (by rw[G,d.rp];rfl)⟩,trivial⟩,t2,trivial⟩
def xW {q:Rat} (o:T=[]) (h:A=[rp q]) (k:B=[(((false,[]),(false,[])):el AJ)]) (F:Ch q) (D:¬∃r:Rat,0<=r/\r*r=q):CF 333 [BF T,AQ A] (.BI [(false,[AT B]),(false,[.bool false])]):=by
 refine AL Tryz.func333 fun E m=>?_
 rintro G ⟨g,f27⟩;refine Cw (fun f=>?_) fun f=>?_
 ·exact absurd (by rw[g,o];rfl) f
 have j:A.length=1:=by rw[h];rfl
 refine BA 0 fun H d=>?_
 try conv=>cbv
 have z:=Ge h d;refine AB m (lR z F D) ?_;refine⟨[((false,[]),(false,[]))],Cj,.inl ?_⟩;try conv=>cbv
 exact AN ⟨⟨rfl,.inl ⟨_,rfl,AS,congrArg _ (by rw[k];rfl)⟩,trivial⟩,t2,trivial⟩
def JU (f:FuncId) (u:AG) (x w:Re):Prop:=∀{T:List LR} {A B:LR},T=tw u->A=em u x->B=em u w->CF f [BF T,AQ A] (.BI [(false,[AT B]),(false,[.bool true])])
def JT (f:FuncId) (u:AG) (x:Re) (l:LR):Prop:=∀{T:List LR} {A:LR},T=tw u->A=em u x->CF f [BF T,AQ A] (.BI [(false,[AT l]),(false,[.bool false])])
def Yg (f:FuncId) (R:Nat) (u:AG):Prop:=∀{s:Nat} {x:Re},El u s x->QQ u.length R s<=60000000000000->(∃w,In u w/\w*w=x/\JU f u x w)\/(¬Sq u x/\∃l,l.length<=2^u.length/\JT f u x l)
def xk (h:BT R (r::u)) (U:T=tw (r::u)) (S:A=em (r::u) x) (hx:El (r::u) s x) (J:x=p+q*rt u r) (hp:El u s p) (V:El u s q) (hs:QQ (r::u).length R s<=60000000000000) (h0:q=0) (hw:In u w) (hy:JU 333 u p w) (hB:B=em (r::u) w):CF 333 [BF T,AQ A] (.BI [(false,[AT B]),(false,[.bool true])]):=by
 have aB:T.length=u.length+1:=by rw[U,Cq];rfl
 have aA:A.length=2^u.length+2^u.length:=by rw[S,B9 hx.mem,Cc]
 have aG:=El.D9 h;have aH:=De h.red;have ah:=Ea h.tail.ht;have aD:=D7 u.length;have W:El u 0 0:=El.rat h.red.1 IP;have aE:QQ (r::u).length R s=max (QQ u.length R (3*s+3*EE u.length R+R+GG u.length R+3+II u.length R R)) (s+II u.length R (2*(3*s+3*EE u.length R+R+GG u.length R+3+II u.length R R+GG u.length R)+1)+EE u.length R):=rfl;have aF:=Jy u.length R (3*s+3*EE u.length R+R+GG u.length R+3+II u.length R R);have aC:=GH u.length R (2*(3*s+3*EE u.length R+R+GG u.length R+3+II u.length R R+GG u.length R)+1);refine AL Tryz.func333 fun E o=>?_
 rintro aL ⟨ao,f27⟩;refine BY (fun K=>?_) fun K=>?_
 ·exact absurd K AA
 rintro aM ⟨aq,f41⟩ aN aw aI af P aa a2 D aO ⟨ar,f46⟩ L ax;refine BA ((L).toNat) fun a7 I=>?_
 refine AM ?_;rintro aP ⟨au,f52⟩ Eu ay aJ ag Q ab a5 F aQ ⟨av,f57⟩ aR az aK H O an ⟨a8,z⟩ a6 G;have d:a2=tw u:=by rw[D,List.drop_zero,(AA:P=T.length-1),U,Ey]
 have a1:a7=BV r:=by have:=HG r u;rw[<-U,(AA:T.length-1=L.toNat),I] at this;exact Option.some.inj this
 have k:a5=em u p:=by rw[F,List.drop_zero,(AA:Q=A.length/2),S,DX h.red hp.mem V.mem J]
 have m:a6=em u q:=by rw[G,(AA:O=A.length/2),z,H,List.take_length,S,DE h.red hp.mem V.mem J]
 refine AB o (L3 h.red.1 V.mem m h0) ?_;obtain⟨M,f⟩:=xR (em u w);refine AB o (hy d k f) ?_;obtain⟨ak,al,ai,aj,j⟩:=Ca (((0:Int):Rat));refine AB o (JR AA rfl j) ?_;obtain⟨N,g⟩:=xR (em u (0));refine AB o (Ls h.tail d j ⟨by decide +kernel,by decide +kernel⟩ g) ?_;refine⟨[M,N],fun _=>⟨rfl,AD,rfl,⟨rfl,DB,⟨rfl,DB,trivial⟩⟩⟩,.inr ?_⟩;try conv=>cbv
 have ad:M.length=2^u.length:=by rw[f,B9 hw]
 have ae:N.length=2^u.length:=by rw[g,B9 W.mem]
 refine AB (r:= .one (AT B)) o (RD AA AA (by rw[hB,f,g];exact Gp h.red hw (C0 u) (by grind))) ?_;exact AN ⟨t2,t2,trivial⟩
def xl (h:BT R (r::u)) (hT:T=tw (r::u)) (hA:A=em (r::u) x) (hx:El (r::u) s x) (O:x=p+q*rt u r) (hp:El u s p) (hq:El u s q) (hs:QQ (r::u).length R s<=60000000000000) (h0:q=0) (hi:In u i) (L:AU u r*i=1) (hn:JT 333 u p l) (hw:In u w) (hy:JU 333 u (p*i) w) (hB:B=em (r::u) (w*rt u r)):CF 333 [BF T,AQ A] (.BI [(false,[AT B]),(false,[.bool true])]):=by
 have aD:T.length=u.length+1:=by rw[hT,Cq];rfl
 have aC:A.length=2^u.length+2^u.length:=by rw[hA,B9 hx.mem,Cc]
 have M:=El.D9 h;have aI:=De h.red;have aj:=Ea h.tail.ht;have aF:=D7 u.length;have a5:El u 0 0:=El.rat h.red.1 IP;have aG:QQ (r::u).length R s=max (QQ u.length R (3*s+3*EE u.length R+R+GG u.length R+3+II u.length R R)) (s+II u.length R (2*(3*s+3*EE u.length R+R+GG u.length R+3+II u.length R R+GG u.length R)+1)+EE u.length R):=rfl;have aH:=Jy u.length R (3*s+3*EE u.length R+R+GG u.length R+3+II u.length R R);have aE:=GH u.length R (2*(3*s+3*EE u.length R+R+GG u.length R+3+II u.length R R+GG u.length R)+1);refine AL Tryz.func333 fun E k=>?_
 rintro aM ⟨ar,f27⟩;refine BY (fun P=>?_) fun P=>?_
 ·exact absurd P AA
 rintro aN ⟨au,f41⟩ aO ay aJ ah W ad a6 H aP ⟨av,f46⟩ Q az;refine BA ((Q).toNat) fun aa N=>?_
 refine AM ?_;rintro aQ ⟨aw,f52⟩ Eu aA aK ai a1 ae a7 I aR ⟨ax,f57⟩ aS aB aL K V aq ⟨ab,G⟩ a8 J;have d:a6=tw u:=by rw[H,List.drop_zero,(AA:W=T.length-1),hT,Ey]
 have F:aa=BV r:=by have:=HG r u;rw[<-hT,(AA:T.length-1=Q.toNat),N] at this;exact Option.some.inj this
 have f:a7=em u p:=by rw[I,List.drop_zero,(AA:a1=A.length/2),hA,DX h.red hp.mem hq.mem O]
 have D:a8=em u q:=by rw[J,(AA:V=A.length/2),G,K,List.take_length,hA,DE h.red hp.mem hq.mem O]
 refine AB k (L3 h.red.1 hq.mem D h0) ?_;refine AB k (hn d f) ?_;obtain⟨aT,m⟩:=xR (em u i);have a2:=M.inv h.tail hi L;refine AB k (QH h.tail d (F.trans (F2 h.red)) M hi L AA m) ?_;refine BG ?_;obtain⟨aU,o⟩:=xR (em u (p*i));refine AB k (JP h.tail d f m hp a2 AA o) ?_;obtain⟨S,g⟩:=xR (em u w);refine AB k (hy d o g) ?_;obtain⟨an,ao,ak,al,z⟩:=Ca (((0:Int):Rat));refine AB k (JR AA rfl z) ?_;obtain⟨U,j⟩:=xR (em u (0));refine AB k (Ls h.tail d z ⟨by decide +kernel,by decide +kernel⟩ j) ?_;refine⟨[U,S],fun _=>⟨rfl,AD,rfl,⟨rfl,DB,⟨rfl,DB,trivial⟩⟩⟩,.inr ?_⟩;try conv=>cbv
 have af:S.length=2^u.length:=by rw[g,B9 hw]
 have ag:U.length=2^u.length:=by rw[j,B9 a5.mem]
 refine AB (r:= .one (AT B)) k (RD AA AA (by rw[hB,g,j];exact Gp h.red (C0 u) hw (by grind))) ?_;exact AN ⟨t2,t2,trivial⟩
def xm (h:BT R (r::u)) (hT:T=tw (r::u)) (W:A=em (r::u) x) (hx:El (r::u) s x) (N:x=p+q*rt u r) (hp:El u s p) (hq:El u s q) (hs:QQ (r::u).length R s<=60000000000000) {l2:LR} (h0:q=0) (hi:In u i) (K:AU u r*i=1) (hn:JT 333 u p l) (hy:JT 333 u (p*i) l2) (aD:l2.length<=2^u.length) (hB:B=em u 0++l2):CF 333 [BF T,AQ A] (.BI [(false,[AT B]),(false,[.bool false])]):=by
 have aB:T.length=u.length+1:=by rw[hT,Cq];rfl
 have aA:A.length=2^u.length+2^u.length:=by rw[W,B9 hx.mem,Cc]
 have L:=El.D9 h;have aH:=De h.red;have ah:=Ea h.tail.ht;have aE:=D7 u.length;have a2:El u 0 0:=El.rat h.red.1 IP;have aF:QQ (r::u).length R s=max (QQ u.length R (3*s+3*EE u.length R+R+GG u.length R+3+II u.length R R)) (s+II u.length R (2*(3*s+3*EE u.length R+R+GG u.length R+3+II u.length R R+GG u.length R)+1)+EE u.length R):=rfl;have aG:=Jy u.length R (3*s+3*EE u.length R+R+GG u.length R+3+II u.length R R);have aC:=GH u.length R (2*(3*s+3*EE u.length R+R+GG u.length R+3+II u.length R R+GG u.length R)+1);refine AL Tryz.func333 fun E j=>?_
 rintro aL ⟨ao,f27⟩;refine BY (fun O=>?_) fun O=>?_
 ·exact absurd O AA
 rintro aM ⟨aq,f41⟩ aN aw aI af U ab a5 G aO ⟨ar,f46⟩ P ax;refine BA ((P).toNat) fun a8 M=>?_
 refine AM ?_;rintro aP ⟨au,f52⟩ Eu ay aJ ag V ad a6 H aQ ⟨av,f57⟩ aR az aK J S an ⟨aa,F⟩ a7 I;have d:a5=tw u:=by rw[G,List.drop_zero,(AA:U=T.length-1),hT,Ey]
 have D:a8=BV r:=by have:=HG r u;rw[<-hT,(AA:T.length-1=P.toNat),M] at this;exact Option.some.inj this
 have f:a6=em u p:=by rw[H,List.drop_zero,(AA:V=A.length/2),W,DX h.red hp.mem hq.mem N]
 have z:a7=em u q:=by rw[I,(AA:S=A.length/2),F,J,List.take_length,W,DE h.red hp.mem hq.mem N]
 refine AB j (L3 h.red.1 hq.mem z h0) ?_;refine AB j (hn d f) ?_;obtain⟨aS,k⟩:=xR (em u i);have a1:=L.inv h.tail hi K;refine AB j (QH h.tail d (D.trans (F2 h.red)) L hi K AA k) ?_;refine BG ?_;obtain⟨aT,m⟩:=xR (em u (p*i));refine AB j (JP h.tail d f k hp a1 AA m) ?_;refine AB j (hy d m) ?_;obtain⟨ak,al,ai,aj,o⟩:=Ca (((0:Int):Rat));refine AB j (JR AA rfl o) ?_;obtain⟨Q,g⟩:=xR (em u (0));refine AB j (Ls h.tail d o ⟨by decide +kernel,by decide +kernel⟩ g) ?_;refine⟨[Q,l2],fun _=>⟨rfl,AD,rfl,⟨rfl,DB,⟨rfl,DB,trivial⟩⟩⟩,.inr ?_⟩;try conv=>cbv
 have ae:Q.length=2^u.length:=by rw[g,B9 a2.mem]
 refine AB (r:= .one (AT B)) j (RD AA AA (by rw[hB,g])) ?_;exact AN ⟨t2,t2,trivial⟩
def xZ (h:BT R (r::u)) (J:T=tw (r::u)) (I:A=em (r::u) x) (hx:El (r::u) s x) (j:x=p+q*rt u r) (Q:El u s p) (K:El u s q) (hs:QQ (r::u).length R s<=60000000000000) (h0:q≠0) (hn:JT 333 u (p*p-q*q*AU u r) l) (hB:B=[]):CF 333 [BF T,AQ A] (.BI [(false,[AT B]),(false,[.bool false])]):=by
 have aq:T.length=u.length+1:=by rw[J,Cq];rfl
 have ao:A.length=2^u.length+2^u.length:=by rw[I,B9 hx.mem,Cc]
 have ax:=El.D9 h;have ay:=De h.red;have aa:=Ea h.tail.ht;have au:=D7 u.length;have az:El u 0 0:=El.rat h.red.1 IP;have av:QQ (r::u).length R s=max (QQ u.length R (3*s+3*EE u.length R+R+GG u.length R+3+II u.length R R)) (s+II u.length R (2*(3*s+3*EE u.length R+R+GG u.length R+3+II u.length R R+GG u.length R)+1)+EE u.length R):=rfl;have aw:=Jy u.length R (3*s+3*EE u.length R+R+GG u.length R+3+II u.length R R);have ar:=GH u.length R (2*(3*s+3*EE u.length R+R+GG u.length R+3+II u.length R R+GG u.length R)+1);refine AL Tryz.func333 fun E O=>?_
 rintro aD ⟨ae,f27⟩;refine BY (fun G=>?_) fun G=>?_
 ·exact absurd G AA
 rintro aE ⟨af,f41⟩ aF aj aA a7 M a5 U m aG ⟨ag,f46⟩ H ak;refine BA ((H).toNat) fun a1 F=>?_
 refine AM ?_;rintro aH ⟨ah,f52⟩ Eu al aB a8 N a6 V o aI ⟨ai,f57⟩ aJ an aC D L ad ⟨a2,k⟩ W z;have f:U=tw u:=by rw[m,List.drop_zero,(AA:M=T.length-1),J,Ey]
 have S:a1=BV r:=by have:=HG r u;rw[<-J,(AA:T.length-1=H.toNat),F] at this;exact Option.some.inj this
 have P:V=em u p:=by rw[o,List.drop_zero,(AA:N=A.length/2),I,DX h.red Q.mem K.mem j]
 have g:W=em u q:=by rw[z,(AA:L=A.length/2),k,D,List.take_length,I,DE h.red Q.mem K.mem j]
 refine AB O (J9 h.red.1 K.mem g h0) ?_;obtain⟨ab,d⟩:=xR (em u (p*p-q*q*AU u r));refine AB O (UN h J I hx j Q.mem K.mem AA d) ?_;refine AB O (hn f d) ?_;refine CN ?_;exact AN ⟨⟨rfl,.inr (.inl ⟨_,congrArg _ (hB)⟩),trivial⟩,t2,trivial⟩
def jj {a b:Re} {y:Nat->Re} {x:LR} {i:Nat} (h:[A,B][i]? =some x) (g:A=em u a) (j:B=em u b) (d:y 0=a) (f:y 1=b):x=em u (y i):=by
 match i,h with
 | 0,h=>rw[d,<-g];exact (Option.some.inj h).symm
 | 1,h=>rw[f,<-j];exact (Option.some.inj h).symm
 | i+2,h=>simp at h
def xj {f:FuncId} {y:Nat->Re} {L:Nat->LR} {i:Nat} {b:Bool} (o:i<=k0) (d:∀i,i<k0->JT f u (t*y i) (L i)) (g:JU f u (t*y k0) w) (hb:b=decide (i=k0)) (k:B=if i=k0 then em u w else L i) (m:T=tw u) (j:A=em u (t*y i)):
  CF f [BF T,AQ A] (.BI [(false,[AT B]),(false,[.bool b])]):=by
 by_cases h:i=k0
 ·subst h;rw[hb,decide_eq_true rfl];exact g m j (by rw[k,if_pos rfl])
 rw[hb,decide_eq_false h,k,if_neg h];exact d i AA m j
def El.half {y:Re} (h:El u s y) (hu:BT R u) (ht:t=Re.ofRat (1/2)):El u (s+1+EE u.length R) (t*y):=by
 have d:El u 1 t:=ht ▸ El.rat hu.red Oh;have:=d.mul hu h;rwa [(AA:1+s+EE u.length R=s+1+EE u.length R)] at this
def xg (h:BT R (r::u)) (hT:T=tw (r::u)) (hA:A=em (r::u) x) (hx:El (r::u) s x) (K:x=p+q*rt u r) (O:El u s p) (hq:El u s q) (hs:QQ (r::u).length R s<=60000000000000) (h0:q≠0) (hn:In u n) (ak:n*n=p*p-q*q*AU u r) (ht:t=Re.ofRat (1/2)) (au:JU 333 u (p*p-q*q*AU u r) n) {y:Nat->Re} (ao:y 0=p+n) (aq:y 1=p-n) (ar:∀i,El u (s+(2*s+2*EE u.length R+R+1+GG u.length R)+1) (y i)) {L:Nat->LR} (aj:k0<=2) (al:∀i,i<k0->JT 333 u (t*y i) (L i)) (aX:k0=2) (hB:B=[]):CF 333 [BF T,AQ A] (.BI [(false,[AT B]),(false,[.bool false])]):=by
 have aU:T.length=u.length+1:=by rw[hT,Cq];rfl
 have aT:A.length=2^u.length+2^u.length:=by rw[hA,B9 hx.mem,Cc]
 have b1:=El.D9 h;have b2:=De h.red;have aE:=Ea h.tail.ht;have aY:=D7 u.length;have b3:El u 0 0:=El.rat h.red.1 IP;have aZ:QQ (r::u).length R s=max (QQ u.length R (3*s+3*EE u.length R+R+GG u.length R+3+II u.length R R)) (s+II u.length R (2*(3*s+3*EE u.length R+R+GG u.length R+3+II u.length R R+GG u.length R)+1)+EE u.length R):=rfl;have b0:=Jy u.length R (3*s+3*EE u.length R+R+GG u.length R+3+II u.length R R);have aV:=GH u.length R (2*(3*s+3*EE u.length R+R+GG u.length R+3+II u.length R R+GG u.length R)+1);have hN:=El.norm h O.mem hq.mem (K ▸ hx);refine AL Tryz.func333 fun E M=>?_
 rintro b8 ⟨aJ,f27⟩;refine BY (fun a5=>?_) fun a5=>?_
 ·exact absurd a5 AA
 rintro b9 ⟨aK,f41⟩ ba aP b5 aC af aA a6 Q bb ⟨aL,f46⟩ ab aQ;refine BA ((ab).toNat) fun aw a1=>?_
 refine AM ?_;rintro bc ⟨aM,f52⟩ Eu aR b6 aD ag aB av S bd ⟨aN,f57⟩ bf aS b7 V ae aI ⟨az,P⟩ a7 U;have d:a6=tw u:=by rw[Q,List.drop_zero,(AA:af=T.length-1),hT,Ey]
 have an:aw=BV r:=by have:=HG r u;rw[<-hT,(AA:T.length-1=ab.toNat),a1] at this;exact Option.some.inj this
 have j:av=em u p:=by rw[S,List.drop_zero,(AA:ag=A.length/2),hA,DX h.red O.mem hq.mem K]
 have N:a7=em u q:=by rw[U,(AA:ae=A.length/2),P,V,List.take_length,hA,DE h.red O.mem hq.mem K]
 refine AB M (J9 h.red.1 hq.mem N h0) ?_;obtain⟨aF,o⟩:=xR (em u (p*p-q*q*AU u r));refine AB M (UN h hT hA hx K O.mem hq.mem AA o) ?_;obtain⟨aG,f⟩:=xR (em u n);have W:=hN.sqrt h.tail hn ak;refine AB M (au d o f) ?_;refine BG ?_;obtain⟨H,z⟩:=xR (em u (p+n));refine AB M (Mr h.tail d j f O W AA AA z) ?_;obtain⟨I,D⟩:=xR (em u (p-n));refine AB M (QN h.tail d j f O W AA AA D) ?_;refine⟨[H,I],fun _=>⟨rfl,AD,rfl,⟨rfl,DB,⟨rfl,DB,trivial⟩⟩⟩,.inr ?_⟩;refine Af ?_;intro a8 g;have ax:=g.eq;have f118:=g.le;refine BX [] [8,11,117,118,119] [] (fun vs bl k=>∃(i':Nat) (m i:Int),vs=[BF a6,AQ a7,.one (.sl (.sl AJ) [H,I]),AH m,AH i]/\(AZ m 2/\AZ i i'/\i'<=k0)/\k=2-i') (2-0) ⟨0,a8,0,rfl,⟨⟨g.eq⟩,BM 0,AA⟩,rfl⟩ ?_
 rintro J0 ah vs bl b4 ⟨i',m,i,rfl,⟨hM,ai,aW⟩,aj⟩;conv=>cbv
 have eM:=hM.eq;have aO:=ai.eq;refine Bi (fun a2=>?_) fun a2=>?_
 ·exact AN ⟨⟨rfl,.inr (.inl ⟨_,congrArg _ (hB)⟩),trivial⟩,t2,trivial⟩
 refine .inr ?_;obtain⟨ad,G⟩:=CE (l:=[H,I]) (i:=i') (by show _<2;omega);refine CJ G ?_;have J:ad=em u (y i'):=jj G z D ao aq;obtain⟨aH,F⟩:=xR (em u (t*y i'));refine AB M (cR h.tail d J (ar i') ht AA F) ?_;refine AB M (al i' AA d F) ?_;refine CN ?_;intro aa ay;exact Bj ah ⟨i'+1,m,aa,rfl,⟨hM,⟨AA⟩,AA⟩,rfl⟩
def xe (h:BT R (r::u)) (hT:T=tw (r::u)) (hA:A=em (r::u) x) (hx:El (r::u) s x) (a5:x=p+q*rt u r) (hp:El u s p) (hq:El u s q) (hs:QQ (r::u).length R s<=60000000000000) (h0:q≠0) (hn:In u n) (aF:n*n=p*p-q*q*AU u r) (ht:t=Re.ofRat (1/2)) (aM:JU 333 u (p*p-q*q*AU u r) n) {y:Nat->Re} (aK:y 0=p+n) (aL:y 1=p-n) (ai:∀i,El u (s+(2*s+2*EE u.length R+R+1+GG u.length R)+1) (y i)) {L:Nat->LR} (aC:k0<=2) (aG:∀i,i<k0->JT 333 u (t*y i) (L i)) (bk:k0<2) {j:Re} (hw:In u w) (aI:w*w=t*y k0) (aH:w≠0) (aN:JU 333 u (t*y k0) w) (hj:In u j) (ag:(w+w)*j=1) (hB:B=em (r::u) (w+q*j*rt u r)):CF 333 [BF T,AQ A] (.BI [(false,[AT B]),(false,[.bool true])]):=by
 have bh:T.length=u.length+1:=by rw[hT,Cq];rfl
 have bg:A.length=2^u.length+2^u.length:=by rw[hA,B9 hx.mem,Cc]
 have br:=El.D9 h;have bs:=De h.red;have aY:=Ea h.tail.ht;have bo:=D7 u.length;have bt:El u 0 0:=El.rat h.red.1 IP;have bp:QQ (r::u).length R s=max (QQ u.length R (3*s+3*EE u.length R+R+GG u.length R+3+II u.length R R)) (s+II u.length R (2*(3*s+3*EE u.length R+R+GG u.length R+3+II u.length R R+GG u.length R)+1)+EE u.length R):=rfl;have bq:=Jy u.length R (3*s+3*EE u.length R+R+GG u.length R+3+II u.length R R);have bj:=GH u.length R (2*(3*s+3*EE u.length R+R+GG u.length R+3+II u.length R R+GG u.length R)+1);have hN:=El.norm h hp.mem hq.mem (a5 ▸ hx);refine AL Tryz.func333 fun E F=>?_
 rintro bA ⟨b5,f27⟩;refine BY (fun aj=>?_) fun aj=>?_
 ·exact absurd aj AA
 rintro bB ⟨b6,f41⟩ bC bb bw aW av aU ak aa bD ⟨b7,f46⟩ aq bc;refine BA ((aq).toNat) fun aP ah=>?_
 refine AM ?_;rintro bE ⟨b8,f52⟩ Eu bd bx aX aw aV aO ab bF ⟨b9,f57⟩ bG bf bz ae au b4 ⟨aT,a8⟩ al ad;have d:ak=tw u:=by rw[aa,List.drop_zero,(AA:av=T.length-1),hT,Ey]
 have aJ:aP=BV r:=by have:=HG r u;rw[<-hT,(AA:T.length-1=aq.toNat),ah] at this;exact Option.some.inj this
 have H:aO=em u p:=by rw[ab,List.drop_zero,(AA:aw=A.length/2),hA,DX h.red hp.mem hq.mem a5]
 have I:al=em u q:=by rw[ad,(AA:au=A.length/2),a8,ae,List.take_length,hA,DE h.red hp.mem hq.mem a5]
 refine AB F (J9 h.red.1 hq.mem I h0) ?_;obtain⟨aZ,J⟩:=xR (em u (p*p-q*q*AU u r));refine AB F (UN h hT hA hx a5 hp.mem hq.mem AA J) ?_;obtain⟨b0,o⟩:=xR (em u n);have af:=hN.sqrt h.tail hn aF;refine AB F (aM d J o) ?_;refine BG ?_;obtain⟨V,K⟩:=xR (em u (p+n));refine AB F (Mr h.tail d H o hp af AA AA K) ?_;obtain⟨W,M⟩:=xR (em u (p-n));refine AB F (QN h.tail d H o hp af AA AA M) ?_;refine⟨[V,W],fun _=>⟨rfl,AD,rfl,⟨rfl,DB,⟨rfl,DB,trivial⟩⟩⟩,.inr ?_⟩;refine Af ?_;intro an G;have aR:=G.eq;have f118:=G.le;refine BX [] [8,11,117,118,119] [] (fun vs bl k=>∃(i':Nat) (m i:Int),vs=[BF ak,AQ al,.one (.sl (.sl AJ) [V,W]),AH m,AH i]/\(AZ m 2/\AZ i i'/\i'<=k0)/\k=2-i') (2-0) ⟨0,an,0,rfl,⟨⟨G.eq⟩,BM 0,AA⟩,rfl⟩ ?_
 rintro J0 ax vs bl bu ⟨i',m,i,rfl,⟨hM,ay,az⟩,aC⟩;conv=>cbv
 have eM:=hM.eq;have ba:=ay.eq;refine Bi (fun a6=>?_) fun a6=>?_
 ·exact absurd a6 AA
 refine .inr ?_;obtain⟨ar,S⟩:=CE (l:=[V,W]) (i:=i') (by show _<2;omega);refine CJ S ?_;have a2:ar=em u (y i'):=jj S K M aK aL;obtain⟨b1,N⟩:=xR (em u (t*y i'));refine AB F (cR h.tail d a2 (ai i') ht AA N) ?_;obtain⟨aQ,g⟩:=xB (decide (i'=k0));obtain⟨a1,O⟩:=xR (if i'=k0 then em u w else L i');refine AB F (xj az aG aN g O d N) ?_;refine IH (fun U=>?_) fun U=>?_
 ·intro ao aS;have bn:i'≠k0:=of_decide_eq_false (g.symm.trans U);exact Bj ax ⟨i'+1,m,ao,rfl,⟨hM,⟨AA⟩,AA⟩,rfl⟩
 have aA:i'=k0:=of_decide_eq_true (g.symm.trans U);have f:a1=em u w:=by rw[O,if_pos aA]
 have D:El u (s+(2*s+2*EE u.length R+R+1+GG u.length R)+1+1+EE u.length R+GG u.length R) w:=(((ai k0).half h.tail ht).sqrt h.tail hw aI);have aB:=(D.add h.red.1 D).inv h.tail hj ag;have bm:=Lt u.length R (s:=s+(2*s+2*EE u.length R+R+1+GG u.length R)+1+1+EE u.length R+GG u.length R+(s+(2*s+2*EE u.length R+R+1+GG u.length R)+1+1+EE u.length R+GG u.length R)+1) (t:=2*(3*s+3*EE u.length R+R+GG u.length R+3+II u.length R R+GG u.length R)+1) AA;refine AB F (J9 h.red.1 hw f aH) ?_;obtain⟨b2,P⟩:=xR (em u (w+w));refine AB F (Mr h.tail d f f D D AA AA P) ?_;obtain⟨b3,Q⟩:=xR (em u j);refine AB F (QH h.tail d P (D.add h.red.1 D) hj ag AA Q) ?_;obtain⟨a7,z⟩:=xR (em u (q*j));refine AB F (JP h.tail d I Q hq aB AA z) ?_;refine⟨[a1,a7],fun _=>⟨rfl,AD,rfl,⟨rfl,DB,⟨rfl,DB,trivial⟩⟩⟩,.inr ?_⟩
 try conv=>cbv
 have aD:a1.length=2^u.length:=by rw[f,B9 hw]
 have aE:a7.length=2^u.length:=by rw[z,B9 (BL h.red.1 hq.mem hj)]
 refine AB (r:= .one (AT B)) F (RD AA AA (by rw[hB,f,z];exact Gp h.red hw (BL h.red.1 hq.mem hj) rfl)) ?_;exact AN ⟨t2,t2,trivial⟩
end
section
def cQ {t:Re} (ht:t=Re.ofRat (1/2)):2*t=1:=by
 have e2:(2:Re)=Re.ofRat 2:=rfl;rw[ht,e2,<-Re.ofRat_mul,show (2:Rat)*(1/2)=1 by decide +kernel];rfl
def Xr {u:AG} {R:Nat} (h:BT R u):Yg 333 R u:=by
 induction u with
 | nil=>
  intro s x H N;obtain⟨q,rfl⟩:=DZ.1 H.mem
  have ab:Ch q:=by
   have:=H.Cy (by have:=Jy ([]:AG).length R s;omega);rw[D5] at this;exact this q List.mem_cons_self
  by_cases hr:∃r:Rat,0<=r/\r*r=q
  ·obtain⟨r,J,hr⟩:=hr;refine .inl ⟨Re.ofRat r,G8 r _,by rw[<-Re.ofRat_mul,hr],?_⟩;intro T A B o k U;exact xX o (k.trans (E5 q)) (U.trans (E5 r)) ab J hr
  refine .inr ⟨fun N=>hr (jI.1 N),[(((false,[]),(false,[])):el AJ)],?_,?_⟩
  rotate_left
  ·intro T A o k;exact xW o (k.trans (E5 q)) rfl ab hr
  simp
 | cons r u g=>
  have g:Yg 333 R u:=g h.tail;intro s x H N;obtain⟨p,q,d,z,K⟩:=El.parts h.red H;have aw:QQ (r::u).length R s=max (QQ u.length R (3*s+3*EE u.length R+R+GG u.length R+3+II u.length R R)) (s+II u.length R (2*(3*s+3*EE u.length R+R+GG u.length R+3+II u.length R R+GG u.length R)+1)+EE u.length R):=rfl;have hQ:∀s',s'<=3*s+3*EE u.length R+R+GG u.length R+3+II u.length R R->QQ u.length R s'<=60000000000000:=fun s' h'=>Nat.le_trans (QK u.length R h') AA
  have ao:=El.D9 h;have aq:=De h.red
  by_cases J:q=0
  ·have W:x=p:=by rw[d,J];clear g;grind
   rcases g z (hQ _ AA) with⟨w,hw,f,hy⟩ |⟨F,l,hl,hn⟩
   ·refine .inl ⟨w,Gb hw,by rw[W];exact f,?_⟩;intro T A B o k U;exact xk h o k H d z K N J hw hy U
   obtain⟨i,M,G⟩:=FV h.red.1 (Ci h.red) (by have:=h.red.2.2.1;grind);have ai:=ao.inv h.tail M G;rcases g (z.mul h.tail ai) (hQ _ AA) with⟨w,hw,f,hy⟩ |⟨a8,l2,aj,al⟩
   ·refine .inl ⟨w*rt u r,DK.2 ⟨0,w,C0 u,hw,by clear g;grind⟩,?_,?_⟩
    ·have:p=p*(AU u r*i):=by rw[G];clear g;grind
     rw[W];clear g;grind
    intro T A B o k U;exact xl h o k H d z K N J M G hn hw hy U
   refine .inr ⟨?_,em u 0++l2,?_,?_⟩
   ·rw[W,jG h.red z.mem];rintro (h1 |⟨i',ar,aa,h1⟩)
    ·exact F h1
    have:i'=i:=by
     have:i'=i'*(AU u r*i):=by rw[G];clear g;grind
     have h2:i=i*(AU u r*i'):=by rw[aa];clear g;grind
     clear g;grind
    rw[this] at h1;exact a8 h1
   ·rw[List.length_append,B9 (C0 u),Cc];omega
   intro T A o k;exact xm h o k H d z K N J M G hn al aj rfl
  have hN:=El.norm h z.mem K.mem (d ▸ H);rcases g hN (hQ _ AA) with⟨n,hn,D,ah⟩ |⟨F,l,hl,an⟩
  rotate_left
  ·refine .inr ⟨fun hS=>F (jK h.red z.mem K.mem (d ▸ hS)),[],Nat.zero_le _,?_⟩;intro T A o k;exact xZ h o k H d z K N J an rfl
  have a5:=hN.sqrt h.tail hn D;obtain⟨t,ht⟩:∃t:Re,t=Re.ofRat (1/2):=⟨_,rfl⟩
  have V:=cQ ht;obtain⟨y,hy⟩:∃y:Nat->Re,y=fun i=>if i=0 then p+n else p-n:=⟨_,rfl⟩
  have O:y 0=p+n:=by rw[hy];rfl
  have P:y 1=p-n:=by rw[hy];rfl
  have Q:∀i,El u (s+(2*s+2*EE u.length R+R+1+GG u.length R)+1) (y i):=fun i=>by
   rw[hy]
   show El u _ (if i=0 then p+n else p-n)
   by_cases M:i=0
   ·rw[if_pos M];exact z.add h.red.1 a5
   rw[if_neg M];exact z.sub h.red.1 a5
  have S:∀(k0:Nat) (L:Nat->LR) (w:Re),k0<2->(∀i,i<k0->JT 333 u (t*y i) (L i))->In u w->w*w=t*y k0->JU 333 u (t*y k0) w->
    ∃w,In (r::u) w/\w*w=x/\JU 333 (r::u) x w:=by
   intro k0 L w hk F hw f I
   have key:∃m,m*m=p*p-q*q*AU u r/\y k0=p+m:=by
    rcases (AA:k0=0\/k0=1) with rfl | rfl
    ·exact⟨n,D,O⟩
    exact⟨-n,by rw[<-D];clear g;grind,by rw[P];clear g;grind⟩
   obtain⟨m,a1,ag⟩:=key;have ad:w≠0:=jF h.red J a1 V (by rw[f,ag])
   have af:w+w≠0:=by
    intro e;have e1:2*w=0:=by clear g;grind
    rcases Re.F3 e1 with e | e
    ·exact TR e
    exact ad e
   obtain⟨j,hj,ae⟩:=FV h.red.1 (EP hw hw) af;refine⟨w+q*j*rt u r,DK.2 ⟨_,_,hw,BL h.red.1 K.mem hj,rfl⟩,?_,?_⟩
   ·rw[d];exact jE a1 V aq (by rw[f,ag]) ae rfl
   intro T A B o k U;exact xe h o k H d z K N J hn D ht ah O P Q AA F hk hw f ad I hj ae U
  have hb:QQ u.length R (s+(2*s+2*EE u.length R+R+1+GG u.length R)+1+1+EE u.length R)<=60000000000000:=hQ _ AA;rcases g ((Q 0).half h.tail ht) hb with⟨w,hw,f,I⟩ |⟨a6,l0,au,a2⟩
  ·exact .inl (S 0 (fun _=>[]) w AA (fun i M=>AA) hw f I)
  rcases g ((Q 1).half h.tail ht) hb with⟨w,hw,f,I⟩ |⟨a7,l1,av,ak⟩
  ·exact .inl (S 1 (fun _=>l0) w AA (fun i M=>by rw[(AA:i=0)];exact a2) hw f I)
  refine .inr ⟨fun hS=>?_,[],Nat.zero_le _,?_⟩
  ·rcases jL h.red z.mem K.mem (d ▸ hS) D V with e | e
   ·exact a6 (by rw[O];exact e)
   exact a7 (by rw[P];exact e)
  intro T A o k
  exact xg h o k H d z K N J hn D ht ah O P Q (L:=fun i=>if i=0 then l0 else l1) (Nat.le_refl 2) (fun i M=>by
   rcases (AA:i=0\/i=1) with rfl | rfl
   ·exact a2
   exact ak) rfl rfl
end
section
variable {A B:LR} {R s:Nat} {T:List LR} {u:AG} {v x:Re}
def aL {V:Nat} (hl:∀x∈T,x.length<=1000000) (a8:T.length<=1000) (I:V=T.length):CF 319 [BF T] (.one (.own (.sl AJ) T V)):=by
 refine AL Tryz.func319 fun E hE=>?_
 rintro n7 ⟨e7,f7⟩;refine⟨fun _=>⟨AA,AA,by show _*24<=140737488355328;omega⟩,?_⟩;intro K (M:List (el (.sl AJ))) F;have a7:=F.1;have H:M=List.replicate K ([]:el (.sl AJ)):=F.2;have a1:M.length=K:=by rw[H,List.length_replicate]
 refine Af ?_;intro N h;have W:=h.eq;have f10:=h.le;refine BX [] [3,9,10,11] [8] (fun vs P k=>∃(o:List LR) (m i':Nat) (L i:Int),vs=[.one (.Aj (.sl AJ) 8 0 0 m),BF T,AH L,AH i]/\P=[.arr 0 (.sl AJ) o]/\(o.length=T.length/\m=T.length/\EN L T.length/\AZ i i'/\i'<=T.length)/\o.take i'=T.take i'/\k=T.length-i') (T.length-0) ⟨M,K,0,N,0,rfl,rfl,⟨AA,AA,h,BM 0,AA⟩,rfl,rfl⟩ ?_;rintro J0 G vs P aa ⟨o,m,i',L,i,rfl,rfl,⟨ho,hm,S,hi,a5⟩,hinv,a6⟩;conv=>cbv
 have eL:=S.eq;have ei:=hi.eq;refine Bi (fun J=>?_) fun J=>?_
 ·have d:T=o:=by rw[<-List.take_length (l:=T),<-show i'=T.length by omega,<-hinv,List.take_of_length_le AA]
  exact AN ⟨⟨rfl,.inr (.inl ⟨_,_,AD,rfl,rfl,AA,rfl,Dm (d) (by rw[I,<-d])⟩),trivial⟩,trivial⟩
 refine .inr ?_;refine BA i' fun z g=>?_
 try conv=>cbv
 refine AB hE (YG (hl z (List.mem_of_getElem? g))) ?_;intro D U;refine⟨z,fun _=>⟨by show _<List.length (α:=(el (.sl AJ))) o;(first | omega | (simp;omega)),DB⟩,?_⟩;intro (j:List (el (.sl AJ))) (f:j=List.set (α:=(el (.sl AJ))) o D z);have Q:j.length=o.length:=by rw[f,List.length_set]
 refine AM ?_;intro O a2;refine⟨T.length-(i'+1),?_,?_⟩
 ·omega
 rw[G];refine⟨j,m,i'+1,L,O,rfl,rfl,⟨AA,AA,S,⟨AA⟩,AA⟩,?_,rfl⟩;rw[f,(AA:D=i'),TL AA,hinv,<-EM g]
def oh (f:∀x∈T,x.length<=1000000) (d:T.length<=1000):CF 319 [BF T] (BF T):=EW (aL f d rfl)
def jg (h:BT R u) (k:T=tw u):∀x∈T,x.length<=1000000:=by
 intro x f;rw[k,tw] at f;obtain⟨y,m,rfl⟩:=List.mem_map.1 f;obtain⟨i,d⟩:=List.mem_iff_getElem?.1 m;have g:=Nx h.red i y d;have j:=EX d;rw[List.length_reverse] at j;have h3:=h.ht;rw[List.length_map,g];exact Nat.le_trans (Ea) AD
def LK:Bv x<0↔x<0:=by
 rcases Gz x with⟨a,b⟩ |⟨a,b⟩ |⟨a,b⟩ <;> rw[b]
 ·exact⟨fun _=>a,fun _=>AD⟩
 ·rw[a];exact⟨HB,fun h=>by grind⟩
 exact⟨HB,fun h=>by grind⟩
def uW (h:BT R u) (G:T=tw u) (K:A=em u x) (M:El u s x) (F:Fit u.length R s) {w:Re} (hw:In u w) (g:w*w=x) (N:JU 333 u x w) (m:0<=v) (o:v*v=x) (J:B=em u v):CF 318 [BF T,AQ A] (.BI [(false,[AT B]),(false,[.bool true])]):=by
 have z:=M.sqrt h hw g;refine AL Tryz.func318 fun E D=>?_
 obtain⟨P,d⟩:=xR (em u w);refine AB D (N G K d) ?_;refine BG ?_;obtain⟨O,k⟩:=xI (Bv w);refine AB D (OU h G d z F.v F.vR k) ?_;intro I j;refine .inr ?_;cases I <;> conv=>cbv
 ·have H:=EY j;exact AN ⟨⟨rfl,congrArg _ (by rw[J,d];congr 1;have:¬w<0:=(fun L=>by have:=LK.2 L;omega);exact Re.N2 m (by grind) (o.trans g.symm)),trivial⟩,t2,trivial⟩
 have H:=EZ j;obtain⟨Q,f⟩:=xR (em u (-w));refine AB D (YW h G d z (Nat.le_trans (Hc u.length R _) F.v) f) ?_;exact AN ⟨⟨rfl,congrArg _ (by rw[J,f];congr 1;have:w<0:=LK.1 AA;exact Re.N2 m (by grind) (by rw[o,<-g];grind)),trivial⟩,t2,trivial⟩
def uV (h:BT R u) (j:T=tw u) (d:A=em u x) (o:El u s x) (m:Fit u.length R s) {l:LR} (k:JT 333 u x l) (f:B=[]):CF 318 [BF T,AQ A] (.BI [(false,[AT B]),(false,[.bool false])]):=by
 refine AL Tryz.func318 fun E g=>?_
 refine AB g (k j d) ?_;refine CN ?_;exact AN ⟨⟨rfl,.inr (.inl ⟨_,congrArg _ (f)⟩),trivial⟩,t2,trivial⟩
def uX (h:BT R u) (D:T=tw u) (o:A=em u x) (m:El u s x) (k:Fit u.length R s) (F:In u v) (g:0<=v) (d:v*v=x) (z:B=em u v):CF 318 [BF T,AQ A] (.BI [(false,[AT B]),(false,[.bool true])]):=by
 rcases Xr h m k.q with⟨w,hw,j,G⟩ |⟨f,_⟩
 ·exact uW h D o m k hw j G g d z
 exact absurd ⟨v,F,d⟩ f
def uU (h:BT R u) (o:T=tw u) (k:A=em u x) (j:El u s x) (g:Fit u.length R s) (d:¬Sq u x) (m:B=[]):CF 318 [BF T,AQ A] (.BI [(false,[AT B]),(false,[.bool false])]):=by
 rcases Xr h j g.q with⟨w,hw,f,D⟩ |⟨_,l,_,z⟩
 ·exact absurd ⟨w,hw,f⟩ d
 exact uV h o k j g z m
def Yb (h:BT R u) (D:T=tw u) (hv:VV u.length R R<=60000000000000) (hq:QQ u.length R R<=60000000000000):CF 317 [BF T] (.one (.bool true)):=by
 have aj:T.length=u.length:=by rw[D,Cq]
 have hR:=h.hR;refine AL Tryz.func317 fun E U=>?_
 intro n8 S;have e8:=S.eq;have f8:=S.le;refine BX [] [0,7,8,9] [] (fun vs bl k=>∃(i':Nat) (L i:Int),vs=[BF T,BF T,AH L,AH i]/\(EN L T.length/\AZ i i'/\i'<=T.length)/\k=T.length-i') (T.length-0) ⟨0,n8,0,rfl,⟨S,BM 0,AA⟩,rfl⟩ ?_;rintro J0 V vs bl an ⟨i',L,i,rfl,⟨hL,hi,ak⟩,al⟩;conv=>cbv
 have eL:=hL.eq;have ei:=hi.eq;refine Bi (fun a2=>?_) fun a2=>?_
 ·exact AN ⟨t2,trivial⟩
 refine .inr ?_;refine BA i' fun N K=>?_
 try conv=>cbv
 obtain⟨r,J,I⟩:=MZ (u:=u) (i:=i') AA;have z:BE (r::pre u i'):=J ▸ (h.pre (i'+1)).red;have W:N=BV r:=by rw[<-D,K] at I;exact Option.some.inj I
 have d:N=em (pre u i') (AU (pre u i') r):=W.trans (F2 z);have f:El (pre u i') R (AU (pre u i') r):=El.D9 (J ▸ h.pre (i'+1));refine AM ?_;intro ao af O ab a5 F;have j:a5=tw (pre u i'):=by rw[F,List.drop_zero,(AA:O=i'),D,KT]
 refine AB (r:= .one (.bool true)) U (Jv j (h.pre i').IF d (f.Cy hR) (by rw[f.len,List.length_reverse];exact (decide_eq_true rfl).symm)) ?_;refine BG ?_;intro aq ag P ad a6 G;have m:a6=tw (pre u i'):=by rw[G,List.drop_zero,(AA:P=i'),D,KT]
 obtain⟨aa,g⟩:=xI (Bv (AU (pre u i') r));refine AB (r:= .one (.int .i64 aa)) U (OU (h.pre i') m d f (by rw[LV AA];exact Nat.le_trans (OW AA R R) hv) (by rw[LV AA];exact Nat.le_trans (OW AA R R) hv) g) ?_;refine HY (fun M=>?_) fun M=>?_
 ·exact absurd M (by rw[g,JG z.2.2.1];omega)
 intro ar ah Q ae a7 H;have o:a7=tw (pre u i'):=by rw[H,List.drop_zero,(AA:Q=i'),D,KT]
 obtain⟨l,hl,hn⟩:=((Xr (h.pre i') f (by rw[LV AA];exact Nat.le_trans (lK AA R R) hq)).resolve_left (fun⟨w,hw,a1,_⟩=>z.2.2.2 ⟨w,hw,a1⟩)).2;refine AB U (hn o d) ?_;intro a8 ai;exact Bj V ⟨i'+1,L,a8,rfl,⟨hL,⟨AA⟩,AA⟩,rfl⟩
def ng (h:BT R u) (f:T=tw u) (o:A=em u x) (m:El u s x) (d:Fit u.length R s) (J:In u v) (z:0<=v) (k:v*v=x) (G:B=em u v):CF 295 [BF T,AQ A] (.BI [(false,[Ao T]),(false,[AT B]),(false,[.int .i64 0])]):=by
 have H:T.length=u.length:=by rw[f,Cq]
 have I:=h.ht;have D:¬x<0:=by rw[<-k];have:=Re.Lg v;grind
 refine AL Tryz.func295 fun E g=>?_
 refine .inr ?_;refine AB (r:= .one (.bool true)) g (Jv f h.IF o (m.Cy d.s) (by rw[m.len,List.length_reverse];exact (decide_eq_true rfl).symm)) ?_;refine BG ?_;refine AB g (Yb h f d.vR d.qR) ?_;refine BG ?_;obtain⟨K,j⟩:=xI (Bv x);refine AB g (OU h f o m d.v0 d.vR j) ?_;refine Dk (fun F=>?_) fun F=>?_
 ·exact absurd ((LK (x:=x)).1 AA) D
 refine AB g (uX h f o m d J z k G) ?_;refine AB g (oh (jg h f) AA) ?_;exact AN AK
def nh (h:BT R u) (j:T=tw u) (o:A=em u x) (H:El u s x) (m:Fit u.length R s) {R':Nat} {r:List Rat} {T2:List LR} (h8:u.length<8) (a1:0<=x) (M:¬Sq u x) (W:r=co u x) (h':BT R' (r::u)) (K:T2=tw (r::u)) (U:B=em (r::u) (rt u r)):CF 295 [BF T,AQ A] (.BI [(false,[Ao T2]),(false,[AT B]),(false,[.int .i64 0])]):=by
 have L:T.length=u.length:=by rw[j,Cq]
 have V:=h.ht;refine AL Tryz.func295 fun E g=>?_
 refine .inr ?_;refine AB (r:= .one (.bool true)) g (Jv j h.IF o (H.Cy m.s) (by rw[H.len,List.length_reverse];exact (decide_eq_true rfl).symm)) ?_;refine BG ?_;refine AB g (Yb h j m.vR m.qR) ?_;refine BG ?_;obtain⟨a6,F⟩:=xI (Bv x);refine AB g (OU h j o H m.v0 m.vR F) ?_;refine Dk (fun N=>?_) fun N=>?_
 ·exact absurd ((LK (x:=x)).1 AA) (by grind)
 refine AB g (uU h j o H m M rfl) ?_;rintro a2 ⟨Q,f36⟩;refine OH (fun I=>?_) fun I=>?_
 ·exact absurd I AA
 obtain⟨tn,G⟩:=xN T.length;refine AB g (aL (jg h j) AA G) ?_;have S:A.length=2^u.length:=by rw[o,B9 H.mem]
 have P:=Ea h.ht;refine AB g (YG AA) ?_;refine⟨[A],Cj,.inr ?_⟩;try conv=>cbv
 refine .inr (.inl ⟨[A],fun _=>⟨rfl,by rw[G],rfl,Ck (T.length+1) 24⟩,?_⟩);intro (k:List (el (.sl AJ))) O f;have z:k=(T:List (el (.sl AJ)))++([A]:List (el (.sl AJ))):=f.1;have D:O=List.length (α:=(el (.sl AJ))) k:=f.2;conv=>cbv
 refine⟨fun _=>D,?_⟩;rintro a5 ⟨J,f47⟩;conv=>cbv
 have d:k=tw (r::u):=by rw[z,j,P8,o,em,W]
 refine AB g (lW h' d (AZ.of (J.trans (congrArg _ L))) U) ?_;exact AN ⟨⟨rfl,congrArg _ (by rw[K,d]),trivial⟩,t2,t2,trivial⟩
end
section
variable {A B:LR} {R s zn:Nat} {T:List LR} {c:Int} {i p q x y:Re} {r:List Rat} {u:AG}
def Y8 {C:LR} (h:BT R (r::u)) (hT:T=tw (r::u)) (K:A=em (r::u) x) (hx:El (r::u) s x) (g:x=p+q*rt u r) (j:El u s p) (f:El u s q) (hb:2*s+2*EE u.length R+R+1<=60000000000000) (hC:C=em u (p*p-q*q*AU u r)):CF 157 [BF T,AQ A] (AQ C):=by
 have aA:T.length=u.length+1:=by rw[hT,Cq];rfl
 have az:A.length=2^u.length+2^u.length:=by rw[K,B9 hx.mem,Cc]
 have W:=El.D9 h;have hR:=h.hR;refine AL Tryz.func157 fun E hE=>?_
 rintro n9 ⟨e9,f9⟩ aG aw aH ⟨au,f13⟩ aI ax aB al a5 ai a8 N aJ ⟨av,f18⟩ aK ay;refine BA ((T.length-1)) fun af D=>?_
 refine AM ?_;intro aC an a6 aj aa O aD ao a7 ak ab P;have d:a8=tw u:=by rw[N,List.drop_zero,(AA:a5=T.length-1),hT,Ey]
 have F:aa=em u p:=by rw[O,List.drop_zero,(AA:a6=A.length/2),K,DX h.red j.mem f.mem g]
 have G:ab=em u p:=by rw[P,List.drop_zero,(AA:a7=A.length/2),K,DX h.red j.mem f.mem g]
 obtain⟨aL,k⟩:=xR (em u (p*p));refine AB hE (FP h.tail d F G j j AA k) ?_;rintro aE U a1 aq ⟨ag,L⟩ ad Q aF V a2 ar ⟨ah,M⟩ ae S;have H:ad=em u q:=by rw[Q,(AA:a1=A.length/2),L,U,List.take_length,K,DE h.red j.mem f.mem g]
 have I:ae=em u q:=by rw[S,(AA:a2=A.length/2),M,V,List.take_length,K,DE h.red j.mem f.mem g]
 obtain⟨aM,m⟩:=xR (em u (q*q));refine AB hE (FP h.tail d H I f f AA m) ?_;have J:af=em u (AU u r):=by rw[hT,HG] at D;exact (Option.some.inj D).symm.trans (F2 h.red)
 obtain⟨aN,o⟩:=xR (em u (q*q*AU u r));refine AB hE (FP h.tail d m J (f.mul h.tail f) W AA o) ?_;obtain⟨aO,z⟩:=xR (em u (p*p-q*q*AU u r));refine AB hE (Qa h.tail k o (j.mul h.tail j) ((f.mul h.tail f).mul h.tail W) AA AA z) ?_;exact AO (by rw[hC,z])
def UR (R:Nat) (u:AG):Prop:=∀{T:List LR} {A B:LR} {zn s:Nat} {x y:Re},T=tw u->A=em u x->El u s x->In u y->x*y=1->II u.length R s<=60000000000000->B=em u y->zn=B.length->
 CF 87 [BF T,AQ A] (.BI [(false,[.own AJ B zn]),(false,[.int .i64 0])])
def mj {p q:Rat} (S:T=[]) (H:A=[rp p]) (O:B=[rp q]) (f:p≠0) (I:q=1/p) (J:zn=B.length):CF 87 [BF T,AQ A] (.BI [(false,[.own AJ B zn]),(false,[.int .i64 0])]):=by
 refine AL Tryz.func87 fun E Q=>?_
 rintro V ⟨F,f13⟩;refine Cw (fun k=>?_) fun k=>?_
 ·exact absurd (by rw[F,S];rfl) k
 have P:A.length=1:=by rw[H];rfl
 refine BA 0 fun M h=>?_
 try conv=>cbv
 have g:=Ge H h;rintro L ⟨G,f20⟩;conv=>cbv
 have N:L=((List.length (α:=UInt32) M.1.2:Nat):Int):=G;refine BY (fun K=>?_) fun K=>?_
 ·exact absurd (Rat.num_eq_zero.1 (g.num.G9.1 AA)) f
 refine BA 0 fun W j=>?_
 try conv=>cbv
 have U:=Ge H j;obtain⟨z,D,m,o,d⟩:=Ca q;refine AB Q (mN U f I d) ?_;refine⟨[((z,D),(m,o))],Cj,.inl ?_⟩;try conv=>cbv
 exact AN ⟨⟨rfl,.inr (.inl ⟨_,_,AD,rfl,rfl,rfl,rfl,Dm (by rw[O,d.rp]) (by rw[J,O];rfl)⟩),trivial⟩,t2,trivial⟩
def mr {y:Re} (h:BT R (r::u)) (ih:UR R u) (hT:T=tw (r::u)) (hA:A=em (r::u) x) (hx:El (r::u) s x) (P:x=p+q*rt u r) (hp:El u s p) (hq:El u s q) (h0:q=0) (hi:In u i) (a1:p*i=1) (hs:II (r::u).length R s<=60000000000000) (hB:B=em (r::u) i) (a2:zn=B.length):CF 87 [BF T,AQ A] (.BI [(false,[.own AJ B zn]),(false,[.int .i64 0])]):=by
 have aB:T.length=u.length+1:=by rw[hT,Cq];rfl
 have az:A.length=2^u.length+2^u.length:=by rw[hA,B9 hx.mem,Cc]
 have aA:II (r::u).length R s=s+EE u.length R+II u.length R (2*s+2*EE u.length R+R+1):=rfl;have ai:=Lt u.length R (s:=s) (t:=2*s+2*EE u.length R+R+1) AA;refine AL Tryz.func87 fun E S=>?_
 rintro aF ⟨au,f13⟩;refine BY (fun Q=>?_) fun Q=>?_
 ·exact absurd Q AA
 rintro aG ⟨av,f28⟩ aH ax aI ⟨aw,f32⟩ aJ ay aC ag V ab a5 J aD N U ar ⟨aa,I⟩ a6 K;have F:a6=em u q:=by rw[K,(AA:U=A.length/2),I,N,List.take_length,hA,DE h.red hp.mem hq.mem P]
 refine AB S (J8 h.tail.red hq.mem F h0) ?_;intro aE ah W ad a7 L;have d:a5=tw u:=by rw[J,List.drop_zero,(AA:V=T.length-1),hT,Ey]
 have G:a7=em u p:=by rw[L,List.drop_zero,(AA:W=A.length/2),hA,DX h.red hp.mem hq.mem P]
 obtain⟨m,f⟩:=xR (em u i);obtain⟨ak,g⟩:=xN m.length;refine AB S (ih d G hp hi a1 AA f g) ?_;refine BG ?_;obtain⟨ao,aq,al,an,z⟩:=Ca (((0:Int):Rat));refine AB S (Ff AA rfl z) ?_;obtain⟨k,j⟩:=xR (em u (0));refine AB (r:= .one (AT k)) S (IL h.tail d z (by rw[show Re.ofRat ((0:Int):Rat)=0 from rfl];exact j)) ?_;have ae:m.length=2^u.length:=by rw[f,B9 hi]
 have af:k.length=2^u.length:=by rw[j,B9 (C0 u)]
 have aj:=Ea h.tail.ht;refine .inl ⟨k,fun _=>⟨rfl,g,rfl,Ck (m.length+k.length) 64⟩,?_⟩;intro (H:LR) a8 D;have M:H=(m:LR)++(k:LR):=D.1;have O:a8=List.length (α:=(el AJ)) H:=D.2;conv=>cbv
 have o:B=H:=by rw[hB,M,f,j];exact Gp h.red hi (C0 u) (by clear ih;grind)
 exact AN ⟨⟨rfl,.inr (.inl ⟨_,_,AD,rfl,rfl,O,rfl,Dm (o) (by rw[a2,o])⟩),trivial⟩,t2,trivial⟩
def ml (h:BT R (r::u)) (ih:UR R u) (hT:T=tw (r::u)) (Q:A=em (r::u) x) (hx:El (r::u) s x) (o:x=p+q*rt u r) (H:El u s p) (z:El u s q) (h0:q≠0) (hi:In u i) (S:(p*p-q*q*AU u r)*i=1) (hy:y=p*i+ -q*i*rt u r) (hs:II (r::u).length R s<=60000000000000) (hB:B=em (r::u) y) (ai:zn=B.length):CF 87 [BF T,AQ A] (.BI [(false,[.own AJ B zn]),(false,[.int .i64 0])]):=by
 have aM:T.length=u.length+1:=by rw[hT,Cq];rfl
 have aK:A.length=2^u.length+2^u.length:=by rw[Q,B9 hx.mem,Cc]
 have aL:II (r::u).length R s=s+EE u.length R+II u.length R (2*s+2*EE u.length R+R+1):=rfl;have hN:=El.norm h H.mem z.mem (o ▸ hx);have f:=hN.inv h.tail hi S;have aA:=GH u.length R (2*s+2*EE u.length R+R+1);have aa:=(z.neg h.red.1).mul h.tail f;refine AL Tryz.func87 fun E P=>?_
 rintro aR ⟨aF,f13⟩;refine BY (fun ad=>?_) fun ad=>?_
 ·exact absurd ad AA
 rintro aS ⟨aG,f28⟩ aT aI aU ⟨aH,f32⟩ aV aJ aN ay ag au aj W aO a7 ae aD ⟨aq,U⟩ ak a1;have L:ak=em u q:=by rw[a1,(AA:ae=A.length/2),U,a7,List.take_length,Q,DE h.red H.mem z.mem o]
 refine AB P (Kp h.tail.red z.mem L h0) ?_;have d:aj=tw u:=by rw[W,List.drop_zero,(AA:ag=T.length-1),hT,Ey]
 obtain⟨aW,I⟩:=xR (em u (p*p-q*q*AU u r));refine AB P (Y8 h hT Q hx o H z AA I) ?_;obtain⟨aX,g⟩:=xR (em u i);refine AB P (EW (ih d I hN hi S AA g rfl)) ?_;refine BG ?_;intro aP az ah av al a2;have M:al=em u p:=by rw[a2,List.drop_zero,(AA:ah=A.length/2),Q,DX h.red H.mem z.mem o]
 obtain⟨D,j⟩:=xR (em u (p*i));obtain⟨aC,k⟩:=xN D.length;refine AB P (kI h.tail d M g H f AA j k) ?_;rintro aQ a8 af aE ⟨ar,V⟩ an a5;have N:an=em u q:=by rw[a5,(AA:af=A.length/2),V,a8,List.take_length,Q,DE h.red H.mem z.mem o]
 obtain⟨aY,J⟩:=xR (em u (-q));refine AB P (Mz h.tail N z J) ?_;obtain⟨F,m⟩:=xR (em u (-q*i));refine AB P (FP h.tail d J g (z.neg h.red.1) f AA m) ?_;have aw:D.length=2^u.length:=by rw[j,B9 (H.mul h.tail f).mem]
 have ax:F.length=2^u.length:=by rw[m,B9 aa.mem]
 have aB:=Ea h.tail.ht;refine .inl ⟨F,fun _=>⟨rfl,k,rfl,Ck (D.length+F.length) 64⟩,?_⟩;intro (O:LR) ao K;have a6:O=(D:LR)++(F:LR):=K.1;have ab:ao=List.length (α:=(el AJ)) O:=K.2;conv=>cbv
 refine g2 rfl ?_;have G:B=O:=by rw[hB,a6,j,m];exact Gp h.red (H.mul h.tail f).mem aa.mem hy
 exact AN ⟨⟨rfl,.inr (.inl ⟨_,_,AD,rfl,rfl,ab,rfl,Dm (G) (by rw[ai,G])⟩),trivial⟩,t2,trivial⟩
def zT (h:BT R u):UR R u:=by
 induction u with
 | nil=>
  intro T A B zn s x y H m k O f M o j;obtain⟨p,rfl⟩:=DZ.1 k.mem;obtain⟨q,rfl⟩:=DZ.1 O;rw[E5] at m o;rw[<-Re.ofRat_mul] at f;have e:=Re.MS.1 f;exact mj H m o (by intro P;subst P;grind) (by grind) j
 | cons r u g=>
  intro T A B zn s x y H m k O f M o j;obtain⟨p,q,d,D,I⟩:=El.parts h.red k;have U:=De h.red;have Q:(0:Re)<1:=Re.KR.2 (AD:(0:Rat)<1)
  by_cases G:q=0
  ·have L:p≠0:=by intro e;rw[e,G] at d;rw[d] at f;clear g;grind
   obtain⟨i,K,F⟩:=FV h.red.1 D.mem L
   have N:y=i:=by
    have:y=i*(x*y):=by
     have e2:x=p:=by rw[d,G];clear g;grind
     rw[e2];have:i*(p*y)=y*(p*i):=by clear g;grind
     rw[this,F];clear g;grind
    rw[f] at this;clear g;grind
   exact mr (y:=y) h (g h.tail) H m k d D I G K F M (N ▸ o) j
  have S:=El.norm h D.mem I.mem (d ▸ k);have J:p*p-q*q*AU u r≠0:=eR h.red D.mem I.mem (by intro e;rw[<-d] at e;rw[e] at f;clear g;grind);obtain⟨i,K,z⟩:=FV h.red.1 S.mem J;refine ml h (g h.tail) H m k d D I G K z ?_ M o j
  have:y=x*y*((p-q*rt u r)*i):=by
   have:x*y*((p-q*rt u r)*i)=y*((p*p-q*q*AU u r)*i):=by rw[d];clear g;grind
   rw[this,z];clear g;grind
  rw[f] at this
  clear g;grind
def QZ (h:BT R u) (j:T=tw u) (f:A=em u x) (m:El u s x) (o:In u y) (d:x*y=1) (k:II u.length R s<=60000000000000) (g:B=em u y):
 CF 87 [BF T,AQ A] (.BI [(false,[AT B]),(false,[.int .i64 0])]):=EW (zT h j f m o d k g rfl)
def mh (G:T=[]) (D:A=[rp 0]):CF 87 [BF T,AQ A] (.BI [(false,[.sl AJ (([]:LR))]),(false,[.int .i64 6])]):=by
 refine AL Tryz.func87 fun E I=>?_
 rintro H ⟨k,f13⟩;refine Cw (fun h=>?_) fun h=>?_
 ·exact absurd (by rw[k,G];rfl) h
 have F:A.length=1:=by rw[D];rfl
 refine BA 0 fun z g=>?_
 try conv=>cbv
 have f:=Ge D g;rintro o ⟨m,f20⟩;conv=>cbv
 have d:o=((List.length (α:=UInt32) z.1.2:Nat):Int):=m;refine Cw (fun j=>?_) fun j=>?_
 ·exact absurd (by rw[d,f.num.G9.2 rfl];rfl) j
 exact AN AK
def mi (h:BT R (r::u)) (ih:∀{T A},T=tw u->A=em u 0->CF 87 [BF T,AQ A] (.BI [(false,[AT []]),(false,[.int .i64 6])])) (O:T=tw (r::u)) (J:A=em (r::u) 0):CF 87 [BF T,AQ A] (.BI [(false,[.sl AJ (([]:LR))]),(false,[.int .i64 6])]):=by
 have hx:El (r::u) 0 0:=El.rat h.red IP;have j:(0:Re)=0+0*rt u r:=by grind
 have aa:T.length=u.length+1:=by rw[O,Cq];rfl
 have a8:A.length=2^u.length+2^u.length:=by rw[J,B9 hx.mem,Cc]
 refine AL Tryz.func87 fun E N=>?_
 rintro af ⟨a1,f13⟩;refine BY (fun F=>?_) fun F=>?_
 ·exact absurd F AA
 rintro ag ⟨a2,f28⟩ ah a6 ai ⟨a5,f32⟩ aj a7 ab U H Q K m ad D G W ⟨P,k⟩ L o;have f:L=em u 0:=by rw[o,(AA:G=A.length/2),k,D,List.take_length,J,DE h.red (C0 u) (C0 u) j]
 refine AB N (J8 h.tail.red (C0 u) f rfl) ?_;intro ae V I S M z;have d:K=tw u:=by rw[m,List.drop_zero,(AA:H=T.length-1),O,Ey]
 have g:M=em u 0:=by rw[z,List.drop_zero,(AA:I=A.length/2),J,DX h.red (C0 u) (C0 u) j]
 refine AB N (ih d g) ?_;refine CN ?_;exact AN AK
def Y6:∀{u:AG} {R:Nat},BT R u->∀{T A},T=tw u->A=em u 0->CF 87 [BF T,AQ A] (.BI [(false,[AT []]),(false,[.int .i64 6])])
 | [],R,h=>fun f d=>mh f (d.trans (E5 0))
 | r::u,R,h=>fun f d=>mi h (Y6 h.tail) f d
def Yz (R:Nat) (u:AG):Prop:=∀{T:List LR} {A:LR} {s:Nat} {x:Re} {c:Int},T=tw u->A=em u x->El u s x->VV u.length R s<=60000000000000->c=Bv x->
 CF 117 [BF T,AQ A] (.one (.int .i64 c))
def nY {p:Rat} (o:T=[]) (j:A=[rp p]) (z:c=Ef p):CF 117 [BF T,AQ A] (AH c):=by
 refine AL Tryz.func117 fun E m=>?_
 rintro D ⟨h,f11⟩;refine Cw (fun g=>?_) fun g=>?_
 ·exact absurd (by rw[h,o];rfl) g
 have k:A.length=1:=by rw[j];rfl
 refine BA 0 fun G f=>?_
 try conv=>cbv
 obtain⟨F,d⟩:=xI (Ef p);refine AB m (QW (Ge j f) d) ?_;exact AO (z.trans d.symm)
def nZ (h:BT R (r::u)) (ih:Yz R u) (L:T=tw (r::u)) (hA:A=em (r::u) x) (hx:El (r::u) s x) (hs:VV (r::u).length R s<=60000000000000) (hc:c=Bv x):CF 117 [BF T,AQ A] (AH c):=by
 obtain⟨p,q,g,V,W⟩:=El.parts h.red hx;have aD:T.length=u.length+1:=by rw[L,Cq];rfl
 have aC:A.length=2^u.length+2^u.length:=by rw[hA,B9 hx.mem,Cc]
 have aF:VV (r::u).length R s=VV u.length R (2*s+2*EE u.length R+R+1):=rfl;have aG:=Hc u.length R (2*s+2*EE u.length R+R+1);have aE:=J4 u.length R (s:=s) (t:=2*s+2*EE u.length R+R+1) AA;have hN:=El.norm h V.mem W.mem (g ▸ hx);have k:=gT h.red;have aa:=De h.red;refine AL Tryz.func117 fun E hE=>?_
 rintro aL ⟨av,f11⟩;refine BY (fun a1=>?_) fun a1=>?_
 ·exact absurd a1 AA
 rintro aM ⟨aw,f18⟩ aN az aO ⟨ax,f22⟩ aP aA aH an a5 ai ab N aQ ⟨ay,f27⟩ aR aB aI U a2 au ⟨ah,M⟩ ad O m32 ao a6 aj ae P;have D:ae=tw u:=by rw[P,List.drop_zero,(AA:a6=T.length-1),L,Ey]
 have o:ab=em u p:=by rw[N,List.drop_zero,(AA:a5=A.length/2),hA,DX h.red V.mem W.mem g]
 obtain⟨aT,d⟩:=xI (Bv p);refine AB hE (ih D o V AA d) ?_;intro aJ aq a7 ak af Q;have F:af=tw u:=by rw[Q,List.drop_zero,(AA:a7=T.length-1),L,Ey]
 have z:ad=em u q:=by rw[O,(AA:a2=A.length/2),M,U,List.take_length,hA,DE h.red V.mem W.mem g]
 obtain⟨aU,f⟩:=xI (Bv q);refine AB hE (ih F z W AA f) ?_;refine BY (fun H=>?_) fun H=>?_
 ·exact AO (by rw[hc,d,g];exact S8 k (.inl (G0.1 (f ▸ H))))
 refine BY (fun I=>?_) fun I=>?_
 ·exact AO (by rw[hc,d,g];exact S8 k (.inr (by rw[<-d,<-f];exact I)))
 refine BY (fun J=>?_) fun J=>?_
 ·exact AO (by rw[hc,f,g];exact iQ k (G0.1 (d ▸ J)))
 intro aK ar a8 al ag S;have G:ag=tw u:=by rw[S,List.drop_zero,(AA:a8=T.length-1),L,Ey]
 obtain⟨aW,m⟩:=xR (em u (p*p-q*q*AU u r));refine AB hE (Y8 h L hA hx g V W AA m) ?_;obtain⟨aV,j⟩:=xI (Bv (p*p-q*q*AU u r));refine AB hE (ih G m hN AA j) ?_;intro aS K;refine⟨fun _=>by rw[K,d,j];exact iJ _ _,?_⟩;refine g2 rfl ?_;exact AO (by rw[hc,K,d,j,g];exact iP k aa (fun e=>J (by rw[d,e];exact Ht)) (fun e=>H (by rw[f,e];exact Ht)) (by rw[<-d,<-f];exact I))
def YD (h:BT R u):Yz R u:=by
 induction u with
 | nil=>
  intro T A s x c f d j k g;obtain⟨p,rfl⟩:=DZ.1 j.mem;rw[E5] at d;exact nY f d (g.trans (iL p))
 | cons r u m=>
  intro T A s x c f d j k g;exact nZ h (m h.tail) f d j k g
end
section
variable {A:LR} {R s:Nat} {T:List LR} {c:Int} {u:AG} {x:Re}
def mD (h:BT R u) (g:T=tw u) (d:A=em u x) (m:El u s x) (k:VV u.length R s<=60000000000000) (j:c=Bv x):CF 52 [BF T,AQ A] (AH c):=by
 refine AL Tryz.func52 fun E f=>?_
 refine AB f (YD h g d m k j) ?_;exact AN ⟨t2,trivial⟩
def mS (h:BT R u) (I:T=tw u) (hs:VV u.length R R<=60000000000000):CF 272 [BF T] (.one (.bool true)):=by
 have a2:T.length=u.length:=by rw[I,Cq]
 refine AL Tryz.func272 fun E S=>?_
 refine AB S (Yx h I) ?_;refine BG ?_;refine BX [] [0,3] [] (fun vs W k=>∃(i':Nat) (i:Int),vs=[BF T,AH i]/\(AZ i i'/\i'<=T.length)/\k=T.length-i') (T.length-0) ⟨0,0,rfl,⟨BM 0,AA⟩,rfl⟩ ?_;rintro J0 K vs W a7 ⟨i',i,rfl,⟨hi,a5⟩,a6⟩;have ei:=hi.eq;refine Af ?_;rintro n9 ⟨e9,f9⟩;refine Bi (fun M=>?_) fun M=>?_
 ·exact AN ⟨t2,trivial⟩
 refine .inr ?_;refine AM ?_;intro a8 V J U N m;refine BA i' fun H F=>?_
 try conv=>cbv
 obtain⟨r,D,z⟩:=MZ (u:=u) (i:=i') AA;have o:BE (r::pre u i'):=D ▸ (h.pre (i'+1)).red;have L:H=BV r:=by rw[<-I,F] at z;exact Option.some.inj z
 have g:H=em (pre u i') (AU (pre u i') r):=L.trans (F2 o);have f:N=tw (pre u i'):=by rw[m,List.drop_zero,(AA:J=i'),I,KT]
 obtain⟨Q,d⟩:=xI (Bv (AU (pre u i') r));refine AB (r:= .one (.int .i64 Q)) S (YD (h.pre i') f g (El.D9 (D ▸ h.pre (i'+1))) (by rw[LV AA];exact Nat.le_trans (OW AA R R) hs) d) ?_;intro P j;cases P <;> conv=>cbv
 ·have G:=Ib j;refine AM ?_;intro O a1;exact Bj K ⟨i'+1,O,rfl,⟨⟨AA⟩,AA⟩,rfl⟩
 have G:=Ic j;exact absurd (d.trans (JG o.2.2.1)) G
def Iv (h:BT R u) (f:T=tw u) (j:A=em u x) (k:El u s x) (o:VV u.length R s<=60000000000000) (g:s<=60000000000000) (hR:VV u.length R R<=60000000000000) (m:c=Bv x):CF 223 [BF T,AQ A] (AH c):=by
 refine AL Tryz.func223 fun E d=>?_
 refine AB d (QR h f j k g) ?_;refine BG ?_;refine AB d (mS h f hR) ?_;refine BG ?_;refine AB d (YD h f j k o m) ?_;exact AN ⟨t2,trivial⟩
def mT {C:LR} {r:List Rat} {k:Int} (h:BT R (r::u)) (S:T=tw (r::u)) (V:AZ k u.length) (Q:C=em (r::u) (rt u r)):CF 228 [BF T,AH k] (AQ C):=by
 have P:=V.eq;have U:(r::u).length<=16:=h.ht;have W:(r::u).length=u.length+1:=rfl;refine AL Tryz.func228 fun E I=>?_
 obtain⟨a8,aa,a6,a7,EH⟩:=Ca (((0:Int):Rat));refine AB I (Ff AA rfl EH) ?_;obtain⟨D,o⟩:=xR (em (r::u) (0));obtain⟨K,G⟩:=xN D.length;refine AB (r:= .one (.own AJ D K)) I (Ym h S EH (by rw[show Re.ofRat ((0:Int):Rat)=0 from rfl];exact o) G) ?_;intro a5 H;have O:=(Gf (k:=u.length) H P).eq;obtain⟨j,m,f,g,HP⟩:=Ca (((1:Int):Rat));refine AB I (Ff AA rfl HP) ?_;have a1:D.length=2^u.length+2^u.length:=by rw[o,B9 (C0 _),Cc]
 have a2:=D7 u.length;have N:=Ea (n:=u.length);refine AM ?_;intro J M;refine⟨((j,m),(f,g)),fun _=>⟨by show _<List.length (α:=(el AJ)) D;(first | omega | (simp;omega)),DB⟩,?_⟩;intro (z:LR) (d:z=List.set (α:=(el AJ)) D J (((j,m),(f,g))));have L:z.length=D.length:=by rw[d,List.length_set]
 conv=>cbv
 refine g2 rfl ?_;have F:C=z:=by rw[Q,bG h.red,d,o];congr 1 <;> first | omega | exact HP.rp
 exact AN ⟨⟨rfl,.inl ⟨_,rfl,AA,congrArg _ (by rw[F,List.drop_zero,List.take_of_length_le AA])⟩,trivial⟩,trivial⟩
end
section
def TQ (h R s:Nat):Nat:=3*s+4*EE h R+R+GG h R+3+II h R R
def SS:Nat->Nat->Nat->Nat
 | 0,_,s=>s
 | h+1,R,s=>max (VV (h+1) R s) (max (SS h R (TQ h R s)) (s+II h R (TQ h R s+GG h R)+2*EE h R+2))
def Yh (h R:Nat) {s t:Nat} (d:s<=t):TQ h R s<=TQ h R t:=by unfold TQ;omega
def QM:∀(h R:Nat) {s t:Nat},s<=t->SS h R s<=SS h R t
 | 0,_,_,_,d=>d
 | h+1,R,s,t,d=>by
  have f:=J4 (h+1) R d;have g:=QM h R (Yh h R d);have h3:=Lt h R (Nat.add_le_add_right (Yh h R d) (GG h R))
  show max _ (max _ _)<=max _ (max _ _)
  omega
def Km (h R s:Nat):VV (h+1) R s<=SS (h+1) R s:=by show _<=max _ (max _ _);omega
def Yd (h R s:Nat):SS h R (TQ h R s)<=SS (h+1) R s:=by show _<=max _ (max _ _);omega
def Lw (h R s:Nat):s+II h R (TQ h R s+GG h R)+2*EE h R+2<=SS (h+1) R s:=by show _<=max _ (max _ _);omega
def Ye (h R s:Nat):s<=SS h R s:=by
 cases h with
 | zero=>exact Nat.le_refl _
 | succ h=>exact Nat.le_trans (Hc _ _ _) (Km h R s)
end
section
variable {A B l:LR} {R k0 s:Nat} {T:List LR} {i n p q t w x:Re} {r:List Rat} {u:AG}
def UY {C:LR} (I:A.length<=1000000) (J:B.length<=1000000) (D:C=A++B):CF 274 [AQ A,AQ B] (AQ C):=by
 refine AL Tryz.func274 fun E K=>?_
 refine⟨[],fun _=>⟨rfl,AD,rfl,trivial⟩,.inl ?_⟩;try conv=>cbv
 refine .inl ⟨A,fun _=>⟨rfl,rfl,rfl,Ck (0+A.length) 64⟩,?_⟩;intro (g:LR) G h;have f:g=([]:LR)++(A:LR):=h.1;have m:G=List.length (α:=(el AJ)) g:=h.2;conv=>cbv
 have z:g.length=A.length:=by rw[f];simp
 refine .inl ⟨B,fun _=>⟨rfl,m,rfl,Ck (g.length+B.length) 64⟩,?_⟩;intro (o:LR) H j;have k:o=(g:LR)++(B:LR):=j.1;have F:H=List.length (α:=(el AJ)) o:=j.2;conv=>cbv
 have d:C=o:=by rw[D,k,f];rfl
 exact AN ⟨⟨rfl,.inl ⟨_,rfl,AA,congrArg _ (by rw[d,List.drop_zero,List.take_of_length_le AA])⟩,trivial⟩,trivial⟩
def J6 (u:AG) (x:Re) (l:LR):Prop:=∀{T:List LR} {A:LR},T=tw u->A=em u x->
 CF 224 [BF T,AQ A] (.BI [(false,[AT l]),(false,[.bool false])])
def J7 (u:AG) (x w:Re):Prop:=∀{T:List LR} {A B:LR},T=tw u->A=em u x->B=em u w->
 CF 224 [BF T,AQ A] (.BI [(false,[AT B]),(false,[.bool true])])
def LN {c:Int} (f:c=Bv x) (h:c<0) (d:0<=x):False:=by
 have:=(LK (x:=x)).1 AA
 grind
def nT (h:BT R (r::u)) (o:T=tw (r::u)) (m:A=em (r::u) x) (D:El (r::u) s x) (P:x=p+q*rt u r) (U:El u s p) (V:El u s q) (W:SS (r::u).length R s<=60000000000000) (j:VV (r::u).length R R<=60000000000000) (g:x<0):CF 224 [BF T,AQ A] (.BI [(false,[.sl AJ (([]:LR))]),(false,[.bool false])]):=by
 have J:T.length=u.length+1:=by rw[o,Cq];rfl
 have G:A.length=2^u.length+2^u.length:=by rw[m,B9 D.mem,Cc]
 have L:=El.D9 h;have hR:=h.hR;have O:VV (r::u).length R s<=SS (r::u).length R s:=Km u.length R s;have N:s+II u.length R (TQ u.length R s+GG u.length R)+2*EE u.length R+2<=SS (r::u).length R s:=Lw u.length R s;have M:=Hc (r::u).length R s;have K:=GH u.length R (TQ u.length R s+GG u.length R);have I:TQ u.length R s=3*s+4*EE u.length R+R+GG u.length R+3+II u.length R R:=rfl;have z:=Ea h.tail.ht;refine AL Tryz.func224 fun E H=>?_
 rintro Q ⟨F,f31⟩;refine BY (fun f=>?_) fun f=>?_
 ·exact absurd f AA
 obtain⟨S,d⟩:=xI (Bv x);refine AB H (Iv h o m D AA AA j d) ?_;refine Bi (fun k=>?_) fun k=>?_
 ·exact absurd (LK.2 g) AA
 exact AN AK
def nU (h:BT R (r::u)) (P:T=tw (r::u)) (O:A=em (r::u) x) (hx:El (r::u) s x) (K:x=p+q*rt u r) (hp:El u s p) (hq:El u s q) (hs:SS (r::u).length R s<=60000000000000) (a1:VV (r::u).length R R<=60000000000000) (V:0<=x) (h0:q=0) (hw:In u w) (hy:J7 u p w) (hB:B=em (r::u) w):CF 224 [BF T,AQ A] (.BI [(false,[AT B]),(false,[.bool true])]):=by
 have ay:T.length=u.length+1:=by rw[P,Cq];rfl
 have aw:A.length=2^u.length+2^u.length:=by rw[O,B9 hx.mem,Cc]
 have aA:=El.D9 h;have hR:=h.hR;have aD:VV (r::u).length R s<=SS (r::u).length R s:=Km u.length R s;have aC:s+II u.length R (TQ u.length R s+GG u.length R)+2*EE u.length R+2<=SS (r::u).length R s:=Lw u.length R s;have aB:=Hc (r::u).length R s;have az:=GH u.length R (TQ u.length R s+GG u.length R);have ax:TQ u.length R s=3*s+4*EE u.length R+R+GG u.length R+3+II u.length R R:=rfl;have ah:=Ea h.tail.ht;refine AL Tryz.func224 fun E D=>?_
 rintro aH ⟨ao,f31⟩;refine BY (fun L=>?_) fun L=>?_
 ·exact absurd L AA
 obtain⟨aM,j⟩:=xI (Bv x);refine AB D (Iv h P O hx AA AA a1 j) ?_;refine Dk (fun M=>?_) fun M=>?_
 ·exact (LN j M V).elim
 rintro aI ⟨aq,f48⟩ aJ au aE af S ad a5 G;refine BA ((T.length-1)) fun aa k=>?_
 refine AM ?_;rintro aK ⟨ar,f58⟩ aL av aF ag U ae a6 H aG J Q an ⟨ab,F⟩ a7 I;have d:a5=tw u:=by rw[G,List.drop_zero,(AA:S=T.length-1),P,Ey]
 have a2:aa=em u (AU u r):=by rw[P,HG] at k;exact (Option.some.inj k).symm.trans (F2 h.red)
 have o:a6=em u p:=by rw[H,List.drop_zero,(AA:U=A.length/2),O,DX h.red hp.mem hq.mem K]
 have z:a7=em u q:=by rw[I,(AA:Q=A.length/2),F,J,List.take_length,O,DE h.red hp.mem hq.mem K]
 obtain⟨ak,al,ai,aj,m⟩:=Ca (((0:Int):Rat));refine AB D (Ff AA rfl m) ?_;obtain⟨N,f⟩:=xR (em u (0));refine AB (r:= .one (AT N)) D (IL h.tail d m (by rw[show Re.ofRat ((0:Int):Rat)=0 from rfl];exact f)) ?_;refine AB D (J8 h.tail.red hq.mem z h0) ?_;obtain⟨a8,g⟩:=xR (em u w);refine AB D (hy d o g) ?_;have W:B=a8++N:=by rw[hB,g,f];exact Gp h.red hw (C0 u) (by grind)
 refine AB (r:= .one (AT B)) D (UY (by rw[g,B9 hw];omega) (by rw[f,B9 (C0 u)];omega) W) ?_;exact AN ⟨t2,t2,trivial⟩
def nV (h:BT R (r::u)) (W:T=tw (r::u)) (V:A=em (r::u) x) (hx:El (r::u) s x) (P:x=p+q*rt u r) (hp:El u s p) (hq:El u s q) (hs:SS (r::u).length R s<=60000000000000) (aa:VV (r::u).length R R<=60000000000000) (a6:0<=x) (h0:q=0) (hi:In u i) (N:AU u r*i=1) (hn:J6 u p l) (hw:In u w) (hy:J7 u (p*i) w) (hB:B=em (r::u) (w*rt u r)):CF 224 [BF T,AQ A] (.BI [(false,[AT B]),(false,[.bool true])]):=by
 have aE:T.length=u.length+1:=by rw[W,Cq];rfl
 have aC:A.length=2^u.length+2^u.length:=by rw[V,B9 hx.mem,Cc]
 have O:=El.D9 h;have hR:=h.hR;have aI:VV (r::u).length R s<=SS (r::u).length R s:=Km u.length R s;have aH:s+II u.length R (TQ u.length R s+GG u.length R)+2*EE u.length R+2<=SS (r::u).length R s:=Lw u.length R s;have aG:=Hc (r::u).length R s;have aF:=GH u.length R (TQ u.length R s+GG u.length R);have aD:TQ u.length R s=3*s+4*EE u.length R+R+GG u.length R+3+II u.length R R:=rfl;have ao:=Ea h.tail.ht;have a8:=O.inv h.tail hi N;refine AL Tryz.func224 fun E k=>?_
 rintro aM ⟨ax,f31⟩;refine BY (fun Q=>?_) fun Q=>?_
 ·exact absurd Q AA
 obtain⟨aR,m⟩:=xI (Bv x);refine AB k (Iv h W V hx AA AA aa m) ?_;refine Dk (fun S=>?_) fun S=>?_
 ·exact (LN m S a6).elim
 rintro aN ⟨ay,f48⟩ aO aA aJ al a2 aj ab J;refine BA ((T.length-1)) fun ah D=>?_
 refine AM ?_;rintro aP ⟨az,f58⟩ aQ aB aK an a5 ak ad K aL M a1 aw ⟨ai,I⟩ ae L;have d:ab=tw u:=by rw[J,List.drop_zero,(AA:a2=T.length-1),W,Ey]
 have H:ah=em u (AU u r):=by rw[W,HG] at D;exact (Option.some.inj D).symm.trans (F2 h.red)
 have f:ad=em u p:=by rw[K,List.drop_zero,(AA:a5=A.length/2),V,DX h.red hp.mem hq.mem P]
 have G:ae=em u q:=by rw[L,(AA:a1=A.length/2),I,M,List.take_length,V,DE h.red hp.mem hq.mem P]
 obtain⟨au,av,aq,ar,F⟩:=Ca (((0:Int):Rat));refine AB k (Ff AA rfl F) ?_;obtain⟨U,g⟩:=xR (em u (0));refine AB (r:= .one (AT U)) k (IL h.tail d F (by rw[show Re.ofRat ((0:Int):Rat)=0 from rfl];exact g)) ?_;refine AB k (J8 h.tail.red hq.mem G h0) ?_;refine AB k (hn d f) ?_;obtain⟨af,o⟩:=xR (em u (i));refine AB (r:= .BI [(false,[AT af]),(false,[.int .i64 0])]) k (QZ h.tail d H O hi N (by have:=Lt u.length R (s:=R) (t:=TQ u.length R s+GG u.length R) AA;omega) o) ?_;obtain⟨aS,z⟩:=xR (em u (p*i));refine AB k (FP h.tail d f o hp a8 AA z) ?_;obtain⟨ag,j⟩:=xR (em u w);refine AB k (hy d z j) ?_;have a7:B=U++ag:=by rw[hB,j,g];exact Gp h.red (C0 u) hw (by grind)
 refine AB (r:= .one (AT B)) k (UY (by rw[g,B9 (C0 u)];omega) (by rw[j,B9 hw];omega) a7) ?_;exact AN ⟨t2,t2,trivial⟩
def nW (h:BT R (r::u)) (U:T=tw (r::u)) (S:A=em (r::u) x) (hx:El (r::u) s x) (O:x=p+q*rt u r) (hp:El u s p) (hq:El u s q) (hs:SS (r::u).length R s<=60000000000000) (a7:VV (r::u).length R R<=60000000000000) (a2:0<=x) (h0:q=0) (hi:In u i) (L:AU u r*i=1) (hn:J6 u p l) {l2:LR} (a6:J6 u (p*i) l2):CF 224 [BF T,AQ A] (.BI [(false,[.sl AJ (([]:LR))]),(false,[.bool false])]):=by
 have aC:T.length=u.length+1:=by rw[U,Cq];rfl
 have aA:A.length=2^u.length+2^u.length:=by rw[S,B9 hx.mem,Cc]
 have M:=El.D9 h;have hR:=h.hR;have aG:VV (r::u).length R s<=SS (r::u).length R s:=Km u.length R s;have aF:s+II u.length R (TQ u.length R s+GG u.length R)+2*EE u.length R+2<=SS (r::u).length R s:=Lw u.length R s;have aE:=Hc (r::u).length R s;have aD:=GH u.length R (TQ u.length R s+GG u.length R);have aB:TQ u.length R s=3*s+4*EE u.length R+R+GG u.length R+3+II u.length R R:=rfl;have al:=Ea h.tail.ht;have a5:=M.inv h.tail hi L;refine AL Tryz.func224 fun E g=>?_
 rintro aK ⟨av,f31⟩;refine BY (fun P=>?_) fun P=>?_
 ·exact absurd P AA
 obtain⟨aP,j⟩:=xI (Bv x);refine AB g (Iv h U S hx AA AA a7 j) ?_;refine Dk (fun Q=>?_) fun Q=>?_
 ·exact (LN j Q a2).elim
 rintro aL ⟨aw,f48⟩ aM ay aH aj W ah a8 H;refine BA ((T.length-1)) fun af o=>?_
 refine AM ?_;rintro aN ⟨ax,f58⟩ aO az aI ak a1 ai aa I aJ K V au ⟨ag,G⟩ ab J;have d:a8=tw u:=by rw[H,List.drop_zero,(AA:W=T.length-1),U,Ey]
 have F:af=em u (AU u r):=by rw[U,HG] at o;exact (Option.some.inj o).symm.trans (F2 h.red)
 have f:aa=em u p:=by rw[I,List.drop_zero,(AA:a1=A.length/2),S,DX h.red hp.mem hq.mem O]
 have D:ab=em u q:=by rw[J,(AA:V=A.length/2),G,K,List.take_length,S,DE h.red hp.mem hq.mem O]
 obtain⟨aq,ar,an,ao,z⟩:=Ca (((0:Int):Rat));refine AB g (Ff AA rfl z) ?_;obtain⟨ad,N⟩:=xR (em u (0));refine AB (r:= .one (AT ad)) g (IL h.tail d z (by rw[show Re.ofRat ((0:Int):Rat)=0 from rfl];exact N)) ?_;refine AB g (J8 h.tail.red hq.mem D h0) ?_;refine AB g (hn d f) ?_;obtain⟨ae,k⟩:=xR (em u (i));refine AB (r:= .BI [(false,[AT ae]),(false,[.int .i64 0])]) g (QZ h.tail d F M hi L (by have:=Lt u.length R (s:=R) (t:=TQ u.length R s+GG u.length R) AA;omega) k) ?_;obtain⟨aQ,m⟩:=xR (em u (p*i));refine AB g (FP h.tail d f k hp a5 AA m) ?_;refine AB g (a6 d m) ?_;exact AN AK
def nQ (h:BT R (r::u)) (hT:T=tw (r::u)) (hA:A=em (r::u) x) (hx:El (r::u) s x) (S:x=p+q*rt u r) (J:El u s p) (D:El u s q) (hs:SS (r::u).length R s<=60000000000000) (a8:VV (r::u).length R R<=60000000000000) (a6:0<=x) (h0:q≠0) (hn:J6 u (p*p-q*q*AU u r) l):CF 224 [BF T,AQ A] (.BI [(false,[.sl AJ (([]:LR))]),(false,[.bool false])]):=by
 have aF:T.length=u.length+1:=by rw[hT,Cq];rfl
 have aD:A.length=2^u.length+2^u.length:=by rw[hA,B9 hx.mem,Cc]
 have P:=El.D9 h;have hR:=h.hR;have aJ:VV (r::u).length R s<=SS (r::u).length R s:=Km u.length R s;have aI:s+II u.length R (TQ u.length R s+GG u.length R)+2*EE u.length R+2<=SS (r::u).length R s:=Lw u.length R s;have aH:=Hc (r::u).length R s;have aG:=GH u.length R (TQ u.length R s+GG u.length R);have aE:TQ u.length R s=3*s+4*EE u.length R+R+GG u.length R+3+II u.length R R:=rfl;have al:=Ea h.tail.ht;refine AL Tryz.func224 fun E z=>?_
 rintro aN ⟨ay,f31⟩;refine BY (fun U=>?_) fun U=>?_
 ·exact absurd U AA
 obtain⟨aS,F⟩:=xI (Bv x);refine AB z (Iv h hT hA hx AA AA a8 F) ?_;refine Dk (fun V=>?_) fun V=>?_
 ·exact (LN F V a6).elim
 rintro aO ⟨az,f48⟩ aP aB aK aj a2 ah aa L;refine BA ((T.length-1)) fun af G=>?_
 refine AM ?_;rintro aQ ⟨aA,f58⟩ aR aC aL ak a5 ai ab M aM O a1 ax ⟨ag,K⟩ ad N;have d:aa=tw u:=by rw[L,List.drop_zero,(AA:a2=T.length-1),hT,Ey]
 have I:af=em u (AU u r):=by rw[hT,HG] at G;exact (Option.some.inj G).symm.trans (F2 h.red)
 have g:ab=em u p:=by rw[M,List.drop_zero,(AA:a5=A.length/2),hA,DX h.red J.mem D.mem S]
 have f:ad=em u q:=by rw[N,(AA:a1=A.length/2),K,O,List.take_length,hA,DE h.red J.mem D.mem S]
 obtain⟨av,aw,ar,au,H⟩:=Ca (((0:Int):Rat));refine AB z (Ff AA rfl H) ?_;obtain⟨ae,Q⟩:=xR (em u (0));refine AB (r:= .one (AT ae)) z (IL h.tail d H (by rw[show Re.ofRat ((0:Int):Rat)=0 from rfl];exact Q)) ?_;refine AB z (Kp h.tail.red D.mem f h0) ?_;obtain⟨an,j⟩:=xR (em u (p*p));refine AB z (FP h.tail d g g J J AA j) ?_;obtain⟨ao,k⟩:=xR (em u (q*q));refine AB z (FP h.tail d f f D D AA k) ?_;obtain⟨aq,m⟩:=xR (em u (AU u r*(q*q)));refine AB z (FP h.tail d I k P (D.mul h.tail D) AA m) ?_;obtain⟨W,o⟩:=xR (em u (p*p-AU u r*(q*q)));refine AB z (Qa h.tail j m (J.mul h.tail J) (P.mul h.tail (D.mul h.tail D)) AA AA o) ?_;have a7:W=em u (p*p-q*q*AU u r):=by rw[o,show p*p-AU u r*(q*q)=p*p-q*q*AU u r by grind]
 refine AB z (hn d a7) ?_;refine CN ?_;exact AN AK
def nS (h:BT R (r::u)) (hT:T=tw (r::u)) (hA:A=em (r::u) x) (hx:El (r::u) s x) (a5:x=p+q*rt u r) (P:El u s p) (O:El u s q) (hs:SS (r::u).length R s<=60000000000000) (aG:VV (r::u).length R R<=60000000000000) (aA:0<=x) (h0:q≠0) (hn:In u n) (aD:n*n=p*p-q*q*AU u r) (ht:t=Re.ofRat (1/2)) (aK:J7 u (p*p-q*q*AU u r) n) {y:Nat->Re} (aH:y 0=p+n) (aI:y 1=p-n) (aJ:∀i,El u (s+(2*s+2*EE u.length R+R+1+GG u.length R)+1) (y i)) {L:Nat->LR} (hk:k0<=2) (aE:∀i,i<k0->J6 u (t*y i) (L i)) (W:k0=2):CF 224 [BF T,AQ A] (.BI [(false,[.sl AJ (([]:LR))]),(false,[.bool false])]):=by
 have bf:T.length=u.length+1:=by rw[hT,Cq];rfl
 have bc:A.length=2^u.length+2^u.length:=by rw[hA,B9 hx.mem,Cc]
 have ag:=El.D9 h;have hR:=h.hR;have bn:VV (r::u).length R s<=SS (r::u).length R s:=Km u.length R s;have bm:s+II u.length R (TQ u.length R s+GG u.length R)+2*EE u.length R+2<=SS (r::u).length R s:=Lw u.length R s;have bk:=Hc (r::u).length R s;have bj:=GH u.length R (TQ u.length R s+GG u.length R);have bd:TQ u.length R s=3*s+4*EE u.length R+R+GG u.length R+3+II u.length R R:=rfl;have aX:=Ea h.tail.ht;have hN:=El.norm h P.mem O.mem (a5 ▸ hx);have af:=hN.sqrt h.tail hn aD;have aF:El u 1 t:=by rw[ht];exact El.rat h.red.1 Oh
 refine AL Tryz.func224 fun E f=>?_
 rintro bs ⟨b7,f31⟩;refine BY (fun aj=>?_) fun aj=>?_
 ·exact absurd aj AA
 obtain⟨bz,Q⟩:=xI (Bv x);refine AB f (Iv h hT hA hx AA AA aG Q) ?_;refine Dk (fun ak=>?_) fun ak=>?_
 ·exact (LN Q ak aA).elim
 rintro bt ⟨b8,f48⟩ bu ba bp aV ay aT al a8;refine BA ((T.length-1)) fun aM S=>?_
 refine AM ?_;rintro bw ⟨b9,f58⟩ bx bb bq aW az aU an aa br ad ax b6 ⟨aS,a7⟩ ao ab;have d:al=tw u:=by rw[a8,List.drop_zero,(AA:ay=T.length-1),hT,Ey]
 have a2:aM=em u (AU u r):=by rw[hT,HG] at S;exact (Option.some.inj S).symm.trans (F2 h.red)
 have g:an=em u p:=by rw[aa,List.drop_zero,(AA:az=A.length/2),hA,DX h.red P.mem O.mem a5]
 have j:ao=em u q:=by rw[ab,(AA:ax=A.length/2),a7,ad,List.take_length,hA,DE h.red P.mem O.mem a5]
 obtain⟨b4,b5,b2,b3,U⟩:=Ca (((0:Int):Rat));refine AB f (Ff AA rfl U) ?_;obtain⟨aL,ah⟩:=xR (em u (0));refine AB (r:= .one (AT aL)) f (IL h.tail d U (by rw[show Re.ofRat ((0:Int):Rat)=0 from rfl];exact ah)) ?_;refine AB f (Kp h.tail.red O.mem j h0) ?_;obtain⟨aY,o⟩:=xR (em u (p*p));refine AB f (FP h.tail d g g P P AA o) ?_;obtain⟨aZ,z⟩:=xR (em u (q*q));refine AB f (FP h.tail d j j O O AA z) ?_;obtain⟨b0,D⟩:=xR (em u (AU u r*(q*q)));refine AB f (FP h.tail d a2 z ag (O.mul h.tail O) AA D) ?_;obtain⟨ar,F⟩:=xR (em u (p*p-AU u r*(q*q)));refine AB f (Qa h.tail o D (P.mul h.tail P) (ag.mul h.tail (O.mul h.tail O)) AA AA F) ?_;have aB:ar=em u (p*p-q*q*AU u r):=by rw[F,show p*p-AU u r*(q*q)=p*p-q*q*AU u r by grind]
 obtain⟨au,G⟩:=xR (em u n);refine AB f (aK d aB G) ?_;refine BG ?_;obtain⟨aP,aQ,aN,aO,N⟩:=Ca ((1/2:Rat));refine AB f (UQ AA AA AD (by decide +kernel) N) ?_;obtain⟨V,H⟩:=xR (em u (t));refine AB (r:= .one (AT V)) f (IL h.tail d N (H.trans (by rw[ht]))) ?_;refine BX [] [9,12,13,22,24,25] [] (fun vs bl k=>∃(k':Nat) (m:Re) (M:LR) (i:Int),vs=[BF al,AQ an,AQ ao,AQ M,AQ V,AH i]/\(AZ i k'/\k'<=2)/\(M=em u m/\m=if k'=1 then -n else n)/\k=2-k') (2-0) ⟨0,n,au,0,rfl,⟨BM 0,AA⟩,⟨G,rfl⟩,rfl⟩ ?_;rintro J0 a6 vs bl bo ⟨k',m,M,i,rfl,⟨hi,bg⟩,⟨hM,a1⟩,bh⟩;conv=>cbv
 have ei:=hi.eq;refine Bi (fun ai=>?_) fun ai=>?_
 ·exact AN AK
 refine .inr ?_;have W:k'=0\/k'=1:=AA
 have ae:El u (2*s+2*EE u.length R+R+1+GG u.length R) m:=by rw[a1];split;exact af.neg h.red.1;exact af
 have aC:p+m=y k':=by rcases W with e | e <;> rw[e,a1,e] <;> first | (rw[aH];rfl) | (rw[aI];simp;grind)
 obtain⟨av,I⟩:=xR (em u (y k'));refine AB (r:= .one (AT av)) f (Lz h.tail g hM P ae AA AA (I.trans (by rw[aC]))) ?_;obtain⟨b1,J⟩:=xR (em u (t*y k'));refine AB f (FP h.tail d H I aF (aJ k') AA J) ?_;refine AB f (aE k' AA d J) ?_;obtain⟨aw,K⟩:=xR (em u (-m));refine AB f (Mz h.tail hM ae K) ?_;intro aq aR;exact Bj a6 ⟨k'+1,-m,aw,aq,rfl,⟨⟨AA⟩,AA⟩,⟨K,by clear a6;rcases W with e | e <;> rw[a1,e] <;> first | rfl | (show- -n=n;grind)⟩,rfl⟩
def nR (h:BT R (r::u)) (hT:T=tw (r::u)) (hA:A=em (r::u) x) (hx:El (r::u) s x) (ab:x=p+q*rt u r) (hp:El u s p) (hq:El u s q) (hs:SS (r::u).length R s<=60000000000000) (aV:VV (r::u).length R R<=60000000000000) (aL:0<=x) (h0:q≠0) (hn:In u n) (aT:n*n=p*p-q*q*AU u r) (ht:t=Re.ofRat (1/2)) (aZ:J7 u (p*p-q*q*AU u r) n) {y:Nat->Re} (aX:y 0=p+n) (aY:y 1=p-n) (aw:∀i,El u (s+(2*s+2*EE u.length R+R+1+GG u.length R)+1) (y i)) {L:Nat->LR} (hk:k0<=2) (aU:∀i,i<k0->J6 u (t*y i) (L i)) (bE:k0<2) {j:Re} (hw:In u w) (aW:w*w=t*y k0) (b0:J7 u (t*y k0) w) (hj:In u j) (av:w*j=1) (hB:B=em (r::u) (w+t*(q*j)*rt u r)):CF 224 [BF T,AQ A] (.BI [(false,[AT B]),(false,[.bool true])]):=by
 have bB:T.length=u.length+1:=by rw[hT,Cq];rfl
 have bz:A.length=2^u.length+2^u.length:=by rw[hA,B9 hx.mem,Cc]
 have ao:=El.D9 h;have hR:=h.hR;have bJ:VV (r::u).length R s<=SS (r::u).length R s:=Km u.length R s;have bI:s+II u.length R (TQ u.length R s+GG u.length R)+2*EE u.length R+2<=SS (r::u).length R s:=Lw u.length R s;have bH:=Hc (r::u).length R s;have bG:=GH u.length R (TQ u.length R s+GG u.length R);have bA:TQ u.length R s=3*s+4*EE u.length R+R+GG u.length R+3+II u.length R R:=rfl;have bf:=Ea h.tail.ht;have hN:=El.norm h hp.mem hq.mem (ab ▸ hx);have an:=hN.sqrt h.tail hn aT;have S:El u 1 t:=by rw[ht];exact El.rat h.red.1 Oh
 have aQ:=S.mul h.tail (aw k0);have au:=aQ.sqrt h.tail hw aW;have a6:=(au.mono (t:=TQ u.length R s+GG u.length R) AA).inv h.tail hj av;refine AL Tryz.func224 fun E hE=>?_
 rintro bO ⟨bs,f31⟩;refine BY (fun ax=>?_) fun ax=>?_
 ·exact absurd ax AA
 obtain⟨bT,U⟩:=xI (Bv x);refine AB hE (Iv h hT hA hx AA AA aV U) ?_;refine Dk (fun ay=>?_) fun ay=>?_
 ·exact (LN U ay aL).elim
 rintro bP ⟨bt,f48⟩ bQ bw bL bc aJ b9 ad ah;refine BA ((T.length-1)) fun b2 V=>?_
 refine AM ?_;rintro bR ⟨bu,f58⟩ bS bx bM bd aK ba az ai bN ak aI br ⟨b8,af⟩ aA aj;have d:ad=tw u:=by rw[ah,List.drop_zero,(AA:aJ=T.length-1),hT,Ey]
 have aa:b2=em u (AU u r):=by rw[hT,HG] at V;exact (Option.some.inj V).symm.trans (F2 h.red)
 have g:az=em u p:=by rw[ai,List.drop_zero,(AA:aK=A.length/2),hA,DX h.red hp.mem hq.mem ab]
 have f:aA=em u q:=by rw[aj,(AA:aI=A.length/2),af,ak,List.take_length,hA,DE h.red hp.mem hq.mem ab]
 obtain⟨bp,bq,bn,bo,W⟩:=Ca (((0:Int):Rat));refine AB hE (Ff AA rfl W) ?_;obtain⟨b1,ar⟩:=xR (em u (0));refine AB (r:= .one (AT b1)) hE (IL h.tail d W (by rw[show Re.ofRat ((0:Int):Rat)=0 from rfl];exact ar)) ?_;refine AB hE (Kp h.tail.red hq.mem f h0) ?_;obtain⟨bg,F⟩:=xR (em u (p*p));refine AB hE (FP h.tail d g g hp hp AA F) ?_;obtain⟨bh,G⟩:=xR (em u (q*q));refine AB hE (FP h.tail d f f hq hq AA G) ?_;obtain⟨bj,H⟩:=xR (em u (AU u r*(q*q)));refine AB hE (FP h.tail d aa G ao (hq.mul h.tail hq) AA H) ?_;obtain⟨aC,I⟩:=xR (em u (p*p-AU u r*(q*q)));refine AB hE (Qa h.tail F H (hp.mul h.tail hp) (ao.mul h.tail (hq.mul h.tail hq)) AA AA I) ?_;have aN:aC=em u (p*p-q*q*AU u r):=by rw[I,show p*p-AU u r*(q*q)=p*p-q*q*AU u r by grind]
 obtain⟨aD,J⟩:=xR (em u n);refine AB hE (aZ d aN J) ?_;refine BG ?_;obtain⟨b5,b6,b3,b4,Q⟩:=Ca ((1/2:Rat));refine AB hE (UQ AA AA AD (by decide +kernel) Q) ?_;obtain⟨a2,o⟩:=xR (em u (t));refine AB (r:= .one (AT a2)) hE (IL h.tail d Q (o.trans (by rw[ht]))) ?_;refine BX [] [9,12,13,22,24,25] [] (fun vs bl k=>∃(k':Nat) (m:Re) (M:LR) (i:Int),vs=[BF ad,AQ az,AQ aA,AQ M,AQ a2,AH i]/\(AZ i k'/\k'<=k0)/\(M=em u m/\m=if k'=1 then -n else n)/\k=k0-k') (k0-0) ⟨0,n,aD,0,rfl,⟨BM 0,AA⟩,⟨J,rfl⟩,rfl⟩ ?_;rintro J0 ae vs bl bK ⟨k',m,M,i,rfl,⟨hi,bC⟩,⟨hM,a7⟩,bD⟩;conv=>cbv
 have ei:=hi.eq;refine Bi (fun a1=>?_) fun a1=>?_
 ·exact absurd a1 AA
 refine .inr ?_;have ag:k'=0\/k'=1:=AA
 have al:El u (2*s+2*EE u.length R+R+1+GG u.length R) m:=by rw[a7];split;exact an.neg h.red.1;exact an
 have aS:p+m=y k':=by rcases ag with e | e <;> rw[e,a7,e] <;> first | (rw[aX];rfl) | (rw[aY];simp;grind)
 obtain⟨aE,K⟩:=xR (em u (y k'));refine AB (r:= .one (AT aE)) hE (Lz h.tail g hM hp al AA AA (K.trans (by rw[aS]))) ?_;obtain⟨aF,z⟩:=xR (em u (t*y k'));refine AB hE (FP h.tail d o K S (aw k') AA z) ?_
 obtain⟨wl,bb,a5,aP,aO⟩:∃(wl:LR) (bb:Bool),CF 224 [BF ad,AQ aF] (.BI [(false,[AT wl]),(false,[.bool bb])])/\(bb=true->k'=k0/\wl=em u w)/\(bb=false->k'<k0):=by
  by_cases e:k'<k0
  ·exact⟨L k',false,aU k' e d z,fun e=>(Bool.false_ne_true e).elim,fun _=>e⟩
  have e2:k'=k0:=AA
  exact⟨em u w,true,b0 d (z.trans (by rw[e2])) rfl,fun _=>⟨e2,rfl⟩,fun e=>(Bool.noConfusion e)⟩
 refine AB hE a5 ?_;cases bb <;> conv=>cbv
 ·have bF:=aO rfl;obtain⟨aH,P⟩:=xR (em u (-m));refine AB hE (Mz h.tail hM al P) ?_;intro aB b7;exact Bj ae ⟨k'+1,-m,aH,aB,rfl,⟨⟨AA⟩,AA⟩,⟨P,by clear ae;rcases ag with e | e <;> rw[a7,e] <;> first | rfl | (show- -n=n;grind)⟩,rfl⟩
 obtain⟨aR,a8⟩:=aP rfl;subst aR;obtain⟨bk,N⟩:=xR (em u (j));refine AB hE (QZ h.tail d a8 (au.mono (t:=TQ u.length R s+GG u.length R) AA) hj av AA N) ?_;obtain⟨bm,O⟩:=xR (em u (q*j));refine AB hE (FP h.tail d f N hq a6 AA O) ?_;obtain⟨aG,D⟩:=xR (em u (t*(q*j)));refine AB hE (FP h.tail d o O S (hq.mul h.tail a6) AA D) ?_;have aq:=S.mul h.tail (hq.mul h.tail a6);have aM:B=wl++aG:=by rw[hB,a8,D];exact Gp h.red hw aq.mem rfl
 refine AB (r:= .one (AT B)) hE (UY (by rw[a8,B9 hw];omega) (by rw[D,B9 aq.mem];omega) aM) ?_;exact AN ⟨t2,t2,trivial⟩
end
end Go.Abs
