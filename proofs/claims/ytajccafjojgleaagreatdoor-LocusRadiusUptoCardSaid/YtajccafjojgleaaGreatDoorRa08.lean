/- Part 9 of a proof. Conditions: each theorem's own. -/
import Derived.Shelf.Spec.SlicesGrow
import Derived.Test.YtajccafjojgleaaGreatDoorRa07
set_option linter.all false
set_option maxHeartbeats 80000000
set_option maxRecDepth 20000
open Go.Proofs
namespace Go.Abs
open Go.RowKit
section
variable {A B C X Y Z:LR} {R s t zn:Nat} {T:List LR} {a b p q x y:Re} {r:List Rat} {u:AD}
theorem Ie (h:Ag u) (g:In u x) (f:X=em u x) (d:x=0):CF 149 [AO X] (.one (.bool true)):=
 Wp f (decide_eq_true ((NP h g).2 d)).symm
theorem JJ (h:Ag u) (g:In u x) (f:X=em u x) (d:x≠0):CF 149 [AO X] (.one (.bool false)):=
 Wp f (decide_eq_false (fun k=>d ((NP h g).1 k))).symm
theorem Wq (h:BC R u) (j:X=em u x) (k:Y=em u y) (d:El u s x) (f:El u t y) (o:s<=60000000000000) (ht:t<=60000000000000) (m:Z=em u (x+y)) (g:zn=Z.length):
  CF 90 [Ah T,AO X,AO Y] (.one (.own AG Z zn)):=
 gW j k (d.CM o) (f.CM ht) (by rw[d.len,f.len]) (by rw[d.len];exact Js h.ht) (by rw[m,YW h.red d.mem f.mem]) g
theorem KM (h:BC R u) (d:X=em u x) (f:Y=em u y) (k:El u s x) (m:El u t y) (j:s<=60000000000000) (ht:t<=60000000000000) (g:Z=em u (x+y)):
 CF 90 [Ah T,AO X,AO Y] (AO Z):=Df (Wq h d f k m j ht g rfl)
theorem LL (h:BC R u) (f:X=em u x) (d:El u s x) (g:Z=em u (-x)):
  CF 46 [Ah T,AO X] (AO Z):=
 gu f (by rw[d.len];exact Js h.ht) (by rw[g,YX h.red d.mem])
theorem Ou (h:BC R u) (k:X=em u x) (m:Y=em u y) (D:El u s x) (j:El u t y) (z:s<=60000000000000) (ht:t<=60000000000000) (o:Z=em u (x-y)):CF 196 [Ah T,AO X,AO Y] (AO Z):=by
 refine AM Tryz.func196 fun E g=>?_
 obtain⟨F,d⟩:=xR (em u (-y));refine AB g (LL h m j d) ?_;obtain⟨G,f⟩:=xR (em u (x+ -y));refine AB g (KM h k d D (j.neg h.red) z ht f) ?_;exact AL (by rw[o,f,show x-y=x+ -y by grind])
theorem iZ {p q:Rat} (L:T=[]) (F:A=[rp p]) (G:B=[rp q]) (O:B8 p) (ht:B8 q) (H:C=[rp (p*q)]) (D:zn=C.length):CF 91 [Ah T,AO A,AO B] (.one (.own AG C zn)):=by
 refine AM Tryz.func91 fun E K=>?_
 rintro P ⟨z,f14⟩;refine CN (fun h=>?_) fun h=>?_
 ·exact absurd (by rw[z,L];rfl) h
 have I:A.length=1:=by rw[F];rfl
 have J:B.length=1:=by rw[G];rfl
 refine Ae 0 fun Q f=>?_
 try conv=>cbv
 refine Ae 0 fun S g=>?_
 try conv=>cbv
 have M:=FW F f;have N:=FW G g;obtain⟨m,o,j,k,d⟩:=By (p*q);refine AB K (Om M N O ht rfl d) ?_;refine⟨[((m,o),(j,k))],Ca,.inl ?_⟩;try conv=>cbv
 refine g2 rfl ?_;exact AN ⟨⟨rfl,.inr (.inl ⟨_,_,AE,rfl,rfl,rfl,rfl,C3 (by rw[H,d.rp]) (by rw[D,H];rfl)⟩),trivial⟩,trivial⟩
def M3 (R:Nat) (u:AD):Prop:=∀{T:List LR} {A B C:LR} {zn s t:Nat} {x y:Re},T=tw u->A=em u x->B=em u y->El u s x->El u t y->s+t+EE u.length R<=60000000000000->C=em u (x*y)->zn=C.length->
 CF 91 [Ah T,AO A,AO B] (.one (.own AG C zn))
theorem ik (h:BC R (r::u)) (ih:M3 R u) (hT:T=tw (r::u)) (hA:A=em (r::u) x) (hB:B=em (r::u) y) (hx:El (r::u) s x) (hy:El (r::u) t y) (aV:s+t+EE (r::u).length R<=60000000000000) (J:x=p+q*rt u r) (hp:El u s p) (hq:El u s q) (K:y=a+b*rt u r) (ha:El u t a) (hb:El u t b) (h0:q=0) (h1:b=0) (hC:C=em (r::u) (x*y)) (ae:zn=C.length):CF 91 [Ah T,AO A,AO B] (.one (.own AG C zn)):=by
 have aR:EE (r::u).length R=2*EE u.length R+R+2:=rfl;have aT:=El.DL h;have hR:=h.hR;have aU:=Cz h.red;have aS:T.length=u.length+1:=by rw[hT,CA];rfl
 have aP:A.length=2^u.length+2^u.length:=by rw[hA,Bh hx.mem,Bz]
 have aQ:B.length=2^u.length+2^u.length:=by rw[hB,Bh hy.mem,Bz]
 refine AM Tryz.func91 fun E M=>?_
 rintro b1 ⟨aI,f14⟩;refine BS (fun a6=>?_) fun a6=>?_
 ·exact absurd a6 AA
 rintro b2 ⟨aJ,f25⟩ b3 aM b4 ⟨aK,f29⟩ b5 aN aW aw aa ao af P b6 ⟨aL,f34⟩ b7 aO;refine Ae ((T.length-1)) fun b8 aA=>?_
 refine AK ?_;rintro aX a1 a7 aG ⟨al,N⟩ ag Q;have F:ag=em u q:=by rw[Q,(AA:a7=A.length/2),N,a1,List.take_length,hA,CZ h.red hp.mem hq.mem J]
 refine AB M (Ie h.tail.red hq.mem F h0) ?_;rintro aY a2 a8 aH ⟨an,O⟩ ah S;have G:ah=em u b:=by rw[S,(AA:a8=B.length/2),O,a2,List.take_length,hB,CZ h.red ha.mem hb.mem K]
 refine AB M (Ie h.tail.red hb.mem G h1) ?_;intro aZ ax ab aq ai U b0 ay ad ar aj V;have d:af=tw u:=by rw[P,List.drop_zero,(AA:aa=T.length-1),hT,Dx]
 have H:ai=em u p:=by rw[U,List.drop_zero,(AA:ab=A.length/2),hA,Cv h.red hp.mem hq.mem J]
 have I:aj=em u a:=by rw[V,List.drop_zero,(AA:ad=B.length/2),hB,Cv h.red ha.mem hb.mem K]
 obtain⟨m,f⟩:=xR (em u (p*a));obtain⟨aB,g⟩:=xN m.length;refine AB M (ih d H I hp ha AA f g) ?_;obtain⟨aE,aF,aC,aD,z⟩:=By (((0:Int):Rat));refine AB M (Ec AA rfl z) ?_;obtain⟨k,j⟩:=xR (em u (0));refine AB (r:= .one (Au k)) M (G7 h.tail d z (by rw[show Re.ofRat ((0:Int):Rat)=0 from rfl];exact j)) ?_;have au:m.length=2^u.length:=by rw[f,Bh (hp.mul h.tail ha).mem]
 have az:=Dh h.tail.ht;have av:k.length=2^u.length:=by rw[j,Bh (CO u)]
 refine .inl ⟨k,fun _=>⟨rfl,g,rfl,B5 (m.length+k.length) 64⟩,?_⟩;intro (L:LR) ak D;have W:L=(m:LR)++(k:LR):=D.1;have a5:ak=List.length (α:=(el AG)) L:=D.2;conv=>cbv
 have o:C=L:=by rw[hC,W,f,j];exact Ff h.red (hp.mul h.tail ha).mem (CO u) (by rw[J,K,h0,h1];clear ih;grind)
 exact AN ⟨⟨rfl,.inr (.inl ⟨_,_,AE,rfl,rfl,a5,rfl,C3 (o) (by rw[ae,o])⟩),trivial⟩,trivial⟩
theorem ij (h:BC R (r::u)) (ih:M3 R u) (hT:T=tw (r::u)) (hA:A=em (r::u) x) (hB:B=em (r::u) y) (hx:El (r::u) s x) (hy:El (r::u) t y) (b4:s+t+EE (r::u).length R<=60000000000000) (m:x=p+q*rt u r) (k:El u s p) (hq:El u s q) (o:y=a+b*rt u r) (ha:El u t a) (hb:El u t b) (h0:q=0) (h1:b≠0) (hC:C=em (r::u) (x*y)) (al:zn=C.length):CF 91 [Ah T,AO A,AO B] (.one (.own AG C zn)):=by
 have b0:EE (r::u).length R=2*EE u.length R+R+2:=rfl;have b2:=El.DL h;have hR:=h.hR;have b3:=Cz h.red;have b1:T.length=u.length+1:=by rw[hT,CA];rfl
 have aY:A.length=2^u.length+2^u.length:=by rw[hA,Bh hx.mem,Bz]
 have aZ:B.length=2^u.length+2^u.length:=by rw[hB,Bh hy.mem,Bz]
 refine AM Tryz.func91 fun E hE=>?_
 rintro bc ⟨aR,f14⟩;refine BS (fun ad=>?_) fun ad=>?_
 ·exact absurd ad AA
 rintro bd ⟨aS,f25⟩ bf aV bg ⟨aT,f29⟩ bh aW b5 aH ah aB an S bj ⟨aU,f34⟩ bk aX;refine Ae ((T.length-1)) fun bl aM=>?_
 refine AK ?_;rintro b6 a7 ae aO ⟨ay,O⟩ ao U;have H:ao=em u q:=by rw[U,(AA:ae=A.length/2),O,a7,List.take_length,hA,CZ h.red k.mem hq.mem m]
 refine AB hE (Ie h.tail.red hq.mem H h0) ?_;rintro b7 a8 af aP ⟨az,P⟩ aq V;have I:aq=em u b:=by rw[V,(AA:af=B.length/2),P,a8,List.take_length,hB,CZ h.red ha.mem hb.mem o]
 refine AB hE (JJ h.tail.red hb.mem I h1) ?_;intro b8 aI ai aC ar W b9 aJ aj aD au a1;have d:an=tw u:=by rw[S,List.drop_zero,(AA:ah=T.length-1),hT,Dx]
 have J:ar=em u p:=by rw[W,List.drop_zero,(AA:ai=A.length/2),hA,Cv h.red k.mem hq.mem m]
 have K:au=em u a:=by rw[a1,List.drop_zero,(AA:aj=B.length/2),hB,Cv h.red ha.mem hb.mem o]
 obtain⟨z,f⟩:=xR (em u (p*a));obtain⟨aN,g⟩:=xN z.length;refine AB hE (ih d J K k ha AA f g) ?_;rintro ba aK ak aE av a2 bb aa ag aQ ⟨aA,Q⟩ aw a5;have L:av=em u p:=by rw[a2,List.drop_zero,(AA:ak=A.length/2),hA,Cv h.red k.mem hq.mem m]
 have M:aw=em u b:=by rw[a5,(AA:ag=B.length/2),Q,aa,List.take_length,hB,CZ h.red ha.mem hb.mem o]
 obtain⟨D,j⟩:=xR (em u (p*b));refine AB hE (Df (ih d L M k hb AA j rfl)) ?_;have aF:z.length=2^u.length:=by rw[f,Bh (k.mul h.tail ha).mem]
 have aL:=Dh h.tail.ht;have aG:D.length=2^u.length:=by rw[j,Bh (k.mul h.tail hb).mem]
 refine .inl ⟨D,fun _=>⟨rfl,g,rfl,B5 (z.length+D.length) 64⟩,?_⟩;intro (N:LR) ax G;have a6:N=(z:LR)++(D:LR):=G.1;have ab:ax=List.length (α:=(el AG)) N:=G.2;conv=>cbv
 refine g2 rfl ?_;have F:C=N:=by rw[hC,a6,f,j];exact Ff h.red (k.mul h.tail ha).mem (k.mul h.tail hb).mem (by rw[m,o,h0];clear ih;grind)
 exact AN ⟨⟨rfl,.inr (.inl ⟨_,_,AE,rfl,rfl,ab,rfl,C3 (F) (by rw[al,F])⟩),trivial⟩,trivial⟩
theorem ig (h:BC R (r::u)) (ih:M3 R u) (hT:T=tw (r::u)) (hA:A=em (r::u) x) (hB:B=em (r::u) y) (hx:El (r::u) s x) (hy:El (r::u) t y) (b5:s+t+EE (r::u).length R<=60000000000000) (k:x=p+q*rt u r) (O:El u s p) (M:El u s q) (m:y=a+b*rt u r) (ha:El u t a) (hb:El u t b) (h0:q≠0) (h1:b=0) (hC:C=em (r::u) (x*y)) (an:zn=C.length):CF 91 [Ah T,AO A,AO B] (.one (.own AG C zn)):=by
 have b1:EE (r::u).length R=2*EE u.length R+R+2:=rfl;have b3:=El.DL h;have hR:=h.hR;have b4:=Cz h.red;have b2:T.length=u.length+1:=by rw[hT,CA];rfl
 have aZ:A.length=2^u.length+2^u.length:=by rw[hA,Bh hx.mem,Bz]
 have b0:B.length=2^u.length+2^u.length:=by rw[hB,Bh hy.mem,Bz]
 refine AM Tryz.func91 fun E hE=>?_
 rintro bd ⟨aS,f14⟩;refine BS (fun ae=>?_) fun ae=>?_
 ·exact absurd ae AA
 rintro bf ⟨aT,f25⟩ bg aW bh ⟨aU,f29⟩ bj aX b6 aI ai aC ao U bk ⟨aV,f34⟩ bl aY;refine Ae ((T.length-1)) fun bm aN=>?_
 refine AK ?_;rintro b7 a8 af aP ⟨az,P⟩ aq V;have G:aq=em u q:=by rw[V,(AA:af=A.length/2),P,a8,List.take_length,hA,CZ h.red O.mem M.mem k]
 refine AB hE (JJ h.tail.red M.mem G h0) ?_;rintro b8 aa ag aQ ⟨aA,Q⟩ ar W;have H:ar=em u b:=by rw[W,(AA:ag=B.length/2),Q,aa,List.take_length,hB,CZ h.red ha.mem hb.mem m]
 refine AB hE (Ie h.tail.red hb.mem H h1) ?_;intro b9 aJ aj aD au a1 ba aK ak aE av a2;have d:ao=tw u:=by rw[U,List.drop_zero,(AA:ai=T.length-1),hT,Dx]
 have I:au=em u p:=by rw[a1,List.drop_zero,(AA:aj=A.length/2),hA,Cv h.red O.mem M.mem k]
 have J:av=em u a:=by rw[a2,List.drop_zero,(AA:ak=B.length/2),hB,Cv h.red ha.mem hb.mem m]
 obtain⟨o,f⟩:=xR (em u (p*a));obtain⟨aO,g⟩:=xN o.length;refine AB hE (ih d I J O ha AA f g) ?_;rintro bb ab ah aR ⟨aB,S⟩ aw a5 bc aL al aF ax a6;have K:aw=em u q:=by rw[a5,(AA:ah=A.length/2),S,ab,List.take_length,hA,CZ h.red O.mem M.mem k]
 have L:ax=em u a:=by rw[a6,List.drop_zero,(AA:al=B.length/2),hB,Cv h.red ha.mem hb.mem m]
 obtain⟨z,j⟩:=xR (em u (q*a));refine AB hE (Df (ih d K L M ha AA j rfl)) ?_;have aG:o.length=2^u.length:=by rw[f,Bh (O.mul h.tail ha).mem]
 have aM:=Dh h.tail.ht;have aH:z.length=2^u.length:=by rw[j,Bh (M.mul h.tail ha).mem]
 refine .inl ⟨z,fun _=>⟨rfl,g,rfl,B5 (o.length+z.length) 64⟩,?_⟩;intro (N:LR) ay F;have a7:N=(o:LR)++(z:LR):=F.1;have ad:ay=List.length (α:=(el AG)) N:=F.2;conv=>cbv
 refine g2 rfl ?_;have D:C=N:=by rw[hC,a7,f,j];exact Ff h.red (O.mul h.tail ha).mem (M.mul h.tail ha).mem (by rw[k,m,h1];clear ih;grind)
 exact AN ⟨⟨rfl,.inr (.inl ⟨_,_,AE,rfl,rfl,ad,rfl,C3 (D) (by rw[an,D])⟩),trivial⟩,trivial⟩
theorem ie (h:BC R (r::u)) (ih:M3 R u) (hT:T=tw (r::u)) (hA:A=em (r::u) x) (hB:B=em (r::u) y) (hx:El (r::u) s x) (hy:El (r::u) t y) (bR:s+t+EE (r::u).length R<=60000000000000) (m:x=p+q*rt u r) (k:El u s p) (f:El u s q) (o:y=a+b*rt u r) (ha:El u t a) (hb:El u t b) (h0:q≠0) (h1:b≠0) (hC:C=em (r::u) (x*y)) (b3:zn=C.length):CF 91 [Ah T,AO A,AO B] (.one (.own AG C zn)):=by
 have bO:EE (r::u).length R=2*EE u.length R+R+2:=rfl;have O:=El.DL h;have hR:=h.hR;have bQ:=Cz h.red;have bP:T.length=u.length+1:=by rw[hT,CA];rfl
 have bM:A.length=2^u.length+2^u.length:=by rw[hA,Bh hx.mem,Bz]
 have bN:B.length=2^u.length+2^u.length:=by rw[hB,Bh hy.mem,Bz]
 refine AM Tryz.func91 fun E J=>?_
 rintro bZ ⟨bF,f14⟩;refine BS (fun aJ=>?_) fun aJ=>?_
 ·exact absurd aJ AA
 rintro c0 ⟨bG,f25⟩ c1 bJ c2 ⟨bH,f29⟩ c3 bK bS bo aT bk b4 ay c4 ⟨bI,f34⟩ c5 bL;refine Ae ((T.length-1)) fun bb W=>?_
 refine AK ?_;rintro bT aF aP bB ⟨bf,au⟩ b5 az;have ab:b5=em u q:=by rw[az,(AA:aP=A.length/2),au,aF,List.take_length,hA,CZ h.red k.mem f.mem m]
 refine AB J (JJ h.tail.red f.mem ab h0) ?_;rintro bU aG aQ bC ⟨bg,av⟩ b6 aA;have ad:b6=em u b:=by rw[aA,(AA:aQ=B.length/2),av,aG,List.take_length,hB,CZ h.red ha.mem hb.mem o]
 refine AB J (JJ h.tail.red hb.mem ad h1) ?_;intro bV bp aU bl b7 aB bW bq aV bm b8 aC;have d:b4=tw u:=by rw[ay,List.drop_zero,(AA:aT=T.length-1),hT,Dx]
 have ae:b7=em u p:=by rw[aB,List.drop_zero,(AA:aU=A.length/2),hA,Cv h.red k.mem f.mem m]
 have af:b8=em u a:=by rw[aC,List.drop_zero,(AA:aV=B.length/2),hB,Cv h.red ha.mem hb.mem o]
 obtain⟨c6,S⟩:=xR (em u (p*a));refine AB J (Df (ih d ae af k ha AA S rfl)) ?_;rintro bX aH aR bD ⟨bh,aw⟩ b9 aD bY aI aS bE ⟨bj,ax⟩ ba aE;have ag:b9=em u q:=by rw[aD,(AA:aR=A.length/2),aw,aH,List.take_length,hA,CZ h.red k.mem f.mem m]
 have ah:ba=em u b:=by rw[aE,(AA:aS=B.length/2),ax,aI,List.take_length,hB,CZ h.red ha.mem hb.mem o]
 obtain⟨c7,U⟩:=xR (em u (q*b));refine AB J (Df (ih d ag ah f hb AA U rfl)) ?_;have al:bb=em u (AQ u r):=by rw[hT,F6] at W;exact (Option.some.inj W).symm.trans (E1 h.red)
 obtain⟨c8,V⟩:=xR (em u (q*b*AQ u r));refine AB J (Df (ih d U al (f.mul h.tail hb) O AA V rfl)) ?_;obtain⟨P,F⟩:=xR (em u (p*a+q*b*AQ u r));obtain⟨bA,G⟩:=xN P.length;refine AB J (Wq h.tail S V (k.mul h.tail ha) ((f.mul h.tail hb).mul h.tail O) AA AA F G) ?_;rintro bs b1 aq aY aK a5 bt ai an bc ⟨aW,a1⟩ aL a6;have K:aK=em u p:=by rw[a5,List.drop_zero,(AA:aq=A.length/2),hA,Cv h.red k.mem f.mem m]
 have L:aL=em u b:=by rw[a6,(AA:an=B.length/2),a1,ai,List.take_length,hB,CZ h.red ha.mem hb.mem o]
 obtain⟨bx,z⟩:=xR (em u (p*b));refine AB J (Df (ih d K L k hb AA z rfl)) ?_;rintro bu aj ao bd ⟨aX,a2⟩ aM a7 bw b2 ar aZ aN a8;have M:aM=em u q:=by rw[a7,(AA:ao=A.length/2),a2,aj,List.take_length,hA,CZ h.red k.mem f.mem m]
 have N:aN=em u a:=by rw[a8,List.drop_zero,(AA:ar=B.length/2),hB,Cv h.red ha.mem hb.mem o]
 obtain⟨bz,D⟩:=xR (em u (q*a));refine AB J (Df (ih d M N f ha AA D rfl)) ?_;obtain⟨j,g⟩:=xR (em u (p*b+q*a));refine AB J (KM h.tail z D (k.mul h.tail hb) (f.mul h.tail ha) AA AA g) ?_;have bn:P.length=2^u.length:=by rw[F,Bh (DZ (k.mul h.tail ha).mem ((f.mul h.tail hb).mul h.tail O).mem)]
 have b0:j.length=2^u.length:=by rw[g,Bh (DZ (k.mul h.tail hb).mem (f.mul h.tail ha).mem)]
 have br:=Dh h.tail.ht;refine .inl ⟨j,fun _=>⟨rfl,G,rfl,B5 (P.length+j.length) 64⟩,?_⟩;intro (H:LR) aO I;have aa:H=(P:LR)++(j:LR):=I.1;have ak:aO=List.length (α:=(el AG)) H:=I.2;conv=>cbv
 refine g2 rfl ?_;have Q:C=H:=by rw[hC,aa,F,g];exact Ff h.red (DZ (k.mul h.tail ha).mem ((f.mul h.tail hb).mul h.tail O).mem) (DZ (k.mul h.tail hb).mem (f.mul h.tail ha).mem) (by rw[m,o];clear ih;grind)
 exact AN ⟨⟨rfl,.inr (.inl ⟨_,_,AE,rfl,rfl,ak,rfl,C3 (Q) (by rw[b3,Q])⟩),trivial⟩,trivial⟩
theorem fP (h:BC R u):M3 R u:=by
 induction u with
 | nil=>
  intro T A B C zn s t x y H o z k m f D d;obtain⟨p,rfl⟩:=Cy.1 k.mem;obtain⟨q,rfl⟩:=Cy.1 m.mem;rw[Ds] at o z;rw[<-Re.ofRat_mul,Ds] at D;have F:=k.CM AA;have G:=m.CM AA;rw[DH] at F G;exact iZ H o z (F _ List.mem_cons_self) (G _ List.mem_cons_self) D d
 | cons r u K=>
  intro T A B C zn s t x y H o z k m f D d;obtain⟨p,q,g,F,G⟩:=El.parts h.red k;obtain⟨a,b,j,ha,hb⟩:=El.parts h.red m
  by_cases J:q=0
  ·by_cases I:b=0
   ·exact ik h (K h.tail) H o z k m f g F G j ha hb J I D d
   exact ij h (K h.tail) H o z k m f g F G j ha hb J I D d
  by_cases I:b=0
  ·exact ig h (K h.tail) H o z k m f g F G j ha hb J I D d
  exact ie h (K h.tail) H o z k m f g F G j ha hb J I D d
theorem ER (h:BC R u) (k:T=tw u) (f:A=em u x) (g:B=em u y) (m:El u s x) (o:El u t y) (d:s+t+EE u.length R<=60000000000000) (j:C=em u (x*y)):
 CF 91 [Ah T,AO A,AO B] (AO C):=Df (fP h k f g m o d j rfl)
end
section
open Go.RowKit Go.Shelf Go.Proofs
def Px:Ren:=⟨fun k=>if k=4 then 305 else 0,fun k=>if k=3 then 3 else if k=4 then 4 else if k=9 then 9 else if k=20 then 20 else if k=22 then 26 else if k=25 then 56 else 0,fun k=>k⟩
theorem lx:Lays8.n4 Tryz.prog Px where
 mixed:=Zy
 f4:=⟨Tryz.f305.name,by kernel_rfl,by kernel_rfl⟩
 t0:=by kernel_rfl
 a0:=by intro w;kernel_rfl
 z0:=by intro w;kernel_rfl
 v0:=by intro w;kernel_rfl
 t3:=by kernel_rfl
 a3:=by intro w;kernel_rfl
 z3:=by intro w;kernel_rfl
 v3:=by intro w;kernel_rfl
 t4:=by kernel_rfl
 a4:=by intro w;kernel_rfl
 z4:=by intro w;kernel_rfl
 v4:=by intro w;kernel_rfl
 t9:=by kernel_rfl
 a9:=by intro w;kernel_rfl
 z9:=by intro w;kernel_rfl
 v9:=by intro w;kernel_rfl
 t20:=by kernel_rfl
 a20:=by intro w;kernel_rfl
 z20:=by intro w;kernel_rfl
 v20:=by intro w;kernel_rfl
 t22:=by kernel_rfl
 a22:=by intro w;kernel_rfl
 z22:=by intro w;kernel_rfl
 v22:=by intro w;kernel_rfl
theorem fm {n:Int} {k:Nat} (N:AR n k) (M:0<k) (S:k<=1000000:=by omega):CF 305 [.one .nil,AH n] (.one (.own AG [] 0)):=by
 refine .mk ⟨_,_,Tryz.func305,by kernel_rfl,rfl⟩ ⟨rfl,rfl⟩ fun w I vs Q g=>?_
 match vs,g with
 | [v1,v2],.cons F (.cons H _)=>
  have e1:v1= .slice none 0 0:=by rcases F with h | h;cases h;exact h
  have e2:v2= .int .i64 k:=by rcases H with h | h;cases h;rw[<-N.eq];exact h
  subst e1;subst e2;obtain⟨_,i0,z,f,O,hb,_,j,D⟩:=(eI 26).sl rfl
  have m:z.cells.size=4:=by
   have:=(D (Jk w I)).length;rw[KS] at this;have e:(TI 26).elem.size=4:=rfl;rw[e] at this;simpa using this.symm
  have d:i0.bytes=64:=hb;have P:i0.size=4:=O;have J:=Any8.slices_Grow_grow lx i0 z f j AA none 0 0 k [] w AA AA (by rw[d];omega) AA Ai (fun _=>rfl) (fun a h=>by cases h);refine J.mono fun e w' ⟨he,hw⟩=>?_
  have K:=grownCap_ge w (0+k) 0 (Px.t 25);have hle:=grownCap_le_maxLen w (0+k) 0 (Px.t 25) (by unfold maxLen;omega)
  generalize grownCap w (0+k) 0 (Px.t 25)=G at*
  subst hw
  have L:∀o:Obj,(w.drew.alloc o).heap[w.heap.size]? =some o:=fun o=>by
   show (w.heap.push o)[w.heap.size]? =_
   rw[Array.getElem?_push,if_pos rfl]
  refine⟨_,some w.heap.size,he,((Below.refl _ _).drew).alloc (Nat.le_refl _) _,.inr ⟨rfl,_,_,rfl,Nat.zero_le _,hle,Nat.zero_le _,.inr ⟨_,_,_,rfl,Nat.le_refl _,rfl,L _,?_,fun i y h=>by simp at h⟩⟩⟩
  show G*4<=_
  simp[size_zeroCells,m];omega
end
section
variable {Z x:LR} {zn:Nat}
theorem Yw {X:List LR} {i:Nat} (h:X[i]? =some x):(X.take (i+1)).flatten=(X.take i).flatten++x:=by
 rw[DU h,List.flatten_append];simp
theorem Yv {X:List LR} {i m:Nat} (h:X[i]? =some x) (hm:m=(X.take i).flatten.length):m+x.length=(X.take (i+1)).flatten.length:=by
 rw[Yw h,List.length_append,hm]
theorem Yu (X:List LR) (i:Nat):(X.take i).flatten.length<=X.flatten.length:=by
 conv=>rhs;rw[<-List.take_append_drop i X,List.flatten_append,List.length_append]
 omega
theorem Vu {X:LR} (F:X.length<=1000000) (g:zn=X.length):CF 178 [AO X] (.one (.own AG X zn)):=by
 refine AM Tryz.func178 fun E D=>?_
 intro n4 o;refine⟨fun m=>?_,?_⟩
 ·conv=>cbv
  have d:X=[]:=by rw[o] at m;simpa using m
  exact AN ⟨⟨rfl,.inr (.inr ⟨_,C3 (d) (by rw[g,d];rfl)⟩),trivial⟩,trivial⟩
 refine⟨[],fun _=>⟨rfl,AE,rfl,trivial⟩,.inl ?_⟩;try conv=>cbv
 refine .inl ⟨X,fun _=>⟨rfl,by (first | rfl | omega),rfl,B5 (0+X.length) 64⟩,?_⟩;intro (k:LR) z h;have f:k=([]:LR)++(X:LR):=h.1;have j:z=List.length (α:=(el AG)) k:=h.2;conv=>cbv
 exact AN ⟨⟨rfl,.inr (.inl ⟨_,_,AE,rfl,rfl,by rw[j],rfl,C3 (by rw[f];simp) (by rw[g,f];simp)⟩),trivial⟩,trivial⟩
theorem Vt {X:LR} (d:X.length<=1000000):CF 178 [AO X] (AO X):=Df (Vu d rfl)
theorem fa {X:List LR} (h0:0<X.flatten.length) (hX:X.flatten.length<=1000000) (hZ:Z=X.flatten) (a1:zn=Z.length):CF 277 [Ah X] (.one (.own AG Z zn)):=by
 refine AM Tryz.func277 fun E hE=>?_
 intro a6 h;have af:=h.eq;have f10:=h.le;refine BI [] [0,3,9,10,11] [] (fun vs P k=>∃(i' m':Nat) (m L i:Int),vs=[Ah X,AH m,Ah X,AH L,AH i]/\(DX L X.length/\AR i i'/\i'<=X.length/\AR m m')/\m'=(X.take i').flatten.length/\k=X.length-i') (X.length-0) ⟨0,0,0,a6,0,rfl,⟨h,BD 0,AA,BD 0⟩,rfl,rfl⟩ ?_;rintro J0 Q vs P aq ⟨i',m',m,L,i,rfl,⟨G,V,W,hm⟩,hinv,an⟩;conv=>cbv
 have eL:=G.eq;have ei:=V.eq;have em:=hm.eq;refine DF (fun a2=>?_) fun a2=>?_
 ·refine .inr ?_;refine Ae i' fun ae M=>?_
  refine AW ?_;rintro au ⟨ag,f17⟩;have H:=Yv M hinv;have U:=Yu X (i'+1);refine AK ?_;intro a7 ai a8 F;refine .inr ?_;cases a8 <;> conv=>cbv
  ·have N:=EG F;refine AK ?_;intro aa aj;exact BT Q ⟨i'+1,m'+ae.length,a7,L,aa,rfl,⟨G,⟨AA⟩,AA,⟨AA⟩⟩,H,rfl⟩
  have N:=EH F;exact absurd N AA
 have al:m'=X.flatten.length:=by rw[hinv,(AA:i'=X.length),List.take_length]
 refine AB hE (fm hm AA) ?_;intro ab j;have ah:=j.eq;have f26:=j.le;refine BI [] [6,25,26,27] [24] (fun vs P k=>∃(i' mm:Nat) (o:LR) (L i:Int),vs=[.one (.AU AG 24 0 0 mm),Ah X,AH L,AH i]/\P=[.arr 0 AG o]/\(DX L X.length/\AR i i'/\i'<=X.length/\mm=o.length)/\o=(X.take i').flatten/\k=X.length-i') (X.length-0) ⟨0,0,[],ab,0,rfl,rfl,⟨j,BD 0,AA,rfl⟩,rfl,rfl⟩ ?_;rintro J1 S vs P ar ⟨i',mm,o,L,i,rfl,rfl,⟨G,V,W,J⟩,hinv,ao⟩;conv=>cbv
 have eL:=G.eq;have ei:=V.eq;refine BQ (fun a5=>?_) fun a5=>?_
 ·have d:Z=o:=by rw[hZ,hinv,(AA:i'=X.length),List.take_length]
  exact AN ⟨⟨rfl,.inr (.inl ⟨_,_,AE,rfl,rfl,J,rfl,C3 (d) (by rw[a1,d])⟩),trivial⟩,trivial⟩
 refine .inr ?_;refine Ae i' fun D f=>?_
 try conv=>cbv
 have H:=Yv f (congrArg _ hinv);have U:=Yu X (i'+1);refine .inl ⟨D,fun _=>⟨rfl,J,rfl,B5 (o.length+D.length) 64⟩,?_⟩;intro (z:LR) O g;have I:z=(o:LR)++(D:LR):=g.1;have K:O=List.length (α:=(el AG)) z:=g.2;refine AK ?_;intro ad ak;exact BT S ⟨i'+1,O,z,L,ad,rfl,rfl,⟨G,⟨AA⟩,AA,by rw[K]⟩,by rw[I,hinv,Yw f],rfl⟩
theorem PT {A B:LR} (f:0<A.length) (g:A.length+B.length<=1000000) (d:Z=A++B):CF 277 [.one (.sl (.sl AG) [A,B])] (AO Z):=
 Df (fa (X:=[A,B]) (by simp;omega) (by simp;omega) (by simp[d]) rfl)
end
section
def WR (f:FuncId) (R:Nat) (u:AD):Prop:=∀{T:List LR} {A:LR} {s:Nat} {x:Re} {c:Int},T=tw u->A=em u x->El u s x->VV u.length R s<=60000000000000->c=Bg x->
 CF f [Ah T,AO A] (.one (.int .i64 c))
variable {A:LR} {R s:Nat} {T:List LR} {c:Int} {u:AD} {x:Re}
theorem ry {p:Rat} (o:T=[]) (j:A=[rp p]) (z:c=Dm p):CF 137 [Ah T,AO A] (AH c):=by
 refine AM Tryz.func137 fun E m=>?_
 rintro D ⟨h,f14⟩;refine CN (fun g=>?_) fun g=>?_
 ·exact absurd (by rw[h,o];rfl) g
 have k:A.length=1:=by rw[j];rfl
 refine Ae 0 fun G f=>?_
 try conv=>cbv
 obtain⟨F,d⟩:=xI (Dm p);refine AB m (Od (FW j f) d) ?_;exact AL (z.trans d.symm)
theorem rz {r:List Rat} (h:BC R (r::u)) (ih:WR 137 R u) (hT:T=tw (r::u)) (hA:A=em (r::u) x) (hx:El (r::u) s x) (hs:VV (r::u).length R s<=60000000000000) (hc:c=Bg x):CF 137 [Ah T,AO A] (AH c):=by
 obtain⟨p,q,m,F,z⟩:=El.parts h.red hx;have ay:T.length=u.length+1:=by rw[hT,CA];rfl
 have ax:A.length=2^u.length+2^u.length:=by rw[hA,Bh hx.mem,Bz]
 have aA:VV (r::u).length R s=VV u.length R (2*s+2*EE u.length R+R+1):=rfl;have aB:=GO u.length R (2*s+2*EE u.length R+R+1);have az:=IZ u.length R (s:=s) (t:=2*s+2*EE u.length R+R+1) AA;have hN:=El.norm h F.mem z.mem (m ▸ hx);have a1:=El.DL h;have D:=cH h.red;have ab:=Cz h.red;refine AM Tryz.func137 fun E K=>?_
 rintro aF ⟨aq,f14⟩;refine BS (fun a5=>?_) fun a5=>?_
 ·exact absurd a5 AA
 rintro aG ⟨ar,f21⟩ a6 av aH ⟨au,f24⟩ aI aw aC al a8 aj ad S aD an aa ak ae U aE W a7 ao ⟨ai,Q⟩ af V;have d:ad=tw u:=by rw[S,List.drop_zero,(AA:a8=T.length-1),hT,Dx]
 have j:ae=em u p:=by rw[U,List.drop_zero,(AA:aa=A.length/2),hA,Cv h.red F.mem z.mem m]
 have k:af=em u q:=by rw[V,(AA:a7=A.length/2),Q,W,List.take_length,hA,CZ h.red F.mem z.mem m]
 obtain⟨aK,f⟩:=xI (Bg p);refine AB K (ih d j F AA f) ?_;obtain⟨aL,g⟩:=xI (Bg q);refine AB K (ih d k z AA g) ?_;refine .inr ?_;refine BS (fun M=>?_) fun M=>?_
 ·exact AL (by rw[hc,f,m];exact Qx D (.inl (K4.1 (g ▸ M))))
 refine BS (fun N=>?_) fun N=>?_
 ·exact AL (by rw[hc,f,m];exact Qx D (.inr (by rw[<-f,<-g];exact N)))
 refine BS (fun O=>?_) fun O=>?_
 ·exact AL (by rw[hc,g,m];exact dH D (K4.1 (f ▸ O)))
 obtain⟨aM,G⟩:=xR (em u (p*p));refine AB K (Hu h.tail d j j F F AA G) ?_;refine Ae ((a6).toNat) fun ah a2=>?_
 try conv=>cbv
 have L:ah=BF r:=by have:=F6 r u;rw[<-hT,(AA:T.length-1=a6.toNat),a2] at this;exact Option.some.inj this
 obtain⟨aN,H⟩:=xR (em u (q*q));refine AB K (Hu h.tail d k k z z AA H) ?_;obtain⟨aO,I⟩:=xR (em u (AQ u r*(q*q)));refine AB K (Hu h.tail d (L.trans (E1 h.red)) H a1 (z.mul h.tail z) AA I) ?_;obtain⟨aP,J⟩:=xR (em u (p*p-AQ u r*(q*q)));refine AB K (Of h.tail d G I (F.mul h.tail F) (a1.mul h.tail (z.mul h.tail z)) AA AA J) ?_;obtain⟨ag,o⟩:=xI (Bg (p*p-q*q*AQ u r));refine AB (r:= .one (.int .i64 ag)) K (ih d (J.trans (by congr 1;clear ih;grind)) hN AA o) ?_;intro aJ P;refine⟨fun _=>by rw[P,f,o];exact dA _ _,?_⟩;exact AL (by rw[hc,P,f,o,m];exact dG D ab (fun e=>O (by rw[f,e];exact G0)) (fun e=>M (by rw[g,e];exact G0)) (by rw[<-f,<-g];exact N))
theorem eW (h:BC R u):WR 137 R u:=by
 induction u with
 | nil=>
  intro T A s x c f d j k g;obtain⟨p,rfl⟩:=Cy.1 j.mem;rw[Ds] at d;exact ry f d (g.trans (dC p))
 | cons r u m=>
  intro T A s x c f d j k g;exact rz h (m h.tail) f d j k g
theorem gL (h:BC R u) (j:T=tw u) (hs:VV u.length R R<=60000000000000):CF 190 [Ah T] (.one (.bool true)):=by
 have a7:T.length=u.length:=by rw[j,CA]
 have G:El u 0 0:=El.rat h.red G9;refine AM Tryz.func190 fun E K=>?_
 obtain⟨ag,ah,ae,af,I⟩:=By (((0:Int):Rat));refine AB K (Hw AA rfl I) ?_;obtain⟨w8,F⟩:=xR (em u (0));refine AB K (KF h j I ⟨by decide +kernel,by decide +kernel⟩ F) ?_;refine AB (r:= .one (.bool true)) K (IU j h.G4 F (G.CM AA) (by rw[G.len,List.length_reverse];exact (decide_eq_true rfl).symm)) ?_;refine BM ?_;intro S f;have a5:=f.eq;have f12:=f.le;refine BI [] [0,11,12,13] [] (fun vs bl k=>∃(i':Nat) (L i:Int),vs=[Ah T,Ah T,AH L,AH i]/\(DX L T.length/\AR i i'/\i'<=T.length)/\k=T.length-i') (T.length-0) ⟨0,S,0,rfl,⟨f,BD 0,AA⟩,rfl⟩ ?_;rintro J0 N vs bl ab ⟨i',L,i,rfl,⟨hL,hi,a8⟩,aa⟩;conv=>cbv
 have eL:=hL.eq;have ei:=hi.eq;refine BQ (fun P=>?_) fun P=>?_
 ·exact AN ⟨t2,trivial⟩
 refine .inr ?_;refine Ae i' fun W H=>?_
 try conv=>cbv
 obtain⟨r,D,z⟩:=Kr (u:=u) (i:=i') AA;have o:Ag (r::pre u i'):=D ▸ (h.pre (i'+1)).red;have O:W=BF r:=by rw[<-j,H] at z;exact Option.some.inj z
 refine AK ?_;intro ad a2 M a1 Q m;have g:Q=tw (pre u i'):=by rw[m,List.drop_zero,(AA:M=i'),j,Ix]
 obtain⟨V,d⟩:=xI (Bg (AQ (pre u i') r));refine AB (r:= .one (.int .i64 V)) K (eW (h.pre i') g (O.trans (E1 o)) (El.DL (D ▸ h.pre (i'+1))) (by rw[Ju AA];exact Nat.le_trans (M0 AA R R) hs) d) ?_;refine sb (fun J=>?_) fun J=>?_
 ·exact absurd J (by rw[d,HK o.2.2.1];omega)
 intro U a6;exact BT N ⟨i'+1,L,U,rfl,⟨hL,⟨AA⟩,AA⟩,rfl⟩
theorem lu {L:List LR} (h:BC R u) (H:T=tw u) (Q:VV u.length R R<=60000000000000) (M:∀l∈L,∃x,l=em u x/\El u s x) (j:s<=60000000000000:=by omega):CF 136 [Ah T,Ah L] (.one (.bool true)):=by
 refine AM Tryz.func136 fun E G=>?_
 intro U f;have W:=f.eq;have f8:=f.le;refine BI [] [0,7,8,9] [] (fun vs J k=>∃(i':Nat) (m i:Int),vs=[Ah T,Ah L,AH m,AH i]/\(DX m L.length/\AR i i'/\i'<=L.length)/\k=L.length-i') (L.length-0) ⟨0,U,0,rfl,⟨f,BD 0,AA⟩,rfl⟩ ?_;rintro V g vs J S ⟨i',m,i,rfl,⟨hm,N,O⟩,P⟩;conv=>cbv
 have em:=hm.eq;have ei:=N.eq;refine BQ (fun z=>?_) fun z=>?_
 ·refine AB G (gL h H Q) ?_;exact AN ⟨t2,trivial⟩
 refine .inr ?_;refine Ae i' fun F d=>?_
 try conv=>cbv
 obtain⟨x,o,I⟩:=M F (List.mem_of_getElem? d);refine AB (r:= .one (.bool true)) G (IU H h.G4 o (I.CM j) (by rw[I.len,List.length_reverse];exact (decide_eq_true rfl).symm)) ?_;refine BM ?_;intro D K;exact BT g ⟨i'+1,m,D,rfl,⟨hm,⟨AA⟩,AA⟩,rfl⟩
theorem My (h:BC R u) (g:T=tw u) (d:A=em u x) (j:El u s x) (z:VV u.length R s<=60000000000000) (hR:VV u.length R R<=60000000000000) (k:c=Bg x):CF 72 [Ah T,AO A] (AH c):=by
 have m:=GO u.length R s;refine AM Tryz.func72 fun E f=>?_
 refine⟨[A],Ca,.inr ?_⟩;try conv=>cbv
 refine AB f (lu h g hR (fun l o=>⟨x,(List.mem_singleton.1 o).trans d,j⟩)) ?_;refine BM ?_;refine AB f (eW h g d j z k) ?_;exact AN ⟨t2,trivial⟩
end
section
variable {A B l:LR} {R k0 s:Nat} {T:List LR} {i n p q t w x:Re} {r:List Rat} {u:AD}
theorem ZC {C:LR} {y:Re} (h:BC R u) (k:T=tw u) (m:A=em u y) (D:El u s y) (ht:t=Re.ofRat (1/2)) (z:s+1+EE u.length R<=60000000000000) (o:C=em u (t*y)):CF 279 [Ah T,AO A] (AO C):=by
 refine AM Tryz.func279 fun E g=>?_
 obtain⟨I,J,G,H,f⟩:=By (1/2:Rat);refine AB g (fk AA AA AA (by decide +kernel) f) ?_;obtain⟨F,d⟩:=xR (em u (t));refine AB (r:= .one (Au F)) g (KF h k f ⟨by decide +kernel,by decide +kernel⟩ (d.trans (by rw[ht]))) ?_;have j:El u 1 t:=ht ▸ El.rat h.red NG;refine AB (r:= .one (Au C)) g (Hu h k m d D j z (by rw[o];congr 1;grind)) ?_;exact AN ⟨t2,trivial⟩
theorem q8 {q r:Rat} (I:T=[]) (z:A=[rp q]) (G:B=[rp r]) (L:B8 q) (D:0<=r) (K:r*r=q):CF 235 [Ah T,AO A] (.Aj [(false,[Au B]),(false,[.bool true])]):=by
 refine AM Tryz.func235 fun E H=>?_
 rintro M ⟨o,f27⟩;refine CN (fun g=>?_) fun g=>?_
 ·exact absurd (by rw[o,I];rfl) g
 have F:A.length=1:=by rw[z];rfl
 refine Ae 0 fun N f=>?_
 try conv=>cbv
 have J:=FW z f;obtain⟨k,m,h,j,d⟩:=By r;refine AB H (gK J L D K d) ?_;refine⟨[((k,m),(h,j))],Ca,.inl ?_⟩;try conv=>cbv
 exact AN ⟨⟨rfl,.inl ⟨_,rfl,Ai,congrArg _ (by rw[G,d.rp];rfl)⟩,trivial⟩,t2,trivial⟩
theorem q7 {q:Rat} (o:T=[]) (h:A=[rp q]) (k:B=[(((false,[]),(false,[])):el AG)]) (F:B8 q) (D:¬∃r:Rat,0<=r/\r*r=q):CF 235 [Ah T,AO A] (.Aj [(false,[Au B]),(false,[.bool false])]):=by
 refine AM Tryz.func235 fun E m=>?_
 rintro G ⟨g,f27⟩;refine CN (fun f=>?_) fun f=>?_
 ·exact absurd (by rw[g,o];rfl) f
 have j:A.length=1:=by rw[h];rfl
 refine Ae 0 fun H d=>?_
 try conv=>cbv
 have z:=FW h d;refine AB m (gJ z F D) ?_;refine⟨[((false,[]),(false,[]))],Ca,.inl ?_⟩;try conv=>cbv
 exact AN ⟨⟨rfl,.inl ⟨_,rfl,Ai,congrArg _ (by rw[k];rfl)⟩,trivial⟩,t2,trivial⟩
def Hz (f:FuncId) (u:AD) (x w:Re):Prop:=∀{T:List LR} {A B:LR},T=tw u->A=em u x->B=em u w->CF f [Ah T,AO A] (.Aj [(false,[Au B]),(false,[.bool true])])
def Hy (f:FuncId) (u:AD) (x:Re) (l:LR):Prop:=∀{T:List LR} {A:LR},T=tw u->A=em u x->CF f [Ah T,AO A] (.Aj [(false,[Au l]),(false,[.bool false])])
def WN (f:FuncId) (R:Nat) (u:AD):Prop:=∀{s:Nat} {x:Re},El u s x->QQ u.length R s<=60000000000000->(∃w,In u w/\w*w=x/\Hz f u x w)\/(¬Sq u x/\∃l,l.length<=2^u.length/\Hy f u x l)
theorem rD (h:BC R (r::u)) (U:T=tw (r::u)) (S:A=em (r::u) x) (hx:El (r::u) s x) (J:x=p+q*rt u r) (hp:El u s p) (V:El u s q) (hs:QQ (r::u).length R s<=60000000000000) (h0:q=0) (hw:In u w) (hy:Hz 235 u p w) (hB:B=em (r::u) w):CF 235 [Ah T,AO A] (.Aj [(false,[Au B]),(false,[.bool true])]):=by
 have aB:T.length=u.length+1:=by rw[U,CA];rfl
 have aA:A.length=2^u.length+2^u.length:=by rw[S,Bh hx.mem,Bz]
 have aG:=El.DL h;have aH:=Cz h.red;have ah:=Dh h.tail.ht;have aD:=DK u.length;have W:El u 0 0:=El.rat h.red.1 G9;have aE:QQ (r::u).length R s=max (QQ u.length R (3*s+3*EE u.length R+R+GG u.length R+3+II u.length R R)) (s+II u.length R (2*(3*s+3*EE u.length R+R+GG u.length R+3+II u.length R R+GG u.length R)+1)+EE u.length R):=rfl;have aF:=IW u.length R (3*s+3*EE u.length R+R+GG u.length R+3+II u.length R R);have aC:=FE u.length R (2*(3*s+3*EE u.length R+R+GG u.length R+3+II u.length R R+GG u.length R)+1);refine AM Tryz.func235 fun E o=>?_
 rintro aL ⟨ao,f27⟩;refine BS (fun K=>?_) fun K=>?_
 ·exact absurd K AA
 rintro aM ⟨aq,f41⟩ aN aw aI af P aa a2 D aO ⟨ar,f46⟩ L ax;refine Ae ((L).toNat) fun a7 I=>?_
 refine AK ?_;rintro aP ⟨au,f52⟩ Dr ay aJ ag Q ab a5 F aQ ⟨av,f57⟩ aR az aK H O an ⟨a8,z⟩ a6 G;have d:a2=tw u:=by rw[D,List.drop_zero,(AA:P=T.length-1),U,Dx]
 have a1:a7=BF r:=by have:=F6 r u;rw[<-U,(AA:T.length-1=L.toNat),I] at this;exact Option.some.inj this
 have k:a5=em u p:=by rw[F,List.drop_zero,(AA:Q=A.length/2),S,Cv h.red hp.mem V.mem J]
 have m:a6=em u q:=by rw[G,(AA:O=A.length/2),z,H,List.take_length,S,CZ h.red hp.mem V.mem J]
 refine AB o (KO h.red.1 V.mem m h0) ?_;obtain⟨M,f⟩:=xR (em u w);refine AB o (hy d k f) ?_;obtain⟨ak,al,ai,aj,j⟩:=By (((0:Int):Rat));refine AB o (Hw AA rfl j) ?_;obtain⟨N,g⟩:=xR (em u (0));refine AB o (KF h.tail d j ⟨by decide +kernel,by decide +kernel⟩ g) ?_;refine⟨[M,N],fun _=>⟨rfl,AE,rfl,⟨rfl,C5,⟨rfl,C5,trivial⟩⟩⟩,.inr ?_⟩;try conv=>cbv
 have ad:M.length=2^u.length:=by rw[f,Bh hw]
 have ae:N.length=2^u.length:=by rw[g,Bh W.mem]
 refine AB (r:= .one (Au B)) o (PT AA AA (by rw[hB,f,g];exact Ff h.red hw (CO u) (by grind))) ?_;exact AN ⟨t2,t2,trivial⟩
theorem rE (h:BC R (r::u)) (hT:T=tw (r::u)) (hA:A=em (r::u) x) (hx:El (r::u) s x) (O:x=p+q*rt u r) (hp:El u s p) (hq:El u s q) (hs:QQ (r::u).length R s<=60000000000000) (h0:q=0) (hi:In u i) (L:AQ u r*i=1) (hn:Hy 235 u p l) (hw:In u w) (hy:Hz 235 u (p*i) w) (hB:B=em (r::u) (w*rt u r)):CF 235 [Ah T,AO A] (.Aj [(false,[Au B]),(false,[.bool true])]):=by
 have aD:T.length=u.length+1:=by rw[hT,CA];rfl
 have aC:A.length=2^u.length+2^u.length:=by rw[hA,Bh hx.mem,Bz]
 have M:=El.DL h;have aI:=Cz h.red;have aj:=Dh h.tail.ht;have aF:=DK u.length;have a5:El u 0 0:=El.rat h.red.1 G9;have aG:QQ (r::u).length R s=max (QQ u.length R (3*s+3*EE u.length R+R+GG u.length R+3+II u.length R R)) (s+II u.length R (2*(3*s+3*EE u.length R+R+GG u.length R+3+II u.length R R+GG u.length R)+1)+EE u.length R):=rfl;have aH:=IW u.length R (3*s+3*EE u.length R+R+GG u.length R+3+II u.length R R);have aE:=FE u.length R (2*(3*s+3*EE u.length R+R+GG u.length R+3+II u.length R R+GG u.length R)+1);refine AM Tryz.func235 fun E k=>?_
 rintro aM ⟨ar,f27⟩;refine BS (fun P=>?_) fun P=>?_
 ·exact absurd P AA
 rintro aN ⟨au,f41⟩ aO ay aJ ah W ad a6 H aP ⟨av,f46⟩ Q az;refine Ae ((Q).toNat) fun aa N=>?_
 refine AK ?_;rintro aQ ⟨aw,f52⟩ Dr aA aK ai a1 ae a7 I aR ⟨ax,f57⟩ aS aB aL K V aq ⟨ab,G⟩ a8 J;have d:a6=tw u:=by rw[H,List.drop_zero,(AA:W=T.length-1),hT,Dx]
 have F:aa=BF r:=by have:=F6 r u;rw[<-hT,(AA:T.length-1=Q.toNat),N] at this;exact Option.some.inj this
 have f:a7=em u p:=by rw[I,List.drop_zero,(AA:a1=A.length/2),hA,Cv h.red hp.mem hq.mem O]
 have D:a8=em u q:=by rw[J,(AA:V=A.length/2),G,K,List.take_length,hA,CZ h.red hp.mem hq.mem O]
 refine AB k (KO h.red.1 hq.mem D h0) ?_;refine AB k (hn d f) ?_;obtain⟨aT,m⟩:=xR (em u i);have a2:=M.inv h.tail hi L;refine AB k (Oa h.tail d (F.trans (E1 h.red)) M hi L AA m) ?_;refine BM ?_;obtain⟨aU,o⟩:=xR (em u (p*i));refine AB k (Hu h.tail d f m hp a2 AA o) ?_;obtain⟨S,g⟩:=xR (em u w);refine AB k (hy d o g) ?_;obtain⟨an,ao,ak,al,z⟩:=By (((0:Int):Rat));refine AB k (Hw AA rfl z) ?_;obtain⟨U,j⟩:=xR (em u (0));refine AB k (KF h.tail d z ⟨by decide +kernel,by decide +kernel⟩ j) ?_;refine⟨[U,S],fun _=>⟨rfl,AE,rfl,⟨rfl,C5,⟨rfl,C5,trivial⟩⟩⟩,.inr ?_⟩;try conv=>cbv
 have af:S.length=2^u.length:=by rw[g,Bh hw]
 have ag:U.length=2^u.length:=by rw[j,Bh a5.mem]
 refine AB (r:= .one (Au B)) k (PT AA AA (by rw[hB,g,j];exact Ff h.red (CO u) hw (by grind))) ?_;exact AN ⟨t2,t2,trivial⟩
theorem rF (h:BC R (r::u)) (hT:T=tw (r::u)) (W:A=em (r::u) x) (hx:El (r::u) s x) (N:x=p+q*rt u r) (hp:El u s p) (hq:El u s q) (hs:QQ (r::u).length R s<=60000000000000) {l2:LR} (h0:q=0) (hi:In u i) (K:AQ u r*i=1) (hn:Hy 235 u p l) (hy:Hy 235 u (p*i) l2) (aD:l2.length<=2^u.length) (hB:B=em u 0++l2):CF 235 [Ah T,AO A] (.Aj [(false,[Au B]),(false,[.bool false])]):=by
 have aB:T.length=u.length+1:=by rw[hT,CA];rfl
 have aA:A.length=2^u.length+2^u.length:=by rw[W,Bh hx.mem,Bz]
 have L:=El.DL h;have aH:=Cz h.red;have ah:=Dh h.tail.ht;have aE:=DK u.length;have a2:El u 0 0:=El.rat h.red.1 G9;have aF:QQ (r::u).length R s=max (QQ u.length R (3*s+3*EE u.length R+R+GG u.length R+3+II u.length R R)) (s+II u.length R (2*(3*s+3*EE u.length R+R+GG u.length R+3+II u.length R R+GG u.length R)+1)+EE u.length R):=rfl;have aG:=IW u.length R (3*s+3*EE u.length R+R+GG u.length R+3+II u.length R R);have aC:=FE u.length R (2*(3*s+3*EE u.length R+R+GG u.length R+3+II u.length R R+GG u.length R)+1);refine AM Tryz.func235 fun E j=>?_
 rintro aL ⟨ao,f27⟩;refine BS (fun O=>?_) fun O=>?_
 ·exact absurd O AA
 rintro aM ⟨aq,f41⟩ aN aw aI af U ab a5 G aO ⟨ar,f46⟩ P ax;refine Ae ((P).toNat) fun a8 M=>?_
 refine AK ?_;rintro aP ⟨au,f52⟩ Dr ay aJ ag V ad a6 H aQ ⟨av,f57⟩ aR az aK J S an ⟨aa,F⟩ a7 I;have d:a5=tw u:=by rw[G,List.drop_zero,(AA:U=T.length-1),hT,Dx]
 have D:a8=BF r:=by have:=F6 r u;rw[<-hT,(AA:T.length-1=P.toNat),M] at this;exact Option.some.inj this
 have f:a6=em u p:=by rw[H,List.drop_zero,(AA:V=A.length/2),W,Cv h.red hp.mem hq.mem N]
 have z:a7=em u q:=by rw[I,(AA:S=A.length/2),F,J,List.take_length,W,CZ h.red hp.mem hq.mem N]
 refine AB j (KO h.red.1 hq.mem z h0) ?_;refine AB j (hn d f) ?_;obtain⟨aS,k⟩:=xR (em u i);have a1:=L.inv h.tail hi K;refine AB j (Oa h.tail d (D.trans (E1 h.red)) L hi K AA k) ?_;refine BM ?_;obtain⟨aT,m⟩:=xR (em u (p*i));refine AB j (Hu h.tail d f k hp a1 AA m) ?_;refine AB j (hy d m) ?_;obtain⟨ak,al,ai,aj,o⟩:=By (((0:Int):Rat));refine AB j (Hw AA rfl o) ?_;obtain⟨Q,g⟩:=xR (em u (0));refine AB j (KF h.tail d o ⟨by decide +kernel,by decide +kernel⟩ g) ?_;refine⟨[Q,l2],fun _=>⟨rfl,AE,rfl,⟨rfl,C5,⟨rfl,C5,trivial⟩⟩⟩,.inr ?_⟩;try conv=>cbv
 have ae:Q.length=2^u.length:=by rw[g,Bh a2.mem]
 refine AB (r:= .one (Au B)) j (PT AA AA (by rw[hB,g])) ?_;exact AN ⟨t2,t2,trivial⟩
theorem q9 (h:BC R (r::u)) (J:T=tw (r::u)) (I:A=em (r::u) x) (hx:El (r::u) s x) (j:x=p+q*rt u r) (Q:El u s p) (K:El u s q) (hs:QQ (r::u).length R s<=60000000000000) (h0:q≠0) (hn:Hy 235 u (p*p-q*q*AQ u r) l) (hB:B=[]):CF 235 [Ah T,AO A] (.Aj [(false,[Au B]),(false,[.bool false])]):=by
 have aq:T.length=u.length+1:=by rw[J,CA];rfl
 have ao:A.length=2^u.length+2^u.length:=by rw[I,Bh hx.mem,Bz]
 have ax:=El.DL h;have ay:=Cz h.red;have aa:=Dh h.tail.ht;have au:=DK u.length;have az:El u 0 0:=El.rat h.red.1 G9;have av:QQ (r::u).length R s=max (QQ u.length R (3*s+3*EE u.length R+R+GG u.length R+3+II u.length R R)) (s+II u.length R (2*(3*s+3*EE u.length R+R+GG u.length R+3+II u.length R R+GG u.length R)+1)+EE u.length R):=rfl;have aw:=IW u.length R (3*s+3*EE u.length R+R+GG u.length R+3+II u.length R R);have ar:=FE u.length R (2*(3*s+3*EE u.length R+R+GG u.length R+3+II u.length R R+GG u.length R)+1);refine AM Tryz.func235 fun E O=>?_
 rintro aD ⟨ae,f27⟩;refine BS (fun G=>?_) fun G=>?_
 ·exact absurd G AA
 rintro aE ⟨af,f41⟩ aF aj aA a7 M a5 U m aG ⟨ag,f46⟩ H ak;refine Ae ((H).toNat) fun a1 F=>?_
 refine AK ?_;rintro aH ⟨ah,f52⟩ Dr al aB a8 N a6 V o aI ⟨ai,f57⟩ aJ an aC D L ad ⟨a2,k⟩ W z;have f:U=tw u:=by rw[m,List.drop_zero,(AA:M=T.length-1),J,Dx]
 have S:a1=BF r:=by have:=F6 r u;rw[<-J,(AA:T.length-1=H.toNat),F] at this;exact Option.some.inj this
 have P:V=em u p:=by rw[o,List.drop_zero,(AA:N=A.length/2),I,Cv h.red Q.mem K.mem j]
 have g:W=em u q:=by rw[z,(AA:L=A.length/2),k,D,List.take_length,I,CZ h.red Q.mem K.mem j]
 refine AB O (Ig h.red.1 K.mem g h0) ?_;obtain⟨ab,d⟩:=xR (em u (p*p-q*q*AQ u r));refine AB O (Rk h J I hx j Q.mem K.mem AA d) ?_;refine AB O (hn f d) ?_;refine DJ ?_;exact AN ⟨⟨rfl,.inr (.inl ⟨_,congrArg _ (hB)⟩),trivial⟩,t2,trivial⟩
theorem eO {a b:Re} {y:Nat->Re} {x:LR} {i:Nat} (h:[A,B][i]? =some x) (g:A=em u a) (j:B=em u b) (d:y 0=a) (f:y 1=b):x=em u (y i):=by
 match i,h with
 | 0,h=>rw[d,<-g];exact (Option.some.inj h).symm
 | 1,h=>rw[f,<-j];exact (Option.some.inj h).symm
 | i+2,h=>simp at h
theorem rC {f:FuncId} {y:Nat->Re} {L:Nat->LR} {i:Nat} {b:Bool} (o:i<=k0) (d:∀i,i<k0->Hy f u (t*y i) (L i)) (g:Hz f u (t*y k0) w) (hb:b=decide (i=k0)) (k:B=if i=k0 then em u w else L i) (m:T=tw u) (j:A=em u (t*y i)):
  CF f [Ah T,AO A] (.Aj [(false,[Au B]),(false,[.bool b])]):=by
 by_cases h:i=k0
 ·subst h;rw[hb,decide_eq_true rfl];exact g m j (by rw[k,if_pos rfl])
 rw[hb,decide_eq_false h,k,if_neg h];exact d i AA m j
theorem El.half {y:Re} (h:El u s y) (hu:BC R u) (ht:t=Re.ofRat (1/2)):El u (s+1+EE u.length R) (t*y):=by
 have d:El u 1 t:=ht ▸ El.rat hu.red NG;have:=d.mul hu h;rwa [(AA:1+s+EE u.length R=s+1+EE u.length R)] at this
theorem rB (h:BC R (r::u)) (hT:T=tw (r::u)) (hA:A=em (r::u) x) (hx:El (r::u) s x) (K:x=p+q*rt u r) (O:El u s p) (hq:El u s q) (hs:QQ (r::u).length R s<=60000000000000) (h0:q≠0) (hn:In u n) (ak:n*n=p*p-q*q*AQ u r) (ht:t=Re.ofRat (1/2)) (au:Hz 235 u (p*p-q*q*AQ u r) n) {y:Nat->Re} (ao:y 0=p+n) (aq:y 1=p-n) (ar:∀i,El u (s+(2*s+2*EE u.length R+R+1+GG u.length R)+1) (y i)) {L:Nat->LR} (aj:k0<=2) (al:∀i,i<k0->Hy 235 u (t*y i) (L i)) (aX:k0=2) (hB:B=[]):CF 235 [Ah T,AO A] (.Aj [(false,[Au B]),(false,[.bool false])]):=by
 have aU:T.length=u.length+1:=by rw[hT,CA];rfl
 have aT:A.length=2^u.length+2^u.length:=by rw[hA,Bh hx.mem,Bz]
 have b1:=El.DL h;have b2:=Cz h.red;have aE:=Dh h.tail.ht;have aY:=DK u.length;have b3:El u 0 0:=El.rat h.red.1 G9;have aZ:QQ (r::u).length R s=max (QQ u.length R (3*s+3*EE u.length R+R+GG u.length R+3+II u.length R R)) (s+II u.length R (2*(3*s+3*EE u.length R+R+GG u.length R+3+II u.length R R+GG u.length R)+1)+EE u.length R):=rfl;have b0:=IW u.length R (3*s+3*EE u.length R+R+GG u.length R+3+II u.length R R);have aV:=FE u.length R (2*(3*s+3*EE u.length R+R+GG u.length R+3+II u.length R R+GG u.length R)+1);have hN:=El.norm h O.mem hq.mem (K ▸ hx);refine AM Tryz.func235 fun E M=>?_
 rintro b8 ⟨aJ,f27⟩;refine BS (fun a5=>?_) fun a5=>?_
 ·exact absurd a5 AA
 rintro b9 ⟨aK,f41⟩ ba aP b5 aC af aA a6 Q bb ⟨aL,f46⟩ ab aQ;refine Ae ((ab).toNat) fun aw a1=>?_
 refine AK ?_;rintro bc ⟨aM,f52⟩ Dr aR b6 aD ag aB av S bd ⟨aN,f57⟩ bf aS b7 V ae aI ⟨az,P⟩ a7 U;have d:a6=tw u:=by rw[Q,List.drop_zero,(AA:af=T.length-1),hT,Dx]
 have an:aw=BF r:=by have:=F6 r u;rw[<-hT,(AA:T.length-1=ab.toNat),a1] at this;exact Option.some.inj this
 have j:av=em u p:=by rw[S,List.drop_zero,(AA:ag=A.length/2),hA,Cv h.red O.mem hq.mem K]
 have N:a7=em u q:=by rw[U,(AA:ae=A.length/2),P,V,List.take_length,hA,CZ h.red O.mem hq.mem K]
 refine AB M (Ig h.red.1 hq.mem N h0) ?_;obtain⟨aF,o⟩:=xR (em u (p*p-q*q*AQ u r));refine AB M (Rk h hT hA hx K O.mem hq.mem AA o) ?_;obtain⟨aG,f⟩:=xR (em u n);have W:=hN.sqrt h.tail hn ak;refine AB M (au d o f) ?_;refine BM ?_;obtain⟨H,z⟩:=xR (em u (p+n));refine AB M (LD h.tail d j f O W AA AA z) ?_;obtain⟨I,D⟩:=xR (em u (p-n));refine AB M (Of h.tail d j f O W AA AA D) ?_;refine⟨[H,I],fun _=>⟨rfl,AE,rfl,⟨rfl,C5,⟨rfl,C5,trivial⟩⟩⟩,.inr ?_⟩;refine AW ?_;intro a8 g;have ax:=g.eq;have f118:=g.le;refine BI [] [8,11,117,118,119] [] (fun vs bl k=>∃(i':Nat) (m i:Int),vs=[Ah a6,AO a7,.one (.sl (.sl AG) [H,I]),AH m,AH i]/\(AR m 2/\AR i i'/\i'<=k0)/\k=2-i') (2-0) ⟨0,a8,0,rfl,⟨⟨g.eq⟩,BD 0,AA⟩,rfl⟩ ?_
 rintro J0 ah vs bl b4 ⟨i',m,i,rfl,⟨hM,ai,aW⟩,aj⟩;conv=>cbv
 have eM:=hM.eq;have aO:=ai.eq;refine BQ (fun a2=>?_) fun a2=>?_
 ·exact AN ⟨⟨rfl,.inr (.inl ⟨_,congrArg _ (hB)⟩),trivial⟩,t2,trivial⟩
 refine .inr ?_;obtain⟨ad,G⟩:=Bj (l:=[H,I]) (i:=i') (by show _<2;omega);refine Cj G ?_;have J:ad=em u (y i'):=eO G z D ao aq;obtain⟨aH,F⟩:=xR (em u (t*y i'));refine AB M (ZC h.tail d J (ar i') ht AA F) ?_;refine AB M (al i' AA d F) ?_;refine DJ ?_;intro aa ay;exact BT ah ⟨i'+1,m,aa,rfl,⟨hM,⟨AA⟩,AA⟩,rfl⟩
theorem rA (h:BC R (r::u)) (hT:T=tw (r::u)) (hA:A=em (r::u) x) (hx:El (r::u) s x) (a5:x=p+q*rt u r) (hp:El u s p) (hq:El u s q) (hs:QQ (r::u).length R s<=60000000000000) (h0:q≠0) (hn:In u n) (aF:n*n=p*p-q*q*AQ u r) (ht:t=Re.ofRat (1/2)) (aM:Hz 235 u (p*p-q*q*AQ u r) n) {y:Nat->Re} (aK:y 0=p+n) (aL:y 1=p-n) (ai:∀i,El u (s+(2*s+2*EE u.length R+R+1+GG u.length R)+1) (y i)) {L:Nat->LR} (aC:k0<=2) (aG:∀i,i<k0->Hy 235 u (t*y i) (L i)) (bk:k0<2) {j:Re} (hw:In u w) (aI:w*w=t*y k0) (aH:w≠0) (aN:Hz 235 u (t*y k0) w) (hj:In u j) (ag:(w+w)*j=1) (hB:B=em (r::u) (w+q*j*rt u r)):CF 235 [Ah T,AO A] (.Aj [(false,[Au B]),(false,[.bool true])]):=by
 have bh:T.length=u.length+1:=by rw[hT,CA];rfl
 have bg:A.length=2^u.length+2^u.length:=by rw[hA,Bh hx.mem,Bz]
 have br:=El.DL h;have bs:=Cz h.red;have aY:=Dh h.tail.ht;have bo:=DK u.length;have bt:El u 0 0:=El.rat h.red.1 G9;have bp:QQ (r::u).length R s=max (QQ u.length R (3*s+3*EE u.length R+R+GG u.length R+3+II u.length R R)) (s+II u.length R (2*(3*s+3*EE u.length R+R+GG u.length R+3+II u.length R R+GG u.length R)+1)+EE u.length R):=rfl;have bq:=IW u.length R (3*s+3*EE u.length R+R+GG u.length R+3+II u.length R R);have bj:=FE u.length R (2*(3*s+3*EE u.length R+R+GG u.length R+3+II u.length R R+GG u.length R)+1);have hN:=El.norm h hp.mem hq.mem (a5 ▸ hx);refine AM Tryz.func235 fun E F=>?_
 rintro bA ⟨b5,f27⟩;refine BS (fun aj=>?_) fun aj=>?_
 ·exact absurd aj AA
 rintro bB ⟨b6,f41⟩ bC bb bw aW av aU ak aa bD ⟨b7,f46⟩ aq bc;refine Ae ((aq).toNat) fun aP ah=>?_
 refine AK ?_;rintro bE ⟨b8,f52⟩ Dr bd bx aX aw aV aO ab bF ⟨b9,f57⟩ bG bf bz ae au b4 ⟨aT,a8⟩ al ad;have d:ak=tw u:=by rw[aa,List.drop_zero,(AA:av=T.length-1),hT,Dx]
 have aJ:aP=BF r:=by have:=F6 r u;rw[<-hT,(AA:T.length-1=aq.toNat),ah] at this;exact Option.some.inj this
 have H:aO=em u p:=by rw[ab,List.drop_zero,(AA:aw=A.length/2),hA,Cv h.red hp.mem hq.mem a5]
 have I:al=em u q:=by rw[ad,(AA:au=A.length/2),a8,ae,List.take_length,hA,CZ h.red hp.mem hq.mem a5]
 refine AB F (Ig h.red.1 hq.mem I h0) ?_;obtain⟨aZ,J⟩:=xR (em u (p*p-q*q*AQ u r));refine AB F (Rk h hT hA hx a5 hp.mem hq.mem AA J) ?_;obtain⟨b0,o⟩:=xR (em u n);have af:=hN.sqrt h.tail hn aF;refine AB F (aM d J o) ?_;refine BM ?_;obtain⟨V,K⟩:=xR (em u (p+n));refine AB F (LD h.tail d H o hp af AA AA K) ?_;obtain⟨W,M⟩:=xR (em u (p-n));refine AB F (Of h.tail d H o hp af AA AA M) ?_;refine⟨[V,W],fun _=>⟨rfl,AE,rfl,⟨rfl,C5,⟨rfl,C5,trivial⟩⟩⟩,.inr ?_⟩;refine AW ?_;intro an G;have aR:=G.eq;have f118:=G.le;refine BI [] [8,11,117,118,119] [] (fun vs bl k=>∃(i':Nat) (m i:Int),vs=[Ah ak,AO al,.one (.sl (.sl AG) [V,W]),AH m,AH i]/\(AR m 2/\AR i i'/\i'<=k0)/\k=2-i') (2-0) ⟨0,an,0,rfl,⟨⟨G.eq⟩,BD 0,AA⟩,rfl⟩ ?_
 rintro J0 ax vs bl bu ⟨i',m,i,rfl,⟨hM,ay,az⟩,aC⟩;conv=>cbv
 have eM:=hM.eq;have ba:=ay.eq;refine BQ (fun a6=>?_) fun a6=>?_
 ·exact absurd a6 AA
 refine .inr ?_;obtain⟨ar,S⟩:=Bj (l:=[V,W]) (i:=i') (by show _<2;omega);refine Cj S ?_;have a2:ar=em u (y i'):=eO S K M aK aL;obtain⟨b1,N⟩:=xR (em u (t*y i'));refine AB F (ZC h.tail d a2 (ai i') ht AA N) ?_;obtain⟨aQ,g⟩:=xB (decide (i'=k0));obtain⟨a1,O⟩:=xR (if i'=k0 then em u w else L i');refine AB F (rC az aG aN g O d N) ?_;refine G5 (fun U=>?_) fun U=>?_
 ·intro ao aS;have bn:i'≠k0:=of_decide_eq_false (g.symm.trans U);exact BT ax ⟨i'+1,m,ao,rfl,⟨hM,⟨AA⟩,AA⟩,rfl⟩
 have aA:i'=k0:=of_decide_eq_true (g.symm.trans U);have f:a1=em u w:=by rw[O,if_pos aA]
 have D:El u (s+(2*s+2*EE u.length R+R+1+GG u.length R)+1+1+EE u.length R+GG u.length R) w:=(((ai k0).half h.tail ht).sqrt h.tail hw aI);have aB:=(D.add h.red.1 D).inv h.tail hj ag;have bm:=KG u.length R (s:=s+(2*s+2*EE u.length R+R+1+GG u.length R)+1+1+EE u.length R+GG u.length R+(s+(2*s+2*EE u.length R+R+1+GG u.length R)+1+1+EE u.length R+GG u.length R)+1) (t:=2*(3*s+3*EE u.length R+R+GG u.length R+3+II u.length R R+GG u.length R)+1) AA;refine AB F (Ig h.red.1 hw f aH) ?_;obtain⟨b2,P⟩:=xR (em u (w+w));refine AB F (LD h.tail d f f D D AA AA P) ?_;obtain⟨b3,Q⟩:=xR (em u j);refine AB F (Oa h.tail d P (D.add h.red.1 D) hj ag AA Q) ?_;obtain⟨a7,z⟩:=xR (em u (q*j));refine AB F (Hu h.tail d I Q hq aB AA z) ?_;refine⟨[a1,a7],fun _=>⟨rfl,AE,rfl,⟨rfl,C5,⟨rfl,C5,trivial⟩⟩⟩,.inr ?_⟩
 try conv=>cbv
 have aD:a1.length=2^u.length:=by rw[f,Bh hw]
 have aE:a7.length=2^u.length:=by rw[z,Bh (Ak h.red.1 hq.mem hj)]
 refine AB (r:= .one (Au B)) F (PT AA AA (by rw[hB,f,z];exact Ff h.red hw (Ak h.red.1 hq.mem hj) rfl)) ?_;exact AN ⟨t2,t2,trivial⟩
end
section
theorem ZB {t:Re} (ht:t=Re.ofRat (1/2)):2*t=1:=by
 have e2:(2:Re)=Re.ofRat 2:=rfl;rw[ht,e2,<-Re.ofRat_mul,show (2:Rat)*(1/2)=1 by decide +kernel];rfl
theorem VM {u:AD} {R:Nat} (h:BC R u):WN 235 R u:=by
 induction u with
 | nil=>
  intro s x H N;obtain⟨q,rfl⟩:=Cy.1 H.mem
  have ab:B8 q:=by
   have:=H.CM (by have:=IW ([]:AD).length R s;omega);rw[DH] at this;exact this q List.mem_cons_self
  by_cases hr:∃r:Rat,0<=r/\r*r=q
  ·obtain⟨r,J,hr⟩:=hr;refine .inl ⟨Re.ofRat r,Fy r _,by rw[<-Re.ofRat_mul,hr],?_⟩;intro T A B o k U;exact q8 o (k.trans (Ds q)) (U.trans (Ds r)) ab J hr
  refine .inr ⟨fun N=>hr (dg.1 N),[(((false,[]),(false,[])):el AG)],?_,?_⟩
  rotate_left
  ·intro T A o k;exact q7 o (k.trans (Ds q)) rfl ab hr
  simp
 | cons r u g=>
  have g:WN 235 R u:=g h.tail;intro s x H N;obtain⟨p,q,d,z,K⟩:=El.parts h.red H;have aw:QQ (r::u).length R s=max (QQ u.length R (3*s+3*EE u.length R+R+GG u.length R+3+II u.length R R)) (s+II u.length R (2*(3*s+3*EE u.length R+R+GG u.length R+3+II u.length R R+GG u.length R)+1)+EE u.length R):=rfl;have hQ:∀s',s'<=3*s+3*EE u.length R+R+GG u.length R+3+II u.length R R->QQ u.length R s'<=60000000000000:=fun s' h'=>Nat.le_trans (Oc u.length R h') AA
  have ao:=El.DL h;have aq:=Cz h.red
  by_cases J:q=0
  ·have W:x=p:=by rw[d,J];clear g;grind
   rcases g z (hQ _ AA) with⟨w,hw,f,hy⟩ |⟨F,l,hl,hn⟩
   ·refine .inl ⟨w,FU hw,by rw[W];exact f,?_⟩;intro T A B o k U;exact rD h o k H d z K N J hw hy U
   obtain⟨i,M,G⟩:=EU h.red.1 (B0 h.red) (by have:=h.red.2.2.1;grind);have ai:=ao.inv h.tail M G;rcases g (z.mul h.tail ai) (hQ _ AA) with⟨w,hw,f,hy⟩ |⟨a8,l2,aj,al⟩
   ·refine .inl ⟨w*rt u r,Ci.2 ⟨0,w,CO u,hw,by clear g;grind⟩,?_,?_⟩
    ·have:p=p*(AQ u r*i):=by rw[G];clear g;grind
     rw[W];clear g;grind
    intro T A B o k U;exact rE h o k H d z K N J M G hn hw hy U
   refine .inr ⟨?_,em u 0++l2,?_,?_⟩
   ·rw[W,dd h.red z.mem];rintro (h1 |⟨i',ar,aa,h1⟩)
    ·exact F h1
    have:i'=i:=by
     have:i'=i'*(AQ u r*i):=by rw[G];clear g;grind
     have h2:i=i*(AQ u r*i'):=by rw[aa];clear g;grind
     clear g;grind
    rw[this] at h1;exact a8 h1
   ·rw[List.length_append,Bh (CO u),Bz];omega
   intro T A o k;exact rF h o k H d z K N J M G hn al aj rfl
  have hN:=El.norm h z.mem K.mem (d ▸ H);rcases g hN (hQ _ AA) with⟨n,hn,D,ah⟩ |⟨F,l,hl,an⟩
  rotate_left
  ·refine .inr ⟨fun hS=>F (di h.red z.mem K.mem (d ▸ hS)),[],Nat.zero_le _,?_⟩;intro T A o k;exact q9 h o k H d z K N J an rfl
  have a5:=hN.sqrt h.tail hn D;obtain⟨t,ht⟩:∃t:Re,t=Re.ofRat (1/2):=⟨_,rfl⟩
  have V:=ZB ht;obtain⟨y,hy⟩:∃y:Nat->Re,y=fun i=>if i=0 then p+n else p-n:=⟨_,rfl⟩
  have O:y 0=p+n:=by rw[hy];rfl
  have P:y 1=p-n:=by rw[hy];rfl
  have Q:∀i,El u (s+(2*s+2*EE u.length R+R+1+GG u.length R)+1) (y i):=fun i=>by
   rw[hy]
   show El u _ (if i=0 then p+n else p-n)
   by_cases M:i=0
   ·rw[if_pos M];exact z.add h.red.1 a5
   rw[if_neg M];exact z.sub h.red.1 a5
  have S:∀(k0:Nat) (L:Nat->LR) (w:Re),k0<2->(∀i,i<k0->Hy 235 u (t*y i) (L i))->In u w->w*w=t*y k0->Hz 235 u (t*y k0) w->
    ∃w,In (r::u) w/\w*w=x/\Hz 235 (r::u) x w:=by
   intro k0 L w hk F hw f I
   have key:∃m,m*m=p*p-q*q*AQ u r/\y k0=p+m:=by
    rcases (AA:k0=0\/k0=1) with rfl | rfl
    ·exact⟨n,D,O⟩
    exact⟨-n,by rw[<-D];clear g;grind,by rw[P];clear g;grind⟩
   obtain⟨m,a1,ag⟩:=key;have ad:w≠0:=dc h.red J a1 V (by rw[f,ag])
   have af:w+w≠0:=by
    intro e;have e1:2*w=0:=by clear g;grind
    rcases Re.GW e1 with e | e
    ·exact RF e
    exact ad e
   obtain⟨j,hj,ae⟩:=EU h.red.1 (DZ hw hw) af;refine⟨w+q*j*rt u r,Ci.2 ⟨_,_,hw,Ak h.red.1 K.mem hj,rfl⟩,?_,?_⟩
   ·rw[d];exact db a1 V aq (by rw[f,ag]) ae rfl
   intro T A B o k U;exact rA h o k H d z K N J hn D ht ah O P Q AA F hk hw f ad I hj ae U
  have hb:QQ u.length R (s+(2*s+2*EE u.length R+R+1+GG u.length R)+1+1+EE u.length R)<=60000000000000:=hQ _ AA;rcases g ((Q 0).half h.tail ht) hb with⟨w,hw,f,I⟩ |⟨a6,l0,au,a2⟩
  ·exact .inl (S 0 (fun _=>[]) w AA (fun i M=>AA) hw f I)
  rcases g ((Q 1).half h.tail ht) hb with⟨w,hw,f,I⟩ |⟨a7,l1,av,ak⟩
  ·exact .inl (S 1 (fun _=>l0) w AA (fun i M=>by rw[(AA:i=0)];exact a2) hw f I)
  refine .inr ⟨fun hS=>?_,[],Nat.zero_le _,?_⟩
  ·rcases dj h.red z.mem K.mem (d ▸ hS) D V with e | e
   ·exact a6 (by rw[O];exact e)
   exact a7 (by rw[P];exact e)
  intro T A o k
  exact rB h o k H d z K N J hn D ht ah O P Q (L:=fun i=>if i=0 then l0 else l1) (Nat.le_refl 2) (fun i M=>by
   rcases (AA:i=0\/i=1) with rfl | rfl
   ·exact a2
   exact ak) rfl rfl
end
section
variable {A B:LR} {R s:Nat} {T:List LR} {u:AD} {v x:Re}
theorem X3 {V:Nat} (hl:∀x∈T,x.length<=1000000) (a8:T.length<=1000) (I:V=T.length):CF 177 [Ah T] (.one (.own (.sl AG) T V)):=by
 refine AM Tryz.func177 fun E hE=>?_
 rintro n7 ⟨e7,f7⟩;refine⟨fun _=>⟨AA,AA,by show _*24<=140737488355328;omega⟩,?_⟩;intro K (M:List (el (.sl AG))) F;have a7:=F.1;have H:M=List.replicate K ([]:el (.sl AG)):=F.2;have a1:M.length=K:=by rw[H,List.length_replicate]
 refine AW ?_;intro N h;have W:=h.eq;have f10:=h.le;refine BI [] [3,9,10,11] [8] (fun vs P k=>∃(o:List LR) (m i':Nat) (L i:Int),vs=[.one (.AU (.sl AG) 8 0 0 m),Ah T,AH L,AH i]/\P=[.arr 0 (.sl AG) o]/\(o.length=T.length/\m=T.length/\DX L T.length/\AR i i'/\i'<=T.length)/\o.take i'=T.take i'/\k=T.length-i') (T.length-0) ⟨M,K,0,N,0,rfl,rfl,⟨AA,AA,h,BD 0,AA⟩,rfl,rfl⟩ ?_;rintro J0 G vs P aa ⟨o,m,i',L,i,rfl,rfl,⟨ho,hm,S,hi,a5⟩,hinv,a6⟩;conv=>cbv
 have eL:=S.eq;have ei:=hi.eq;refine BQ (fun J=>?_) fun J=>?_
 ·have d:T=o:=by rw[<-List.take_length (l:=T),<-show i'=T.length by omega,<-hinv,List.take_of_length_le AA]
  exact AN ⟨⟨rfl,.inr (.inl ⟨_,_,AE,rfl,rfl,AA,rfl,C3 (d) (by rw[I,<-d])⟩),trivial⟩,trivial⟩
 refine .inr ?_;refine Ae i' fun z g=>?_
 try conv=>cbv
 refine AB hE (Vt (hl z (List.mem_of_getElem? g))) ?_;intro D U;refine⟨z,fun _=>⟨by show _<List.length (α:=(el (.sl AG))) o;(first | omega | (simp;omega)),C5⟩,?_⟩;intro (j:List (el (.sl AG))) (f:j=List.set (α:=(el (.sl AG))) o D z);have Q:j.length=o.length:=by rw[f,List.length_set]
 refine AK ?_;intro O a2;refine⟨T.length-(i'+1),?_,?_⟩
 ·omega
 rw[G];refine⟨j,m,i'+1,L,O,rfl,rfl,⟨AA,AA,S,⟨AA⟩,AA⟩,?_,rfl⟩;rw[f,(AA:D=i'),RA AA,hinv,<-DU g]
theorem j4 (f:∀x∈T,x.length<=1000000) (d:T.length<=1000):CF 177 [Ah T] (Ah T):=Df (X3 f d rfl)
theorem eN (h:BC R u) (k:T=tw u):∀x∈T,x.length<=1000000:=by
 intro x f;rw[k,tw] at f;obtain⟨y,m,rfl⟩:=List.mem_map.1 f;obtain⟨i,d⟩:=List.mem_iff_getElem?.1 m;have g:=MN h.red i y d;have j:=Dg d;rw[List.length_reverse] at j;have h3:=h.ht;rw[List.length_map,g];exact Nat.le_trans (Dh) AE
theorem Jh:Bg x<0↔x<0:=by
 rcases FX x with⟨a,b⟩ |⟨a,b⟩ |⟨a,b⟩ <;> rw[b]
 ·exact⟨fun _=>a,fun _=>AE⟩
 ·rw[a];exact⟨IE,fun h=>by grind⟩
 exact⟨IE,fun h=>by grind⟩
theorem o4 (h:BC R u) (G:T=tw u) (K:A=em u x) (M:El u s x) (F:Fit u.length R s) {w:Re} (hw:In u w) (g:w*w=x) (N:Hz 235 u x w) (m:0<=v) (o:v*v=x) (J:B=em u v):CF 176 [Ah T,AO A] (.Aj [(false,[Au B]),(false,[.bool true])]):=by
 have z:=M.sqrt h hw g;refine AM Tryz.func176 fun E D=>?_
 obtain⟨P,d⟩:=xR (em u w);refine AB D (N G K d) ?_;refine BM ?_;obtain⟨O,k⟩:=xI (Bg w);refine AB D (My h G d z F.v F.vR k) ?_;intro I j;refine .inr ?_;cases I <;> conv=>cbv
 ·have H:=EG j;exact AN ⟨⟨rfl,congrArg _ (by rw[J,d];congr 1;have:¬w<0:=(fun L=>by have:=Jh.2 L;omega);exact Re.MS m (by grind) (o.trans g.symm)),trivial⟩,t2,trivial⟩
 have H:=EH j;obtain⟨Q,f⟩:=xR (em u (-w));refine AB D (WD h G d z (Nat.le_trans (GO u.length R _) F.v) f) ?_;exact AN ⟨⟨rfl,congrArg _ (by rw[J,f];congr 1;have:w<0:=Jh.1 AA;exact Re.MS m (by grind) (by rw[o,<-g];grind)),trivial⟩,t2,trivial⟩
theorem o3 (h:BC R u) (j:T=tw u) (d:A=em u x) (o:El u s x) (m:Fit u.length R s) {l:LR} (k:Hy 235 u x l) (f:B=[]):CF 176 [Ah T,AO A] (.Aj [(false,[Au B]),(false,[.bool false])]):=by
 refine AM Tryz.func176 fun E g=>?_
 refine AB g (k j d) ?_;refine DJ ?_;exact AN ⟨⟨rfl,.inr (.inl ⟨_,congrArg _ (f)⟩),trivial⟩,t2,trivial⟩
theorem o5 (h:BC R u) (D:T=tw u) (o:A=em u x) (m:El u s x) (k:Fit u.length R s) (F:In u v) (g:0<=v) (d:v*v=x) (z:B=em u v):CF 176 [Ah T,AO A] (.Aj [(false,[Au B]),(false,[.bool true])]):=by
 rcases VM h m k.q with⟨w,hw,j,G⟩ |⟨f,_⟩
 ·exact o4 h D o m k hw j G g d z
 exact absurd ⟨v,F,d⟩ f
theorem oz (h:BC R u) (o:T=tw u) (k:A=em u x) (j:El u s x) (g:Fit u.length R s) (d:¬Sq u x) (m:B=[]):CF 176 [Ah T,AO A] (.Aj [(false,[Au B]),(false,[.bool false])]):=by
 rcases VM h j g.q with⟨w,hw,f,D⟩ |⟨_,l,_,z⟩
 ·exact absurd ⟨w,hw,f⟩ d
 exact o3 h o k j g z m
theorem WJ (h:BC R u) (D:T=tw u) (hv:VV u.length R R<=60000000000000) (hq:QQ u.length R R<=60000000000000):CF 175 [Ah T] (.one (.bool true)):=by
 have aj:T.length=u.length:=by rw[D,CA]
 have hR:=h.hR;refine AM Tryz.func175 fun E U=>?_
 intro n8 S;have e8:=S.eq;have f8:=S.le;refine BI [] [0,7,8,9] [] (fun vs bl k=>∃(i':Nat) (L i:Int),vs=[Ah T,Ah T,AH L,AH i]/\(DX L T.length/\AR i i'/\i'<=T.length)/\k=T.length-i') (T.length-0) ⟨0,n8,0,rfl,⟨S,BD 0,AA⟩,rfl⟩ ?_;rintro J0 V vs bl an ⟨i',L,i,rfl,⟨hL,hi,ak⟩,al⟩;conv=>cbv
 have eL:=hL.eq;have ei:=hi.eq;refine BQ (fun a2=>?_) fun a2=>?_
 ·exact AN ⟨t2,trivial⟩
 refine .inr ?_;refine Ae i' fun N K=>?_
 try conv=>cbv
 obtain⟨r,J,I⟩:=Kr (u:=u) (i:=i') AA;have z:Ag (r::pre u i'):=J ▸ (h.pre (i'+1)).red;have W:N=BF r:=by rw[<-D,K] at I;exact Option.some.inj I
 have d:N=em (pre u i') (AQ (pre u i') r):=W.trans (E1 z);have f:El (pre u i') R (AQ (pre u i') r):=El.DL (J ▸ h.pre (i'+1));refine AK ?_;intro ao af O ab a5 F;have j:a5=tw (pre u i'):=by rw[F,List.drop_zero,(AA:O=i'),D,Ix]
 refine AB (r:= .one (.bool true)) U (IU j (h.pre i').G4 d (f.CM hR) (by rw[f.len,List.length_reverse];exact (decide_eq_true rfl).symm)) ?_;refine BM ?_;intro aq ag P ad a6 G;have m:a6=tw (pre u i'):=by rw[G,List.drop_zero,(AA:P=i'),D,Ix]
 obtain⟨aa,g⟩:=xI (Bg (AQ (pre u i') r));refine AB (r:= .one (.int .i64 aa)) U (My (h.pre i') m d f (by rw[Ju AA];exact Nat.le_trans (M0 AA R R) hv) (by rw[Ju AA];exact Nat.le_trans (M0 AA R R) hv) g) ?_;refine Gn (fun M=>?_) fun M=>?_
 ·exact absurd M (by rw[g,HK z.2.2.1];omega)
 intro ar ah Q ae a7 H;have o:a7=tw (pre u i'):=by rw[H,List.drop_zero,(AA:Q=i'),D,Ix]
 obtain⟨l,hl,hn⟩:=((VM (h.pre i') f (by rw[Ju AA];exact Nat.le_trans (gC AA R R) hq)).resolve_left (fun⟨w,hw,a1,_⟩=>z.2.2.2 ⟨w,hw,a1⟩)).2;refine AB U (hn o d) ?_;intro a8 ai;exact BT V ⟨i'+1,L,a8,rfl,⟨hL,⟨AA⟩,AA⟩,rfl⟩
theorem jP (h:BC R u) (f:T=tw u) (o:A=em u x) (m:El u s x) (d:Fit u.length R s) (J:In u v) (z:0<=v) (k:v*v=x) (G:B=em u v):CF 121 [Ah T,AO A] (.Aj [(false,[BP T]),(false,[Au B]),(false,[.int .i64 0])]):=by
 have H:T.length=u.length:=by rw[f,CA]
 have I:=h.ht;have D:¬x<0:=by rw[<-k];have:=Re.IP v;grind
 refine AM Tryz.func121 fun E g=>?_
 refine .inr ?_;refine AB (r:= .one (.bool true)) g (IU f h.G4 o (m.CM d.s) (by rw[m.len,List.length_reverse];exact (decide_eq_true rfl).symm)) ?_;refine BM ?_;refine AB g (WJ h f d.vR d.qR) ?_;refine BM ?_;obtain⟨K,j⟩:=xI (Bg x);refine AB g (My h f o m d.v0 d.vR j) ?_;refine DF (fun F=>?_) fun F=>?_
 ·exact absurd ((Jh (x:=x)).1 AA) D
 refine AB g (o5 h f o m d J z k G) ?_;refine AB g (j4 (eN h f) AA) ?_;exact AN Ao
theorem jQ (h:BC R u) (j:T=tw u) (o:A=em u x) (H:El u s x) (m:Fit u.length R s) {R':Nat} {r:List Rat} {T2:List LR} (h8:u.length<8) (a1:0<=x) (M:¬Sq u x) (W:r=co u x) (h':BC R' (r::u)) (K:T2=tw (r::u)) (U:B=em (r::u) (rt u r)):CF 121 [Ah T,AO A] (.Aj [(false,[BP T2]),(false,[Au B]),(false,[.int .i64 0])]):=by
 have L:T.length=u.length:=by rw[j,CA]
 have V:=h.ht;refine AM Tryz.func121 fun E g=>?_
 refine .inr ?_;refine AB (r:= .one (.bool true)) g (IU j h.G4 o (H.CM m.s) (by rw[H.len,List.length_reverse];exact (decide_eq_true rfl).symm)) ?_;refine BM ?_;refine AB g (WJ h j m.vR m.qR) ?_;refine BM ?_;obtain⟨a6,F⟩:=xI (Bg x);refine AB g (My h j o H m.v0 m.vR F) ?_;refine DF (fun N=>?_) fun N=>?_
 ·exact absurd ((Jh (x:=x)).1 AA) (by grind)
 refine AB g (oz h j o H m M rfl) ?_;rintro a2 ⟨Q,f36⟩;refine Mk (fun I=>?_) fun I=>?_
 ·exact absurd I AA
 obtain⟨tn,G⟩:=xN T.length;refine AB g (X3 (eN h j) AA G) ?_;have S:A.length=2^u.length:=by rw[o,Bh H.mem]
 have P:=Dh h.ht;refine AB g (Vt AA) ?_;refine⟨[A],Ca,.inr ?_⟩;try conv=>cbv
 refine .inr (.inl ⟨[A],fun _=>⟨rfl,by rw[G],rfl,B5 (T.length+1) 24⟩,?_⟩);intro (k:List (el (.sl AG))) O f;have z:k=(T:List (el (.sl AG)))++([A]:List (el (.sl AG))):=f.1;have D:O=List.length (α:=(el (.sl AG))) k:=f.2;conv=>cbv
 refine⟨fun _=>D,?_⟩;rintro a5 ⟨J,f47⟩;conv=>cbv
 have d:k=tw (r::u):=by rw[z,j,OP,o,em,W]
 refine AB g (gO h' d (AR.of (J.trans (congrArg _ L))) U) ?_;exact AN ⟨⟨rfl,congrArg _ (by rw[K,d]),trivial⟩,t2,t2,trivial⟩
end
section
variable {A B:LR} {R s zn:Nat} {T:List LR} {c:Int} {i p q x y:Re} {r:List Rat} {u:AD}
theorem Wx {C:LR} (h:BC R (r::u)) (hT:T=tw (r::u)) (K:A=em (r::u) x) (hx:El (r::u) s x) (g:x=p+q*rt u r) (j:El u s p) (f:El u s q) (hb:2*s+2*EE u.length R+R+1<=60000000000000) (hC:C=em u (p*p-q*q*AQ u r)):CF 142 [Ah T,AO A] (AO C):=by
 have aA:T.length=u.length+1:=by rw[hT,CA];rfl
 have az:A.length=2^u.length+2^u.length:=by rw[K,Bh hx.mem,Bz]
 have W:=El.DL h;have hR:=h.hR;refine AM Tryz.func142 fun E hE=>?_
 rintro n9 ⟨e9,f9⟩ aG aw aH ⟨au,f13⟩ aI ax aB al a5 ai a8 N aJ ⟨av,f18⟩ aK ay;refine Ae ((T.length-1)) fun af D=>?_
 refine AK ?_;intro aC an a6 aj aa O aD ao a7 ak ab P;have d:a8=tw u:=by rw[N,List.drop_zero,(AA:a5=T.length-1),hT,Dx]
 have F:aa=em u p:=by rw[O,List.drop_zero,(AA:a6=A.length/2),K,Cv h.red j.mem f.mem g]
 have G:ab=em u p:=by rw[P,List.drop_zero,(AA:a7=A.length/2),K,Cv h.red j.mem f.mem g]
 obtain⟨aL,k⟩:=xR (em u (p*p));refine AB hE (ER h.tail d F G j j AA k) ?_;rintro aE U a1 aq ⟨ag,L⟩ ad Q aF V a2 ar ⟨ah,M⟩ ae S;have H:ad=em u q:=by rw[Q,(AA:a1=A.length/2),L,U,List.take_length,K,CZ h.red j.mem f.mem g]
 have I:ae=em u q:=by rw[S,(AA:a2=A.length/2),M,V,List.take_length,K,CZ h.red j.mem f.mem g]
 obtain⟨aM,m⟩:=xR (em u (q*q));refine AB hE (ER h.tail d H I f f AA m) ?_;have J:af=em u (AQ u r):=by rw[hT,F6] at D;exact (Option.some.inj D).symm.trans (E1 h.red)
 obtain⟨aN,o⟩:=xR (em u (q*q*AQ u r));refine AB hE (ER h.tail d m J (f.mul h.tail f) W AA o) ?_;obtain⟨aO,z⟩:=xR (em u (p*p-q*q*AQ u r));refine AB hE (Ou h.tail k o (j.mul h.tail j) ((f.mul h.tail f).mul h.tail W) AA AA z) ?_;exact AL (by rw[hC,z])
def Rr (R:Nat) (u:AD):Prop:=∀{T:List LR} {A B:LR} {zn s:Nat} {x y:Re},T=tw u->A=em u x->El u s x->In u y->x*y=1->II u.length R s<=60000000000000->B=em u y->zn=B.length->
 CF 92 [Ah T,AO A] (.Aj [(false,[.own AG B zn]),(false,[.int .i64 0])])
theorem iR {p q:Rat} (S:T=[]) (H:A=[rp p]) (O:B=[rp q]) (f:p≠0) (I:q=1/p) (J:zn=B.length):CF 92 [Ah T,AO A] (.Aj [(false,[.own AG B zn]),(false,[.int .i64 0])]):=by
 refine AM Tryz.func92 fun E Q=>?_
 rintro V ⟨F,f13⟩;refine CN (fun k=>?_) fun k=>?_
 ·exact absurd (by rw[F,S];rfl) k
 have P:A.length=1:=by rw[H];rfl
 refine Ae 0 fun M h=>?_
 try conv=>cbv
 have g:=FW H h;rintro L ⟨G,f20⟩;conv=>cbv
 have N:L=((List.length (α:=UInt32) M.1.2:Nat):Int):=G;refine BS (fun K=>?_) fun K=>?_
 ·exact absurd (Rat.num_eq_zero.1 (g.num.F1.1 AA)) f
 refine Ae 0 fun W j=>?_
 try conv=>cbv
 have U:=FW H j;obtain⟨z,D,m,o,d⟩:=By q;refine AB Q (gz U f I d) ?_;refine⟨[((z,D),(m,o))],Ca,.inl ?_⟩;try conv=>cbv
 exact AN ⟨⟨rfl,.inr (.inl ⟨_,_,AE,rfl,rfl,rfl,rfl,C3 (by rw[O,d.rp]) (by rw[J,O];rfl)⟩),trivial⟩,t2,trivial⟩
theorem iT {y:Re} (h:BC R (r::u)) (ih:Rr R u) (hT:T=tw (r::u)) (hA:A=em (r::u) x) (hx:El (r::u) s x) (P:x=p+q*rt u r) (hp:El u s p) (hq:El u s q) (h0:q=0) (hi:In u i) (a1:p*i=1) (hs:II (r::u).length R s<=60000000000000) (hB:B=em (r::u) i) (a2:zn=B.length):CF 92 [Ah T,AO A] (.Aj [(false,[.own AG B zn]),(false,[.int .i64 0])]):=by
 have aB:T.length=u.length+1:=by rw[hT,CA];rfl
 have az:A.length=2^u.length+2^u.length:=by rw[hA,Bh hx.mem,Bz]
 have aA:II (r::u).length R s=s+EE u.length R+II u.length R (2*s+2*EE u.length R+R+1):=rfl;have ai:=KG u.length R (s:=s) (t:=2*s+2*EE u.length R+R+1) AA;refine AM Tryz.func92 fun E S=>?_
 rintro aF ⟨au,f13⟩;refine BS (fun Q=>?_) fun Q=>?_
 ·exact absurd Q AA
 rintro aG ⟨av,f28⟩ aH ax aI ⟨aw,f32⟩ aJ ay aC ag V ab a5 J aD N U ar ⟨aa,I⟩ a6 K;have F:a6=em u q:=by rw[K,(AA:U=A.length/2),I,N,List.take_length,hA,CZ h.red hp.mem hq.mem P]
 refine AB S (Ie h.tail.red hq.mem F h0) ?_;intro aE ah W ad a7 L;have d:a5=tw u:=by rw[J,List.drop_zero,(AA:V=T.length-1),hT,Dx]
 have G:a7=em u p:=by rw[L,List.drop_zero,(AA:W=A.length/2),hA,Cv h.red hp.mem hq.mem P]
 obtain⟨m,f⟩:=xR (em u i);obtain⟨ak,g⟩:=xN m.length;refine AB S (ih d G hp hi a1 AA f g) ?_;refine BM ?_;obtain⟨ao,aq,al,an,z⟩:=By (((0:Int):Rat));refine AB S (Ec AA rfl z) ?_;obtain⟨k,j⟩:=xR (em u (0));refine AB (r:= .one (Au k)) S (G7 h.tail d z (by rw[show Re.ofRat ((0:Int):Rat)=0 from rfl];exact j)) ?_;have ae:m.length=2^u.length:=by rw[f,Bh hi]
 have af:k.length=2^u.length:=by rw[j,Bh (CO u)]
 have aj:=Dh h.tail.ht;refine .inl ⟨k,fun _=>⟨rfl,g,rfl,B5 (m.length+k.length) 64⟩,?_⟩;intro (H:LR) a8 D;have M:H=(m:LR)++(k:LR):=D.1;have O:a8=List.length (α:=(el AG)) H:=D.2;conv=>cbv
 have o:B=H:=by rw[hB,M,f,j];exact Ff h.red hi (CO u) (by clear ih;grind)
 exact AN ⟨⟨rfl,.inr (.inl ⟨_,_,AE,rfl,rfl,O,rfl,C3 (o) (by rw[a2,o])⟩),trivial⟩,t2,trivial⟩
theorem iS (h:BC R (r::u)) (ih:Rr R u) (hT:T=tw (r::u)) (Q:A=em (r::u) x) (hx:El (r::u) s x) (o:x=p+q*rt u r) (H:El u s p) (z:El u s q) (h0:q≠0) (hi:In u i) (S:(p*p-q*q*AQ u r)*i=1) (hy:y=p*i+ -q*i*rt u r) (hs:II (r::u).length R s<=60000000000000) (hB:B=em (r::u) y) (ai:zn=B.length):CF 92 [Ah T,AO A] (.Aj [(false,[.own AG B zn]),(false,[.int .i64 0])]):=by
 have aM:T.length=u.length+1:=by rw[hT,CA];rfl
 have aK:A.length=2^u.length+2^u.length:=by rw[Q,Bh hx.mem,Bz]
 have aL:II (r::u).length R s=s+EE u.length R+II u.length R (2*s+2*EE u.length R+R+1):=rfl;have hN:=El.norm h H.mem z.mem (o ▸ hx);have f:=hN.inv h.tail hi S;have aA:=FE u.length R (2*s+2*EE u.length R+R+1);have aa:=(z.neg h.red.1).mul h.tail f;refine AM Tryz.func92 fun E P=>?_
 rintro aR ⟨aF,f13⟩;refine BS (fun ad=>?_) fun ad=>?_
 ·exact absurd ad AA
 rintro aS ⟨aG,f28⟩ aT aI aU ⟨aH,f32⟩ aV aJ aN ay ag au aj W aO a7 ae aD ⟨aq,U⟩ ak a1;have L:ak=em u q:=by rw[a1,(AA:ae=A.length/2),U,a7,List.take_length,Q,CZ h.red H.mem z.mem o]
 refine AB P (JJ h.tail.red z.mem L h0) ?_;have d:aj=tw u:=by rw[W,List.drop_zero,(AA:ag=T.length-1),hT,Dx]
 obtain⟨aW,I⟩:=xR (em u (p*p-q*q*AQ u r));refine AB P (Wx h hT Q hx o H z AA I) ?_;obtain⟨aX,g⟩:=xR (em u i);refine AB P (Df (ih d I hN hi S AA g rfl)) ?_;refine BM ?_;intro aP az ah av al a2;have M:al=em u p:=by rw[a2,List.drop_zero,(AA:ah=A.length/2),Q,Cv h.red H.mem z.mem o]
 obtain⟨D,j⟩:=xR (em u (p*i));obtain⟨aC,k⟩:=xN D.length;refine AB P (fP h.tail d M g H f AA j k) ?_;rintro aQ a8 af aE ⟨ar,V⟩ an a5;have N:an=em u q:=by rw[a5,(AA:af=A.length/2),V,a8,List.take_length,Q,CZ h.red H.mem z.mem o]
 obtain⟨aY,J⟩:=xR (em u (-q));refine AB P (LL h.tail N z J) ?_;obtain⟨F,m⟩:=xR (em u (-q*i));refine AB P (ER h.tail d J g (z.neg h.red.1) f AA m) ?_;have aw:D.length=2^u.length:=by rw[j,Bh (H.mul h.tail f).mem]
 have ax:F.length=2^u.length:=by rw[m,Bh aa.mem]
 have aB:=Dh h.tail.ht;refine .inl ⟨F,fun _=>⟨rfl,k,rfl,B5 (D.length+F.length) 64⟩,?_⟩;intro (O:LR) ao K;have a6:O=(D:LR)++(F:LR):=K.1;have ab:ao=List.length (α:=(el AG)) O:=K.2;conv=>cbv
 refine g2 rfl ?_;have G:B=O:=by rw[hB,a6,j,m];exact Ff h.red (H.mul h.tail f).mem aa.mem hy
 exact AN ⟨⟨rfl,.inr (.inl ⟨_,_,AE,rfl,rfl,ab,rfl,C3 (G) (by rw[ai,G])⟩),trivial⟩,t2,trivial⟩
theorem si (h:BC R u):Rr R u:=by
 induction u with
 | nil=>
  intro T A B zn s x y H m k O f M o j;obtain⟨p,rfl⟩:=Cy.1 k.mem;obtain⟨q,rfl⟩:=Cy.1 O;rw[Ds] at m o;rw[<-Re.ofRat_mul] at f;have e:=Re.Kk.1 f;exact iR H m o (by intro P;subst P;grind) (by grind) j
 | cons r u g=>
  intro T A B zn s x y H m k O f M o j;obtain⟨p,q,d,D,I⟩:=El.parts h.red k;have U:=Cz h.red;have Q:(0:Re)<1:=Re.IJ.2 (AE:(0:Rat)<1)
  by_cases G:q=0
  ·have L:p≠0:=by intro e;rw[e,G] at d;rw[d] at f;clear g;grind
   obtain⟨i,K,F⟩:=EU h.red.1 D.mem L
   have N:y=i:=by
    have:y=i*(x*y):=by
     have e2:x=p:=by rw[d,G];clear g;grind
     rw[e2];have:i*(p*y)=y*(p*i):=by clear g;grind
     rw[this,F];clear g;grind
    rw[f] at this;clear g;grind
   exact iT (y:=y) h (g h.tail) H m k d D I G K F M (N ▸ o) j
  have S:=El.norm h D.mem I.mem (d ▸ k);have J:p*p-q*q*AQ u r≠0:=aF h.red D.mem I.mem (by intro e;rw[<-d] at e;rw[e] at f;clear g;grind);obtain⟨i,K,z⟩:=EU h.red.1 S.mem J;refine iS h (g h.tail) H m k d D I G K z ?_ M o j
  have:y=x*y*((p-q*rt u r)*i):=by
   have:x*y*((p-q*rt u r)*i)=y*((p*p-q*q*AQ u r)*i):=by rw[d];clear g;grind
   rw[this,z];clear g;grind
  rw[f] at this
  clear g;grind
theorem Ot (h:BC R u) (j:T=tw u) (f:A=em u x) (m:El u s x) (o:In u y) (d:x*y=1) (k:II u.length R s<=60000000000000) (g:B=em u y):
 CF 92 [Ah T,AO A] (.Aj [(false,[Au B]),(false,[.int .i64 0])]):=Df (si h j f m o d k g rfl)
theorem iP (G:T=[]) (D:A=[rp 0]):CF 92 [Ah T,AO A] (.Aj [(false,[.sl AG (([]:LR))]),(false,[.int .i64 6])]):=by
 refine AM Tryz.func92 fun E I=>?_
 rintro H ⟨k,f13⟩;refine CN (fun h=>?_) fun h=>?_
 ·exact absurd (by rw[k,G];rfl) h
 have F:A.length=1:=by rw[D];rfl
 refine Ae 0 fun z g=>?_
 try conv=>cbv
 have f:=FW D g;rintro o ⟨m,f20⟩;conv=>cbv
 have d:o=((List.length (α:=UInt32) z.1.2:Nat):Int):=m;refine CN (fun j=>?_) fun j=>?_
 ·exact absurd (by rw[d,f.num.F1.2 rfl];rfl) j
 exact AN Ao
theorem iQ (h:BC R (r::u)) (ih:∀{T A},T=tw u->A=em u 0->CF 92 [Ah T,AO A] (.Aj [(false,[Au []]),(false,[.int .i64 6])])) (O:T=tw (r::u)) (J:A=em (r::u) 0):CF 92 [Ah T,AO A] (.Aj [(false,[.sl AG (([]:LR))]),(false,[.int .i64 6])]):=by
 have hx:El (r::u) 0 0:=El.rat h.red G9;have j:(0:Re)=0+0*rt u r:=by grind
 have aa:T.length=u.length+1:=by rw[O,CA];rfl
 have a8:A.length=2^u.length+2^u.length:=by rw[J,Bh hx.mem,Bz]
 refine AM Tryz.func92 fun E N=>?_
 rintro af ⟨a1,f13⟩;refine BS (fun F=>?_) fun F=>?_
 ·exact absurd F AA
 rintro ag ⟨a2,f28⟩ ah a6 ai ⟨a5,f32⟩ aj a7 ab U H Q K m ad D G W ⟨P,k⟩ L o;have f:L=em u 0:=by rw[o,(AA:G=A.length/2),k,D,List.take_length,J,CZ h.red (CO u) (CO u) j]
 refine AB N (Ie h.tail.red (CO u) f rfl) ?_;intro ae V I S M z;have d:K=tw u:=by rw[m,List.drop_zero,(AA:H=T.length-1),O,Dx]
 have g:M=em u 0:=by rw[z,List.drop_zero,(AA:I=A.length/2),J,Cv h.red (CO u) (CO u) j]
 refine AB N (ih d g) ?_;refine DJ ?_;exact AN Ao
theorem Wu:∀{u:AD} {R:Nat},BC R u->∀{T A},T=tw u->A=em u 0->CF 92 [Ah T,AO A] (.Aj [(false,[Au []]),(false,[.int .i64 6])])
 | [],R,h=>fun f d=>iP f (d.trans (Ds 0))
 | r::u,R,h=>fun f d=>iQ h (Wu h.tail) f d
def Wj (R:Nat) (u:AD):Prop:=∀{T:List LR} {A:LR} {s:Nat} {x:Re} {c:Int},T=tw u->A=em u x->El u s x->VV u.length R s<=60000000000000->c=Bg x->
 CF 75 [Ah T,AO A] (.one (.int .i64 c))
theorem jK {p:Rat} (o:T=[]) (j:A=[rp p]) (z:c=Dm p):CF 75 [Ah T,AO A] (AH c):=by
 refine AM Tryz.func75 fun E m=>?_
 rintro D ⟨h,f11⟩;refine CN (fun g=>?_) fun g=>?_
 ·exact absurd (by rw[h,o];rfl) g
 have k:A.length=1:=by rw[j];rfl
 refine Ae 0 fun G f=>?_
 try conv=>cbv
 obtain⟨F,d⟩:=xI (Dm p);refine AB m (On (FW j f) d) ?_;exact AL (z.trans d.symm)
theorem jL (h:BC R (r::u)) (ih:Wj R u) (L:T=tw (r::u)) (hA:A=em (r::u) x) (hx:El (r::u) s x) (hs:VV (r::u).length R s<=60000000000000) (hc:c=Bg x):CF 75 [Ah T,AO A] (AH c):=by
 obtain⟨p,q,g,V,W⟩:=El.parts h.red hx;have aD:T.length=u.length+1:=by rw[L,CA];rfl
 have aC:A.length=2^u.length+2^u.length:=by rw[hA,Bh hx.mem,Bz]
 have aF:VV (r::u).length R s=VV u.length R (2*s+2*EE u.length R+R+1):=rfl;have aG:=GO u.length R (2*s+2*EE u.length R+R+1);have aE:=IZ u.length R (s:=s) (t:=2*s+2*EE u.length R+R+1) AA;have hN:=El.norm h V.mem W.mem (g ▸ hx);have k:=cH h.red;have aa:=Cz h.red;refine AM Tryz.func75 fun E hE=>?_
 rintro aL ⟨av,f11⟩;refine BS (fun a1=>?_) fun a1=>?_
 ·exact absurd a1 AA
 rintro aM ⟨aw,f18⟩ aN az aO ⟨ax,f22⟩ aP aA aH an a5 ai ab N aQ ⟨ay,f27⟩ aR aB aI U a2 au ⟨ah,M⟩ ad O m32 ao a6 aj ae P;have D:ae=tw u:=by rw[P,List.drop_zero,(AA:a6=T.length-1),L,Dx]
 have o:ab=em u p:=by rw[N,List.drop_zero,(AA:a5=A.length/2),hA,Cv h.red V.mem W.mem g]
 obtain⟨aT,d⟩:=xI (Bg p);refine AB hE (ih D o V AA d) ?_;intro aJ aq a7 ak af Q;have F:af=tw u:=by rw[Q,List.drop_zero,(AA:a7=T.length-1),L,Dx]
 have z:ad=em u q:=by rw[O,(AA:a2=A.length/2),M,U,List.take_length,hA,CZ h.red V.mem W.mem g]
 obtain⟨aU,f⟩:=xI (Bg q);refine AB hE (ih F z W AA f) ?_;refine BS (fun H=>?_) fun H=>?_
 ·exact AL (by rw[hc,d,g];exact Qx k (.inl (K4.1 (f ▸ H))))
 refine BS (fun I=>?_) fun I=>?_
 ·exact AL (by rw[hc,d,g];exact Qx k (.inr (by rw[<-d,<-f];exact I)))
 refine BS (fun J=>?_) fun J=>?_
 ·exact AL (by rw[hc,f,g];exact dH k (K4.1 (d ▸ J)))
 intro aK ar a8 al ag S;have G:ag=tw u:=by rw[S,List.drop_zero,(AA:a8=T.length-1),L,Dx]
 obtain⟨aW,m⟩:=xR (em u (p*p-q*q*AQ u r));refine AB hE (Wx h L hA hx g V W AA m) ?_;obtain⟨aV,j⟩:=xI (Bg (p*p-q*q*AQ u r));refine AB hE (ih G m hN AA j) ?_;intro aS K;refine⟨fun _=>by rw[K,d,j];exact dA _ _,?_⟩;refine g2 rfl ?_;exact AL (by rw[hc,K,d,j,g];exact dG k aa (fun e=>J (by rw[d,e];exact G0)) (fun e=>H (by rw[f,e];exact G0)) (by rw[<-d,<-f];exact I))
theorem Vn (h:BC R u):Wj R u:=by
 induction u with
 | nil=>
  intro T A s x c f d j k g;obtain⟨p,rfl⟩:=Cy.1 j.mem;rw[Ds] at d;exact jK f d (g.trans (dC p))
 | cons r u m=>
  intro T A s x c f d j k g;exact jL h (m h.tail) f d j k g
end
section
variable {A:LR} {R s:Nat} {T:List LR} {c:Int} {u:AD} {x:Re}
theorem gj (h:BC R u) (g:T=tw u) (d:A=em u x) (m:El u s x) (k:VV u.length R s<=60000000000000) (j:c=Bg x):CF 28 [Ah T,AO A] (AH c):=by
 refine AM Tryz.func28 fun E f=>?_
 refine AB f (Vn h g d m k j) ?_;exact AN ⟨t2,trivial⟩
theorem iB (h:BC R u) (I:T=tw u) (hs:VV u.length R R<=60000000000000):CF 262 [Ah T] (.one (.bool true)):=by
 have a2:T.length=u.length:=by rw[I,CA]
 refine AM Tryz.func262 fun E S=>?_
 refine AB S (Wh h I) ?_;refine BM ?_;refine BI [] [0,3] [] (fun vs W k=>∃(i':Nat) (i:Int),vs=[Ah T,AH i]/\(AR i i'/\i'<=T.length)/\k=T.length-i') (T.length-0) ⟨0,0,rfl,⟨BD 0,AA⟩,rfl⟩ ?_;rintro J0 K vs W a7 ⟨i',i,rfl,⟨hi,a5⟩,a6⟩;have ei:=hi.eq;refine AW ?_;rintro n9 ⟨e9,f9⟩;refine BQ (fun M=>?_) fun M=>?_
 ·exact AN ⟨t2,trivial⟩
 refine .inr ?_;refine AK ?_;intro a8 V J U N m;refine Ae i' fun H F=>?_
 try conv=>cbv
 obtain⟨r,D,z⟩:=Kr (u:=u) (i:=i') AA;have o:Ag (r::pre u i'):=D ▸ (h.pre (i'+1)).red;have L:H=BF r:=by rw[<-I,F] at z;exact Option.some.inj z
 have g:H=em (pre u i') (AQ (pre u i') r):=L.trans (E1 o);have f:N=tw (pre u i'):=by rw[m,List.drop_zero,(AA:J=i'),I,Ix]
 obtain⟨Q,d⟩:=xI (Bg (AQ (pre u i') r));refine AB (r:= .one (.int .i64 Q)) S (Vn (h.pre i') f g (El.DL (D ▸ h.pre (i'+1))) (by rw[Ju AA];exact Nat.le_trans (M0 AA R R) hs) d) ?_;intro P j;cases P <;> conv=>cbv
 ·have G:=Ji j;refine AK ?_;intro O a1;exact BT K ⟨i'+1,O,rfl,⟨⟨AA⟩,AA⟩,rfl⟩
 have G:=Jj j;exact absurd (d.trans (HK o.2.2.1)) G
theorem HX (h:BC R u) (f:T=tw u) (j:A=em u x) (k:El u s x) (o:VV u.length R s<=60000000000000) (g:s<=60000000000000) (hR:VV u.length R R<=60000000000000) (m:c=Bg x):CF 206 [Ah T,AO A] (AH c):=by
 refine AM Tryz.func206 fun E d=>?_
 refine AB d (Oi h f j k g) ?_;refine BM ?_;refine AB d (iB h f hR) ?_;refine BM ?_;refine AB d (Vn h f j k o m) ?_;exact AN ⟨t2,trivial⟩
theorem iC {C:LR} {r:List Rat} {k:Int} (h:BC R (r::u)) (V:T=tw (r::u)) (hk:AR k u.length) (U:C=em (r::u) (rt u r)):CF 211 [Ah T,AH k] (AO C):=by
 have S:=hk.eq;have W:(r::u).length<=16:=h.ht;have a1:(r::u).length=u.length+1:=rfl;refine AM Tryz.func211 fun E K=>?_
 obtain⟨aa,ab,a7,a8,I⟩:=By (((0:Int):Rat));refine AB K (Ec AA rfl I) ?_;obtain⟨F,z⟩:=xR (em (r::u) (0));obtain⟨M,H⟩:=xN F.length;refine AB (r:= .one (.own AG F M)) K (WV h V I (by rw[show Re.ofRat ((0:Int):Rat)=0 from rfl];exact z) H) ?_;intro a6 J;have Q:=(FY (k:=u.length) J S).eq;obtain⟨m,o,g,j,f⟩:=By (((1:Int):Rat));refine AB K (Ec AA rfl f) ?_;have a2:F.length=2^u.length+2^u.length:=by rw[z,Bh (CO _),Bz]
 have a5:=DK u.length;have P:=Dh (n:=u.length);refine AK ?_;intro L O;refine⟨((m,o),(g,j)),fun _=>⟨by show _<List.length (α:=(el AG)) F;(first | omega | (simp;omega)),C5⟩,?_⟩;intro (D:LR) (d:D=List.set (α:=(el AG)) F L (((m,o),(g,j))));have N:D.length=F.length:=by rw[d,List.length_set]
 conv=>cbv
 refine g2 rfl ?_;have G:C=D:=by rw[U,Ya h.red,d,z];congr 1 <;> first | omega | exact f.rp
 exact AN ⟨⟨rfl,.inl ⟨_,rfl,AA,congrArg _ (by rw[G,List.drop_zero,List.take_of_length_le AA])⟩,trivial⟩,trivial⟩
end
section
def TQ (h R s:Nat):Nat:=3*s+4*EE h R+R+GG h R+3+II h R R
def SS:Nat->Nat->Nat->Nat
 | 0,_,s=>s
 | h+1,R,s=>max (VV (h+1) R s) (max (SS h R (TQ h R s)) (s+II h R (TQ h R s+GG h R)+2*EE h R+2))
theorem WO (h R:Nat) {s t:Nat} (d:s<=t):TQ h R s<=TQ h R t:=by unfold TQ;omega
theorem Oe:∀(h R:Nat) {s t:Nat},s<=t->SS h R s<=SS h R t
 | 0,_,_,_,d=>d
 | h+1,R,s,t,d=>by
  have f:=IZ (h+1) R d;have g:=Oe h R (WO h R d);have h3:=KG h R (Nat.add_le_add_right (WO h R d) (GG h R))
  show max _ (max _ _)<=max _ (max _ _)
  omega
theorem JG (h R s:Nat):VV (h+1) R s<=SS (h+1) R s:=by show _<=max _ (max _ _);omega
theorem WL (h R s:Nat):SS h R (TQ h R s)<=SS (h+1) R s:=by show _<=max _ (max _ _);omega
theorem KJ (h R s:Nat):s+II h R (TQ h R s+GG h R)+2*EE h R+2<=SS (h+1) R s:=by show _<=max _ (max _ _);omega
theorem WM (h R s:Nat):s<=SS h R s:=by
 cases h with
 | zero=>exact Nat.le_refl _
 | succ h=>exact Nat.le_trans (GO _ _ _) (JG h R s)
end
section
variable {A B l:LR} {R k0 s:Nat} {T:List LR} {i n p q t w x:Re} {r:List Rat} {u:AD}
theorem Ry {C:LR} (I:A.length<=1000000) (J:B.length<=1000000) (D:C=A++B):CF 264 [AO A,AO B] (AO C):=by
 refine AM Tryz.func264 fun E K=>?_
 refine⟨[],fun _=>⟨rfl,AE,rfl,trivial⟩,.inl ?_⟩;try conv=>cbv
 refine .inl ⟨A,fun _=>⟨rfl,rfl,rfl,B5 (0+A.length) 64⟩,?_⟩;intro (g:LR) G h;have f:g=([]:LR)++(A:LR):=h.1;have m:G=List.length (α:=(el AG)) g:=h.2;conv=>cbv
 have z:g.length=A.length:=by rw[f];simp
 refine .inl ⟨B,fun _=>⟨rfl,m,rfl,B5 (g.length+B.length) 64⟩,?_⟩;intro (o:LR) H j;have k:o=(g:LR)++(B:LR):=j.1;have F:H=List.length (α:=(el AG)) o:=j.2;conv=>cbv
 have d:C=o:=by rw[D,k,f];rfl
 exact AN ⟨⟨rfl,.inl ⟨_,rfl,AA,congrArg _ (by rw[d,List.drop_zero,List.take_of_length_le AA])⟩,trivial⟩,trivial⟩
def Ib (u:AD) (x:Re) (l:LR):Prop:=∀{T:List LR} {A:LR},T=tw u->A=em u x->
 CF 207 [Ah T,AO A] (.Aj [(false,[Au l]),(false,[.bool false])])
def Ic (u:AD) (x w:Re):Prop:=∀{T:List LR} {A B:LR},T=tw u->A=em u x->B=em u w->
 CF 207 [Ah T,AO A] (.Aj [(false,[Au B]),(false,[.bool true])])
theorem Jm {c:Int} (f:c=Bg x) (h:c<0) (d:0<=x):False:=by
 have:=(Jh (x:=x)).1 AA
 grind
theorem jF (h:BC R (r::u)) (o:T=tw (r::u)) (m:A=em (r::u) x) (D:El (r::u) s x) (P:x=p+q*rt u r) (U:El u s p) (V:El u s q) (W:SS (r::u).length R s<=60000000000000) (j:VV (r::u).length R R<=60000000000000) (g:x<0):CF 207 [Ah T,AO A] (.Aj [(false,[.sl AG (([]:LR))]),(false,[.bool false])]):=by
 have J:T.length=u.length+1:=by rw[o,CA];rfl
 have G:A.length=2^u.length+2^u.length:=by rw[m,Bh D.mem,Bz]
 have L:=El.DL h;have hR:=h.hR;have O:VV (r::u).length R s<=SS (r::u).length R s:=JG u.length R s;have N:s+II u.length R (TQ u.length R s+GG u.length R)+2*EE u.length R+2<=SS (r::u).length R s:=KJ u.length R s;have M:=GO (r::u).length R s;have K:=FE u.length R (TQ u.length R s+GG u.length R);have I:TQ u.length R s=3*s+4*EE u.length R+R+GG u.length R+3+II u.length R R:=rfl;have z:=Dh h.tail.ht;refine AM Tryz.func207 fun E H=>?_
 rintro Q ⟨F,f31⟩;refine BS (fun f=>?_) fun f=>?_
 ·exact absurd f AA
 obtain⟨S,d⟩:=xI (Bg x);refine AB H (HX h o m D AA AA j d) ?_;refine BQ (fun k=>?_) fun k=>?_
 ·exact absurd (Jh.2 g) AA
 exact AN Ao
theorem jG (h:BC R (r::u)) (P:T=tw (r::u)) (O:A=em (r::u) x) (hx:El (r::u) s x) (K:x=p+q*rt u r) (hp:El u s p) (hq:El u s q) (hs:SS (r::u).length R s<=60000000000000) (a1:VV (r::u).length R R<=60000000000000) (V:0<=x) (h0:q=0) (hw:In u w) (hy:Ic u p w) (hB:B=em (r::u) w):CF 207 [Ah T,AO A] (.Aj [(false,[Au B]),(false,[.bool true])]):=by
 have ay:T.length=u.length+1:=by rw[P,CA];rfl
 have aw:A.length=2^u.length+2^u.length:=by rw[O,Bh hx.mem,Bz]
 have aA:=El.DL h;have hR:=h.hR;have aD:VV (r::u).length R s<=SS (r::u).length R s:=JG u.length R s;have aC:s+II u.length R (TQ u.length R s+GG u.length R)+2*EE u.length R+2<=SS (r::u).length R s:=KJ u.length R s;have aB:=GO (r::u).length R s;have az:=FE u.length R (TQ u.length R s+GG u.length R);have ax:TQ u.length R s=3*s+4*EE u.length R+R+GG u.length R+3+II u.length R R:=rfl;have ah:=Dh h.tail.ht;refine AM Tryz.func207 fun E D=>?_
 rintro aH ⟨ao,f31⟩;refine BS (fun L=>?_) fun L=>?_
 ·exact absurd L AA
 obtain⟨aM,j⟩:=xI (Bg x);refine AB D (HX h P O hx AA AA a1 j) ?_;refine DF (fun M=>?_) fun M=>?_
 ·exact (Jm j M V).elim
 rintro aI ⟨aq,f48⟩ aJ au aE af S ad a5 G;refine Ae ((T.length-1)) fun aa k=>?_
 refine AK ?_;rintro aK ⟨ar,f58⟩ aL av aF ag U ae a6 H aG J Q an ⟨ab,F⟩ a7 I;have d:a5=tw u:=by rw[G,List.drop_zero,(AA:S=T.length-1),P,Dx]
 have a2:aa=em u (AQ u r):=by rw[P,F6] at k;exact (Option.some.inj k).symm.trans (E1 h.red)
 have o:a6=em u p:=by rw[H,List.drop_zero,(AA:U=A.length/2),O,Cv h.red hp.mem hq.mem K]
 have z:a7=em u q:=by rw[I,(AA:Q=A.length/2),F,J,List.take_length,O,CZ h.red hp.mem hq.mem K]
 obtain⟨ak,al,ai,aj,m⟩:=By (((0:Int):Rat));refine AB D (Ec AA rfl m) ?_;obtain⟨N,f⟩:=xR (em u (0));refine AB (r:= .one (Au N)) D (G7 h.tail d m (by rw[show Re.ofRat ((0:Int):Rat)=0 from rfl];exact f)) ?_;refine AB D (Ie h.tail.red hq.mem z h0) ?_;obtain⟨a8,g⟩:=xR (em u w);refine AB D (hy d o g) ?_;have W:B=a8++N:=by rw[hB,g,f];exact Ff h.red hw (CO u) (by grind)
 refine AB (r:= .one (Au B)) D (Ry (by rw[g,Bh hw];omega) (by rw[f,Bh (CO u)];omega) W) ?_;exact AN ⟨t2,t2,trivial⟩
theorem jH (h:BC R (r::u)) (W:T=tw (r::u)) (V:A=em (r::u) x) (hx:El (r::u) s x) (P:x=p+q*rt u r) (hp:El u s p) (hq:El u s q) (hs:SS (r::u).length R s<=60000000000000) (aa:VV (r::u).length R R<=60000000000000) (a6:0<=x) (h0:q=0) (hi:In u i) (N:AQ u r*i=1) (hn:Ib u p l) (hw:In u w) (hy:Ic u (p*i) w) (hB:B=em (r::u) (w*rt u r)):CF 207 [Ah T,AO A] (.Aj [(false,[Au B]),(false,[.bool true])]):=by
 have aE:T.length=u.length+1:=by rw[W,CA];rfl
 have aC:A.length=2^u.length+2^u.length:=by rw[V,Bh hx.mem,Bz]
 have O:=El.DL h;have hR:=h.hR;have aI:VV (r::u).length R s<=SS (r::u).length R s:=JG u.length R s;have aH:s+II u.length R (TQ u.length R s+GG u.length R)+2*EE u.length R+2<=SS (r::u).length R s:=KJ u.length R s;have aG:=GO (r::u).length R s;have aF:=FE u.length R (TQ u.length R s+GG u.length R);have aD:TQ u.length R s=3*s+4*EE u.length R+R+GG u.length R+3+II u.length R R:=rfl;have ao:=Dh h.tail.ht;have a8:=O.inv h.tail hi N;refine AM Tryz.func207 fun E k=>?_
 rintro aM ⟨ax,f31⟩;refine BS (fun Q=>?_) fun Q=>?_
 ·exact absurd Q AA
 obtain⟨aR,m⟩:=xI (Bg x);refine AB k (HX h W V hx AA AA aa m) ?_;refine DF (fun S=>?_) fun S=>?_
 ·exact (Jm m S a6).elim
 rintro aN ⟨ay,f48⟩ aO aA aJ al a2 aj ab J;refine Ae ((T.length-1)) fun ah D=>?_
 refine AK ?_;rintro aP ⟨az,f58⟩ aQ aB aK an a5 ak ad K aL M a1 aw ⟨ai,I⟩ ae L;have d:ab=tw u:=by rw[J,List.drop_zero,(AA:a2=T.length-1),W,Dx]
 have H:ah=em u (AQ u r):=by rw[W,F6] at D;exact (Option.some.inj D).symm.trans (E1 h.red)
 have f:ad=em u p:=by rw[K,List.drop_zero,(AA:a5=A.length/2),V,Cv h.red hp.mem hq.mem P]
 have G:ae=em u q:=by rw[L,(AA:a1=A.length/2),I,M,List.take_length,V,CZ h.red hp.mem hq.mem P]
 obtain⟨au,av,aq,ar,F⟩:=By (((0:Int):Rat));refine AB k (Ec AA rfl F) ?_;obtain⟨U,g⟩:=xR (em u (0));refine AB (r:= .one (Au U)) k (G7 h.tail d F (by rw[show Re.ofRat ((0:Int):Rat)=0 from rfl];exact g)) ?_;refine AB k (Ie h.tail.red hq.mem G h0) ?_;refine AB k (hn d f) ?_;obtain⟨af,o⟩:=xR (em u (i));refine AB (r:= .Aj [(false,[Au af]),(false,[.int .i64 0])]) k (Ot h.tail d H O hi N (by have:=KG u.length R (s:=R) (t:=TQ u.length R s+GG u.length R) AA;omega) o) ?_;obtain⟨aS,z⟩:=xR (em u (p*i));refine AB k (ER h.tail d f o hp a8 AA z) ?_;obtain⟨ag,j⟩:=xR (em u w);refine AB k (hy d z j) ?_;have a7:B=U++ag:=by rw[hB,j,g];exact Ff h.red (CO u) hw (by grind)
 refine AB (r:= .one (Au B)) k (Ry (by rw[g,Bh (CO u)];omega) (by rw[j,Bh hw];omega) a7) ?_;exact AN ⟨t2,t2,trivial⟩
theorem jI (h:BC R (r::u)) (U:T=tw (r::u)) (S:A=em (r::u) x) (hx:El (r::u) s x) (O:x=p+q*rt u r) (hp:El u s p) (hq:El u s q) (hs:SS (r::u).length R s<=60000000000000) (a7:VV (r::u).length R R<=60000000000000) (a2:0<=x) (h0:q=0) (hi:In u i) (L:AQ u r*i=1) (hn:Ib u p l) {l2:LR} (a6:Ib u (p*i) l2):CF 207 [Ah T,AO A] (.Aj [(false,[.sl AG (([]:LR))]),(false,[.bool false])]):=by
 have aC:T.length=u.length+1:=by rw[U,CA];rfl
 have aA:A.length=2^u.length+2^u.length:=by rw[S,Bh hx.mem,Bz]
 have M:=El.DL h;have hR:=h.hR;have aG:VV (r::u).length R s<=SS (r::u).length R s:=JG u.length R s;have aF:s+II u.length R (TQ u.length R s+GG u.length R)+2*EE u.length R+2<=SS (r::u).length R s:=KJ u.length R s;have aE:=GO (r::u).length R s;have aD:=FE u.length R (TQ u.length R s+GG u.length R);have aB:TQ u.length R s=3*s+4*EE u.length R+R+GG u.length R+3+II u.length R R:=rfl;have al:=Dh h.tail.ht;have a5:=M.inv h.tail hi L;refine AM Tryz.func207 fun E g=>?_
 rintro aK ⟨av,f31⟩;refine BS (fun P=>?_) fun P=>?_
 ·exact absurd P AA
 obtain⟨aP,j⟩:=xI (Bg x);refine AB g (HX h U S hx AA AA a7 j) ?_;refine DF (fun Q=>?_) fun Q=>?_
 ·exact (Jm j Q a2).elim
 rintro aL ⟨aw,f48⟩ aM ay aH aj W ah a8 H;refine Ae ((T.length-1)) fun af o=>?_
 refine AK ?_;rintro aN ⟨ax,f58⟩ aO az aI ak a1 ai aa I aJ K V au ⟨ag,G⟩ ab J;have d:a8=tw u:=by rw[H,List.drop_zero,(AA:W=T.length-1),U,Dx]
 have F:af=em u (AQ u r):=by rw[U,F6] at o;exact (Option.some.inj o).symm.trans (E1 h.red)
 have f:aa=em u p:=by rw[I,List.drop_zero,(AA:a1=A.length/2),S,Cv h.red hp.mem hq.mem O]
 have D:ab=em u q:=by rw[J,(AA:V=A.length/2),G,K,List.take_length,S,CZ h.red hp.mem hq.mem O]
 obtain⟨aq,ar,an,ao,z⟩:=By (((0:Int):Rat));refine AB g (Ec AA rfl z) ?_;obtain⟨ad,N⟩:=xR (em u (0));refine AB (r:= .one (Au ad)) g (G7 h.tail d z (by rw[show Re.ofRat ((0:Int):Rat)=0 from rfl];exact N)) ?_;refine AB g (Ie h.tail.red hq.mem D h0) ?_;refine AB g (hn d f) ?_;obtain⟨ae,k⟩:=xR (em u (i));refine AB (r:= .Aj [(false,[Au ae]),(false,[.int .i64 0])]) g (Ot h.tail d F M hi L (by have:=KG u.length R (s:=R) (t:=TQ u.length R s+GG u.length R) AA;omega) k) ?_;obtain⟨aQ,m⟩:=xR (em u (p*i));refine AB g (ER h.tail d f k hp a5 AA m) ?_;refine AB g (a6 d m) ?_;exact AN Ao
theorem jC (h:BC R (r::u)) (hT:T=tw (r::u)) (hA:A=em (r::u) x) (hx:El (r::u) s x) (S:x=p+q*rt u r) (J:El u s p) (D:El u s q) (hs:SS (r::u).length R s<=60000000000000) (a8:VV (r::u).length R R<=60000000000000) (a6:0<=x) (h0:q≠0) (hn:Ib u (p*p-q*q*AQ u r) l):CF 207 [Ah T,AO A] (.Aj [(false,[.sl AG (([]:LR))]),(false,[.bool false])]):=by
 have aF:T.length=u.length+1:=by rw[hT,CA];rfl
 have aD:A.length=2^u.length+2^u.length:=by rw[hA,Bh hx.mem,Bz]
 have P:=El.DL h;have hR:=h.hR;have aJ:VV (r::u).length R s<=SS (r::u).length R s:=JG u.length R s;have aI:s+II u.length R (TQ u.length R s+GG u.length R)+2*EE u.length R+2<=SS (r::u).length R s:=KJ u.length R s;have aH:=GO (r::u).length R s;have aG:=FE u.length R (TQ u.length R s+GG u.length R);have aE:TQ u.length R s=3*s+4*EE u.length R+R+GG u.length R+3+II u.length R R:=rfl;have al:=Dh h.tail.ht;refine AM Tryz.func207 fun E z=>?_
 rintro aN ⟨ay,f31⟩;refine BS (fun U=>?_) fun U=>?_
 ·exact absurd U AA
 obtain⟨aS,F⟩:=xI (Bg x);refine AB z (HX h hT hA hx AA AA a8 F) ?_;refine DF (fun V=>?_) fun V=>?_
 ·exact (Jm F V a6).elim
 rintro aO ⟨az,f48⟩ aP aB aK aj a2 ah aa L;refine Ae ((T.length-1)) fun af G=>?_
 refine AK ?_;rintro aQ ⟨aA,f58⟩ aR aC aL ak a5 ai ab M aM O a1 ax ⟨ag,K⟩ ad N;have d:aa=tw u:=by rw[L,List.drop_zero,(AA:a2=T.length-1),hT,Dx]
 have I:af=em u (AQ u r):=by rw[hT,F6] at G;exact (Option.some.inj G).symm.trans (E1 h.red)
 have g:ab=em u p:=by rw[M,List.drop_zero,(AA:a5=A.length/2),hA,Cv h.red J.mem D.mem S]
 have f:ad=em u q:=by rw[N,(AA:a1=A.length/2),K,O,List.take_length,hA,CZ h.red J.mem D.mem S]
 obtain⟨av,aw,ar,au,H⟩:=By (((0:Int):Rat));refine AB z (Ec AA rfl H) ?_;obtain⟨ae,Q⟩:=xR (em u (0));refine AB (r:= .one (Au ae)) z (G7 h.tail d H (by rw[show Re.ofRat ((0:Int):Rat)=0 from rfl];exact Q)) ?_;refine AB z (JJ h.tail.red D.mem f h0) ?_;obtain⟨an,j⟩:=xR (em u (p*p));refine AB z (ER h.tail d g g J J AA j) ?_;obtain⟨ao,k⟩:=xR (em u (q*q));refine AB z (ER h.tail d f f D D AA k) ?_;obtain⟨aq,m⟩:=xR (em u (AQ u r*(q*q)));refine AB z (ER h.tail d I k P (D.mul h.tail D) AA m) ?_;obtain⟨W,o⟩:=xR (em u (p*p-AQ u r*(q*q)));refine AB z (Ou h.tail j m (J.mul h.tail J) (P.mul h.tail (D.mul h.tail D)) AA AA o) ?_;have a7:W=em u (p*p-q*q*AQ u r):=by rw[o,show p*p-AQ u r*(q*q)=p*p-q*q*AQ u r by grind]
 refine AB z (hn d a7) ?_;refine DJ ?_;exact AN Ao
theorem jE (h:BC R (r::u)) (hT:T=tw (r::u)) (hA:A=em (r::u) x) (hx:El (r::u) s x) (a5:x=p+q*rt u r) (P:El u s p) (O:El u s q) (hs:SS (r::u).length R s<=60000000000000) (aG:VV (r::u).length R R<=60000000000000) (aA:0<=x) (h0:q≠0) (hn:In u n) (aD:n*n=p*p-q*q*AQ u r) (ht:t=Re.ofRat (1/2)) (aK:Ic u (p*p-q*q*AQ u r) n) {y:Nat->Re} (aH:y 0=p+n) (aI:y 1=p-n) (aJ:∀i,El u (s+(2*s+2*EE u.length R+R+1+GG u.length R)+1) (y i)) {L:Nat->LR} (hk:k0<=2) (aE:∀i,i<k0->Ib u (t*y i) (L i)) (W:k0=2):CF 207 [Ah T,AO A] (.Aj [(false,[.sl AG (([]:LR))]),(false,[.bool false])]):=by
 have bf:T.length=u.length+1:=by rw[hT,CA];rfl
 have bc:A.length=2^u.length+2^u.length:=by rw[hA,Bh hx.mem,Bz]
 have ag:=El.DL h;have hR:=h.hR;have bn:VV (r::u).length R s<=SS (r::u).length R s:=JG u.length R s;have bm:s+II u.length R (TQ u.length R s+GG u.length R)+2*EE u.length R+2<=SS (r::u).length R s:=KJ u.length R s;have bk:=GO (r::u).length R s;have bj:=FE u.length R (TQ u.length R s+GG u.length R);have bd:TQ u.length R s=3*s+4*EE u.length R+R+GG u.length R+3+II u.length R R:=rfl;have aX:=Dh h.tail.ht;have hN:=El.norm h P.mem O.mem (a5 ▸ hx);have af:=hN.sqrt h.tail hn aD;have aF:El u 1 t:=by rw[ht];exact El.rat h.red.1 NG
 refine AM Tryz.func207 fun E f=>?_
 rintro bs ⟨b7,f31⟩;refine BS (fun aj=>?_) fun aj=>?_
 ·exact absurd aj AA
 obtain⟨bz,Q⟩:=xI (Bg x);refine AB f (HX h hT hA hx AA AA aG Q) ?_;refine DF (fun ak=>?_) fun ak=>?_
 ·exact (Jm Q ak aA).elim
 rintro bt ⟨b8,f48⟩ bu ba bp aV ay aT al a8;refine Ae ((T.length-1)) fun aM S=>?_
 refine AK ?_;rintro bw ⟨b9,f58⟩ bx bb bq aW az aU an aa br ad ax b6 ⟨aS,a7⟩ ao ab;have d:al=tw u:=by rw[a8,List.drop_zero,(AA:ay=T.length-1),hT,Dx]
 have a2:aM=em u (AQ u r):=by rw[hT,F6] at S;exact (Option.some.inj S).symm.trans (E1 h.red)
 have g:an=em u p:=by rw[aa,List.drop_zero,(AA:az=A.length/2),hA,Cv h.red P.mem O.mem a5]
 have j:ao=em u q:=by rw[ab,(AA:ax=A.length/2),a7,ad,List.take_length,hA,CZ h.red P.mem O.mem a5]
 obtain⟨b4,b5,b2,b3,U⟩:=By (((0:Int):Rat));refine AB f (Ec AA rfl U) ?_;obtain⟨aL,ah⟩:=xR (em u (0));refine AB (r:= .one (Au aL)) f (G7 h.tail d U (by rw[show Re.ofRat ((0:Int):Rat)=0 from rfl];exact ah)) ?_;refine AB f (JJ h.tail.red O.mem j h0) ?_;obtain⟨aY,o⟩:=xR (em u (p*p));refine AB f (ER h.tail d g g P P AA o) ?_;obtain⟨aZ,z⟩:=xR (em u (q*q));refine AB f (ER h.tail d j j O O AA z) ?_;obtain⟨b0,D⟩:=xR (em u (AQ u r*(q*q)));refine AB f (ER h.tail d a2 z ag (O.mul h.tail O) AA D) ?_;obtain⟨ar,F⟩:=xR (em u (p*p-AQ u r*(q*q)));refine AB f (Ou h.tail o D (P.mul h.tail P) (ag.mul h.tail (O.mul h.tail O)) AA AA F) ?_;have aB:ar=em u (p*p-q*q*AQ u r):=by rw[F,show p*p-AQ u r*(q*q)=p*p-q*q*AQ u r by grind]
 obtain⟨au,G⟩:=xR (em u n);refine AB f (aK d aB G) ?_;refine BM ?_;obtain⟨aP,aQ,aN,aO,N⟩:=By ((1/2:Rat));refine AB f (Rq AA AA AE (by decide +kernel) N) ?_;obtain⟨V,H⟩:=xR (em u (t));refine AB (r:= .one (Au V)) f (G7 h.tail d N (H.trans (by rw[ht]))) ?_;refine BI [] [9,12,13,22,24,25] [] (fun vs bl k=>∃(k':Nat) (m:Re) (M:LR) (i:Int),vs=[Ah al,AO an,AO ao,AO M,AO V,AH i]/\(AR i k'/\k'<=2)/\(M=em u m/\m=if k'=1 then -n else n)/\k=2-k') (2-0) ⟨0,n,au,0,rfl,⟨BD 0,AA⟩,⟨G,rfl⟩,rfl⟩ ?_;rintro J0 a6 vs bl bo ⟨k',m,M,i,rfl,⟨hi,bg⟩,⟨hM,a1⟩,bh⟩;conv=>cbv
 have ei:=hi.eq;refine BQ (fun ai=>?_) fun ai=>?_
 ·exact AN Ao
 refine .inr ?_;have W:k'=0\/k'=1:=AA
 have ae:El u (2*s+2*EE u.length R+R+1+GG u.length R) m:=by rw[a1];split;exact af.neg h.red.1;exact af
 have aC:p+m=y k':=by rcases W with e | e <;> rw[e,a1,e] <;> first | (rw[aH];rfl) | (rw[aI];simp;grind)
 obtain⟨av,I⟩:=xR (em u (y k'));refine AB (r:= .one (Au av)) f (KM h.tail g hM P ae AA AA (I.trans (by rw[aC]))) ?_;obtain⟨b1,J⟩:=xR (em u (t*y k'));refine AB f (ER h.tail d H I aF (aJ k') AA J) ?_;refine AB f (aE k' AA d J) ?_;obtain⟨aw,K⟩:=xR (em u (-m));refine AB f (LL h.tail hM ae K) ?_;intro aq aR;exact BT a6 ⟨k'+1,-m,aw,aq,rfl,⟨⟨AA⟩,AA⟩,⟨K,by clear a6;rcases W with e | e <;> rw[a1,e] <;> first | rfl | (show- -n=n;grind)⟩,rfl⟩
theorem jD (h:BC R (r::u)) (hT:T=tw (r::u)) (hA:A=em (r::u) x) (hx:El (r::u) s x) (hxe:x=p+q*rt u r) (hp:El u s p) (hq:El u s q) (hs:SS (r::u).length R s<=60000000000000) (hvR:VV (r::u).length R R<=60000000000000) (h0x:0<=x) (h0:q≠0) (hn:In u n) (hnn:n*n=p*p-q*q*AQ u r) (ht:t=Re.ofRat (1/2)) (hyn:Ic u (p*p-q*q*AQ u r) n) {y:Nat->Re} (hy0:y 0=p+n) (hy1:y 1=p-n) (hyE:∀i,El u (s+(2*s+2*EE u.length R+R+1+GG u.length R)+1) (y i)) {L:Nat->LR} (hk:k0<=2) (hno:∀i,i<k0->Ib u (t*y i) (L i)) (hk1:k0<2) {j:Re} (hw:In u w) (hww:w*w=t*y k0) (hyw:Ic u (t*y k0) w) (hj:In u j) (hwj:w*j=1) (hB:B=em (r::u) (w+t*(q*j)*rt u r)):CF 207 [Ah T,AO A] (.Aj [(false,[Au B]),(false,[.bool true])]):=by
 have hTl:T.length=u.length+1:=by rw[hT,CA];rfl
 have hAl:A.length=2^u.length+2^u.length:=by rw[hA,Bh hx.mem,Bz]
 have hrr:=El.DL h;have hR:=h.hR;have hsv:VV (r::u).length R s<=SS (r::u).length R s:=JG u.length R s;have hsi:s+II u.length R (TQ u.length R s+GG u.length R)+2*EE u.length R+2<=SS (r::u).length R s:=KJ u.length R s;have hsg:=GO (r::u).length R s;have hmn:=FE u.length R (TQ u.length R s+GG u.length R);have hTQ:TQ u.length R s=3*s+4*EE u.length R+R+GG u.length R+3+II u.length R R:=rfl;have hp16:=Dh h.tail.ht;have hN:=El.norm h hp.mem hq.mem (hxe ▸ hx);have hnE:=hN.sqrt h.tail hn hnn;have htE:El u 1 t:=by rw[ht];exact El.rat h.red.1 NG
 have hhE:=htE.mul h.tail (hyE k0);have hwE:=hhE.sqrt h.tail hw hww;have hjE:=(hwE.mono (t:=TQ u.length R s+GG u.length R) AA).inv h.tail hj hwj;refine AM Tryz.func207 fun E hE=>?_
 rintro n31 ⟨e31,f31⟩;refine BS (fun k32=>?_) fun k32=>?_
 ·exact absurd k32 AA
 obtain⟨r45,hr45⟩:=xI (Bg x);refine AB hE (HX h hT hA hx AA AA hvR hr45) ?_;refine DF (fun k46=>?_) fun k46=>?_
 ·exact (Jm hr45 k46 h0x).elim
 rintro n48 ⟨e48,f48⟩ n49 h49 m52 hm52 b52 hb52 l52 hl52;refine Ae ((T.length-1)) fun x55 hx55=>?_
 refine AK ?_;rintro n58 ⟨e58,f58⟩ n59 h59 m62 hm62 b62 hb62 l62 hl62 m65 hm65 a65 b65 ⟨ha65,hb65⟩ l65 hl65;have hl52e:l52=tw u:=by rw[hl52,List.drop_zero,(AA:b52=T.length-1),hT,Dx]
 have hx55e:x55=em u (AQ u r):=by rw[hT,F6] at hx55;exact (Option.some.inj hx55).symm.trans (E1 h.red)
 have hl62e:l62=em u p:=by rw[hl62,List.drop_zero,(AA:b62=A.length/2),hA,Cv h.red hp.mem hq.mem hxe]
 have hl65e:l65=em u q:=by rw[hl65,(AA:a65=A.length/2),hb65,hm65,List.take_length,hA,CZ h.red hp.mem hq.mem hxe]
 obtain⟨zb67,zl67,yb67,yl67,hz67⟩:=By (((0:Int):Rat));refine AB hE (Ec AA rfl hz67) ?_;obtain⟨w68,hw68⟩:=xR (em u (0));refine AB (r:= .one (Au w68)) hE (G7 h.tail hl52e hz67 (by rw[show Re.ofRat ((0:Int):Rat)=0 from rfl];exact hw68)) ?_;refine AB hE (JJ h.tail.red hq.mem hl65e h0) ?_;obtain⟨w104,hw104⟩:=xR (em u (p*p));refine AB hE (ER h.tail hl52e hl62e hl62e hp hp AA hw104) ?_;obtain⟨w110,hw110⟩:=xR (em u (q*q));refine AB hE (ER h.tail hl52e hl65e hl65e hq hq AA hw110) ?_;obtain⟨w111,hw111⟩:=xR (em u (AQ u r*(q*q)));refine AB hE (ER h.tail hl52e hx55e hw110 hrr (hq.mul h.tail hq) AA hw111) ?_;obtain⟨w112,hw112⟩:=xR (em u (p*p-AQ u r*(q*q)));refine AB hE (Ou h.tail hw104 hw111 (hp.mul h.tail hp) (hrr.mul h.tail (hq.mul h.tail hq)) AA AA hw112) ?_;have hNe:w112=em u (p*p-q*q*AQ u r):=by rw[hw112,show p*p-AQ u r*(q*q)=p*p-q*q*AQ u r by grind]
 obtain⟨w117,hw117⟩:=xR (em u n);refine AB hE (hyn hl52e hNe hw117) ?_;refine BM ?_;obtain⟨zb122,zl122,yb122,yl122,hz122⟩:=By ((1/2:Rat));refine AB hE (Rq AA AA AE (by decide +kernel) hz122) ?_;obtain⟨w123,hw123⟩:=xR (em u (t));refine AB (r:= .one (Au w123)) hE (G7 h.tail hl52e hz122 (hw123.trans (by rw[ht]))) ?_;refine BI [] [9,12,13,22,24,25] [] (fun vs bl k=>∃(k':Nat) (m:Re) (M:LR) (i:Int),vs=[Ah l52,AO l62,AO l65,AO M,AO w123,AH i]/\(AR i k'/\k'<=k0)/\(M=em u m/\m=if k'=1 then -n else n)/\k=k0-k') (k0-0) ⟨0,n,w117,0,rfl,⟨BD 0,AA⟩,⟨hw117,rfl⟩,rfl⟩ ?_;rintro J0 hJ0 vs bl kk0 ⟨k',m,M,i,rfl,⟨hi,hik⟩,⟨hM,hmv⟩,hk0⟩;conv=>cbv
 have ei:=hi.eq;refine BQ (fun k125=>?_) fun k125=>?_
 ·exact absurd k125 AA
 refine .inr ?_;have hk2:k'=0\/k'=1:=AA
 have hmE:El u (2*s+2*EE u.length R+R+1+GG u.length R) m:=by rw[hmv];split;exact hnE.neg h.red.1;exact hnE
 have hmy:p+m=y k':=by rcases hk2 with e | e <;> rw[e,hmv,e] <;> first | (rw[hy0];rfl) | (rw[hy1];simp;grind)
 obtain⟨w135,hw135⟩:=xR (em u (y k'));refine AB (r:= .one (Au w135)) hE (KM h.tail hl62e hM hp hmE AA AA (hw135.trans (by rw[hmy]))) ?_;obtain⟨w136,hw136⟩:=xR (em u (t*y k'));refine AB hE (ER h.tail hl52e hw123 hw135 htE (hyE k') AA hw136) ?_
 obtain⟨wl,bb,hcall,hbt,hbf⟩:∃(wl:LR) (bb:Bool),CF 207 [Ah l52,AO w136] (.Aj [(false,[Au wl]),(false,[.bool bb])])/\(bb=true->k'=k0/\wl=em u w)/\(bb=false->k'<k0):=by
  by_cases e:k'<k0
  ·exact⟨L k',false,hno k' e hl52e hw136,fun e=>(Bool.false_ne_true e).elim,fun _=>e⟩
  have e2:k'=k0:=AA
  exact⟨em u w,true,hyw hl52e (hw136.trans (by rw[e2])) rfl,fun _=>⟨e2,rfl⟩,fun e=>(Bool.noConfusion e)⟩
 refine AB hE hcall ?_;cases bb <;> conv=>cbv
 ·have hkl:=hbf rfl;obtain⟨w158,hw158⟩:=xR (em u (-m));refine AB hE (LL h.tail hM hmE hw158) ?_;intro n127 h127;exact BT hJ0 ⟨k'+1,-m,w158,n127,rfl,⟨⟨AA⟩,AA⟩,⟨hw158,by clear hJ0;rcases hk2 with e | e <;> rw[hmv,e] <;> first | rfl | (show- -n=n;grind)⟩,rfl⟩
 obtain⟨hke,hwl⟩:=hbt rfl;subst hke;obtain⟨w144,hw144⟩:=xR (em u (j));refine AB hE (Ot h.tail hl52e hwl (hwE.mono (t:=TQ u.length R s+GG u.length R) AA) hj hwj AA hw144) ?_;obtain⟨w153,hw153⟩:=xR (em u (q*j));refine AB hE (ER h.tail hl52e hl65e hw144 hq hjE AA hw153) ?_;obtain⟨w154,hw154⟩:=xR (em u (t*(q*j)));refine AB hE (ER h.tail hl52e hw123 hw153 htE (hq.mul h.tail hjE) AA hw154) ?_;have htq:=htE.mul h.tail (hq.mul h.tail hjE);have hBj:B=wl++w154:=by rw[hB,hwl,hw154];exact Ff h.red hw htq.mem rfl
 refine AB (r:= .one (Au B)) hE (Ry (by rw[hwl,Bh hw];omega) (by rw[hw154,Bh htq.mem];omega) hBj) ?_;exact AN ⟨t2,t2,trivial⟩
end
end Go.Abs
