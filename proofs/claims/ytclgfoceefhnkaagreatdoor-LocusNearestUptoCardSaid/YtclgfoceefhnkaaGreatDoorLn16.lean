/- Part 17 of a proof. Conditions: each theorem's own. -/
import Derived.Shelf.Spec.SlicesGrow
import Derived.Test.YtclgfoceefhnkaaGreatDoorLn15
set_option linter.all false
set_option maxHeartbeats 80000000
set_option maxRecDepth 20000
open Go.Proofs
namespace Go.Abs
section
open Go.RowKit
variable {A B C X Y Z:LR} {R s t zn:Nat} {T:List LR} {a b p q x y:Re} {r:List Rat} {u:List (List Rat)}
theorem ID (h:AU u) (g:In u x) (f:X=em u x) (d:x=0):CF 204 [.one (.sl AA X)] (.one (.bool true)):=
 VP f (decide_eq_true ((MY h g).2 d)).symm
theorem Ix (h:AU u) (g:In u x) (f:X=em u x) (d:x≠0):CF 204 [.one (.sl AA X)] (.one (.bool false)):=
 VP f (decide_eq_false (fun k=>d ((MY h g).1 k))).symm
theorem VQ (h:BF R u) (j:X=em u x) (k:Y=em u y) (d:El u s x) (f:El u t y) (o:s<=60000000000000) (ht:t<=60000000000000) (m:Z=em u (x+y)) (g:zn=Z.length):
  CF 115 [.one (.sl (.sl AA) T),.one (.sl AA X),.one (.sl AA Y)] (.one (.own AA Z zn)):=
 dy j k (d.CT o) (f.CT ht) (by rw[d.len,f.len]) (by rw[d.len];exact JL h.ht) (by rw[m,XE h.red d.mem f.mem]) g
theorem Ji (h:BF R u) (d:X=em u x) (f:Y=em u y) (k:El u s x) (m:El u t y) (j:s<=60000000000000) (ht:t<=60000000000000) (g:Z=em u (x+y)):
 CF 115 [.one (.sl (.sl AA) T),.one (.sl AA X),.one (.sl AA Y)] (.one (.sl AA Z)):=DV (VQ h d f k m j ht g rfl)
theorem Kf (h:BF R u) (f:X=em u x) (d:El u s x) (g:Z=em u (-x)):
  CF 98 [.one (.sl (.sl AA) T),.one (.sl AA X)] (.one (.sl AA Z)):=
 eS f (by rw[d.len];exact JL h.ht) (by rw[g,XF h.red d.mem])
theorem OA (h:BF R u) (k:X=em u x) (m:Y=em u y) (z:El u s x) (j:El u t y) (v:s<=60000000000000) (ht:t<=60000000000000) (o:Z=em u (x-y)):CF 315 [.one (.sl (.sl AA) T),.one (.sl AA X),.one (.sl AA Y)] (.one (.sl AA Z)):=by
 refine AG Tryz.func315 fun E g=>?_
 obtain⟨D,d⟩:=xR (em u (-y));refine AB g (Kf h m j d) ?_;obtain⟨F,f⟩:=xR (em u (x+ -y));refine AB g (Ji h k d z (j.neg h.red) v ht f) ?_;exact AF (by rw[o,f,show x-y=x+ -y by grind])
theorem fS {p q:Rat} (K:T=[]) (D:A=[rp p]) (F:B=[rp q]) (N:CR p) (ht:CR q) (G:C=[rp (p*q)]) (z:zn=C.length):CF 105 [.one (.sl (.sl AA) T),.one (.sl AA A),.one (.sl AA B)] (.one (.own AA C zn)):=by
 refine AG Tryz.func105 fun E J=>?_
 rintro O ⟨v,f14⟩;refine CH (fun h=>?_) fun h=>?_
 ·exact absurd (by rw[v,K];rfl) h
 have H:A.length=1:=by rw[D];rfl
 have I:B.length=1:=by rw[F];rfl
 refine AW 0 fun P f=>?_
 try conv=>cbv
 refine AW 0 fun Q g=>?_
 try conv=>cbv
 have L:=E7 D f;have M:=E7 F g;obtain⟨m,o,j,k,d⟩:=CA (p*q);refine AB J (VG L M N ht rfl d) ?_;refine⟨[((m,o),(j,k))],fun _=>⟨rfl,by decide,rfl,⟨rfl,by first | exact t1 | exact t2 | exact t4 | simp[BR,BV,cells],trivial⟩⟩,.inl ?_⟩;try conv=>cbv
 refine g2 rfl ?_;exact AE ⟨⟨rfl,.inr (.inl ⟨_,_,by decide,rfl,rfl,rfl,rfl,Dm (by rw[G,d.rp]) (by rw[z,G];rfl)⟩),trivial⟩,trivial⟩
def ME (R:Nat) (u:List (List Rat)):Prop:=∀{T:List LR} {A B C:LR} {zn s t:Nat} {x y:Re},T=tw u->A=em u x->B=em u y->El u s x->El u t y->s+t+EE u.length R<=60000000000000->C=em u (x*y)->zn=C.length->
 CF 105 [.one (.sl (.sl AA) T),.one (.sl AA A),.one (.sl AA B)] (.one (.own AA C zn))
theorem fW (h:BF R (r::u)) (ih:ME R u) (hT:T=tw (r::u)) (hA:A=em (r::u) x) (hB:B=em (r::u) y) (hx:El (r::u) s x) (hy:El (r::u) t y) (aU:s+t+EE (r::u).length R<=60000000000000) (I:x=p+q*rt u r) (hp:El u s p) (hq:El u s q) (J:y=a+b*rt u r) (ha:El u t a) (hb:El u t b) (h0:q=0) (h1:b=0) (hC:C=em (r::u) (x*y)) (ad:zn=C.length):CF 105 [.one (.sl (.sl AA) T),.one (.sl AA A),.one (.sl AA B)] (.one (.own AA C zn)):=by
 have aQ:EE (r::u).length R=2*EE u.length R+R+2:=rfl;have aS:=El.Cz h;have hR:=h.hR;have aT:=Cu h.red;have aR:T.length=u.length+1:=by rw[hT,CG];rfl
 have aO:A.length=2^u.length+2^u.length:=by rw[hA,Bn hx.mem,B8]
 have aP:B.length=2^u.length+2^u.length:=by rw[hB,Bn hy.mem,B8]
 refine AG Tryz.func105 fun E L=>?_
 rintro b0 ⟨aH,f14⟩;refine BO (fun a5=>?_) fun a5=>?_
 ·exact absurd a5 (by omega)
 rintro b1 ⟨aI,f25⟩ b2 aL b3 ⟨aJ,f29⟩ b4 aM aV av a8 an ae O b5 ⟨aK,f34⟩ b6 aN;refine AW ((T.length-1)) fun b7 az=>?_
 refine AK ?_;rintro aW W a6 aF ⟨ak,M⟩ af P;have D:af=em u q:=by rw[P,show a6=A.length/2 by omega,M,W,List.take_length,hA,Ca h.red hp.mem hq.mem I]
 refine AB L (ID h.tail.red hq.mem D h0) ?_;rintro aX a1 a7 aG ⟨al,N⟩ ag Q;have F:ag=em u b:=by rw[Q,show a7=B.length/2 by omega,N,a1,List.take_length,hB,Ca h.red ha.mem hb.mem J]
 refine AB L (ID h.tail.red hb.mem F h1) ?_;intro aY aw aa ao ah S aZ ax ab aq ai U;have d:ae=tw u:=by rw[O,List.drop_zero,show a8=T.length-1 by omega,hT,Dn]
 have G:ah=em u p:=by rw[S,List.drop_zero,show aa=A.length/2 by omega,hA,Cs h.red hp.mem hq.mem I]
 have H:ai=em u a:=by rw[U,List.drop_zero,show ab=B.length/2 by omega,hB,Cs h.red ha.mem hb.mem J]
 obtain⟨m,f⟩:=xR (em u (p*a));obtain⟨aA,g⟩:=xN m.length;refine AB L (ih d G H hp ha (by omega) f g) ?_;obtain⟨aD,aE,aB,aC,v⟩:=CA (((0:Int):Rat));refine AB L (EN (by omega) rfl v) ?_;obtain⟨k,j⟩:=xR (em u (0));refine AB (r:= .one (.sl AA k)) L (Gp h.tail d v (by rw[show Re.ofRat ((0:Int):Rat)=0 from rfl];exact j)) ?_;have ar:m.length=2^u.length:=by rw[f,Bn (hp.mul h.tail ha).mem]
 have ay:=DX h.tail.ht;have au:k.length=2^u.length:=by rw[j,Bn (CN u)]
 refine .inl ⟨k,fun _=>⟨rfl,g,rfl,by show (m.length+k.length)*64<=140737488355328;(try simp only[List.length_take,List.length_drop]);omega⟩,?_⟩;intro (K:LR) aj z;have V:K=(m:LR)++(k:LR):=z.1;have a2:aj=List.length (α:=(el AA)) K:=z.2;conv=>cbv
 have o:C=K:=by rw[hC,V,f,j];exact FC h.red (hp.mul h.tail ha).mem (CN u) (by rw[I,J,h0,h1];clear ih;grind)
 exact AE ⟨⟨rfl,.inr (.inl ⟨_,_,by decide,rfl,rfl,a2,rfl,Dm (o) (by rw[ad,o])⟩),trivial⟩,trivial⟩
theorem fV (h:BF R (r::u)) (ih:ME R u) (hT:T=tw (r::u)) (hA:A=em (r::u) x) (hB:B=em (r::u) y) (hx:El (r::u) s x) (hy:El (r::u) t y) (b3:s+t+EE (r::u).length R<=60000000000000) (m:x=p+q*rt u r) (k:El u s p) (hq:El u s q) (o:y=a+b*rt u r) (ha:El u t a) (hb:El u t b) (h0:q=0) (h1:b≠0) (hC:C=em (r::u) (x*y)) (ak:zn=C.length):CF 105 [.one (.sl (.sl AA) T),.one (.sl AA A),.one (.sl AA B)] (.one (.own AA C zn)):=by
 have aZ:EE (r::u).length R=2*EE u.length R+R+2:=rfl;have b1:=El.Cz h;have hR:=h.hR;have b2:=Cu h.red;have b0:T.length=u.length+1:=by rw[hT,CG];rfl
 have aX:A.length=2^u.length+2^u.length:=by rw[hA,Bn hx.mem,B8]
 have aY:B.length=2^u.length+2^u.length:=by rw[hB,Bn hy.mem,B8]
 refine AG Tryz.func105 fun E hE=>?_
 rintro bb ⟨aQ,f14⟩;refine BO (fun ab=>?_) fun ab=>?_
 ·exact absurd ab (by omega)
 rintro bc ⟨aR,f25⟩ bd aU bf ⟨aS,f29⟩ bg aV b4 aG ag aA al Q bh ⟨aT,f34⟩ bj aW;refine AW ((T.length-1)) fun bk aL=>?_
 refine AK ?_;rintro b5 a6 ad aN ⟨ax,N⟩ an S;have G:an=em u q:=by rw[S,show ad=A.length/2 by omega,N,a6,List.take_length,hA,Ca h.red k.mem hq.mem m]
 refine AB hE (ID h.tail.red hq.mem G h0) ?_;rintro b6 a7 ae aO ⟨ay,O⟩ ao U;have H:ao=em u b:=by rw[U,show ae=B.length/2 by omega,O,a7,List.take_length,hB,Ca h.red ha.mem hb.mem o]
 refine AB hE (Ix h.tail.red hb.mem H h1) ?_;intro b7 aH ah aB aq V b8 aI ai aC ar W;have d:al=tw u:=by rw[Q,List.drop_zero,show ag=T.length-1 by omega,hT,Dn]
 have I:aq=em u p:=by rw[V,List.drop_zero,show ah=A.length/2 by omega,hA,Cs h.red k.mem hq.mem m]
 have J:ar=em u a:=by rw[W,List.drop_zero,show ai=B.length/2 by omega,hB,Cs h.red ha.mem hb.mem o]
 obtain⟨v,f⟩:=xR (em u (p*a));obtain⟨aM,g⟩:=xN v.length;refine AB hE (ih d I J k ha (by omega) f g) ?_;rintro b9 aJ aj aD au a1 ba a8 af aP ⟨az,P⟩ av a2;have K:au=em u p:=by rw[a1,List.drop_zero,show aj=A.length/2 by omega,hA,Cs h.red k.mem hq.mem m]
 have L:av=em u b:=by rw[a2,show af=B.length/2 by omega,P,a8,List.take_length,hB,Ca h.red ha.mem hb.mem o]
 obtain⟨z,j⟩:=xR (em u (p*b));refine AB hE (DV (ih d K L k hb (by omega) j rfl)) ?_;have aE:v.length=2^u.length:=by rw[f,Bn (k.mul h.tail ha).mem]
 have aK:=DX h.tail.ht;have aF:z.length=2^u.length:=by rw[j,Bn (k.mul h.tail hb).mem]
 refine .inl ⟨z,fun _=>⟨rfl,g,rfl,by show (v.length+z.length)*64<=140737488355328;(try simp only[List.length_take,List.length_drop]);omega⟩,?_⟩;intro (M:LR) aw F;have a5:M=(v:LR)++(z:LR):=F.1;have aa:aw=List.length (α:=(el AA)) M:=F.2;conv=>cbv
 refine g2 rfl ?_;have D:C=M:=by rw[hC,a5,f,j];exact FC h.red (k.mul h.tail ha).mem (k.mul h.tail hb).mem (by rw[m,o,h0];clear ih;grind)
 exact AE ⟨⟨rfl,.inr (.inl ⟨_,_,by decide,rfl,rfl,aa,rfl,Dm (D) (by rw[ak,D])⟩),trivial⟩,trivial⟩
theorem fU (h:BF R (r::u)) (ih:ME R u) (hT:T=tw (r::u)) (hA:A=em (r::u) x) (hB:B=em (r::u) y) (hx:El (r::u) s x) (hy:El (r::u) t y) (b4:s+t+EE (r::u).length R<=60000000000000) (k:x=p+q*rt u r) (N:El u s p) (L:El u s q) (m:y=a+b*rt u r) (ha:El u t a) (hb:El u t b) (h0:q≠0) (h1:b=0) (hC:C=em (r::u) (x*y)) (al:zn=C.length):CF 105 [.one (.sl (.sl AA) T),.one (.sl AA A),.one (.sl AA B)] (.one (.own AA C zn)):=by
 have b0:EE (r::u).length R=2*EE u.length R+R+2:=rfl;have b2:=El.Cz h;have hR:=h.hR;have b3:=Cu h.red;have b1:T.length=u.length+1:=by rw[hT,CG];rfl
 have aY:A.length=2^u.length+2^u.length:=by rw[hA,Bn hx.mem,B8]
 have aZ:B.length=2^u.length+2^u.length:=by rw[hB,Bn hy.mem,B8]
 refine AG Tryz.func105 fun E hE=>?_
 rintro bc ⟨aR,f14⟩;refine BO (fun ad=>?_) fun ad=>?_
 ·exact absurd ad (by omega)
 rintro bd ⟨aS,f25⟩ bf aV bg ⟨aT,f29⟩ bh aW b5 aH ah aB an S bj ⟨aU,f34⟩ bk aX;refine AW ((T.length-1)) fun bl aM=>?_
 refine AK ?_;rintro b6 a7 ae aO ⟨ay,O⟩ ao U;have F:ao=em u q:=by rw[U,show ae=A.length/2 by omega,O,a7,List.take_length,hA,Ca h.red N.mem L.mem k]
 refine AB hE (Ix h.tail.red L.mem F h0) ?_;rintro b7 a8 af aP ⟨az,P⟩ aq V;have G:aq=em u b:=by rw[V,show af=B.length/2 by omega,P,a8,List.take_length,hB,Ca h.red ha.mem hb.mem m]
 refine AB hE (ID h.tail.red hb.mem G h1) ?_;intro b8 aI ai aC ar W b9 aJ aj aD au a1;have d:an=tw u:=by rw[S,List.drop_zero,show ah=T.length-1 by omega,hT,Dn]
 have H:ar=em u p:=by rw[W,List.drop_zero,show ai=A.length/2 by omega,hA,Cs h.red N.mem L.mem k]
 have I:au=em u a:=by rw[a1,List.drop_zero,show aj=B.length/2 by omega,hB,Cs h.red ha.mem hb.mem m]
 obtain⟨o,f⟩:=xR (em u (p*a));obtain⟨aN,g⟩:=xN o.length;refine AB hE (ih d H I N ha (by omega) f g) ?_;rintro ba aa ag aQ ⟨aA,Q⟩ av a2 bb aK ak aE aw a5;have J:av=em u q:=by rw[a2,show ag=A.length/2 by omega,Q,aa,List.take_length,hA,Ca h.red N.mem L.mem k]
 have K:aw=em u a:=by rw[a5,List.drop_zero,show ak=B.length/2 by omega,hB,Cs h.red ha.mem hb.mem m]
 obtain⟨v,j⟩:=xR (em u (q*a));refine AB hE (DV (ih d J K L ha (by omega) j rfl)) ?_;have aF:o.length=2^u.length:=by rw[f,Bn (N.mul h.tail ha).mem]
 have aL:=DX h.tail.ht;have aG:v.length=2^u.length:=by rw[j,Bn (L.mul h.tail ha).mem]
 refine .inl ⟨v,fun _=>⟨rfl,g,rfl,by show (o.length+v.length)*64<=140737488355328;(try simp only[List.length_take,List.length_drop]);omega⟩,?_⟩;intro (M:LR) ax D;have a6:M=(o:LR)++(v:LR):=D.1;have ab:ax=List.length (α:=(el AA)) M:=D.2;conv=>cbv
 refine g2 rfl ?_;have z:C=M:=by rw[hC,a6,f,j];exact FC h.red (N.mul h.tail ha).mem (L.mul h.tail ha).mem (by rw[k,m,h1];clear ih;grind)
 exact AE ⟨⟨rfl,.inr (.inl ⟨_,_,by decide,rfl,rfl,ab,rfl,Dm (z) (by rw[al,z])⟩),trivial⟩,trivial⟩
theorem fT (h:BF R (r::u)) (ih:ME R u) (hT:T=tw (r::u)) (hA:A=em (r::u) x) (hB:B=em (r::u) y) (hx:El (r::u) s x) (hy:El (r::u) t y) (bQ:s+t+EE (r::u).length R<=60000000000000) (m:x=p+q*rt u r) (k:El u s p) (f:El u s q) (o:y=a+b*rt u r) (ha:El u t a) (hb:El u t b) (h0:q≠0) (h1:b≠0) (hC:C=em (r::u) (x*y)) (b2:zn=C.length):CF 105 [.one (.sl (.sl AA) T),.one (.sl AA A),.one (.sl AA B)] (.one (.own AA C zn)):=by
 have bN:EE (r::u).length R=2*EE u.length R+R+2:=rfl;have N:=El.Cz h;have hR:=h.hR;have bP:=Cu h.red;have bO:T.length=u.length+1:=by rw[hT,CG];rfl
 have bL:A.length=2^u.length+2^u.length:=by rw[hA,Bn hx.mem,B8]
 have bM:B.length=2^u.length+2^u.length:=by rw[hB,Bn hy.mem,B8]
 refine AG Tryz.func105 fun E I=>?_
 rintro bY ⟨bE,f14⟩;refine BO (fun aI=>?_) fun aI=>?_
 ·exact absurd aI (by omega)
 rintro bZ ⟨bF,f25⟩ c0 bI c1 ⟨bG,f29⟩ c2 bJ bR bn aS bj b3 ax c3 ⟨bH,f34⟩ c4 bK;refine AW ((T.length-1)) fun ba V=>?_
 refine AK ?_;rintro bS aE aO bA ⟨bd,ar⟩ b4 ay;have aa:b4=em u q:=by rw[ay,show aO=A.length/2 by omega,ar,aE,List.take_length,hA,Ca h.red k.mem f.mem m]
 refine AB I (Ix h.tail.red f.mem aa h0) ?_;rintro bT aF aP bB ⟨bf,au⟩ b5 az;have ab:b5=em u b:=by rw[az,show aP=B.length/2 by omega,au,aF,List.take_length,hB,Ca h.red ha.mem hb.mem o]
 refine AB I (Ix h.tail.red hb.mem ab h1) ?_;intro bU bo aT bk b6 aA bV bp aU bl b7 aB;have d:b3=tw u:=by rw[ax,List.drop_zero,show aS=T.length-1 by omega,hT,Dn]
 have ad:b6=em u p:=by rw[aA,List.drop_zero,show aT=A.length/2 by omega,hA,Cs h.red k.mem f.mem m]
 have ae:b7=em u a:=by rw[aB,List.drop_zero,show aU=B.length/2 by omega,hB,Cs h.red ha.mem hb.mem o]
 obtain⟨c5,Q⟩:=xR (em u (p*a));refine AB I (DV (ih d ad ae k ha (by omega) Q rfl)) ?_;rintro bW aG aQ bC ⟨bg,av⟩ b8 aC bX aH aR bD ⟨bh,aw⟩ b9 aD;have af:b8=em u q:=by rw[aC,show aQ=A.length/2 by omega,av,aG,List.take_length,hA,Ca h.red k.mem f.mem m]
 have ag:b9=em u b:=by rw[aD,show aR=B.length/2 by omega,aw,aH,List.take_length,hB,Ca h.red ha.mem hb.mem o]
 obtain⟨c6,S⟩:=xR (em u (q*b));refine AB I (DV (ih d af ag f hb (by omega) S rfl)) ?_;have ak:ba=em u (AM u r):=by rw[hT,FW] at V;exact (Option.some.inj V).symm.trans (Ea h.red)
 obtain⟨c7,U⟩:=xR (em u (q*b*AM u r));refine AB I (DV (ih d S ak (f.mul h.tail hb) N (by omega) U rfl)) ?_;obtain⟨O,D⟩:=xR (em u (p*a+q*b*AM u r));obtain⟨bz,F⟩:=xN O.length;refine AB I (VQ h.tail Q U (k.mul h.tail ha) ((f.mul h.tail hb).mul h.tail N) (by omega) (by omega) D F) ?_;rintro br b0 ao aX aJ a2 bs ah al bb ⟨aV,W⟩ aK a5;have J:aJ=em u p:=by rw[a2,List.drop_zero,show ao=A.length/2 by omega,hA,Cs h.red k.mem f.mem m]
 have K:aK=em u b:=by rw[a5,show al=B.length/2 by omega,W,ah,List.take_length,hB,Ca h.red ha.mem hb.mem o]
 obtain⟨bw,v⟩:=xR (em u (p*b));refine AB I (DV (ih d J K k hb (by omega) v rfl)) ?_;rintro bt ai an bc ⟨aW,a1⟩ aL a6 bu b1 aq aY aM a7;have L:aL=em u q:=by rw[a6,show an=A.length/2 by omega,a1,ai,List.take_length,hA,Ca h.red k.mem f.mem m]
 have M:aM=em u a:=by rw[a7,List.drop_zero,show aq=B.length/2 by omega,hB,Cs h.red ha.mem hb.mem o]
 obtain⟨bx,z⟩:=xR (em u (q*a));refine AB I (DV (ih d L M f ha (by omega) z rfl)) ?_;obtain⟨j,g⟩:=xR (em u (p*b+q*a));refine AB I (Ji h.tail v z (k.mul h.tail hb) (f.mul h.tail ha) (by omega) (by omega) g) ?_;have bm:O.length=2^u.length:=by rw[D,Bn (DR (k.mul h.tail ha).mem ((f.mul h.tail hb).mul h.tail N).mem)]
 have aZ:j.length=2^u.length:=by rw[g,Bn (DR (k.mul h.tail hb).mem (f.mul h.tail ha).mem)]
 have bq:=DX h.tail.ht;refine .inl ⟨j,fun _=>⟨rfl,F,rfl,by show (O.length+j.length)*64<=140737488355328;(try simp only[List.length_take,List.length_drop]);omega⟩,?_⟩;intro (G:LR) aN H;have a8:G=(O:LR)++(j:LR):=H.1;have aj:aN=List.length (α:=(el AA)) G:=H.2;conv=>cbv
 refine g2 rfl ?_;have P:C=G:=by rw[hC,a8,D,g];exact FC h.red (DR (k.mul h.tail ha).mem ((f.mul h.tail hb).mul h.tail N).mem) (DR (k.mul h.tail hb).mem (f.mul h.tail ha).mem) (by rw[m,o];clear ih;grind)
 exact AE ⟨⟨rfl,.inr (.inl ⟨_,_,by decide,rfl,rfl,aj,rfl,Dm (P) (by rw[b2,P])⟩),trivial⟩,trivial⟩
theorem cQ (h:BF R u):ME R u:=by
 induction u with
 | nil=>
  intro T A B C zn s t x y G o v k m f z d;obtain⟨p,rfl⟩:=Ct.1 k.mem;obtain⟨q,rfl⟩:=Ct.1 m.mem;rw[EB] at o v;rw[<-Re.ofRat_mul,EB] at z;have D:=k.CT (by omega);have F:=m.CT (by omega);rw[Dg] at D F;exact fS G o v (D _ List.mem_cons_self) (F _ List.mem_cons_self) z d
 | cons r u J=>
  intro T A B C zn s t x y G o v k m f z d;obtain⟨p,q,g,D,F⟩:=El.parts h.red k;obtain⟨a,b,j,ha,hb⟩:=El.parts h.red m
  by_cases I:q=0
  ·by_cases H:b=0
   ·exact fW h (J h.tail) G o v k m f g D F j ha hb I H z d
   exact fV h (J h.tail) G o v k m f g D F j ha hb I H z d
  by_cases H:b=0
  ·exact fU h (J h.tail) G o v k m f g D F j ha hb I H z d
  exact fT h (J h.tail) G o v k m f g D F j ha hb I H z d
theorem D9 (h:BF R u) (k:T=tw u) (f:A=em u x) (g:B=em u y) (m:El u s x) (o:El u t y) (d:s+t+EE u.length R<=60000000000000) (j:C=em u (x*y)):
 CF 105 [.one (.sl (.sl AA) T),.one (.sl AA A),.one (.sl AA B)] (.one (.sl AA C)):=DV (cQ h k f g m o d j rfl)
end
section
open Go.RowKit Go.Shelf Go.Proofs
def O6:Ren:=⟨fun k=>if k=4 then 395 else 0,fun k=>if k=3 then 3 else if k=4 then 4 else if k=9 then 9 else if k=20 then 20 else if k=22 then 26 else if k=25 then 79 else 0,fun k=>k⟩
theorem js:Lays8.n4 Tryz.prog O6 where
 mixed:=YV
 f4:=⟨Tryz.f395.name,by kernel_rfl,by kernel_rfl⟩
 t0:=by kernel_rfl
 a0:=by intro w;kernel_rfl
 z0:=by intro w;kernel_rfl
 v0:=by intro w;kernel_rfl
 t3:=by kernel_rfl
 a3:=by intro w;kernel_rfl
 z3:=by intro w;kernel_rfl
 v3:=by intro w;kernel_rfl
 t4:=by kernel_rfl
 a4:=by intro w;kernel_rfl
 z4:=by intro w;kernel_rfl
 v4:=by intro w;kernel_rfl
 t9:=by kernel_rfl
 a9:=by intro w;kernel_rfl
 z9:=by intro w;kernel_rfl
 v9:=by intro w;kernel_rfl
 t20:=by kernel_rfl
 a20:=by intro w;kernel_rfl
 z20:=by intro w;kernel_rfl
 v20:=by intro w;kernel_rfl
 t22:=by kernel_rfl
 a22:=by intro w;kernel_rfl
 z22:=by intro w;kernel_rfl
 v22:=by intro w;kernel_rfl
theorem dG {n:Int} {k:Nat} (N:AO n k) (M:0<k) (S:k<=1000000:=by omega):CF 395 [.one .nil,.one (.int .i64 n)] (.one (.own AA [] 0)):=by
 refine .mk ⟨_,_,Tryz.func395,by kernel_rfl,rfl⟩ ⟨rfl,rfl⟩ fun w I vs Q g=>?_
 match vs,g with
 | [v1,v2],.cons F (.cons H _)=>
  have e1:v1= .slice none 0 0:=by rcases F with h | h;cases h;exact h
  have D:v2= .int .i64 k:=by rcases H with h | h;cases h;rw[<-N.eq];exact h
  subst e1;subst D;obtain⟨_,i0,z,f,O,hb,_,j,v⟩:=(bL 26).sl rfl
  have m:z.cells.size=4:=by
   have:=(v (JG w I)).length;rw[Jo] at this;have e:(TI 26).elem.size=4:=rfl;rw[e] at this;simpa using this.symm
  have d:i0.bytes=64:=hb;have P:i0.size=4:=O;have J:=Any8.slices_Grow_grow js i0 z f j (by omega) none 0 0 k [] w (by omega) (by omega) (by rw[d];omega) (by omega) (by simp) (fun _=>rfl) (fun a h=>by cases h);refine J.mono fun e w' ⟨he,hw⟩=>?_
  have K:=grownCap_ge w (0+k) 0 (O6.t 25);have hle:=grownCap_le_maxLen w (0+k) 0 (O6.t 25) (by unfold maxLen;omega)
  generalize grownCap w (0+k) 0 (O6.t 25)=G at*
  subst hw
  have L:∀o:Obj,(w.drew.alloc o).heap[w.heap.size]? =some o:=fun o=>by
   show (w.heap.push o)[w.heap.size]? =_
   rw[Array.getElem?_push,if_pos rfl]
  refine⟨_,some w.heap.size,he,((Below.refl _ _).drew).alloc (Nat.le_refl _) _,.inr ⟨rfl,_,_,rfl,Nat.zero_le _,hle,Nat.zero_le _,.inr ⟨_,_,_,rfl,Nat.le_refl _,rfl,L _,?_,fun i y h=>by simp at h⟩⟩⟩
  show G*4<=_
  simp[size_zeroCells,m];omega
end
section
open Go.RowKit
variable {Z x:LR} {zn:Nat}
theorem XT {X:List LR} {i:Nat} (h:X[i]? =some x):(X.take (i+1)).flatten=(X.take i).flatten++x:=by
 rw[DO h,List.flatten_append];simp
theorem XS {X:List LR} {i m:Nat} (h:X[i]? =some x) (hm:m=(X.take i).flatten.length):m+x.length=(X.take (i+1)).flatten.length:=by
 rw[XT h,List.length_append,hm]
theorem XR (X:List LR) (i:Nat):(X.take i).flatten.length<=X.flatten.length:=by
 conv=>rhs;rw[<-List.take_append_drop i X,List.flatten_append,List.length_append]
 omega
theorem UZ {X:LR} (D:X.length<=1000000) (g:zn=X.length):CF 293 [.one (.sl AA X)] (.one (.own AA X zn)):=by
 refine AG Tryz.func293 fun E z=>?_
 intro n4 o;refine⟨fun m=>?_,?_⟩
 ·conv=>cbv
  have d:X=[]:=by rw[o] at m;simpa using m
  exact AE ⟨⟨rfl,.inr (.inr ⟨_,Dm (d) (by rw[g,d];rfl)⟩),trivial⟩,trivial⟩
 refine⟨[],fun _=>⟨rfl,by decide,rfl,trivial⟩,.inl ?_⟩;try conv=>cbv
 refine .inl ⟨X,fun _=>⟨rfl,by (first | rfl | omega),rfl,by show (0+X.length)*64<=140737488355328;(try simp only[List.length_take,List.length_drop]);omega⟩,?_⟩;intro (k:LR) v h;have f:k=([]:LR)++(X:LR):=h.1;have j:v=List.length (α:=(el AA)) k:=h.2;conv=>cbv
 exact AE ⟨⟨rfl,.inr (.inl ⟨_,_,by decide,rfl,rfl,by rw[j],rfl,Dm (by rw[f];simp) (by rw[g,f];simp)⟩),trivial⟩,trivial⟩
theorem UY {X:LR} (d:X.length<=1000000):CF 293 [.one (.sl AA X)] (.one (.sl AA X)):=DV (UZ d rfl)
theorem ch {X:List LR} (h0:0<X.flatten.length) (hX:X.flatten.length<=1000000) (hZ:Z=X.flatten) (W:zn=Z.length):CF 375 [.one (.sl (.sl AA) X)] (.one (.own AA Z zn)):=by
 refine AG Tryz.func375 fun E hE=>?_
 intro a5 h;have ae:=h.eq;have f10:=h.le;refine BN [] [0,3,9,10,11] [] (fun vs O k=>∃(i' m':Nat) (m L i:Int),vs=[.one (.sl (.sl AA) X),.one (.int .i64 m),.one (.sl (.sl AA) X),.one (.int .i64 L),.one (.int .i64 i)]/\(DP L X.length/\AO i i'/\i'<=X.length/\AO m m')/\m'=(X.take i').flatten.length/\k=X.length-i') (X.length-0) ⟨0,0,0,a5,0,rfl,⟨h,BD 0,by omega,BD 0⟩,rfl,rfl⟩ ?_;rintro J0 P vs O ao ⟨i',m',m,L,i,rfl,⟨F,U,V,hm⟩,hinv,al⟩;conv=>cbv
 have eL:=F.eq;have ei:=U.eq;have em:=hm.eq;refine Cw (fun a1=>?_) fun a1=>?_
 ·refine .inr ?_;refine AW i' fun ad K=>?_
  refine AS ?_;rintro ar ⟨af,f17⟩;have G:=XS K hinv;have S:=XR X (i'+1);refine AK ?_;intro a6 ah a7 D;refine .inr ?_;cases a7 <;> conv=>cbv
  ·have M:=Dw D;refine AK ?_;intro a8 ai;exact Ba P ⟨i'+1,m'+ad.length,a6,L,a8,rfl,⟨F,⟨by omega⟩,by omega,⟨by omega⟩⟩,G,rfl⟩
  have M:=Dx D;exact absurd M (by omega)
 have ak:m'=X.flatten.length:=by rw[hinv,show i'=X.length by omega,List.take_length]
 refine AB hE (dG hm (by omega)) ?_;intro aa j;have ag:=j.eq;have f26:=j.le;refine BN [] [6,25,26,27] [24] (fun vs O k=>∃(i' mm:Nat) (o:LR) (L i:Int),vs=[.one (.AZ AA 24 0 0 mm),.one (.sl (.sl AA) X),.one (.int .i64 L),.one (.int .i64 i)]/\O=[.arr 0 AA o]/\(DP L X.length/\AO i i'/\i'<=X.length/\mm=o.length)/\o=(X.take i').flatten/\k=X.length-i') (X.length-0) ⟨0,0,[],aa,0,rfl,rfl,⟨j,BD 0,by omega,rfl⟩,rfl,rfl⟩ ?_;rintro J1 Q vs O aq ⟨i',mm,o,L,i,rfl,rfl,⟨F,U,V,I⟩,hinv,an⟩;conv=>cbv
 have eL:=F.eq;have ei:=U.eq;refine BW (fun a2=>?_) fun a2=>?_
 ·have d:Z=o:=by rw[hZ,hinv,show i'=X.length by omega,List.take_length]
  exact AE ⟨⟨rfl,.inr (.inl ⟨_,_,by decide,rfl,rfl,I,rfl,Dm (d) (by rw[W,d])⟩),trivial⟩,trivial⟩
 refine .inr ?_;refine AW i' fun z f=>?_
 try conv=>cbv
 have G:=XS f (congrArg _ hinv);have S:=XR X (i'+1);refine .inl ⟨z,fun _=>⟨rfl,I,rfl,by show (o.length+z.length)*64<=140737488355328;(try simp only[List.length_take,List.length_drop]);omega⟩,?_⟩;intro (v:LR) N g;have H:v=(o:LR)++(z:LR):=g.1;have J:N=List.length (α:=(el AA)) v:=g.2;refine AK ?_;intro ab aj;exact Ba Q ⟨i'+1,N,v,L,ab,rfl,rfl,⟨F,⟨by omega⟩,by omega,by rw[J]⟩,by rw[H,hinv,XT f],rfl⟩
theorem Oe {A B:LR} (f:0<A.length) (g:A.length+B.length<=1000000) (d:Z=A++B):CF 375 [.one (.sl (.sl AA) [A,B])] (.one (.sl AA Z)):=
 DV (ch (X:=[A,B]) (by simp;omega) (by simp;omega) (by simp[d]) rfl)
end
section
open Go.RowKit
def U7 (f:FuncId) (R:Nat) (u:List (List Rat)):Prop:=∀{T:List LR} {A:LR} {s:Nat} {x:Re} {c:Int},T=tw u->A=em u x->El u s x->VV u.length R s<=60000000000000->c=Bm x->
 CF f [.one (.sl (.sl AA) T),.one (.sl AA A)] (.one (.int .i64 c))
variable {A:LR} {R s:Nat} {T:List LR} {c:Int} {u:List (List Rat)} {x:Re}
theorem pk {p:Rat} (o:T=[]) (j:A=[rp p]) (v:c=D1 p):CF 255 [.one (.sl (.sl AA) T),.one (.sl AA A)] (.one (.int .i64 c)):=by
 refine AG Tryz.func255 fun E m=>?_
 rintro z ⟨h,f14⟩;refine CH (fun g=>?_) fun g=>?_
 ·exact absurd (by rw[h,o];rfl) g
 have k:A.length=1:=by rw[j];rfl
 refine AW 0 fun F f=>?_
 try conv=>cbv
 obtain⟨D,d⟩:=xI (D1 p);refine AB m (Ny (E7 j f) d) ?_;exact AF (v.trans d.symm)
theorem pn {r:List Rat} (h:BF R (r::u)) (ih:U7 255 R u) (hT:T=tw (r::u)) (hA:A=em (r::u) x) (hx:El (r::u) s x) (hs:VV (r::u).length R s<=60000000000000) (hc:c=Bm x):CF 255 [.one (.sl (.sl AA) T),.one (.sl AA A)] (.one (.int .i64 c)):=by
 obtain⟨p,q,m,D,v⟩:=El.parts h.red hx;have ax:T.length=u.length+1:=by rw[hT,CG];rfl
 have aw:A.length=2^u.length+2^u.length:=by rw[hA,Bn hx.mem,B8]
 have az:VV (r::u).length R s=VV u.length R (2*s+2*EE u.length R+R+1):=rfl;have aA:=Fw u.length R (2*s+2*EE u.length R+R+1);have ay:=H9 u.length R (s:=s) (t:=2*s+2*EE u.length R+R+1) (by omega);have hN:=El.norm h D.mem v.mem (m ▸ hx);have W:=El.Cz h;have z:=Zx h.red;have aa:=Cu h.red;refine AG Tryz.func255 fun E J=>?_
 rintro aE ⟨ao,f14⟩;refine BO (fun a2=>?_) fun a2=>?_
 ·exact absurd a2 (by omega)
 rintro aF ⟨aq,f21⟩ a5 au aH ⟨ar,f24⟩ aI av aB ak a7 ai ab Q aC al a8 aj ad S aD V a6 an ⟨ah,P⟩ ae U;have d:ab=tw u:=by rw[Q,List.drop_zero,show a7=T.length-1 by omega,hT,Dn]
 have j:ad=em u p:=by rw[S,List.drop_zero,show a8=A.length/2 by omega,hA,Cs h.red D.mem v.mem m]
 have k:ae=em u q:=by rw[U,show a6=A.length/2 by omega,P,V,List.take_length,hA,Ca h.red D.mem v.mem m]
 obtain⟨aK,f⟩:=xI (Bm p);refine AB J (ih d j D (by omega) f) ?_;obtain⟨aL,g⟩:=xI (Bm q);refine AB J (ih d k v (by omega) g) ?_;refine .inr ?_;refine BO (fun L=>?_) fun L=>?_
 ·exact AF (by rw[hc,f,m];exact Px z (.inl (Gh.1 (g ▸ L))))
 refine BO (fun M=>?_) fun M=>?_
 ·exact AF (by rw[hc,f,m];exact Px z (.inr (by rw[<-f,<-g];exact M)))
 refine BO (fun N=>?_) fun N=>?_
 ·exact AF (by rw[hc,g,m];exact aN z (Gh.1 (f ▸ N)))
 obtain⟨aO,F⟩:=xR (em u (p*p));refine AB J (HZ h.tail d j j D D (by omega) F) ?_;refine AW ((a5).toNat) fun ag a1=>?_
 try conv=>cbv
 have K:ag=BI r:=by have:=FW r u;rw[<-hT,show T.length-1=a5.toNat by omega,a1] at this;exact Option.some.inj this
 obtain⟨aP,G⟩:=xR (em u (q*q));refine AB J (HZ h.tail d k k v v (by omega) G) ?_;obtain⟨aQ,H⟩:=xR (em u (AM u r*(q*q)));refine AB J (HZ h.tail d (K.trans (Ea h.red)) G W (v.mul h.tail v) (by omega) H) ?_;obtain⟨aR,I⟩:=xR (em u (p*p-AM u r*(q*q)));refine AB J (N0 h.tail d F H (D.mul h.tail D) (W.mul h.tail (v.mul h.tail v)) (by omega) (by omega) I) ?_;obtain⟨af,o⟩:=xI (Bm (p*p-q*q*AM u r));refine AB (r:= .one (.int .i64 af)) J (ih d (I.trans (by congr 1;clear ih;grind)) hN (by omega) o) ?_;intro aJ O;refine⟨fun _=>by rw[O,f,o];exact aG _ _,?_⟩;exact AF (by rw[hc,O,f,o,m];exact aM z aa (fun e=>N (by rw[f,e];exact GK)) (fun e=>L (by rw[g,e];exact GK)) (by rw[<-f,<-g];exact M))
theorem bf (h:BF R u):U7 255 R u:=by
 induction u with
 | nil=>
  intro T A s x c f d j k g;obtain⟨p,rfl⟩:=Ct.1 j.mem;rw[EB] at d;exact pk f d (g.trans (aI p))
 | cons r u m=>
  intro T A s x c f d j k g;exact pn h (m h.tail) f d j k g
theorem dd (h:BF R u) (j:T=tw u) (hs:VV u.length R R<=60000000000000):CF 310 [.one (.sl (.sl AA) T)] (.one (.bool true)):=by
 have a7:T.length=u.length:=by rw[j,CG]
 have F:El u 0 0:=El.rat h.red GO;refine AG Tryz.func310 fun E J=>?_
 obtain⟨ag,ah,ae,af,H⟩:=CA (((0:Int):Rat));refine AB J (Hb (by omega) rfl H) ?_;obtain⟨w8,D⟩:=xR (em u (0));refine AB J (Jc h j H ⟨by decide +kernel,by decide +kernel⟩ D) ?_;refine AB (r:= .one (.bool true)) J (H5 j h.Gk D (F.CT (by omega)) (by rw[F.len,List.length_reverse];exact (decide_eq_true rfl).symm)) ?_;refine BH ?_;intro Q f;have a5:=f.eq;have f12:=f.le;refine BN [] [0,11,12,13] [] (fun vs bl k=>∃(i':Nat) (L i:Int),vs=[.one (.sl (.sl AA) T),.one (.sl (.sl AA) T),.one (.int .i64 L),.one (.int .i64 i)]/\(DP L T.length/\AO i i'/\i'<=T.length)/\k=T.length-i') (T.length-0) ⟨0,Q,0,rfl,⟨f,BD 0,by omega⟩,rfl⟩ ?_;rintro J0 M vs bl ab ⟨i',L,i,rfl,⟨W,hi,a8⟩,aa⟩;conv=>cbv
 have eL:=W.eq;have ei:=hi.eq;refine BW (fun O=>?_) fun O=>?_
 ·exact AE ⟨t2,trivial⟩
 refine .inr ?_;refine AW i' fun V G=>?_
 try conv=>cbv
 obtain⟨r,z,v⟩:=KI (u:=u) (i:=i') (by omega);have o:AU (r::pre u i'):=z ▸ (h.pre (i'+1)).red;have N:V=BI r:=by rw[<-j,G] at v;exact Option.some.inj v
 refine AK ?_;intro ad a2 K a1 P m;have g:P=tw (pre u i'):=by rw[m,List.drop_zero,show K=i' by omega,j,Ie]
 obtain⟨U,d⟩:=xI (Bm (AM (pre u i') r));refine AB (r:= .one (.int .i64 U)) J (bf (h.pre i') g (N.trans (Ea o)) (El.Cz (z ▸ h.pre (i'+1))) (by rw[JM (by omega)];exact Nat.le_trans (MB (by omega) R R) hs) d) ?_;refine cK (fun I=>?_) fun I=>?_
 ·exact absurd I (by rw[d,G1 o.2.2.1];omega)
 intro S a6;exact Ba M ⟨i'+1,L,S,rfl,⟨W,⟨by omega⟩,by omega⟩,rfl⟩
theorem jo {L:List LR} (h:BF R u) (G:T=tw u) (P:VV u.length R R<=60000000000000) (K:∀l∈L,∃x,l=em u x/\El u s x) (j:s<=60000000000000:=by omega):CF 254 [.one (.sl (.sl AA) T),.one (.sl (.sl AA) L)] (.one (.bool true)):=by
 refine AG Tryz.func254 fun E F=>?_
 intro S f;have V:=f.eq;have f8:=f.le;refine BN [] [0,7,8,9] [] (fun vs I k=>∃(i':Nat) (m i:Int),vs=[.one (.sl (.sl AA) T),.one (.sl (.sl AA) L),.one (.int .i64 m),.one (.int .i64 i)]/\(DP m L.length/\AO i i'/\i'<=L.length)/\k=L.length-i') (L.length-0) ⟨0,S,0,rfl,⟨f,BD 0,by omega⟩,rfl⟩ ?_;rintro U g vs I Q ⟨i',m,i,rfl,⟨hm,M,N⟩,O⟩;conv=>cbv
 have em:=hm.eq;have W:=M.eq;refine BW (fun v=>?_) fun v=>?_
 ·refine AB F (dd h G P) ?_;exact AE ⟨t2,trivial⟩
 refine .inr ?_;refine AW i' fun D d=>?_
 try conv=>cbv
 obtain⟨x,o,H⟩:=K D (List.mem_of_getElem? d);refine AB (r:= .one (.bool true)) F (H5 G h.Gk o (H.CT j) (by rw[H.len,List.length_reverse];exact (decide_eq_true rfl).symm)) ?_;refine BH ?_;intro z J;exact Ba g ⟨i'+1,m,z,rfl,⟨hm,⟨by omega⟩,by omega⟩,rfl⟩
theorem L8 (h:BF R u) (g:T=tw u) (d:A=em u x) (j:El u s x) (v:VV u.length R s<=60000000000000) (hR:VV u.length R R<=60000000000000) (k:c=Bm x):CF 166 [.one (.sl (.sl AA) T),.one (.sl AA A)] (.one (.int .i64 c)):=by
 have m:=Fw u.length R s;refine AG Tryz.func166 fun E f=>?_
 refine⟨[A],fun _=>⟨rfl,by decide,rfl,⟨rfl,by first | exact t1 | exact t2 | exact t4 | simp[BR,BV,cells],trivial⟩⟩,.inr ?_⟩;try conv=>cbv
 refine AB f (jo h g hR (fun l o=>⟨x,(List.mem_singleton.1 o).trans d,j⟩)) ?_;refine BH ?_;refine AB f (bf h g d j v k) ?_;exact AE ⟨t2,trivial⟩
end
section
open Go.RowKit
variable {A B l:LR} {R k0 s:Nat} {T:List LR} {i n p q t w x:Re} {r:List Rat} {u:List (List Rat)}
theorem Xi {C:LR} {y:Re} (h:BF R u) (k:T=tw u) (m:A=em u y) (z:El u s y) (ht:t=Re.ofRat (1/2)) (v:s+1+EE u.length R<=60000000000000) (o:C=em u (t*y)):CF 377 [.one (.sl (.sl AA) T),.one (.sl AA A)] (.one (.sl AA C)):=by
 refine AG Tryz.func377 fun E g=>?_
 obtain⟨H,I,F,G,f⟩:=CA (1/2:Rat);refine AB g (dF (by omega) (by omega) (by omega) (by decide +kernel) f) ?_;obtain⟨D,d⟩:=xR (em u (t));refine AB (r:= .one (.sl AA D)) g (Jc h k f ⟨by decide +kernel,by decide +kernel⟩ (d.trans (by rw[ht]))) ?_;have j:El u 1 t:=ht ▸ El.rat h.red MM;refine AB (r:= .one (.sl AA C)) g (HZ h k m d z j v (by rw[o];congr 1;grind)) ?_;exact AE ⟨t2,trivial⟩
theorem ox {q r:Rat} (H:T=[]) (v:A=[rp q]) (F:B=[rp r]) (K:CR q) (z:0<=r) (J:r*r=q):CF 343 [.one (.sl (.sl AA) T),.one (.sl AA A)] (.AI [(false,[.sl AA B]),(false,[.bool true])]):=by
 refine AG Tryz.func343 fun E G=>?_
 rintro L ⟨o,f27⟩;refine CH (fun g=>?_) fun g=>?_
 ·exact absurd (by rw[o,H];rfl) g
 have D:A.length=1:=by rw[v];rfl
 refine AW 0 fun M f=>?_
 try conv=>cbv
 have I:=E7 v f;obtain⟨k,m,h,j,d⟩:=CA r;refine AB G (dc I K z J d) ?_;refine⟨[((k,m),(h,j))],fun _=>⟨rfl,by decide,rfl,⟨rfl,by first | exact t1 | exact t2 | exact t4 | simp[BR,BV,cells],trivial⟩⟩,.inl ?_⟩;try conv=>cbv
 exact AE ⟨⟨rfl,.inl ⟨_,rfl,by simp,congrArg _ (by rw[F,d.rp];rfl)⟩,trivial⟩,t2,trivial⟩
theorem ow {q:Rat} (o:T=[]) (h:A=[rp q]) (k:B=[(((false,[]),(false,[])):el AA)]) (D:CR q) (z:¬∃r:Rat,0<=r/\r*r=q):CF 343 [.one (.sl (.sl AA) T),.one (.sl AA A)] (.AI [(false,[.sl AA B]),(false,[.bool false])]):=by
 refine AG Tryz.func343 fun E m=>?_
 rintro F ⟨g,f27⟩;refine CH (fun f=>?_) fun f=>?_
 ·exact absurd (by rw[g,o];rfl) f
 have j:A.length=1:=by rw[h];rfl
 refine AW 0 fun G d=>?_
 try conv=>cbv
 have v:=E7 h d;refine AB m (db v D z) ?_;refine⟨[((false,[]),(false,[]))],fun _=>⟨rfl,by decide,rfl,⟨rfl,by first | exact t1 | exact t2 | exact t4 | simp[BR,BV,cells],trivial⟩⟩,.inl ?_⟩;try conv=>cbv
 exact AE ⟨⟨rfl,.inl ⟨_,rfl,by simp,congrArg _ (by rw[k];rfl)⟩,trivial⟩,t2,trivial⟩
def He (f:FuncId) (u:List (List Rat)) (x w:Re):Prop:=∀{T:List LR} {A B:LR},T=tw u->A=em u x->B=em u w->CF f [.one (.sl (.sl AA) T),.one (.sl AA A)] (.AI [(false,[.sl AA B]),(false,[.bool true])])
def Hd (f:FuncId) (u:List (List Rat)) (x:Re) (l:LR):Prop:=∀{T:List LR} {A:LR},T=tw u->A=em u x->CF f [.one (.sl (.sl AA) T),.one (.sl AA A)] (.AI [(false,[.sl AA l]),(false,[.bool false])])
def Uz (f:FuncId) (R:Nat) (u:List (List Rat)):Prop:=∀{s:Nat} {x:Re},El u s x->QQ u.length R s<=60000000000000->(∃w,In u w/\w*w=x/\He f u x w)\/(¬Sq u x/\∃l,l.length<=2^u.length/\Hd f u x l)
theorem o7 (h:BF R (r::u)) (S:T=tw (r::u)) (Q:A=em (r::u) x) (hx:El (r::u) s x) (I:x=p+q*rt u r) (hp:El u s p) (U:El u s q) (hs:QQ (r::u).length R s<=60000000000000) (h0:q=0) (hw:In u w) (hy:He 343 u p w) (hB:B=em (r::u) w):CF 343 [.one (.sl (.sl AA) T),.one (.sl AA A)] (.AI [(false,[.sl AA B]),(false,[.bool true])]):=by
 have aA:T.length=u.length+1:=by rw[S,CG];rfl
 have az:A.length=2^u.length+2^u.length:=by rw[Q,Bn hx.mem,B8]
 have aF:=El.Cz h;have aG:=Cu h.red;have ag:=DX h.tail.ht;have aC:=DI u.length;have V:El u 0 0:=El.rat h.red.1 GO;have aD:QQ (r::u).length R s=max (QQ u.length R (3*s+3*EE u.length R+R+GG u.length R+3+II u.length R R)) (s+II u.length R (2*(3*s+3*EE u.length R+R+GG u.length R+3+II u.length R R+GG u.length R)+1)+EE u.length R):=rfl;have aE:=H6 u.length R (3*s+3*EE u.length R+R+GG u.length R+3+II u.length R R);have aB:=Ek u.length R (2*(3*s+3*EE u.length R+R+GG u.length R+3+II u.length R R+GG u.length R)+1);refine AG Tryz.func343 fun E o=>?_
 rintro aK ⟨an,f27⟩;refine BO (fun J=>?_) fun J=>?_
 ·exact absurd J (by omega)
 rintro aL ⟨ao,f41⟩ aM av aH ae O a8 a1 z aN ⟨aq,f46⟩ K aw;refine AW ((K).toNat) fun a6 H=>?_
 refine AK ?_;rintro aO ⟨ar,f52⟩ Dj ax aI af P aa a2 D aP ⟨au,f57⟩ aQ ay aJ G N al ⟨a7,v⟩ a5 F;have d:a1=tw u:=by rw[z,List.drop_zero,show O=T.length-1 by omega,S,Dn]
 have W:a6=BI r:=by have:=FW r u;rw[<-S,show T.length-1=K.toNat by omega,H] at this;exact Option.some.inj this
 have k:a2=em u p:=by rw[D,List.drop_zero,show P=A.length/2 by omega,Q,Cs h.red hp.mem U.mem I]
 have m:a5=em u q:=by rw[F,show N=A.length/2 by omega,v,G,List.take_length,Q,Ca h.red hp.mem U.mem I]
 refine AB o (Jk h.red.1 U.mem m h0) ?_;obtain⟨L,f⟩:=xR (em u w);refine AB o (hy d k f) ?_;obtain⟨aj,ak,ah,ai,j⟩:=CA (((0:Int):Rat));refine AB o (Hb (by omega) rfl j) ?_;obtain⟨M,g⟩:=xR (em u (0));refine AB o (Jc h.tail d j ⟨by decide +kernel,by decide +kernel⟩ g) ?_;refine⟨[L,M],fun _=>⟨rfl,by decide,rfl,⟨rfl,by first | exact t1 | exact t2 | exact t4 | simp[BR,BV,cells],⟨rfl,by first | exact t1 | exact t2 | exact t4 | simp[BR,BV,cells],trivial⟩⟩⟩,.inr ?_⟩;try conv=>cbv
 have ab:L.length=2^u.length:=by rw[f,Bn hw]
 have ad:M.length=2^u.length:=by rw[g,Bn V.mem]
 refine AB (r:= .one (.sl AA B)) o (Oe (by omega) (by omega) (by rw[hB,f,g];exact FC h.red hw (CN u) (by grind))) ?_;exact AE ⟨t2,t2,trivial⟩
theorem o8 (h:BF R (r::u)) (hT:T=tw (r::u)) (hA:A=em (r::u) x) (hx:El (r::u) s x) (N:x=p+q*rt u r) (hp:El u s p) (hq:El u s q) (hs:QQ (r::u).length R s<=60000000000000) (h0:q=0) (hi:In u i) (K:AM u r*i=1) (hn:Hd 343 u p l) (hw:In u w) (hy:He 343 u (p*i) w) (hB:B=em (r::u) (w*rt u r)):CF 343 [.one (.sl (.sl AA) T),.one (.sl AA A)] (.AI [(false,[.sl AA B]),(false,[.bool true])]):=by
 have aC:T.length=u.length+1:=by rw[hT,CG];rfl
 have aB:A.length=2^u.length+2^u.length:=by rw[hA,Bn hx.mem,B8]
 have L:=El.Cz h;have aH:=Cu h.red;have ai:=DX h.tail.ht;have aE:=DI u.length;have a2:El u 0 0:=El.rat h.red.1 GO;have aF:QQ (r::u).length R s=max (QQ u.length R (3*s+3*EE u.length R+R+GG u.length R+3+II u.length R R)) (s+II u.length R (2*(3*s+3*EE u.length R+R+GG u.length R+3+II u.length R R+GG u.length R)+1)+EE u.length R):=rfl;have aG:=H6 u.length R (3*s+3*EE u.length R+R+GG u.length R+3+II u.length R R);have aD:=Ek u.length R (2*(3*s+3*EE u.length R+R+GG u.length R+3+II u.length R R+GG u.length R)+1);refine AG Tryz.func343 fun E k=>?_
 rintro aL ⟨aq,f27⟩;refine BO (fun O=>?_) fun O=>?_
 ·exact absurd O (by omega)
 rintro aM ⟨ar,f41⟩ aN ax aI ag V ab a5 G aO ⟨au,f46⟩ P ay;refine AW ((P).toNat) fun a8 M=>?_
 refine AK ?_;rintro aP ⟨av,f52⟩ Dj az aJ ah W ad a6 H aQ ⟨aw,f57⟩ aR aA aK J U ao ⟨aa,F⟩ a7 I;have d:a5=tw u:=by rw[G,List.drop_zero,show V=T.length-1 by omega,hT,Dn]
 have D:a8=BI r:=by have:=FW r u;rw[<-hT,show T.length-1=P.toNat by omega,M] at this;exact Option.some.inj this
 have f:a6=em u p:=by rw[H,List.drop_zero,show W=A.length/2 by omega,hA,Cs h.red hp.mem hq.mem N]
 have z:a7=em u q:=by rw[I,show U=A.length/2 by omega,F,J,List.take_length,hA,Ca h.red hp.mem hq.mem N]
 refine AB k (Jk h.red.1 hq.mem z h0) ?_;refine AB k (hn d f) ?_;obtain⟨aS,m⟩:=xR (em u i);have a1:=L.inv h.tail hi K;refine AB k (Nv h.tail d (D.trans (Ea h.red)) L hi K (by omega) m) ?_;refine BH ?_;obtain⟨aT,o⟩:=xR (em u (p*i));refine AB k (HZ h.tail d f m hp a1 (by omega) o) ?_;obtain⟨Q,g⟩:=xR (em u w);refine AB k (hy d o g) ?_;obtain⟨al,an,aj,ak,v⟩:=CA (((0:Int):Rat));refine AB k (Hb (by omega) rfl v) ?_;obtain⟨S,j⟩:=xR (em u (0));refine AB k (Jc h.tail d v ⟨by decide +kernel,by decide +kernel⟩ j) ?_;refine⟨[S,Q],fun _=>⟨rfl,by decide,rfl,⟨rfl,by first | exact t1 | exact t2 | exact t4 | simp[BR,BV,cells],⟨rfl,by first | exact t1 | exact t2 | exact t4 | simp[BR,BV,cells],trivial⟩⟩⟩,.inr ?_⟩;try conv=>cbv
 have ae:Q.length=2^u.length:=by rw[g,Bn hw]
 have af:S.length=2^u.length:=by rw[j,Bn a2.mem]
 refine AB (r:= .one (.sl AA B)) k (Oe (by omega) (by omega) (by rw[hB,g,j];exact FC h.red (CN u) hw (by grind))) ?_;exact AE ⟨t2,t2,trivial⟩
theorem o9 (h:BF R (r::u)) (W:T=tw (r::u)) (V:A=em (r::u) x) (hx:El (r::u) s x) (M:x=p+q*rt u r) (hp:El u s p) (hq:El u s q) (hs:QQ (r::u).length R s<=60000000000000) {l2:LR} (h0:q=0) (hi:In u i) (J:AM u r*i=1) (hn:Hd 343 u p l) (hy:Hd 343 u (p*i) l2) (aD:l2.length<=2^u.length) (hB:B=em u 0++l2):CF 343 [.one (.sl (.sl AA) T),.one (.sl AA A)] (.AI [(false,[.sl AA B]),(false,[.bool false])]):=by
 have aB:T.length=u.length+1:=by rw[W,CG];rfl
 have aA:A.length=2^u.length+2^u.length:=by rw[V,Bn hx.mem,B8]
 have K:=El.Cz h;have aH:=Cu h.red;have ah:=DX h.tail.ht;have aE:=DI u.length;have a2:El u 0 0:=El.rat h.red.1 GO;have aF:QQ (r::u).length R s=max (QQ u.length R (3*s+3*EE u.length R+R+GG u.length R+3+II u.length R R)) (s+II u.length R (2*(3*s+3*EE u.length R+R+GG u.length R+3+II u.length R R+GG u.length R)+1)+EE u.length R):=rfl;have aG:=H6 u.length R (3*s+3*EE u.length R+R+GG u.length R+3+II u.length R R);have aC:=Ek u.length R (2*(3*s+3*EE u.length R+R+GG u.length R+3+II u.length R R+GG u.length R)+1);refine AG Tryz.func343 fun E j=>?_
 rintro aL ⟨ao,f27⟩;refine BO (fun N=>?_) fun N=>?_
 ·exact absurd N (by omega)
 rintro aM ⟨aq,f41⟩ aN aw aI af S ab a5 F aO ⟨ar,f46⟩ O ax;refine AW ((O).toNat) fun a8 L=>?_
 refine AK ?_;rintro aP ⟨au,f52⟩ Dj ay aJ ag U ad a6 G aQ ⟨av,f57⟩ aR az aK I Q an ⟨aa,D⟩ a7 H;have d:a5=tw u:=by rw[F,List.drop_zero,show S=T.length-1 by omega,W,Dn]
 have z:a8=BI r:=by have:=FW r u;rw[<-W,show T.length-1=O.toNat by omega,L] at this;exact Option.some.inj this
 have f:a6=em u p:=by rw[G,List.drop_zero,show U=A.length/2 by omega,V,Cs h.red hp.mem hq.mem M]
 have v:a7=em u q:=by rw[H,show Q=A.length/2 by omega,D,I,List.take_length,V,Ca h.red hp.mem hq.mem M]
 refine AB j (Jk h.red.1 hq.mem v h0) ?_;refine AB j (hn d f) ?_;obtain⟨aS,k⟩:=xR (em u i);have a1:=K.inv h.tail hi J;refine AB j (Nv h.tail d (z.trans (Ea h.red)) K hi J (by omega) k) ?_;refine BH ?_;obtain⟨aT,m⟩:=xR (em u (p*i));refine AB j (HZ h.tail d f k hp a1 (by omega) m) ?_;refine AB j (hy d m) ?_;obtain⟨ak,al,ai,aj,o⟩:=CA (((0:Int):Rat));refine AB j (Hb (by omega) rfl o) ?_;obtain⟨P,g⟩:=xR (em u (0));refine AB j (Jc h.tail d o ⟨by decide +kernel,by decide +kernel⟩ g) ?_;refine⟨[P,l2],fun _=>⟨rfl,by decide,rfl,⟨rfl,by first | exact t1 | exact t2 | exact t4 | simp[BR,BV,cells],⟨rfl,by first | exact t1 | exact t2 | exact t4 | simp[BR,BV,cells],trivial⟩⟩⟩,.inr ?_⟩;try conv=>cbv
 have ae:P.length=2^u.length:=by rw[g,Bn a2.mem]
 refine AB (r:= .one (.sl AA B)) j (Oe (by omega) (by omega) (by rw[hB,g])) ?_;exact AE ⟨t2,t2,trivial⟩
theorem oz (h:BF R (r::u)) (I:T=tw (r::u)) (H:A=em (r::u) x) (hx:El (r::u) s x) (j:x=p+q*rt u r) (P:El u s p) (J:El u s q) (hs:QQ (r::u).length R s<=60000000000000) (h0:q≠0) (hn:Hd 343 u (p*p-q*q*AM u r) l) (hB:B=[]):CF 343 [.one (.sl (.sl AA) T),.one (.sl AA A)] (.AI [(false,[.sl AA B]),(false,[.bool false])]):=by
 have ao:T.length=u.length+1:=by rw[I,CG];rfl
 have an:A.length=2^u.length+2^u.length:=by rw[H,Bn hx.mem,B8]
 have aw:=El.Cz h;have ax:=Cu h.red;have a8:=DX h.tail.ht;have ar:=DI u.length;have ay:El u 0 0:=El.rat h.red.1 GO;have au:QQ (r::u).length R s=max (QQ u.length R (3*s+3*EE u.length R+R+GG u.length R+3+II u.length R R)) (s+II u.length R (2*(3*s+3*EE u.length R+R+GG u.length R+3+II u.length R R+GG u.length R)+1)+EE u.length R):=rfl;have av:=H6 u.length R (3*s+3*EE u.length R+R+GG u.length R+3+II u.length R R);have aq:=Ek u.length R (2*(3*s+3*EE u.length R+R+GG u.length R+3+II u.length R R+GG u.length R)+1);refine AG Tryz.func343 fun E N=>?_
 rintro aC ⟨ad,f27⟩;refine BO (fun F=>?_) fun F=>?_
 ·exact absurd F (by omega)
 rintro aD ⟨ae,f41⟩ aE ai az a6 L a2 S m aF ⟨af,f46⟩ G aj;refine AW ((G).toNat) fun W D=>?_
 refine AK ?_;rintro aG ⟨ag,f52⟩ Dj ak aA a7 M a5 U o aH ⟨ah,f57⟩ aI al aB z K ab ⟨a1,k⟩ V v;have f:S=tw u:=by rw[m,List.drop_zero,show L=T.length-1 by omega,I,Dn]
 have Q:W=BI r:=by have:=FW r u;rw[<-I,show T.length-1=G.toNat by omega,D] at this;exact Option.some.inj this
 have O:U=em u p:=by rw[o,List.drop_zero,show M=A.length/2 by omega,H,Cs h.red P.mem J.mem j]
 have g:V=em u q:=by rw[v,show K=A.length/2 by omega,k,z,List.take_length,H,Ca h.red P.mem J.mem j]
 refine AB N (IE h.red.1 J.mem g h0) ?_;obtain⟨aa,d⟩:=xR (em u (p*p-q*q*AM u r));refine AB N (Qc h I H hx j P.mem J.mem (by omega) d) ?_;refine AB N (hn f d) ?_;refine CU ?_;exact AE ⟨⟨rfl,.inr (.inl ⟨_,congrArg _ (hB)⟩),trivial⟩,t2,trivial⟩
theorem bT {a b:Re} {y:Nat->Re} {x:LR} {i:Nat} (h:[A,B][i]? =some x) (g:A=em u a) (j:B=em u b) (d:y 0=a) (f:y 1=b):x=em u (y i):=by
 match i,h with
 | 0,h=>rw[d,<-g];exact (Option.some.inj h).symm
 | 1,h=>rw[f,<-j];exact (Option.some.inj h).symm
 | i+2,h=>simp at h
theorem o6 {f:FuncId} {y:Nat->Re} {L:Nat->LR} {i:Nat} {b:Bool} (o:i<=k0) (d:∀i,i<k0->Hd f u (t*y i) (L i)) (g:He f u (t*y k0) w) (hb:b=decide (i=k0)) (k:B=if i=k0 then em u w else L i) (m:T=tw u) (j:A=em u (t*y i)):
  CF f [.one (.sl (.sl AA) T),.one (.sl AA A)] (.AI [(false,[.sl AA B]),(false,[.bool b])]):=by
 by_cases h:i=k0
 ·subst h;rw[hb,decide_eq_true rfl];exact g m j (by rw[k,if_pos rfl])
 rw[hb,decide_eq_false h,k,if_neg h];exact d i (by omega) m j
theorem El.half {y:Re} (h:El u s y) (hu:BF R u) (ht:t=Re.ofRat (1/2)):El u (s+1+EE u.length R) (t*y):=by
 have d:El u 1 t:=ht ▸ El.rat hu.red MM;have:=d.mul hu h;rwa [show 1+s+EE u.length R=s+1+EE u.length R by omega] at this
theorem o5 (h:BF R (r::u)) (hT:T=tw (r::u)) (hA:A=em (r::u) x) (hx:El (r::u) s x) (J:x=p+q*rt u r) (N:El u s p) (W:El u s q) (hs:QQ (r::u).length R s<=60000000000000) (h0:q≠0) (hn:In u n) (ak:n*n=p*p-q*q*AM u r) (ht:t=Re.ofRat (1/2)) (au:He 343 u (p*p-q*q*AM u r) n) {y:Nat->Re} (ao:y 0=p+n) (aq:y 1=p-n) (ar:∀i,El u (s+(2*s+2*EE u.length R+R+1+GG u.length R)+1) (y i)) {L:Nat->LR} (aj:k0<=2) (al:∀i,i<k0->Hd 343 u (t*y i) (L i)) (aX:k0=2) (hB:B=[]):CF 343 [.one (.sl (.sl AA) T),.one (.sl AA A)] (.AI [(false,[.sl AA B]),(false,[.bool false])]):=by
 have aU:T.length=u.length+1:=by rw[hT,CG];rfl
 have aT:A.length=2^u.length+2^u.length:=by rw[hA,Bn hx.mem,B8]
 have b1:=El.Cz h;have b2:=Cu h.red;have aE:=DX h.tail.ht;have aY:=DI u.length;have b3:El u 0 0:=El.rat h.red.1 GO;have aZ:QQ (r::u).length R s=max (QQ u.length R (3*s+3*EE u.length R+R+GG u.length R+3+II u.length R R)) (s+II u.length R (2*(3*s+3*EE u.length R+R+GG u.length R+3+II u.length R R+GG u.length R)+1)+EE u.length R):=rfl;have b0:=H6 u.length R (3*s+3*EE u.length R+R+GG u.length R+3+II u.length R R);have aV:=Ek u.length R (2*(3*s+3*EE u.length R+R+GG u.length R+3+II u.length R R+GG u.length R)+1);have hN:=El.norm h N.mem W.mem (J ▸ hx);refine AG Tryz.func343 fun E K=>?_
 rintro b8 ⟨aJ,f27⟩;refine BO (fun a5=>?_) fun a5=>?_
 ·exact absurd a5 (by omega)
 rintro b9 ⟨aK,f41⟩ ba aP b5 aC af aA a6 P bb ⟨aL,f46⟩ ab aQ;refine AW ((ab).toNat) fun aw a1=>?_
 refine AK ?_;rintro bc ⟨aM,f52⟩ Dj aR b6 aD ag aB av Q bd ⟨aN,f57⟩ bf aS b7 U ae aI ⟨az,O⟩ a7 S;have d:a6=tw u:=by rw[P,List.drop_zero,show af=T.length-1 by omega,hT,Dn]
 have an:aw=BI r:=by have:=FW r u;rw[<-hT,show T.length-1=ab.toNat by omega,a1] at this;exact Option.some.inj this
 have j:av=em u p:=by rw[Q,List.drop_zero,show ag=A.length/2 by omega,hA,Cs h.red N.mem W.mem J]
 have M:a7=em u q:=by rw[S,show ae=A.length/2 by omega,O,U,List.take_length,hA,Ca h.red N.mem W.mem J]
 refine AB K (IE h.red.1 W.mem M h0) ?_;obtain⟨aF,o⟩:=xR (em u (p*p-q*q*AM u r));refine AB K (Qc h hT hA hx J N.mem W.mem (by omega) o) ?_;obtain⟨aG,f⟩:=xR (em u n);have V:=hN.sqrt h.tail hn ak;refine AB K (au d o f) ?_;refine BH ?_;obtain⟨G,v⟩:=xR (em u (p+n));refine AB K (KX h.tail d j f N V (by omega) (by omega) v) ?_;obtain⟨H,z⟩:=xR (em u (p-n));refine AB K (N0 h.tail d j f N V (by omega) (by omega) z) ?_;refine⟨[G,H],fun _=>⟨rfl,by decide,rfl,⟨rfl,by first | exact t1 | exact t2 | exact t4 | simp[BR,BV,cells],⟨rfl,by first | exact t1 | exact t2 | exact t4 | simp[BR,BV,cells],trivial⟩⟩⟩,.inr ?_⟩;refine AS ?_;intro a8 g;have ax:=g.eq;have f118:=g.le;refine BN [] [8,11,117,118,119] [] (fun vs bl k=>∃(i':Nat) (m i:Int),vs=[.one (.sl (.sl AA) a6),.one (.sl AA a7),.one (.sl (.sl AA) [G,H]),.one (.int .i64 m),.one (.int .i64 i)]/\(AO m 2/\AO i i'/\i'<=k0)/\k=2-i') (2-0) ⟨0,a8,0,rfl,⟨⟨g.eq⟩,BD 0,by omega⟩,rfl⟩ ?_
 rintro J0 ah vs bl b4 ⟨i',m,i,rfl,⟨hM,ai,aW⟩,aj⟩;conv=>cbv
 have eM:=hM.eq;have aO:=ai.eq;refine BW (fun a2=>?_) fun a2=>?_
 ·exact AE ⟨⟨rfl,.inr (.inl ⟨_,congrArg _ (hB)⟩),trivial⟩,t2,trivial⟩
 refine .inr ?_;obtain⟨ad,F⟩:=CM (l:=[G,H]) (i:=i') (by show _<2;omega);refine D6 F ?_;have I:ad=em u (y i'):=bT F v z ao aq;obtain⟨aH,D⟩:=xR (em u (t*y i'));refine AB K (Xi h.tail d I (ar i') ht (by omega) D) ?_;refine AB K (al i' (by omega) d D) ?_;refine CU ?_;intro aa ay;exact Ba ah ⟨i'+1,m,aa,rfl,⟨hM,⟨by omega⟩,by omega⟩,rfl⟩
theorem o4 (h:BF R (r::u)) (hT:T=tw (r::u)) (hA:A=em (r::u) x) (hx:El (r::u) s x) (a2:x=p+q*rt u r) (hp:El u s p) (hq:El u s q) (hs:QQ (r::u).length R s<=60000000000000) (h0:q≠0) (hn:In u n) (aE:n*n=p*p-q*q*AM u r) (ht:t=Re.ofRat (1/2)) (aL:He 343 u (p*p-q*q*AM u r) n) {y:Nat->Re} (aJ:y 0=p+n) (aK:y 1=p-n) (ah:∀i,El u (s+(2*s+2*EE u.length R+R+1+GG u.length R)+1) (y i)) {L:Nat->LR} (aB:k0<=2) (aF:∀i,i<k0->Hd 343 u (t*y i) (L i)) (bj:k0<2) {j:Re} (hw:In u w) (aH:w*w=t*y k0) (aG:w≠0) (aM:He 343 u (t*y k0) w) (hj:In u j) (af:(w+w)*j=1) (hB:B=em (r::u) (w+q*j*rt u r)):CF 343 [.one (.sl (.sl AA) T),.one (.sl AA A)] (.AI [(false,[.sl AA B]),(false,[.bool true])]):=by
 have bg:T.length=u.length+1:=by rw[hT,CG];rfl
 have bf:A.length=2^u.length+2^u.length:=by rw[hA,Bn hx.mem,B8]
 have bq:=El.Cz h;have br:=Cu h.red;have aX:=DX h.tail.ht;have bn:=DI u.length;have bs:El u 0 0:=El.rat h.red.1 GO;have bo:QQ (r::u).length R s=max (QQ u.length R (3*s+3*EE u.length R+R+GG u.length R+3+II u.length R R)) (s+II u.length R (2*(3*s+3*EE u.length R+R+GG u.length R+3+II u.length R R+GG u.length R)+1)+EE u.length R):=rfl;have bp:=H6 u.length R (3*s+3*EE u.length R+R+GG u.length R+3+II u.length R R);have bh:=Ek u.length R (2*(3*s+3*EE u.length R+R+GG u.length R+3+II u.length R R+GG u.length R)+1);have hN:=El.norm h hp.mem hq.mem (a2 ▸ hx);refine AG Tryz.func343 fun E D=>?_
 rintro bz ⟨b4,f27⟩;refine BO (fun ai=>?_) fun ai=>?_
 ·exact absurd ai (by omega)
 rintro bA ⟨b5,f41⟩ bB ba bu aV au aT aj a8 bC ⟨b6,f46⟩ ao bb;refine AW ((ao).toNat) fun aO ag=>?_
 refine AK ?_;rintro bD ⟨b7,f52⟩ Dj bc bw aW av aU aN aa bE ⟨b8,f57⟩ bF bd bx ad ar b3 ⟨aS,a7⟩ ak ab;have d:aj=tw u:=by rw[a8,List.drop_zero,show au=T.length-1 by omega,hT,Dn]
 have aI:aO=BI r:=by have:=FW r u;rw[<-hT,show T.length-1=ao.toNat by omega,ag] at this;exact Option.some.inj this
 have G:aN=em u p:=by rw[aa,List.drop_zero,show av=A.length/2 by omega,hA,Cs h.red hp.mem hq.mem a2]
 have H:ak=em u q:=by rw[ab,show ar=A.length/2 by omega,a7,ad,List.take_length,hA,Ca h.red hp.mem hq.mem a2]
 refine AB D (IE h.red.1 hq.mem H h0) ?_;obtain⟨aY,I⟩:=xR (em u (p*p-q*q*AM u r));refine AB D (Qc h hT hA hx a2 hp.mem hq.mem (by omega) I) ?_;obtain⟨aZ,o⟩:=xR (em u n);have ae:=hN.sqrt h.tail hn aE;refine AB D (aL d I o) ?_;refine BH ?_;obtain⟨U,J⟩:=xR (em u (p+n));refine AB D (KX h.tail d G o hp ae (by omega) (by omega) J) ?_;obtain⟨V,K⟩:=xR (em u (p-n));refine AB D (N0 h.tail d G o hp ae (by omega) (by omega) K) ?_;refine⟨[U,V],fun _=>⟨rfl,by decide,rfl,⟨rfl,by first | exact t1 | exact t2 | exact t4 | simp[BR,BV,cells],⟨rfl,by first | exact t1 | exact t2 | exact t4 | simp[BR,BV,cells],trivial⟩⟩⟩,.inr ?_⟩;refine AS ?_;intro al F;have aQ:=F.eq;have f118:=F.le;refine BN [] [8,11,117,118,119] [] (fun vs bl k=>∃(i':Nat) (m i:Int),vs=[.one (.sl (.sl AA) aj),.one (.sl AA ak),.one (.sl (.sl AA) [U,V]),.one (.int .i64 m),.one (.int .i64 i)]/\(AO m 2/\AO i i'/\i'<=k0)/\k=2-i') (2-0) ⟨0,al,0,rfl,⟨⟨F.eq⟩,BD 0,by omega⟩,rfl⟩ ?_
 rintro J0 aw vs bl bt ⟨i',m,i,rfl,⟨hM,ax,ay⟩,aB⟩;conv=>cbv
 have eM:=hM.eq;have b9:=ax.eq;refine BW (fun a5=>?_) fun a5=>?_
 ·exact absurd a5 (by omega)
 refine .inr ?_;obtain⟨aq,Q⟩:=CM (l:=[U,V]) (i:=i') (by show _<2;omega);refine D6 Q ?_;have a1:aq=em u (y i'):=bT Q J K aJ aK;obtain⟨b0,M⟩:=xR (em u (t*y i'));refine AB D (Xi h.tail d a1 (ah i') ht (by omega) M) ?_;obtain⟨aP,g⟩:=xB (decide (i'=k0));obtain⟨W,N⟩:=xR (if i'=k0 then em u w else L i');refine AB D (o6 ay aF aM g N d M) ?_;refine Gm (fun S=>?_) fun S=>?_
 ·intro an aR;have bm:i'≠k0:=of_decide_eq_false (g.symm.trans S);exact Ba aw ⟨i'+1,m,an,rfl,⟨hM,⟨by omega⟩,by omega⟩,rfl⟩
 have az:i'=k0:=of_decide_eq_true (g.symm.trans S);have f:W=em u w:=by rw[N,if_pos az]
 have z:El u (s+(2*s+2*EE u.length R+R+1+GG u.length R)+1+1+EE u.length R+GG u.length R) w:=(((ah k0).half h.tail ht).sqrt h.tail hw aH);have aA:=(z.add h.red.1 z).inv h.tail hj af;have bk:=Jd u.length R (s:=s+(2*s+2*EE u.length R+R+1+GG u.length R)+1+1+EE u.length R+GG u.length R+(s+(2*s+2*EE u.length R+R+1+GG u.length R)+1+1+EE u.length R+GG u.length R)+1) (t:=2*(3*s+3*EE u.length R+R+GG u.length R+3+II u.length R R+GG u.length R)+1) (by omega);refine AB D (IE h.red.1 hw f aG) ?_;obtain⟨b1,O⟩:=xR (em u (w+w));refine AB D (KX h.tail d f f z z (by omega) (by omega) O) ?_;obtain⟨b2,P⟩:=xR (em u j);refine AB D (Nv h.tail d O (z.add h.red.1 z) hj af (by omega) P) ?_;obtain⟨a6,v⟩:=xR (em u (q*j));refine AB D (HZ h.tail d H P hq aA (by omega) v) ?_;refine⟨[W,a6],fun _=>⟨rfl,by decide,rfl,⟨rfl,by first | exact t1 | exact t2 | exact t4 | simp[BR,BV,cells],⟨rfl,by first | exact t1 | exact t2 | exact t4 | simp[BR,BV,cells],trivial⟩⟩⟩,.inr ?_⟩
 try conv=>cbv
 have aC:W.length=2^u.length:=by rw[f,Bn hw]
 have aD:a6.length=2^u.length:=by rw[v,Bn (Ag h.red.1 hq.mem hj)]
 refine AB (r:= .one (.sl AA B)) D (Oe (by omega) (by omega) (by rw[hB,f,v];exact FC h.red hw (Ag h.red.1 hq.mem hj) rfl)) ?_;exact AE ⟨t2,t2,trivial⟩
end
end Go.Abs
