/- Part 19 of a proof. Conditions: each theorem's own. -/
import Derived.Test.YtclgfoceefhnkaaGreatDoorLn17
set_option linter.all false
set_option maxHeartbeats 80000000
set_option maxRecDepth 20000
open Go.Proofs
namespace Go.Abs
section
open Go.RowKit
variable {A B l:LR} {R k0 s:Nat} {T:List LR} {i n p q t w x:Re} {r:List Rat} {u:List (List Rat)}
theorem Qp {C:LR} (L:A.length<=1000000) (M:B.length<=1000000) (H:C=A++B):CF 347 [.one (.sl AA A),.one (.sl AA B)] (.one (.sl AA C)):=by
 refine AG Tryz.func347 fun E N=>?_
 refine⟨[],fun _=>⟨rfl,by decide,rfl,trivial⟩,.inl ?_⟩;try conv=>cbv
 refine .inl ⟨A,fun _=>⟨rfl,rfl,rfl,by show (0+A.length)*64<=140737488355328;(try simp only[List.length_take,List.length_drop]);omega⟩,?_⟩;intro (g:LR) J h;have f:g=([]:LR)++(A:LR):=h.1;have D:J=List.length (α:=(el AA)) g:=h.2;conv=>cbv
 have G:g.length=A.length:=by rw[f];simp
 refine .inl ⟨B,fun _=>⟨rfl,D,rfl,by show (g.length+B.length)*64<=140737488355328;(try simp only[List.length_take,List.length_drop]);omega⟩,?_⟩;intro (F:LR) K j;have v:F=(g:LR)++(B:LR):=j.1;have I:K=List.length (α:=(el AA)) F:=j.2;conv=>cbv
 have d:C=F:=by rw[H,v,f];rfl
 exact AE ⟨⟨rfl,.inl ⟨_,rfl,by omega,congrArg _ (by rw[d,List.drop_zero,List.take_of_length_le (by omega)])⟩,trivial⟩,trivial⟩
def IB (u:List (List Rat)) (x:Re) (l:LR):Prop:=∀{T:List LR} {A:LR},T=tw u->A=em u x->
 CF 299 [.one (.sl (.sl AA) T),.one (.sl AA A)] (.AI [(false,[.sl AA l]),(false,[.bool false])])
def IC (u:List (List Rat)) (x w:Re):Prop:=∀{T:List LR} {A B:LR},T=tw u->A=em u x->B=em u w->
 CF 299 [.one (.sl (.sl AA) T),.one (.sl AA A)] (.AI [(false,[.sl AA B]),(false,[.bool true])])
theorem JH {c:Int} (f:c=Bm x) (h:c<0) (d:0<=x):False:=by
 have:=(JF (x:=x)).1 (by omega)
 grind
theorem fq (h:BF R (r::u)) (D:T=tw (r::u)) (C:A=em (r::u) x) (G:El (r::u) s x) (S:x=p+q*rt u r) (W:El u s p) (X:El u s q) (Y:SS (r::u).length R s<=60000000000000) (j:VV (r::u).length R R<=60000000000000) (g:x<0):CF 299 [.one (.sl (.sl AA) T),.one (.sl AA A)] (.AI [(false,[.sl AA (([]:LR))]),(false,[.bool false])]):=by
 have L:T.length=u.length+1:=by rw[D,CG];rfl
 have I:A.length=2^u.length+2^u.length:=by rw[C,Bn G.mem,B8]
 have N:=El.Cz h;have hR:=h.hR;have Q:VV (r::u).length R s<=SS (r::u).length R s:=Iw u.length R s;have P:s+II u.length R (TQ u.length R s+GG u.length R)+2*EE u.length R+2<=SS (r::u).length R s:=Jf u.length R s;have O:=Fw (r::u).length R s;have M:=Ek u.length R (TQ u.length R s+GG u.length R);have K:TQ u.length R s=3*s+4*EE u.length R+R+GG u.length R+3+II u.length R R:=rfl;have F:=DX h.tail.ht;refine AG Tryz.func299 fun E J=>?_
 rintro U ⟨H,f31⟩;refine BO (fun f=>?_) fun f=>?_
 ·exact absurd f (by omega)
 obtain⟨V,d⟩:=xI (Bm x);refine AB J (HB h D C G (by omega) (by omega) j d) ?_;refine BW (fun v=>?_) fun v=>?_
 ·exact absurd (JF.2 g) (by omega)
 exact AE ⟨⟨rfl,AL,trivial⟩,t2,trivial⟩
theorem ft (h:BF R (r::u)) (S:T=tw (r::u)) (Q:A=em (r::u) x) (hx:El (r::u) s x) (M:x=p+q*rt u r) (hp:El u s p) (Z:El u s q) (hs:SS (r::u).length R s<=60000000000000) (a1:VV (r::u).length R R<=60000000000000) (X:0<=x) (h0:q=0) (hw:In u w) (hy:IC u p w) (hB:B=em (r::u) w):CF 299 [.one (.sl (.sl AA) T),.one (.sl AA A)] (.AI [(false,[.sl AA B]),(false,[.bool true])]):=by
 have ay:T.length=u.length+1:=by rw[S,CG];rfl
 have aw:A.length=2^u.length+2^u.length:=by rw[Q,Bn hx.mem,B8]
 have aA:=El.Cz h;have hR:=h.hR;have aD:VV (r::u).length R s<=SS (r::u).length R s:=Iw u.length R s;have aC:s+II u.length R (TQ u.length R s+GG u.length R)+2*EE u.length R+2<=SS (r::u).length R s:=Jf u.length R s;have aB:=Fw (r::u).length R s;have az:=Ek u.length R (TQ u.length R s+GG u.length R);have ax:TQ u.length R s=3*s+4*EE u.length R+R+GG u.length R+3+II u.length R R:=rfl;have ah:=DX h.tail.ht;refine AG Tryz.func299 fun E G=>?_
 rintro aH ⟨ao,f31⟩;refine BO (fun N=>?_) fun N=>?_
 ·exact absurd N (by omega)
 obtain⟨aM,j⟩:=xI (Bm x);refine AB G (HB h S Q hx (by omega) (by omega) a1 j) ?_;refine Cw (fun O=>?_) fun O=>?_
 ·exact (JH j O X).elim
 rintro aI ⟨aq,f48⟩ aJ au aE af V ad a5 I;refine AW ((T.length-1)) fun aa v=>?_
 refine AK ?_;rintro aK ⟨ar,f58⟩ aL av aF ag W ae a6 J aG L U an ⟨ab,H⟩ a7 K;have d:a5=tw u:=by rw[I,List.drop_zero,show V=T.length-1 by omega,S,Dn]
 have a2:aa=em u (AM u r):=by rw[S,FW] at v;exact (Option.some.inj v).symm.trans (Ea h.red)
 have D:a6=em u p:=by rw[J,List.drop_zero,show W=A.length/2 by omega,Q,Cs h.red hp.mem Z.mem M]
 have F:a7=em u q:=by rw[K,show U=A.length/2 by omega,H,L,List.take_length,Q,Ca h.red hp.mem Z.mem M]
 obtain⟨ak,al,ai,aj,C⟩:=CA (((0:Int):Rat));refine AB G (EN (by omega) rfl C) ?_;obtain⟨P,f⟩:=xR (em u (0));refine AB (r:= .one (.sl AA P)) G (Gp h.tail d C (by rw[show Re.ofRat ((0:Int):Rat)=0 from rfl];exact f)) ?_;refine AB G (ID h.tail.red Z.mem F h0) ?_;obtain⟨a8,g⟩:=xR (em u w);refine AB G (hy d D g) ?_;have Y:B=a8++P:=by rw[hB,g,f];exact FC h.red hw (CN u) (by grind)
 refine AB (r:= .one (.sl AA B)) G (Qp (by rw[g,Bn hw];omega) (by rw[f,Bn (CN u)];omega) Y) ?_;exact AE ⟨t2,t2,trivial⟩
theorem fu (h:BF R (r::u)) (Y:T=tw (r::u)) (X:A=em (r::u) x) (hx:El (r::u) s x) (S:x=p+q*rt u r) (hp:El u s p) (hq:El u s q) (hs:SS (r::u).length R s<=60000000000000) (a8:VV (r::u).length R R<=60000000000000) (a5:0<=x) (h0:q=0) (hi:In u i) (P:AM u r*i=1) (hn:IB u p l) (hw:In u w) (hy:IC u (p*i) w) (hB:B=em (r::u) (w*rt u r)):CF 299 [.one (.sl (.sl AA) T),.one (.sl AA A)] (.AI [(false,[.sl AA B]),(false,[.bool true])]):=by
 have aD:T.length=u.length+1:=by rw[Y,CG];rfl
 have aB:A.length=2^u.length+2^u.length:=by rw[X,Bn hx.mem,B8]
 have Q:=El.Cz h;have hR:=h.hR;have aH:VV (r::u).length R s<=SS (r::u).length R s:=Iw u.length R s;have aG:s+II u.length R (TQ u.length R s+GG u.length R)+2*EE u.length R+2<=SS (r::u).length R s:=Jf u.length R s;have aF:=Fw (r::u).length R s;have aE:=Ek u.length R (TQ u.length R s+GG u.length R);have aC:TQ u.length R s=3*s+4*EE u.length R+R+GG u.length R+3+II u.length R R:=rfl;have an:=DX h.tail.ht;have a7:=Q.inv h.tail hi P;refine AG Tryz.func299 fun E v=>?_
 rintro aL ⟨aw,f31⟩;refine BO (fun U=>?_) fun U=>?_
 ·exact absurd U (by omega)
 obtain⟨aQ,C⟩:=xI (Bm x);refine AB v (HB h Y X hx (by omega) (by omega) a8 C) ?_;refine Cw (fun V=>?_) fun V=>?_
 ·exact (JH C V a5).elim
 rintro aM ⟨ax,f48⟩ aN az aI ak a1 ai aa L;refine AW ((T.length-1)) fun ag G=>?_
 refine AK ?_;rintro aO ⟨ay,f58⟩ aP aA aJ al a2 aj ab M aK O Z av ⟨ah,K⟩ ad N;have d:aa=tw u:=by rw[L,List.drop_zero,show a1=T.length-1 by omega,Y,Dn]
 have J:ag=em u (AM u r):=by rw[Y,FW] at G;exact (Option.some.inj G).symm.trans (Ea h.red)
 have f:ab=em u p:=by rw[M,List.drop_zero,show a2=A.length/2 by omega,X,Cs h.red hp.mem hq.mem S]
 have I:ad=em u q:=by rw[N,show Z=A.length/2 by omega,K,O,List.take_length,X,Ca h.red hp.mem hq.mem S]
 obtain⟨ar,au,ao,aq,H⟩:=CA (((0:Int):Rat));refine AB v (EN (by omega) rfl H) ?_;obtain⟨W,g⟩:=xR (em u (0));refine AB (r:= .one (.sl AA W)) v (Gp h.tail d H (by rw[show Re.ofRat ((0:Int):Rat)=0 from rfl];exact g)) ?_;refine AB v (ID h.tail.red hq.mem I h0) ?_;refine AB v (hn d f) ?_;obtain⟨ae,D⟩:=xR (em u (i));refine AB (r:= .AI [(false,[.sl AA ae]),(false,[.int .i64 0])]) v (N9 h.tail d J Q hi P (by have:=Jd u.length R (s:=R) (t:=TQ u.length R s+GG u.length R) (by omega);omega) D) ?_;obtain⟨aR,F⟩:=xR (em u (p*i));refine AB v (D9 h.tail d f D hp a7 (by omega) F) ?_;obtain⟨af,j⟩:=xR (em u w);refine AB v (hy d F j) ?_;have a6:B=W++af:=by rw[hB,j,g];exact FC h.red (CN u) hw (by grind)
 refine AB (r:= .one (.sl AA B)) v (Qp (by rw[g,Bn (CN u)];omega) (by rw[j,Bn hw];omega) a6) ?_;exact AE ⟨t2,t2,trivial⟩
theorem fv (h:BF R (r::u)) (W:T=tw (r::u)) (V:A=em (r::u) x) (hx:El (r::u) s x) (Q:x=p+q*rt u r) (hp:El u s p) (hq:El u s q) (hs:SS (r::u).length R s<=60000000000000) (a6:VV (r::u).length R R<=60000000000000) (a1:0<=x) (h0:q=0) (hi:In u i) (N:AM u r*i=1) (hn:IB u p l) {l2:LR} (a5:IB u (p*i) l2):CF 299 [.one (.sl (.sl AA) T),.one (.sl AA A)] (.AI [(false,[.sl AA (([]:LR))]),(false,[.bool false])]):=by
 have aB:T.length=u.length+1:=by rw[W,CG];rfl
 have az:A.length=2^u.length+2^u.length:=by rw[V,Bn hx.mem,B8]
 have O:=El.Cz h;have hR:=h.hR;have aF:VV (r::u).length R s<=SS (r::u).length R s:=Iw u.length R s;have aE:s+II u.length R (TQ u.length R s+GG u.length R)+2*EE u.length R+2<=SS (r::u).length R s:=Jf u.length R s;have aD:=Fw (r::u).length R s;have aC:=Ek u.length R (TQ u.length R s+GG u.length R);have aA:TQ u.length R s=3*s+4*EE u.length R+R+GG u.length R+3+II u.length R R:=rfl;have ak:=DX h.tail.ht;have a2:=O.inv h.tail hi N;refine AG Tryz.func299 fun E g=>?_
 rintro aJ ⟨au,f31⟩;refine BO (fun S=>?_) fun S=>?_
 ·exact absurd S (by omega)
 obtain⟨aO,j⟩:=xI (Bm x);refine AB g (HB h W V hx (by omega) (by omega) a6 j) ?_;refine Cw (fun U=>?_) fun U=>?_
 ·exact (JH j U a1).elim
 rintro aK ⟨av,f48⟩ aL ax aG ai Y ag a7 J;refine AW ((T.length-1)) fun ae D=>?_
 refine AK ?_;rintro aM ⟨aw,f58⟩ aN ay aH aj Z ah a8 K aI M X ar ⟨af,I⟩ aa L;have d:a7=tw u:=by rw[J,List.drop_zero,show Y=T.length-1 by omega,W,Dn]
 have H:ae=em u (AM u r):=by rw[W,FW] at D;exact (Option.some.inj D).symm.trans (Ea h.red)
 have f:a8=em u p:=by rw[K,List.drop_zero,show Z=A.length/2 by omega,V,Cs h.red hp.mem hq.mem Q]
 have G:aa=em u q:=by rw[L,show X=A.length/2 by omega,I,M,List.take_length,V,Ca h.red hp.mem hq.mem Q]
 obtain⟨ao,aq,al,an,F⟩:=CA (((0:Int):Rat));refine AB g (EN (by omega) rfl F) ?_;obtain⟨ab,P⟩:=xR (em u (0));refine AB (r:= .one (.sl AA ab)) g (Gp h.tail d F (by rw[show Re.ofRat ((0:Int):Rat)=0 from rfl];exact P)) ?_;refine AB g (ID h.tail.red hq.mem G h0) ?_;refine AB g (hn d f) ?_;obtain⟨ad,v⟩:=xR (em u (i));refine AB (r:= .AI [(false,[.sl AA ad]),(false,[.int .i64 0])]) g (N9 h.tail d H O hi N (by have:=Jd u.length R (s:=R) (t:=TQ u.length R s+GG u.length R) (by omega);omega) v) ?_;obtain⟨aP,C⟩:=xR (em u (p*i));refine AB g (D9 h.tail d f v hp a2 (by omega) C) ?_;refine AB g (a5 d C) ?_;exact AE ⟨⟨rfl,AL,trivial⟩,t2,trivial⟩
theorem fj (h:BF R (r::u)) (hT:T=tw (r::u)) (Z:A=em (r::u) x) (hx:El (r::u) s x) (V:x=p+q*rt u r) (L:El u s p) (G:El u s q) (hs:SS (r::u).length R s<=60000000000000) (a8:VV (r::u).length R R<=60000000000000) (a6:0<=x) (h0:q≠0) (hn:IB u (p*p-q*q*AM u r) l):CF 299 [.one (.sl (.sl AA) T),.one (.sl AA A)] (.AI [(false,[.sl AA (([]:LR))]),(false,[.bool false])]):=by
 have aF:T.length=u.length+1:=by rw[hT,CG];rfl
 have aD:A.length=2^u.length+2^u.length:=by rw[Z,Bn hx.mem,B8]
 have S:=El.Cz h;have hR:=h.hR;have aJ:VV (r::u).length R s<=SS (r::u).length R s:=Iw u.length R s;have aI:s+II u.length R (TQ u.length R s+GG u.length R)+2*EE u.length R+2<=SS (r::u).length R s:=Jf u.length R s;have aH:=Fw (r::u).length R s;have aG:=Ek u.length R (TQ u.length R s+GG u.length R);have aE:TQ u.length R s=3*s+4*EE u.length R+R+GG u.length R+3+II u.length R R:=rfl;have al:=DX h.tail.ht;refine AG Tryz.func299 fun E F=>?_
 rintro aN ⟨ay,f31⟩;refine BO (fun W=>?_) fun W=>?_
 ·exact absurd W (by omega)
 obtain⟨aS,H⟩:=xI (Bm x);refine AB F (HB h hT Z hx (by omega) (by omega) a8 H) ?_;refine Cw (fun X=>?_) fun X=>?_
 ·exact (JH H X a6).elim
 rintro aO ⟨az,f48⟩ aP aB aK aj a2 ah aa N;refine AW ((T.length-1)) fun af I=>?_
 refine AK ?_;rintro aQ ⟨aA,f58⟩ aR aC aL ak a5 ai ab O aM Q a1 ax ⟨ag,M⟩ ad P;have d:aa=tw u:=by rw[N,List.drop_zero,show a2=T.length-1 by omega,hT,Dn]
 have K:af=em u (AM u r):=by rw[hT,FW] at I;exact (Option.some.inj I).symm.trans (Ea h.red)
 have g:ab=em u p:=by rw[O,List.drop_zero,show a5=A.length/2 by omega,Z,Cs h.red L.mem G.mem V]
 have f:ad=em u q:=by rw[P,show a1=A.length/2 by omega,M,Q,List.take_length,Z,Ca h.red L.mem G.mem V]
 obtain⟨av,aw,ar,au,J⟩:=CA (((0:Int):Rat));refine AB F (EN (by omega) rfl J) ?_;obtain⟨ae,U⟩:=xR (em u (0));refine AB (r:= .one (.sl AA ae)) F (Gp h.tail d J (by rw[show Re.ofRat ((0:Int):Rat)=0 from rfl];exact U)) ?_;refine AB F (Ix h.tail.red G.mem f h0) ?_;obtain⟨an,j⟩:=xR (em u (p*p));refine AB F (D9 h.tail d g g L L (by omega) j) ?_;obtain⟨ao,v⟩:=xR (em u (q*q));refine AB F (D9 h.tail d f f G G (by omega) v) ?_;obtain⟨aq,C⟩:=xR (em u (AM u r*(q*q)));refine AB F (D9 h.tail d K v S (G.mul h.tail G) (by omega) C) ?_;obtain⟨Y,D⟩:=xR (em u (p*p-AM u r*(q*q)));refine AB F (OA h.tail j C (L.mul h.tail L) (S.mul h.tail (G.mul h.tail G)) (by omega) (by omega) D) ?_;have a7:Y=em u (p*p-q*q*AM u r):=by rw[D,show p*p-AM u r*(q*q)=p*p-q*q*AM u r by grind]
 refine AB F (hn d a7) ?_;refine CU ?_;exact AE ⟨⟨rfl,AL,trivial⟩,t2,trivial⟩
theorem fp (h:BF R (r::u)) (hT:T=tw (r::u)) (hA:A=em (r::u) x) (hx:El (r::u) s x) (Z:x=p+q*rt u r) (P:El u s p) (O:El u s q) (hs:SS (r::u).length R s<=60000000000000) (aD:VV (r::u).length R R<=60000000000000) (ax:0<=x) (h0:q≠0) (hn:In u n) (aA:n*n=p*p-q*q*AM u r) (ht:t=Re.ofRat (1/2)) (aH:IC u (p*p-q*q*AM u r) n) {y:Nat->Re} (aE:y 0=p+n) (aF:y 1=p-n) (aG:∀i,El u (s+(2*s+2*EE u.length R+R+1+GG u.length R)+1) (y i)) {L:Nat->LR} (hk:k0<=2) (aB:∀i,i<k0->IB u (t*y i) (L i)) (W:k0=2):CF 299 [.one (.sl (.sl AA) T),.one (.sl AA A)] (.AI [(false,[.sl AA (([]:LR))]),(false,[.bool false])]):=by
 have bd:T.length=u.length+1:=by rw[hT,CG];rfl
 have bb:A.length=2^u.length+2^u.length:=by rw[hA,Bn hx.mem,B8]
 have ad:=El.Cz h;have hR:=h.hR;have bm:VV (r::u).length R s<=SS (r::u).length R s:=Iw u.length R s;have bk:s+II u.length R (TQ u.length R s+GG u.length R)+2*EE u.length R+2<=SS (r::u).length R s:=Jf u.length R s;have bj:=Fw (r::u).length R s;have bh:=Ek u.length R (TQ u.length R s+GG u.length R);have bc:TQ u.length R s=3*s+4*EE u.length R+R+GG u.length R+3+II u.length R R:=rfl;have aU:=DX h.tail.ht;have hN:=El.norm h P.mem O.mem (Z ▸ hx);have ab:=hN.sqrt h.tail hn aA;have aC:El u 1 t:=by rw[ht];exact El.rat h.red.1 MM
 refine AG Tryz.func299 fun E f=>?_
 rintro br ⟨b6,f31⟩;refine BO (fun ag=>?_) fun ag=>?_
 ·exact absurd ag (by omega)
 obtain⟨bx,Q⟩:=xI (Bm x);refine AB f (HB h hT hA hx (by omega) (by omega) aD Q) ?_;refine Cw (fun ah=>?_) fun ah=>?_
 ·exact (JH Q ah ax).elim
 rintro bs ⟨b7,f48⟩ bt b9 bo aS av aQ ai a5;refine AW ((T.length-1)) fun aJ S=>?_
 refine AK ?_;rintro bu ⟨b8,f58⟩ bw ba bp aT aw aR aj a6 bq a8 au b5 ⟨aP,a2⟩ ak a7;have d:ai=tw u:=by rw[a5,List.drop_zero,show av=T.length-1 by omega,hT,Dn]
 have Y:aJ=em u (AM u r):=by rw[hT,FW] at S;exact (Option.some.inj S).symm.trans (Ea h.red)
 have g:aj=em u p:=by rw[a6,List.drop_zero,show aw=A.length/2 by omega,hA,Cs h.red P.mem O.mem Z]
 have j:ak=em u q:=by rw[a7,show au=A.length/2 by omega,a2,a8,List.take_length,hA,Ca h.red P.mem O.mem Z]
 obtain⟨b3,b4,aZ,b0,U⟩:=CA (((0:Int):Rat));refine AB f (EN (by omega) rfl U) ?_;obtain⟨aI,ae⟩:=xR (em u (0));refine AB (r:= .one (.sl AA aI)) f (Gp h.tail d U (by rw[show Re.ofRat ((0:Int):Rat)=0 from rfl];exact ae)) ?_;refine AB f (Ix h.tail.red O.mem j h0) ?_;obtain⟨aV,v⟩:=xR (em u (p*p));refine AB f (D9 h.tail d g g P P (by omega) v) ?_;obtain⟨aW,C⟩:=xR (em u (q*q));refine AB f (D9 h.tail d j j O O (by omega) C) ?_;obtain⟨aX,D⟩:=xR (em u (AM u r*(q*q)));refine AB f (D9 h.tail d Y C ad (O.mul h.tail O) (by omega) D) ?_;obtain⟨an,F⟩:=xR (em u (p*p-AM u r*(q*q)));refine AB f (OA h.tail v D (P.mul h.tail P) (ad.mul h.tail (O.mul h.tail O)) (by omega) (by omega) F) ?_;have ay:an=em u (p*p-q*q*AM u r):=by rw[F,show p*p-AM u r*(q*q)=p*p-q*q*AM u r by grind]
 obtain⟨ao,G⟩:=xR (em u n);refine AB f (aH d ay G) ?_;refine BH ?_;obtain⟨aM,aN,aK,aL,N⟩:=CA ((1/2:Rat));refine AB f (Qg (by omega) (by omega) (by decide) (by decide +kernel) N) ?_;obtain⟨V,H⟩:=xR (em u (t));refine AB (r:= .one (.sl AA V)) f (Gp h.tail d N (H.trans (by rw[ht]))) ?_;refine BN [] [9,12,13,22,24,25] [] (fun vs bl k=>∃(k':Nat) (m:Re) (M:LR) (i:Int),vs=[.one (.sl (.sl AA) ai),.one (.sl AA aj),.one (.sl AA ak),.one (.sl AA M),.one (.sl AA V),.one (.int .i64 i)]/\(AO i k'/\k'<=2)/\(M=em u m/\m=if k'=1 then -n else n)/\k=2-k') (2-0) ⟨0,n,ao,0,rfl,⟨BD 0,by omega⟩,⟨G,rfl⟩,rfl⟩ ?_;rintro J0 a1 vs bl bn ⟨k',m,M,i,rfl,⟨hi,bf⟩,⟨hM,X⟩,bg⟩;conv=>cbv
 have ei:=hi.eq;refine BW (fun af=>?_) fun af=>?_
 ·exact AE ⟨⟨rfl,AL,trivial⟩,t2,trivial⟩
 refine .inr ?_;have W:k'=0\/k'=1:=by omega
 have aa:El u (2*s+2*EE u.length R+R+1+GG u.length R) m:=by rw[X];split;exact ab.neg h.red.1;exact ab
 have az:p+m=y k':=by rcases W with e | e <;> rw[e,X,e] <;> first | (rw[aE];rfl) | (rw[aF];simp;grind)
 obtain⟨aq,I⟩:=xR (em u (y k'));refine AB (r:= .one (.sl AA aq)) f (Ji h.tail g hM P aa (by omega) (by omega) (I.trans (by rw[az]))) ?_;obtain⟨aY,J⟩:=xR (em u (t*y k'));refine AB f (D9 h.tail d H I aC (aG k') (by omega) J) ?_;refine AB f (aB k' (by omega) d J) ?_;obtain⟨ar,K⟩:=xR (em u (-m));refine AB f (Kf h.tail hM aa K) ?_;intro al aO;exact Ba a1 ⟨k'+1,-m,ar,al,rfl,⟨⟨by omega⟩,by omega⟩,⟨K,by clear a1;rcases W with e | e <;> rw[X,e] <;> first | rfl | (show- -n=n;grind)⟩,rfl⟩
theorem fk (h:BF R (r::u)) (hT:T=tw (r::u)) (hA:A=em (r::u) x) (hx:El (r::u) s x) (hxe:x=p+q*rt u r) (hp:El u s p) (hq:El u s q) (hs:SS (r::u).length R s<=60000000000000) (hvR:VV (r::u).length R R<=60000000000000) (h0x:0<=x) (h0:q≠0) (hn:In u n) (hnn:n*n=p*p-q*q*AM u r) (ht:t=Re.ofRat (1/2)) (hyn:IC u (p*p-q*q*AM u r) n) {y:Nat->Re} (hy0:y 0=p+n) (hy1:y 1=p-n) (hyE:∀i,El u (s+(2*s+2*EE u.length R+R+1+GG u.length R)+1) (y i)) {L:Nat->LR} (hk:k0<=2) (hno:∀i,i<k0->IB u (t*y i) (L i)) (hk1:k0<2) {j:Re} (hw:In u w) (hww:w*w=t*y k0) (hyw:IC u (t*y k0) w) (hj:In u j) (hwj:w*j=1) (hB:B=em (r::u) (w+t*(q*j)*rt u r)):CF 299 [.one (.sl (.sl AA) T),.one (.sl AA A)] (.AI [(false,[.sl AA B]),(false,[.bool true])]):=by
 have hTl:T.length=u.length+1:=by rw[hT,CG];rfl
 have hAl:A.length=2^u.length+2^u.length:=by rw[hA,Bn hx.mem,B8]
 have hrr:=El.Cz h;have hR:=h.hR;have hsv:VV (r::u).length R s<=SS (r::u).length R s:=Iw u.length R s;have hsi:s+II u.length R (TQ u.length R s+GG u.length R)+2*EE u.length R+2<=SS (r::u).length R s:=Jf u.length R s;have hsg:=Fw (r::u).length R s;have hmn:=Ek u.length R (TQ u.length R s+GG u.length R);have hTQ:TQ u.length R s=3*s+4*EE u.length R+R+GG u.length R+3+II u.length R R:=rfl;have hp16:=DX h.tail.ht;have hN:=El.norm h hp.mem hq.mem (hxe ▸ hx);have hnE:=hN.sqrt h.tail hn hnn;have htE:El u 1 t:=by rw[ht];exact El.rat h.red.1 MM
 have hhE:=htE.mul h.tail (hyE k0);have hwE:=hhE.sqrt h.tail hw hww;have hjE:=(hwE.mono (t:=TQ u.length R s+GG u.length R) (by omega)).inv h.tail hj hwj;refine AG Tryz.func299 fun E hE=>?_
 rintro n31 ⟨e31,f31⟩;refine BO (fun k32=>?_) fun k32=>?_
 ·exact absurd k32 (by omega)
 obtain⟨r45,hr45⟩:=xI (Bm x);refine AB hE (HB h hT hA hx (by omega) (by omega) hvR hr45) ?_;refine Cw (fun k46=>?_) fun k46=>?_
 ·exact (JH hr45 k46 h0x).elim
 rintro n48 ⟨e48,f48⟩ n49 h49 m52 hm52 b52 hb52 l52 hl52;refine AW ((T.length-1)) fun x55 hx55=>?_
 refine AK ?_;rintro n58 ⟨e58,f58⟩ n59 h59 m62 hm62 b62 hb62 l62 hl62 m65 hm65 a65 b65 ⟨ha65,hb65⟩ l65 hl65;have hl52e:l52=tw u:=by rw[hl52,List.drop_zero,show b52=T.length-1 by omega,hT,Dn]
 have hx55e:x55=em u (AM u r):=by rw[hT,FW] at hx55;exact (Option.some.inj hx55).symm.trans (Ea h.red)
 have hl62e:l62=em u p:=by rw[hl62,List.drop_zero,show b62=A.length/2 by omega,hA,Cs h.red hp.mem hq.mem hxe]
 have hl65e:l65=em u q:=by rw[hl65,show a65=A.length/2 by omega,hb65,hm65,List.take_length,hA,Ca h.red hp.mem hq.mem hxe]
 obtain⟨zb67,zl67,yb67,yl67,hz67⟩:=CA (((0:Int):Rat));refine AB hE (EN (by omega) rfl hz67) ?_;obtain⟨w68,hw68⟩:=xR (em u (0));refine AB (r:= .one (.sl AA w68)) hE (Gp h.tail hl52e hz67 (by rw[show Re.ofRat ((0:Int):Rat)=0 from rfl];exact hw68)) ?_;refine AB hE (Ix h.tail.red hq.mem hl65e h0) ?_;obtain⟨w104,hw104⟩:=xR (em u (p*p));refine AB hE (D9 h.tail hl52e hl62e hl62e hp hp (by omega) hw104) ?_;obtain⟨w110,hw110⟩:=xR (em u (q*q));refine AB hE (D9 h.tail hl52e hl65e hl65e hq hq (by omega) hw110) ?_;obtain⟨w111,hw111⟩:=xR (em u (AM u r*(q*q)));refine AB hE (D9 h.tail hl52e hx55e hw110 hrr (hq.mul h.tail hq) (by omega) hw111) ?_;obtain⟨w112,hw112⟩:=xR (em u (p*p-AM u r*(q*q)));refine AB hE (OA h.tail hw104 hw111 (hp.mul h.tail hp) (hrr.mul h.tail (hq.mul h.tail hq)) (by omega) (by omega) hw112) ?_;have hNe:w112=em u (p*p-q*q*AM u r):=by rw[hw112,show p*p-AM u r*(q*q)=p*p-q*q*AM u r by grind]
 obtain⟨w117,hw117⟩:=xR (em u n);refine AB hE (hyn hl52e hNe hw117) ?_;refine BH ?_;obtain⟨zb122,zl122,yb122,yl122,hz122⟩:=CA ((1/2:Rat));refine AB hE (Qg (by omega) (by omega) (by decide) (by decide +kernel) hz122) ?_;obtain⟨w123,hw123⟩:=xR (em u (t));refine AB (r:= .one (.sl AA w123)) hE (Gp h.tail hl52e hz122 (hw123.trans (by rw[ht]))) ?_;refine BN [] [9,12,13,22,24,25] [] (fun vs bl k=>∃(k':Nat) (m:Re) (M:LR) (i:Int),vs=[.one (.sl (.sl AA) l52),.one (.sl AA l62),.one (.sl AA l65),.one (.sl AA M),.one (.sl AA w123),.one (.int .i64 i)]/\(AO i k'/\k'<=k0)/\(M=em u m/\m=if k'=1 then -n else n)/\k=k0-k') (k0-0) ⟨0,n,w117,0,rfl,⟨BD 0,by omega⟩,⟨hw117,rfl⟩,rfl⟩ ?_;rintro J0 hJ0 vs bl kk0 ⟨k',m,M,i,rfl,⟨hi,hik⟩,⟨hM,hmv⟩,hk0⟩;conv=>cbv
 have ei:=hi.eq;refine BW (fun k125=>?_) fun k125=>?_
 ·exact absurd k125 (by omega)
 refine .inr ?_;have hk2:k'=0\/k'=1:=by omega
 have hmE:El u (2*s+2*EE u.length R+R+1+GG u.length R) m:=by rw[hmv];split;exact hnE.neg h.red.1;exact hnE
 have hmy:p+m=y k':=by rcases hk2 with e | e <;> rw[e,hmv,e] <;> first | (rw[hy0];rfl) | (rw[hy1];simp;grind)
 obtain⟨w135,hw135⟩:=xR (em u (y k'));refine AB (r:= .one (.sl AA w135)) hE (Ji h.tail hl62e hM hp hmE (by omega) (by omega) (hw135.trans (by rw[hmy]))) ?_;obtain⟨w136,hw136⟩:=xR (em u (t*y k'));refine AB hE (D9 h.tail hl52e hw123 hw135 htE (hyE k') (by omega) hw136) ?_
 obtain⟨wl,bb,hcall,hbt,hbf⟩:∃(wl:LR) (bb:Bool),CF 299 [.one (.sl (.sl AA) l52),.one (.sl AA w136)] (.AI [(false,[.sl AA wl]),(false,[.bool bb])])/\(bb=true->k'=k0/\wl=em u w)/\(bb=false->k'<k0):=by
  by_cases e:k'<k0
  ·exact⟨L k',false,hno k' e hl52e hw136,fun e=>(Bool.false_ne_true e).elim,fun _=>e⟩
  have e2:k'=k0:=by omega
  exact⟨em u w,true,hyw hl52e (hw136.trans (by rw[e2])) rfl,fun _=>⟨e2,rfl⟩,fun e=>(Bool.noConfusion e)⟩
 refine AB hE hcall ?_;cases bb <;> conv=>cbv
 ·have hkl:=hbf rfl;obtain⟨w158,hw158⟩:=xR (em u (-m));refine AB hE (Kf h.tail hM hmE hw158) ?_;intro n127 h127;exact Ba hJ0 ⟨k'+1,-m,w158,n127,rfl,⟨⟨by omega⟩,by omega⟩,⟨hw158,by clear hJ0;rcases hk2 with e | e <;> rw[hmv,e] <;> first | rfl | (show- -n=n;grind)⟩,rfl⟩
 obtain⟨hke,hwl⟩:=hbt rfl;subst hke;obtain⟨w144,hw144⟩:=xR (em u (j));refine AB hE (N9 h.tail hl52e hwl (hwE.mono (t:=TQ u.length R s+GG u.length R) (by omega)) hj hwj (by omega) hw144) ?_;obtain⟨w153,hw153⟩:=xR (em u (q*j));refine AB hE (D9 h.tail hl52e hl65e hw144 hq hjE (by omega) hw153) ?_;obtain⟨w154,hw154⟩:=xR (em u (t*(q*j)));refine AB hE (D9 h.tail hl52e hw123 hw153 htE (hq.mul h.tail hjE) (by omega) hw154) ?_;have htq:=htE.mul h.tail (hq.mul h.tail hjE);have hBj:B=wl++w154:=by rw[hB,hwl,hw154];exact FC h.red hw htq.mem rfl
 refine AB (r:= .one (.sl AA B)) hE (Qp (by rw[hwl,Bn hw];omega) (by rw[hw154,Bn htq.mem];omega) hBj) ?_;exact AE ⟨t2,t2,trivial⟩
end
section
open Go.RowKit
variable {R a i k m q:Nat} {b b1 b2 c:Bool} {l l1 l2 o z:List UInt32} {x y:Int}
theorem Y9 {x:Nat} (h:x=2^(m+1)*k):x ||| 2^m=x+2^m:=by
 rw[h,Nat.or_comm,LX (Nat.pow_lt_pow_right (by decide) (Nat.lt_succ_self m)),Nat.add_comm]
theorem cD {x:UInt32} (f:o[q]? =some x) (hm:m<32) (d:2^(32*q+m+1)∣AD o):∃k,x.toNat=2^(m+1)*k:=by
 have G:q<o.length:=by apply Classical.byContradiction;intro F;rw[List.getElem?_eq_none (by omega)] at f;exact absurd f (by simp)
 have e1:AD o=AD (o.take q)+2^(32*q)*(x.toNat+4294967296*AD (o.drop (q+1))):=by
  conv=>lhs;rw[<-List.take_append_drop q o]
  rw[PZ,List.length_take,Nat.min_eq_left (by omega),Ds f]
 have g:2^(32*q)∣AD o:=Nat.dvd_trans ⟨2^(m+1),by rw[<-Nat.pow_add];congr 1⟩ d
 have h:2^(32*q)∣AD (o.take q):=by
  rw[e1] at g;exact (Nat.dvd_add_iff_left ⟨_,rfl⟩).2 g
 have j:AD (o.take q)<2^(32*q):=by
  have:=Cv (o.take q);rwa [List.length_take,Nat.min_eq_left (by omega)] at this
 have v:AD (o.take q)=0:=Nat.eq_zero_of_dvd_of_lt h j;rw[e1,v,Nat.zero_add,Nat.add_assoc,Nat.pow_add] at d;have C:2^(m+1)∣x.toNat+4294967296*AD (o.drop (q+1)):=Nat.dvd_of_mul_dvd_mul_left (Nat.two_pow_pos _) d;have D:2^(m+1)∣4294967296*AD (o.drop (q+1)):=Nat.dvd_trans ⟨2^(31-m),by rw[<-Nat.pow_add,show m+1+(31-m)=32 by omega]⟩ ⟨_,rfl⟩;exact (Nat.dvd_add_iff_left D).2 C
theorem gg {x w:UInt32} (d:o[q]? =some x) (hm:m<32) (f:2^(32*q+m+1)∣AD o) (hw:w.toNat=x.toNat ||| 2^m):AD (o.set q w)=AD o+2^(32*q+m)/\w.toNat=x.toNat+2^m:=by
 obtain⟨k,g⟩:=cD d hm f;rw[Y9 g] at hw;have:=Sc (w:=w) d;rw[hw,Nat.mul_add,<-Nat.pow_add] at this;exact⟨by omega,hw⟩
theorem gI {n a b:Int} {p:Nat} (h:n=IntKind.u32.wrap (BitVec.ofInt IntKind.u32.bits a &&& ~~~ BitVec.ofInt IntKind.u32.bits b).toNat) (ha:a=((p+2^m:Nat):Int)) (hb:b=((2^m:Nat):Int)) (f:p=2^(m+1)*k) (hm:m<32) (H:p+2^m<4294967296):n=p:=by
 have D:=wrap_u32 h;have G:2^m<4294967296:=by omega
 have e1:(BitVec.ofInt 32 a &&& ~~~ BitVec.ofInt 32 b:BitVec 32).toNat=p:=by
  have v:BitVec.ofInt 32 a=BitVec.ofNat 32 (p+2^m):=by rw[ha];exact BitVec.ofInt_natCast 32 _
  have C:BitVec.ofInt 32 b=BitVec.ofNat 32 (2^m):=by rw[hb];exact BitVec.ofInt_natCast 32 _
  rw[v,C]
  have g:BitVec.ofNat 32 (p+2^m) &&& ~~~BitVec.ofNat 32 (2^m)=BitVec.ofNat 32 p:=by
   apply BitVec.eq_of_getLsbD_eq;intro i F;rw[BitVec.getLsbD_and,BitVec.getLsbD_not,BitVec.getLsbD_ofNat,BitVec.getLsbD_ofNat,BitVec.getLsbD_ofNat,<-Y9 f,Nat.testBit_or,Nat.testBit_two_pow]
   have j:p.testBit m=false:=by
    rw[f,Nat.testBit_two_pow_mul];simp;intro h;omega
   by_cases e:m=i
   ·subst e;simp[j,hm]
   simp[e,F]
  rw[g,BitVec.toNat_ofNat];exact Nat.mod_eq_of_lt (Nat.lt_of_le_of_lt (Nat.le_add_right p (2^m)) H)
 have d:n=(((BitVec.ofInt 32 a &&& ~~~ BitVec.ofInt 32 b:BitVec 32).toNat:Nat):Int)%4294967296:=D;rw[e1] at d;rw[d];exact Int.emod_eq_of_lt (by omega) (by omega)
theorem BA.iff {b':Bool} {l':List UInt32} (h:BA x b l) (h':BA y b' l'):x=y↔b=b'/\l=l':=
 ⟨fun e=>h.uniq h' e,fun e=>by rw[h.Eg,h'.Eg,e.1,e.2]⟩
theorem fw {u:List UInt32} {c d b:Nat} (hcu:c<=u.length) (hdu:d<=u.length) (sl:u.length<=17592186044416) (ha:AD (u.take c)=a) (hb:AD (u.take d)=b) (hz:z=AP (a*b)):Bv Tryz.prog 331 [.one (.AZ .u32 0 0 0 c),.one (.AZ .u32 0 0 0 d)] (.arr 0 .u32 u) (.one (.sl .u32 z)):=by
 obtain⟨l,hl⟩:=xU (u.take c);have hll:l.length=c:=by rw[hl,List.length_take];omega
 have hgx:∀i,i<c->l[i]? =u[i]? :=fun i h=>by rw[hl,List.getElem?_take,if_pos h]
 rw[<-hl] at ha;obtain⟨m,hm⟩:=xU (u.take d);have hmm:m.length=d:=by rw[hm,List.length_take];omega
 have hgy:∀i,i<d->m[i]? =u[i]? :=fun i h=>by rw[hm,List.getElem?_take,if_pos h]
 rw[<-hm] at hb;refine CK Tryz.func331 fun E hE=>?_
 conv=>cbv
 intro n10 h10;have e10:=h10.eq;conv=>cbv
 intro n12 h12;have e12:=h12.eq;refine AK ?_;intro n13 h13;refine⟨fun _=>⟨by omega,by omega,by show _*4<=140737488355328;omega⟩,?_⟩;intro k14 (l14:List UInt32) ql14;have hk14:=ql14.1;have hl14:l14=List.replicate k14 (0:el .u32):=ql14.2;have gl14:l14.length=k14:=by rw[hl14,List.length_replicate]
 conv=>cbv
 refine BN [] [0,1,5,6] [0,14] (fun vs bl k=>∃(o:List UInt32) (n i':Nat) (i:Int),vs=[.one (.AZ .u32 0 0 0 c),.one (.AZ .u32 0 0 0 d),.one (.AZ .u32 14 0 0 n),.one (.int .i64 i)]/\bl=[.arr 0 .u32 u,.arr 0 .u32 o]/\(o.length=l.length+m.length/\n=o.length/\AO i i'/\i'<=l.length)/\AD (o.take (i'+m.length))=AD (l.take i')*AD m/\k=l.length-i') (l.length-0) ⟨l14,k14,0,0,rfl,rfl,⟨by rw[hl14,List.length_replicate];omega,by rw[hl14,List.length_replicate],BD 0,by omega⟩,by rw[hl14,List.take_replicate,IX];simp[AD],rfl⟩ ?_;rintro J0 hJ0 vs bl kk0 ⟨o,n,i',i,rfl,rfl,⟨ho,hn,hi,hiL⟩,hinv,hk0⟩;conv=>cbv
 have ei:=hi.eq;intro n17 h17;have e17:=h17.eq;conv=>cbv
 refine BW (fun k18=>?_) fun k18=>?_
 ·have hnl66:n<=(o).length:=by omega
  obtain⟨m66,hm66⟩:=xN ((CV ((o).take n)).length);obtain⟨hle66,htk66⟩:=Ei hnl66 hm66;refine .inr (.inr (.inl ⟨[],.one (.AZ .u32 0 0 0 m66),.arr 0 .u32 o,fun _=>⟨by first | decide | simp[Ck,Cj],trivial⟩,fun _=>⟨EK hE (Gr hnl66 (by omega) hm66),rfl,rfl⟩,?_⟩));try conv=>cbv
  have hfin:AD (o.take n)=a*b:=by rw[show i'=l.length by omega,List.take_length,ha,hb,<-ho,List.take_length] at hinv;rw[hn,List.take_length,hinv]
  refine fun _=>⟨⟨⟨⟨rfl,.inl ⟨_,rfl,by omega,congrArg _ (by rw[List.drop_zero,htk66,hfin,hz])⟩,trivial⟩,trivial⟩,rfl,by simp⟩,rfl⟩
 refine .inr ?_;refine BN [] [0,1,5,6,7,8] [0,14] (fun vs bl k=>∃(o1:List UInt32) (n1 c' k':Nat) (cc i1:Int),vs=[.one (.AZ .u32 0 0 0 c),.one (.AZ .u32 0 0 0 d),.one (.AZ .u32 14 0 0 n1),.one (.int .i64 i),.one (.int .u64 cc),.one (.int .i64 i1)]/\bl=[.arr 0 .u32 u,.arr 0 .u32 o1]/\(o1.length=l.length+m.length/\n1=o1.length/\AO i1 k'/\k'<=m.length/\AO cc c'/\c'<4294967296)/\AD (o1.take (i'+m.length))+2^(32*(i'+k'))*c'=AD (l.take i')*AD m+(l.getD i' 0).toNat*2^(32*i')*AD (m.take k')/\k=m.length-k') (m.length-0) ⟨o,n,0,0,0,0,rfl,rfl,⟨ho,hn,BD 0,by omega,BD 0,by omega⟩,by rw[hinv];simp[AD],rfl⟩ ?_;rintro J1 hJ1 vs bl kk1 ⟨o1,n1,c',k',cc,i1,rfl,rfl,⟨ho1,hn1,hi1,hiL1,hc,hc1⟩,hinv1,hk1⟩;conv=>cbv
 have ei1:=hi1.eq;have ec:=hc.eq;intro n23 h23;have e23:=h23.eq;conv=>cbv
 refine BW (fun k24=>?_) fun k24=>?_
 ·intro n60 h60;have e60:=h60.eq;refine AK ?_;intro n61 h61 n63 h63;have h63:=wrap_u32 h63;refine AK ?_;intro j64 hj64;obtain⟨w64,hw64⟩:=CZ (n:=n63) (by omega);have ew64:=hw64.eq;have fw64:=hw64.lt;refine⟨w64,fun _=>⟨by show _<List.length (α:=UInt32) o1;(first | omega | (simp;omega)),CY hw64⟩,?_⟩;intro (l64:List UInt32) (hl64:l64=List.set (α:=UInt32) o1 j64 w64);have gl64:l64.length=o1.length:=by rw[hl64,List.length_set]
  refine AK ?_;intro n20 h20;refine⟨l.length-(i'+1),?_,?_⟩
  ·omega
  rw[hJ0];refine⟨l64,n1,i'+1,n20,rfl,rfl,⟨by rw[hl64,List.length_set];exact ho1,by rw[hl64,List.length_set];exact hn1,⟨by omega⟩,by omega⟩,?_,rfl⟩;obtain⟨ai,hai⟩:=CM (l:=l) (i:=i') (by omega);have hk:k'=m.length:=by omega
  have hlen:i'+m.length<o1.length:=by omega
  rw[hl64,show i'+1+m.length=i'+m.length+1 by omega,show j64=i'+m.length by omega,FB hlen,ET,List.length_take,Nat.min_eq_left (by omega),show w64.toNat=c' by omega];rw[hk,LB hai] at hinv1;rw[hinv1,List.take_length,Cq hai]
  grind
 refine .inr ?_;refine AK ?_;intro n31 h31 j32 hj32;obtain⟨x33,hx33⟩:=CM (l:=o1) (i:=j32) (by omega);refine⟨x33,fun _=>hx33,?_⟩;refine AS ?_;intro n33 h33 n34 h34;have e33:=h33.eq;have f33:=h33.lt;have h34:=wrap_u64 h34;intro n35 h35;conv=>cbv
 have h35:=wrap_u64 h35;refine AK ?_;intro j38 hj38;obtain⟨x39,hx39⟩:=CM (l:=u) (i:=j38) (by omega);refine⟨x39,fun _=>hx39,?_⟩;refine AS ?_;intro n39 h39 n40 h40;have e39:=h39.eq;have f39:=h39.lt;have h40:=wrap_u64 h40;refine AK ?_;intro j43 hj43;obtain⟨x44,hx44⟩:=CM (l:=u) (i:=j43) (by omega);refine⟨x44,fun _=>hx44,?_⟩;refine AS ?_;intro n44 h44 n45 h45;have e44:=h44.eq;have f44:=h44.lt;have h45:=wrap_u64 h45;have ep:n40*n45=((x39.toNat*x44.toNat:Nat):Int):=by rw[Int.natCast_mul];congr 1 <;> omega
 have bp:x39.toNat*x44.toNat<=4294967295*4294967295:=Nat.mul_le_mul (by omega) (by omega);intro n46 h46;conv=>cbv
 have h46:=wrap_u64 h46;intro n47 h47;conv=>cbv
 have h47:=wrap_u64 h47;refine AK ?_;intro Dy h51 Dj h53;have h53:=wrap_u32 h53;refine AK ?_;intro j54 hj54;obtain⟨w54,hw54⟩:=CZ (n:=Dj) (by omega);have ew54:=hw54.eq;have fw54:=hw54.lt;refine⟨w54,fun _=>⟨by show _<List.length (α:=UInt32) o1;(first | omega | (simp;omega)),CY hw54⟩,?_⟩;intro (l54:List UInt32) (hl54:l54=List.set (α:=UInt32) o1 j54 w54);have gl54:l54.length=o1.length:=by rw[hl54,List.length_set]
 refine AK ?_;intro n56 h56;have h56:=EW (p:=4294967296) h56 rfl;refine AK ?_;intro n26 h26;refine⟨m.length-(k'+1),?_,?_⟩
 ·omega
 rw[hJ1];have hx38:l[i']? =some x39:=by rw[hgx _ (by omega),show i'=j38 by omega];exact hx39
 have hx43:m[k']? =some x44:=by rw[hgy _ (by omega),show k'=j43 by omega];exact hx44
 refine⟨l54,n1,n56.toNat,k'+1,n56,n26,rfl,rfl,⟨by rw[hl54,List.length_set];exact ho1,by rw[hl54,List.length_set];exact hn1,⟨by omega⟩,by omega,⟨by omega⟩,by omega⟩,?_,rfl⟩;have hj:j54=i'+k':=by omega
 have hj2:j32=i'+k':=by omega
 rw[hj2] at hx33;rw[LB hx38] at hinv1;rw[hl54,hj,Cq hx43,show i'+(k'+1)=i'+k'+1 by omega,LB hx38];refine UH (q:=x33) (xi:=x39.toNat) (yk:=x44.toNat) (old:=x33.toNat) (c:=c') rfl (by omega) hx33 rfl hinv1 ?_ rfl;rw[ep] at h46;omega
theorem iF (h:Bu ((R*R:Nat):Int) a<=0):R*R<=a:=by
 unfold Bu at h
 split at h
 ·omega
 split at h
 ·omega
 omega
theorem iE (h:Bu ((R*R:Nat):Int) a>0):a<R*R:=by
 unfold Bu at h
 split at h
 ·omega
 split at h
 ·omega
 omega
theorem oQ {α:Type} {l:List α} {x:α} (h:l[i]? =some x):l.set i x=l:=by
 apply List.ext_getElem?;intro k
 by_cases e:i=k
 ·subst e;rw[h,List.getElem?_set_self];apply Classical.byContradiction;intro d;rw[List.getElem?_eq_none (by omega)] at h;exact absurd h (by simp)
 rw[List.getElem?_set_ne e]
theorem N4 (hx:BA x b l) (h0:0<=x) (hz:BA ((Bt x.toNat:Nat):Int) c z) (sl:l.length<=17592186043000):CF 378 [.agg (BX b l)] (.AI [(true,(BX c z)),(false,[.int .i64 0])]):=by
 obtain⟨a,ha⟩:=xN x.toNat;obtain⟨N,hN⟩:=xN ((DL a+1)/2);have ad:x.natAbs=a:=by omega
 have aM:l=AP a:=by rw[<-ad];exact hx.Bb
 rw[<-ha] at hz
 have aI:a<2^N*2^N:=by
  rw[<-Nat.pow_add]
  by_cases h:a=0
  ·rw[h];exact Nat.two_pow_pos _
  exact Nat.lt_of_lt_of_le (Pa (by omega:0<a)).2.1 (Nat.pow_le_pow_right (by decide) (by omega))
 have bB:N<=300000000000000:=by
  have h1:DL a<=32*l.length:=by
   by_cases h:a=0
   ·rw[h];exact Nat.zero_le _
   have h2:=(Pa (by omega:0<a)).1;have h3:a<2^(32*l.length):=by have:=Cv l;rw[hx.nat,ad] at this;exact this
   have h4:=(Nat.pow_lt_pow_iff_right (a:=2) (by decide)).1 (Nat.lt_of_le_of_lt h2 h3);omega
  omega
 refine AG Tryz.func378 fun E hE=>?_
 refine AB hE (IA hx) ?_;cases b <;> conv=>cbv
 ·obtain⟨aX,Z⟩:∃n:Int,AO n (DL a):=⟨_,⟨rfl⟩⟩
  have aZ:=Z.eq;refine AB (r:= .one (.int .i64 aX)) hE (eB hx (by rw[ad];exact Z) sl) ?_;intro bF bo bG bp bH bq bI br;refine⟨fun _=>⟨by omega,by omega,by show _*4<=140737488355328;omega⟩,?_⟩;intro ae (af:List UInt32) a5;have bh:=a5.1;have f:af=List.replicate ae (0:el .u32):=a5.2;have b6:af.length=ae:=by rw[f,List.length_replicate]
  refine AK ?_;intro aR bs;refine BN [] [1,2,3,5,6] [1,2,19] (fun vs bl k=>∃(o:List UInt32) (m j:Nat) (i:Int),vs=[.one (.AR 1 0 0),.one (.AR 2 0 0),.one (.int .i64 0),.one (.AZ .u32 19 0 0 m),.one (.int .i64 i)]/\bl=[.var 0 [.bool false,.sl .u32 l],.var 0 [.bool false,.nil],.arr 0 .u32 o]/\(o.length=N/32+1/\m=o.length/\AO (i+1) j/\j<=N)/\(2^j∣AD o/\AD o*AD o<=a/\a<(AD o+2^j)*(AD o+2^j))/\k=j) N ⟨af,ae,N,aR,rfl,rfl,⟨by rw[f,List.length_replicate];omega,by rw[f,List.length_replicate],⟨by omega⟩,Nat.le_refl _⟩,⟨by rw[f,IX];exact Nat.dvd_zero _,by rw[f,IX];omega,by rw[f,IX,Nat.zero_add];exact aI⟩,rfl⟩ ?_;rintro J0 aq vs bl bE ⟨o,m,j,i,rfl,rfl,⟨ho,hm,hi,bC⟩,⟨hd,au,a6⟩,bD⟩;conv=>cbv
  have ei:=hi.eq;refine Ir (fun aQ=>?_) fun aQ=>?_
  ·have aK:j=0:=by omega
   rw[aK] at a6;have aP:=Xz au a6
   have av:((Bt a:Nat):Int)=if false=true then -(AD (o.take m):Int) else AD (o.take m):=by
    rw[if_neg (by decide),hm,List.take_length,aP]
   obtain⟨aB,aC,M⟩:=Ak (((Bt a:Nat):Int));refine .inr (.inr (.inr (.inl ⟨19,.arr 0 .u32 o,[.one (.bool false),.one (.sl .u32 ((o).take m))],.agg [.bool aB,.sl .u32 aC],fun _=>⟨⟨by decide,rfl,by first | rfl | decide | simp[Ck,Cj]⟩,⟨rfl,⟨_,rfl,by simp <;> omega,by simp⟩,trivial⟩⟩,fun _=>⟨FG hE (HC (n:=false) av M),rfl⟩,?_⟩)));try conv=>cbv
   exact AE ⟨⟨rfl,congrArg _ ((M.uniq hz rfl).1.symm),congrArg _ ((M.uniq hz rfl).2.symm),trivial⟩,t2,trivial⟩
  refine .inr ?_;refine AK ?_;intro bJ bt bK bu;obtain⟨i',aJ⟩:∃i',j=i'+1:=⟨j-1,by omega⟩
  subst aJ;refine AK ?_;intro S bc;obtain⟨v,G⟩:=CM (l:=o) (i:=S) (by omega);refine⟨v,fun _=>G,?_⟩;refine AK ?_;intro bL al bM bw aS aE;have bn:=al.eq;have f33:=al.lt
  obtain⟨b9,Y⟩:aS=((2^(i'%32):Nat):Int)/\2^(i'%32)<4294967296:=by
   have hb:2^(i'%32)<4294967296:=Nat.lt_of_le_of_lt (Nat.pow_le_pow_right (by decide) (by omega:i'%32<=31)) (by decide);have:=TV (p:=1) (e:=i'%32) aE rfl (by omega);rw[this,Nat.one_mul];exact⟨congrArg _ (Nat.mod_eq_of_lt hb),hb⟩
  intro aT aF;conv=>cbv
  have ba:=Ph (p:=v.toNat) (q:=2^(i'%32)) aF (by omega) (by omega) (by omega) Y;have bk:v.toNat ||| 2^(i'%32)<4294967296:=Nat.or_lt_two_pow (n:=32) v.toNat_lt Y
  refine AK ?_;intro O bd;obtain⟨Q,K⟩:=CZ (n:=aT) (by omega);have b0:=K.eq;have b4:=K.lt;refine⟨Q,fun _=>⟨by show _<List.length (α:=UInt32) o;(first | omega | (simp;omega)),CY K⟩,?_⟩;intro (d:List UInt32) (F:d=List.set (α:=UInt32) o O Q);have b7:d.length=o.length:=by rw[F,List.length_set]
  conv=>cbv
  refine g2 rfl ?_;have ab:Q.toNat=v.toNat ||| 2^(i'%32):=by omega
  have a7:2^(32*(i'/32)+i'%32)=2^i':=by congr 1;omega
  have g:=gg (o:=o) (q:=i'/32) (m:=i'%32) (x:=v) (w:=Q) (by rw[show i'/32=S by omega];exact G) (by omega) (by rw[show 32*(i'/32)+i'%32+1=i'+1 by omega];exact hd) ab;rw[show i'/32=O by omega,<-F,show O=i'/32 by omega] at g;have H:m<=(d).length:=by omega
  obtain⟨ag,W⟩:=xN ((CV ((d).take m)).length);obtain⟨aN,a8⟩:=Ei H W;refine .inr (.inr (.inl ⟨[],.one (.AZ .u32 0 0 0 ag),.arr 0 .u32 d,fun _=>⟨by first | decide | simp[Ck,Cj],trivial⟩,fun _=>⟨EK hE (Gr H (by omega) W),rfl,rfl⟩,?_⟩));try conv=>cbv
  have I:m<=(d).length:=by omega
  obtain⟨ah,X⟩:=xN ((CV ((d).take m)).length);obtain⟨aO,aa⟩:=Ei I X;refine .inr (.inr (.inl ⟨[],.one (.AZ .u32 0 0 0 ah),.arr 0 .u32 d,fun _=>⟨by first | decide | simp[Ck,Cj],trivial⟩,fun _=>⟨EK hE (Gr I (by omega) X),rfl,rfl⟩,?_⟩));try conv=>cbv
  obtain⟨R,hR⟩:=xN (AD d);obtain⟨aY,a1⟩:=xU (AP (R*R));have ar:AD d*AD d=R*R:=by rw[hR]
  have aw:AD (d.take ag)=R:=by rw[a8,BS,hR];congr 1;exact List.take_of_length_le (by omega)
  have ax:AD (d.take ah)=R:=by rw[aa,BS,hR];congr 1;exact List.take_of_length_le (by omega)
  refine .inr (.inr (.inr (.inl ⟨19,.arr 0 .u32 d,[.one (.AZ .u32 0 0 0 ag),.one (.AZ .u32 0 0 0 ah)],.one (.sl .u32 aY),fun _=>⟨rfl,⟨⟨⟨rfl,rfl⟩,rfl⟩,⟨⟨rfl,rfl⟩,rfl⟩,trivial⟩⟩,fun _=>CW hE (fw (by omega) (by omega) (by omega) aw ax a1),?_⟩)));try conv=>cbv
  obtain⟨bQ,J⟩:=xI (Bu ((R*R:Nat):Int) a);refine AB hE (MG a1 aM J) ?_;intro aU an;refine .inr ?_;cases aU <;> conv=>cbv
  ·have P:=GX an;refine AK ?_;intro ai aD;refine⟨i',?_,?_⟩
   ·omega
   rw[aq];have C:2^i'∣AD o:=Nat.dvd_trans ⟨2,by rw[Nat.pow_succ]⟩ hd;refine⟨d,m,i',ai,rfl,rfl,⟨by omega,by omega,⟨by omega⟩,by omega⟩,⟨?_,?_,?_⟩,rfl⟩
   ·rw[g.1];exact Nat.dvd_add C (by rw[a7];exact Nat.dvd_refl _)
   ·rw[ar];rw[J] at P;have:=iF P;exact this
   rw[g.1,a7];rw[Nat.pow_succ] at a6;rwa [show AD o+2^i'+2^i'=AD o+2^i'*2 by omega]
  have P:=GY an;refine AK ?_;intro bN bx Dj bz ay bf;obtain⟨aA,a2⟩:=CM (l:=d) (i:=ay) (by omega);refine⟨aA,fun _=>a2,?_⟩;refine AK ?_;intro bO ao bP bA aV aG;have ak:=ao.eq;have f55:=ao.lt
  obtain⟨bb,bm⟩:aV=((2^(i'%32):Nat):Int)/\2^(i'%32)<4294967296:=by
   have hb:2^(i'%32)<4294967296:=Nat.lt_of_le_of_lt (Nat.pow_le_pow_right (by decide) (by omega:i'%32<=31)) (by decide);have:=TV (p:=1) (e:=i'%32) aG rfl (by omega);rw[this,Nat.one_mul];exact⟨congrArg _ (Nat.mod_eq_of_lt hb),hb⟩
  intro aW aH;conv=>cbv
  obtain⟨kk,aL⟩:=cD (o:=o) (q:=i'/32) (m:=i'%32) (x:=v) (by rw[show i'/32=S by omega];exact G) (by omega) (by rw[show 32*(i'/32)+i'%32+1=i'+1 by omega];exact hd)
  have ak:aA=Q:=by
   have:=a2;rw[F,show ay=i'/32 by omega,show O=i'/32 by omega,List.getElem?_set_self (by omega)] at this;exact (Option.some.inj this).symm
  have bj:=gI (p:=v.toNat) (m:=i'%32) aH (by rw[<-g.2,<-ak];omega) (by omega) aL (by omega) (by rw[<-g.2];omega);refine AK ?_;intro az bg;obtain⟨aj,L⟩:=CZ (n:=aW) (by omega);have b3:=L.eq;have b5:=L.lt;refine⟨aj,fun _=>⟨by show _<List.length (α:=UInt32) d;(first | omega | (simp;omega)),CY L⟩,?_⟩;intro (U:List UInt32) (V:U=List.set (α:=UInt32) d az aj);have b8:U.length=d.length:=by rw[V,List.length_set]
  refine AK ?_;intro ai aD;refine⟨i',?_,?_⟩
  ·omega
  rw[aq];have C:2^i'∣AD o:=Nat.dvd_trans ⟨2,by rw[Nat.pow_succ]⟩ hd
  have D:U=o:=by
   have e1:aj=v:=UInt32.toNat_inj.1 (by omega);rw[V,F,show az=i'/32 by omega,show O=i'/32 by omega,List.set_set,e1];exact oQ (by rw[show i'/32=S by omega];exact G)
  refine⟨U,m,i',ai,rfl,rfl,⟨by rw[D];exact ho,by rw[D];exact hm,⟨by omega⟩,by omega⟩,?_,rfl⟩;rw[D];refine⟨C,au,?_⟩;rw[J] at P;have:=iE P;rw[<-ar,g.1,a7] at this;exact this
 exact absurd hx.neg (by simp;omega)
theorem pM {α:Type} {X Y:List α} {x y:α} (d:X[i]? =some x) (f:Y[i]? =some y) (h:X.take i=Y.take i) (e:x=y):X.take (i+1)=Y.take (i+1):=by
 rw[List.take_add_one,List.take_add_one,d,f,h,e]
theorem N7 (J:BA x b1 l1) (K:BA y b2 l2) (I:c=decide (x=y)):CF 379 [.agg (BX b1 l1),.agg (BX b2 l2)] (.one (.bool c)):=by
 refine AG Tryz.func379 fun E hE=>?_
 intro S v;cases S <;> conv=>cbv
 ·have g:=Kk v;refine AS ?_;rintro a8 ⟨L,f14⟩ aa ⟨Y,f17⟩;refine Fa (fun O=>?_) fun O=>?_
  ·exact AF (by rw[I];exact (decide_eq_false (fun e=>by have h:=((J.iff K).1 e).2;rw[h] at L;omega)))
  refine BN [] [2,3,4,5] [2,3] (fun vs W k=>∃(k':Nat) (j:Int),vs=[.one (.AR 2 0 0),.one (.AR 3 0 0),.one (.bool false),.one (.int .i64 j)]/\W=[.var 0 [.bool b1,.sl .u32 l1],.var 0 [.bool b2,.sl .u32 l2]]/\(AO j k'/\k'<=l1.length/\l1.length=l2.length/\b1=b2)/\l1.take k'=l2.take k'/\k=l1.length-k') (l1.length-0) ⟨0,0,rfl,rfl,⟨BD 0,by omega,by omega,g⟩,rfl,rfl⟩ ?_;rintro J0 N vs W a7 ⟨k',j,rfl,rfl,⟨hj,a5,H,G⟩,hinv,a6⟩;have ej:=hj.eq;refine AS ?_;rintro ab ⟨Z,f23⟩;refine BW (fun P=>?_) fun P=>?_
  ·exact AF (by rw[I];exact (decide_eq_true ((J.iff K).2 ⟨G,by have h:=hinv;rw[show k'=l1.length by omega,List.take_length,H,List.take_length] at h;exact h⟩)))
  refine .inr ?_;refine AW k' fun af d=>?_
  refine AS ?_;intro ad C;have a1:=C.eq;have f31:=C.lt;refine AW k' fun ag f=>?_
  refine AK ?_;intro ae D V F;have M:=D.eq;have f36:=D.lt;cases V <;> conv=>cbv
  ·have Q:=Ht F;refine AK ?_;intro U a2;exact Ba N ⟨k'+1,U,rfl,rfl,⟨⟨by omega⟩,by omega,H,G⟩,pM d f hinv (UInt32.toNat_inj.1 (by omega)),rfl⟩
  have Q:=Hu F;exact AF (by rw[I];exact (decide_eq_false (fun e=>by have h:=((J.iff K).1 e).2;have X:=d;rw[h,f] at X;have h3:=Option.some.inj X;rw[h3] at M;omega)))
 have g:=Km v;exact AF (by rw[I];exact (decide_eq_false (fun e=>g ((J.iff K).1 e).1)))
theorem eZ {q r:Rat} {c1 c2:Bool} {m1 m2:List UInt32} (g:BY q b1 l1 b2 l2) (W:CR q) (I:0<=r) (L:r*r=q) (F:BY r c1 m1 c2 m2):CF 346 [.agg (Bw b1 l1 b2 l2)] (.AI [(true,(Bw c1 m1 c2 m2)),(false,[.bool true])]):=by
 have C:=bC I L;have D:=bB I L;have H:0<=q.num:=by rw[<-C.2,<-C.1];exact Int.mul_nonneg (by omega) (by omega)
 have G:(0:Int)<=(q.den:Int):=by omega
 have X:=g.small W;obtain⟨M,Q,d⟩:=Ak (((Bt q.num.toNat:Nat):Int));obtain⟨N,S,f⟩:=Ak (((Bt (q.den:Int).toNat:Nat):Int));have J:=LG g.num d;have K:=LG g.den f;refine AG Tryz.func346 fun E v=>?_
 cases b1 <;> conv=>cbv
 ·refine AB v (N4 g.num H d (by omega)) ?_;refine AB v (N4 g.den G f (by omega)) ?_;obtain⟨O,U,h⟩:=Ak (((Bt q.num.toNat:Nat):Int)*((Bt q.num.toNat:Nat):Int));refine AB v (Dr d d h (by omega) (by omega)) ?_;refine AB (r:= .one (.bool true)) v (N7 h g.num (by rw[C.1];exact (decide_eq_true C.2).symm)) ?_;refine BH ?_;obtain⟨P,V,j⟩:=Ak (((Bt (q.den:Int).toNat:Nat):Int)*((Bt (q.den:Int).toNat:Nat):Int));refine AB v (Dr f f j (by omega) (by omega)) ?_;refine AB (r:= .one (.bool true)) v (N7 j g.den (by rw[D.1];exact (decide_eq_true D.2).symm)) ?_;refine BH ?_;exact AE ⟨⟨rfl,congrArg _ ((d.uniq F.num C.1).1.symm),congrArg _ ((d.uniq F.num C.1).2.symm),congrArg _ ((f.uniq F.den D.1).1.symm),congrArg _ ((f.uniq F.den D.1).2.symm),trivial⟩,t2,trivial⟩
 exact absurd (of_decide_eq_true g.num.neg.symm) (by omega)
theorem eY {q:Rat} (j:BY q b1 l1 b2 l2) (hs:CR q) (Z:¬∃r:Rat,0<=r/\r*r=q):CF 346 [.agg (Bw b1 l1 b2 l2)] (.AI [(true,[.bool false,.sl .u32 [],.bool false,.sl .u32 []]),(false,[.bool false])]):=by
 have I:(0:Int)<=(q.den:Int):=by omega
 have a1:=j.small hs;obtain⟨N,S,d⟩:=Ak (((Bt q.num.toNat:Nat):Int));obtain⟨O,U,f⟩:=Ak (((Bt (q.den:Int).toNat:Nat):Int));have L:=LG j.num d;have M:=LG j.den f;refine AG Tryz.func346 fun E D=>?_
 cases b1 <;> conv=>cbv
 ·have J:0<=q.num:=by have:=of_decide_eq_false j.num.neg.symm;omega
  refine AB D (N4 j.num J d (by omega)) ?_;refine AB D (N4 j.den I f (by omega)) ?_;obtain⟨P,V,v⟩:=Ak (((Bt q.num.toNat:Nat):Int)*((Bt q.num.toNat:Nat):Int));refine AB D (Dr d d v (by omega) (by omega)) ?_;obtain⟨X,g⟩:=xB (decide (((Bt q.num.toNat:Nat):Int)*((Bt q.num.toNat:Nat):Int)=q.num));refine AB D (N7 v j.num g) ?_;refine Gm (fun G=>?_) fun G=>?_
  ·exact AE ⟨⟨rfl,rfl,AL,rfl,AL,trivial⟩,t2,trivial⟩
  obtain⟨Q,W,C⟩:=Ak (((Bt (q.den:Int).toNat:Nat):Int)*((Bt (q.den:Int).toNat:Nat):Int));refine AB D (Dr f f C (by omega) (by omega)) ?_;obtain⟨Y,h⟩:=xB (decide (((Bt (q.den:Int).toNat:Nat):Int)*((Bt (q.den:Int).toNat:Nat):Int)=(q.den:Int)));refine AB D (N7 C j.den h) ?_;intro K F;cases K <;> conv=>cbv
  ·have H:=GD F;exact absurd (bA (of_decide_eq_true (g.symm.trans (by simpa using G))) (of_decide_eq_true (h.symm.trans (by simpa using H)))) Z
  have H:=GF F;exact AE ⟨⟨rfl,rfl,AL,rfl,AL,trivial⟩,t2,trivial⟩
 exact AE ⟨⟨rfl,rfl,AL,rfl,AL,trivial⟩,t2,trivial⟩
end
section
open Go.RowKit
variable {A:LR} {T:List LR} {q:Rat}
theorem fi {B:LR} {r:Rat} (K:T=[]) (F:A=[rp q]) (I:B=[rp r]) (M:CR q) (G:0<=r) (L:r*r=q):CF 299 [.one (.sl (.sl AA) T),.one (.sl AA A)] (.AI [(false,[.sl AA B]),(false,[.bool true])]):=by
 refine AG Tryz.func299 fun E J=>?_
 rintro N ⟨D,f31⟩;refine CH (fun g=>?_) fun g=>?_
 ·exact absurd (by rw[D,K];rfl) g
 have H:A.length=1:=by rw[F];rfl
 refine AW 0 fun O f=>?_
 try conv=>cbv
 obtain⟨v,C,h,j,d⟩:=CA r;refine AB J (eZ (E7 F f) M G L d) ?_;refine⟨[((v,C),(h,j))],fun _=>⟨rfl,by decide,rfl,⟨rfl,by first | exact t1 | exact t2 | exact t4 | simp[BR,BV,cells],trivial⟩⟩,.inl ?_⟩;try conv=>cbv
 exact AE ⟨⟨rfl,.inl ⟨_,rfl,by simp,congrArg _ (by rw[I,d.rp];rfl)⟩,trivial⟩,t2,trivial⟩
theorem fh {l:LR} (C:T=[]) (h:A=[rp q]) (D:l=[(((false,[]),(false,[])):el AA)]) (G:CR q) (F:¬∃r:Rat,0<=r/\r*r=q):CF 299 [.one (.sl (.sl AA) T),.one (.sl AA A)] (.AI [(false,[.sl AA l]),(false,[.bool false])]):=by
 refine AG Tryz.func299 fun E v=>?_
 rintro H ⟨g,f31⟩;refine CH (fun f=>?_) fun f=>?_
 ·exact absurd (by rw[g,C];rfl) f
 have j:A.length=1:=by rw[h];rfl
 refine AW 0 fun I d=>?_
 try conv=>cbv
 refine AB v (eY (E7 h d) G F) ?_;refine⟨[((false,[]),(false,[]))],fun _=>⟨rfl,by decide,rfl,⟨rfl,by first | exact t1 | exact t2 | exact t4 | simp[BR,BV,cells],trivial⟩⟩,.inl ?_⟩;try conv=>cbv
 exact AE ⟨⟨rfl,.inl ⟨_,rfl,by simp,congrArg _ (by rw[D];rfl)⟩,trivial⟩,t2,trivial⟩
def VI (R:Nat) (u:List (List Rat)):Prop:=∀{s:Nat} {x:Re},El u s x->SS u.length R s<=60000000000000->VV u.length R R<=60000000000000->(∃w,In u w/\w*w=x/\IC u x w)\/(¬Sq u x/\∃l,IB u x l)
theorem US {u:List (List Rat)} {R:Nat} (h:BF R u):VI R u:=by
 induction u with
 | nil=>
  intro s x J Q v;obtain⟨q,rfl⟩:=Ct.1 J.mem
  have af:CR q:=by
   have:=J.CT (by have:=Ux ([]:List (List Rat)).length R s;omega);rw[Dg] at this;exact this q List.mem_cons_self
  by_cases hr:∃r:Rat,0<=r/\r*r=q
  ·obtain⟨r,P,hr⟩:=hr;refine .inl ⟨Re.ofRat r,HN r _,by rw[<-Re.ofRat_mul,hr],?_⟩;intro T A B D C Z;exact fi D (C.trans (EB q)) (Z.trans (EB r)) af P hr
  exact .inr ⟨fun Q=>hr (aw.1 Q),_,fun D C=>fh D (C.trans (EB q)) rfl af hr⟩
 | cons r u g=>
  have g:VI R u:=g h.tail;intro s x J Q v;obtain⟨p,q,d,G,M⟩:=El.parts h.red J
  by_cases a8:x<0
  ·refine .inr ⟨?_,[],fun D C=>fq h D C J d G M Q v a8⟩
   rintro⟨w,_,hw⟩
   have:=Re.Ft w
   clear g;grind
  have H:0<=x:=by clear g;grind
  have aB:TQ u.length R s=3*s+4*EE u.length R+R+GG u.length R+3+II u.length R R:=rfl;have aD:SS u.length R (TQ u.length R s)<=SS (r::u).length R s:=Uw u.length R s;have hQ:∀s',s'<=TQ u.length R s->SS u.length R s'<=60000000000000:=fun s' h'=>Nat.le_trans (Nz u.length R h') (by omega)
  have F:VV u.length R R<=60000000000000:=Nat.le_trans (U6 u.length R R) v;have au:=El.Cz h;have av:=Cu h.red
  by_cases P:q=0
  ·have a2:x=p:=by rw[d,P];clear g;grind
   rcases g G (hQ _ (by omega)) F with⟨w,hw,f,hy⟩ |⟨K,l,hn⟩
   ·refine .inl ⟨w,E6 hw,by rw[a2];exact f,?_⟩;intro T A B D C Z;exact ft h D C J d G M Q v H P hw hy Z
   obtain⟨i,S,N⟩:=Dv h.red.1 (B9 h.red) (by have:=h.red.2.2.1;grind);have aj:=au.inv h.tail S N;rcases g (G.mul h.tail aj) (hQ _ (by omega)) F with⟨w,hw,f,hy⟩ |⟨ad,l2,an⟩
   ·refine .inl ⟨w*rt u r,Cd.2 ⟨0,w,CN u,hw,by clear g;grind⟩,?_,?_⟩
    ·have:p=p*(AM u r*i):=by rw[N];clear g;grind
     rw[a2];clear g;grind
    intro T A B D C Z;exact fu h D C J d G M Q v H P S N hn hw hy Z
   refine .inr ⟨?_,[],?_⟩
   ·rw[a2,ar h.red G.mem];rintro (h1 |⟨i',aC,ae,h1⟩)
    ·exact K h1
    have:i'=i:=by
     have:i'=i'*(AM u r*i):=by rw[N];clear g;grind
     have h2:i=i*(AM u r*i'):=by rw[ae];clear g;grind
     clear g;grind
    rw[this] at h1;exact ad h1
   intro T A D C;exact fv h D C J d G M Q v H P S N hn an
  have hN:=El.norm h G.mem M.mem (d ▸ J);rcases g hN (hQ _ (by omega)) F with⟨n,hn,I,ai⟩ |⟨K,l,ao⟩
  rotate_left
  ·exact .inr ⟨fun hS=>K (ay h.red G.mem M.mem (d ▸ hS)),[],fun D C=>fj h D C J d G M Q v H P ao⟩
  have a7:=hN.sqrt h.tail hn I;obtain⟨t,ht⟩:∃t:Re,t=Re.ofRat (1/2):=⟨_,rfl⟩
  have U:=Xh ht;have a1:El u 1 t:=by rw[ht];exact El.rat h.red.1 MM
  obtain⟨y,hy⟩:∃y:Nat->Re,y=fun i=>if i=0 then p+n else p-n:=⟨_,rfl⟩
  have V:y 0=p+n:=by rw[hy];rfl
  have W:y 1=p-n:=by rw[hy];rfl
  have X:∀i,El u (s+(2*s+2*EE u.length R+R+1+GG u.length R)+1) (y i):=fun i=>by
   rw[hy]
   show El u _ (if i=0 then p+n else p-n)
   by_cases S:i=0
   ·rw[if_pos S];exact G.add h.red.1 a7
   rw[if_neg S];exact G.sub h.red.1 a7
  have Y:∀(k0:Nat) (L:Nat->LR) (w:Re),k0<2->(∀i,i<k0->IB u (t*y i) (L i))->In u w->w*w=t*y k0->IC u (t*y k0) w->
    ∃w,In (r::u) w/\w*w=x/\IC (r::u) x w:=by
   intro k0 L w hk K hw f O
   have key:∃m,m*m=p*p-q*q*AM u r/\y k0=p+m:=by
    rcases (show k0=0\/k0=1 by omega) with rfl | rfl
    ·exact⟨n,I,V⟩
    exact⟨-n,by rw[<-I];clear g;grind,by rw[W];clear g;grind⟩
   obtain⟨m,a5,ah⟩:=key;have aA:w≠0:=aq h.red P a5 U (by rw[f,ah]);obtain⟨j,hj,ag⟩:=Dv h.red.1 hw aA;have ax:In u (t*(q*j)):=Ag h.red.1 a1.mem (Ag h.red.1 M.mem hj);refine⟨w+t*(q*j)*rt u r,Cd.2 ⟨_,_,hw,ax,rfl⟩,?_,?_⟩
   ·rw[d]
    exact al a5 U av (by rw[f,ah]) (i:=t*j) (by have:(w+w)*(t*j)=2*t*(w*j):=by clear g;grind
                                                rw[this,U,ag];clear g;grind) (by clear g;grind)
   intro T A B D C Z;exact fk h D C J d G M Q v H P hn I ht ai V W X (by omega) K hk hw f O hj ag Z
  rcases g (a1.mul h.tail (X 0)) (hQ _ (by omega)) F with⟨w,hw,f,O⟩ |⟨aa,l0,a6⟩
  ·exact .inl (Y 0 (fun _=>[]) w (by omega) (fun i S=>by omega) hw f O)
  rcases g (a1.mul h.tail (X 1)) (hQ _ (by omega)) F with⟨w,hw,f,O⟩ |⟨ab,l1,ak⟩
  ·exact .inl (Y 1 (fun _=>l0) w (by omega) (fun i S=>by rw[show i=0 by omega];exact a6) hw f O)
  refine .inr ⟨fun hS=>?_,[],?_⟩
  ·rcases az h.red G.mem M.mem (d ▸ hS) I U with e | e
   ·exact aa (by rw[V];exact e)
   exact ab (by rw[W];exact e)
  intro T A D C
  exact fp h D C J d G M Q v H P hn I ht ai V W X (L:=fun i=>if i=0 then l0 else l1) (Nat.le_refl 2) (fun i S=>by
   rcases (show i=0\/i=1 by omega) with rfl | rfl
   ·exact a6
   exact ak) rfl
end
end Go.Abs
