/- Part 26 of a proof. Conditions: each theorem's own. -/
import Derived.Test.YtmhbikooakmagaaGreatPk23
import Derived.Test.YtmhbikooakmagaaGreatPk24
set_option linter.all false
set_option maxHeartbeats 8000000
set_option maxRecDepth 20000
open Go.Proofs
namespace Go.Abs
open Go.RowKit
theorem BH {f:FuncId} {fn:Func} (a:Tryz.prog.funcs[f]? =some fn) {args:List AV} {r:AV} (h:∀E,env Tryz.prog=E->QY E fn r none (DL fn.ntmps args none)) (d:Gs fn=true:=by kernel_rfl) (g:(KK args&&(r.all CR&&(r.wf&&Nat.ble args.length fn.ntmps)))=true:=by rfl):GF Tryz.prog false f args r:=eY a d g h
theorem CX {f:FuncId} {fn:Func} (d:Tryz.prog.funcs[f]? =some fn) {a:AM} {args:List AV} {r:AV} (h:∀E,env Tryz.prog=E->QX E fn r a (DL fn.ntmps args (some a))) (g:Gs fn=true:=by kernel_rfl) (j:(JT args&&(r.all BZ&&(a.lone&&(Nat.ble args.length fn.ntmps&&Nat.ble 1 fn.ntmps))))=true:=by rfl):BU Tryz.prog f args a r:=gK d g j h
theorem Br {ops:List Oper} {tr:Tr} {C:Prop} (h:C) (a:SA ops tr=true:=by kernel_rfl):(Unit->Ja ops tr=true)/\C:=⟨fun _=>kh a,h⟩
end Go.Abs
namespace Go.Abs
theorem dL {E:Env} {g:FuncId} {args:List AV} {r:AV} {B:Nat->AM->List AV->Prop} {S:AM->AM} {K:Nat->AV->Prop} {d f j n:Prop} (id:Nat) (b:AM) (o:env Tryz.prog=E) (h:BU Tryz.prog g args (S b) r) (hb:B id b args) (z:K id r):
 d\/f\/j\/(∃(id:Nat) (b:AM) (a:List AV) (r:AV),(Unit->B id b a)/\(Unit->E.D g a (S b) r)/\K id r)\/n:= .inr (.inr (.inr (.inl ⟨id,b,args,r,fun _=>hb,fun _=>G8 o h,z⟩)))
end Go.Abs
namespace Go.Abs
section
variable {P:List (List Rat)->Prop} {R0:Nat}
theorem jt {α:Type} {Q:α->Prop} {f:α->Nat} {m:Nat} (hm:∀a,Q a->f a<=m) {a:α} (ha:Q a):∃b,Q b/\∀c,Q c->f c<=f b:=by
 induction h:m-f a using Nat.strongRecOn generalizing a with
 | _ n j=>
  by_cases hc:∀c,Q c->f c<=f a
  ·exact⟨a,ha,hc⟩
  obtain⟨c,g⟩:=Classical.not_forall.1 hc;obtain⟨d,h3⟩:=Classical.not_imp.1 g;have:=hm c d;exact j (m-f c) (by omega) d rfl
theorem Tf.top (I:CU P R0) {m:Nat} (hm:∀{u},Tf P u->u.length<=m):∃w,Tf P w/\∀{u},Tf P u->Ba u w:=by
 obtain⟨w,hw,D⟩:=jt (Q:=Tf P) (f:=List.length) (fun u h=>hm h) Tf.nil;have n:=hw.red I
 have key:∀{u},P u->Ba u w:=by
  intro u
  induction u with
  | nil=>exact fun _=>Ks w
  | cons r u j=>
   intro a;have d:=j (I.sub a);have B:=I.red a;refine JM n d ?_
   have g:Sq w (AL u r):=by
    apply Classical.byContradiction;intro C;have:=D _ (Tf.BK hw a d);rw[Dc C,List.length_cons] at this;omega
   exact (Lf (by have:=B.2.2.1;grind)).1 g
 refine⟨w,hw,fun {u} h=>?_⟩
 induction h with
 | nil=>exact Ks w
 | @BK u o z ht a d j=>
  by_cases g:Sq u (AL z o)
  ·rw[D3 g];exact j
  rw[Dc g];refine JM n j ?_;rw[KM (d _ (B8 (I.red a)))];exact key a _ (Iq z o)
end
theorem El.down {u:List (List Rat)} {s:Nat} {x:Re} (f:In u x):∀{v:List (List Rat)},AZ (v++u)->El (v++u) s x->El u s x
 | [],_,h=>h
 | r::v,d,h=>by
  have a:In (v++u) x:=MP v x f;refine El.down f (v:=v) d.1 ⟨a,?_⟩;obtain⟨D,d0,d1,d2,d3⟩:=h.bd;have e:co (r::(v++u)) x=co (v++u) x++co (v++u) 0:=Cz d a (CG _) (by grind);rw[List.cons_append,e] at d2 d3;exact⟨D,d0,d1,(DN.app.1 d2).1,(MX.app.1 d3).1⟩
structure Fm (TT:List (List Rat)->Prop) (w:List (List Rat)) (R b c M q p:Nat):Prop where
 Q3:∀{S},R<=S->S<=M*b->DT TT R (c*b) S
 top:TT w
 all:∀{u},TT u->Ba u w
 hR:R<=c*b
 hb:64<=b
 YA:∀{x y s t},El w s x->El w t y->El w (s+t+b) (x*y)
 iv:∀{x y s},El w s x->In w y->x*y=1->El w (q*s+p*b) y
 iu:∀{u},TT u->II u.length R (M*b)<=60000000000000
def Nm (TT:List (List Rat)->Prop) (w:List (List Rat)) (b k:Nat) (T:List (List (el AA))) (A:List (el AA)) (x:Re):Prop:=∃u,TT u/\T=tw u/\A=em u x/\In u x/\El w (k*b) x
section
variable {TT:List (List Rat)->Prop} {w:List (List Rat)} {R b c M q p k l:Nat} {T T1 T2:List (List (el AA))} {A A1 A2:List (el AA)} {x y:Re}
theorem Fm.g (F:Fm TT w R b c M q p) (h:k<=M) (a:c<=k):DT TT R (c*b) (k*b):=F.Q3 (Nat.le_trans F.hR (Nat.mul_le_mul_right b a)) (Nat.mul_le_mul_right b h)
theorem Fm.own (F:Fm TT w R b c M q p) (B:c<=M) (h:Nm TT w b k T A x):∃u,TT u/\T=tw u/\A=em u x/\In u x/\El w (k*b) x/\El u ((k+c)*b) x:=by
 obtain⟨u,hu,C,z,n,he⟩:=h;refine⟨u,hu,C,z,n,he,?_⟩;have G:=(F.g B (Nat.le_refl c)).toGam;obtain⟨f,D,h3⟩:=G.Bf hu F.top;have a:=G.CE F.top f h3 he;rw[<-Nat.add_mul] at a;rw[iw] at f a;have d:=(G.BE f).red;unfold Ev at a d
 split at a
 ·exact a
 rename_i o
 rw[if_neg o] at d
 split at a
 ·rename_i j
  obtain⟨v,rfl⟩:=j;exact El.down n (G.BE F.top).red a
 rename_i j
 rw[if_neg j] at d;obtain⟨v,e⟩:=OR u w;rw[<-e] at a d;exact El.down n d a
theorem Nm.mono (h:Nm TT w b k T A x) (j:k<=l):Nm TT w b l T A x:=by
 obtain⟨u,a,d,h3,f,g⟩:=h;exact⟨u,a,d,h3,f,g.mono (Nat.mul_le_mul_right b j)⟩
theorem Nm.cast (h:Nm TT w b k T A x) (e:x=y):Nm TT w b k T A y:=e ▸ h
theorem Fm.two (F:Fm TT w R b c M q p) (ha:Nm TT w b k T1 A1 x) (hb:Nm TT w b l T2 A2 y) (K:k+c+1<=M) (L:l+c+1<=M):∃u v j,j<=M/\(j=k+c+1\/j=l+c+1)/\TT u/\TT v/\T1=tw u/\T2=tw v/\A1=em u x/\A2=em v y/\In u x/\In v y/\El w (k*b) x/\El w (l*b) y/\El u (j*b) x/\El v (j*b) y/\DT TT R (c*b) (j*b)/\TT (Bf u v)/\Ba u (Bf u v)/\Ba v (Bf u v):=by
 obtain⟨u,hu,f,a,N,z,o⟩:=F.own (by omega) ha;obtain⟨v,H,n,d,O,C,B⟩:=F.own (by omega) hb
 have key:∀j,j<=M->(j=k+c+1\/j=l+c+1)->k+c+1<=j->l+c+1<=j->∃u v j,j<=M/\(j=k+c+1\/j=l+c+1)/\TT u/\TT v/\T1=tw u/\T2=tw v/\A1=em u x/\A2=em v y/\In u x/\In v y/\El w (k*b) x/\El w (l*b) y/\El u (j*b) x/\El v (j*b) y/\DT TT R (c*b) (j*b)/\TT (Bf u v)/\Ba u (Bf u v)/\Ba v (Bf u v):=by
  intro j D J h3 Q;have G:=F.g D (by omega);obtain⟨g1,g2,I⟩:=G.toGam.Bf hu H;exact⟨u,v,j,D,J,hu,H,f,n,a,d,N,O,z,C,o.mono (Nat.mul_le_mul_right b (by omega)),B.mono (Nat.mul_le_mul_right b (by omega)),G,g1,g2,I⟩
 by_cases h:k<=l
 ·exact key (l+c+1) L (.inr rfl) (by omega) (Nat.le_refl _)
 exact key (k+c+1) K (.inl rfl) (Nat.le_refl _) (by omega)
end
end Go.Abs
namespace Go.Abs
open Go.RowKit
section
variable {TT:List (List Rat)->Prop} {w:List (List Rat)} {R b c M q p k l:Nat} {T1 T2:List LR} {A1 A2:LR} {x y:Re}
theorem Nm.data {A3:LR} (h:Nm TT w b k T1 A1 x) (f:Nm TT w b l T1 A3 y) (e:x=y):A1=A3:=by
 obtain⟨u,_,j,g,_⟩:=h;obtain⟨v,_,d,a,_⟩:=f;rw[g,a,e,NV (j.symm.trans d)]
theorem G0 (F:Fm TT w R b c M q p) (ha:Nm TT w b k T1 A1 x) (hb:Nm TT w b l T2 A2 y) (D:k+c+1<=M:=by omega) (H:l+c+1<=M:=by omega):∃T A,Nm TT w b (k+l+1) T A (x+y)/\CF 113 [.agg (AK T1 A1),.agg (AK T2 A2)] (.AF [(true,(AK T A)),(false,[.int .i64 0])])/\CF 99 [.agg (AK T1 A1),.agg (AK T2 A2)] (.AF [(true,(AK T A)),(false,[.int .i64 0])]):=by
 obtain⟨u,v,j,K,_,hu,B,f,g,a,d,I,J,o,z,h,n,G,g1,g2,C⟩:=F.two ha hb D H;refine⟨_,_,⟨Bf u v,g1,rfl,rfl,DK (g2 _ I) (C _ J),(o.add (G.BE F.top).red z).mono ?_⟩,bc G.toGam hu B f g a d h n rfl rfl,Pv G hu B f g a d h n rfl rfl⟩;have:=F.hb;rw[Nat.add_mul,Nat.add_mul];omega
theorem F6 (F:Fm TT w R b c M q p) (ha:Nm TT w b k T1 A1 x) (hb:Nm TT w b l T2 A2 y) (D:k+c+1<=M:=by omega) (H:l+c+1<=M:=by omega):∃T A,Nm TT w b (k+l+1) T A (x-y)/\CF 196 [.agg (AK T1 A1),.agg (AK T2 A2)] (.AF [(true,(AK T A)),(false,[.int .i64 0])])/\CF 101 [.agg (AK T1 A1),.agg (AK T2 A2)] (.AF [(true,(AK T A)),(false,[.int .i64 0])]):=by
 obtain⟨u,v,j,K,_,hu,B,f,g,a,d,I,J,o,z,h,n,G,g1,g2,C⟩:=F.two ha hb D H;refine⟨_,_,⟨Bf u v,g1,rfl,rfl,FY (g2 _ I) (C _ J),(o.sub (G.BE F.top).red z).mono ?_⟩,bw G.toGam hu B f g a d h n rfl rfl,P6 G hu B f g a d h n rfl rfl⟩;have:=F.hb;rw[Nat.add_mul,Nat.add_mul];omega
theorem D5 (F:Fm TT w R b c M q p) (ha:Nm TT w b k T1 A1 x) (hb:Nm TT w b l T2 A2 y) (D:k+c+1<=M:=by omega) (H:l+c+1<=M:=by omega):∃T A,Nm TT w b (k+l+1) T A (x*y)/\CF 111 [.agg (AK T1 A1),.agg (AK T2 A2)] (.AF [(true,(AK T A)),(false,[.int .i64 0])])/\CF 102 [.agg (AK T1 A1),.agg (AK T2 A2)] (.AF [(true,(AK T A)),(false,[.int .i64 0])]):=by
 obtain⟨u,v,j,K,_,hu,B,f,g,a,d,I,J,o,z,h,n,G,g1,g2,C⟩:=F.two ha hb D H;refine⟨_,_,⟨Bf u v,g1,rfl,rfl,Aj (G.BE g1).red (g2 _ I) (C _ J),(F.YA o z).mono ?_⟩,UK G.toGam hu B f g a d h n rfl rfl,Px G hu B f g a d h n rfl rfl⟩;have:=F.hb;rw[Nat.add_mul,Nat.add_mul];omega
theorem Iu (F:Fm TT w R b c M q p) (ha:Nm TT w b k T1 A1 x) (n:k+c+1<=M:=by omega):∃A,Nm TT w b k T1 A (-x)/\CF 267 [.agg (AK T1 A1)] (.agg (AK T1 A))/\CF 105 [.agg (AK T1 A1)] (.agg (AK T1 A)):=by
 obtain⟨u,hu,d,f,o,j,h⟩:=F.own (by omega) ha;have G:=F.g n (by omega);have a:=h.mono (Nat.mul_le_mul_right b (Nat.le_succ (k+c)));exact⟨_,⟨u,hu,d,rfl,Gw o,j.neg (G.BE F.top).red⟩,bm G.toGam hu d f a rfl,Py G hu d f a rfl⟩
theorem Fb (F:Fm TT w R b c M q p) (ha:Nm TT w b k T1 A1 x) (j:k+c+1<=M:=by omega):∃s:Int,s=BT x/\CF 90 [.agg (AK T1 A1)] (.one (.int .i64 s))/\CF 104 [.agg (AK T1 A1)] (.one (.int .i64 s)):=by
 obtain⟨u,hu,f,d,o,n,h⟩:=F.own (by omega) ha;have G:=F.g j (by omega);have a:=h.mono (Nat.mul_le_mul_right b (Nat.le_succ (k+c)));exact⟨_,rfl,bn G.toGam hu f d a rfl,Pz G hu f d a rfl⟩
theorem Fm.pair (F:Fm TT w R b c M q p) {j:Nat} (h:2*j+2*c+1<=M):DT TT R (c*b) ((2*j+2*c+1)*b)/\2*(j*b+c*b)+1<=(2*j+2*c+1)*b:=by
 refine⟨F.g h (by omega),?_⟩;have:=F.hb;rw[Nat.add_mul,Nat.add_mul,Nat.mul_assoc,Nat.mul_assoc];omega
theorem F5 (F:Fm TT w R b c M q p) (ha:Nm TT w b k T1 A1 x) (hb:Nm TT w b l T2 A2 y) (K:2*k+4*c+3<=M:=by omega) (L:2*l+4*c+3<=M:=by omega):∃e:Bool,(e=true↔x=y)/\CF 117 [.agg (AK T1 A1),.agg (AK T2 A2)] (.one (.bool e))/\CF 27 [.agg (AK T1 A1),.agg (AK T2 A2)] (.one (.bool e)):=by
 obtain⟨u,v,j,J,C,hu,o,f,g,a,d,N,O,D,H,h,n,G,g1,g2,I⟩:=F.two ha hb (by omega) (by omega);obtain⟨z,B⟩:=F.pair (j:=j) (by omega);obtain⟨e,he⟩:=Er (x=y);exact⟨e,he,bg G.toGam hu o f g a d h n he,dI G hu o f g a d h n z B he⟩
theorem Hp (F:Fm TT w R b c M q p) (ha:Nm TT w b k T1 A1 x) (hb:Nm TT w b l T2 A2 y) {d:Nat} (X:q*l+p<=d) (I:y≠0) (hk:k+c+1<=M:=by omega) (hl:l+c+1<=M:=by omega) (hi:d+c+1<=M:=by omega):∃T A,Nm TT w b (k+d+1) T A (x*AT y)/\CF 108 [.agg (AK T1 A1),.agg (AK T2 A2)] (.AF [(true,(AK T A)),(false,[.int .i64 0])])/\CF 103 [.agg (AK T1 A1),.agg (AK T2 A2)] (.AF [(true,(AK T A)),(false,[.int .i64 0])]):=by
 obtain⟨u,hu,o,h,Z,N,L⟩:=F.own (by omega) ha;obtain⟨v,f,z,j,hy,Q,O⟩:=F.own (by omega) hb;have G:=F.g (Nat.le_refl M) (by omega);obtain⟨g1,g2,U⟩:=G.toGam.Bf hu f;have a:=Oa (G.BE f).red hy I
 have C:El w (d*b) (AT y):=(F.iv Q (F.all f _ a) (Hk I)).mono (by
  have V:=Nat.mul_le_mul_right b X;rw[Nat.add_mul,Nat.mul_assoc] at V;omega)
 obtain⟨S,Y,J,W,_,_,K⟩:=F.own (by omega) (show Nm TT w b d (tw v) (em v (AT y)) (AT y) from⟨v,f,rfl,rfl,a,C⟩);have ev:S=v:=(NV J).symm;subst ev;have n:II S.length R (M*b)<=60000000000000:=F.iu f;have D:=L.mono (Nat.mul_le_mul_right b (show k+c<=M by omega));have H:=O.mono (Nat.mul_le_mul_right b (show l+c<=M by omega));have B:=K.mono (Nat.mul_le_mul_right b (show d+c<=M by omega));refine⟨_,_,⟨Bf u S,g1,rfl,rfl,Aj (G.BE g1).red (g2 _ Z) (U _ a),(F.YA N C).mono ?_⟩,bf G.toGam hu f o z h j D H a (Hk I) B n rfl rfl,Ug G hu f o z h j D H a (Hk I) B n rfl rfl⟩;rw[Nat.add_mul,Nat.add_mul,Nat.one_mul];omega
end
end Go.Abs
namespace Go.Abs
open Go.RowKit
structure Vm (TT:List (List Rat)->Prop) (w:List (List Rat)) (b k k':Nat) (T1:List LR) (A1:LR) (T2:List LR) (A2:LR) (x y:Re):Prop where
 x:Nm TT w b k T1 A1 x
 y:Nm TT w b k' T2 A2 y
section
variable {TT:List (List Rat)->Prop} {w:List (List Rat)} {R b c M q p k k' l l':Nat} {T1 T2:List LR} {A1 A2:LR} {x y x' y':Re}
theorem Vm.mono (h:Vm TT w b k k' T1 A1 T2 A2 x y) (d:k<=l) (a:k'<=l'):Vm TT w b l l' T1 A1 T2 A2 x y:=⟨h.x.mono d,h.y.mono a⟩
theorem Vm.cast (h:Vm TT w b k k' T1 A1 T2 A2 x y) (e:x=x') (f:y=y'):Vm TT w b k k' T1 A1 T2 A2 x' y':=e ▸ f ▸ h
theorem KE (F:Fm TT w R b c M q p) (a:c<=M) {r:Rat} (h:Bd b [r]):Nm TT w b 1 [] (em [] (Re.ofRat r)) (Re.ofRat r):=by
 have G:=F.g a (Nat.le_refl c);exact⟨[],G.nil,rfl,rfl,Hj r [],by rw[Nat.one_mul];exact El.rat (G.BE F.top).red h⟩
theorem JG {r:Rat} (h:C5 r) (hb:64<=b:=by omega):Bd b [r]:=(N3 (a:=[r]) (fun z d=>by rw[List.mem_singleton.1 d];exact h)).mono hb
end
theorem N4 {g:FuncId} {T1 T2 T3 T4 T5 T6:List LR} {A1 A2 A3 A4 A5 A6:LR} (d:CF g [.agg (AK T1 A1),.agg (AK T3 A3)] (.AF [(true,(AK T5 A5)),(false,[.int .i64 0])])) (f:CF g [.agg (AK T2 A2),.agg (AK T4 A4)] (.AF [(true,(AK T6 A6)),(false,[.int .i64 0])])):CF 202 [.agg (AG T1 A1 T2 A2),.agg (AG T3 A3 T4 A4),.one (.fn g)] (.AF [(true,(AG T5 A5 T6 A6)),(false,[.int .i64 0])]):=by
 refine AJ Tryz.func202 fun E a=>?_
 conv=>cbv
 refine AB a d ?_;conv=>cbv
 refine AO ?_;conv=>cbv
 refine AB a f ?_;conv=>cbv
 refine AO ?_;conv=>cbv
 exact AD ⟨⟨rfl,rfl,rfl,rfl,rfl,trivial⟩,t2,trivial⟩
theorem NW {TT:List (List Rat)->Prop} {w:List (List Rat)} {R b c M q p k k' l l':Nat} (F:Fm TT w R b c M q p) {T1 T2 T3 T4:List LR} {A1 A2 A3 A4:LR} {x1 y1 x2 y2:Re} (f:Vm TT w b k k' T1 A1 T2 A2 x1 y1) (g:Vm TT w b l l' T3 A3 T4 A4 x2 y2) (D:k+c+1<=M:=by omega) (B:k'+c+1<=M:=by omega) (G:l+c+1<=M:=by omega) (C:l'+c+1<=M:=by omega):∃T A d a,Vm TT w b (k+l+1) (k'+l'+1) T A d a (x1+x2) (y1+y2)/\CF 198 [.agg (AG T1 A1 T2 A2),.agg (AG T3 A3 T4 A4)] (.AF [(true,(AG T A d a)),(false,[.int .i64 0])]):=by
 obtain⟨T5,A5,n,h,_⟩:=G0 F f.x g.x;obtain⟨T6,A6,o,j,_⟩:=G0 F f.y g.y;refine⟨T5,A5,T6,A6,⟨n,o⟩,?_⟩;refine AJ Tryz.func198 fun E z=>?_
 conv=>cbv
 refine AB z (N4 h j) ?_;conv=>cbv
 exact AD ⟨⟨rfl,rfl,rfl,rfl,rfl,trivial⟩,t2,trivial⟩
theorem Jm {TT:List (List Rat)->Prop} {w:List (List Rat)} {R b c M q p k k' l l':Nat} (F:Fm TT w R b c M q p) {T1 T2 T3 T4:List LR} {A1 A2 A3 A4:LR} {x1 y1 x2 y2:Re} (f:Vm TT w b k k' T1 A1 T2 A2 x1 y1) (g:Vm TT w b l l' T3 A3 T4 A4 x2 y2) (D:k+c+1<=M:=by omega) (B:k'+c+1<=M:=by omega) (G:l+c+1<=M:=by omega) (C:l'+c+1<=M:=by omega):∃T A d a,Vm TT w b (k+l+1) (k'+l'+1) T A d a (x1-x2) (y1-y2)/\CF 89 [.agg (AG T1 A1 T2 A2),.agg (AG T3 A3 T4 A4)] (.AF [(true,(AG T A d a)),(false,[.int .i64 0])]):=by
 obtain⟨T5,A5,n,h,_⟩:=F6 F f.x g.x;obtain⟨T6,A6,o,j,_⟩:=F6 F f.y g.y;refine⟨T5,A5,T6,A6,⟨n,o⟩,?_⟩;refine AJ Tryz.func89 fun E z=>?_
 conv=>cbv
 refine AB z (N4 h j) ?_;conv=>cbv
 exact AD ⟨⟨rfl,rfl,rfl,rfl,rfl,trivial⟩,t2,trivial⟩
theorem Ln {TT:List (List Rat)->Prop} {w:List (List Rat)} {R b c M q p k k' j:Nat} (F:Fm TT w R b c M q p) {T1 T2 T3:List LR} {A1 A2 A3:LR} {x1 y1 n:Re} (g:Vm TT w b k k' T1 A1 T2 A2 x1 y1) (f:Nm TT w b j T3 A3 n) (G:k+c+1<=M:=by omega) (D:k'+c+1<=M:=by omega) (H:j+c+1<=M:=by omega):∃T A d a,Vm TT w b (k+j+1) (k'+j+1) T A d a (x1*n) (y1*n)/\CF 199 [.agg (AG T1 A1 T2 A2),.agg (AK T3 A3)] (.AF [(true,(AG T A d a)),(false,[.int .i64 0])]):=by
 obtain⟨T5,A5,z,h,_⟩:=D5 F g.x f;obtain⟨T6,A6,B,o,_⟩:=D5 F g.y f;refine⟨T5,A5,T6,A6,⟨z,B⟩,?_⟩;refine AJ Tryz.func199 fun E C=>?_
 conv=>cbv
 refine AB C (N4 h o) ?_;conv=>cbv
 exact AD ⟨⟨rfl,rfl,rfl,rfl,rfl,trivial⟩,t2,trivial⟩
theorem oZ {TT:List (List Rat)->Prop} {w:List (List Rat)} {R b c M q p k:Nat} (F:Fm TT w R b c M q p) {T1:List LR} {A1:LR} {n:Re} (g:Nm TT w b k T1 A1 n) (f:k+c+1<=M):CF 284 [.agg (AK T1 A1)] (.agg (AK T1 A1)):=by
 obtain⟨A4,j,h,_⟩:=Iu F g f;obtain⟨A5,o,a,_⟩:=Iu F j f;have e:A5=A1:=Nm.data o g (by grind);rw[e] at a;refine AJ Tryz.func284 fun E d=>?_
 conv=>cbv
 refine AB d h ?_;conv=>cbv
 refine AB d a ?_;conv=>cbv
 exact AD ⟨t3,trivial⟩
theorem oS {TT:List (List Rat)->Prop} {w:List (List Rat)} {R b c M q p k k':Nat} (F:Fm TT w R b c M q p) {T1 T2:List LR} {A1 A2:LR} {x1 y1:Re} (d:Vm TT w b k k' T1 A1 T2 A2 x1 y1) (j:k+c+1<=M:=by omega) (a:k'+c+1<=M:=by omega):∃A,Vm TT w b k' k T2 A T1 A1 (-y1) x1/\CF 200 [.agg (AG T1 A1 T2 A2)] (.agg (AG T2 A T1 A1)):=by
 obtain⟨A5,h,g,_⟩:=Iu F d.y a;refine⟨A5,⟨h,d.x⟩,?_⟩;refine AJ Tryz.func200 fun E f=>?_
 conv=>cbv
 refine AB f g ?_;conv=>cbv
 refine AB f (oZ F d.x j) ?_;conv=>cbv
 refine Br ?_;exact AD ⟨⟨rfl,rfl,rfl,rfl,rfl,trivial⟩,trivial⟩
theorem NX {TT:List (List Rat)->Prop} {w:List (List Rat)} {R b c M q p k k' l l':Nat} (F:Fm TT w R b c M q p) {T1 T2 T3 T4:List LR} {A1 A2 A3 A4:LR} {x1 y1 x2 y2:Re} (d:Vm TT w b k k' T1 A1 T2 A2 x1 y1) (f:Vm TT w b l l' T3 A3 T4 A4 x2 y2) (C:k+l+c+2<=M:=by omega) (B:k'+l'+c+2<=M:=by omega):∃T A,Nm TT w b (k+k'+l+l'+3) T A (x1*x2+y1*y2)/\CF 87 [.agg (AG T1 A1 T2 A2),.agg (AG T3 A3 T4 A4)] (.AF [(true,(AK T A)),(false,[.int .i64 0])]):=by
 obtain⟨T5,A5,n,g,_⟩:=D5 F d.x f.x;obtain⟨T6,A6,o,h,_⟩:=D5 F d.y f.y;obtain⟨T7,A7,z,j,_⟩:=G0 F n o;refine⟨T7,A7,z.mono (by omega),?_⟩;refine AJ Tryz.func87 fun E a=>?_
 conv=>cbv
 refine AB a (N4 g h) ?_;conv=>cbv
 refine AO ?_;conv=>cbv
 refine AB a j ?_;conv=>cbv
 exact AD ⟨t3,t2,trivial⟩
theorem KR {TT:List (List Rat)->Prop} {w:List (List Rat)} {R b c M q p k k':Nat} (F:Fm TT w R b c M q p) {T1 T2:List LR} {A1 A2:LR} {x1 y1:Re} (a:Vm TT w b k k' T1 A1 T2 A2 x1 y1) (j:2*k+c+2<=M:=by omega) (h:2*k'+c+2<=M:=by omega):∃T A,Nm TT w b (2*k+2*k'+3) T A (x1*x1+y1*y1)/\CF 192 [.agg (AG T1 A1 T2 A2)] (.AF [(true,(AK T A)),(false,[.int .i64 0])]):=by
 obtain⟨T7,A7,f,d⟩:=NX F a a;refine⟨T7,A7,f.mono (by omega),?_⟩;refine AJ Tryz.func192 fun E g=>?_
 conv=>cbv
 refine AB g d ?_;conv=>cbv
 exact AD ⟨t3,t2,trivial⟩
theorem TU {TT:List (List Rat)->Prop} {w:List (List Rat)} {R b c M q p k k' l l':Nat} (F:Fm TT w R b c M q p) {T1 T2 T3 T4:List LR} {A1 A2 A3 A4:LR} {x1 y1 x2 y2:Re} (j:Vm TT w b k k' T1 A1 T2 A2 x1 y1) (n:Vm TT w b l l' T3 A3 T4 A4 x2 y2) (G:2*k+4*c+3<=M) (C:2*k'+4*c+3<=M) (H:2*l+4*c+3<=M) (D:2*l'+4*c+3<=M) {e:Bool} (he:e=true↔x1=x2/\y1=y2):CF 147 [.agg (AG T1 A1 T2 A2),.agg (AG T3 A3 T4 A4)] (.one (.bool e)):=by
 obtain⟨B,d,o,_⟩:=F5 F j.x n.x;obtain⟨z,a,f,_⟩:=F5 F j.y n.y;refine AJ Tryz.func147 fun E g=>?_
 conv=>cbv
 refine AB g o ?_;conv=>cbv
 cases B <;> conv=>cbv
 ·exact AD ⟨⟨rfl,congrArg _ (by cases e with | false=>rfl | true=>exact absurd (d.2 (he.1 rfl).1) (by simp)),trivial⟩,trivial⟩
 refine AB g f ?_;conv=>cbv
 exact AD ⟨⟨rfl,congrArg _ (by rw[Bool.eq_iff_iff,a,he];exact⟨fun h=>h.2,fun h=>⟨d.1 rfl,h⟩⟩),trivial⟩,trivial⟩
theorem GW {TT:List (List Rat)->Prop} {w:List (List Rat)} {R b c M q p k k' l l':Nat} (F:Fm TT w R b c M q p) {T1 T2 T3 T4:List LR} {A1 A2 A3 A4:LR} {x1 y1 x2 y2:Re} (j:Vm TT w b k k' T1 A1 T2 A2 x1 y1) (n:Vm TT w b l l' T3 A3 T4 A4 x2 y2) (G:2*k+4*c+3<=M) (C:2*k'+4*c+3<=M) (H:2*l+4*c+3<=M) (D:2*l'+4*c+3<=M) {e:Bool} (he:e=true↔x1=x2/\y1=y2):CF 38 [.agg (AG T1 A1 T2 A2),.agg (AG T3 A3 T4 A4)] (.one (.bool e)):=by
 obtain⟨B,d,_,o⟩:=F5 F j.x n.x;obtain⟨z,a,_,f⟩:=F5 F j.y n.y;refine AJ Tryz.func38 fun E g=>?_
 conv=>cbv
 refine AB g o ?_;conv=>cbv
 cases B <;> conv=>cbv
 ·exact AD ⟨⟨rfl,congrArg _ (by cases e with | false=>rfl | true=>exact absurd (d.2 (he.1 rfl).1) (by simp)),trivial⟩,trivial⟩
 refine AB g f ?_;conv=>cbv
 exact AD ⟨⟨rfl,congrArg _ (by rw[Bool.eq_iff_iff,a,he];exact⟨fun h=>h.2,fun h=>⟨d.1 rfl,h⟩⟩),trivial⟩,trivial⟩
theorem oT {TT:List (List Rat)->Prop} {w:List (List Rat)} {R b c M q p k k':Nat} (F:Fm TT w R b c M q p) {T1 T2:List LR} {A1 A2:LR} {x1 y1:Re} (z:Vm TT w b k k' T1 A1 T2 A2 x1 y1) (I:k+c+1<=M) (C:k'+c+1<=M) {e:Bool} (he:e=true↔x1=0/\y1=0):CF 275 [.agg (AG T1 A1 T2 A2)] (.one (.bool e)):=by
 obtain⟨J,d,B,_⟩:=Fb F z.x;obtain⟨H,a,f,_⟩:=Fb F z.y;refine AJ Tryz.func275 fun E o=>?_
 conv=>cbv
 refine AB o B ?_;conv=>cbv
 intro G n;conv=>cbv
 cases G <;> conv=>cbv
 ·have j:=Ao n;exact AD ⟨⟨rfl,congrArg _ (by cases e with | false=>rfl | true=>exact absurd (by rw[d];exact Gj.2 (he.1 rfl).1) j),trivial⟩,trivial⟩
 have j:=BA n;refine AB o f ?_;conv=>cbv
 intro D g;conv=>cbv
 exact AD ⟨⟨rfl,congrArg _ (by rw[Bool.eq_iff_iff,g,beq_iff_eq,a,Gj,he];exact⟨fun h=>h.2,fun h=>⟨Gj.1 (d.symm.trans j),h⟩⟩),trivial⟩,trivial⟩
theorem bJ {TT:List (List Rat)->Prop} {w:List (List Rat)} {R b c M q p k k':Nat} (F:Fm TT w R b c M q p) {T1 T2:List LR} {A1 A2:LR} {x1 y1:Re} (z:Vm TT w b k k' T1 A1 T2 A2 x1 y1) (I:k+c+1<=M) (C:k'+c+1<=M) {e:Bool} (he:e=true↔x1=0/\y1=0):CF 271 [.agg (AG T1 A1 T2 A2)] (.one (.bool e)):=by
 obtain⟨J,d,_,B⟩:=Fb F z.x;obtain⟨H,a,_,f⟩:=Fb F z.y;refine AJ Tryz.func271 fun E o=>?_
 conv=>cbv
 refine AB o B ?_;conv=>cbv
 intro G n;conv=>cbv
 cases G <;> conv=>cbv
 ·have j:=Ao n;exact AD ⟨⟨rfl,congrArg _ (by cases e with | false=>rfl | true=>exact absurd (by rw[d];exact Gj.2 (he.1 rfl).1) j),trivial⟩,trivial⟩
 have j:=BA n;refine AB o f ?_;conv=>cbv
 intro D g;conv=>cbv
 exact AD ⟨⟨rfl,congrArg _ (by rw[Bool.eq_iff_iff,g,beq_iff_eq,a,Gj,he];exact⟨fun h=>h.2,fun h=>⟨Gj.1 (d.symm.trans j),h⟩⟩),trivial⟩,trivial⟩
theorem ov {g h:Rat} {b1 c1 b2 c2:Bool} {l1 m1 l2 m2:List UInt32} (j:Bn g b1 l1 c1 m1) (n:Bn h b2 l2 c2 m2) {A1 A2:LR} (a:A1=em [] (Re.ofRat g)) (d:A2=em [] (Re.ofRat h)):CF 181 [.agg (B5 b1 l1 c1 m1),.agg (B5 b2 l2 c2 m2)] (.agg (AG [] A1 [] A2)):=by
 refine AJ Tryz.func181 fun E f=>?_
 conv=>cbv
 refine AB f (Nn j a) ?_;conv=>cbv
 refine AB f (Nn n d) ?_;conv=>cbv
 refine Br ?_;exact AD ⟨⟨rfl,rfl,rfl,rfl,rfl,trivial⟩,trivial⟩
theorem GD {x y:Int} {A1 A2:LR} (j: -9223372036854775808<=x/\x<9223372036854775808) (n: -9223372036854775808<=y/\y<9223372036854775808) (a:A1=em [] (Re.ofRat x)) (d:A2=em [] (Re.ofRat y)):CF 59 [.one (.int .i64 x),.one (.int .i64 y)] (.agg (AG [] A1 [] A2)):=by
 refine AJ Tryz.func59 fun E f=>?_
 conv=>cbv
 obtain⟨b1,l1,c1,m1,g⟩:=CH (x:Rat);refine AB f (Fk j rfl g) ?_;conv=>cbv
 obtain⟨b2,l2,c2,m2,h⟩:=CH (y:Rat);refine AB f (Fk n rfl h) ?_;conv=>cbv
 refine AB f (ov g h a d) ?_;conv=>cbv
 exact AD ⟨⟨rfl,rfl,rfl,rfl,rfl,trivial⟩,trivial⟩
theorem bD:CF 146 [.one (.int .i64 0),.one (.int .i64 0)] (.one (.int .i64 0)):=by
 refine AJ Tryz.func146 fun E a=>?_
 conv=>cbv
 refine AO ?_;conv=>cbv
 exact AD ⟨t2,trivial⟩
theorem bF {T1 T2:List LR} {A1 A2:LR}:CF 145 [.agg (AK T1 A1),.agg (AK T2 A2),.one (.int .i64 0)] (.AF [(true,(AG T1 A1 T2 A2)),(false,[.int .i64 0])]):=by
 refine AJ Tryz.func145 fun E a=>?_
 conv=>cbv
 refine AO ?_;conv=>cbv
 exact AD ⟨⟨rfl,rfl,rfl,rfl,rfl,trivial⟩,t2,trivial⟩
theorem Tj {TT:List (List Rat)->Prop} {w:List (List Rat)} {R b c M q p k k' l l':Nat} (F:Fm TT w R b c M q p) {T1 T2 T3 T4:List LR} {A1 A2 A3 A4:LR} {x1 y1 x2 y2:Re} (g:Vm TT w b k k' T1 A1 T2 A2 x1 y1) (h:Vm TT w b l l' T3 A3 T4 A4 x2 y2) (D:k+c+1<=M:=by omega) (B:k'+c+1<=M:=by omega) (G:l+c+1<=M:=by omega) (C:l'+c+1<=M:=by omega):∃T A f d,Vm TT w b (k+l+1) (k'+l'+1) T A f d (x1+x2) (y1+y2)/\CF 41 [.agg (AG T1 A1 T2 A2),.agg (AG T3 A3 T4 A4)] (.AF [(true,(AG T A f d)),(false,[.int .i64 0])]):=by
 obtain⟨T5,A5,o,_,j⟩:=G0 F g.x h.x;obtain⟨T6,A6,z,_,n⟩:=G0 F g.y h.y;refine⟨T5,A5,T6,A6,⟨o,z⟩,?_⟩;refine AJ Tryz.func41 fun E a=>?_
 conv=>cbv
 refine AB a j ?_;conv=>cbv
 refine AB a n ?_;conv=>cbv
 refine AB a bD ?_;conv=>cbv
 refine AB a bF ?_;conv=>cbv
 refine Br ?_;exact AD ⟨⟨rfl,rfl,rfl,rfl,rfl,trivial⟩,t2,trivial⟩
theorem bG {TT:List (List Rat)->Prop} {w:List (List Rat)} {R b c M q p k k' j:Nat} (F:Fm TT w R b c M q p) {T1 T2 T3:List LR} {A1 A2 A3:LR} {x1 y1 n:Re} (h:Vm TT w b k k' T1 A1 T2 A2 x1 y1) (g:Nm TT w b j T3 A3 n) (G:k+c+1<=M:=by omega) (D:k'+c+1<=M:=by omega) (H:j+c+1<=M:=by omega):∃T A f d,Vm TT w b (k+j+1) (k'+j+1) T A f d (x1*n) (y1*n)/\CF 143 [.agg (AG T1 A1 T2 A2),.agg (AK T3 A3)] (.AF [(true,(AG T A f d)),(false,[.int .i64 0])]):=by
 obtain⟨T5,A5,B,_,o⟩:=D5 F h.x g;obtain⟨T6,A6,C,_,z⟩:=D5 F h.y g;refine⟨T5,A5,T6,A6,⟨B,C⟩,?_⟩;refine AJ Tryz.func143 fun E a=>?_
 conv=>cbv
 refine AB a o ?_;conv=>cbv
 refine AB a z ?_;conv=>cbv
 refine AB a bD ?_;conv=>cbv
 refine AB a bF ?_;conv=>cbv
 refine Br ?_;exact AD ⟨⟨rfl,rfl,rfl,rfl,rfl,trivial⟩,t2,trivial⟩
theorem Tt {TT:List (List Rat)->Prop} {w:List (List Rat)} {R b c M q p k k':Nat} (F:Fm TT w R b c M q p) {T1 T2:List LR} {A1 A2:LR} {x1 y1:Re} (g:Vm TT w b k k' T1 A1 T2 A2 x1 y1) (z:k+c+1<=M:=by omega) (a:k'+c+1<=M:=by omega):∃A d,Vm TT w b k k' T1 A T2 d (-x1) (-y1)/\CF 144 [.agg (AG T1 A1 T2 A2)] (.agg (AG T1 A T2 d)):=by
 obtain⟨A5,n,_,h⟩:=Iu F g.x z;obtain⟨A6,o,_,j⟩:=Iu F g.y a;refine⟨A5,A6,⟨n,o⟩,?_⟩;refine AJ Tryz.func144 fun E f=>?_
 conv=>cbv
 refine AB f h ?_;conv=>cbv
 refine AB f j ?_;conv=>cbv
 refine Br ?_;exact AD ⟨⟨rfl,rfl,rfl,rfl,rfl,trivial⟩,trivial⟩
theorem Lu {TT:List (List Rat)->Prop} {w:List (List Rat)} {R b c M q p k k' l l':Nat} (F:Fm TT w R b c M q p) {T1 T2 T3 T4:List LR} {A1 A2 A3 A4:LR} {x1 y1 x2 y2:Re} (B:Vm TT w b k k' T1 A1 T2 A2 x1 y1) (C:Vm TT w b l l' T3 A3 T4 A4 x2 y2) (D:k+c+1<=M:=by omega) (o:k'+c+1<=M:=by omega) (G:l+c+1<=M:=by omega) (z:l'+c+1<=M:=by omega):∃T A d a,Vm TT w b (k+l+1) (k'+l'+1) T A d a (x1+ -x2) (y1+ -y2)/\CF 40 [.agg (AG T1 A1 T2 A2),.agg (AG T3 A3 T4 A4)] (.AF [(true,(AG T A d a)),(false,[.int .i64 0])]):=by
 obtain⟨A7,A8,n,h⟩:=Tt F C;obtain⟨T5,A5,T6,A6,j,g⟩:=Tj F B n;refine⟨T5,A5,T6,A6,j,?_⟩;refine AJ Tryz.func40 fun E f=>?_
 conv=>cbv
 refine AB f h ?_;conv=>cbv
 refine AB f g ?_;conv=>cbv
 refine Br ?_;exact AD ⟨⟨rfl,rfl,rfl,rfl,rfl,trivial⟩,t2,trivial⟩
theorem Ts {TT:List (List Rat)->Prop} {w:List (List Rat)} {R b c M q p k k':Nat} (F:Fm TT w R b c M q p) {T1 T2:List LR} {A1 A2:LR} {x1 y1:Re} (d:Vm TT w b k k' T1 A1 T2 A2 x1 y1) (j:k+c+1<=M:=by omega) (a:k'+c+1<=M:=by omega):∃A,Vm TT w b k' k T2 A T1 A1 (-y1) x1/\CF 74 [.agg (AG T1 A1 T2 A2)] (.agg (AG T2 A T1 A1)):=by
 obtain⟨A5,g,_,f⟩:=Iu F d.y a;refine⟨A5,⟨g,d.x⟩,?_⟩;refine AJ Tryz.func74 fun E h=>?_
 conv=>cbv
 refine AB h f ?_;conv=>cbv
 refine Br ?_;exact AD ⟨⟨rfl,rfl,rfl,rfl,rfl,trivial⟩,trivial⟩
theorem To {TT:List (List Rat)->Prop} {w:List (List Rat)} {R b c M q p k k' l l':Nat} (F:Fm TT w R b c M q p) {T1 T2 T3 T4:List LR} {A1 A2 A3 A4:LR} {x1 y1 x2 y2:Re} (d:Vm TT w b k k' T1 A1 T2 A2 x1 y1) (f:Vm TT w b l l' T3 A3 T4 A4 x2 y2) (C:k+l+c+2<=M:=by omega) (B:k'+l'+c+2<=M:=by omega):∃T A,Nm TT w b (k+k'+l+l'+3) T A (x1*x2+y1*y2)/\CF 277 [.agg (AG T1 A1 T2 A2),.agg (AG T3 A3 T4 A4)] (.AF [(true,(AK T A)),(false,[.int .i64 0])]):=by
 obtain⟨T5,A5,n,_,g⟩:=D5 F d.x f.x;obtain⟨T6,A6,o,_,h⟩:=D5 F d.y f.y;obtain⟨T7,A7,z,_,j⟩:=G0 F n o;refine⟨T7,A7,z.mono (by omega),?_⟩;refine AJ Tryz.func277 fun E a=>?_
 conv=>cbv
 refine AB a g ?_;conv=>cbv
 refine AB a h ?_;conv=>cbv
 refine AO ?_;conv=>cbv
 refine AO ?_;conv=>cbv
 refine AB a j ?_;conv=>cbv
 exact AD ⟨t3,t2,trivial⟩
theorem oy {TT:List (List Rat)->Prop} {w:List (List Rat)} {R b c M q p k k' l l':Nat} (F:Fm TT w R b c M q p) {T1 T2 T3 T4:List LR} {A1 A2 A3 A4:LR} {x1 y1 x2 y2:Re} (n:Vm TT w b k k' T1 A1 T2 A2 x1 y1) (o:Vm TT w b l l' T3 A3 T4 A4 x2 y2) (z:k'+l+c+2<=M:=by omega) (j:k+l'+c+2<=M:=by omega):∃T A,Nm TT w b (k+k'+l+l'+3) T A (-y1*x2+x1*y2)/\CF 270 [.agg (AG T1 A1 T2 A2),.agg (AG T3 A3 T4 A4)] (.AF [(true,(AK T A)),(false,[.int .i64 0])]):=by
 obtain⟨A5,g,d⟩:=Ts F n;obtain⟨T7,A7,h,f⟩:=To F g o;refine⟨T7,A7,h.mono (by omega),?_⟩;refine AJ Tryz.func270 fun E a=>?_
 conv=>cbv
 refine AB a d ?_;conv=>cbv
 refine AB a f ?_;conv=>cbv
 refine Br ?_;exact AD ⟨t3,t2,trivial⟩
theorem bI {TT:List (List Rat)->Prop} {w:List (List Rat)} {R b c M q p k k':Nat} (F:Fm TT w R b c M q p) {T1 T2:List LR} {A1 A2:LR} {x1 y1:Re} (a:Vm TT w b k k' T1 A1 T2 A2 x1 y1) (j:2*k+c+2<=M:=by omega) (h:2*k'+c+2<=M:=by omega):∃T A,Nm TT w b (2*k+2*k'+3) T A (x1*x1+y1*y1)/\CF 189 [.agg (AG T1 A1 T2 A2)] (.AF [(true,(AK T A)),(false,[.int .i64 0])]):=by
 obtain⟨T7,A7,f,d⟩:=To F a a;refine⟨T7,A7,f.mono (by omega),?_⟩;refine AJ Tryz.func189 fun E g=>?_
 conv=>cbv
 refine AB g d ?_;conv=>cbv
 exact AD ⟨t3,t2,trivial⟩
end Go.Abs
namespace Go.Abs
section
variable {α:Type} [Lean.Grind.CommRing α]
def CA:Nat->(Nat->α)->α
 | 0,_=>0
 | n+1,f=>CA n f+f n
theorem HQ {f g:Nat->α}:∀{n:Nat},(∀i,i<n->f i=g i)->CA n f=CA n g
 | 0,_=>rfl
 | n+1,h=>by rw[CA,CA,HQ (n:=n) (fun i a=>h i (by omega)),h n (by omega)]
theorem S4 (f:Nat->α) (m:Nat):∀n,CA (m+n) f=CA m f+CA n (fun i=>f (m+i))
 | 0=>by rw[CA,Nat.add_zero];grind
 | n+1=>by rw[<-Nat.add_assoc,CA,CA,S4 f m n];grind
theorem S5 (c:α) (f:Nat->α):∀n,c*CA n f=CA n (fun i=>c*f i)
 | 0=>by rw[CA,CA];grind
 | n+1=>by rw[CA,CA,<-S5 c f n];grind
theorem Z2 (f g:Nat->α):∀n,CA n f+CA n g=CA n (fun i=>f i+g i)
 | 0=>by rw[CA,CA,CA];grind
 | n+1=>by rw[CA,CA,CA,<-Z2 f g n];grind
theorem S6:∀n,CA n (fun _=>(0:α))=0
 | 0=>rfl
 | n+1=>by rw[CA,S6 n];grind
theorem Z1 (f:Nat->Nat->α) (m:Nat):∀n,CA n (fun i=>CA m (fun k=>f i k))=CA m (fun k=>CA n (fun i=>f i k))
 | 0=>by rw[CA];exact (S6 m).symm
 | n+1=>by
  rw[CA,Z1 f m n,Z2];rfl
end
noncomputable def cf (u:List (List Rat)) (x:Re) (i:Nat):Rat:=(co u x).getD i 0
section
variable {u w:List (List Rat)} {x y:Re}
theorem Vx (h:AZ u) (a:In u x) (d:In u y) (i:Nat):cf u (x+y) i=cf u x i+cf u y i:=by
 unfold cf;rw[ML h a d];have l1:=Cr a;have l2:=Cr d;simp only[List.getD_eq_getElem?_getD,List.getElem?_zipWith]
 by_cases f:i<2^u.length
 ·rw[List.getElem?_eq_getElem (by omega:i<(co u x).length),List.getElem?_eq_getElem (by omega:i<(co u y).length)];rfl
 rw[List.getElem?_eq_none (by omega:(co u x).length<=i),List.getElem?_eq_none (by omega:(co u y).length<=i)]
 show (0:Rat)=0+0
 grind
theorem V3 (h:AZ u) (a:In u x) (c:Rat) (i:Nat):cf u (Re.ofRat c*x) i=c*cf u x i:=by
 unfold cf;rw[Qm h a];simp only[List.getD_eq_getElem?_getD,List.getElem?_map];cases (co u x)[i]? with
 | none=>show (0:Rat)=c*0;grind
 | some q=>rfl
theorem V4 (h:AZ u) (i:Nat):cf u 0 i=0:=by
 have:=V3 h (CG u) 0 i;rw[show Re.ofRat 0*0=(0:Re) by grind] at this;rw[this];grind
theorem Gt {r:List Rat} {p q:Re} (h:AZ (r::u)) (a:In u p) (f:In u q) (e:x=p+q*rt u r) {i:Nat} (d:i<2^u.length):cf (r::u) x i=cf u p i:=by
 unfold cf;rw[Cz h a f e,List.getD_eq_getElem?_getD,List.getD_eq_getElem?_getD,List.getElem?_append_left (by rw[Cr a];exact d)]
theorem Ij {r:List Rat} {p q:Re} (h:AZ (r::u)) (a:In u p) (d:In u q) (e:x=p+q*rt u r) (i:Nat):cf (r::u) x (2^u.length+i)=cf u q i:=by
 unfold cf;rw[Cz h a d e,List.getD_eq_getElem?_getD,List.getD_eq_getElem?_getD,List.getElem?_append_right (by rw[Cr a];omega),Cr a,Nat.add_sub_cancel_left]
noncomputable def bb:List (List Rat)->Nat->Re
 | [],_=>1
 | r::u,i=>if i<2^u.length then bb u i else bb u (i-2^u.length)*rt u r
theorem VT {r:List Rat} {i:Nat} (a:i<2^u.length):bb (r::u) i=bb u i:=if_pos a
theorem VS {r:List Rat} (i:Nat):bb (r::u) (2^u.length+i)=bb u i*rt u r:=by
 rw[bb,if_neg (by omega),Nat.add_sub_cancel_left]
theorem J9:∀{u:List (List Rat)},AZ u->∀i,In u (bb u i)
 | [],_,i=>KA []
 | r::u,h,i=>by
  rw[bb]
  split
  ·exact FZ (J9 h.1 i)
  exact Aj h (FZ (J9 h.1 _)) (Iq u r)
theorem XJ {f:Nat->Re} (a:∀i,In u (f i)):∀n,In u (CA n f)
 | 0=>CG u
 | n+1=>DK (XJ a n) (a n)
theorem expand:∀{u:List (List Rat)} {x:Re},AZ u->In u x->x=CA (2^u.length) (fun i=>Re.ofRat (cf u x i)*bb u i)
 | [],x,h,n=>by
  obtain⟨q,rfl⟩:=Cp.1 n
  show _=CA 1 _
  rw[CA,CA]
  show _=0+Re.ofRat (cf [] (Re.ofRat q) 0)*1
  rw[cf,De]
  show _=0+Re.ofRat q*1
  grind
 | r::u,x,h,n=>by
  obtain⟨p,q,d,j,e⟩:=CV.1 n
  rw[B4,S4,HQ (g:=fun i=>Re.ofRat (cf u p i)*bb u i) (fun i a=>by rw[Gt h d j e a,VT a]),
   HQ (f:=fun i=>Re.ofRat (cf (r::u) x (2^u.length+i))*bb (r::u) (2^u.length+i)) (g:=fun i=>rt u r*(Re.ofRat (cf u q i)*bb u i)) (fun i a=>by rw[Ij h d j e,VS];grind),<-S5,<-expand h.1 d,<-expand h.1 j,e]
  grind
theorem Qf (h:AZ w) (c:Nat->Rat) {f:Nat->Re} (a:∀i,In w (f i)) (k:Nat):∀n,cf w (CA n (fun i=>Re.ofRat (c i)*f i)) k=CA n (fun i=>c i*cf w (f i) k)
 | 0=>V4 h k
 | n+1=>by
  rw[CA,CA,Vx h (XJ (fun i=>MV (a i) (c i)) n) (MV (a n) (c n)),Qf h c a k n,V3 h (a n)]
noncomputable def tr (u:List (List Rat)) (x:Re):Rat:=CA (2^u.length) (fun i=>cf u (x*bb u i) i)
theorem aT (hu:AZ u) (hw:AZ w) (a:Ba u w) (d:Ba w u) (f:In u x):tr u x=tr w x:=by
 have h:∀i,cf u (x*bb u i) i=CA (2^w.length) (fun k=>cf w (x*bb u i) k*cf u (bb w k) i):=fun i=>by
  have n:=a _ (Aj hu f (J9 hu i))
  rw[show cf u (x*bb u i) i=cf u (CA (2^w.length) (fun k=>Re.ofRat (cf w (x*bb u i) k)*bb w k)) i from congrArg (fun z=>cf u z i) (expand hw n),
   Qf hu _ (fun k=>d _ (J9 hw k))]
 have e2:∀k,cf w (x*bb w k) k=CA (2^u.length) (fun i=>cf u (bb w k) i*cf w (x*bb u i) k):=fun k=>by
  have o:=d _ (J9 hw k)
  have j:x*bb w k=CA (2^u.length) (fun i=>Re.ofRat (cf u (bb w k) i)*(x*bb u i)):=by
   rw[show x*bb w k=x*CA (2^u.length) (fun i=>Re.ofRat (cf u (bb w k) i)*bb u i) from congrArg (x* ·) (expand hu o),S5];exact HQ fun i _=>by grind
  rw[j,Qf hw _ (fun i=>a _ (Aj hu f (J9 hu i)))]
 unfold tr;rw[HQ (fun i _=>h i),Z1,HQ (g:=fun k=>CA (2^u.length) (fun i=>cf w (x*bb u i) k*cf u (bb w k) i)) (fun k _=>rfl),HQ (fun k _=>e2 k)];exact HQ fun k _=>HQ fun i _=>by grind
theorem NS:∀{u:List (List Rat)} {x:Re},AZ u->In u x->tr u x=((2^u.length:Nat):Rat)*cf u x 0
 | [],x,h,n=>by
  show CA 1 _=_
  rw[CA,CA]
  show 0+cf [] (x*1) 0=((1:Nat):Rat)*cf [] x 0
  rw[show x*1=x by grind];grind
 | r::u,x,h,n=>by
  obtain⟨p,q,a,j,e⟩:=CV.1 n;have z:=Cq h;have o:=NS h.1 a;have hb:=J9 h.1;unfold tr at o ⊢
  rw[B4,S4,HQ (g:=fun i=>cf u (p*bb u i) i) (fun i d=>by
    rw[VT d];exact Gt h (Aj h.1 a (hb i)) (Aj h.1 j (hb i)) (by rw[e];grind) d),
   HQ (f:=fun i=>cf (r::u) (x*bb (r::u) (2^u.length+i)) (2^u.length+i)) (g:=fun i=>cf u (p*bb u i) i) (fun i d=>by
    rw[VS];exact Ij h (Aj h.1 (Aj h.1 j (hb i)) (B8 h)) (Aj h.1 a (hb i)) (by rw[e,<-z];grind) i),
   o,Gt h a j e (C2 _),Rat.natCast_add]
  grind
end
end Go.Abs
namespace Go.Abs
structure Ml (w:List (List Rat)) (E:Nat):Prop where
 dn:∃K:Nat,0<K/\K<=2^E/\∀{x y:Re} {D D':Nat},In w x->In w y->DN D (co w x)->DN D' (co w y)->DN (D*D'*K) (co w (x*y))
 mx:∀{x y:Re} {B C:Nat},In w x->In w y->MX B (co w x)->MX C (co w y)->MX (B*C*2^E) (co w (x*y))
theorem Ml.of {w:List (List Rat)} {R:Nat} (hw:AZ w) (a:TB R w):Ml w (EE w.length R):=⟨J5 hw a,IK hw a⟩
section
variable {u:List (List Rat)} {r:List Rat} {E R s t:Nat} {x y:Re}
theorem Ml.mono {d:Nat} (M:Ml u E) (h:E<=d):Ml u d:=by
 obtain⟨K,f,g,hm⟩:=M.dn;exact⟨⟨K,f,Nat.le_trans g (CQ h),hm⟩,fun j n a b=>(M.mx j n a b).mono (Nat.mul_le_mul_left _ (CQ h))⟩
theorem Ml.bd (M:Ml u E) (f:In u x) (g:In u y) (a:Bd s (co u x)) (b:Bd t (co u y)):Bd (s+t+E) (co u (x*y)):=by
 obtain⟨D,j,n,o,h3⟩:=a;obtain⟨h,k0,k1,k2,B⟩:=b;obtain⟨K,z,d,hm⟩:=M.dn;refine⟨D*h*K,Nat.mul_pos (Nat.mul_pos j k0) z,?_,hm f g o k2,?_⟩
 ·have:=Nat.mul_le_mul (Nat.mul_le_mul n k1) d;rwa [<-Nat.pow_add,<-Nat.pow_add] at this
 have:=M.mx f g h3 B;rwa [<-Nat.pow_add,<-Nat.pow_add] at this
theorem Ml.cons (h:AZ (r::u)) (M:Ml u E) (O:Bd R r):Ml (r::u) (2*E+R+2):=by
 obtain⟨K,V,F,hm⟩:=M.dn;obtain⟨z,X,J,I,L⟩:=O;refine⟨⟨K*K*z,Nat.mul_pos (Nat.mul_pos V V) X,?_,fun {x y D Y} Q U g j=>?_⟩,fun {x y B C} Q U n o=>?_⟩
 ·have H:K*K*z<=2^E*2^E*2^R:=Nat.mul_le_mul (Nat.mul_le_mul F F) J;rw[<-Nat.pow_add,<-Nat.pow_add] at H;exact Nat.le_trans H (CQ)
 ·obtain⟨a,b,ha,hb,rfl⟩:=CV.1 Q;obtain⟨c,d,hc,f,rfl⟩:=CV.1 U;rw[Cz h ha hb rfl,DN.app] at g;rw[Cz h hc f rfl,DN.app] at j;rw[OA h ha hb hc f rfl rfl,DN.app];have N:DN z (co u (AL u r)):=by rw[Es h];exact I
  refine⟨DN.Fv h.1 (Aj h.1 ha hc) (Aj h.1 (Aj h.1 hb f) (B8 h)) ((hm ha hc g.1 j.1).dvd ⟨K*z,by grind⟩) ((hm (Aj h.1 hb f) (B8 h) (hm hb f g.2 j.2) N).dvd ⟨1,by grind⟩),
   DN.Fv h.1 (Aj h.1 ha f) (Aj h.1 hb hc) ((hm ha f g.1 j.2).dvd ⟨K*z,by grind⟩) ((hm hb hc g.2 j.1).dvd ⟨K*z,by grind⟩)⟩
 have G:=fun {x y:Re} {B C:Nat}=>M.mx (x:=x) (y:=y) (B:=B) (C:=C)
 obtain⟨a,b,ha,hb,rfl⟩:=CV.1 Q;obtain⟨c,d,hc,f,rfl⟩:=CV.1 U;rw[Cz h ha hb rfl,MX.app] at n;rw[Cz h hc f rfl,MX.app] at o;rw[OA h ha hb hc f rfl rfl,MX.app];have N:MX (2^R) (co u (AL u r)):=by rw[Es h];exact L
 have e:2*E+R+2=E+E+R+2:=by omega
 rw[e,Nat.pow_add,Nat.pow_add,Nat.pow_add];have H:=C2 E;have W:=C2 R
 generalize 2^E=K at*
 generalize 2^R=S at*
 have k1:B*C*K<=B*C*(K*K*S):=Nat.mul_le_mul_left _ (by
  have:K*1<=K*(K*S):=Nat.mul_le_mul_left _ (Nat.mul_pos H W);rw[Nat.mul_assoc];omega)
 have k2:B*C*K*S*K=B*C*(K*K*S):=by grind
 refine⟨(MX.Fv h.1 (Aj h.1 ha hc) (Aj h.1 (Aj h.1 hb f) (B8 h)) (G ha hc n.1 o.1) (G (Aj h.1 hb f) (B8 h) (G hb f n.2 o.2) N)).mono ?_,
  (MX.Fv h.1 (Aj h.1 ha f) (Aj h.1 hb hc) (G ha f n.1 o.2) (G hb hc n.2 o.1)).mono ?_⟩
 ·rw[k2];grind
 grind
theorem Ml.inv {P:Nat->Nat} (h:AZ (r::u)) (M:Ml u E) (N:Bd R r) (hI:∀{x y:Re} {s:Nat},In u x->In u y->x*y=1->Bd s (co u x)->Bd (P s) (co u y)) (hx:In (r::u) x) (e:x*y=1) (hb:Bd s (co (r::u) x)):Bd (s+E+P (2*s+2*E+R+1)) (co (r::u) y):=by
 obtain⟨p,q,d,a,rfl⟩:=CV.1 hx;have hr:=Cq h;obtain⟨D,G,H,W,h3⟩:=hb;rw[Cz h d a rfl] at W h3;obtain⟨C,F⟩:=DN.app.1 W;obtain⟨mp,U⟩:=MX.app.1 h3;obtain⟨K,I,j,hm⟩:=M.dn;obtain⟨B,k0,k1,k2,k3⟩:=N;have O:DN B (co u (AL u r)):=by rw[Es h];exact k2
 have L:MX (2^R) (co u (AL u r)):=by rw[Es h];exact k3
 have hN:Bd (2*s+2*E+R+1) (co u (p*p-q*q*AL u r)):=by
  refine⟨D*D*K*B*K,Nat.mul_pos (Nat.mul_pos (Nat.mul_pos (Nat.mul_pos G G) I) k0) I,?_,DN.I6 h.1 (Aj h.1 d d) (Aj h.1 (Aj h.1 a a) (B8 h)) ((hm d d C C).dvd ⟨B*K,by grind⟩) (hm (Aj h.1 a a) (B8 h) (hm a a F F) O),
   (MX.I6 h.1 (Aj h.1 d d) (Aj h.1 (Aj h.1 a a) (B8 h)) (M.mx d d mp mp) (M.mx (Aj h.1 a a) (B8 h) (M.mx a a U U) L)).mono ?_⟩
  ·have:=Nat.mul_le_mul (Nat.mul_le_mul (Nat.mul_le_mul (Nat.mul_le_mul H H) j) k1) j;rw[<-Nat.pow_add,<-Nat.pow_add,<-Nat.pow_add,<-Nat.pow_add] at this;exact Nat.le_trans this (CQ)
  rw[<-Nat.pow_add,<-Nat.pow_add,<-Nat.pow_add,<-Nat.pow_add,Nat.pow_succ];have V:2^(s+s+E)<=2^(2*s+2*E+R):=CQ;have e2:2^(s+s+E+R+E)<=2^(2*s+2*E+R):=CQ;omega
 have f:=FY (Aj h.1 d d) (Aj h.1 (Aj h.1 a a) (B8 h));have Z:(0:Re)<1:=Re.G1.2 (show (0:Rat)<1 by decide)
 have J:p*p-q*q*AL u r≠0:=by
  intro e0;have V:(p+q*rt u r)*(p-q*rt u r)=0:=by grind
  rcases Re.Gu V with e2 | e2
  ·rw[e2] at e;grind
  obtain⟨e3,e4⟩:=indep h d (Gw a) (CG u) (CG u) (show p+ -q*rt u r=0+0*rt u r by grind);have:p+q*rt u r=0:=by grind
  rw[this] at e;grind
 obtain⟨i,g,n⟩:=EC h.1 f J;obtain⟨X,Q,S,o,z⟩:=hI f g n hN
 have Y:y=p*i+ -(q*i)*rt u r:=by
  have:y=(p+q*rt u r)*y*((p-q*rt u r)*i):=by
   have:(p+q*rt u r)*y*((p-q*rt u r)*i)=y*((p*p-q*q*AL u r)*i):=by grind
   rw[this,n];grind
  rw[e] at this
  grind
 rw[Y,Cz h (Aj h.1 d g) (Gw (Aj h.1 a g)) rfl,Ko h.1 (Aj h.1 a g)];have m1:=M.mx d g mp z;have m2:=M.mx a g U z;rw[<-Nat.pow_add,<-Nat.pow_add] at m1 m2;refine⟨D*X*K,Nat.mul_pos (Nat.mul_pos G Q) I,?_,DN.app.2 ⟨hm d g C o,(hm a g F o).neg⟩,MX.app.2 ⟨m1.mono (CQ),(m2.mono (CQ)).neg⟩⟩;have:=Nat.mul_le_mul (Nat.mul_le_mul H S) j;rw[<-Nat.pow_add,<-Nat.pow_add] at this;exact Nat.le_trans this (CQ)
end
end Go.Abs
namespace Go.Abs
variable {E:Nat} {u w:List (List Rat)} {x:Re}
theorem Wk (hu:AZ u) (hw:AZ w) (h:Ba u w):∀{v:List (List Rat)},AZ v->Ba v w->Ba (ext u v) w
 | [],_,_=>h
 | r::v,a,d=>by
  have g:=Wk hu hw h a.1 d.tail;rw[ext]
  by_cases f:Sq (ext u v) (AL v r)
  ·rw[D3 f];exact g
  rw[Dc f];refine JM hw g ?_;rw[KM ((Iy hu a.1).2 _ (B8 a))];exact d.root
theorem Vz:∀(v:List (List Rat)) {u:List (List Rat)} {x:Re},AZ (v++u)->In u x->cf (v++u) x 0=cf u x 0
 | [],_,_,_,_=>rfl
 | r::v,u,x,h,a=>by
  rw[List.cons_append,Gt (u:=v++u) h (MP v _ a) (CG _) (by grind) (C2 _)];exact Vz v h.1 a
theorem Vy (h:AZ u):cf u 1 0=1:=by
 rw[cf,show (1:Re)=Re.ofRat 1 from rfl,IA 1 h];rfl
theorem MI (hu:AZ u) (hw:AZ w) (h:Ba u w) (g:In u x):cf u x 0=cf w x 0:=by
 obtain⟨ht,f⟩:=Iy hu hw;have a:=Wk hu hw h hw (Ba.refl w);have j:=OR u w;have d:=MQ j;obtain⟨v,e⟩:=j;have k1:=aT ht hw a f (KA _);rw[NS ht (KA _),NS hw (KA _),Vy ht,Vy hw] at k1;have k2:=aT ht hw a f (d _ g);rw[NS ht (d _ g),NS hw (h _ g)] at k2
 have o:((2^w.length:Nat):Rat)≠0:=fun e=>by
  have:=Rat.natCast_inj.1 (e.trans (show (0:Rat)=((0:Nat):Rat) from rfl));have:=C2 w.length;omega
 have n:cf (ext u w) x 0=cf w x 0:=by grind
 rw[<-n,<-e];exact (Vz v (e ▸ ht) g).symm
def Rb (w:List (List Rat)):List (List Rat)->Nat->Prop
 | [],k=>k=0
 | r::u,k=>∃k1 k2,k=k1+k2/\Rb w u k1/\∃y,y*rt u r=1/\Bd k2 (co w y)
theorem ZA (hw:AZ w) (M:Ml w E):∀{u:List (List Rat)} {k:Nat},AZ u->Ba u w->Rb w u k->∃Y:Nat->Re,(∀i,In u (Y i))/\(∀{x:Re},In u x->∀i,i<2^u.length->cf u x i=cf w (x*Y i) 0)/\
  ∃D:Nat,0<D/\D<=2^(k+u.length*E)/\∀i,i<2^u.length->DN D (co w (Y i))/\MX (2^(k+u.length*E)) (co w (Y i))
 | [],k,hu,d,B=>by
  have B:k=0:=B;subst B;refine⟨fun _=>1,fun _=>KA _,fun {x} C i n=>?_,1,by decide,by simp,fun i _=>?_⟩
  ·have:i=0:=by have n:i<1:=n;omega
   subst this;rw[show x*1=x by grind];exact MI hu hw d C
  have e:co w (1:Re)=1::List.replicate (2^w.length-1) 0:=IA 1 hw
  have hm:∀q∈co w (1:Re),q=1\/q=0:=fun q a=>by
   rw[e] at a;rcases List.mem_cons.1 a with h | h
   ·exact .inl h
   exact .inr (List.eq_of_mem_replicate h)
  refine⟨fun q a=>?_,fun q a=>?_⟩
  ·rcases hm q a with rfl | rfl
   ·exact⟨1,by decide +kernel⟩
   exact⟨0,by decide +kernel⟩
  rcases hm q a with rfl | rfl
  ·simp only[List.length_nil,Nat.zero_mul,Nat.add_zero,Nat.pow_zero];exact⟨by decide +kernel,by decide +kernel⟩
  simp only[List.length_nil,Nat.zero_mul,Nat.add_zero,Nat.pow_zero];exact⟨by decide +kernel,by decide +kernel⟩
 | r::u,k,hu,d,B=>by
  obtain⟨k1,k2,rfl,H,y,S,L,d1,d2,d3,d4⟩:=B;obtain⟨Y,y1,y2,D,W,e2,N⟩:=ZA hw M hu.1 d.tail H;obtain⟨K,U,V,X⟩:=M.dn;have Z:=Cq hu;have J:AL u r≠0:=by have:=hu.2.2.1;grind
  obtain⟨s,Q,I⟩:=EC hu.1 (B8 hu) J
  have O:y=s*rt u r:=by
   have:y=y*(AL u r*s):=by rw[I];grind
   rw[this,<-Z];have:y*(rt u r*rt u r*s)=(y*rt u r)*(s*rt u r):=by grind
   rw[this,S];grind
  have g:In (r::u) y:=by rw[O];exact Aj hu (FZ Q) (Iq u r)
  have F:=d _ g;have hlen:k1+k2+(r::u).length*E=(k1+u.length*E)+k2+E:=by rw[List.length_cons,Nat.succ_mul];omega
  refine⟨fun i=>if i<2^u.length then Y i else Y (i-2^u.length)*y,fun i=>?_,fun {x} C i n=>?_,D*L*K,Nat.mul_pos (Nat.mul_pos W d1) U,?_,fun i n=>?_⟩
  ·show In (r::u) (if _ then _ else _)
   split
   ·exact FZ (y1 i)
   exact Aj hu (FZ (y1 _)) g
  ·obtain⟨p,q,o,a,e⟩:=CV.1 C
   show _=cf w (x*if _ then _ else _) 0
   split
   ·rename_i f
    rw[Gt hu o a e f,y2 o i f,<-MI hu.1 hw d.tail (Aj hu.1 o (y1 i)),<-MI hu hw d (Aj hu C (FZ (y1 i)))];exact (Gt hu (Aj hu.1 o (y1 i)) (Aj hu.1 a (y1 i)) (by rw[e];grind) (C2 _)).symm
   rename_i G
   rw[B4] at n;obtain⟨j,rfl⟩:∃j,i=2^u.length+j:=⟨i-2^u.length,by omega⟩
   rw[Nat.add_sub_cancel_left,Ij hu o a e,y2 a j (by omega),<-MI hu.1 hw d.tail (Aj hu.1 a (y1 j)),<-MI hu hw d (Aj hu C (Aj hu (FZ (y1 j)) g))];refine (Gt hu (Aj hu.1 a (y1 j)) (Aj hu.1 (Aj hu.1 o (y1 j)) Q) ?_ (C2 _)).symm;have:x*(Y j*y)=p*Y j*y+q*Y j*(y*rt u r):=by rw[e];grind
   rw[this,S,O];grind
  ·rw[hlen];simp only[Nat.pow_add] at e2 ⊢;exact Nat.mul_le_mul (Nat.mul_le_mul e2 d2) V
  show DN _ (co w (if _ then _ else _))/\MX _ (co w (if _ then _ else _))
  split
  ·rename_i f
   obtain⟨f1,f2⟩:=N i f;refine⟨(f1.mul_right (L*K)).dvd ⟨1,by grind⟩,f2.mono ?_⟩;rw[hlen];exact CQ
  rename_i G
  rw[B4] at n;obtain⟨f1,f2⟩:=N (i-2^u.length) (by omega);have z:=d.tail _ (y1 (i-2^u.length));refine⟨X z F f1 d3,?_⟩;have:=M.mx z F f2 d4;rw[hlen];simp only[Nat.pow_add] at this ⊢;exact this
theorem VW {k s:Nat} (hw:AZ w) (M:Ml w E) (hu:AZ u) (f:Ba u w) (L:Rb w u k) (n:In u x) (N:Bd s (co w x)):Bd (s+k+(u.length+1)*E) (co u x):=by
 obtain⟨Y,y1,y2,D,G,e2,o⟩:=ZA hw M hu f L;obtain⟨K,C,F,J⟩:=M.dn;obtain⟨B,d1,d2,d3,d4⟩:=N;have a:=f _ n;have z:s+k+(u.length+1)*E=s+(k+u.length*E)+E:=by rw[Nat.succ_mul];omega
 have key:∀q∈co u x,∃i,i<2^u.length/\q∈co w (x*Y i):=fun q j=>by
  obtain⟨i,d,rfl⟩:=List.mem_iff_getElem.1 j;have g:i<2^u.length:=by rw[<-Cr n];exact d
  refine⟨i,g,?_⟩;have H:=y2 n i g;have O:=Aj hw a (f _ (y1 i));have h:0<(co w (x*Y i)).length:=by rw[Cr O];exact C2 _
  have I:cf u x i=(co u x)[i]:=by rw[cf,List.getD_eq_getElem?_getD,List.getElem?_eq_getElem d];rfl
  have h3:cf w (x*Y i) 0=(co w (x*Y i))[0]:=by rw[cf,List.getD_eq_getElem?_getD,List.getElem?_eq_getElem h];rfl
  rw[<-I,H,h3];exact List.getElem_mem h
 refine⟨B*D*K,Nat.mul_pos (Nat.mul_pos d1 G) C,?_,fun q j=>?_,fun q j=>?_⟩
 ·rw[z];simp only[Nat.pow_add] at e2 ⊢;exact Nat.mul_le_mul (Nat.mul_le_mul d2 e2) F
 ·obtain⟨i,d,hm⟩:=key q j;exact J a (f _ (y1 i)) d3 (o i d).1 q hm
 obtain⟨i,d,hm⟩:=key q j;have:=M.mx a (f _ (y1 i)) d4 (o i d).2 q hm;rw[z];simp only[Nat.pow_add] at this ⊢;exact this
end Go.Abs
namespace Go.Abs
theorem VY {w:List (List Rat)} {E σ:Nat} (hw:AZ w) (M:Ml w E):∀{u:List (List Rat)},AZ u->Ba u w->(∀v∈BF u,Bd σ (co w (Re.sqrt v)))->∃K:Nat,0<K/\K<=2^(u.length*(σ+E+1))/\
  ∀{x:Re} {D B:Nat},In u x->(DN D (co u x)->DN (D*K) (co w x))/\(MX B (co u x)->MX (B*2^(u.length*(σ+E+1))) (co w x))
 | [],_,_,_=>⟨1,by decide,by simp,fun {x D B} O=>by
  obtain⟨q,rfl⟩:=Cp.1 O;rw[De,IA q hw,Nat.mul_one];refine⟨Qt,fun h=>?_⟩;rw[show B*2^(([]:List (List Rat)).length*(σ+E+1))=B by simp];exact Rp h⟩
 | r::u,h,n,j=>by
  obtain⟨K,V,N,hb⟩:=VY hw M h.1 n.tail (fun v W=>j v (List.mem_cons_of_mem _ W));obtain⟨G,J,L,hm⟩:=M.dn;obtain⟨F,U,H,C,I⟩:=j (AL u r) List.mem_cons_self;have d:In w (rt u r):=n.root;have e2:(r::u).length*(σ+E+1)=u.length*(σ+E+1)+(σ+E+1):=by rw[List.length_cons,Nat.succ_mul]
  refine⟨K*(F*G),Nat.mul_pos V (Nat.mul_pos U J),?_,fun {x D B} O=>?_⟩
  ·have S:=Nat.mul_le_mul N (Nat.mul_le_mul H L);simp only[<-Nat.pow_add] at S;exact Nat.le_trans S (CQ (by rw[e2];omega))
  obtain⟨p,q,o,z,rfl⟩:=CV.1 O;rw[Cz h o z rfl,DN.app,MX.app];have g:=n.tail _ o;have a:=n.tail _ z;refine⟨fun f=>?_,fun f=>?_⟩
  ·have k1:=(hb (B:=0) o).1 f.1;have k2:=(hb (B:=0) z).1 f.2;have Q:=hm a d k2 C;exact DN.Fv hw g (Aj hw a d) (k1.dvd ⟨F*G,by grind⟩) (Q.dvd ⟨1,by grind⟩)
  have k1:=(hb (D:=0) o).2 f.1;have k2:=(hb (D:=0) z).2 f.2;have Q:=M.mx a d k2 I;refine (MX.Fv hw g (Aj hw a d) k1 Q).mono ?_
  have e:B*2^(u.length*(σ+E+1))*2^σ*2^E=B*2^(u.length*(σ+E+1)+σ+E):=by
   rw[Nat.mul_assoc,Nat.mul_assoc,<-Nat.pow_add,<-Nat.pow_add];congr 2;omega
  rw[e,<-Nat.mul_add];refine Nat.mul_le_mul_left B ?_;have h3:2^(u.length*(σ+E+1))<=2^(u.length*(σ+E+1)+σ+E):=CQ;rw[e2,show u.length*(σ+E+1)+(σ+E+1)=u.length*(σ+E+1)+σ+E+1 by omega,Nat.pow_succ];omega
structure Wv (w:List (List Rat)) (σ κ ν:Nat) (v:Re):Prop where
 root:In w (Re.sqrt v)
 rb:Bd σ (co w (Re.sqrt v))
 inv:∃y,y*Re.sqrt v=1/\Bd κ (co w y)
 vb:Bd ν (co w v)
theorem ZB {w:List (List Rat)} {σ κ ν:Nat}:∀{u:List (List Rat)},(∀v∈BF u,Wv w σ κ ν v)->Rb w u (u.length*κ)
 | [],_=>by show _=0;simp
 | r::u,h=>by
  obtain⟨y,d,hb⟩:=(h (AL u r) List.mem_cons_self).inv;exact⟨u.length*κ,κ,by rw[List.length_cons,Nat.succ_mul],ZB (fun v a=>h v (List.mem_cons_of_mem _ a)),y,d,hb⟩
section
variable {w u:List (List Rat)} {E σ κ ν m:Nat}
theorem MR (hw:AZ w):∀{u:List (List Rat)},AZ u->(∀v∈BF u,In w (Re.sqrt v))->Ba u w
 | [],_,_=>Ks w
 | r::u,h,a=>JM hw (MR hw h.1 (fun v hm=>a v (List.mem_cons_of_mem _ hm))) (a (AL u r) List.mem_cons_self)
end
theorem Tf.all {P:List (List Rat)->Prop} {R0:Nat} (I:CU P R0) {B:Re->Prop} (j:∀{r u},P (r::u)->B (AL u r)) {u:List (List Rat)} (h:Tf P u):∀v∈Go.Abs.BF u,B v:=by
 induction h with
 | nil=>intro v a;simp[Go.Abs.BF] at a
 | @BK u o z ht d n g=>
  by_cases f:Sq u (AL z o)
  ·rw[D3 f];exact g
  rw[Dc f];intro v a;rcases List.mem_cons.1 a with rfl | a
  ·rw[EB (n _ (B8 (I.red d)))];exact j d
  exact g v a
end Go.Abs
namespace Go.Abs
def E3:List (List Rat)->Nat->Re->Prop
 | [],_,_=>False
 | r::t,i,v=>(i<2^t.length/\E3 t i v)\/(2^t.length<=i/\(v=AL t r\/E3 t (i-2^t.length) v))
variable {i:Nat} {r:List Rat} {t u:List (List Rat)} {v x:Re}
theorem Q8:∀{t:List (List Rat)} {i:Nat} {v:Re},E3 t i v->v∈BF t
 | r::t,i,v,h=>by
  rw[BF];rcases h with⟨_,h⟩ |⟨_,h | h⟩
  ·exact List.mem_cons_of_mem _ (Q8 h)
  ·exact h ▸ List.mem_cons_self
  exact List.mem_cons_of_mem _ (Q8 h)
theorem IE (a:i<2^t.length):E3 (r::t) i v↔E3 t i v:=
 ⟨fun h=>h.elim (·.2) fun h=>absurd h.1 (by omega),fun h=> .inl ⟨a,h⟩⟩
theorem ID:E3 (r::t) (2^t.length+i) v↔v=AL t r\/E3 t i v:=
 ⟨fun h=>h.elim (fun h=>absurd h.1 (by omega)) fun h=>by have:=h.2;rwa [Nat.add_sub_cancel_left] at this,fun h=> .inr ⟨by omega,by rwa [Nat.add_sub_cancel_left]⟩⟩
theorem o5 (h:AZ u) (f:In u x) (a:∀i,i<2^u.length->cf u x i=0):x=0:=by
 rw[expand h f,HQ (g:=fun _=>(0:Re)) (fun i d=>by rw[a i d,show Re.ofRat 0=(0:Re) from rfl];grind)];exact S6 _
theorem Rl:∀{t:List (List Rat)} {v y:Re},AZ t->v∈BF t->In t y->(∀i,i<2^t.length->E3 t i v->cf t y i=0)->
  ∀i,i<2^t.length->(E3 t i v->∃j,j<2^t.length/\¬E3 t j v/\cf t (y*Re.sqrt v) i=cf t y j/\∀F,F≠v->E3 t i F->E3 t j F)/\(¬E3 t i v->cf t (y*Re.sqrt v) i=0)
 | r::t,v,y,h,U,V,L,i,S=>by
  obtain⟨p,q,o,C,e⟩:=CV.1 V;have K:=HU h;rw[BF,List.nodup_cons] at K;rw[B4] at L S
  by_cases f:v=AL t r
  ·have O:∀{j},¬E3 t j v:=fun {j} g=>K.1 (f ▸ Q8 g)
   have N:q=0:=o5 h.1 C fun j g=>by
    rw[<-Ij h o C e j];exact L _ (by omega) (ID.2 (.inl f))
   have e2:y*Re.sqrt v=0+p*rt t r:=by
    show _=0+p*Re.sqrt (AL t r)
    rw[e,N,f];grind
   by_cases z:i<2^t.length
   ·exact⟨fun d=>absurd ((IE z).1 d) O,fun _=>by rw[Gt h (CG t) o e2 z,V4 h.1]⟩
   obtain⟨j,rfl⟩:∃j,i=2^t.length+j:=⟨i-2^t.length,by omega⟩
   have g:j<2^t.length:=by omega
   refine⟨fun _=>⟨j,by rw[B4];omega,fun d=>O ((IE g).1 d),?_,fun F n d=>?_⟩,fun d=>absurd (ID.2 (.inl f)) d⟩
   ·rw[Ij h (CG t) o e2,Gt h o C e g]
   rcases ID.1 d with G | G
   ·exact absurd (G.trans f.symm) n
   exact (IE g).2 G
  have J:v∈BF t:=(List.mem_cons.1 (by rwa [BF] at U)).resolve_left f;have Q:In t (Re.sqrt v):=Lp J;have e2:y*Re.sqrt v=p*Re.sqrt v+q*Re.sqrt v*rt t r:=by rw[e];grind
  have B:=Aj h.1 o Q;have D:=Aj h.1 C Q
  by_cases z:i<2^t.length
  ·obtain⟨k1,k2⟩:=Rl h.1 J o (fun j g d=>by rw[<-Gt h o C e g];exact L j (by omega) ((IE g).2 d)) i z;refine⟨fun d=>?_,fun d=>?_⟩
   ·obtain⟨j,g,a,b,c⟩:=k1 ((IE z).1 d);exact⟨j,by rw[B4];omega,fun d=>a ((IE g).1 d),by rw[Gt h B D e2 z,b,Gt h o C e g],fun F n I=>(IE g).2 (c F n ((IE z).1 I))⟩
   rw[Gt h B D e2 z];exact k2 fun H=>d ((IE z).2 H)
  obtain⟨i,rfl⟩:∃j,i=2^t.length+j:=⟨i-2^t.length,by omega⟩
  obtain⟨k1,k2⟩:=Rl h.1 J C (fun j g d=>by rw[<-Ij h o C e j];exact L _ (by omega) (ID.2 (.inr d))) i (by omega);refine⟨fun d=>?_,fun d=>?_⟩
  ·obtain⟨j,g,a,b,c⟩:=k1 ((ID.1 d).resolve_left f);refine⟨2^t.length+j,by rw[B4];omega,fun d=>(ID.1 d).elim f a,by rw[Ij h B D e2,b,Ij h o C e],fun F n I=>?_⟩;rcases ID.1 I with G | G
   ·exact ID.2 (.inl G)
   exact ID.2 (.inr (c F n G))
  rw[Ij h B D e2];exact k2 fun H=>d (ID.2 (.inr H))
theorem Qx (ht:AZ t):∀{u:List (List Rat)},(∀v∈BF u,v∈BF t)->Ba u t
 | [],_=>Ks t
 | r::u,h=>JM ht (Qx ht fun v a=>h v (by rw[BF];exact List.mem_cons_of_mem _ a)) (Lp (h _ (by rw[BF];exact List.mem_cons_self)))
theorem Ql (ht:AZ t):∀{u:List (List Rat)} {x:Re},AZ u->(∀v∈BF u,v∈BF t)->In u x->∀i,i<2^t.length->(cf t x i=0\/cf t x i∈co u x)/\(cf t x i≠0->∀v,E3 t i v->v∈BF u)
 | [],x,_,_,J,i,g=>by
  obtain⟨q,rfl⟩:=Cp.1 J
  have e:cf t (Re.ofRat q) i=if i=0 then q else 0:=by
   rw[cf,IA q ht,List.getD_eq_getElem?_getD];cases i with
   | zero=>rfl
   | succ i=>
    rw[if_neg (by omega),List.getElem?_cons_succ,List.getElem?_replicate]
    split <;> rfl
  have N:∀{t:List (List Rat)} {v:Re},¬E3 t 0 v:=fun {t v}=>by
   induction t with
   | nil=>exact id
   | cons r t S=>exact fun h=>S ((IE (C2 _)).1 h)
  rw[e]
  split
  ·rename_i h;subst h
   exact⟨.inr (by rw[De];exact List.mem_cons_self),fun _ v n=>absurd n N⟩
  exact⟨.inl rfl,fun h=>absurd rfl h⟩
 | r::u,x,hu,hV,J,i,g=>by
  obtain⟨p,q,I,D,e⟩:=CV.1 J;have z:=HU hu;rw[BF,List.nodup_cons] at z;rw[BF] at hV ⊢;have f:∀v∈BF u,v∈BF t:=fun v n=>hV v (List.mem_cons_of_mem _ n)
  have F:=Qx ht f;have C:=hV _ List.mem_cons_self;have G:=Ql ht hu.1 f I;have H:=Ql ht hu.1 f D
  have L:∀{y:Re},(∀i,i<2^t.length->(cf t y i=0\/cf t y i∈co u y)/\(cf t y i≠0->∀v,E3 t i v->v∈BF u))->∀i,i<2^t.length->E3 t i (AL u r)->cf t y i=0:=fun Q i g o=>
   Classical.byContradiction fun d=>z.1 ((Q i g).2 d _ o)
  obtain⟨k1,k2⟩:=Rl ht C (F _ D) (L H) i g;have O:In t (rt u r):=Lp C
  have hc:cf t x i=cf t p i+cf t (q*Re.sqrt (AL u r)) i:=by
   rw[show x=p+q*Re.sqrt (AL u r) from e];exact Vx ht (F _ I) (Aj ht (F _ D) O) i
  rw[Cz hu I D e]
  by_cases o:E3 t i (AL u r)
  ·obtain⟨j,K,a,b,c⟩:=k1 o;rw[hc,L G i g o,b,show (0:Rat)+cf t q j=cf t q j by grind];refine⟨(H j K).1.imp id fun h=>List.mem_append_right _ h,fun d v n=>?_⟩
   by_cases B:v=AL u r
   ·exact B ▸ List.mem_cons_self
   exact List.mem_cons_of_mem _ ((H j K).2 d v (c v B n))
  rw[hc,k2 o,show cf t p i+(0:Rat)=cf t p i by grind];exact⟨(G i g).1.imp id fun h=>List.mem_append_left _ h,fun d v n=>List.mem_cons_of_mem _ ((G i g).2 d v n)⟩
theorem QR {k:Nat} (ht:AZ t) (hu:AZ u) (hV:∀v∈BF u,v∈BF t) (g:In u x) (h:Bd k (co u x)):Bd k (co t x):=by
 obtain⟨D,d1,d2,d3,d4⟩:=h;have d:=Qx ht hV _ g
 have key:∀q∈co t x,q=0\/q∈co u x:=fun q a=>by
  obtain⟨i,f,rfl⟩:=List.mem_iff_getElem.1 a;have j:cf t x i=(co t x)[i]:=by rw[cf,List.getD_eq_getElem?_getD,List.getElem?_eq_getElem f];rfl
  rw[<-j];exact (Ql ht hu hV g i (by rw[<-Cr d];exact f)).1
 refine⟨D,d1,d2,fun q a=>?_,fun q a=>?_⟩
 ·rcases key q a with rfl | h
  ·exact⟨0,by grind⟩
  exact d3 q h
 rcases key q a with rfl | h
 ·have:(0:Rat)<=((2^k:Nat):Rat):=Rat.natCast_nonneg
  constructor <;> grind
 exact d4 q h
end Go.Abs
namespace Go.Abs
section
variable {P:List (List Rat)->Prop} {R0:Nat}
theorem Tf.aR (I:CU P R0) {V:List Re} (hV:∀{u},P u->∀v∈Go.Abs.BF u,v∈V) (h3:V.length<=3) {u:List (List Rat)} (h:Tf P u):(u.length<=1->TB R0 u)/\TB (R0+CC 1 R0 1 R0) u:=by
 induction h with
 | nil=>exact⟨fun _ r d=>absurd d (by simp),fun r d=>absurd d (by simp)⟩
 | @BK u H f ht C g G=>
  by_cases K:Sq u (AL f H)
  ·rw[D3 K];exact G
  have a:=I.red C;have hu:=ht.red I;have j:=B8 a;have hb:Bd R0 (co f (AL f H)):=by rw[Es a];exact (I.tb C).head
  rw[Dc K]
  by_cases U:∀v∈Go.Abs.BF f,v∈Go.Abs.BF u
  ·have J:=QR hu a.1 U j hb;refine⟨fun N r d=>?_,fun r d=>?_⟩
   ·rw[List.length_cons] at N;rcases List.mem_cons.1 d with rfl | d
    ·exact J
    exact G.1 (by omega) r d
   rcases List.mem_cons.1 d with rfl | d
   ·exact J.mono (by omega)
   exact G.2 r d
  obtain⟨v,Y⟩:=Classical.not_forall.1 U;obtain⟨B,S⟩:=Classical.not_imp.1 Y;have z:In u (Re.sqrt v):=g _ (Lp B);have O:AL f H≠v:=fun e=>K ((Lf (by have:=a.2.2.1;grind)).2 (e ▸ z))
  have o:=HU (NA hu (g _ j) a.2.2.1 K);rw[Go.Abs.BF,EB (g _ j),List.nodup_cons] at o
  have hle:=JW (l:=AL f H::v::Go.Abs.BF u) (m:=V) (by
   rw[List.nodup_cons,List.nodup_cons];refine⟨fun hm=>?_,S,o.2⟩;rcases List.mem_cons.1 hm with e | hm
   ·exact O e
   ·exact o.1 hm) (fun x F=>by
   rcases List.mem_cons.1 F with rfl | F
   ·exact hV C _ (by rw[Go.Abs.BF];exact List.mem_cons_self)
   rcases List.mem_cons.1 F with rfl | F
   ·exact hV (I.sub C) _ B
   exact ht.BF I hV x F)
  rw[List.length_cons,List.length_cons,Jn] at hle;have n:=JW (HU a) (hV C);rw[Jn,List.length_cons] at n
  have D:u≠[]:=fun e=>by
   subst e;have:=Sc a.1 g;subst this;simp[Go.Abs.BF] at B
  have Q:u.length=1:=by
   have:0<u.length:=List.length_pos_iff.2 D;omega
  have X:f.length<=1:=by
   match u,Q,hu,g with
   | [s],_,hu,g=>
    match f,a.1,g,n with
    | [],_,_,_=>exact Nat.zero_le _
    | [q],_,_,_=>exact Nat.le_refl 1
    | [q,r],W,g,_=>exact (ZF W hu g).elim
    | _::_::_::_,_,_,n=>simp only[List.length_cons] at n;omega
  have L:El f R0 (AL f H):=⟨j,hb⟩;have J:=(L.CE hu (G.1 (by omega)) a.1 (I.tb C).tail g).bd;have Z:=Jp (k:=f.length) (k':=1) (R0:=R0) (IZ:=R0) (h:=u.length) (h':=1) (R:=R0) (R':=R0) X (Nat.le_refl _) (by omega) (Nat.le_refl _);refine⟨fun N=>absurd N (by rw[List.length_cons];omega),fun r d=>?_⟩;rcases List.mem_cons.1 d with rfl | d
  ·exact J.mono (by omega)
  exact G.2 r d
theorem Tf.gx (I:CU P R0) {V:List Re} (hV:∀{u},P u->∀v∈Go.Abs.BF u,v∈V) (h3:V.length<=3) {R C S:Nat} (hR:R0+CC 1 R0 1 R0<=R) (f:R<=S) (n:CC 3 R 3 R<=C) (g:∀h,h<=3->Fit h R (S+C)) (o:2*(S+C)+EE 3 R<=60000000000000):Gam (Tf P) R C S:=by
 have hm:∀{u},Tf P u->u.length<=3:=fun {u} h=>Nat.le_trans (h.len I hV) h3
 have a:∀{u},Tf P u->TB R u:=fun {u} h=>(h.aR I hV h3).2.mono hR
 refine⟨fun {u} h=>⟨h.red I,a h,by omega,by have:=hm h;omega⟩,fun {u} h=>by have:=hm h;omega,.nil,fun {r u} h=>h.sub I,fun {t r u} ht h d=>ht.QF I h d,fun {u w s x} hu hw d j=>?_,fun {u} h=>g _ (hm h),fun {u} h=>?_,f⟩
 ·refine (j.CE (hw.red I) (a hw) (hu.red I) (a hu) d).mono ?_;have:=Jp (k:=u.length) (k':=3) (R0:=R) (IZ:=R) (h:=w.length) (h':=3) (R:=R) (R':=R) (hm hu) (Nat.le_refl _) (hm hw) (Nat.le_refl _);omega
 have:=H0 (h:=u.length) (h':=3) (R:=R) (R':=R) (hm h) (Nat.le_refl _);omega
end
end Go.Abs
