/- Part 26 of a proof. Conditions: each theorem's own. -/
import Derived.Test.YtmaoeopjnhfplaaGreatQk23
import Derived.Test.YtmaoeopjnhfplaaGreatQk24
set_option linter.all false
set_option maxHeartbeats 8000000
set_option maxRecDepth 20000
open Go.Proofs
namespace Go.Abs
open Go.RowKit
theorem Ah {f:FuncId} {fn:Func} (a:Tryz.prog.funcs[f]? =some fn) {args:List AV} {r:AV} (h:∀E,env Tryz.prog=E->QY E fn r none (DT fn.ntmps args none)) (d:Gq fn=true:=by kernel_rfl) (g:(KH args&&(r.all CX&&(r.wf&&Nat.ble args.length fn.ntmps)))=true:=by rfl):F6 Tryz.prog false f args r:=eu a d g h
theorem CE {f:FuncId} {fn:Func} (d:Tryz.prog.funcs[f]? =some fn) {a:AR} {args:List AV} {r:AV} (h:∀E,env Tryz.prog=E->QX E fn r a (DT fn.ntmps args (some a))) (g:Gq fn=true:=by kernel_rfl) (j:(JL args&&(r.all BZ&&(a.lone&&(Nat.ble args.length fn.ntmps&&Nat.ble 1 fn.ntmps))))=true:=by rfl):Bp Tryz.prog f args a r:=gS d g j h
theorem Bg {ops:List Oper} {tr:Tr} {C:Prop} (h:C) (a:SM ops tr=true:=by kernel_rfl):(Unit->JV ops tr=true)/\C:=⟨fun _=>kU a,h⟩
end Go.Abs
namespace Go.Abs
theorem dL {E:Env} {g:FuncId} {args:List AV} {r:AV} {B:Nat->AR->List AV->Prop} {S:AR->AR} {K:Nat->AV->Prop} {d f j n:Prop} (id:Nat) (b:AR) (o:env Tryz.prog=E) (h:Bp Tryz.prog g args (S b) r) (hb:B id b args) (z:K id r):
 d\/f\/j\/(∃(id:Nat) (b:AR) (a:List AV) (r:AV),(Unit->B id b a)/\(Unit->E.D g a (S b) r)/\K id r)\/n:= .inr (.inr (.inr (.inl ⟨id,b,args,r,fun _=>hb,fun _=>G4 o h,z⟩)))
end Go.Abs
namespace Go.Abs
section
variable {P:List (List Rat)->Prop} {R0:Nat}
theorem js {α:Type} {Q:α->Prop} {f:α->Nat} {m:Nat} (hm:∀a,Q a->f a<=m) {a:α} (ha:Q a):∃b,Q b/\∀c,Q c->f c<=f b:=by
 induction h:m-f a using Nat.strongRecOn generalizing a with
 | _ n j=>
  by_cases hc:∀c,Q c->f c<=f a
  ·exact⟨a,ha,hc⟩
  obtain⟨c,g⟩:=Classical.not_forall.1 hc;obtain⟨d,h3⟩:=Classical.not_imp.1 g;have:=hm c d;exact j (m-f c) (by omega) d rfl
theorem Tf.top (I:CY P R0) {m:Nat} (hm:∀{u},Tf P u->u.length<=m):∃w,Tf P w/\∀{u},Tf P u->Be u w:=by
 obtain⟨w,hw,D⟩:=js (Q:=Tf P) (f:=List.length) (fun u h=>hm h) Tf.nil;have n:=hw.red I
 have key:∀{u},P u->Be u w:=by
  intro u
  induction u with
  | nil=>exact fun _=>Ko w
  | cons r u j=>
   intro a;have d:=j (I.sub a);have B:=I.red a;refine JF n d ?_
   have g:Sq w (AP u r):=by
    apply Classical.byContradiction;intro C;have:=D _ (Tf.BT hw a d);rw[Dk C,List.length_cons] at this;omega
   exact (Lf (by have:=B.2.2.1;grind)).1 g
 refine⟨w,hw,fun {u} h=>?_⟩
 induction h with
 | nil=>exact Ko w
 | @BT u o z ht a d j=>
  by_cases g:Sq u (AP z o)
  ·rw[Et g];exact j
  rw[Dk g];refine JF n j ?_;rw[KL (d _ (B6 (I.red a)))];exact key a _ (IY z o)
end
theorem El.down {u:List (List Rat)} {s:Nat} {x:Re} (f:In u x):∀{v:List (List Rat)},Al (v++u)->El (v++u) s x->El u s x
 | [],_,h=>h
 | r::v,d,h=>by
  have a:In (v++u) x:=MN v x f;refine El.down f (v:=v) d.1 ⟨a,?_⟩;obtain⟨D,d0,d1,d2,d3⟩:=h.bd;have e:co (r::(v++u)) x=co (v++u) x++co (v++u) 0:=C4 d a (CK _) (by grind);rw[List.cons_append,e] at d2 d3;exact⟨D,d0,d1,(DN.app.1 d2).1,(MX.app.1 d3).1⟩
structure Fm (TT:List (List Rat)->Prop) (w:List (List Rat)) (R b c M q p:Nat):Prop where
 Q6:∀{S},R<=S->S<=M*b->DW TT R (c*b) S
 top:TT w
 all:∀{u},TT u->Be u w
 hR:R<=c*b
 hb:64<=b
 YU:∀{x y s t},El w s x->El w t y->El w (s+t+b) (x*y)
 iy:∀{x y s},El w s x->In w y->x*y=1->El w (q*s+p*b) y
 iu:∀{u},TT u->II u.length R (M*b)<=60000000000000
def Nm (TT:List (List Rat)->Prop) (w:List (List Rat)) (b k:Nat) (T:List (List (el AA))) (A:List (el AA)) (x:Re):Prop:=∃u,TT u/\T=tw u/\A=em u x/\In u x/\El w (k*b) x
section
variable {TT:List (List Rat)->Prop} {w:List (List Rat)} {R b c M q p k l:Nat} {T T1 T2:List (List (el AA))} {A A1 A2:List (el AA)} {x y:Re}
theorem Fm.g (F:Fm TT w R b c M q p) (h:k<=M) (a:c<=k):DW TT R (c*b) (k*b):=F.Q6 (Nat.le_trans F.hR (Nat.mul_le_mul_right b a)) (Nat.mul_le_mul_right b h)
theorem Fm.own (F:Fm TT w R b c M q p) (B:c<=M) (h:Nm TT w b k T A x):∃u,TT u/\T=tw u/\A=em u x/\In u x/\El w (k*b) x/\El u ((k+c)*b) x:=by
 obtain⟨u,hu,C,z,n,he⟩:=h;refine⟨u,hu,C,z,n,he,?_⟩;have G:=(F.g B (Nat.le_refl c)).toGam;obtain⟨f,D,h3⟩:=G.Bh hu F.top;have a:=G.CG F.top f h3 he;rw[<-Nat.add_mul] at a;rw[iz] at f a;have d:=(G.BM f).red;unfold FO at a d
 split at a
 ·exact a
 rename_i o
 rw[if_neg o] at d
 split at a
 ·rename_i j
  obtain⟨v,rfl⟩:=j;exact El.down n (G.BM F.top).red a
 rename_i j
 rw[if_neg j] at d;obtain⟨v,e⟩:=OK u w;rw[<-e] at a d;exact El.down n d a
theorem Nm.mono (h:Nm TT w b k T A x) (j:k<=l):Nm TT w b l T A x:=by
 obtain⟨u,a,d,h3,f,g⟩:=h;exact⟨u,a,d,h3,f,g.mono (Nat.mul_le_mul_right b j)⟩
theorem Nm.cast (h:Nm TT w b k T A x) (e:x=y):Nm TT w b k T A y:=e ▸ h
theorem Fm.two (F:Fm TT w R b c M q p) (ha:Nm TT w b k T1 A1 x) (hb:Nm TT w b l T2 A2 y) (K:k+c+1<=M) (L:l+c+1<=M):∃u v j,j<=M/\(j=k+c+1\/j=l+c+1)/\TT u/\TT v/\T1=tw u/\T2=tw v/\A1=em u x/\A2=em v y/\In u x/\In v y/\El w (k*b) x/\El w (l*b) y/\El u (j*b) x/\El v (j*b) y/\DW TT R (c*b) (j*b)/\TT (Bh u v)/\Be u (Bh u v)/\Be v (Bh u v):=by
 obtain⟨u,hu,f,a,N,z,o⟩:=F.own (by omega) ha;obtain⟨v,H,n,d,O,C,B⟩:=F.own (by omega) hb
 have key:∀j,j<=M->(j=k+c+1\/j=l+c+1)->k+c+1<=j->l+c+1<=j->∃u v j,j<=M/\(j=k+c+1\/j=l+c+1)/\TT u/\TT v/\T1=tw u/\T2=tw v/\A1=em u x/\A2=em v y/\In u x/\In v y/\El w (k*b) x/\El w (l*b) y/\El u (j*b) x/\El v (j*b) y/\DW TT R (c*b) (j*b)/\TT (Bh u v)/\Be u (Bh u v)/\Be v (Bh u v):=by
  intro j D J h3 Q;have G:=F.g D (by omega);obtain⟨g1,g2,I⟩:=G.toGam.Bh hu H;exact⟨u,v,j,D,J,hu,H,f,n,a,d,N,O,z,C,o.mono (Nat.mul_le_mul_right b (by omega)),B.mono (Nat.mul_le_mul_right b (by omega)),G,g1,g2,I⟩
 by_cases h:k<=l
 ·exact key (l+c+1) L (.inr rfl) (by omega) (Nat.le_refl _)
 exact key (k+c+1) K (.inl rfl) (Nat.le_refl _) (by omega)
end
end Go.Abs
namespace Go.Abs
open Go.RowKit
section
variable {TT:List (List Rat)->Prop} {w:List (List Rat)} {R b c M q p k l:Nat} {T1 T2:List LR} {A1 A2:LR} {x y:Re}
theorem Nm.data {A3:LR} (h:Nm TT w b k T1 A1 x) (f:Nm TT w b l T1 A3 y) (e:x=y):A1=A3:=by
 obtain⟨u,_,j,g,_⟩:=h;obtain⟨v,_,d,a,_⟩:=f;rw[g,a,e,NN (j.symm.trans d)]
theorem FZ (F:Fm TT w R b c M q p) (ha:Nm TT w b k T1 A1 x) (hb:Nm TT w b l T2 A2 y) (D:k+c+1<=M:=by omega) (H:l+c+1<=M:=by omega):∃T A,Nm TT w b (k+l+1) T A (x+y)/\CF 151 [.agg (AU T1 A1),.agg (AU T2 A2)] (.AG [(true,(AU T A)),(false,[.int .i64 0])])/\CF 173 [.agg (AU T1 A1),.agg (AU T2 A2)] (.AG [(true,(AU T A)),(false,[.int .i64 0])]):=by
 obtain⟨u,v,j,K,_,hu,B,f,g,a,d,I,J,o,z,h,n,G,g1,g2,C⟩:=F.two ha hb D H;refine⟨_,_,⟨Bh u v,g1,rfl,rfl,DP (g2 _ I) (C _ J),(o.add (G.BM F.top).red z).mono ?_⟩,cB G.toGam hu B f g a d h n rfl rfl,Pu G hu B f g a d h n rfl rfl⟩;have:=F.hb;rw[Nat.add_mul,Nat.add_mul];omega
theorem Dr (F:Fm TT w R b c M q p) (ha:Nm TT w b k T1 A1 x) (hb:Nm TT w b l T2 A2 y) (D:k+c+1<=M:=by omega) (H:l+c+1<=M:=by omega):∃T A,Nm TT w b (k+l+1) T A (x-y)/\CF 158 [.agg (AU T1 A1),.agg (AU T2 A2)] (.AG [(true,(AU T A)),(false,[.int .i64 0])])/\CF 178 [.agg (AU T1 A1),.agg (AU T2 A2)] (.AG [(true,(AU T A)),(false,[.int .i64 0])]):=by
 obtain⟨u,v,j,K,_,hu,B,f,g,a,d,I,J,o,z,h,n,G,g1,g2,C⟩:=F.two ha hb D H;refine⟨_,_,⟨Bh u v,g1,rfl,rfl,Fi (g2 _ I) (C _ J),(o.sub (G.BM F.top).red z).mono ?_⟩,cN G.toGam hu B f g a d h n rfl rfl,P0 G hu B f g a d h n rfl rfl⟩;have:=F.hb;rw[Nat.add_mul,Nat.add_mul];omega
theorem DA (F:Fm TT w R b c M q p) (ha:Nm TT w b k T1 A1 x) (hb:Nm TT w b l T2 A2 y) (D:k+c+1<=M:=by omega) (H:l+c+1<=M:=by omega):∃T A,Nm TT w b (k+l+1) T A (x*y)/\CF 159 [.agg (AU T1 A1),.agg (AU T2 A2)] (.AG [(true,(AU T A)),(false,[.int .i64 0])])/\CF 176 [.agg (AU T1 A1),.agg (AU T2 A2)] (.AG [(true,(AU T A)),(false,[.int .i64 0])]):=by
 obtain⟨u,v,j,K,_,hu,B,f,g,a,d,I,J,o,z,h,n,G,g1,g2,C⟩:=F.two ha hb D H;refine⟨_,_,⟨Bh u v,g1,rfl,rfl,BD (G.BM g1).red (g2 _ I) (C _ J),(F.YU o z).mono ?_⟩,Uq G.toGam hu B f g a d h n rfl rfl,Pw G hu B f g a d h n rfl rfl⟩;have:=F.hb;rw[Nat.add_mul,Nat.add_mul];omega
theorem H3 (F:Fm TT w R b c M q p) (ha:Nm TT w b k T1 A1 x) (n:k+c+1<=M:=by omega):∃A,Nm TT w b k T1 A (-x)/\CF 81 [.agg (AU T1 A1)] (.agg (AU T1 A))/\CF 30 [.agg (AU T1 A1)] (.agg (AU T1 A)):=by
 obtain⟨u,hu,d,f,o,j,h⟩:=F.own (by omega) ha;have G:=F.g n (by omega);have a:=h.mono (Nat.mul_le_mul_right b (Nat.le_succ (k+c)));exact⟨_,⟨u,hu,d,rfl,Gu o,j.neg (G.BM F.top).red⟩,cI G.toGam hu d f a rfl,Px G hu d f a rfl⟩
theorem Dh (F:Fm TT w R b c M q p) (ha:Nm TT w b k T1 A1 x) (j:k+c+1<=M:=by omega):∃s:Int,s=BU x/\CF 79 [.agg (AU T1 A1)] (.one (.int .i64 s))/\CF 156 [.agg (AU T1 A1)] (.one (.int .i64 s)):=by
 obtain⟨u,hu,f,d,o,n,h⟩:=F.own (by omega) ha;have G:=F.g j (by omega);have a:=h.mono (Nat.mul_le_mul_right b (Nat.le_succ (k+c)));exact⟨_,rfl,cJ G.toGam hu f d a rfl,Py G hu f d a rfl⟩
theorem Yt (F:Fm TT w R b c M q p) (ha:Nm TT w b k T1 A1 x) (h:k+c+1<=M):CF 152 [.agg (AU T1 A1)] (.one (.bool true)):=by
 obtain⟨u,hu,d,a,n,j,f⟩:=F.own (by omega) ha;exact dQ (F.g h (by omega)) hu d a (f.mono (Nat.mul_le_mul_right b (Nat.le_succ (k+c))))
theorem Fm.pair (F:Fm TT w R b c M q p) {j:Nat} (h:2*j+2*c+1<=M):DW TT R (c*b) ((2*j+2*c+1)*b)/\2*(j*b+c*b)+1<=(2*j+2*c+1)*b:=by
 refine⟨F.g h (by omega),?_⟩;have:=F.hb;rw[Nat.add_mul,Nat.add_mul,Nat.mul_assoc,Nat.mul_assoc];omega
theorem Fp (F:Fm TT w R b c M q p) (ha:Nm TT w b k T1 A1 x) (hb:Nm TT w b l T2 A2 y) (K:2*k+4*c+3<=M:=by omega) (L:2*l+4*c+3<=M:=by omega):∃e:Bool,(e=true↔x=y)/\CF 80 [.agg (AU T1 A1),.agg (AU T2 A2)] (.one (.bool e))/\CF 31 [.agg (AU T1 A1),.agg (AU T2 A2)] (.one (.bool e)):=by
 obtain⟨u,v,j,J,C,hu,o,f,g,a,d,N,O,D,H,h,n,G,g1,g2,I⟩:=F.two ha hb (by omega) (by omega);obtain⟨z,B⟩:=F.pair (j:=j) (by omega);obtain⟨e,he⟩:=GQ (x=y);exact⟨e,he,cF G.toGam hu o f g a d h n he,dP G hu o f g a d h n z B he⟩
theorem Fa (F:Fm TT w R b c M q p) (ha:Nm TT w b k T1 A1 x) (hb:Nm TT w b l T2 A2 y) {d:Nat} (X:q*l+p<=d) (I:y≠0) (hk:k+c+1<=M:=by omega) (hl:l+c+1<=M:=by omega) (hi:d+c+1<=M:=by omega):∃T A,Nm TT w b (k+d+1) T A (x*AT y)/\CF 104 [.agg (AU T1 A1),.agg (AU T2 A2)] (.AG [(true,(AU T A)),(false,[.int .i64 0])])/\CF 172 [.agg (AU T1 A1),.agg (AU T2 A2)] (.AG [(true,(AU T A)),(false,[.int .i64 0])]):=by
 obtain⟨u,hu,o,h,Z,N,L⟩:=F.own (by omega) ha;obtain⟨v,f,z,j,hy,Q,O⟩:=F.own (by omega) hb;have G:=F.g (Nat.le_refl M) (by omega);obtain⟨g1,g2,U⟩:=G.toGam.Bh hu f;have a:=OU (G.BM f).red hy I
 have C:El w (d*b) (AT y):=(F.iy Q (F.all f _ a) (Gv I)).mono (by
  have V:=Nat.mul_le_mul_right b X;rw[Nat.add_mul,Nat.mul_assoc] at V;omega)
 obtain⟨S,Y,J,W,_,_,K⟩:=F.own (by omega) (show Nm TT w b d (tw v) (em v (AT y)) (AT y) from⟨v,f,rfl,rfl,a,C⟩);have ev:S=v:=(NN J).symm;subst ev;have n:II S.length R (M*b)<=60000000000000:=F.iu f;have D:=L.mono (Nat.mul_le_mul_right b (show k+c<=M by omega));have H:=O.mono (Nat.mul_le_mul_right b (show l+c<=M by omega));have B:=K.mono (Nat.mul_le_mul_right b (show d+c<=M by omega));refine⟨_,_,⟨Bh u S,g1,rfl,rfl,BD (G.BM g1).red (g2 _ Z) (U _ a),(F.YU N C).mono ?_⟩,cD G.toGam hu f o z h j D H a (Gv I) B n rfl rfl,VE G hu f o z h j D H a (Gv I) B n rfl rfl⟩;rw[Nat.add_mul,Nat.add_mul,Nat.one_mul];omega
end
end Go.Abs
namespace Go.Abs
open Go.RowKit
structure Vm (TT:List (List Rat)->Prop) (w:List (List Rat)) (b k k':Nat) (T1:List LR) (A1:LR) (T2:List LR) (A2:LR) (x y:Re):Prop where
 x:Nm TT w b k T1 A1 x
 y:Nm TT w b k' T2 A2 y
section
variable {TT:List (List Rat)->Prop} {w:List (List Rat)} {R b c M q p k k' l l':Nat} {T1 T2:List LR} {A1 A2:LR} {x y x' y':Re}
theorem Vm.mono (h:Vm TT w b k k' T1 A1 T2 A2 x y) (d:k<=l) (a:k'<=l'):Vm TT w b l l' T1 A1 T2 A2 x y:=⟨h.x.mono d,h.y.mono a⟩
theorem Vm.cast (h:Vm TT w b k k' T1 A1 T2 A2 x y) (e:x=x') (f:y=y'):Vm TT w b k k' T1 A1 T2 A2 x' y':=e ▸ f ▸ h
theorem HX (F:Fm TT w R b c M q p) (a:c<=M) {r:Rat} (h:Bd b [r]):Nm TT w b 1 [] (em [] (Re.ofRat r)) (Re.ofRat r):=by
 have G:=F.g a (Nat.le_refl c);exact⟨[],G.nil,rfl,rfl,HS r [],by rw[Nat.one_mul];exact El.rat (G.BM F.top).red h⟩
theorem G8 {r:Rat} (h:Cz r) (hb:64<=b:=by omega):Bd b [r]:=(Nt (a:=[r]) (fun z d=>by rw[List.mem_singleton.1 d];exact h)).mono hb
end
theorem Nv {g:FuncId} {T1 T2 T3 T4 T5 T6:List LR} {A1 A2 A3 A4 A5 A6:LR} (d:CF g [.agg (AU T1 A1),.agg (AU T3 A3)] (.AG [(true,(AU T5 A5)),(false,[.int .i64 0])])) (f:CF g [.agg (AU T2 A2),.agg (AU T4 A4)] (.AG [(true,(AU T6 A6)),(false,[.int .i64 0])])):CF 150 [.agg (AH T1 A1 T2 A2),.agg (AH T3 A3 T4 A4),.one (.fn g)] (.AG [(true,(AH T5 A5 T6 A6)),(false,[.int .i64 0])]):=by
 refine AO Tryz.func150 fun E a=>?_
 conv=>cbv
 refine AB a d ?_;conv=>cbv
 refine AL ?_;conv=>cbv
 refine AB a f ?_;conv=>cbv
 refine AL ?_;conv=>cbv
 exact AF ⟨⟨rfl,rfl,rfl,rfl,rfl,trivial⟩,t2,trivial⟩
theorem Iw {TT:List (List Rat)->Prop} {w:List (List Rat)} {R b c M q p k k' l l':Nat} (F:Fm TT w R b c M q p) {T1 T2 T3 T4:List LR} {A1 A2 A3 A4:LR} {x1 y1 x2 y2:Re} (f:Vm TT w b k k' T1 A1 T2 A2 x1 y1) (g:Vm TT w b l l' T3 A3 T4 A4 x2 y2) (D:k+c+1<=M:=by omega) (B:k'+c+1<=M:=by omega) (G:l+c+1<=M:=by omega) (C:l'+c+1<=M:=by omega):∃T A d a,Vm TT w b (k+l+1) (k'+l'+1) T A d a (x1+x2) (y1+y2)/\CF 63 [.agg (AH T1 A1 T2 A2),.agg (AH T3 A3 T4 A4)] (.AG [(true,(AH T A d a)),(false,[.int .i64 0])]):=by
 obtain⟨T5,A5,n,h,_⟩:=FZ F f.x g.x;obtain⟨T6,A6,o,j,_⟩:=FZ F f.y g.y;refine⟨T5,A5,T6,A6,⟨n,o⟩,?_⟩;refine AO Tryz.func63 fun E z=>?_
 conv=>cbv
 refine AB z (Nv h j) ?_;conv=>cbv
 exact AF ⟨⟨rfl,rfl,rfl,rfl,rfl,trivial⟩,t2,trivial⟩
theorem Ix {TT:List (List Rat)->Prop} {w:List (List Rat)} {R b c M q p k k' l l':Nat} (F:Fm TT w R b c M q p) {T1 T2 T3 T4:List LR} {A1 A2 A3 A4:LR} {x1 y1 x2 y2:Re} (f:Vm TT w b k k' T1 A1 T2 A2 x1 y1) (g:Vm TT w b l l' T3 A3 T4 A4 x2 y2) (D:k+c+1<=M:=by omega) (B:k'+c+1<=M:=by omega) (G:l+c+1<=M:=by omega) (C:l'+c+1<=M:=by omega):∃T A d a,Vm TT w b (k+l+1) (k'+l'+1) T A d a (x1-x2) (y1-y2)/\CF 76 [.agg (AH T1 A1 T2 A2),.agg (AH T3 A3 T4 A4)] (.AG [(true,(AH T A d a)),(false,[.int .i64 0])]):=by
 obtain⟨T5,A5,n,h,_⟩:=Dr F f.x g.x;obtain⟨T6,A6,o,j,_⟩:=Dr F f.y g.y;refine⟨T5,A5,T6,A6,⟨n,o⟩,?_⟩;refine AO Tryz.func76 fun E z=>?_
 conv=>cbv
 refine AB z (Nv h j) ?_;conv=>cbv
 exact AF ⟨⟨rfl,rfl,rfl,rfl,rfl,trivial⟩,t2,trivial⟩
theorem IA {TT:List (List Rat)->Prop} {w:List (List Rat)} {R b c M q p k k' j:Nat} (F:Fm TT w R b c M q p) {T1 T2 T3:List LR} {A1 A2 A3:LR} {x1 y1 n:Re} (g:Vm TT w b k k' T1 A1 T2 A2 x1 y1) (f:Nm TT w b j T3 A3 n) (G:k+c+1<=M:=by omega) (D:k'+c+1<=M:=by omega) (H:j+c+1<=M:=by omega):∃T A d a,Vm TT w b (k+j+1) (k'+j+1) T A d a (x1*n) (y1*n)/\CF 198 [.agg (AH T1 A1 T2 A2),.agg (AU T3 A3)] (.AG [(true,(AH T A d a)),(false,[.int .i64 0])]):=by
 obtain⟨T5,A5,z,h,_⟩:=DA F g.x f;obtain⟨T6,A6,B,o,_⟩:=DA F g.y f;refine⟨T5,A5,T6,A6,⟨z,B⟩,?_⟩;refine AO Tryz.func198 fun E C=>?_
 conv=>cbv
 refine AB C (Nv h o) ?_;conv=>cbv
 exact AF ⟨⟨rfl,rfl,rfl,rfl,rfl,trivial⟩,t2,trivial⟩
theorem nq {TT:List (List Rat)->Prop} {w:List (List Rat)} {R b c M q p k:Nat} (F:Fm TT w R b c M q p) {T1:List LR} {A1:LR} {n:Re} (g:Nm TT w b k T1 A1 n) (f:k+c+1<=M):CF 243 [.agg (AU T1 A1)] (.agg (AU T1 A1)):=by
 obtain⟨A4,j,h,_⟩:=H3 F g f;obtain⟨A5,o,a,_⟩:=H3 F j f;have e:A5=A1:=Nm.data o g (by grind);rw[e] at a;refine AO Tryz.func243 fun E d=>?_
 conv=>cbv
 refine AB d h ?_;conv=>cbv
 refine AB d a ?_;conv=>cbv
 exact AF ⟨t3,trivial⟩
theorem UL {TT:List (List Rat)->Prop} {w:List (List Rat)} {R b c M q p k k':Nat} (F:Fm TT w R b c M q p) {T1 T2:List LR} {A1 A2:LR} {x1 y1:Re} (d:Vm TT w b k k' T1 A1 T2 A2 x1 y1) (j:k+c+1<=M:=by omega) (a:k'+c+1<=M:=by omega):∃A,Vm TT w b k' k T2 A T1 A1 (-y1) x1/\CF 171 [.agg (AH T1 A1 T2 A2)] (.agg (AH T2 A T1 A1)):=by
 obtain⟨A5,h,g,_⟩:=H3 F d.y a;refine⟨A5,⟨h,d.x⟩,?_⟩;refine AO Tryz.func171 fun E f=>?_
 conv=>cbv
 refine AB f g ?_;conv=>cbv
 refine AB f (nq F d.x j) ?_;conv=>cbv
 refine Bg ?_;exact AF ⟨⟨rfl,rfl,rfl,rfl,rfl,trivial⟩,trivial⟩
theorem NO {TT:List (List Rat)->Prop} {w:List (List Rat)} {R b c M q p k k' l l':Nat} (F:Fm TT w R b c M q p) {T1 T2 T3 T4:List LR} {A1 A2 A3 A4:LR} {x1 y1 x2 y2:Re} (d:Vm TT w b k k' T1 A1 T2 A2 x1 y1) (f:Vm TT w b l l' T3 A3 T4 A4 x2 y2) (C:k+l+c+2<=M:=by omega) (B:k'+l'+c+2<=M:=by omega):∃T A,Nm TT w b (k+k'+l+l'+3) T A (x1*x2+y1*y2)/\CF 78 [.agg (AH T1 A1 T2 A2),.agg (AH T3 A3 T4 A4)] (.AG [(true,(AU T A)),(false,[.int .i64 0])]):=by
 obtain⟨T5,A5,n,g,_⟩:=DA F d.x f.x;obtain⟨T6,A6,o,h,_⟩:=DA F d.y f.y;obtain⟨T7,A7,z,j,_⟩:=FZ F n o;refine⟨T7,A7,z.mono (by omega),?_⟩;refine AO Tryz.func78 fun E a=>?_
 conv=>cbv
 refine AB a (Nv g h) ?_;conv=>cbv
 refine AL ?_;conv=>cbv
 refine AB a j ?_;conv=>cbv
 exact AF ⟨t3,t2,trivial⟩
theorem UK {TT:List (List Rat)->Prop} {w:List (List Rat)} {R b c M q p k k' l l':Nat} (F:Fm TT w R b c M q p) {T1 T2 T3 T4:List LR} {A1 A2 A3 A4:LR} {x1 y1 x2 y2:Re} (n:Vm TT w b k k' T1 A1 T2 A2 x1 y1) (o:Vm TT w b l l' T3 A3 T4 A4 x2 y2) (z:k'+l+c+2<=M:=by omega) (j:k+l'+c+2<=M:=by omega):∃T A,Nm TT w b (k+k'+l+l'+3) T A (-y1*x2+x1*y2)/\CF 83 [.agg (AH T1 A1 T2 A2),.agg (AH T3 A3 T4 A4)] (.AG [(true,(AU T A)),(false,[.int .i64 0])]):=by
 obtain⟨A5,g,d⟩:=UL F n;obtain⟨T7,A7,h,f⟩:=NO F g o;refine⟨T7,A7,h.mono (by omega),?_⟩;refine AO Tryz.func83 fun E a=>?_
 conv=>cbv
 refine AB a d ?_;conv=>cbv
 refine AB a f ?_;conv=>cbv
 refine Bg ?_;exact AF ⟨t3,t2,trivial⟩
theorem IB {TT:List (List Rat)->Prop} {w:List (List Rat)} {R b c M q p k k':Nat} (F:Fm TT w R b c M q p) {T1 T2:List LR} {A1 A2:LR} {x1 y1:Re} (a:Vm TT w b k k' T1 A1 T2 A2 x1 y1) (j:2*k+c+2<=M:=by omega) (h:2*k'+c+2<=M:=by omega):∃T A,Nm TT w b (2*k+2*k'+3) T A (x1*x1+y1*y1)/\CF 109 [.agg (AH T1 A1 T2 A2)] (.AG [(true,(AU T A)),(false,[.int .i64 0])]):=by
 obtain⟨T7,A7,f,d⟩:=NO F a a;refine⟨T7,A7,f.mono (by omega),?_⟩;refine AO Tryz.func109 fun E g=>?_
 conv=>cbv
 refine AB g d ?_;conv=>cbv
 exact AF ⟨t3,t2,trivial⟩
theorem Ln {TT:List (List Rat)->Prop} {w:List (List Rat)} {R b c M q p k k' l l':Nat} (F:Fm TT w R b c M q p) {T1 T2 T3 T4:List LR} {A1 A2 A3 A4:LR} {x1 y1 x2 y2:Re} (j:Vm TT w b k k' T1 A1 T2 A2 x1 y1) (n:Vm TT w b l l' T3 A3 T4 A4 x2 y2) (G:2*k+4*c+3<=M) (C:2*k'+4*c+3<=M) (H:2*l+4*c+3<=M) (D:2*l'+4*c+3<=M) {e:Bool} (he:e=true↔x1=x2/\y1=y2):CF 108 [.agg (AH T1 A1 T2 A2),.agg (AH T3 A3 T4 A4)] (.one (.bool e)):=by
 obtain⟨B,d,o,_⟩:=Fp F j.x n.x;obtain⟨z,a,f,_⟩:=Fp F j.y n.y;refine AO Tryz.func108 fun E g=>?_
 conv=>cbv
 refine AB g o ?_;conv=>cbv
 cases B <;> conv=>cbv
 ·exact AF ⟨⟨rfl,congrArg _ (by cases e with | false=>rfl | true=>exact absurd (d.2 (he.1 rfl).1) (by simp)),trivial⟩,trivial⟩
 refine AB g f ?_;conv=>cbv
 exact AF ⟨⟨rfl,congrArg _ (by rw[Bool.eq_iff_iff,a,he];exact⟨fun h=>h.2,fun h=>⟨d.1 rfl,h⟩⟩),trivial⟩,trivial⟩
theorem DU {TT:List (List Rat)->Prop} {w:List (List Rat)} {R b c M q p k k' l l':Nat} (F:Fm TT w R b c M q p) {T1 T2 T3 T4:List LR} {A1 A2 A3 A4:LR} {x1 y1 x2 y2:Re} (j:Vm TT w b k k' T1 A1 T2 A2 x1 y1) (n:Vm TT w b l l' T3 A3 T4 A4 x2 y2) (G:2*k+4*c+3<=M) (C:2*k'+4*c+3<=M) (H:2*l+4*c+3<=M) (D:2*l'+4*c+3<=M) {e:Bool} (he:e=true↔x1=x2/\y1=y2):CF 26 [.agg (AH T1 A1 T2 A2),.agg (AH T3 A3 T4 A4)] (.one (.bool e)):=by
 obtain⟨B,d,_,o⟩:=Fp F j.x n.x;obtain⟨z,a,_,f⟩:=Fp F j.y n.y;refine AO Tryz.func26 fun E g=>?_
 conv=>cbv
 refine AB g o ?_;conv=>cbv
 cases B <;> conv=>cbv
 ·exact AF ⟨⟨rfl,congrArg _ (by cases e with | false=>rfl | true=>exact absurd (d.2 (he.1 rfl).1) (by simp)),trivial⟩,trivial⟩
 refine AB g f ?_;conv=>cbv
 exact AF ⟨⟨rfl,congrArg _ (by rw[Bool.eq_iff_iff,a,he];exact⟨fun h=>h.2,fun h=>⟨d.1 rfl,h⟩⟩),trivial⟩,trivial⟩
theorem bD {TT:List (List Rat)->Prop} {w:List (List Rat)} {R b c M q p k k':Nat} (F:Fm TT w R b c M q p) {T1 T2:List LR} {A1 A2:LR} {x1 y1:Re} (z:Vm TT w b k k' T1 A1 T2 A2 x1 y1) (I:k+c+1<=M) (C:k'+c+1<=M) {e:Bool} (he:e=true↔x1=0/\y1=0):CF 144 [.agg (AH T1 A1 T2 A2)] (.one (.bool e)):=by
 obtain⟨J,d,B,_⟩:=Dh F z.x;obtain⟨H,a,f,_⟩:=Dh F z.y;refine AO Tryz.func144 fun E o=>?_
 conv=>cbv
 refine AB o B ?_;conv=>cbv
 intro G n;conv=>cbv
 cases G <;> conv=>cbv
 ·have j:=BR n;exact AF ⟨⟨rfl,congrArg _ (by cases e with | false=>rfl | true=>exact absurd (by rw[d];exact GX.2 (he.1 rfl).1) j),trivial⟩,trivial⟩
 have j:=BS n;refine AB o f ?_;conv=>cbv
 intro D g;conv=>cbv
 exact AF ⟨⟨rfl,congrArg _ (by rw[Bool.eq_iff_iff,g,beq_iff_eq,a,GX,he];exact⟨fun h=>h.2,fun h=>⟨GX.1 (d.symm.trans j),h⟩⟩),trivial⟩,trivial⟩
theorem Ue {TT:List (List Rat)->Prop} {w:List (List Rat)} {R b c M q p k k':Nat} (F:Fm TT w R b c M q p) {T1 T2:List LR} {A1 A2:LR} {x1 y1:Re} (z:Vm TT w b k k' T1 A1 T2 A2 x1 y1) (I:k+c+1<=M) (C:k'+c+1<=M) {e:Bool} (he:e=true↔x1=0/\y1=0):CF 72 [.agg (AH T1 A1 T2 A2)] (.one (.bool e)):=by
 obtain⟨J,d,_,B⟩:=Dh F z.x;obtain⟨H,a,_,f⟩:=Dh F z.y;refine AO Tryz.func72 fun E o=>?_
 conv=>cbv
 refine AB o B ?_;conv=>cbv
 intro G n;conv=>cbv
 cases G <;> conv=>cbv
 ·have j:=BR n;exact AF ⟨⟨rfl,congrArg _ (by cases e with | false=>rfl | true=>exact absurd (by rw[d];exact GX.2 (he.1 rfl).1) j),trivial⟩,trivial⟩
 have j:=BS n;refine AB o f ?_;conv=>cbv
 intro D g;conv=>cbv
 exact AF ⟨⟨rfl,congrArg _ (by rw[Bool.eq_iff_iff,g,beq_iff_eq,a,GX,he];exact⟨fun h=>h.2,fun h=>⟨GX.1 (d.symm.trans j),h⟩⟩),trivial⟩,trivial⟩
theorem nw {g h:Rat} {b1 c1 b2 c2:Bool} {l1 m1 l2 m2:List UInt32} (j:Bm g b1 l1 c1 m1) (n:Bm h b2 l2 c2 m2) {A1 A2:LR} (a:A1=em [] (Re.ofRat g)) (d:A2=em [] (Re.ofRat h)):CF 142 [.agg (B5 b1 l1 c1 m1),.agg (B5 b2 l2 c2 m2)] (.agg (AH [] A1 [] A2)):=by
 refine AO Tryz.func142 fun E f=>?_
 conv=>cbv
 refine AB f (Nc j a) ?_;conv=>cbv
 refine AB f (Nc n d) ?_;conv=>cbv
 refine Bg ?_;exact AF ⟨⟨rfl,rfl,rfl,rfl,rfl,trivial⟩,trivial⟩
theorem DC {x y:Int} {A1 A2:LR} (j: -9223372036854775808<=x/\x<9223372036854775808) (n: -9223372036854775808<=y/\y<9223372036854775808) (a:A1=em [] (Re.ofRat x)) (d:A2=em [] (Re.ofRat y)):CF 58 [.one (.int .i64 x),.one (.int .i64 y)] (.agg (AH [] A1 [] A2)):=by
 refine AO Tryz.func58 fun E f=>?_
 conv=>cbv
 obtain⟨b1,l1,c1,m1,g⟩:=CI (x:Rat);refine AB f (Fv j rfl g) ?_;conv=>cbv
 obtain⟨b2,l2,c2,m2,h⟩:=CI (y:Rat);refine AB f (Fv n rfl h) ?_;conv=>cbv
 refine AB f (nw g h a d) ?_;conv=>cbv
 exact AF ⟨⟨rfl,rfl,rfl,rfl,rfl,trivial⟩,trivial⟩
theorem bR:CF 175 [.one (.int .i64 0),.one (.int .i64 0)] (.one (.int .i64 0)):=by
 refine AO Tryz.func175 fun E a=>?_
 conv=>cbv
 refine AL ?_;conv=>cbv
 exact AF ⟨t2,trivial⟩
theorem bU {T1 T2:List LR} {A1 A2:LR}:CF 174 [.agg (AU T1 A1),.agg (AU T2 A2),.one (.int .i64 0)] (.AG [(true,(AH T1 A1 T2 A2)),(false,[.int .i64 0])]):=by
 refine AO Tryz.func174 fun E a=>?_
 conv=>cbv
 refine AL ?_;conv=>cbv
 exact AF ⟨⟨rfl,rfl,rfl,rfl,rfl,trivial⟩,t2,trivial⟩
theorem bV {TT:List (List Rat)->Prop} {w:List (List Rat)} {R b c M q p k k' l l':Nat} (F:Fm TT w R b c M q p) {T1 T2 T3 T4:List LR} {A1 A2 A3 A4:LR} {x1 y1 x2 y2:Re} (g:Vm TT w b k k' T1 A1 T2 A2 x1 y1) (h:Vm TT w b l l' T3 A3 T4 A4 x2 y2) (D:k+c+1<=M:=by omega) (B:k'+c+1<=M:=by omega) (G:l+c+1<=M:=by omega) (C:l'+c+1<=M:=by omega):∃T A f d,Vm TT w b (k+l+1) (k'+l'+1) T A f d (x1+x2) (y1+y2)/\CF 90 [.agg (AH T1 A1 T2 A2),.agg (AH T3 A3 T4 A4)] (.AG [(true,(AH T A f d)),(false,[.int .i64 0])]):=by
 obtain⟨T5,A5,o,_,j⟩:=FZ F g.x h.x;obtain⟨T6,A6,z,_,n⟩:=FZ F g.y h.y;refine⟨T5,A5,T6,A6,⟨o,z⟩,?_⟩;refine AO Tryz.func90 fun E a=>?_
 conv=>cbv
 refine AB a j ?_;conv=>cbv
 refine AB a n ?_;conv=>cbv
 refine AB a bR ?_;conv=>cbv
 refine AB a bU ?_;conv=>cbv
 refine Bg ?_;exact AF ⟨⟨rfl,rfl,rfl,rfl,rfl,trivial⟩,t2,trivial⟩
theorem oB {TT:List (List Rat)->Prop} {w:List (List Rat)} {R b c M q p k k' j:Nat} (F:Fm TT w R b c M q p) {T1 T2 T3:List LR} {A1 A2 A3:LR} {x1 y1 n:Re} (h:Vm TT w b k k' T1 A1 T2 A2 x1 y1) (g:Nm TT w b j T3 A3 n) (G:k+c+1<=M:=by omega) (D:k'+c+1<=M:=by omega) (H:j+c+1<=M:=by omega):∃T A f d,Vm TT w b (k+j+1) (k'+j+1) T A f d (x1*n) (y1*n)/\CF 124 [.agg (AH T1 A1 T2 A2),.agg (AU T3 A3)] (.AG [(true,(AH T A f d)),(false,[.int .i64 0])]):=by
 obtain⟨T5,A5,B,_,o⟩:=DA F h.x g;obtain⟨T6,A6,C,_,z⟩:=DA F h.y g;refine⟨T5,A5,T6,A6,⟨B,C⟩,?_⟩;refine AO Tryz.func124 fun E a=>?_
 conv=>cbv
 refine AB a o ?_;conv=>cbv
 refine AB a z ?_;conv=>cbv
 refine AB a bR ?_;conv=>cbv
 refine AB a bU ?_;conv=>cbv
 refine Bg ?_;exact AF ⟨⟨rfl,rfl,rfl,rfl,rfl,trivial⟩,t2,trivial⟩
theorem NP {TT:List (List Rat)->Prop} {w:List (List Rat)} {R b c M q p k k':Nat} (F:Fm TT w R b c M q p) {T1 T2:List LR} {A1 A2:LR} {x1 y1:Re} (g:Vm TT w b k k' T1 A1 T2 A2 x1 y1) (z:k+c+1<=M:=by omega) (a:k'+c+1<=M:=by omega):∃A d,Vm TT w b k k' T1 A T2 d (-x1) (-y1)/\CF 91 [.agg (AH T1 A1 T2 A2)] (.agg (AH T1 A T2 d)):=by
 obtain⟨A5,n,_,h⟩:=H3 F g.x z;obtain⟨A6,o,_,j⟩:=H3 F g.y a;refine⟨A5,A6,⟨n,o⟩,?_⟩;refine AO Tryz.func91 fun E f=>?_
 conv=>cbv
 refine AB f h ?_;conv=>cbv
 refine AB f j ?_;conv=>cbv
 refine Bg ?_;exact AF ⟨⟨rfl,rfl,rfl,rfl,rfl,trivial⟩,trivial⟩
theorem Hj {TT:List (List Rat)->Prop} {w:List (List Rat)} {R b c M q p k k' l l':Nat} (F:Fm TT w R b c M q p) {T1 T2 T3 T4:List LR} {A1 A2 A3 A4:LR} {x1 y1 x2 y2:Re} (B:Vm TT w b k k' T1 A1 T2 A2 x1 y1) (C:Vm TT w b l l' T3 A3 T4 A4 x2 y2) (D:k+c+1<=M:=by omega) (o:k'+c+1<=M:=by omega) (G:l+c+1<=M:=by omega) (z:l'+c+1<=M:=by omega):∃T A d a,Vm TT w b (k+l+1) (k'+l'+1) T A d a (x1+ -x2) (y1+ -y2)/\CF 27 [.agg (AH T1 A1 T2 A2),.agg (AH T3 A3 T4 A4)] (.AG [(true,(AH T A d a)),(false,[.int .i64 0])]):=by
 obtain⟨A7,A8,n,h⟩:=NP F C;obtain⟨T5,A5,T6,A6,j,g⟩:=bV F B n;refine⟨T5,A5,T6,A6,j,?_⟩;refine AO Tryz.func27 fun E f=>?_
 conv=>cbv
 refine AB f h ?_;conv=>cbv
 refine AB f g ?_;conv=>cbv
 refine Bg ?_;exact AF ⟨⟨rfl,rfl,rfl,rfl,rfl,trivial⟩,t2,trivial⟩
theorem bX {TT:List (List Rat)->Prop} {w:List (List Rat)} {R b c M q p k k':Nat} (F:Fm TT w R b c M q p) {T1 T2:List LR} {A1 A2:LR} {x1 y1:Re} (d:Vm TT w b k k' T1 A1 T2 A2 x1 y1) (j:k+c+1<=M:=by omega) (a:k'+c+1<=M:=by omega):∃A,Vm TT w b k' k T2 A T1 A1 (-y1) x1/\CF 49 [.agg (AH T1 A1 T2 A2)] (.agg (AH T2 A T1 A1)):=by
 obtain⟨A5,g,_,f⟩:=H3 F d.y a;refine⟨A5,⟨g,d.x⟩,?_⟩;refine AO Tryz.func49 fun E h=>?_
 conv=>cbv
 refine AB h f ?_;conv=>cbv
 refine Bg ?_;exact AF ⟨⟨rfl,rfl,rfl,rfl,rfl,trivial⟩,trivial⟩
theorem Pc {TT:List (List Rat)->Prop} {w:List (List Rat)} {R b c M q p k k' l l':Nat} (F:Fm TT w R b c M q p) {T1 T2 T3 T4:List LR} {A1 A2 A3 A4:LR} {x1 y1 x2 y2:Re} (d:Vm TT w b k k' T1 A1 T2 A2 x1 y1) (f:Vm TT w b l l' T3 A3 T4 A4 x2 y2) (C:k+l+c+2<=M:=by omega) (B:k'+l'+c+2<=M:=by omega):∃T A,Nm TT w b (k+k'+l+l'+3) T A (x1*x2+y1*y2)/\CF 92 [.agg (AH T1 A1 T2 A2),.agg (AH T3 A3 T4 A4)] (.AG [(true,(AU T A)),(false,[.int .i64 0])]):=by
 obtain⟨T5,A5,n,_,g⟩:=DA F d.x f.x;obtain⟨T6,A6,o,_,h⟩:=DA F d.y f.y;obtain⟨T7,A7,z,_,j⟩:=FZ F n o;refine⟨T7,A7,z.mono (by omega),?_⟩;refine AO Tryz.func92 fun E a=>?_
 conv=>cbv
 refine AB a g ?_;conv=>cbv
 refine AB a h ?_;conv=>cbv
 refine AL ?_;conv=>cbv
 refine AL ?_;conv=>cbv
 refine AB a j ?_;conv=>cbv
 exact AF ⟨t3,t2,trivial⟩
theorem bW {TT:List (List Rat)->Prop} {w:List (List Rat)} {R b c M q p k k' l l':Nat} (F:Fm TT w R b c M q p) {T1 T2 T3 T4:List LR} {A1 A2 A3 A4:LR} {x1 y1 x2 y2:Re} (n:Vm TT w b k k' T1 A1 T2 A2 x1 y1) (o:Vm TT w b l l' T3 A3 T4 A4 x2 y2) (z:k'+l+c+2<=M:=by omega) (j:k+l'+c+2<=M:=by omega):∃T A,Nm TT w b (k+k'+l+l'+3) T A (-y1*x2+x1*y2)/\CF 29 [.agg (AH T1 A1 T2 A2),.agg (AH T3 A3 T4 A4)] (.AG [(true,(AU T A)),(false,[.int .i64 0])]):=by
 obtain⟨A5,g,d⟩:=bX F n;obtain⟨T7,A7,h,f⟩:=Pc F g o;refine⟨T7,A7,h.mono (by omega),?_⟩;refine AO Tryz.func29 fun E a=>?_
 conv=>cbv
 refine AB a d ?_;conv=>cbv
 refine AB a f ?_;conv=>cbv
 refine Bg ?_;exact AF ⟨t3,t2,trivial⟩
theorem Pe {TT:List (List Rat)->Prop} {w:List (List Rat)} {R b c M q p k k':Nat} (F:Fm TT w R b c M q p) {T1 T2:List LR} {A1 A2:LR} {x1 y1:Re} (a:Vm TT w b k k' T1 A1 T2 A2 x1 y1) (j:2*k+c+2<=M:=by omega) (h:2*k'+c+2<=M:=by omega):∃T A,Nm TT w b (2*k+2*k'+3) T A (x1*x1+y1*y1)/\CF 28 [.agg (AH T1 A1 T2 A2)] (.AG [(true,(AU T A)),(false,[.int .i64 0])]):=by
 obtain⟨T7,A7,f,d⟩:=Pc F a a;refine⟨T7,A7,f.mono (by omega),?_⟩;refine AO Tryz.func28 fun E g=>?_
 conv=>cbv
 refine AB g d ?_;conv=>cbv
 exact AF ⟨t3,t2,trivial⟩
theorem Ud {TT:List (List Rat)->Prop} {w:List (List Rat)} {R b c M q p k k' l l':Nat} (F:Fm TT w R b c M q p) {T1 T2 T3 T4:List LR} {A1 A2 A3 A4:LR} {x1 y1 x2 y2:Re} (D:Vm TT w b k k' T1 A1 T2 A2 x1 y1) (G:Vm TT w b l l' T3 A3 T4 A4 x2 y2) (K:k+l+c+2<=M) (C:k'+l'+c+2<=M):∃T A g f,Vm TT w b (k+l+3) (k'+l'+3) T A g f ((x1+x2)*Re.ofRat (1/2)) ((y1+y2)*Re.ofRat (1/2))/\CF 53 [.agg (AH T1 A1 T2 A2),.agg (AH T3 A3 T4 A4)] (.AG [(true,(AH T A g f)),(false,[.int .i64 0])]):=by
 obtain⟨fb,fl,H,I,J⟩:=CI (1/2:Rat);have B:(1/2:Rat)=Rat.divInt 1 2:=by decide +kernel
 obtain⟨A7,a⟩:=C5 (em [] (Re.ofRat (1/2)));have o:Nm TT w b 1 [] A7 (Re.ofRat (1/2)):=a ▸ HX F (by omega) (G8 (by decide +kernel) F.hb);obtain⟨T8,A8,T9,A9,z,j⟩:=bV F D G;obtain⟨T5,A5,T6,A6,n,h⟩:=oB F z o;refine⟨T5,A5,T6,A6,n.mono (by omega) (by omega),?_⟩;refine AO Tryz.func53 fun E d=>?_
 conv=>cbv
 refine AB d j ?_;conv=>cbv
 refine AL ?_;conv=>cbv
 refine AB d (Pv (by decide) (by decide) (by decide) B a) ?_;conv=>cbv
 refine AB d h ?_;conv=>cbv
 refine Bg ?_;exact AF ⟨⟨rfl,rfl,rfl,rfl,rfl,trivial⟩,t2,trivial⟩
theorem Pf {TT:List (List Rat)->Prop} {w:List (List Rat)} {R b c M q p k k':Nat} (F:Fm TT w R b c M q p) {T1 T2:List LR} {A1 A2:LR} {x1 y1:Re} (f:Vm TT w b k k' T1 A1 T2 A2 x1 y1) (g:k+c+1<=M:=by omega) (a:k'+c+1<=M:=by omega):CF 65 [.agg (AH T1 A1 T2 A2)] (.one (.bool true)):=by
 refine AO Tryz.func65 fun E d=>?_
 conv=>cbv
 refine AB d (Yt F f.x g) ?_;conv=>cbv
 refine AB d (Yt F f.y a) ?_;conv=>cbv
 exact AF ⟨t2,trivial⟩
end Go.Abs
namespace Go.Abs
section
variable {α:Type} [Lean.Grind.CommRing α]
def B8:Nat->(Nat->α)->α
 | 0,_=>0
 | n+1,f=>B8 n f+f n
theorem HF {f g:Nat->α}:∀{n:Nat},(∀i,i<n->f i=g i)->B8 n f=B8 n g
 | 0,_=>rfl
 | n+1,h=>by rw[B8,B8,HF (n:=n) (fun i a=>h i (by omega)),h n (by omega)]
theorem TY (f:Nat->α) (m:Nat):∀n,B8 (m+n) f=B8 m f+B8 n (fun i=>f (m+i))
 | 0=>by rw[B8,Nat.add_zero];grind
 | n+1=>by rw[<-Nat.add_assoc,B8,B8,TY f m n];grind
theorem TZ (c:α) (f:Nat->α):∀n,c*B8 n f=B8 n (fun i=>c*f i)
 | 0=>by rw[B8,B8];grind
 | n+1=>by rw[B8,B8,<-TZ c f n];grind
theorem aL (f g:Nat->α):∀n,B8 n f+B8 n g=B8 n (fun i=>f i+g i)
 | 0=>by rw[B8,B8,B8];grind
 | n+1=>by rw[B8,B8,B8,<-aL f g n];grind
theorem Tg:∀n,B8 n (fun _=>(0:α))=0
 | 0=>rfl
 | n+1=>by rw[B8,Tg n];grind
theorem aK (f:Nat->Nat->α) (m:Nat):∀n,B8 n (fun i=>B8 m (fun k=>f i k))=B8 m (fun k=>B8 n (fun i=>f i k))
 | 0=>by rw[B8];exact (Tg m).symm
 | n+1=>by
  rw[B8,aK f m n,aL];rfl
end
noncomputable def cf (u:List (List Rat)) (x:Re) (i:Nat):Rat:=(co u x).getD i 0
section
variable {u w:List (List Rat)} {x y:Re}
theorem WO (h:Al u) (a:In u x) (d:In u y) (i:Nat):cf u (x+y) i=cf u x i+cf u y i:=by
 unfold cf;rw[MJ h a d];have l1:=Cv a;have l2:=Cv d;simp only[List.getD_eq_getElem?_getD,List.getElem?_zipWith]
 by_cases f:i<2^u.length
 ·rw[List.getElem?_eq_getElem (by omega:i<(co u x).length),List.getElem?_eq_getElem (by omega:i<(co u y).length)];rfl
 rw[List.getElem?_eq_none (by omega:(co u x).length<=i),List.getElem?_eq_none (by omega:(co u y).length<=i)]
 show (0:Rat)=0+0
 grind
theorem WS (h:Al u) (a:In u x) (c:Rat) (i:Nat):cf u (Re.ofRat c*x) i=c*cf u x i:=by
 unfold cf;rw[Qn h a];simp only[List.getD_eq_getElem?_getD,List.getElem?_map];cases (co u x)[i]? with
 | none=>show (0:Rat)=c*0;grind
 | some q=>rfl
theorem WT (h:Al u) (i:Nat):cf u 0 i=0:=by
 have:=WS h (CK u) 0 i;rw[show Re.ofRat 0*0=(0:Re) by grind] at this;rw[this];grind
theorem Gr {r:List Rat} {p q:Re} (h:Al (r::u)) (a:In u p) (f:In u q) (e:x=p+q*rt u r) {i:Nat} (d:i<2^u.length):cf (r::u) x i=cf u p i:=by
 unfold cf;rw[C4 h a f e,List.getD_eq_getElem?_getD,List.getD_eq_getElem?_getD,List.getElem?_append_left (by rw[Cv a];exact d)]
theorem IT {r:List Rat} {p q:Re} (h:Al (r::u)) (a:In u p) (d:In u q) (e:x=p+q*rt u r) (i:Nat):cf (r::u) x (2^u.length+i)=cf u q i:=by
 unfold cf;rw[C4 h a d e,List.getD_eq_getElem?_getD,List.getD_eq_getElem?_getD,List.getElem?_append_right (by rw[Cv a];omega),Cv a,Nat.add_sub_cancel_left]
noncomputable def bb:List (List Rat)->Nat->Re
 | [],_=>1
 | r::u,i=>if i<2^u.length then bb u i else bb u (i-2^u.length)*rt u r
theorem Vy {r:List Rat} {i:Nat} (a:i<2^u.length):bb (r::u) i=bb u i:=if_pos a
theorem Vx {r:List Rat} (i:Nat):bb (r::u) (2^u.length+i)=bb u i*rt u r:=by
 rw[bb,if_neg (by omega),Nat.add_sub_cancel_left]
theorem Jw:∀{u:List (List Rat)},Al u->∀i,In u (bb u i)
 | [],_,i=>Jy []
 | r::u,h,i=>by
  rw[bb]
  split
  ·exact Fj (Jw h.1 i)
  exact BD h (Fj (Jw h.1 _)) (IY u r)
theorem Xm {f:Nat->Re} (a:∀i,In u (f i)):∀n,In u (B8 n f)
 | 0=>CK u
 | n+1=>DP (Xm a n) (a n)
theorem expand:∀{u:List (List Rat)} {x:Re},Al u->In u x->x=B8 (2^u.length) (fun i=>Re.ofRat (cf u x i)*bb u i)
 | [],x,h,n=>by
  obtain⟨q,rfl⟩:=Cs.1 n
  show _=B8 1 _
  rw[B8,B8]
  show _=0+Re.ofRat (cf [] (Re.ofRat q) 0)*1
  rw[cf,Dl]
  show _=0+Re.ofRat q*1
  grind
 | r::u,x,h,n=>by
  obtain⟨p,q,d,j,e⟩:=CZ.1 n
  rw[B3,TY,HF (g:=fun i=>Re.ofRat (cf u p i)*bb u i) (fun i a=>by rw[Gr h d j e a,Vy a]),
   HF (f:=fun i=>Re.ofRat (cf (r::u) x (2^u.length+i))*bb (r::u) (2^u.length+i)) (g:=fun i=>rt u r*(Re.ofRat (cf u q i)*bb u i)) (fun i a=>by rw[IT h d j e,Vx];grind),<-TZ,<-expand h.1 d,<-expand h.1 j,e]
  grind
theorem Qg (h:Al w) (c:Nat->Rat) {f:Nat->Re} (a:∀i,In w (f i)) (k:Nat):∀n,cf w (B8 n (fun i=>Re.ofRat (c i)*f i)) k=B8 n (fun i=>c i*cf w (f i) k)
 | 0=>WT h k
 | n+1=>by
  rw[B8,B8,WO h (Xm (fun i=>MT (a i) (c i)) n) (MT (a n) (c n)),Qg h c a k n,WS h (a n)]
noncomputable def tr (u:List (List Rat)) (x:Re):Rat:=B8 (2^u.length) (fun i=>cf u (x*bb u i) i)
theorem ay (hu:Al u) (hw:Al w) (a:Be u w) (d:Be w u) (f:In u x):tr u x=tr w x:=by
 have h:∀i,cf u (x*bb u i) i=B8 (2^w.length) (fun k=>cf w (x*bb u i) k*cf u (bb w k) i):=fun i=>by
  have n:=a _ (BD hu f (Jw hu i))
  rw[show cf u (x*bb u i) i=cf u (B8 (2^w.length) (fun k=>Re.ofRat (cf w (x*bb u i) k)*bb w k)) i from congrArg (fun z=>cf u z i) (expand hw n),
   Qg hu _ (fun k=>d _ (Jw hw k))]
 have e2:∀k,cf w (x*bb w k) k=B8 (2^u.length) (fun i=>cf u (bb w k) i*cf w (x*bb u i) k):=fun k=>by
  have o:=d _ (Jw hw k)
  have j:x*bb w k=B8 (2^u.length) (fun i=>Re.ofRat (cf u (bb w k) i)*(x*bb u i)):=by
   rw[show x*bb w k=x*B8 (2^u.length) (fun i=>Re.ofRat (cf u (bb w k) i)*bb u i) from congrArg (x* ·) (expand hu o),TZ];exact HF fun i _=>by grind
  rw[j,Qg hw _ (fun i=>a _ (BD hu f (Jw hu i)))]
 unfold tr;rw[HF (fun i _=>h i),aK,HF (g:=fun k=>B8 (2^u.length) (fun i=>cf w (x*bb u i) k*cf u (bb w k) i)) (fun k _=>rfl),HF (fun k _=>e2 k)];exact HF fun k _=>HF fun i _=>by grind
theorem NK:∀{u:List (List Rat)} {x:Re},Al u->In u x->tr u x=((2^u.length:Nat):Rat)*cf u x 0
 | [],x,h,n=>by
  show B8 1 _=_
  rw[B8,B8]
  show 0+cf [] (x*1) 0=((1:Nat):Rat)*cf [] x 0
  rw[show x*1=x by grind];grind
 | r::u,x,h,n=>by
  obtain⟨p,q,a,j,e⟩:=CZ.1 n;have z:=Ct h;have o:=NK h.1 a;have hb:=Jw h.1;unfold tr at o ⊢
  rw[B3,TY,HF (g:=fun i=>cf u (p*bb u i) i) (fun i d=>by
    rw[Vy d];exact Gr h (BD h.1 a (hb i)) (BD h.1 j (hb i)) (by rw[e];grind) d),
   HF (f:=fun i=>cf (r::u) (x*bb (r::u) (2^u.length+i)) (2^u.length+i)) (g:=fun i=>cf u (p*bb u i) i) (fun i d=>by
    rw[Vx];exact IT h (BD h.1 (BD h.1 j (hb i)) (B6 h)) (BD h.1 a (hb i)) (by rw[e,<-z];grind) i),
   o,Gr h a j e (DB _),Rat.natCast_add]
  grind
end
end Go.Abs
namespace Go.Abs
structure Ml (w:List (List Rat)) (E:Nat):Prop where
 dn:∃K:Nat,0<K/\K<=2^E/\∀{x y:Re} {D D':Nat},In w x->In w y->DN D (co w x)->DN D' (co w y)->DN (D*D'*K) (co w (x*y))
 mx:∀{x y:Re} {B C:Nat},In w x->In w y->MX B (co w x)->MX C (co w y)->MX (B*C*2^E) (co w (x*y))
theorem Ml.of {w:List (List Rat)} {R:Nat} (hw:Al w) (a:TB R w):Ml w (EE w.length R):=⟨Js hw a,H2 hw a⟩
section
variable {u:List (List Rat)} {r:List Rat} {E R s t:Nat} {x y:Re}
theorem Ml.mono {d:Nat} (M:Ml u E) (h:E<=d):Ml u d:=by
 obtain⟨K,f,g,hm⟩:=M.dn;exact⟨⟨K,f,Nat.le_trans g (CW h),hm⟩,fun j n a b=>(M.mx j n a b).mono (Nat.mul_le_mul_left _ (CW h))⟩
theorem Ml.bd (M:Ml u E) (f:In u x) (g:In u y) (a:Bd s (co u x)) (b:Bd t (co u y)):Bd (s+t+E) (co u (x*y)):=by
 obtain⟨D,j,n,o,h3⟩:=a;obtain⟨h,k0,k1,k2,B⟩:=b;obtain⟨K,z,d,hm⟩:=M.dn;refine⟨D*h*K,Nat.mul_pos (Nat.mul_pos j k0) z,?_,hm f g o k2,?_⟩
 ·have:=Nat.mul_le_mul (Nat.mul_le_mul n k1) d;rwa [<-Nat.pow_add,<-Nat.pow_add] at this
 have:=M.mx f g h3 B;rwa [<-Nat.pow_add,<-Nat.pow_add] at this
theorem Ml.cons (h:Al (r::u)) (M:Ml u E) (O:Bd R r):Ml (r::u) (2*E+R+2):=by
 obtain⟨K,V,F,hm⟩:=M.dn;obtain⟨z,X,J,I,L⟩:=O;refine⟨⟨K*K*z,Nat.mul_pos (Nat.mul_pos V V) X,?_,fun {x y D Y} Q U g j=>?_⟩,fun {x y B C} Q U n o=>?_⟩
 ·have H:K*K*z<=2^E*2^E*2^R:=Nat.mul_le_mul (Nat.mul_le_mul F F) J;rw[<-Nat.pow_add,<-Nat.pow_add] at H;exact Nat.le_trans H (CW)
 ·obtain⟨a,b,ha,hb,rfl⟩:=CZ.1 Q;obtain⟨c,d,hc,f,rfl⟩:=CZ.1 U;rw[C4 h ha hb rfl,DN.app] at g;rw[C4 h hc f rfl,DN.app] at j;rw[N3 h ha hb hc f rfl rfl,DN.app];have N:DN z (co u (AP u r)):=by rw[FL h];exact I
  refine⟨DN.F5 h.1 (BD h.1 ha hc) (BD h.1 (BD h.1 hb f) (B6 h)) ((hm ha hc g.1 j.1).dvd ⟨K*z,by grind⟩) ((hm (BD h.1 hb f) (B6 h) (hm hb f g.2 j.2) N).dvd ⟨1,by grind⟩),
   DN.F5 h.1 (BD h.1 ha f) (BD h.1 hb hc) ((hm ha f g.1 j.2).dvd ⟨K*z,by grind⟩) ((hm hb hc g.2 j.1).dvd ⟨K*z,by grind⟩)⟩
 have G:=fun {x y:Re} {B C:Nat}=>M.mx (x:=x) (y:=y) (B:=B) (C:=C)
 obtain⟨a,b,ha,hb,rfl⟩:=CZ.1 Q;obtain⟨c,d,hc,f,rfl⟩:=CZ.1 U;rw[C4 h ha hb rfl,MX.app] at n;rw[C4 h hc f rfl,MX.app] at o;rw[N3 h ha hb hc f rfl rfl,MX.app];have N:MX (2^R) (co u (AP u r)):=by rw[FL h];exact L
 have e:2*E+R+2=E+E+R+2:=by omega
 rw[e,Nat.pow_add,Nat.pow_add,Nat.pow_add];have H:=DB E;have W:=DB R
 generalize 2^E=K at*
 generalize 2^R=S at*
 have k1:B*C*K<=B*C*(K*K*S):=Nat.mul_le_mul_left _ (by
  have:K*1<=K*(K*S):=Nat.mul_le_mul_left _ (Nat.mul_pos H W);rw[Nat.mul_assoc];omega)
 have k2:B*C*K*S*K=B*C*(K*K*S):=by grind
 refine⟨(MX.F5 h.1 (BD h.1 ha hc) (BD h.1 (BD h.1 hb f) (B6 h)) (G ha hc n.1 o.1) (G (BD h.1 hb f) (B6 h) (G hb f n.2 o.2) N)).mono ?_,
  (MX.F5 h.1 (BD h.1 ha f) (BD h.1 hb hc) (G ha f n.1 o.2) (G hb hc n.2 o.1)).mono ?_⟩
 ·rw[k2];grind
 grind
theorem Ml.inv {P:Nat->Nat} (h:Al (r::u)) (M:Ml u E) (N:Bd R r) (hI:∀{x y:Re} {s:Nat},In u x->In u y->x*y=1->Bd s (co u x)->Bd (P s) (co u y)) (hx:In (r::u) x) (e:x*y=1) (hb:Bd s (co (r::u) x)):Bd (s+E+P (2*s+2*E+R+1)) (co (r::u) y):=by
 obtain⟨p,q,d,a,rfl⟩:=CZ.1 hx;have hr:=Ct h;obtain⟨D,G,H,W,h3⟩:=hb;rw[C4 h d a rfl] at W h3;obtain⟨C,F⟩:=DN.app.1 W;obtain⟨mp,U⟩:=MX.app.1 h3;obtain⟨K,I,j,hm⟩:=M.dn;obtain⟨B,k0,k1,k2,k3⟩:=N;have O:DN B (co u (AP u r)):=by rw[FL h];exact k2
 have L:MX (2^R) (co u (AP u r)):=by rw[FL h];exact k3
 have hN:Bd (2*s+2*E+R+1) (co u (p*p-q*q*AP u r)):=by
  refine⟨D*D*K*B*K,Nat.mul_pos (Nat.mul_pos (Nat.mul_pos (Nat.mul_pos G G) I) k0) I,?_,DN.Iy h.1 (BD h.1 d d) (BD h.1 (BD h.1 a a) (B6 h)) ((hm d d C C).dvd ⟨B*K,by grind⟩) (hm (BD h.1 a a) (B6 h) (hm a a F F) O),
   (MX.Iy h.1 (BD h.1 d d) (BD h.1 (BD h.1 a a) (B6 h)) (M.mx d d mp mp) (M.mx (BD h.1 a a) (B6 h) (M.mx a a U U) L)).mono ?_⟩
  ·have:=Nat.mul_le_mul (Nat.mul_le_mul (Nat.mul_le_mul (Nat.mul_le_mul H H) j) k1) j;rw[<-Nat.pow_add,<-Nat.pow_add,<-Nat.pow_add,<-Nat.pow_add] at this;exact Nat.le_trans this (CW)
  rw[<-Nat.pow_add,<-Nat.pow_add,<-Nat.pow_add,<-Nat.pow_add,Nat.pow_succ];have V:2^(s+s+E)<=2^(2*s+2*E+R):=CW;have e2:2^(s+s+E+R+E)<=2^(2*s+2*E+R):=CW;omega
 have f:=Fi (BD h.1 d d) (BD h.1 (BD h.1 a a) (B6 h));have Z:(0:Re)<1:=Re.GC.2 (show (0:Rat)<1 by decide)
 have J:p*p-q*q*AP u r≠0:=by
  intro e0;have V:(p+q*rt u r)*(p-q*rt u r)=0:=by grind
  rcases Re.Gf V with e2 | e2
  ·rw[e2] at e;grind
  obtain⟨e3,e4⟩:=indep h d (Gu a) (CK u) (CK u) (show p+ -q*rt u r=0+0*rt u r by grind);have:p+q*rt u r=0:=by grind
  rw[this] at e;grind
 obtain⟨i,g,n⟩:=E1 h.1 f J;obtain⟨X,Q,S,o,z⟩:=hI f g n hN
 have Y:y=p*i+ -(q*i)*rt u r:=by
  have:y=(p+q*rt u r)*y*((p-q*rt u r)*i):=by
   have:(p+q*rt u r)*y*((p-q*rt u r)*i)=y*((p*p-q*q*AP u r)*i):=by grind
   rw[this,n];grind
  rw[e] at this
  grind
 rw[Y,C4 h (BD h.1 d g) (Gu (BD h.1 a g)) rfl,Ki h.1 (BD h.1 a g)];have m1:=M.mx d g mp z;have m2:=M.mx a g U z;rw[<-Nat.pow_add,<-Nat.pow_add] at m1 m2;refine⟨D*X*K,Nat.mul_pos (Nat.mul_pos G Q) I,?_,DN.app.2 ⟨hm d g C o,(hm a g F o).neg⟩,MX.app.2 ⟨m1.mono (CW),(m2.mono (CW)).neg⟩⟩;have:=Nat.mul_le_mul (Nat.mul_le_mul H S) j;rw[<-Nat.pow_add,<-Nat.pow_add] at this;exact Nat.le_trans this (CW)
end
end Go.Abs
namespace Go.Abs
variable {E:Nat} {u w:List (List Rat)} {x:Re}
theorem XB (hu:Al u) (hw:Al w) (h:Be u w):∀{v:List (List Rat)},Al v->Be v w->Be (ext u v) w
 | [],_,_=>h
 | r::v,a,d=>by
  have g:=XB hu hw h a.1 d.tail;rw[ext]
  by_cases f:Sq (ext u v) (AP v r)
  ·rw[Et f];exact g
  rw[Dk f];refine JF hw g ?_;rw[KL ((Ip hu a.1).2 _ (B6 a))];exact d.root
theorem WR:∀(v:List (List Rat)) {u:List (List Rat)} {x:Re},Al (v++u)->In u x->cf (v++u) x 0=cf u x 0
 | [],_,_,_,_=>rfl
 | r::v,u,x,h,a=>by
  rw[List.cons_append,Gr (u:=v++u) h (MN v _ a) (CK _) (by grind) (DB _)];exact WR v h.1 a
theorem WQ (h:Al u):cf u 1 0=1:=by
 rw[cf,show (1:Re)=Re.ofRat 1 from rfl,Hs 1 h];rfl
theorem ME (hu:Al u) (hw:Al w) (h:Be u w) (g:In u x):cf u x 0=cf w x 0:=by
 obtain⟨ht,f⟩:=Ip hu hw;have a:=XB hu hw h hw (Be.refl w);have j:=OK u w;have d:=MO j;obtain⟨v,e⟩:=j;have k1:=ay ht hw a f (Jy _);rw[NK ht (Jy _),NK hw (Jy _),WQ ht,WQ hw] at k1;have k2:=ay ht hw a f (d _ g);rw[NK ht (d _ g),NK hw (h _ g)] at k2
 have o:((2^w.length:Nat):Rat)≠0:=fun e=>by
  have:=Rat.natCast_inj.1 (e.trans (show (0:Rat)=((0:Nat):Rat) from rfl));have:=DB w.length;omega
 have n:cf (ext u w) x 0=cf w x 0:=by grind
 rw[<-n,<-e];exact (WR v (e ▸ ht) g).symm
def Rb (w:List (List Rat)):List (List Rat)->Nat->Prop
 | [],k=>k=0
 | r::u,k=>∃k1 k2,k=k1+k2/\Rb w u k1/\∃y,y*rt u r=1/\Bd k2 (co w y)
theorem ZW (hw:Al w) (M:Ml w E):∀{u:List (List Rat)} {k:Nat},Al u->Be u w->Rb w u k->∃Y:Nat->Re,(∀i,In u (Y i))/\(∀{x:Re},In u x->∀i,i<2^u.length->cf u x i=cf w (x*Y i) 0)/\
  ∃D:Nat,0<D/\D<=2^(k+u.length*E)/\∀i,i<2^u.length->DN D (co w (Y i))/\MX (2^(k+u.length*E)) (co w (Y i))
 | [],k,hu,d,B=>by
  have B:k=0:=B;subst B;refine⟨fun _=>1,fun _=>Jy _,fun {x} C i n=>?_,1,by decide,by simp,fun i _=>?_⟩
  ·have:i=0:=by have n:i<1:=n;omega
   subst this;rw[show x*1=x by grind];exact ME hu hw d C
  have e:co w (1:Re)=1::List.replicate (2^w.length-1) 0:=Hs 1 hw
  have hm:∀q∈co w (1:Re),q=1\/q=0:=fun q a=>by
   rw[e] at a;rcases List.mem_cons.1 a with h | h
   ·exact .inl h
   exact .inr (List.eq_of_mem_replicate h)
  refine⟨fun q a=>?_,fun q a=>?_⟩
  ·rcases hm q a with rfl | rfl
   ·exact⟨1,by decide +kernel⟩
   exact⟨0,by decide +kernel⟩
  rcases hm q a with rfl | rfl
  ·simp only[List.length_nil,Nat.zero_mul,Nat.add_zero,Nat.pow_zero];exact⟨by decide +kernel,by decide +kernel⟩
  simp only[List.length_nil,Nat.zero_mul,Nat.add_zero,Nat.pow_zero];exact⟨by decide +kernel,by decide +kernel⟩
 | r::u,k,hu,d,B=>by
  obtain⟨k1,k2,rfl,H,y,S,L,d1,d2,d3,d4⟩:=B;obtain⟨Y,y1,y2,D,W,e2,N⟩:=ZW hw M hu.1 d.tail H;obtain⟨K,U,V,X⟩:=M.dn;have Z:=Ct hu;have J:AP u r≠0:=by have:=hu.2.2.1;grind
  obtain⟨s,Q,I⟩:=E1 hu.1 (B6 hu) J
  have O:y=s*rt u r:=by
   have:y=y*(AP u r*s):=by rw[I];grind
   rw[this,<-Z];have:y*(rt u r*rt u r*s)=(y*rt u r)*(s*rt u r):=by grind
   rw[this,S];grind
  have g:In (r::u) y:=by rw[O];exact BD hu (Fj Q) (IY u r)
  have F:=d _ g;have hlen:k1+k2+(r::u).length*E=(k1+u.length*E)+k2+E:=by rw[List.length_cons,Nat.succ_mul];omega
  refine⟨fun i=>if i<2^u.length then Y i else Y (i-2^u.length)*y,fun i=>?_,fun {x} C i n=>?_,D*L*K,Nat.mul_pos (Nat.mul_pos W d1) U,?_,fun i n=>?_⟩
  ·show In (r::u) (if _ then _ else _)
   split
   ·exact Fj (y1 i)
   exact BD hu (Fj (y1 _)) g
  ·obtain⟨p,q,o,a,e⟩:=CZ.1 C
   show _=cf w (x*if _ then _ else _) 0
   split
   ·rename_i f
    rw[Gr hu o a e f,y2 o i f,<-ME hu.1 hw d.tail (BD hu.1 o (y1 i)),<-ME hu hw d (BD hu C (Fj (y1 i)))];exact (Gr hu (BD hu.1 o (y1 i)) (BD hu.1 a (y1 i)) (by rw[e];grind) (DB _)).symm
   rename_i G
   rw[B3] at n;obtain⟨j,rfl⟩:∃j,i=2^u.length+j:=⟨i-2^u.length,by omega⟩
   rw[Nat.add_sub_cancel_left,IT hu o a e,y2 a j (by omega),<-ME hu.1 hw d.tail (BD hu.1 a (y1 j)),<-ME hu hw d (BD hu C (BD hu (Fj (y1 j)) g))];refine (Gr hu (BD hu.1 a (y1 j)) (BD hu.1 (BD hu.1 o (y1 j)) Q) ?_ (DB _)).symm;have:x*(Y j*y)=p*Y j*y+q*Y j*(y*rt u r):=by rw[e];grind
   rw[this,S,O];grind
  ·rw[hlen];simp only[Nat.pow_add] at e2 ⊢;exact Nat.mul_le_mul (Nat.mul_le_mul e2 d2) V
  show DN _ (co w (if _ then _ else _))/\MX _ (co w (if _ then _ else _))
  split
  ·rename_i f
   obtain⟨f1,f2⟩:=N i f;refine⟨(f1.mul_right (L*K)).dvd ⟨1,by grind⟩,f2.mono ?_⟩;rw[hlen];exact CW
  rename_i G
  rw[B3] at n;obtain⟨f1,f2⟩:=N (i-2^u.length) (by omega);have z:=d.tail _ (y1 (i-2^u.length));refine⟨X z F f1 d3,?_⟩;have:=M.mx z F f2 d4;rw[hlen];simp only[Nat.pow_add] at this ⊢;exact this
theorem V3 {k s:Nat} (hw:Al w) (M:Ml w E) (hu:Al u) (f:Be u w) (L:Rb w u k) (n:In u x) (N:Bd s (co w x)):Bd (s+k+(u.length+1)*E) (co u x):=by
 obtain⟨Y,y1,y2,D,G,e2,o⟩:=ZW hw M hu f L;obtain⟨K,C,F,J⟩:=M.dn;obtain⟨B,d1,d2,d3,d4⟩:=N;have a:=f _ n;have z:s+k+(u.length+1)*E=s+(k+u.length*E)+E:=by rw[Nat.succ_mul];omega
 have key:∀q∈co u x,∃i,i<2^u.length/\q∈co w (x*Y i):=fun q j=>by
  obtain⟨i,d,rfl⟩:=List.mem_iff_getElem.1 j;have g:i<2^u.length:=by rw[<-Cv n];exact d
  refine⟨i,g,?_⟩;have H:=y2 n i g;have O:=BD hw a (f _ (y1 i));have h:0<(co w (x*Y i)).length:=by rw[Cv O];exact DB _
  have I:cf u x i=(co u x)[i]:=by rw[cf,List.getD_eq_getElem?_getD,List.getElem?_eq_getElem d];rfl
  have h3:cf w (x*Y i) 0=(co w (x*Y i))[0]:=by rw[cf,List.getD_eq_getElem?_getD,List.getElem?_eq_getElem h];rfl
  rw[<-I,H,h3];exact List.getElem_mem h
 refine⟨B*D*K,Nat.mul_pos (Nat.mul_pos d1 G) C,?_,fun q j=>?_,fun q j=>?_⟩
 ·rw[z];simp only[Nat.pow_add] at e2 ⊢;exact Nat.mul_le_mul (Nat.mul_le_mul d2 e2) F
 ·obtain⟨i,d,hm⟩:=key q j;exact J a (f _ (y1 i)) d3 (o i d).1 q hm
 obtain⟨i,d,hm⟩:=key q j;have:=M.mx a (f _ (y1 i)) d4 (o i d).2 q hm;rw[z];simp only[Nat.pow_add] at this ⊢;exact this
end Go.Abs
namespace Go.Abs
theorem V5 {w:List (List Rat)} {E σ:Nat} (hw:Al w) (M:Ml w E):∀{u:List (List Rat)},Al u->Be u w->(∀v∈BO u,Bd σ (co w (Re.sqrt v)))->∃K:Nat,0<K/\K<=2^(u.length*(σ+E+1))/\
  ∀{x:Re} {D B:Nat},In u x->(DN D (co u x)->DN (D*K) (co w x))/\(MX B (co u x)->MX (B*2^(u.length*(σ+E+1))) (co w x))
 | [],_,_,_=>⟨1,by decide,by simp,fun {x D B} O=>by
  obtain⟨q,rfl⟩:=Cs.1 O;rw[Dl,Hs q hw,Nat.mul_one];refine⟨Qu,fun h=>?_⟩;rw[show B*2^(([]:List (List Rat)).length*(σ+E+1))=B by simp];exact R7 h⟩
 | r::u,h,n,j=>by
  obtain⟨K,V,N,hb⟩:=V5 hw M h.1 n.tail (fun v W=>j v (List.mem_cons_of_mem _ W));obtain⟨G,J,L,hm⟩:=M.dn;obtain⟨F,U,H,C,I⟩:=j (AP u r) List.mem_cons_self;have d:In w (rt u r):=n.root;have e2:(r::u).length*(σ+E+1)=u.length*(σ+E+1)+(σ+E+1):=by rw[List.length_cons,Nat.succ_mul]
  refine⟨K*(F*G),Nat.mul_pos V (Nat.mul_pos U J),?_,fun {x D B} O=>?_⟩
  ·have S:=Nat.mul_le_mul N (Nat.mul_le_mul H L);simp only[<-Nat.pow_add] at S;exact Nat.le_trans S (CW (by rw[e2];omega))
  obtain⟨p,q,o,z,rfl⟩:=CZ.1 O;rw[C4 h o z rfl,DN.app,MX.app];have g:=n.tail _ o;have a:=n.tail _ z;refine⟨fun f=>?_,fun f=>?_⟩
  ·have k1:=(hb (B:=0) o).1 f.1;have k2:=(hb (B:=0) z).1 f.2;have Q:=hm a d k2 C;exact DN.F5 hw g (BD hw a d) (k1.dvd ⟨F*G,by grind⟩) (Q.dvd ⟨1,by grind⟩)
  have k1:=(hb (D:=0) o).2 f.1;have k2:=(hb (D:=0) z).2 f.2;have Q:=M.mx a d k2 I;refine (MX.F5 hw g (BD hw a d) k1 Q).mono ?_
  have e:B*2^(u.length*(σ+E+1))*2^σ*2^E=B*2^(u.length*(σ+E+1)+σ+E):=by
   rw[Nat.mul_assoc,Nat.mul_assoc,<-Nat.pow_add,<-Nat.pow_add];congr 2;omega
  rw[e,<-Nat.mul_add];refine Nat.mul_le_mul_left B ?_;have h3:2^(u.length*(σ+E+1))<=2^(u.length*(σ+E+1)+σ+E):=CW;rw[e2,show u.length*(σ+E+1)+(σ+E+1)=u.length*(σ+E+1)+σ+E+1 by omega,Nat.pow_succ];omega
structure Wv (w:List (List Rat)) (σ κ ν:Nat) (v:Re):Prop where
 root:In w (Re.sqrt v)
 rb:Bd σ (co w (Re.sqrt v))
 inv:∃y,y*Re.sqrt v=1/\Bd κ (co w y)
 vb:Bd ν (co w v)
theorem ZX {w:List (List Rat)} {σ κ ν:Nat}:∀{u:List (List Rat)},(∀v∈BO u,Wv w σ κ ν v)->Rb w u (u.length*κ)
 | [],_=>by show _=0;simp
 | r::u,h=>by
  obtain⟨y,d,hb⟩:=(h (AP u r) List.mem_cons_self).inv;exact⟨u.length*κ,κ,by rw[List.length_cons,Nat.succ_mul],ZX (fun v a=>h v (List.mem_cons_of_mem _ a)),y,d,hb⟩
section
variable {w u:List (List Rat)} {E σ κ ν m:Nat}
theorem MP (hw:Al w):∀{u:List (List Rat)},Al u->(∀v∈BO u,In w (Re.sqrt v))->Be u w
 | [],_,_=>Ko w
 | r::u,h,a=>JF hw (MP hw h.1 (fun v hm=>a v (List.mem_cons_of_mem _ hm))) (a (AP u r) List.mem_cons_self)
end
theorem Tf.all {P:List (List Rat)->Prop} {R0:Nat} (I:CY P R0) {B:Re->Prop} (j:∀{r u},P (r::u)->B (AP u r)) {u:List (List Rat)} (h:Tf P u):∀v∈Go.Abs.BO u,B v:=by
 induction h with
 | nil=>intro v a;simp[Go.Abs.BO] at a
 | @BT u o z ht d n g=>
  by_cases f:Sq u (AP z o)
  ·rw[Et f];exact g
  rw[Dk f];intro v a;rcases List.mem_cons.1 a with rfl | a
  ·rw[E0 (n _ (B6 (I.red d)))];exact j d
  exact g v a
end Go.Abs
namespace Go.Abs
def FV:List (List Rat)->Nat->Re->Prop
 | [],_,_=>False
 | r::t,i,v=>(i<2^t.length/\FV t i v)\/(2^t.length<=i/\(v=AP t r\/FV t (i-2^t.length) v))
variable {i:Nat} {r:List Rat} {t u:List (List Rat)} {v x:Re}
theorem RC:∀{t:List (List Rat)} {i:Nat} {v:Re},FV t i v->v∈BO t
 | r::t,i,v,h=>by
  rw[BO];rcases h with⟨_,h⟩ |⟨_,h | h⟩
  ·exact List.mem_cons_of_mem _ (RC h)
  ·exact h ▸ List.mem_cons_self
  exact List.mem_cons_of_mem _ (RC h)
theorem Hx (a:i<2^t.length):FV (r::t) i v↔FV t i v:=
 ⟨fun h=>h.elim (·.2) fun h=>absurd h.1 (by omega),fun h=> .inl ⟨a,h⟩⟩
theorem Hw:FV (r::t) (2^t.length+i) v↔v=AP t r\/FV t i v:=
 ⟨fun h=>h.elim (fun h=>absurd h.1 (by omega)) fun h=>by have:=h.2;rwa [Nat.add_sub_cancel_left] at this,fun h=> .inr ⟨by omega,by rwa [Nat.add_sub_cancel_left]⟩⟩
theorem oE (h:Al u) (f:In u x) (a:∀i,i<2^u.length->cf u x i=0):x=0:=by
 rw[expand h f,HF (g:=fun _=>(0:Re)) (fun i d=>by rw[a i d,show Re.ofRat 0=(0:Re) from rfl];grind)];exact Tg _
theorem R5:∀{t:List (List Rat)} {v y:Re},Al t->v∈BO t->In t y->(∀i,i<2^t.length->FV t i v->cf t y i=0)->
  ∀i,i<2^t.length->(FV t i v->∃j,j<2^t.length/\¬FV t j v/\cf t (y*Re.sqrt v) i=cf t y j/\∀F,F≠v->FV t i F->FV t j F)/\(¬FV t i v->cf t (y*Re.sqrt v) i=0)
 | r::t,v,y,h,U,V,L,i,S=>by
  obtain⟨p,q,o,C,e⟩:=CZ.1 V;have K:=HH h;rw[BO,List.nodup_cons] at K;rw[B3] at L S
  by_cases f:v=AP t r
  ·have O:∀{j},¬FV t j v:=fun {j} g=>K.1 (f ▸ RC g)
   have N:q=0:=oE h.1 C fun j g=>by
    rw[<-IT h o C e j];exact L _ (by omega) (Hw.2 (.inl f))
   have e2:y*Re.sqrt v=0+p*rt t r:=by
    show _=0+p*Re.sqrt (AP t r)
    rw[e,N,f];grind
   by_cases z:i<2^t.length
   ·exact⟨fun d=>absurd ((Hx z).1 d) O,fun _=>by rw[Gr h (CK t) o e2 z,WT h.1]⟩
   obtain⟨j,rfl⟩:∃j,i=2^t.length+j:=⟨i-2^t.length,by omega⟩
   have g:j<2^t.length:=by omega
   refine⟨fun _=>⟨j,by rw[B3];omega,fun d=>O ((Hx g).1 d),?_,fun F n d=>?_⟩,fun d=>absurd (Hw.2 (.inl f)) d⟩
   ·rw[IT h (CK t) o e2,Gr h o C e g]
   rcases Hw.1 d with G | G
   ·exact absurd (G.trans f.symm) n
   exact (Hx g).2 G
  have J:v∈BO t:=(List.mem_cons.1 (by rwa [BO] at U)).resolve_left f;have Q:In t (Re.sqrt v):=Lp J;have e2:y*Re.sqrt v=p*Re.sqrt v+q*Re.sqrt v*rt t r:=by rw[e];grind
  have B:=BD h.1 o Q;have D:=BD h.1 C Q
  by_cases z:i<2^t.length
  ·obtain⟨k1,k2⟩:=R5 h.1 J o (fun j g d=>by rw[<-Gr h o C e g];exact L j (by omega) ((Hx g).2 d)) i z;refine⟨fun d=>?_,fun d=>?_⟩
   ·obtain⟨j,g,a,b,c⟩:=k1 ((Hx z).1 d);exact⟨j,by rw[B3];omega,fun d=>a ((Hx g).1 d),by rw[Gr h B D e2 z,b,Gr h o C e g],fun F n I=>(Hx g).2 (c F n ((Hx z).1 I))⟩
   rw[Gr h B D e2 z];exact k2 fun H=>d ((Hx z).2 H)
  obtain⟨i,rfl⟩:∃j,i=2^t.length+j:=⟨i-2^t.length,by omega⟩
  obtain⟨k1,k2⟩:=R5 h.1 J C (fun j g d=>by rw[<-IT h o C e j];exact L _ (by omega) (Hw.2 (.inr d))) i (by omega);refine⟨fun d=>?_,fun d=>?_⟩
  ·obtain⟨j,g,a,b,c⟩:=k1 ((Hw.1 d).resolve_left f);refine⟨2^t.length+j,by rw[B3];omega,fun d=>(Hw.1 d).elim f a,by rw[IT h B D e2,b,IT h o C e],fun F n I=>?_⟩;rcases Hw.1 I with G | G
   ·exact Hw.2 (.inl G)
   exact Hw.2 (.inr (c F n G))
  rw[IT h B D e2];exact k2 fun H=>d (Hw.2 (.inr H))
theorem Qy (ht:Al t):∀{u:List (List Rat)},(∀v∈BO u,v∈BO t)->Be u t
 | [],_=>Ko t
 | r::u,h=>JF ht (Qy ht fun v a=>h v (by rw[BO];exact List.mem_cons_of_mem _ a)) (Lp (h _ (by rw[BO];exact List.mem_cons_self)))
theorem Qm (ht:Al t):∀{u:List (List Rat)} {x:Re},Al u->(∀v∈BO u,v∈BO t)->In u x->∀i,i<2^t.length->(cf t x i=0\/cf t x i∈co u x)/\(cf t x i≠0->∀v,FV t i v->v∈BO u)
 | [],x,_,_,J,i,g=>by
  obtain⟨q,rfl⟩:=Cs.1 J
  have e:cf t (Re.ofRat q) i=if i=0 then q else 0:=by
   rw[cf,Hs q ht,List.getD_eq_getElem?_getD];cases i with
   | zero=>rfl
   | succ i=>
    rw[if_neg (by omega),List.getElem?_cons_succ,List.getElem?_replicate]
    split <;> rfl
  have N:∀{t:List (List Rat)} {v:Re},¬FV t 0 v:=fun {t v}=>by
   induction t with
   | nil=>exact id
   | cons r t S=>exact fun h=>S ((Hx (DB _)).1 h)
  rw[e]
  split
  ·rename_i h;subst h
   exact⟨.inr (by rw[Dl];exact List.mem_cons_self),fun _ v n=>absurd n N⟩
  exact⟨.inl rfl,fun h=>absurd rfl h⟩
 | r::u,x,hu,hV,J,i,g=>by
  obtain⟨p,q,I,D,e⟩:=CZ.1 J;have z:=HH hu;rw[BO,List.nodup_cons] at z;rw[BO] at hV ⊢;have f:∀v∈BO u,v∈BO t:=fun v n=>hV v (List.mem_cons_of_mem _ n)
  have F:=Qy ht f;have C:=hV _ List.mem_cons_self;have G:=Qm ht hu.1 f I;have H:=Qm ht hu.1 f D
  have L:∀{y:Re},(∀i,i<2^t.length->(cf t y i=0\/cf t y i∈co u y)/\(cf t y i≠0->∀v,FV t i v->v∈BO u))->∀i,i<2^t.length->FV t i (AP u r)->cf t y i=0:=fun Q i g o=>
   Classical.byContradiction fun d=>z.1 ((Q i g).2 d _ o)
  obtain⟨k1,k2⟩:=R5 ht C (F _ D) (L H) i g;have O:In t (rt u r):=Lp C
  have hc:cf t x i=cf t p i+cf t (q*Re.sqrt (AP u r)) i:=by
   rw[show x=p+q*Re.sqrt (AP u r) from e];exact WO ht (F _ I) (BD ht (F _ D) O) i
  rw[C4 hu I D e]
  by_cases o:FV t i (AP u r)
  ·obtain⟨j,K,a,b,c⟩:=k1 o;rw[hc,L G i g o,b,show (0:Rat)+cf t q j=cf t q j by grind];refine⟨(H j K).1.imp id fun h=>List.mem_append_right _ h,fun d v n=>?_⟩
   by_cases B:v=AP u r
   ·exact B ▸ List.mem_cons_self
   exact List.mem_cons_of_mem _ ((H j K).2 d v (c v B n))
  rw[hc,k2 o,show cf t p i+(0:Rat)=cf t p i by grind];exact⟨(G i g).1.imp id fun h=>List.mem_append_left _ h,fun d v n=>List.mem_cons_of_mem _ ((G i g).2 d v n)⟩
theorem QR {k:Nat} (ht:Al t) (hu:Al u) (hV:∀v∈BO u,v∈BO t) (g:In u x) (h:Bd k (co u x)):Bd k (co t x):=by
 obtain⟨D,d1,d2,d3,d4⟩:=h;have d:=Qy ht hV _ g
 have key:∀q∈co t x,q=0\/q∈co u x:=fun q a=>by
  obtain⟨i,f,rfl⟩:=List.mem_iff_getElem.1 a;have j:cf t x i=(co t x)[i]:=by rw[cf,List.getD_eq_getElem?_getD,List.getElem?_eq_getElem f];rfl
  rw[<-j];exact (Qm ht hu hV g i (by rw[<-Cv d];exact f)).1
 refine⟨D,d1,d2,fun q a=>?_,fun q a=>?_⟩
 ·rcases key q a with rfl | h
  ·exact⟨0,by grind⟩
  exact d3 q h
 rcases key q a with rfl | h
 ·have:(0:Rat)<=((2^k:Nat):Rat):=Rat.natCast_nonneg
  constructor <;> grind
 exact d4 q h
end Go.Abs
