/- Part 27 of a proof. Conditions: each theorem's own. -/
import Derived.Test.YtmhbikooakmagaaGreatQk24
import Derived.Test.YtmhbikooakmagaaGreatQk25
set_option linter.all false
set_option maxHeartbeats 8000000
set_option maxRecDepth 20000
open Go.Proofs
namespace Go.Abs
open Go.RowKit
theorem Ds {f:FuncId} {fn:Func} (g:Tryz.prog.funcs[f]? =some fn) {args:List AV} {r:AV} (h:∀E,env Tryz.prog=E->JV E fn r none (CL fn.ntmps args none)) (j:ET fn=true:=by kernel_rfl) (o:(HB args&&(r.all Be&&(r.wf&&Nat.ble args.length fn.ntmps)))=true:=by rfl):EN Tryz.prog false f args r:=YE g j o h
theorem K8 {f:FuncId} {fn:Func} (j:Tryz.prog.funcs[f]? =some fn) {g:AK} {args:List AV} {r:AV} (h:∀E,env Tryz.prog=E->ND E fn r g (CL fn.ntmps args (some g))) (o:ET fn=true:=by kernel_rfl) (B:(G0 args&&(r.all Ao&&(g.lone&&(Nat.ble args.length fn.ntmps&&Nat.ble 1 fn.ntmps))))=true:=by rfl):Cy Tryz.prog f args g r:=ZR j o B h
theorem BC {ops:List Oper} {tr:Tr} {C:Prop} (h:C) (f:OW ops tr=true:=by kernel_rfl):(Unit->G7 ops tr=true)/\C:=⟨fun _=>bg f,h⟩
end Go.Abs
namespace Go.Abs
theorem dL {E:Env} {g:FuncId} {args:List AV} {r:AV} {B:Nat->AK->List AV->Prop} {S:AK->AK} {K:Nat->AV->Prop} {f j o C:Prop} (id:Nat) (b:AK) (F:env Tryz.prog=E) (h:Cy Tryz.prog g args (S b) r) (hb:B id b args) (G:K id r):
 f\/j\/o\/(∃(id:Nat) (b:AK) (a:List AV) (r:AV),(Unit->B id b a)/\(Unit->E.D g a (S b) r)/\K id r)\/C:= .inr (.inr (.inr (.inl ⟨id,b,args,r,fun _=>hb,fun _=>E2 F h,G⟩)))
end Go.Abs
namespace Go.Abs
section
variable {P:List (List Rat)->Prop} {R0:Nat}
theorem al {α:Type} {Q:α->Prop} {f:α->Nat} {m:Nat} (hm:∀a,Q a->f a<=m) {a:α} (ha:Q a):∃b,Q b/\∀c,Q c->f c<=f b:=by
 induction h:m-f a using Nat.strongRecOn generalizing a with
 | _ n B=>
  by_cases j:∀c,Q c->f c<=f a
  ·exact⟨a,ha,j⟩
  obtain⟨c,o⟩:=Classical.not_forall.1 j;obtain⟨g,h3⟩:=Classical.not_imp.1 o;have:=hm c g;exact B (m-f c) (by omega) g rfl
theorem Tf.top (I:DO P R0) {m:Nat} (hm:∀{u},Tf P u->u.length<=m):∃w,Tf P w/\∀{u},Tf P u->BA u w:=by
 obtain⟨w,hw,J⟩:=al (Q:=Tf P) (f:=List.length) (fun u h=>hm h) Tf.nil;have C:=hw.red I
 have key:∀{u},P u->BA u w:=by
  intro u
  induction u with
  | nil=>exact fun _=>Je w
  | cons r u B=>
   intro g;have j:=B (I.sub g);have G:=I.red g;refine IH C j ?_
   have o:Sq w (AM u r):=by
    apply Classical.byContradiction;intro H;have:=J _ (Tf.Ax hw g j);rw[Ed H,List.length_cons] at this;omega
   exact (KK (by have:=G.2.2.1;grind)).1 o
 refine⟨w,hw,fun {u} h=>?_⟩
 induction h with
 | nil=>exact Je w
 | @Ax u D F ht g j B=>
  by_cases o:Sq u (AM F D)
  ·rw[Ec o];exact B
  rw[Ed o];refine IH C B ?_;rw[ME (j _ (Bt (I.red g)))];exact key g _ (Hb F D)
end
theorem El.down {u:List (List Rat)} {s:Nat} {x:Re} (j:In u x):∀{v:List (List Rat)},AS (v++u)->El (v++u) s x->El u s x
 | [],_,h=>h
 | r::v,g,h=>by
  have f:In (v++u) x:=LI v x j;refine El.down j (v:=v) g.1 ⟨f,?_⟩;obtain⟨D,d0,d1,d2,d3⟩:=h.bd;have e:co (r::(v++u)) x=co (v++u) x++co (v++u) 0:=CZ g f (Bl _) (by grind);rw[List.cons_append,e] at d2 d3;exact⟨D,d0,d1,(DN.app.1 d2).1,(MX.app.1 d3).1⟩
structure Fm (TT:List (List Rat)->Prop) (w:List (List Rat)) (R b c M q p:Nat):Prop where
 Nh:∀{S},R<=S->S<=M*b->Cg TT R (c*b) S
 top:TT w
 all:∀{u},TT u->BA u w
 hR:R<=c*b
 hb:64<=b
 bD:∀{x y s t},El w s x->El w t y->El w (s+t+b) (x*y)
 fx:∀{x y s},El w s x->In w y->x*y=1->El w (q*s+p*b) y
 iu:∀{u},TT u->II u.length R (M*b)<=60000000000000
def Nm (TT:List (List Rat)->Prop) (w:List (List Rat)) (b k:Nat) (T:List (List (el AA))) (A:List (el AA)) (x:Re):Prop:=∃u,TT u/\T=tw u/\A=em u x/\In u x/\El w (k*b) x
section
variable {TT:List (List Rat)->Prop} {w:List (List Rat)} {R b c M q p k l:Nat} {T T1 T2:List (List (el AA))} {A A1 A2:List (el AA)} {x y:Re}
theorem Fm.g (F:Fm TT w R b c M q p) (h:k<=M) (f:c<=k):Cg TT R (c*b) (k*b):=F.Nh (Nat.le_trans F.hR (Nat.mul_le_mul_right b f)) (Nat.mul_le_mul_right b h)
theorem Fm.own (F:Fm TT w R b c M q p) (I:c<=M) (h:Nm TT w b k T A x):∃u,TT u/\T=tw u/\A=em u x/\In u x/\El w (k*b) x/\El u ((k+c)*b) x:=by
 obtain⟨u,hu,J,H,C,he⟩:=h;refine⟨u,hu,J,H,C,he,?_⟩;have G:=(F.g I (Nat.le_refl c)).toGam;obtain⟨o,K,h3⟩:=G.As hu F.top;have f:=G.BQ F.top o h3 he;rw[<-Nat.add_mul] at f;rw[aO] at o f;have j:=(G.Af o).red;unfold DS at f j
 split at f
 ·exact f
 rename_i D
 rw[if_neg D] at j
 split at f
 ·rename_i B
  obtain⟨v,rfl⟩:=B;exact El.down C (G.Af F.top).red f
 rename_i B
 rw[if_neg B] at j;obtain⟨v,e⟩:=Nf u w;rw[<-e] at f j;exact El.down C j f
theorem Nm.mono (h:Nm TT w b k T A x) (B:k<=l):Nm TT w b l T A x:=by
 obtain⟨u,f,g,h3,j,o⟩:=h;exact⟨u,f,g,h3,j,o.mono (Nat.mul_le_mul_right b B)⟩
theorem Fm.two (F:Fm TT w R b c M q p) (ha:Nm TT w b k T1 A1 x) (hb:Nm TT w b l T2 A2 y) (Q:k+c+1<=M) (S:l+c+1<=M):∃u v j,j<=M/\(j=k+c+1\/j=l+c+1)/\TT u/\TT v/\T1=tw u/\T2=tw v/\A1=em u x/\A2=em v y/\In u x/\In v y/\El w (k*b) x/\El w (l*b) y/\El u (j*b) x/\El v (j*b) y/\Cg TT R (c*b) (j*b)/\TT (As u v)/\BA u (As u v)/\BA v (As u v):=by
 obtain⟨u,hu,B,f,U,H,D⟩:=F.own (by omega) ha;obtain⟨v,L,C,o,W,J,I⟩:=F.own (by omega) hb
 have key:∀j,j<=M->(j=k+c+1\/j=l+c+1)->k+c+1<=j->l+c+1<=j->∃u v j,j<=M/\(j=k+c+1\/j=l+c+1)/\TT u/\TT v/\T1=tw u/\T2=tw v/\A1=em u x/\A2=em v y/\In u x/\In v y/\El w (k*b) x/\El w (l*b) y/\El u (j*b) x/\El v (j*b) y/\Cg TT R (c*b) (j*b)/\TT (As u v)/\BA u (As u v)/\BA v (As u v):=by
  intro j K O h3 X;have G:=F.g K (by omega);obtain⟨g1,g2,N⟩:=G.toGam.As hu L;exact⟨u,v,j,K,O,hu,L,B,C,f,o,U,W,H,J,D.mono (Nat.mul_le_mul_right b (by omega)),I.mono (Nat.mul_le_mul_right b (by omega)),G,g1,g2,N⟩
 by_cases h:k<=l
 ·exact key (l+c+1) S (.inr rfl) (by omega) (Nat.le_refl _)
 exact key (k+c+1) Q (.inl rfl) (Nat.le_refl _) (by omega)
end
end Go.Abs
namespace Go.Abs
open Go.RowKit
section
variable {TT:List (List Rat)->Prop} {w:List (List Rat)} {R b c M q p k l:Nat} {T1 T2:List LR} {A1 A2:LR} {x y:Re}
theorem Nm.data {j:LR} (h:Nm TT w b k T1 A1 x) (o:Nm TT w b l T1 j y) (e:x=y):A1=j:=by
 obtain⟨u,_,C,B,_⟩:=h;obtain⟨v,_,g,f,_⟩:=o;rw[B,f,e,Vr (C.symm.trans g)]
theorem Hg (F:Fm TT w R b c M q p) (ha:Nm TT w b k T1 A1 x) (hb:Nm TT w b l T2 A2 y) (K:k+c+1<=M:=by omega) (L:l+c+1<=M:=by omega):∃T A,Nm TT w b (k+l+1) T A (x+y)/\CF 113 [.agg (Ab T1 A1),.agg (Ab T2 A2)] (.AI [(true,(Ab T A)),(false,[.int .i64 0])])/\CF 99 [.agg (Ab T1 A1),.agg (Ab T2 A2)] (.AI [(true,(Ab T A)),(false,[.int .i64 0])]):=by
 obtain⟨u,v,j,Q,_,hu,I,h,o,f,g,N,O,D,H,B,C,G,g1,g2,J⟩:=F.two ha hb K L;refine⟨_,_,⟨As u v,g1,rfl,rfl,CQ (g2 _ N) (J _ O),(D.add (G.Af F.top).red H).mono ?_⟩,WZ G.toGam hu I h o f g B C rfl rfl,Mk G hu I h o f g B C rfl rfl⟩;have:=F.hb;rw[Nat.add_mul,Nat.add_mul];omega
theorem OR (F:Fm TT w R b c M q p) (ha:Nm TT w b k T1 A1 x) (hb:Nm TT w b l T2 A2 y) (K:k+c+1<=M:=by omega) (L:l+c+1<=M:=by omega):∃T A,Nm TT w b (k+l+1) T A (x-y)/\CF 196 [.agg (Ab T1 A1),.agg (Ab T2 A2)] (.AI [(true,(Ab T A)),(false,[.int .i64 0])])/\CF 101 [.agg (Ab T1 A1),.agg (Ab T2 A2)] (.AI [(true,(Ab T A)),(false,[.int .i64 0])]):=by
 obtain⟨u,v,j,Q,_,hu,I,h,o,f,g,N,O,D,H,B,C,G,g1,g2,J⟩:=F.two ha hb K L;refine⟨_,_,⟨As u v,g1,rfl,rfl,D9 (g2 _ N) (J _ O),(D.sub (G.Af F.top).red H).mono ?_⟩,Pp G.toGam hu I h o f g B C rfl rfl,Mq G hu I h o f g B C rfl rfl⟩;have:=F.hb;rw[Nat.add_mul,Nat.add_mul];omega
theorem Ih (F:Fm TT w R b c M q p) (ha:Nm TT w b k T1 A1 x) (hb:Nm TT w b l T2 A2 y) (K:k+c+1<=M:=by omega) (L:l+c+1<=M:=by omega):∃T A,Nm TT w b (k+l+1) T A (x*y)/\CF 111 [.agg (Ab T1 A1),.agg (Ab T2 A2)] (.AI [(true,(Ab T A)),(false,[.int .i64 0])])/\CF 102 [.agg (Ab T1 A1),.agg (Ab T2 A2)] (.AI [(true,(Ab T A)),(false,[.int .i64 0])]):=by
 obtain⟨u,v,j,Q,_,hu,I,h,o,f,g,N,O,D,H,B,C,G,g1,g2,J⟩:=F.two ha hb K L;refine⟨_,_,⟨As u v,g1,rfl,rfl,Ag (G.Af g1).red (g2 _ N) (J _ O),(F.bD D H).mono ?_⟩,Wc G.toGam hu I h o f g B C rfl rfl,Mn G hu I h o f g B C rfl rfl⟩;have:=F.hb;rw[Nat.add_mul,Nat.add_mul];omega
theorem Jw (F:Fm TT w R b c M q p) (ha:Nm TT w b k T1 A1 x) (C:k+c+1<=M:=by omega):∃A,Nm TT w b k T1 A (-x)/\CF 267 [.agg (Ab T1 A1)] (.agg (Ab T1 A))/\CF 105 [.agg (Ab T1 A1)] (.agg (Ab T1 A)):=by
 obtain⟨u,hu,h,j,D,B,o⟩:=F.own (by omega) ha;have G:=F.g C (by omega);have f:=o.mono (Nat.mul_le_mul_right b (Nat.le_succ (k+c)));exact⟨_,⟨u,hu,h,rfl,FQ D,B.neg (G.Af F.top).red⟩,Wd G.toGam hu h j f rfl,Mo G hu h j f rfl⟩
theorem Jy (F:Fm TT w R b c M q p) (ha:Nm TT w b k T1 A1 x) (B:k+c+1<=M:=by omega):∃s:Int,s=AZ x/\CF 90 [.agg (Ab T1 A1)] (.one (.int .i64 s))/\CF 104 [.agg (Ab T1 A1)] (.one (.int .i64 s)):=by
 obtain⟨u,hu,j,h,D,C,o⟩:=F.own (by omega) ha;have G:=F.g B (by omega);have f:=o.mono (Nat.mul_le_mul_right b (Nat.le_succ (k+c)));exact⟨_,rfl,Po G.toGam hu j h f rfl,Mp G hu j h f rfl⟩
theorem Fm.pair (F:Fm TT w R b c M q p) {j:Nat} (h:2*j+2*c+1<=M):Cg TT R (c*b) ((2*j+2*c+1)*b)/\2*(j*b+c*b)+1<=(2*j+2*c+1)*b:=by
 refine⟨F.g h (by omega),?_⟩;have:=F.hb;rw[Nat.add_mul,Nat.add_mul,Nat.mul_assoc,Nat.mul_assoc];omega
theorem Lv (F:Fm TT w R b c M q p) (ha:Nm TT w b k T1 A1 x) (hb:Nm TT w b l T2 A2 y) (Q:2*k+4*c+3<=M:=by omega) (S:2*l+4*c+3<=M:=by omega):∃e:Bool,(e=true↔x=y)/\CF 117 [.agg (Ab T1 A1),.agg (Ab T2 A2)] (.one (.bool e))/\CF 27 [.agg (Ab T1 A1),.agg (Ab T2 A2)] (.one (.bool e)):=by
 obtain⟨u,v,j,O,J,hu,D,h,o,f,g,U,W,K,L,B,C,G,g1,g2,N⟩:=F.two ha hb (by omega) (by omega);obtain⟨H,I⟩:=F.pair (j:=j) (by omega);obtain⟨e,he⟩:=D4 (x=y);exact⟨e,he,Wa G.toGam hu D h o f g B C he,XE G hu D h o f g B C H I he⟩
theorem gL (F:Fm TT w R b c M q p) (ha:Nm TT w b k T1 A1 x) (hb:Nm TT w b l T2 A2 y) (Q:2*k+4*c+3<=M) (S:2*l+4*c+3<=M):∃s:Int,s=AZ (x-y)/\CF 115 [.agg (Ab T1 A1),.agg (Ab T2 A2)] (.AI [(false,[.int .i64 s]),(false,[.int .i64 0])])/\CF 132 [.agg (Ab T1 A1),.agg (Ab T2 A2)] (.AI [(false,[.int .i64 s]),(false,[.int .i64 0])]):=by
 obtain⟨u,v,j,O,J,hu,I,h,o,f,g,U,W,K,L,B,C,G,g1,g2,N⟩:=F.two ha hb (by omega) (by omega);obtain⟨D,H⟩:=F.pair (j:=j) (by omega);exact⟨_,rfl,fu G.toGam hu I h o f g B C D.toGam H rfl,XB G hu I h o f g B C D H rfl⟩
end
end Go.Abs
namespace Go.Abs
open Go.RowKit
structure Vm (TT:List (List Rat)->Prop) (w:List (List Rat)) (b k k':Nat) (T1:List LR) (A1:LR) (T2:List LR) (A2:LR) (x y:Re):Prop where
 x:Nm TT w b k T1 A1 x
 y:Nm TT w b k' T2 A2 y
section
variable {TT:List (List Rat)->Prop} {w:List (List Rat)} {R b c M q p k k' l l':Nat} {T1 T2:List LR} {A1 A2:LR} {x y x' y':Re}
theorem Vm.mono (h:Vm TT w b k k' T1 A1 T2 A2 x y) (g:k<=l) (f:k'<=l'):Vm TT w b l l' T1 A1 T2 A2 x y:=⟨h.x.mono g,h.y.mono f⟩
theorem Lt (F:Fm TT w R b c M q p) (f:c<=M) {r:Rat} (h:Bd b [r]):Nm TT w b 1 [] (em [] (Re.ofRat r)) (Re.ofRat r):=by
 have G:=F.g f (Nat.le_refl c);exact⟨[],G.nil,rfl,rfl,FR r [],by rw[Nat.one_mul];exact El.rat (G.Af F.top).red h⟩
theorem JP {r:Rat} (h:CG r) (hb:64<=b:=by omega):Bd b [r]:=(Kw (a:=[r]) (fun z f=>by rw[List.mem_singleton.1 f];exact h)).mono hb
end
theorem RG {g:FuncId} {T1 T2 B C D F:List LR} {A1 A2 f h j o:LR} (H:CF g [.agg (Ab T1 A1),.agg (Ab B f)] (.AI [(true,(Ab D j)),(false,[.int .i64 0])])) (I:CF g [.agg (Ab T2 A2),.agg (Ab C h)] (.AI [(true,(Ab F o)),(false,[.int .i64 0])])):CF 202 [.agg (BI T1 A1 T2 A2),.agg (BI B f C h),.one (.fn g)] (.AI [(true,(BI D j F o)),(false,[.int .i64 0])]):=by
 refine AJ Tryz.func202 fun E G=>?_
 conv=>cbv
 refine AB G H ?_;conv=>cbv
 refine Ai ?_;conv=>cbv
 refine AB G I ?_;conv=>cbv
 refine Ai ?_;conv=>cbv
 exact AD ⟨⟨rfl,rfl,rfl,rfl,rfl,trivial⟩,t2,trivial⟩
theorem KQ {TT:List (List Rat)->Prop} {w:List (List Rat)} {R b c M q p k k' l l':Nat} (F:Fm TT w R b c M q p) {T1 T2 o B:List LR} {A1 A2 g h:LR} {x1 y1 x2 y2:Re} (C:Vm TT w b k k' T1 A1 T2 A2 x1 y1) (D:Vm TT w b l l' o g B h x2 y2) (W:k+c+1<=M:=by omega) (S:k'+c+1<=M:=by omega) (X:l+c+1<=M:=by omega) (U:l'+c+1<=M:=by omega):∃T A j f,Vm TT w b (k+l+1) (k'+l'+1) T A j f (x1-x2) (y1-y2)/\CF 89 [.agg (BI T1 A1 T2 A2),.agg (BI o g B h)] (.AI [(true,(BI T A j f)),(false,[.int .i64 0])]):=by
 obtain⟨I,G,N,K,_⟩:=OR F C.x D.x;obtain⟨J,H,O,L,_⟩:=OR F C.y D.y;refine⟨I,G,J,H,⟨N,O⟩,?_⟩;refine AJ Tryz.func89 fun E Q=>?_
 conv=>cbv
 refine AB Q (RG K L) ?_;conv=>cbv
 exact AD ⟨⟨rfl,rfl,rfl,rfl,rfl,trivial⟩,t2,trivial⟩
theorem fM {TT:List (List Rat)->Prop} {w:List (List Rat)} {R b c M q p k:Nat} (F:Fm TT w R b c M q p) {T1:List LR} {A1:LR} {n:Re} (j:Nm TT w b k T1 A1 n) (h:k+c+1<=M):CF 284 [.agg (Ab T1 A1)] (.agg (Ab T1 A1)):=by
 obtain⟨G,C,B,_⟩:=Jw F j h;obtain⟨o,D,f,_⟩:=Jw F C h;have e:o=A1:=Nm.data D j (by grind);rw[e] at f;refine AJ Tryz.func284 fun E g=>?_
 conv=>cbv
 refine AB g B ?_;conv=>cbv
 refine AB g f ?_;conv=>cbv
 exact AD ⟨t3,trivial⟩
theorem fF {TT:List (List Rat)->Prop} {w:List (List Rat)} {R b c M q p k k':Nat} (F:Fm TT w R b c M q p) {T1 T2:List LR} {A1 A2:LR} {x1 y1:Re} (g:Vm TT w b k k' T1 A1 T2 A2 x1 y1) (C:k+c+1<=M:=by omega) (f:k'+c+1<=M:=by omega):∃A,Vm TT w b k' k T2 A T1 A1 (-y1) x1/\CF 200 [.agg (BI T1 A1 T2 A2)] (.agg (BI T2 A T1 A1)):=by
 obtain⟨j,B,o,_⟩:=Jw F g.y f;refine⟨j,⟨B,g.x⟩,?_⟩;refine AJ Tryz.func200 fun E h=>?_
 conv=>cbv
 refine AB h o ?_;conv=>cbv
 refine AB h (fM F g.x C) ?_;conv=>cbv
 refine BC ?_;exact AD ⟨⟨rfl,rfl,rfl,rfl,rfl,trivial⟩,trivial⟩
theorem PO {TT:List (List Rat)->Prop} {w:List (List Rat)} {R b c M q p k k' l l':Nat} (F:Fm TT w R b c M q p) {T1 T2 h j:List LR} {A1 A2 f g:LR} {x1 y1 x2 y2:Re} (B:Vm TT w b k k' T1 A1 T2 A2 x1 y1) (C:Vm TT w b l l' h f j g x2 y2) (X:k+l+c+2<=M:=by omega) (O:k'+l'+c+2<=M:=by omega):∃T A,Nm TT w b (k+k'+l+l'+3) T A (x1*x2+y1*y2)/\CF 87 [.agg (BI T1 A1 T2 A2),.agg (BI h f j g)] (.AI [(true,(Ab T A)),(false,[.int .i64 0])]):=by
 obtain⟨U,Q,K,H,_⟩:=Ih F B.x C.x;obtain⟨W,S,L,I,_⟩:=Ih F B.y C.y;obtain⟨G,D,N,J,_⟩:=Hg F K L;refine⟨G,D,N.mono (by omega),?_⟩;refine AJ Tryz.func87 fun E o=>?_
 conv=>cbv
 refine AB o (RG H I) ?_;conv=>cbv
 refine Ai ?_;conv=>cbv
 refine AB o J ?_;conv=>cbv
 exact AD ⟨t3,t2,trivial⟩
theorem Vy {TT:List (List Rat)->Prop} {w:List (List Rat)} {R b c M q p k k' l l':Nat} (F:Fm TT w R b c M q p) {T1 T2 h j:List LR} {A1 A2 f g:LR} {x1 y1 x2 y2:Re} (K:Vm TT w b k k' T1 A1 T2 A2 x1 y1) (L:Vm TT w b l l' h f j g x2 y2) (O:k'+l+c+2<=M:=by omega) (J:k+l'+c+2<=M:=by omega):∃T A,Nm TT w b (k+k'+l+l'+3) T A (-y1*x2+x1*y2)/\CF 142 [.agg (BI T1 A1 T2 A2),.agg (BI h f j g)] (.AI [(true,(Ab T A)),(false,[.int .i64 0])]):=by
 obtain⟨N,H,D⟩:=fF F K;obtain⟨C,B,I,G⟩:=PO F H L;refine⟨C,B,I.mono (by omega),?_⟩;refine AJ Tryz.func142 fun E o=>?_
 conv=>cbv
 refine AB o D ?_;conv=>cbv
 refine AB o G ?_;conv=>cbv
 refine BC ?_;exact AD ⟨t3,t2,trivial⟩
theorem fG {TT:List (List Rat)->Prop} {w:List (List Rat)} {R b c M q p k k':Nat} (F:Fm TT w R b c M q p) {T1 T2:List LR} {A1 A2:LR} {x1 y1:Re} (f:Vm TT w b k k' T1 A1 T2 A2 x1 y1) (D:2*k+c+2<=M:=by omega) (C:2*k'+c+2<=M:=by omega):∃T A,Nm TT w b (2*k+2*k'+3) T A (x1*x1+y1*y1)/\CF 192 [.agg (BI T1 A1 T2 A2)] (.AI [(true,(Ab T A)),(false,[.int .i64 0])]):=by
 obtain⟨h,g,o,j⟩:=PO F f f;refine⟨h,g,o.mono (by omega),?_⟩;refine AJ Tryz.func192 fun E B=>?_
 conv=>cbv
 refine AB B j ?_;conv=>cbv
 exact AD ⟨t3,t2,trivial⟩
theorem Vz {TT:List (List Rat)->Prop} {w:List (List Rat)} {R b c M q p k k' l l':Nat} (F:Fm TT w R b c M q p) {T1 T2 C D:List LR} {A1 A2 o B:LR} {x1 y1 x2 y2:Re} (H:Vm TT w b k k' T1 A1 T2 A2 x1 y1) (I:Vm TT w b l l' C o D B x2 y2) (Q:2*k+4*c+3<=M) (N:2*k'+4*c+3<=M) (S:2*l+4*c+3<=M) (O:2*l'+4*c+3<=M) {e:Bool} (he:e=true↔x1=x2/\y1=y2):CF 147 [.agg (BI T1 A1 T2 A2),.agg (BI C o D B)] (.one (.bool e)):=by
 obtain⟨L,g,J,_⟩:=Lv F H.x I.x;obtain⟨K,f,j,_⟩:=Lv F H.y I.y;refine AJ Tryz.func147 fun E G=>?_
 conv=>cbv
 refine AB G J ?_;conv=>cbv
 cases L <;> conv=>cbv
 ·exact AD ⟨⟨rfl,congrArg _ (by cases e with | false=>rfl | true=>exact absurd (g.2 (he.1 rfl).1) (by simp)),trivial⟩,trivial⟩
 refine AB G j ?_;conv=>cbv
 exact AD ⟨⟨rfl,congrArg _ (by rw[Bool.eq_iff_iff,f,he];exact⟨fun h=>h.2,fun h=>⟨g.1 rfl,h⟩⟩),trivial⟩,trivial⟩
theorem MV {TT:List (List Rat)->Prop} {w:List (List Rat)} {R b c M q p k k' l l':Nat} (F:Fm TT w R b c M q p) {T1 T2 C D:List LR} {A1 A2 o B:LR} {x1 y1 x2 y2:Re} (H:Vm TT w b k k' T1 A1 T2 A2 x1 y1) (I:Vm TT w b l l' C o D B x2 y2) (Q:2*k+4*c+3<=M) (N:2*k'+4*c+3<=M) (S:2*l+4*c+3<=M) (O:2*l'+4*c+3<=M) {e:Bool} (he:e=true↔x1=x2/\y1=y2):CF 38 [.agg (BI T1 A1 T2 A2),.agg (BI C o D B)] (.one (.bool e)):=by
 obtain⟨L,g,_,J⟩:=Lv F H.x I.x;obtain⟨K,f,_,j⟩:=Lv F H.y I.y;refine AJ Tryz.func38 fun E G=>?_
 conv=>cbv
 refine AB G J ?_;conv=>cbv
 cases L <;> conv=>cbv
 ·exact AD ⟨⟨rfl,congrArg _ (by cases e with | false=>rfl | true=>exact absurd (g.2 (he.1 rfl).1) (by simp)),trivial⟩,trivial⟩
 refine AB G j ?_;conv=>cbv
 exact AD ⟨⟨rfl,congrArg _ (by rw[Bool.eq_iff_iff,f,he];exact⟨fun h=>h.2,fun h=>⟨g.1 rfl,h⟩⟩),trivial⟩,trivial⟩
theorem fQ {j o:Rat} {b1 c1 b2 c2:Bool} {l1 m1 l2 m2:List UInt32} (B:Ay j b1 l1 c1 m1) (C:Ay o b2 l2 c2 m2) {A1 A2:LR} (f:A1=em [] (Re.ofRat j)) (g:A2=em [] (Re.ofRat o)):CF 181 [.agg (BK b1 l1 c1 m1),.agg (BK b2 l2 c2 m2)] (.agg (BI [] A1 [] A2)):=by
 refine AJ Tryz.func181 fun E h=>?_
 conv=>cbv
 refine AB h (Kh B f) ?_;conv=>cbv
 refine AB h (Kh C g) ?_;conv=>cbv
 refine BC ?_;exact AD ⟨⟨rfl,rfl,rfl,rfl,rfl,trivial⟩,trivial⟩
theorem DX {x y:Int} {A1 A2:LR} (B: -9223372036854775808<=x/\x<9223372036854775808) (C: -9223372036854775808<=y/\y<9223372036854775808) (f:A1=em [] (Re.ofRat x)) (g:A2=em [] (Re.ofRat y)):CF 59 [.one (.int .i64 x),.one (.int .i64 y)] (.agg (BI [] A1 [] A2)):=by
 refine AJ Tryz.func59 fun E h=>?_
 conv=>cbv
 obtain⟨b1,l1,c1,m1,j⟩:=BP (x:Rat);refine AB h (D1 B rfl j) ?_;conv=>cbv
 obtain⟨b2,l2,c2,m2,o⟩:=BP (y:Rat);refine AB h (D1 C rfl o) ?_;conv=>cbv
 refine AB h (fQ j o f g) ?_;conv=>cbv
 exact AD ⟨⟨rfl,rfl,rfl,rfl,rfl,trivial⟩,trivial⟩
theorem WE:CF 146 [.one (.int .i64 0),.one (.int .i64 0)] (.one (.int .i64 0)):=by
 refine AJ Tryz.func146 fun E f=>?_
 conv=>cbv
 refine Ai ?_;conv=>cbv
 exact AD ⟨t2,trivial⟩
theorem WH {T1 T2:List LR} {A1 A2:LR}:CF 145 [.agg (Ab T1 A1),.agg (Ab T2 A2),.one (.int .i64 0)] (.AI [(true,(BI T1 A1 T2 A2)),(false,[.int .i64 0])]):=by
 refine AJ Tryz.func145 fun E f=>?_
 conv=>cbv
 refine Ai ?_;conv=>cbv
 exact AD ⟨⟨rfl,rfl,rfl,rfl,rfl,trivial⟩,t2,trivial⟩
theorem PV {TT:List (List Rat)->Prop} {w:List (List Rat)} {R b c M q p k k' l l':Nat} (F:Fm TT w R b c M q p) {T1 T2 B C:List LR} {A1 A2 h j:LR} {x1 y1 x2 y2:Re} (D:Vm TT w b k k' T1 A1 T2 A2 x1 y1) (G:Vm TT w b l l' B h C j x2 y2) (W:k+c+1<=M:=by omega) (S:k'+c+1<=M:=by omega) (X:l+c+1<=M:=by omega) (U:l'+c+1<=M:=by omega):∃T A o g,Vm TT w b (k+l+1) (k'+l'+1) T A o g (x1+x2) (y1+y2)/\CF 41 [.agg (BI T1 A1 T2 A2),.agg (BI B h C j)] (.AI [(true,(BI T A o g)),(false,[.int .i64 0])]):=by
 obtain⟨J,H,O,_,L⟩:=Hg F D.x G.x;obtain⟨K,I,Q,_,N⟩:=Hg F D.y G.y;refine⟨J,H,K,I,⟨O,Q⟩,?_⟩;refine AJ Tryz.func41 fun E f=>?_
 conv=>cbv
 refine AB f L ?_;conv=>cbv
 refine AB f N ?_;conv=>cbv
 refine AB f WE ?_;conv=>cbv
 refine AB f WH ?_;conv=>cbv
 refine BC ?_;exact AD ⟨⟨rfl,rfl,rfl,rfl,rfl,trivial⟩,t2,trivial⟩
theorem fZ {TT:List (List Rat)->Prop} {w:List (List Rat)} {R b c M q p k k' j:Nat} (F:Fm TT w R b c M q p) {T1 T2 B:List LR} {A1 A2 h:LR} {x1 y1 n:Re} (D:Vm TT w b k k' T1 A1 T2 A2 x1 y1) (C:Nm TT w b j B h n) (S:k+c+1<=M:=by omega) (Q:k'+c+1<=M:=by omega) (U:j+c+1<=M:=by omega):∃T A o g,Vm TT w b (k+j+1) (k'+j+1) T A o g (x1*n) (y1*n)/\CF 143 [.agg (BI T1 A1 T2 A2),.agg (Ab B h)] (.AI [(true,(BI T A o g)),(false,[.int .i64 0])]):=by
 obtain⟨I,G,N,_,K⟩:=Ih F D.x C;obtain⟨J,H,O,_,L⟩:=Ih F D.y C;refine⟨I,G,J,H,⟨N,O⟩,?_⟩;refine AJ Tryz.func143 fun E f=>?_
 conv=>cbv
 refine AB f K ?_;conv=>cbv
 refine AB f L ?_;conv=>cbv
 refine AB f WE ?_;conv=>cbv
 refine AB f WH ?_;conv=>cbv
 refine BC ?_;exact AD ⟨⟨rfl,rfl,rfl,rfl,rfl,trivial⟩,t2,trivial⟩
theorem fV {TT:List (List Rat)->Prop} {w:List (List Rat)} {R b c M q p k k':Nat} (F:Fm TT w R b c M q p) {T1 T2:List LR} {A1 A2:LR} {x1 y1:Re} (j:Vm TT w b k k' T1 A1 T2 A2 x1 y1) (I:k+c+1<=M:=by omega) (f:k'+c+1<=M:=by omega):∃A g,Vm TT w b k k' T1 A T2 g (-x1) (-y1)/\CF 144 [.agg (BI T1 A1 T2 A2)] (.agg (BI T1 A T2 g)):=by
 obtain⟨o,G,_,C⟩:=Jw F j.x I;obtain⟨B,H,_,D⟩:=Jw F j.y f;refine⟨o,B,⟨G,H⟩,?_⟩;refine AJ Tryz.func144 fun E h=>?_
 conv=>cbv
 refine AB h C ?_;conv=>cbv
 refine AB h D ?_;conv=>cbv
 refine BC ?_;exact AD ⟨⟨rfl,rfl,rfl,rfl,rfl,trivial⟩,trivial⟩
theorem ff {TT:List (List Rat)->Prop} {w:List (List Rat)} {R b c M q p k k' l l':Nat} (F:Fm TT w R b c M q p) {T1 T2 o B:List LR} {A1 A2 g h:LR} {x1 y1 x2 y2:Re} (S:Vm TT w b k k' T1 A1 T2 A2 x1 y1) (U:Vm TT w b l l' o g B h x2 y2) (Y:k+c+1<=M:=by omega) (O:k'+c+1<=M:=by omega) (Z:l+c+1<=M:=by omega) (Q:l'+c+1<=M:=by omega):∃T A j f,Vm TT w b (k+l+1) (k'+l'+1) T A j f (x1+ -x2) (y1+ -y2)/\CF 40 [.agg (BI T1 A1 T2 A2),.agg (BI o g B h)] (.AI [(true,(BI T A j f)),(false,[.int .i64 0])]):=by
 obtain⟨W,X,N,K⟩:=fV F U;obtain⟨H,D,I,G,L,J⟩:=PV F S N;refine⟨H,D,I,G,L,?_⟩;refine AJ Tryz.func40 fun E C=>?_
 conv=>cbv
 refine AB C K ?_;conv=>cbv
 refine AB C J ?_;conv=>cbv
 refine BC ?_;exact AD ⟨⟨rfl,rfl,rfl,rfl,rfl,trivial⟩,t2,trivial⟩
theorem fU {TT:List (List Rat)->Prop} {w:List (List Rat)} {R b c M q p k k' l l':Nat} (F:Fm TT w R b c M q p) {T1 T2 C D:List LR} {A1 A2 j o:LR} {x1 y1 x2 y2:Re} (X:Vm TT w b k k' T1 A1 T2 A2 x1 y1) (Y:Vm TT w b l l' C j D o x2 y2) (hk:k+l+c+2<=M) (W:k'+l'+c+2<=M):∃T A B h,Vm TT w b (k+l+3) (k'+l'+3) T A B h ((x1+x2)*Re.ofRat (1/2)) ((y1+y2)*Re.ofRat (1/2))/\CF 39 [.agg (BI T1 A1 T2 A2),.agg (BI C j D o)] (.AI [(true,(BI T A B h)),(false,[.int .i64 0])]):=by
 obtain⟨fb,fl,fc,fm,hf⟩:=BP (1/2:Rat);have U:(1/2:Rat)=Rat.divInt 1 2:=by decide +kernel
 obtain⟨I,f⟩:=CB (em [] (Re.ofRat (1/2)));have Q:Nm TT w b 1 [] I (Re.ofRat (1/2)):=f ▸ Lt F (by omega) (JP (by decide +kernel) F.hb);obtain⟨T8,Z,T9,A9,S,N⟩:=PV F X Y;obtain⟨J,G,K,H,O,L⟩:=fZ F S Q;refine⟨J,G,K,H,O.mono (by omega) (by omega),?_⟩;refine AJ Tryz.func39 fun E g=>?_
 conv=>cbv
 refine AB g N ?_;conv=>cbv
 refine Ai ?_;conv=>cbv
 refine AB g (Mm (by decide) (by decide) (by decide) U f) ?_;conv=>cbv
 refine AB g L ?_;conv=>cbv
 refine BC ?_;exact AD ⟨⟨rfl,rfl,rfl,rfl,rfl,trivial⟩,t2,trivial⟩
end Go.Abs
namespace Go.Abs
section
variable {α:Type} [Lean.Grind.CommRing α]
def Cj:Nat->(Nat->α)->α
 | 0,_=>0
 | n+1,f=>Cj n f+f n
theorem MK {f g:Nat->α}:∀{n:Nat},(∀i,i<n->f i=g i)->Cj n f=Cj n g
 | 0,_=>rfl
 | n+1,h=>by rw[Cj,Cj,MK (n:=n) (fun i j=>h i (by omega)),h n (by omega)]
theorem VL (f:Nat->α) (m:Nat):∀n,Cj (m+n) f=Cj m f+Cj n (fun i=>f (m+i))
 | 0=>by rw[Cj,Nat.add_zero];grind
 | n+1=>by rw[<-Nat.add_assoc,Cj,Cj,VL f m n];grind
theorem VM (c:α) (f:Nat->α):∀n,c*Cj n f=Cj n (fun i=>c*f i)
 | 0=>by rw[Cj,Cj];grind
 | n+1=>by rw[Cj,Cj,<-VM c f n];grind
theorem VN:∀n,Cj n (fun _=>(0:α))=0
 | 0=>rfl
 | n+1=>by rw[Cj,VN n];grind
end
noncomputable def cf (u:List (List Rat)) (x:Re) (i:Nat):Rat:=(co u x).getD i 0
section
variable {u w:List (List Rat)} {x y:Re}
theorem Y6 (h:AS u) (f:In u x) (g:In u y) (i:Nat):cf u (x+y) i=cf u x i+cf u y i:=by
 unfold cf;rw[JZ h f g];have l1:=B6 f;have l2:=B6 g;simp only[List.getD_eq_getElem?_getD,List.getElem?_zipWith]
 by_cases j:i<2^u.length
 ·rw[List.getElem?_eq_getElem (by omega:i<(co u x).length),List.getElem?_eq_getElem (by omega:i<(co u y).length)];rfl
 rw[List.getElem?_eq_none (by omega:(co u x).length<=i),List.getElem?_eq_none (by omega:(co u y).length<=i)]
 show (0:Rat)=0+0
 grind
theorem Y7 (h:AS u) (f:In u x) (c:Rat) (i:Nat):cf u (Re.ofRat c*x) i=c*cf u x i:=by
 unfold cf;rw[NN h f];simp only[List.getD_eq_getElem?_getD,List.getElem?_map];cases (co u x)[i]? with
 | none=>show (0:Rat)=c*0;grind
 | some q=>rfl
theorem Y8 (h:AS u) (i:Nat):cf u 0 i=0:=by
 have:=Y7 h (Bl u) 0 i;rw[show Re.ofRat 0*0=(0:Re) by grind] at this;rw[this];grind
theorem HW {r:List Rat} {p q:Re} (h:AS (r::u)) (f:In u p) (j:In u q) (e:x=p+q*rt u r) {i:Nat} (g:i<2^u.length):cf (r::u) x i=cf u p i:=by
 unfold cf;rw[CZ h f j e,List.getD_eq_getElem?_getD,List.getD_eq_getElem?_getD,List.getElem?_append_left (by rw[B6 f];exact g)]
theorem HV {r:List Rat} {p q:Re} (h:AS (r::u)) (f:In u p) (g:In u q) (e:x=p+q*rt u r) (i:Nat):cf (r::u) x (2^u.length+i)=cf u q i:=by
 unfold cf;rw[CZ h f g e,List.getD_eq_getElem?_getD,List.getD_eq_getElem?_getD,List.getElem?_append_right (by rw[B6 f];omega),B6 f,Nat.add_sub_cancel_left]
noncomputable def bb:List (List Rat)->Nat->Re
 | [],_=>1
 | r::u,i=>if i<2^u.length then bb u i else bb u (i-2^u.length)*rt u r
theorem Yg {r:List Rat} {i:Nat} (f:i<2^u.length):bb (r::u) i=bb u i:=if_pos f
theorem Yf {r:List Rat} (i:Nat):bb (r::u) (2^u.length+i)=bb u i*rt u r:=by
 rw[bb,if_neg (by omega),Nat.add_sub_cancel_left]
theorem expand:∀{u:List (List Rat)} {x:Re},AS u->In u x->x=Cj (2^u.length) (fun i=>Re.ofRat (cf u x i)*bb u i)
 | [],x,h,C=>by
  obtain⟨q,rfl⟩:=Bv.1 C
  show _=Cj 1 _
  rw[Cj,Cj]
  show _=0+Re.ofRat (cf [] (Re.ofRat q) 0)*1
  rw[cf,Cp]
  show _=0+Re.ofRat q*1
  grind
 | r::u,x,h,C=>by
  obtain⟨p,q,o,B,e⟩:=By.1 C
  rw[BM,VL,MK (g:=fun i=>Re.ofRat (cf u p i)*bb u i) (fun i j=>by rw[HW h o B e j,Yg j]),
   MK (f:=fun i=>Re.ofRat (cf (r::u) x (2^u.length+i))*bb (r::u) (2^u.length+i)) (g:=fun i=>rt u r*(Re.ofRat (cf u q i)*bb u i)) (fun i j=>by rw[HV h o B e,Yf];grind),<-VM,<-expand h.1 o,<-expand h.1 B,e]
  grind
noncomputable def tr (u:List (List Rat)) (x:Re):Rat:=Cj (2^u.length) (fun i=>cf u (x*bb u i) i)
end
end Go.Abs
namespace Go.Abs
structure Ml (w:List (List Rat)) (E:Nat):Prop where
 dn:∃K:Nat,0<K/\K<=2^E/\∀{x y:Re} {D D':Nat},In w x->In w y->DN D (co w x)->DN D' (co w y)->DN (D*D'*K) (co w (x*y))
 mx:∀{x y:Re} {B C:Nat},In w x->In w y->MX B (co w x)->MX C (co w y)->MX (B*C*2^E) (co w (x*y))
section
variable {u:List (List Rat)} {r:List Rat} {E R s t:Nat} {x y:Re}
end
end Go.Abs
namespace Go.Abs
def Rb (w:List (List Rat)):List (List Rat)->Nat->Prop
 | [],k=>k=0
 | r::u,k=>∃k1 k2,k=k1+k2/\Rb w u k1/\∃y,y*rt u r=1/\Bd k2 (co w y)
end Go.Abs
namespace Go.Abs
structure Wv (w:List (List Rat)) (σ κ ν:Nat) (v:Re):Prop where
 root:In w (Re.sqrt v)
 rb:Bd σ (co w (Re.sqrt v))
 inv:∃y,y*Re.sqrt v=1/\Bd κ (co w y)
 vb:Bd ν (co w v)
section
variable {w u:List (List Rat)} {E σ κ ν m:Nat}
end
end Go.Abs
namespace Go.Abs
def Dp:List (List Rat)->Nat->Re->Prop
 | [],_,_=>False
 | r::t,i,v=>(i<2^t.length/\Dp t i v)\/(2^t.length<=i/\(v=AM t r\/Dp t (i-2^t.length) v))
variable {i:Nat} {r:List Rat} {t u:List (List Rat)} {v x:Re}
theorem Nn:∀{t:List (List Rat)} {i:Nat} {v:Re},Dp t i v->v∈Aq t
 | r::t,i,v,h=>by
  rw[Aq];rcases h with⟨_,h⟩ |⟨_,h | h⟩
  ·exact List.mem_cons_of_mem _ (Nn h)
  ·exact h ▸ List.mem_cons_self
  exact List.mem_cons_of_mem _ (Nn h)
theorem F0 (f:i<2^t.length):Dp (r::t) i v↔Dp t i v:=
 ⟨fun h=>h.elim (·.2) fun h=>absurd h.1 (by omega),fun h=> .inl ⟨f,h⟩⟩
theorem Fz:Dp (r::t) (2^t.length+i) v↔v=AM t r\/Dp t i v:=
 ⟨fun h=>h.elim (fun h=>absurd h.1 (by omega)) fun h=>by have:=h.2;rwa [Nat.add_sub_cancel_left] at this,fun h=> .inr ⟨by omega,by rwa [Nat.add_sub_cancel_left]⟩⟩
theorem fg (h:AS u) (o:In u x) (f:∀i,i<2^u.length->cf u x i=0):x=0:=by
 rw[expand h o,MK (g:=fun _=>(0:Re)) (fun i j=>by rw[f i j,show Re.ofRat 0=(0:Re) from rfl];grind)];exact VN _
theorem OE:∀{t:List (List Rat)} {v y:Re},AS t->v∈Aq t->In t y->(∀i,i<2^t.length->Dp t i v->cf t y i=0)->
  ∀i,i<2^t.length->(Dp t i v->∃j,j<2^t.length/\¬Dp t j v/\cf t (y*Re.sqrt v) i=cf t y j/\∀I,I≠v->Dp t i I->Dp t j I)/\(¬Dp t i v->cf t (y*Re.sqrt v) i=0)
 | r::t,v,y,h,Z,hy,S,i,Y=>by
  obtain⟨p,q,C,G,e⟩:=By.1 hy;have Q:=HJ h;rw[Aq,List.nodup_cons] at Q;rw[BM] at S Y
  by_cases g:v=AM t r
  ·have W:∀{j},¬Dp t j v:=fun {j} o=>Q.1 (g ▸ Nn o)
   have U:q=0:=fg h.1 G fun j o=>by
    rw[<-HV h C G e j];exact S _ (by omega) (Fz.2 (.inl g))
   have J:y*Re.sqrt v=0+p*rt t r:=by
    show _=0+p*Re.sqrt (AM t r)
    rw[e,U,g];grind
   by_cases D:i<2^t.length
   ·exact⟨fun f=>absurd ((F0 D).1 f) W,fun _=>by rw[HW h (Bl t) C J D,Y8 h.1]⟩
   obtain⟨j,rfl⟩:∃j,i=2^t.length+j:=⟨i-2^t.length,by omega⟩
   have o:j<2^t.length:=by omega
   refine⟨fun _=>⟨j,by rw[BM];omega,fun f=>W ((F0 o).1 f),?_,fun I B f=>?_⟩,fun f=>absurd (Fz.2 (.inl g)) f⟩
   ·rw[HV h (Bl t) C J,HW h C G e o]
   rcases Fz.1 f with K | K
   ·exact absurd (K.trans g.symm) B
   exact (F0 o).2 K
  have O:v∈Aq t:=(List.mem_cons.1 (by rwa [Aq] at Z)).resolve_left g;have X:In t (Re.sqrt v):=I7 O;have J:y*Re.sqrt v=p*Re.sqrt v+q*Re.sqrt v*rt t r:=by rw[e];grind
  have F:=Ag h.1 C X;have H:=Ag h.1 G X
  by_cases D:i<2^t.length
  ·obtain⟨k1,k2⟩:=OE h.1 O C (fun j o f=>by rw[<-HW h C G e o];exact S j (by omega) ((F0 o).2 f)) i D;refine⟨fun f=>?_,fun f=>?_⟩
   ·obtain⟨j,o,a,b,c⟩:=k1 ((F0 D).1 f);exact⟨j,by rw[BM];omega,fun f=>a ((F0 o).1 f),by rw[HW h F H J D,b,HW h C G e o],fun I B N=>(F0 o).2 (c I B ((F0 D).1 N))⟩
   rw[HW h F H J D];exact k2 fun L=>f ((F0 D).2 L)
  obtain⟨i,rfl⟩:∃j,i=2^t.length+j:=⟨i-2^t.length,by omega⟩
  obtain⟨k1,k2⟩:=OE h.1 O G (fun j o f=>by rw[<-HV h C G e j];exact S _ (by omega) (Fz.2 (.inr f))) i (by omega);refine⟨fun f=>?_,fun f=>?_⟩
  ·obtain⟨j,o,a,b,c⟩:=k1 ((Fz.1 f).resolve_left g);refine⟨2^t.length+j,by rw[BM];omega,fun f=>(Fz.1 f).elim g a,by rw[HV h F H J,b,HV h C G e],fun I B N=>?_⟩;rcases Fz.1 N with K | K
   ·exact Fz.2 (.inl K)
   exact Fz.2 (.inr (c I B K))
  rw[HV h F H J];exact k2 fun L=>f (Fz.2 (.inr L))
theorem NX (ht:AS t):∀{u:List (List Rat)},(∀v∈Aq u,v∈Aq t)->BA u t
 | [],_=>Je t
 | r::u,h=>IH ht (NX ht fun v f=>h v (by rw[Aq];exact List.mem_cons_of_mem _ f)) (I7 (h _ (by rw[Aq];exact List.mem_cons_self)))
theorem NM (ht:AS t):∀{u:List (List Rat)} {x:Re},AS u->(∀v∈Aq u,v∈Aq t)->In u x->∀i,i<2^t.length->(cf t x i=0\/cf t x i∈co u x)/\(cf t x i≠0->∀v,Dp t i v->v∈Aq u)
 | [],x,_,_,N,i,o=>by
  obtain⟨q,rfl⟩:=Bv.1 N
  have e:cf t (Re.ofRat q) i=if i=0 then q else 0:=by
   rw[cf,IB q ht,List.getD_eq_getElem?_getD];cases i with
   | zero=>rfl
   | succ i=>
    rw[if_neg (by omega),List.getElem?_cons_succ,List.getElem?_replicate]
    split <;> rfl
  have U:∀{t:List (List Rat)} {v:Re},¬Dp t 0 v:=fun {t v}=>by
   induction t with
   | nil=>exact id
   | cons r t Y=>exact fun h=>Y ((F0 (Cu _)).1 h)
  rw[e]
  split
  ·rename_i h;subst h
   exact⟨.inr (by rw[Cp];exact List.mem_cons_self),fun _ v B=>absurd B U⟩
  exact⟨.inl rfl,fun h=>absurd rfl h⟩
 | r::u,x,hu,hV,N,i,o=>by
  obtain⟨p,q,L,H,e⟩:=By.1 N;have D:=HJ hu;rw[Aq,List.nodup_cons] at D;rw[Aq] at hV ⊢;have g:∀v∈Aq u,v∈Aq t:=fun v B=>hV v (List.mem_cons_of_mem _ B)
  have I:=NX ht g;have G:=hV _ List.mem_cons_self;have J:=NM ht hu.1 g L;have K:=NM ht hu.1 g H
  have S:∀{y:Re},(∀i,i<2^t.length->(cf t y i=0\/cf t y i∈co u y)/\(cf t y i≠0->∀v,Dp t i v->v∈Aq u))->∀i,i<2^t.length->Dp t i (AM u r)->cf t y i=0:=fun X i o C=>
   Classical.byContradiction fun f=>D.1 ((X i o).2 f _ C)
  obtain⟨k1,k2⟩:=OE ht G (I _ H) (S K) i o;have W:In t (rt u r):=I7 G
  have O:cf t x i=cf t p i+cf t (q*Re.sqrt (AM u r)) i:=by
   rw[show x=p+q*Re.sqrt (AM u r) from e];exact Y6 ht (I _ L) (Ag ht (I _ H) W) i
  rw[CZ hu L H e]
  by_cases C:Dp t i (AM u r)
  ·obtain⟨j,Q,a,b,c⟩:=k1 C;rw[O,S J i o C,b,show (0:Rat)+cf t q j=cf t q j by grind];refine⟨(K j Q).1.imp id fun h=>List.mem_append_right _ h,fun f v B=>?_⟩
   by_cases F:v=AM u r
   ·exact F ▸ List.mem_cons_self
   exact List.mem_cons_of_mem _ ((K j Q).2 f v (c v F B))
  rw[O,k2 C,show cf t p i+(0:Rat)=cf t p i by grind];exact⟨(J i o).1.imp id fun h=>List.mem_append_left _ h,fun f v B=>List.mem_cons_of_mem _ ((J i o).2 f v B)⟩
theorem Q5 {k:Nat} (ht:AS t) (hu:AS u) (hV:∀v∈Aq u,v∈Aq t) (o:In u x) (h:Bd k (co u x)):Bd k (co t x):=by
 obtain⟨D,d1,d2,d3,d4⟩:=h;have g:=NX ht hV _ o
 have key:∀q∈co t x,q=0\/q∈co u x:=fun q f=>by
  obtain⟨i,j,rfl⟩:=List.mem_iff_getElem.1 f;have B:cf t x i=(co t x)[i]:=by rw[cf,List.getD_eq_getElem?_getD,List.getElem?_eq_getElem j];rfl
  rw[<-B];exact (NM ht hu hV o i (by rw[<-B6 g];exact j)).1
 refine⟨D,d1,d2,fun q f=>?_,fun q f=>?_⟩
 ·rcases key q f with rfl | h
  ·exact⟨0,by grind⟩
  exact d3 q h
 rcases key q f with rfl | h
 ·have:(0:Rat)<=((2^k:Nat):Rat):=Rat.natCast_nonneg
  constructor <;> grind
 exact d4 q h
end Go.Abs
namespace Go.Abs
section
variable {P:List (List Rat)->Prop} {R0:Nat}
theorem Tf.tb2 (I:DO P R0) {V:List Re} (hV:∀{u},P u->∀v∈Go.Abs.Aq u,v∈V) (h3:V.length<=3) {u:List (List Rat)} (h:Tf P u):(u.length<=1->TB R0 u)/\TB (R0+CC 1 R0 1 R0) u:=by
 induction h with
 | nil=>exact⟨fun _ r g=>absurd g (by simp),fun r g=>absurd g (by simp)⟩
 | @Ax u N j ht H o L=>
  by_cases Q:Sq u (AM j N)
  ·rw[Ec Q];exact L
  have f:=I.red H;have hu:=ht.red I;have B:=Bt f;have hb:Bd R0 (co j (AM j N)):=by rw[Ev f];exact (I.tb H).head
  rw[Ed Q]
  by_cases Z:∀v∈Go.Abs.Aq j,v∈Go.Abs.Aq u
  ·have O:=Q5 hu f.1 Z B hb;refine⟨fun U r g=>?_,fun r g=>?_⟩
   ·rw[List.length_cons] at U;rcases List.mem_cons.1 g with rfl | g
    ·exact O
    exact L.1 (by omega) r g
   rcases List.mem_cons.1 g with rfl | g
   ·exact O.mono (by omega)
   exact L.2 r g
  obtain⟨v,hv⟩:=Classical.not_forall.1 Z;obtain⟨G,Y⟩:=Classical.not_imp.1 hv;have F:In u (Re.sqrt v):=o _ (I7 G);have W:AM j N≠v:=fun e=>Q ((KK (by have:=f.2.2.1;grind)).2 (e ▸ F))
  have D:=HJ (UY hu (o _ B) f.2.2.1 Q);rw[Go.Abs.Aq,Dk (o _ B),List.nodup_cons] at D
  have hle:=Ig (l:=AM j N::v::Go.Abs.Aq u) (m:=V) (by
   rw[List.nodup_cons,List.nodup_cons];refine⟨fun hm=>?_,Y,D.2⟩;rcases List.mem_cons.1 hm with e | hm
   ·exact W e
   ·exact D.1 hm) (fun x K=>by
   rcases List.mem_cons.1 K with rfl | K
   ·exact hV H _ (by rw[Go.Abs.Aq];exact List.mem_cons_self)
   rcases List.mem_cons.1 K with rfl | K
   ·exact hV (I.sub H) _ G
   exact ht.Aq I hV x K)
  rw[List.length_cons,List.length_cons,I6] at hle;have C:=Ig (HJ f) (hV H);rw[I6,List.length_cons] at C
  have J:u≠[]:=fun e=>by
   subst e;have:=Om f.1 o;subst this;simp[Go.Abs.Aq] at G
  have X:u.length=1:=by
   have:0<u.length:=List.length_pos_iff.2 J;omega
  have hk:j.length<=1:=by
   match u,X,hu,o with
   | [s],_,hu,o=>
    match j,f.1,o,C with
    | [],_,_,_=>exact Nat.zero_le _
    | [q],_,_,_=>exact Nat.le_refl 1
    | [q,r],h0,o,_=>exact (UX h0 hu o).elim
    | _::_::_::_,_,_,C=>simp only[List.length_cons] at C;omega
  have S:El j R0 (AM j N):=⟨B,hb⟩;have O:=(S.BQ hu (L.1 (by omega)) f.1 (I.tb H).tail o).bd;have h2:=I9 (k:=j.length) (k':=1) (R0:=R0) (HP:=R0) (h:=u.length) (h':=1) (R:=R0) (R':=R0) hk (Nat.le_refl _) (by omega) (Nat.le_refl _);refine⟨fun U=>absurd U (by rw[List.length_cons];omega),fun r g=>?_⟩;rcases List.mem_cons.1 g with rfl | g
  ·exact O.mono (by omega)
  exact L.2 r g
end
end Go.Abs
namespace Go.Abs
abbrev Rn:Nat:=1540
abbrev Cn:Nat:=874000
end Go.Abs
namespace Go.Abs
section
variable {P:List (List Rat)->Prop} {V:List Re}
theorem Tf.KL (I:DO P 256) (hV:∀{u},P u->∀v∈Go.Abs.Aq u,v∈V) (h3:V.length<=3) {u:List (List Rat)} (h:Tf P u):TB Rn u:=(h.tb2 I hV h3).2.mono (by decide +kernel)
abbrev Ce:Nat:=226506
theorem Tf.SC (I:DO P 256) (hV:∀{u},P u->∀v∈Go.Abs.Aq u,v∈V) (h3:V.length<=3) {u w:List (List Rat)} {s:Nat} {x:Re} (hu:Tf P u) (hw:Tf P w) (g:BA u w) (f:El u s x):El w (s+Ce) x:=by
 by_cases j:w.length<=2
 ·refine (f.BQ (hw.red I) (hw.KL I hV h3) (hu.red I) (hu.KL I hV h3) g).mono ?_;have:=I9 (k:=u.length) (k':=3) (R0:=Rn) (HP:=Rn) (h:=w.length) (h':=2) (R:=Rn) (R':=Rn) (Nat.le_trans (hu.len I hV) h3) (Nat.le_refl _) j (Nat.le_refl _);have C:CC 3 Rn 2 Rn=Ce:=by decide +kernel
  omega
 refine⟨g _ f.mem,(Q5 (hw.red I) (hu.red I) (fun v B=>Classical.byContradiction fun o=>?_) f.mem f.bd).mono (Nat.le_add_right _ _)⟩
 have:=Ig (l:=v::Go.Abs.Aq w) (m:=V) (List.nodup_cons.2 ⟨o,HJ (hw.red I)⟩) (fun x f=>by
  rcases List.mem_cons.1 f with rfl | f
  ·exact hu.Aq I hV _ B
  exact hw.Aq I hV x f)
 rw[List.length_cons,I6] at this;omega
end
end Go.Abs
namespace Go.Abs
def P4 (P:List (List Rat)->Prop) (n:Re) (u:List (List Rat)):Prop:=P u\/∃u0,Tf P u0/\In u0 n/\u<:+Ax u0 n
abbrev R4:Nat:=1920500
abbrev E4:Nat:=1942090
abbrev Rf:Nat:=150420000
section
variable {P:List (List Rat)->Prop} {V:List Re} {w:List (List Rat)} {n:Re}
end
end Go.Abs
namespace Go.Abs
abbrev Cf:Nat:=214500000
abbrev Mf:Nat:=156000000000
theorem Zg:∀h,h<=4->Fit h Rf (Mf+Cf)
 |0,_|1,_|2,_|3,_|4,_=>⟨by decide +kernel,by decide +kernel,by decide +kernel,by decide +kernel⟩
 | _+5,h=>absurd h (by omega)
theorem Ze:∀h,h<=4->De h Rf (Mf+Cf)
 |0,_|1,_|2,_|3,_|4,_=>⟨by decide +kernel,by decide +kernel,by decide +kernel,by decide +kernel⟩
 | _+5,h=>absurd h (by omega)
theorem a7:2*(Mf+Cf)+EE 4 Rf<=60000000000000:=by decide +kernel
theorem Z3:II 4 Rf Mf<=60000000000000:=by decide +kernel
theorem Zo {P:List (List Rat)->Prop} {R0 S:Nat} (I:DO P R0) (B:∀{u},Tf P u->TB Rf u) (f:∀{u},Tf P u->u.length<=4) (j:∀{u w s x},Tf P u->Tf P w->BA u w->El u s x->El w (s+Cf) x) (o:Rf<=S) (g:S<=Mf):Cg (Tf P) Rf Cf S where
 Af:=fun {u} h=>⟨h.red I,B h,by decide,by have:=f h;omega⟩
 ht:=fun {u} h=>by have:=f h;omega
 nil:= .nil
 sub:=fun {r u} h=>h.sub I
 Ax:=fun {t r u} ht h j=>ht.Qj I h j
 BQ:=j
 fit:=fun {u} h=>(Zg _ (f h)).mono (Nat.add_le_add_right g Cf)
 mul:=fun {u} h=>Nat.le_trans (Nat.add_le_add (Nat.mul_le_mul_left 2 (Nat.add_le_add_right g Cf)) (HK (h:=u.length) (h':=4) (R:=Rf) (R':=Rf) (f h) (Nat.le_refl _))) a7
 RS:=o
 Jg:=fun {u} h=>(Ze _ (f h)).mono (Nat.add_le_add_right g Cf)
section
variable {P:List (List Rat)->Prop} {V:List Re} {w:List (List Rat)} {n:Re}
theorem Zn (I:DO P 256) (hV:∀{u},P u->∀v∈Go.Abs.Aq u,v∈V) (h3:V.length<=3) {S:Nat} (f:Rf<=S) (g:S<=Mf):Cg (Tf P) Rf Cf S:=by
 refine Zo I (fun {u} h=>(h.KL I hV h3).mono (by decide)) (fun h=>Nat.le_trans (h.len I hV) (by omega)) (fun {u v s x} hu o j B=>(Tf.SC I hV h3 hu o j B).mono ?_) f g
 show s+226506<=s+214500000
 omega
end
end Go.Abs
namespace Go.Abs
open Go.RowKit
abbrev Ve:=Nu×Nu
noncomputable def vm (p:Ve):el BL:=(nm p.1,nm p.2)
noncomputable def Eo (ns:List Nu) (W:List UInt8):List Ve:=(List.range (W.length/2)).map fun i=>(Bw ns (W.getD (2*i) 0).toNat,Bw ns (W.getD (2*i+1) 0).toNat)
theorem cV (ns:List Nu) (W:List UInt8):(Eo ns W).length=W.length/2:=by rw[Eo,List.length_map,List.length_range]
theorem V6 {W:List UInt8} {i:Nat} {x:UInt8} (h:W[i]? =some x):W.getD i 0=x:=by rw[List.getD_eq_getElem?_getD,h];rfl
theorem UL {ns:List Nu} {W:List UInt8} {i:Nat} {x y:UInt8} (g:W[2*i]? =some x) (f:W[2*i+1]? =some y):(Eo ns W).take (i+1)=(Eo ns W).take i++[(Bw ns x.toNat,Bw ns y.toNat)]:=by
 have j:=GS f
 have h:(Eo ns W)[i]? =some (Bw ns x.toNat,Bw ns y.toNat):=by
  rw[Eo,List.getElem?_map,List.getElem?_range (by omega)]
  show some (Bw ns (W.getD (2*i) 0).toNat,Bw ns (W.getD (2*i+1) 0).toNat)=_
  rw[V6 g,V6 f]
 exact CE h
theorem SP (ns:List Nu) (i:Nat):Bw ns i∈ns\/Bw ns i=GB:=by
 by_cases h:ns=[]
 ·right;subst h;rfl
 exact .inl (Ni h i)
theorem cW {ns:List Nu} {W:List UInt8} {p:Ve} (h:p∈Eo ns W):(p.1∈ns\/p.1=GB)/\(p.2∈ns\/p.2=GB):=by
 obtain⟨i,_,rfl⟩:=List.mem_map.1 h;exact⟨SP _ _,SP _ _⟩
abbrev Fe (TT:List (List Rat)->Prop) (w:List (List Rat)):Prop:=Fm TT w Rn 11500 20 43400000 23 14
abbrev Fd (TT:List (List Rat)->Prop) (w:List (List Rat)):Prop:=Fm TT w Rf 1950000 110 80000 47 23
abbrev Nd (TT:List (List Rat)->Prop) (w:List (List Rat)) (k:Nat) (T:List LR) (A:LR) (x:Re):Prop:=Nm TT w 1950000 k T A x
abbrev Vd (TT:List (List Rat)->Prop) (w:List (List Rat)) (k k':Nat) (T1:List LR) (A1:LR) (T2:List LR) (A2:LR) (x y:Re):Prop:=Vm TT w 1950000 k k' T1 A1 T2 A2 x y
theorem Z4 (t:Nat):II 3 Rn t<=23*t+14*11500:=by simp only[II,EE,Rn];omega
structure Pl (P:List (List Rat)->Prop) (V:List Re) (w:List (List Rat)):Prop where
 I:DO P 256
 hV:∀{u},P u->∀v∈Aq u,v∈V
 h3:V.length<=3
 hw:Tf P w
 ha:∀{u},Tf P u->BA u w
theorem cD {P:List (List Rat)->Prop} {V:List Re} (I:DO P 256) (hV:∀{u},P u->∀v∈Aq u,v∈V) (h3:V.length<=3):∃w,Pl P V w:=by
 obtain⟨w,hw,ha⟩:=Tf.top I (fun {u} h=>Nat.le_trans (h.len I hV) h3);exact⟨w,I,hV,h3,hw,ha⟩
section
variable {P:List (List Rat)->Prop} {V:List Re} {w:List (List Rat)}
theorem Pl.len (L:Pl P V w) {u:List (List Rat)} (h:Tf P u):u.length<=3:=Nat.le_trans (h.len L.I L.hV) L.h3
theorem Pl.mul (L:Pl P V w) {x y:Re} {s t:Nat} (f:El w s x) (g:El w t y):El w (s+t+10794) (x*y):=(f.mul ⟨L.hw.red L.I,L.hw.KL L.I L.hV L.h3,by decide,by have:=L.len L.hw;omega⟩ g).mono (by
 have:=HK (L.len L.hw) (Nat.le_refl Rn);have e:EE 3 Rn=10794:=by decide +kernel
 omega)
theorem Pl.inv (L:Pl P V w) {x y:Re} {s:Nat} (f:El w s x) (g:In w y) (e:x*y=1):El w (23*s+14*11500) y:=(f.inv ⟨L.hw.red L.I,L.hw.KL L.I L.hV L.h3,by decide,by have:=L.len L.hw;omega⟩ g e).mono (Nat.le_trans (KT (L.len L.hw) (Nat.le_refl _) (Nat.le_refl _)) (Z4 s))
theorem Pl.fd (L:Pl P V w):Fd (Tf P) w:=by
 refine⟨fun {S} h j=>Zn L.I L.hV L.h3 h (Nat.le_trans j (by decide)),L.hw,L.ha,by decide,by decide,fun f g=>(L.mul f g).mono (by omega),fun f g e=>(L.inv f g e).mono (by omega),fun {u} hu=>?_⟩;exact Nat.le_trans (KT (Nat.le_trans (L.len hu) (by decide:3<=4)) (Nat.le_refl _) (Nat.le_refl _)) Z3
end
theorem L3 {V:List Re} {ns:List Nu} (hV:V.length<=3) (h:∀n∈ns,BU V n):∃w,Pl (PN ns) V w:=cD (PN.Gw hV h) (fun f=>PN.Aq h f) hV
theorem Zk {V:List Re} {ns:List Nu} (hV:V.length<=3) (h:∀n∈ns,BU V n):∃w,Fd (Tf (PN ns)) w:=by
 obtain⟨w,L⟩:=L3 hV h;exact⟨w,L.fd⟩
theorem TV {V:List Re} {ns:List Nu} {w:List (List Rat)} (L:Pl (PN ns) V w) (h:∀n∈ns,BU V n) {n:Nu} (f:n∈ns\/n=GB) {b k:Nat} (hb:227018<=k*b):Nm (Tf (PN ns)) w b k (tw n.1) (em n.1 n.2) n.2:=by
 rcases f with f | rfl
 ·have hu:=EU L.h3 h f;have he:=(h n f).el L.h3;exact⟨n.1,hu,rfl,rfl,he.mem,(Tf.SC L.I L.hV L.h3 hu L.hw (L.ha hu) he).mono (Nat.le_trans (by decide) hb)⟩
 exact⟨[],.nil,rfl,rfl,FR 0 [],(El.rat (L.hw.red L.I) (JP (b:=64) (r:=0) (by decide +kernel) (Nat.le_refl 64))).mono (Nat.le_trans (by decide) hb)⟩
theorem cU {V:List Re} {ns:List Nu} {W:List UInt8} {w:List (List Rat)} (L:Pl (PN ns) V w) (h:∀n∈ns,BU V n) {i:Nat} {x:el BL} {Q:List (el BL)} (j:Q=(Eo ns W).map vm) (f:Q[i]? =some x):∃X Y,∀{b k:Nat},227018<=k*b->Vm (Tf (PN ns)) w b k k x.1.1 x.1.2 x.2.1 x.2.2 X Y:=by
 rw[j,List.getElem?_map] at f;cases g:(Eo ns W)[i]? with
 | none=>rw[g] at f;simp at f
 | some p=>
  rw[g] at f;have e:vm p=x:=Option.some.inj f;obtain⟨m1,m2⟩:=cW (List.mem_of_getElem? g);rw[<-e];exact⟨_,_,fun hb=>⟨TV L h m1 hb,TV L h m2 hb⟩⟩
noncomputable def Hl (ns:List Nu) (W:List UInt8):List (el BL):=if W.length<=24 then (Eo ns W).map vm else []
theorem Ge {V:List Re} {ns:List Nu} {W:List UInt8} {w:List (List Rat)} (L:Pl (PN ns) V w) (h:∀n∈ns,BU V n) {i:Nat} {x:el BL} {Q:List (el BL)} (f:Q=Hl ns W) (g:Q[i]? =some x):∃X Y,∀{b k:Nat},227018<=k*b->Vm (Tf (PN ns)) w b k k x.1.1 x.1.2 x.2.1 x.2.2 X Y:=by
 unfold Hl at f
 split at f
 ·exact cU L h f g
 subst f;simp at g
theorem Hm {TT:List (List Rat)->Prop} {w:List (List Rat)} (F:Fd TT w) {p q:Rat} (g:CG p) (h:CG q):∃A f,(A=em [] (Re.ofRat p)/\f=em [] (Re.ofRat q))/\Vd TT w 1 1 [] A [] f (Re.ofRat p) (Re.ofRat q):=
 ⟨_,_,⟨rfl,rfl⟩,Lt F (by decide) (JP g),Lt F (by decide) (JP h)⟩
theorem UP {TT:List (List Rat)->Prop} {w:List (List Rat)} (F:Fd TT w) {p:Rat} (f:CG p):∃A,A=em [] (Re.ofRat p)/\Nd TT w 1 [] A (Re.ofRat p):=⟨_,rfl,Lt F (by decide) (JP f)⟩
theorem Wz {L:List (el Ap)} {i:Int} {A:LR} (o:L=[]) (h:A=em [] 0):CF 158 [.one (.sl Ap L),.one (.int .i64 i)] (.agg (Ab [] A)):=by
 have B:L.length=0:=by rw[o];rfl
 refine AJ Tryz.func158 fun E j=>?_
 conv=>cbv
 rintro F ⟨D,f6⟩;conv=>cbv
 intro C f;conv=>cbv
 cases C <;> conv=>cbv
 ·have g:=Ac f;exact absurd g (by omega)
 have g:=Ae f;refine AB (r:= .agg [.sl (.sl AA) (([]:List LR)),.sl AA A]) j (XF (x:=0) (by decide) (by rw[h];rfl)) ?_;try conv=>cbv
 exact AD ⟨t3,trivial⟩
theorem Kc {L:List (el Ap)} {ns:List Nu} {i:Int} {i':Nat} {n:Nu} {T:List LR} {A:LR} (j:L=ns.map nm) (B:AQ i i') (o:n=Bw ns i') (g:T=tw n.1) (f:A=em n.1 n.2):CF 158 [.one (.sl Ap L),.one (.int .i64 i)] (.agg (Ab T A)):=by
 by_cases h:ns=[]
 ·subst h;have e:n=GB:=o;rw[e] at g f;rw[show T=[] from g];exact Wz j f
 exact W0 j h B o g f
theorem fX {X:List (el Bo)} {W:List UInt8} {ns:List Nu} (o:ns=(runN (X.take 24)).1) {V:List Re} (G:V.length<=3) (h:∀n∈ns,BU V n) (H:24<W.length):CF 44 [.agg [.sl Bo X,.sl .u8 W]] (.AI [(false,[.sl BL (([]:List (el BL)))]),(false,[.bool false])]):=by
 refine AJ Tryz.func44 fun E B=>?_
 conv=>cbv
 obtain⟨D,g⟩:∃z:List (el Ap),z=ns.map nm:=⟨_,rfl⟩
 refine AB (r:= .one (.sl Ap D)) B (QA (by rw[g,o])) ?_;conv=>cbv
 refine AB B (P9 g (fun n C=>⟨(h n C).cos,(h n C).F6⟩)) ?_;conv=>cbv
 refine Ai ?_;conv=>cbv
 rintro n16 ⟨F,f16⟩;conv=>cbv
 intro n17 f;conv=>cbv
 cases n17 <;> conv=>cbv
 ·have j:=Bh f;exact absurd j (by omega)
 have j:=Bi f;exact AD ⟨⟨rfl,C7,trivial⟩,t2,trivial⟩
theorem fY {X:List (el Bo)} {W:List UInt8} {ns:List Nu} (aq:ns=(runN (X.take 24)).1) {V:List Re} (aw:V.length<=3) (ad:∀n∈ns,BU V n) (hW:W.length<=24) {Q:List (el BL)} (hQ:Q=(Eo ns W).map vm):CF 44 [.agg [.sl Bo X,.sl .u8 W]] (.AI [(false,[.sl BL Q]),(false,[.bool true])]):=by
 have az:=cV ns W;refine AJ Tryz.func44 fun E hE=>?_
 conv=>cbv
 obtain⟨L9,L⟩:∃z:List (el Ap),z=ns.map nm:=⟨_,rfl⟩
 refine AB (r:= .one (.sl Ap L9)) hE (QA (by rw[L,aq])) ?_;conv=>cbv
 refine AB hE (P9 L (fun n hn=>⟨(ad n hn).cos,(ad n hn).F6⟩)) ?_;conv=>cbv
 refine Ai ?_;conv=>cbv
 rintro n16 ⟨av,f16⟩;conv=>cbv
 intro n17 a7;conv=>cbv
 cases n17 <;> conv=>cbv
 ·have ae:=Bh a7;refine .inr ?_;obtain⟨J0,Z⟩:=xJ fun vs bl k=>(∃(k':Nat) (j:Int),vs=[.one (.Ak 1 0 0),.one (.sl Ap L9),.one .nil,.one (.int .i64 j)]/\bl=[.var 0 [.sl Bo X,.sl .u8 W],.dead 0]/\(AQ j (2*k')/\k'=0)/\k=W.length/2-k')\/(∃(o:List (el BL)) (n k':Nat) (j:Int),vs=[.one (.Ak 1 0 0),.one (.sl Ap L9),.one (.AN BL 47 0 0 n),.one (.int .i64 j)]/\bl=[.var 0 [.sl Bo X,.sl .u8 W],.arr 0 BL o]/\(AQ j (2*k')/\k'<=W.length/2/\n=o.length)/\o=((Eo ns W).take k').map vm/\k=W.length/2-k')
  refine⟨[],[1,4,5,6],[1,47],J0,⟨W.length/2-0,by rw[Z];exact .inl ⟨0,0,rfl,rfl,⟨An 0,rfl⟩,rfl⟩⟩,?_⟩;intro vs bl aA hj;rw[Z] at hj;rcases hj with⟨k',j,rfl,rfl,⟨hj,a8⟩,ao⟩ |⟨o,n,k',j,rfl,rfl,⟨hj,ax,hn⟩,hinv,ao⟩
  ·conv=>cbv
   have ej:=hj.eq;intro n20 aj;conv=>cbv
   refine AH ?_;rintro n23 ⟨ag,f23⟩;conv=>cbv
   intro n24 N;conv=>cbv
   cases n24 <;> conv=>cbv
   ·have a2:=AW N;exact AD ⟨⟨rfl,.inr (.inl ⟨_,congrArg _ (by rw[hQ,List.eq_nil_of_length_eq_zero (show (Eo ns W).length=0 by omega)];rfl)⟩),trivial⟩,t2,trivial⟩
   have a2:=AY N;refine .inr ?_;obtain⟨f,F⟩:=AL (l:=W) (i:=(2*k')) (by omega);refine⟨f,fun _=>⟨by omega,by rw[show (j).toNat=(2*k') by omega];exact F⟩,?_⟩;try conv=>cbv
   intro n33 O;have ah:=O.eq;have f33:=O.lt;conv=>cbv
   intro n34 S;conv=>cbv
   have S:=wrap_i64 S;obtain⟨J,C⟩:=En (tw (Bw ns f.toNat).1);obtain⟨H,h⟩:=CB (em (Bw ns f.toNat).1 (Bw ns f.toNat).2);refine AB hE (Kc L ⟨by omega⟩ rfl C h) ?_;conv=>cbv
   intro a6 al;conv=>cbv
   refine AH ?_;obtain⟨g,G⟩:=AL (l:=W) (i:=(2*k'+1)) (by omega);refine⟨g,fun _=>⟨by omega,by rw[show (a6).toNat=(2*k'+1) by omega];exact G⟩,?_⟩;try conv=>cbv
   intro ar U;have ai:=U.eq;have f42:=U.lt;conv=>cbv
   intro au Y;conv=>cbv
   have Y:=wrap_i64 Y;obtain⟨K,D⟩:=En (tw (Bw ns g.toNat).1);obtain⟨I,B⟩:=CB (em (Bw ns g.toNat).1 (Bw ns g.toNat).2);refine AB hE (Kc L ⟨by omega⟩ rfl D B) ?_;conv=>cbv
   refine⟨[((J,H),(K,I))],fun _=>⟨rfl,by decide,rfl,⟨rfl,by first | exact t1 | exact t2 | exact t4 | simp[Aj,Ar,cells],trivial⟩⟩,.inr ?_⟩;try conv=>cbv
   refine .inl ⟨[((J,H),(K,I))],fun _=>⟨rfl,by show (1)*96<=140737488355328;(try simp only[List.length_take,List.length_drop]);omega⟩,?_⟩;intro af an;conv=>cbv
   refine BC ?_;intro n26 ak;conv=>cbv
   refine AH ?_;refine⟨W.length/2-(k'+1),?_,?_⟩
   ·omega
   rw[Z];exact .inr ⟨_,_,k'+1,_,rfl,rfl,⟨⟨by omega⟩,by omega,an⟩,by rw[UL F G,List.map_append,C,h,D,B,a8];rfl,rfl⟩
  conv=>cbv
  have ej:=hj.eq;have ay:o.length<=12:=by rw[hinv,List.length_map,List.length_take];omega
  intro n20 aj;conv=>cbv
  refine AH ?_;rintro n23 ⟨ag,f23⟩;conv=>cbv
  intro n24 N;conv=>cbv
  cases n24 <;> conv=>cbv
  ·have a2:=AW N;exact AD ⟨⟨rfl,.inl ⟨_,rfl,by omega,congrArg _ (by rw[hQ,hn,List.drop_zero,List.take_length,hinv,List.take_of_length_le (by omega)])⟩,trivial⟩,t2,trivial⟩
  have a2:=AY N;refine .inr ?_;obtain⟨f,F⟩:=AL (l:=W) (i:=(2*k')) (by omega);refine⟨f,fun _=>⟨by omega,by rw[show (j).toNat=(2*k') by omega];exact F⟩,?_⟩;try conv=>cbv
  intro n33 O;have ah:=O.eq;have f33:=O.lt;conv=>cbv
  intro n34 S;conv=>cbv
  have S:=wrap_i64 S;obtain⟨J,C⟩:=En (tw (Bw ns f.toNat).1);obtain⟨H,h⟩:=CB (em (Bw ns f.toNat).1 (Bw ns f.toNat).2);refine AB hE (Kc L ⟨by omega⟩ rfl C h) ?_;conv=>cbv
  intro a6 al;conv=>cbv
  refine AH ?_;obtain⟨g,G⟩:=AL (l:=W) (i:=(2*k'+1)) (by omega);refine⟨g,fun _=>⟨by omega,by rw[show (a6).toNat=(2*k'+1) by omega];exact G⟩,?_⟩;try conv=>cbv
  intro ar U;have ai:=U.eq;have f42:=U.lt;conv=>cbv
  intro au Y;conv=>cbv
  have Y:=wrap_i64 Y;obtain⟨K,D⟩:=En (tw (Bw ns g.toNat).1);obtain⟨I,B⟩:=CB (em (Bw ns g.toNat).1 (Bw ns g.toNat).2);refine AB hE (Kc L ⟨by omega⟩ rfl D B) ?_;conv=>cbv
  refine⟨[((J,H),(K,I))],fun _=>⟨rfl,by decide,rfl,⟨rfl,by first | exact t1 | exact t2 | exact t4 | simp[Aj,Ar,cells],trivial⟩⟩,.inr ?_⟩;try conv=>cbv
  refine .inl ⟨[((J,H),(K,I))],fun _=>⟨rfl,by (first | rfl | omega),rfl,by show (o.length+1)*96<=140737488355328;(try simp only[List.length_take,List.length_drop]);omega⟩,?_⟩;intro (a5:List (el BL)) af a1;have aa:a5=(o:List (el BL))++([((J,H),(K,I))]:List (el BL)):=a1.1;have ab:af=List.length (α:=(el BL)) a5:=a1.2;conv=>cbv
  refine BC ?_;intro n26 ak;conv=>cbv
  refine AH ?_;refine⟨W.length/2-(k'+1),?_,?_⟩
  ·omega
  rw[Z];exact .inr ⟨a5,_,k'+1,_,rfl,rfl,⟨⟨by omega⟩,by omega,ab⟩,by rw[aa,hinv,UL F G,List.map_append,C,h,D,B];rfl,rfl⟩
 have ae:=Bi a7;exact absurd ae (by omega)
theorem fe {X:List (el Bo)} {W:List UInt8} {ns:List Nu} (h:ns=(runN (X.take 24)).1) {V:List Re} (g:V.length<=3) (j:∀n∈ns,BU V n) {Q:List (el BL)} {i:Int} {i':Nat} {c:Bool} (G:AQ i i') (D:W.length<=24) (C:Q=(Eo ns W).map vm) (F:c=decide (i'<=Q.length)):CF 34 [.agg [.sl Bo X,.sl .u8 W],.one (.int .i64 i)] (.AI [(false,[.sl BL Q]),(false,[.bool c])]):=by
 have H:=G.eq;refine AJ Tryz.func34 fun E B=>?_
 conv=>cbv
 refine AB B (fY h g j D C) ?_;conv=>cbv
 rintro n17 ⟨o,f17⟩;conv=>cbv
 intro n19 f;conv=>cbv
 exact AD ⟨t2,⟨rfl,congrArg _ (by rw[F,f,Bool.eq_iff_iff,decide_eq_true_eq,decide_eq_true_eq];omega),trivial⟩,trivial⟩
theorem fa {X:List (el Bo)} {W:List UInt8} {ns:List Nu} (g:ns=(runN (X.take 24)).1) {V:List Re} (f:V.length<=3) (h:∀n∈ns,BU V n) {i:Int} (o:24<W.length):CF 34 [.agg [.sl Bo X,.sl .u8 W],.one (.int .i64 i)] (.AI [(false,[.sl BL (([]:List (el BL)))]),(false,[.bool false])]):=by
 refine AJ Tryz.func34 fun E j=>?_
 conv=>cbv
 refine AB j (fX g f h o) ?_;conv=>cbv
 exact AD ⟨t2,t2,trivial⟩
theorem PX {X:List (el Bo)} {W:List UInt8} {ns:List Nu} (g:ns=(runN (X.take 24)).1) {V:List Re} (f:V.length<=3) (h:∀n∈ns,BU V n) {Q:List (el BL)} (j:Q=Hl ns W) {i:Int} {i':Nat} (B:AQ i i') (C:0<i') {c:Bool} (o:c=decide (i'<=Q.length)):CF 34 [.agg [.sl Bo X,.sl .u8 W],.one (.int .i64 i)] (.AI [(false,[.sl BL Q]),(false,[.bool c])]):=by
 unfold Hl at j
 split at j
 ·exact fe g f h B (by assumption) j o
 subst j;rw[o,decide_eq_false (by simp;omega)];exact fa g f h (by omega)
end Go.Abs
namespace Go.Abs
open Go.RowKit
open Classical in
noncomputable def fs (x y:Re):Re:=if x=0 then y else x
open Classical in
noncomputable def un (x:Re):Re:=if x=0 then 0 else 1
section
variable {x y z:Re}
end
structure LnM (TT:List (List Rat)->Prop) (w:List (List Rat)) (b k l:Nat) (T1:List LR) (A1:LR) (T2:List LR) (A2:LR) (T3:List LR) (A3:LR) (x y z:Re):Prop where
 x:Nm TT w b 1 T1 A1 x
 y:Nm TT w b k T2 A2 y
 z:Nm TT w b l T3 A3 z
section
variable {TT:List (List Rat)->Prop} {w:List (List Rat)} {R b c M q p k k' l l':Nat} {T1 T2:List LR} {A1 A2:LR} {x y:Re}
end
section
variable {x y z a d:Re}
end
section
variable {n m z n' m' z' x y x1 y1 x2 y2:Re}
end
theorem Gj (a b:Rat):Re.ofRat a-Re.ofRat b=Re.ofRat (a-b):=by
 rw[show Re.ofRat a-Re.ofRat b=Re.ofRat a+ -Re.ofRat b by grind,<-Re.ofRat_neg,<-Re.ofRat_add,Rat.sub_eq_add_neg]
end Go.Abs
