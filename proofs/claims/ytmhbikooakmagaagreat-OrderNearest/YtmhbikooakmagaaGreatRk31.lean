/- Part 32 of a proof. Conditions: each theorem's own. -/
import Derived.Test.YtmhbikooakmagaaGreatRk26
set_option linter.all false
set_option maxHeartbeats 8000000
set_option maxRecDepth 20000
open Go.Proofs
namespace Go.Abs
section
variable {P:List (List Rat)->Prop} {R0:Nat}
theorem jU {α:Type} {Q:α->Prop} {f:α->Nat} {m:Nat} (hm:∀a,Q a->f a<=m) {a:α} (ha:Q a):∃b,Q b/\∀c,Q c->f c<=f b:=by
 induction h:m-f a using Nat.strongRecOn generalizing a with
 | _ n o=>
  by_cases i:∀c,Q c->f c<=f a
  ·exact⟨a,ha,i⟩
  obtain⟨c,j⟩:=Classical.not_forall.1 i;obtain⟨g,h3⟩:=Classical.not_imp.1 j;have:=hm c g;exact o (m-f c) (by omega) g rfl
theorem Tf.top (I:DU P R0) {m:Nat} (hm:∀{u},Tf P u->u.length<=m):∃w,Tf P w/\∀{u},Tf P u->BO u w:=by
 obtain⟨w,hw,D⟩:=jU (Q:=Tf P) (f:=List.length) (fun u h=>hm h) Tf.nil;have o:=hw.red I
 have key:∀{u},P u->BO u w:=by
  intro u
  induction u with
  | nil=>exact fun _=>KG w
  | cons r u j=>
   intro g;have i:=j (I.sub g);have B:=I.red g;refine KF o i ?_
   have hs:Sq w (AM u r):=by
    apply Classical.byContradiction;intro C;have:=D _ (Tf.Ar hw g i);rw[Dq C,List.length_cons] at this;omega
   exact (JU (by have:=B.2.2.1;grind)).1 hs
 refine⟨w,hw,fun {u} h=>?_⟩
 induction h with
 | nil=>exact KG w
 | @Ar u r0 v ht g i j=>
  by_cases hs:Sq u (AM v r0)
  ·rw[Ec hs];exact j
  rw[Dq hs];refine KF o j ?_;rw[Ip (i _ (CO (I.red g)))];exact key g _ (JE v r0)
end
theorem El.down {u:List (List Rat)} {s:Nat} {x:Re} (i:In u x):∀{v:List (List Rat)},AT (v++u)->El (v++u) s x->El u s x
 | [],_,h=>h
 | r::v,g,h=>by
  have f:In (v++u) x:=Nw v x i;refine El.down i (v:=v) g.1 ⟨f,?_⟩;obtain⟨D,d0,d1,d2,d3⟩:=h.bd;have e:co (r::(v++u)) x=co (v++u) x++co (v++u) 0:=Cz g f (Bx _) (by grind);rw[List.cons_append,e] at d2 d3;exact⟨D,d0,d1,(DN.app.1 d2).1,(MX.app.1 d3).1⟩
structure Fm (TT:List (List Rat)->Prop) (w:List (List Rat)) (R b c M q p:Nat):Prop where
 KK:∀{S},R<=S->S<=M*b->Cj TT R (c*b) S
 top:TT w
 all:∀{u},TT u->BO u w
 hR:R<=c*b
 hb:64<=b
 Xa:∀{x y s t},El w s x->El w t y->El w (s+t+b) (x*y)
 iw:∀{x y s},El w s x->In w y->x*y=1->El w (q*s+p*b) y
 iu:∀{u},TT u->II u.length R (M*b)<=60000000000000
def Nm (TT:List (List Rat)->Prop) (w:List (List Rat)) (b k:Nat) (T:List (List (el AA))) (A:List (el AA)) (x:Re):Prop:=∃u,TT u/\T=tw u/\A=em u x/\In u x/\El w (k*b) x
section
variable {TT:List (List Rat)->Prop} {w:List (List Rat)} {R b c M q p k l:Nat} {T T1 T2:List (List (el AA))} {A A1 A2:List (el AA)} {x y:Re}
theorem Fm.g (F:Fm TT w R b c M q p) (h:k<=M) (f:c<=k):Cj TT R (c*b) (k*b):=F.KK (Nat.le_trans F.hR (Nat.mul_le_mul_right b f)) (Nat.mul_le_mul_right b h)
theorem Fm.own (F:Fm TT w R b c M q p) (H:c<=M) (h:Nm TT w b k T A x):∃u,TT u/\T=tw u/\A=em u x/\In u x/\El w (k*b) x/\El u ((k+c)*b) x:=by
 obtain⟨u,hu,I,D,B,he⟩:=h;refine⟨u,hu,I,D,B,he,?_⟩;have G:=(F.g H (Nat.le_refl c)).toGam;obtain⟨j,J,h3⟩:=G.A0 hu F.top;have f:=G.Bi F.top j h3 he;rw[<-Nat.add_mul] at f;rw[ix] at j f;have i:=(G.Ag j).red;unfold DO at f i
 split at f
 ·exact f
 rename_i C
 rw[if_neg C] at i
 split at f
 ·rename_i o
  obtain⟨v,rfl⟩:=o;exact El.down B (G.Ag F.top).red f
 rename_i o
 rw[if_neg o] at i;obtain⟨v,e⟩:=Ql u w;rw[<-e] at f i;exact El.down B i f
theorem Nm.mono (h:Nm TT w b k T A x) (o:k<=l):Nm TT w b l T A x:=by
 obtain⟨u,f,g,h3,i,j⟩:=h;exact⟨u,f,g,h3,i,j.mono (Nat.mul_le_mul_right b o)⟩
theorem Nm.cast (h:Nm TT w b k T A x) (e:x=y):Nm TT w b k T A y:=e ▸ h
theorem Fm.two (F:Fm TT w R b c M q p) (ha:Nm TT w b k T1 A1 x) (hb:Nm TT w b l T2 A2 y) (O:k+c+1<=M) (Q:l+c+1<=M):∃u v j,j<=M/\(j=k+c+1\/j=l+c+1)/\TT u/\TT v/\T1=tw u/\T2=tw v/\A1=em u x/\A2=em v y/\In u x/\In v y/\El w (k*b) x/\El w (l*b) y/\El u (j*b) x/\El v (j*b) y/\Cj TT R (c*b) (j*b)/\TT (A0 u v)/\BO u (A0 u v)/\BO v (A0 u v):=by
 obtain⟨u,hu,o,f,S,D,C⟩:=F.own (by omega) ha;obtain⟨v,K,B,i,U,I,H⟩:=F.own (by omega) hb
 have key:∀j,j<=M->(j=k+c+1\/j=l+c+1)->k+c+1<=j->l+c+1<=j->∃u v j,j<=M/\(j=k+c+1\/j=l+c+1)/\TT u/\TT v/\T1=tw u/\T2=tw v/\A1=em u x/\A2=em v y/\In u x/\In v y/\El w (k*b) x/\El w (l*b) y/\El u (j*b) x/\El v (j*b) y/\Cj TT R (c*b) (j*b)/\TT (A0 u v)/\BO u (A0 u v)/\BO v (A0 u v):=by
  intro j J N h3 W;have G:=F.g J (by omega);obtain⟨g1,g2,L⟩:=G.toGam.A0 hu K;exact⟨u,v,j,J,N,hu,K,o,B,f,i,S,U,D,I,C.mono (Nat.mul_le_mul_right b (by omega)),H.mono (Nat.mul_le_mul_right b (by omega)),G,g1,g2,L⟩
 by_cases h:k<=l
 ·exact key (l+c+1) Q (.inr rfl) (by omega) (Nat.le_refl _)
 exact key (k+c+1) O (.inl rfl) (Nat.le_refl _) (by omega)
end
end Go.Abs
namespace Go.Abs
open Go.RowKit
section
variable {TT:List (List Rat)->Prop} {w:List (List Rat)} {R b c M q p k l:Nat} {T1 T2:List LR} {A1 A2:LR} {x y:Re}
theorem Nm.data {i:LR} (h:Nm TT w b k T1 A1 x) (j:Nm TT w b l T1 i y) (e:x=y):A1=i:=by
 obtain⟨u,_,B,o,_⟩:=h;obtain⟨v,_,g,f,_⟩:=j;rw[o,f,e,Mo (B.symm.trans g)]
theorem HN (F:Fm TT w R b c M q p) (ha:Nm TT w b k T1 A1 x) (hb:Nm TT w b l T2 A2 y) (J:k+c+1<=M:=by omega) (K:l+c+1<=M:=by omega):∃T A,Nm TT w b (k+l+1) T A (x+y)/\CF 113 [.agg (AR T1 A1),.agg (AR T2 A2)] (.AG [(true,(AR T A)),(false,[.int .i64 0])])/\CF 99 [.agg (AR T1 A1),.agg (AR T2 A2)] (.AG [(true,(AR T A)),(false,[.int .i64 0])]):=by
 obtain⟨u,v,j,O,_,hu,H,h,i,f,g,L,N,C,D,o,B,G,g1,g2,I⟩:=F.two ha hb J K;refine⟨_,_,⟨A0 u v,g1,rfl,rfl,C0 (g2 _ L) (I _ N),(C.add (G.Ag F.top).red D).mono ?_⟩,Mz G.toGam hu H h i f g o B rfl rfl,Pf G hu H h i f g o B rfl rfl⟩;have:=F.hb;rw[Nat.add_mul,Nat.add_mul];omega
theorem L7 (F:Fm TT w R b c M q p) (ha:Nm TT w b k T1 A1 x) (hb:Nm TT w b l T2 A2 y) (J:k+c+1<=M:=by omega) (K:l+c+1<=M:=by omega):∃T A,Nm TT w b (k+l+1) T A (x-y)/\CF 196 [.agg (AR T1 A1),.agg (AR T2 A2)] (.AG [(true,(AR T A)),(false,[.int .i64 0])])/\CF 101 [.agg (AR T1 A1),.agg (AR T2 A2)] (.AG [(true,(AR T A)),(false,[.int .i64 0])]):=by
 obtain⟨u,v,j,O,_,hu,H,h,i,f,g,L,N,C,D,o,B,G,g1,g2,I⟩:=F.two ha hb J K;refine⟨_,_,⟨A0 u v,g1,rfl,rfl,Ep (g2 _ L) (I _ N),(C.sub (G.Ag F.top).red D).mono ?_⟩,TN G.toGam hu H h i f g o B rfl rfl,Pn G hu H h i f g o B rfl rfl⟩;have:=F.hb;rw[Nat.add_mul,Nat.add_mul];omega
theorem IZ (F:Fm TT w R b c M q p) (ha:Nm TT w b k T1 A1 x) (hb:Nm TT w b l T2 A2 y) (J:k+c+1<=M:=by omega) (K:l+c+1<=M:=by omega):∃T A,Nm TT w b (k+l+1) T A (x*y)/\CF 111 [.agg (AR T1 A1),.agg (AR T2 A2)] (.AG [(true,(AR T A)),(false,[.int .i64 0])])/\CF 102 [.agg (AR T1 A1),.agg (AR T2 A2)] (.AG [(true,(AR T A)),(false,[.int .i64 0])]):=by
 obtain⟨u,v,j,O,_,hu,H,h,i,f,g,L,N,C,D,o,B,G,g1,g2,I⟩:=F.two ha hb J K;refine⟨_,_,⟨A0 u v,g1,rfl,rfl,Ak (G.Ag g1).red (g2 _ L) (I _ N),(F.Xa C D).mono ?_⟩,PX G.toGam hu H h i f g o B rfl rfl,Ph G hu H h i f g o B rfl rfl⟩;have:=F.hb;rw[Nat.add_mul,Nat.add_mul];omega
theorem JJ (F:Fm TT w R b c M q p) (ha:Nm TT w b k T1 A1 x) (v:k+c+1<=M:=by omega):∃A,Nm TT w b k T1 A (-x)/\CF 267 [.agg (AR T1 A1)] (.agg (AR T1 A))/\CF 105 [.agg (AR T1 A1)] (.agg (AR T1 A)):=by
 obtain⟨u,hu,h,i,B,o,j⟩:=F.own (by omega) ha;have G:=F.g v (by omega);have f:=j.mono (Nat.mul_le_mul_right b (Nat.le_succ (k+c)));exact⟨_,⟨u,hu,h,rfl,Gf B,o.neg (G.Ag F.top).red⟩,bU G.toGam hu h i f rfl,Pj G hu h i f rfl⟩
theorem Gn (F:Fm TT w R b c M q p) (ha:Nm TT w b k T1 A1 x) (o:k+c+1<=M:=by omega):∃s:Int,s=An x/\CF 90 [.agg (AR T1 A1)] (.one (.int .i64 s))/\CF 104 [.agg (AR T1 A1)] (.one (.int .i64 s)):=by
 obtain⟨u,hu,i,h,B,v,j⟩:=F.own (by omega) ha;have G:=F.g o (by omega);have f:=j.mono (Nat.mul_le_mul_right b (Nat.le_succ (k+c)));exact⟨_,rfl,TM G.toGam hu i h f rfl,Pk G hu i h f rfl⟩
theorem Fm.pair (F:Fm TT w R b c M q p) {j:Nat} (h:2*j+2*c+1<=M):Cj TT R (c*b) ((2*j+2*c+1)*b)/\2*(j*b+c*b)+1<=(2*j+2*c+1)*b:=by
 refine⟨F.g h (by omega),?_⟩;have:=F.hb;rw[Nat.add_mul,Nat.add_mul,Nat.mul_assoc,Nat.mul_assoc];omega
theorem L5 (F:Fm TT w R b c M q p) (ha:Nm TT w b k T1 A1 x) (hb:Nm TT w b l T2 A2 y) (O:2*k+4*c+3<=M:=by omega) (Q:2*l+4*c+3<=M:=by omega):∃e:Bool,(e=true↔x=y)/\CF 117 [.agg (AR T1 A1),.agg (AR T2 A2)] (.one (.bool e))/\CF 27 [.agg (AR T1 A1),.agg (AR T2 A2)] (.one (.bool e)):=by
 obtain⟨u,v,j,N,I,hu,C,h,i,f,g,S,U,J,K,o,B,G,g1,g2,L⟩:=F.two ha hb (by omega) (by omega);obtain⟨D,H⟩:=F.pair (j:=j) (by omega);obtain⟨e,he⟩:=Dv (x=y);exact⟨e,he,TJ G.toGam hu C h i f g o B he,Pg G hu C h i f g o B D H he⟩
theorem L4 (F:Fm TT w R b c M q p) (ha:Nm TT w b k T1 A1 x) (hb:Nm TT w b l T2 A2 y) (O:2*k+4*c+3<=M) (Q:2*l+4*c+3<=M):∃s:Int,s=An (x-y)/\CF 115 [.agg (AR T1 A1),.agg (AR T2 A2)] (.AG [(false,[.int .i64 s]),(false,[.int .i64 0])])/\CF 132 [.agg (AR T1 A1),.agg (AR T2 A2)] (.AG [(false,[.int .i64 s]),(false,[.int .i64 0])]):=by
 obtain⟨u,v,j,N,I,hu,H,h,i,f,g,S,U,J,K,o,B,G,g1,g2,L⟩:=F.two ha hb (by omega) (by omega);obtain⟨C,D⟩:=F.pair (j:=j) (by omega);exact⟨_,rfl,PW G.toGam hu H h i f g o B C.toGam D rfl,Tl G hu H h i f g o B C D rfl⟩
theorem Rg (F:Fm TT w R b c M q p) (ha:Nm TT w b k T1 A1 x) (hb:Nm TT w b l T2 A2 y) {d:Nat} (hd:q*l+p<=d) (K:y≠0) (hk:k+c+1<=M:=by omega) (hl:l+c+1<=M:=by omega) (hi:d+c+1<=M:=by omega):∃T A,Nm TT w b (k+d+1) T A (x*Ci y)/\CF 108 [.agg (AR T1 A1),.agg (AR T2 A2)] (.AG [(true,(AR T A)),(false,[.int .i64 0])])/\CF 103 [.agg (AR T1 A1),.agg (AR T2 A2)] (.AG [(true,(AR T A)),(false,[.int .i64 0])]):=by
 obtain⟨u,hu,B,i,hx,Q,O⟩:=F.own (by omega) ha;obtain⟨v,h,C,j,hy,U,S⟩:=F.own (by omega) hb;have G:=F.g (Nat.le_refl M) (by omega);obtain⟨g1,g2,X⟩:=G.toGam.A0 hu h;have f:=Ln (G.Ag h).red hy K
 have H:El w (d*b) (Ci y):=(F.iw U (F.all h _ f) (Gh K)).mono (by
  have Y:=Nat.mul_le_mul_right b hd;rw[Nat.add_mul,Nat.mul_assoc] at Y;omega)
 obtain⟨W,a1,L,Z,_,_,N⟩:=F.own (by omega) (show Nm TT w b d (tw v) (em v (Ci y)) (Ci y) from⟨v,h,rfl,rfl,f,H⟩);have ev:W=v:=(Mo L).symm;subst ev;have o:II W.length R (M*b)<=60000000000000:=F.iu h;have I:=O.mono (Nat.mul_le_mul_right b (show k+c<=M by omega));have J:=S.mono (Nat.mul_le_mul_right b (show l+c<=M by omega));have D:=N.mono (Nat.mul_le_mul_right b (show d+c<=M by omega));refine⟨_,_,⟨A0 u W,g1,rfl,rfl,Ak (G.Ag g1).red (g2 _ hx) (X _ f),(F.Xa Q H).mono ?_⟩,TH G.toGam hu h B C i j I J f (Gh K) D o rfl rfl,Tm G hu h B C i j I J f (Gh K) D o rfl rfl⟩;rw[Nat.add_mul,Nat.add_mul,Nat.one_mul];omega
end
end Go.Abs
namespace Go.Abs
open Go.RowKit
structure Vm (TT:List (List Rat)->Prop) (w:List (List Rat)) (b k k':Nat) (T1:List LR) (A1:LR) (T2:List LR) (A2:LR) (x y:Re):Prop where
 x:Nm TT w b k T1 A1 x
 y:Nm TT w b k' T2 A2 y
section
variable {TT:List (List Rat)->Prop} {w:List (List Rat)} {R b c M q p k k' l l':Nat} {T1 T2:List LR} {A1 A2:LR} {x y x' y':Re}
theorem Vm.mono (h:Vm TT w b k k' T1 A1 T2 A2 x y) (g:k<=l) (f:k'<=l'):Vm TT w b l l' T1 A1 T2 A2 x y:=⟨h.x.mono g,h.y.mono f⟩
theorem Vm.cast (h:Vm TT w b k k' T1 A1 T2 A2 x y) (e:x=x') (f:y=y'):Vm TT w b k k' T1 A1 T2 A2 x' y':=e ▸ f ▸ h
theorem OZ (F:Fm TT w R b c M q p) (f:c<=M) {r:Rat} (h:Bd b [r]):Nm TT w b 1 [] (em [] (Re.ofRat r)) (Re.ofRat r):=by
 have G:=F.g f (Nat.le_refl c);exact⟨[],G.nil,rfl,rfl,EK r [],by rw[Nat.one_mul];exact El.rat (G.Ag F.top).red h⟩
theorem Ju {r:Rat} (h:B9 r) (hb:64<=b:=by omega):Bd b [r]:=(F8 (a:=[r]) (fun z f=>by rw[List.mem_singleton.1 f];exact h)).mono hb
end
theorem Ux {g:FuncId} {T1 T2 o v B C:List LR} {A1 A2 f h i j:LR} (F:CF g [.agg (AR T1 A1),.agg (AR o f)] (.AG [(true,(AR B i)),(false,[.int .i64 0])])) (G:CF g [.agg (AR T2 A2),.agg (AR v h)] (.AG [(true,(AR C j)),(false,[.int .i64 0])])):CF 202 [.agg (Af T1 A1 T2 A2),.agg (Af o f v h),.one (.fn g)] (.AG [(true,(Af B i C j)),(false,[.int .i64 0])]):=by
 refine AJ Tryz.func202 fun E D=>?_
 conv=>cbv
 refine AB D F ?_;conv=>cbv
 refine AU ?_;conv=>cbv
 refine AB D G ?_;conv=>cbv
 refine AU ?_;conv=>cbv
 exact AD ⟨⟨rfl,rfl,rfl,rfl,rfl,trivial⟩,t2,trivial⟩
theorem Sw {TT:List (List Rat)->Prop} {w:List (List Rat)} {R b c M q p k k' l l':Nat} (F:Fm TT w R b c M q p) {T1 T2 j o:List LR} {A1 A2 g h:LR} {x1 y1 x2 y2:Re} (v:Vm TT w b k k' T1 A1 T2 A2 x1 y1) (B:Vm TT w b l l' j g o h x2 y2) (S:k+c+1<=M:=by omega) (O:k'+c+1<=M:=by omega) (U:l+c+1<=M:=by omega) (Q:l'+c+1<=M:=by omega):∃T A i f,Vm TT w b (k+l+1) (k'+l'+1) T A i f (x1-x2) (y1-y2)/\CF 89 [.agg (Af T1 A1 T2 A2),.agg (Af j g o h)] (.AG [(true,(Af T A i f)),(false,[.int .i64 0])]):=by
 obtain⟨G,C,K,I,_⟩:=L7 F v.x B.x;obtain⟨H,D,L,J,_⟩:=L7 F v.y B.y;refine⟨G,C,H,D,⟨K,L⟩,?_⟩;refine AJ Tryz.func89 fun E N=>?_
 conv=>cbv
 refine AB N (Ux I J) ?_;conv=>cbv
 exact AD ⟨⟨rfl,rfl,rfl,rfl,rfl,trivial⟩,t2,trivial⟩
theorem oP {TT:List (List Rat)->Prop} {w:List (List Rat)} {R b c M q p k:Nat} (F:Fm TT w R b c M q p) {T1:List LR} {A1:LR} {n:Re} (i:Nm TT w b k T1 A1 n) (h:k+c+1<=M):CF 284 [.agg (AR T1 A1)] (.agg (AR T1 A1)):=by
 obtain⟨C,v,o,_⟩:=JJ F i h;obtain⟨j,B,f,_⟩:=JJ F v h;have e:j=A1:=Nm.data B i (by grind);rw[e] at f;refine AJ Tryz.func284 fun E g=>?_
 conv=>cbv
 refine AB g o ?_;conv=>cbv
 refine AB g f ?_;conv=>cbv
 exact AD ⟨t3,trivial⟩
theorem oK {TT:List (List Rat)->Prop} {w:List (List Rat)} {R b c M q p k k':Nat} (F:Fm TT w R b c M q p) {T1 T2:List LR} {A1 A2:LR} {x1 y1:Re} (g:Vm TT w b k k' T1 A1 T2 A2 x1 y1) (v:k+c+1<=M:=by omega) (f:k'+c+1<=M:=by omega):∃A,Vm TT w b k' k T2 A T1 A1 (-y1) x1/\CF 200 [.agg (Af T1 A1 T2 A2)] (.agg (Af T2 A T1 A1)):=by
 obtain⟨i,o,j,_⟩:=JJ F g.y f;refine⟨i,⟨o,g.x⟩,?_⟩;refine AJ Tryz.func200 fun E h=>?_
 conv=>cbv
 refine AB h j ?_;conv=>cbv
 refine AB h (oP F g.x v) ?_;conv=>cbv
 refine BG ?_;exact AD ⟨⟨rfl,rfl,rfl,rfl,rfl,trivial⟩,trivial⟩
theorem aU {TT:List (List Rat)->Prop} {w:List (List Rat)} {R b c M q p k k' l l':Nat} (F:Fm TT w R b c M q p) {T1 T2 h i:List LR} {A1 A2 f g:LR} {x1 y1 x2 y2:Re} (o:Vm TT w b k k' T1 A1 T2 A2 x1 y1) (v:Vm TT w b l l' h f i g x2 y2) (U:k+l+c+2<=M:=by omega) (L:k'+l'+c+2<=M:=by omega):∃T A,Nm TT w b (k+k'+l+l'+3) T A (x1*x2+y1*y2)/\CF 87 [.agg (Af T1 A1 T2 A2),.agg (Af h f i g)] (.AG [(true,(AR T A)),(false,[.int .i64 0])]):=by
 obtain⟨Q,N,I,D,_⟩:=IZ F o.x v.x;obtain⟨S,O,J,G,_⟩:=IZ F o.y v.y;obtain⟨C,B,K,H,_⟩:=HN F I J;refine⟨C,B,K.mono (by omega),?_⟩;refine AJ Tryz.func87 fun E j=>?_
 conv=>cbv
 refine AB j (Ux D G) ?_;conv=>cbv
 refine AU ?_;conv=>cbv
 refine AB j H ?_;conv=>cbv
 exact AD ⟨t3,t2,trivial⟩
theorem aT {TT:List (List Rat)->Prop} {w:List (List Rat)} {R b c M q p k k' l l':Nat} (F:Fm TT w R b c M q p) {T1 T2 h i:List LR} {A1 A2 f g:LR} {x1 y1 x2 y2:Re} (I:Vm TT w b k k' T1 A1 T2 A2 x1 y1) (J:Vm TT w b l l' h f i g x2 y2) (L:k'+l+c+2<=M:=by omega) (H:k+l'+c+2<=M:=by omega):∃T A,Nm TT w b (k+k'+l+l'+3) T A (-y1*x2+x1*y2)/\CF 142 [.agg (Af T1 A1 T2 A2),.agg (Af h f i g)] (.AG [(true,(AR T A)),(false,[.int .i64 0])]):=by
 obtain⟨K,D,B⟩:=oK F I;obtain⟨v,o,G,C⟩:=aU F D J;refine⟨v,o,G.mono (by omega),?_⟩;refine AJ Tryz.func142 fun E j=>?_
 conv=>cbv
 refine AB j B ?_;conv=>cbv
 refine AB j C ?_;conv=>cbv
 refine BG ?_;exact AD ⟨t3,t2,trivial⟩
theorem oL {TT:List (List Rat)->Prop} {w:List (List Rat)} {R b c M q p k k':Nat} (F:Fm TT w R b c M q p) {T1 T2:List LR} {A1 A2:LR} {x1 y1:Re} (f:Vm TT w b k k' T1 A1 T2 A2 x1 y1) (B:2*k+c+2<=M:=by omega) (v:2*k'+c+2<=M:=by omega):∃T A,Nm TT w b (2*k+2*k'+3) T A (x1*x1+y1*y1)/\CF 192 [.agg (Af T1 A1 T2 A2)] (.AG [(true,(AR T A)),(false,[.int .i64 0])]):=by
 obtain⟨h,g,j,i⟩:=aU F f f;refine⟨h,g,j.mono (by omega),?_⟩;refine AJ Tryz.func192 fun E o=>?_
 conv=>cbv
 refine AB o i ?_;conv=>cbv
 exact AD ⟨t3,t2,trivial⟩
theorem PD {TT:List (List Rat)->Prop} {w:List (List Rat)} {R b c M q p k k' l l':Nat} (F:Fm TT w R b c M q p) {T1 T2 v B:List LR} {A1 A2 j o:LR} {x1 y1 x2 y2:Re} (D:Vm TT w b k k' T1 A1 T2 A2 x1 y1) (G:Vm TT w b l l' v j B o x2 y2) (N:2*k+4*c+3<=M) (K:2*k'+4*c+3<=M) (O:2*l+4*c+3<=M) (L:2*l'+4*c+3<=M) {e:Bool} (he:e=true↔x1=x2/\y1=y2):CF 147 [.agg (Af T1 A1 T2 A2),.agg (Af v j B o)] (.one (.bool e)):=by
 obtain⟨J,g,H,_⟩:=L5 F D.x G.x;obtain⟨I,f,i,_⟩:=L5 F D.y G.y;refine AJ Tryz.func147 fun E C=>?_
 conv=>cbv
 refine AB C H ?_;conv=>cbv
 cases J <;> conv=>cbv
 ·exact AD ⟨⟨rfl,congrArg _ (by cases e with | false=>rfl | true=>exact absurd (g.2 (he.1 rfl).1) (by simp)),trivial⟩,trivial⟩
 refine AB C i ?_;conv=>cbv
 exact AD ⟨⟨rfl,congrArg _ (by rw[Bool.eq_iff_iff,f,he];exact⟨fun h=>h.2,fun h=>⟨g.1 rfl,h⟩⟩),trivial⟩,trivial⟩
theorem Jb {TT:List (List Rat)->Prop} {w:List (List Rat)} {R b c M q p k k' l l':Nat} (F:Fm TT w R b c M q p) {T1 T2 v B:List LR} {A1 A2 j o:LR} {x1 y1 x2 y2:Re} (D:Vm TT w b k k' T1 A1 T2 A2 x1 y1) (G:Vm TT w b l l' v j B o x2 y2) (N:2*k+4*c+3<=M) (K:2*k'+4*c+3<=M) (O:2*l+4*c+3<=M) (L:2*l'+4*c+3<=M) {e:Bool} (he:e=true↔x1=x2/\y1=y2):CF 38 [.agg (Af T1 A1 T2 A2),.agg (Af v j B o)] (.one (.bool e)):=by
 obtain⟨J,g,_,H⟩:=L5 F D.x G.x;obtain⟨I,f,_,i⟩:=L5 F D.y G.y;refine AJ Tryz.func38 fun E C=>?_
 conv=>cbv
 refine AB C H ?_;conv=>cbv
 cases J <;> conv=>cbv
 ·exact AD ⟨⟨rfl,congrArg _ (by cases e with | false=>rfl | true=>exact absurd (g.2 (he.1 rfl).1) (by simp)),trivial⟩,trivial⟩
 refine AB C i ?_;conv=>cbv
 exact AD ⟨⟨rfl,congrArg _ (by rw[Bool.eq_iff_iff,f,he];exact⟨fun h=>h.2,fun h=>⟨g.1 rfl,h⟩⟩),trivial⟩,trivial⟩
theorem oT {i j:Rat} {b1 c1 b2 c2:Bool} {l1 m1 l2 m2:List UInt32} (o:BH i b1 l1 c1 m1) (v:BH j b2 l2 c2 m2) {A1 A2:LR} (f:A1=em [] (Re.ofRat i)) (g:A2=em [] (Re.ofRat j)):CF 181 [.agg (BS b1 l1 c1 m1),.agg (BS b2 l2 c2 m2)] (.agg (Af [] A1 [] A2)):=by
 refine AJ Tryz.func181 fun E h=>?_
 conv=>cbv
 refine AB h (NB o f) ?_;conv=>cbv
 refine AB h (NB v g) ?_;conv=>cbv
 refine BG ?_;exact AD ⟨⟨rfl,rfl,rfl,rfl,rfl,trivial⟩,trivial⟩
theorem EC {x y:Int} {A1 A2:LR} (o: -9223372036854775808<=x/\x<9223372036854775808) (v: -9223372036854775808<=y/\y<9223372036854775808) (f:A1=em [] (Re.ofRat x)) (g:A2=em [] (Re.ofRat y)):CF 59 [.one (.int .i64 x),.one (.int .i64 y)] (.agg (Af [] A1 [] A2)):=by
 refine AJ Tryz.func59 fun E h=>?_
 conv=>cbv
 obtain⟨b1,l1,c1,m1,i⟩:=Be (x:Rat);refine AB h (Ej o rfl i) ?_;conv=>cbv
 obtain⟨b2,l2,c2,m2,j⟩:=Be (y:Rat);refine AB h (Ej v rfl j) ?_;conv=>cbv
 refine AB h (oT i j f g) ?_;conv=>cbv
 exact AD ⟨⟨rfl,rfl,rfl,rfl,rfl,trivial⟩,trivial⟩
theorem oU:CF 146 [.one (.int .i64 0),.one (.int .i64 0)] (.one (.int .i64 0)):=by
 refine AJ Tryz.func146 fun E f=>?_
 conv=>cbv
 refine AU ?_;conv=>cbv
 exact AD ⟨t2,trivial⟩
theorem oW {T1 T2:List LR} {A1 A2:LR}:CF 145 [.agg (AR T1 A1),.agg (AR T2 A2),.one (.int .i64 0)] (.AG [(true,(Af T1 A1 T2 A2)),(false,[.int .i64 0])]):=by
 refine AJ Tryz.func145 fun E f=>?_
 conv=>cbv
 refine AU ?_;conv=>cbv
 exact AD ⟨⟨rfl,rfl,rfl,rfl,rfl,trivial⟩,t2,trivial⟩
theorem au {TT:List (List Rat)->Prop} {w:List (List Rat)} {R b c M q p k k' l l':Nat} (F:Fm TT w R b c M q p) {T1 T2 o v:List LR} {A1 A2 h i:LR} {x1 y1 x2 y2:Re} (B:Vm TT w b k k' T1 A1 T2 A2 x1 y1) (C:Vm TT w b l l' o h v i x2 y2) (S:k+c+1<=M:=by omega) (O:k'+c+1<=M:=by omega) (U:l+c+1<=M:=by omega) (Q:l'+c+1<=M:=by omega):∃T A j g,Vm TT w b (k+l+1) (k'+l'+1) T A j g (x1+x2) (y1+y2)/\CF 41 [.agg (Af T1 A1 T2 A2),.agg (Af o h v i)] (.AG [(true,(Af T A j g)),(false,[.int .i64 0])]):=by
 obtain⟨H,D,L,_,J⟩:=HN F B.x C.x;obtain⟨I,G,N,_,K⟩:=HN F B.y C.y;refine⟨H,D,I,G,⟨L,N⟩,?_⟩;refine AJ Tryz.func41 fun E f=>?_
 conv=>cbv
 refine AB f J ?_;conv=>cbv
 refine AB f K ?_;conv=>cbv
 refine AB f oU ?_;conv=>cbv
 refine AB f oW ?_;conv=>cbv
 refine BG ?_;exact AD ⟨⟨rfl,rfl,rfl,rfl,rfl,trivial⟩,t2,trivial⟩
theorem om {TT:List (List Rat)->Prop} {w:List (List Rat)} {R b c M q p k k':Nat} (F:Fm TT w R b c M q p) {T1 T2:List LR} {A1 A2:LR} {x1 y1:Re} (i:Vm TT w b k k' T1 A1 T2 A2 x1 y1) (G:k+c+1<=M:=by omega) (f:k'+c+1<=M:=by omega):∃A g,Vm TT w b k k' T1 A T2 g (-x1) (-y1)/\CF 144 [.agg (Af T1 A1 T2 A2)] (.agg (Af T1 A T2 g)):=by
 obtain⟨j,C,_,v⟩:=JJ F i.x G;obtain⟨o,D,_,B⟩:=JJ F i.y f;refine⟨j,o,⟨C,D⟩,?_⟩;refine AJ Tryz.func144 fun E h=>?_
 conv=>cbv
 refine AB h v ?_;conv=>cbv
 refine AB h B ?_;conv=>cbv
 refine BG ?_;exact AD ⟨⟨rfl,rfl,rfl,rfl,rfl,trivial⟩,trivial⟩
theorem ov {TT:List (List Rat)->Prop} {w:List (List Rat)} {R b c M q p k k' l l':Nat} (F:Fm TT w R b c M q p) {T1 T2 j o:List LR} {A1 A2 g h:LR} {x1 y1 x2 y2:Re} (O:Vm TT w b k k' T1 A1 T2 A2 x1 y1) (Q:Vm TT w b l l' j g o h x2 y2) (W:k+c+1<=M:=by omega) (L:k'+c+1<=M:=by omega) (X:l+c+1<=M:=by omega) (N:l'+c+1<=M:=by omega):∃T A i f,Vm TT w b (k+l+1) (k'+l'+1) T A i f (x1+ -x2) (y1+ -y2)/\CF 40 [.agg (Af T1 A1 T2 A2),.agg (Af j g o h)] (.AG [(true,(Af T A i f)),(false,[.int .i64 0])]):=by
 obtain⟨S,U,K,I⟩:=om F Q;obtain⟨D,B,G,C,J,H⟩:=au F O K;refine⟨D,B,G,C,J,?_⟩;refine AJ Tryz.func40 fun E v=>?_
 conv=>cbv
 refine AB v I ?_;conv=>cbv
 refine AB v H ?_;conv=>cbv
 refine BG ?_;exact AD ⟨⟨rfl,rfl,rfl,rfl,rfl,trivial⟩,t2,trivial⟩
theorem og {TT:List (List Rat)->Prop} {w:List (List Rat)} {R b c M q p k k':Nat} (F:Fm TT w R b c M q p) {T1 T2:List LR} {A1 A2:LR} {x1 y1:Re} (g:Vm TT w b k k' T1 A1 T2 A2 x1 y1) (v:k+c+1<=M:=by omega) (f:k'+c+1<=M:=by omega):∃A,Vm TT w b k' k T2 A T1 A1 (-y1) x1/\CF 74 [.agg (Af T1 A1 T2 A2)] (.agg (Af T2 A T1 A1)):=by
 obtain⟨h,j,_,i⟩:=JJ F g.y f;refine⟨h,⟨j,g.x⟩,?_⟩;refine AJ Tryz.func74 fun E o=>?_
 conv=>cbv
 refine AB o i ?_;conv=>cbv
 refine BG ?_;exact AD ⟨⟨rfl,rfl,rfl,rfl,rfl,trivial⟩,trivial⟩
theorem aw {TT:List (List Rat)->Prop} {w:List (List Rat)} {R b c M q p k k' l l':Nat} (F:Fm TT w R b c M q p) {T1 T2 i j:List LR} {A1 A2 g h:LR} {x1 y1 x2 y2:Re} (o:Vm TT w b k k' T1 A1 T2 A2 x1 y1) (v:Vm TT w b l l' i g j h x2 y2) (U:k+l+c+2<=M:=by omega) (L:k'+l'+c+2<=M:=by omega):∃T A,Nm TT w b (k+k'+l+l'+3) T A (x1*x2+y1*y2)/\CF 277 [.agg (Af T1 A1 T2 A2),.agg (Af i g j h)] (.AG [(true,(AR T A)),(false,[.int .i64 0])]):=by
 obtain⟨Q,N,I,_,D⟩:=IZ F o.x v.x;obtain⟨S,O,J,_,G⟩:=IZ F o.y v.y;obtain⟨C,B,K,_,H⟩:=HN F I J;refine⟨C,B,K.mono (by omega),?_⟩;refine AJ Tryz.func277 fun E f=>?_
 conv=>cbv
 refine AB f D ?_;conv=>cbv
 refine AB f G ?_;conv=>cbv
 refine AU ?_;conv=>cbv
 refine AU ?_;conv=>cbv
 refine AB f H ?_;conv=>cbv
 exact AD ⟨t3,t2,trivial⟩
theorem oc {TT:List (List Rat)->Prop} {w:List (List Rat)} {R b c M q p k k' l l':Nat} (F:Fm TT w R b c M q p) {T1 T2 h i:List LR} {A1 A2 f g:LR} {x1 y1 x2 y2:Re} (I:Vm TT w b k k' T1 A1 T2 A2 x1 y1) (J:Vm TT w b l l' h f i g x2 y2) (L:k'+l+c+2<=M:=by omega) (H:k+l'+c+2<=M:=by omega):∃T A,Nm TT w b (k+k'+l+l'+3) T A (-y1*x2+x1*y2)/\CF 270 [.agg (Af T1 A1 T2 A2),.agg (Af h f i g)] (.AG [(true,(AR T A)),(false,[.int .i64 0])]):=by
 obtain⟨K,D,B⟩:=og F I;obtain⟨v,o,G,C⟩:=aw F D J;refine⟨v,o,G.mono (by omega),?_⟩;refine AJ Tryz.func270 fun E j=>?_
 conv=>cbv
 refine AB j B ?_;conv=>cbv
 refine AB j C ?_;conv=>cbv
 refine BG ?_;exact AD ⟨t3,t2,trivial⟩
theorem ou {TT:List (List Rat)->Prop} {w:List (List Rat)} {R b c M q p k k':Nat} (F:Fm TT w R b c M q p) {T1 T2:List LR} {A1 A2:LR} {x1 y1:Re} (f:Vm TT w b k k' T1 A1 T2 A2 x1 y1) (B:2*k+c+2<=M:=by omega) (v:2*k'+c+2<=M:=by omega):∃T A,Nm TT w b (2*k+2*k'+3) T A (x1*x1+y1*y1)/\CF 189 [.agg (Af T1 A1 T2 A2)] (.AG [(true,(AR T A)),(false,[.int .i64 0])]):=by
 obtain⟨h,g,j,i⟩:=aw F f f;refine⟨h,g,j.mono (by omega),?_⟩;refine AJ Tryz.func189 fun E o=>?_
 conv=>cbv
 refine AB o i ?_;conv=>cbv
 exact AD ⟨t3,t2,trivial⟩
end Go.Abs
namespace Go.Abs
structure Ml (w:List (List Rat)) (E:Nat):Prop where
 dn:∃K:Nat,0<K/\K<=2^E/\∀{x y:Re} {D D':Nat},In w x->In w y->DN D (co w x)->DN D' (co w y)->DN (D*D'*K) (co w (x*y))
 mx:∀{x y:Re} {B C:Nat},In w x->In w y->MX B (co w x)->MX C (co w y)->MX (B*C*2^E) (co w (x*y))
section
variable {u:List (List Rat)} {r:List Rat} {E R s t:Nat} {x y:Re}
end
end Go.Abs
namespace Go.Abs
def Rb (w:List (List Rat)):List (List Rat)->Nat->Prop
 | [],k=>k=0
 | r::u,k=>∃k1 k2,k=k1+k2/\Rb w u k1/\∃y,y*rt u r=1/\Bd k2 (co w y)
end Go.Abs
namespace Go.Abs
structure Wv (w:List (List Rat)) (σ κ ν:Nat) (v:Re):Prop where
 root:In w (Re.sqrt v)
 rb:Bd σ (co w (Re.sqrt v))
 inv:∃y,y*Re.sqrt v=1/\Bd κ (co w y)
 vb:Bd ν (co w v)
section
variable {w u:List (List Rat)} {E σ κ ν m:Nat}
end
end Go.Abs
namespace Go.Abs
section
variable {P:List (List Rat)->Prop} {V:List Re}
theorem Tf.Mh (I:DU P 256) (hV:∀{u},P u->∀v∈Go.Abs.Aq u,v∈V) (h3:V.length<=3) {u:List (List Rat)} (h:Tf P u):TB Rn u:=(h.Sh I hV h3).2.mono (by decide +kernel)
abbrev Ce:Nat:=226506
theorem Tf.V8 (I:DU P 256) (hV:∀{u},P u->∀v∈Go.Abs.Aq u,v∈V) (h3:V.length<=3) {u w:List (List Rat)} {s:Nat} {x:Re} (hu:Tf P u) (hw:Tf P w) (g:BO u w) (f:El u s x):El w (s+Ce) x:=by
 by_cases i:w.length<=2
 ·refine (f.Bi (hw.red I) (hw.Mh I hV h3) (hu.red I) (hu.Mh I hV h3) g).mono ?_;have:=Jd (k:=u.length) (k':=3) (R0:=Rn) (H4:=Rn) (h:=w.length) (h':=2) (R:=Rn) (R':=Rn) (Nat.le_trans (hu.len I hV) h3) (Nat.le_refl _) i (Nat.le_refl _);have B:CC 3 Rn 2 Rn=Ce:=by decide +kernel
  omega
 refine⟨g _ f.mem,(Ul (hw.red I) (hu.red I) (fun v o=>Classical.byContradiction fun j=>?_) f.mem f.bd).mono (Nat.le_add_right _ _)⟩
 have:=IW (l:=v::Go.Abs.Aq w) (m:=V) (List.nodup_cons.2 ⟨j,Hw (hw.red I)⟩) (fun x f=>by
  rcases List.mem_cons.1 f with rfl | f
  ·exact hu.Aq I hV _ o
  exact hw.Aq I hV x f)
 rw[List.length_cons,Iu] at this;omega
end
end Go.Abs
namespace Go.Abs
def P4 (P:List (List Rat)->Prop) (n:Re) (u:List (List Rat)):Prop:=P u\/∃u0,Tf P u0/\In u0 n/\u<:+Ar u0 n
abbrev R4:Nat:=1920500
abbrev E4:Nat:=1942090
abbrev Rf:Nat:=150420000
section
variable {P:List (List Rat)->Prop} {V:List Re} {w:List (List Rat)} {n:Re}
end
end Go.Abs
namespace Go.Abs
abbrev Cf:Nat:=214500000
abbrev Mf:Nat:=156000000000
theorem gg:∀h,h<=4->Fit h Rf (Mf+Cf)
 |0,_|1,_|2,_|3,_|4,_=>⟨by decide +kernel,by decide +kernel,by decide +kernel,by decide +kernel⟩
 | _+5,h=>absurd h (by omega)
theorem gd:∀h,h<=4->ES h Rf (Mf+Cf)
 |0,_|1,_|2,_|3,_|4,_=>⟨by decide +kernel,by decide +kernel,by decide +kernel,by decide +kernel⟩
 | _+5,h=>absurd h (by omega)
theorem jb:2*(Mf+Cf)+EE 4 Rf<=60000000000000:=by decide +kernel
theorem iO:II 4 Rf Mf<=60000000000000:=by decide +kernel
theorem gu {P:List (List Rat)->Prop} {R0 S:Nat} (I:DU P R0) (o:∀{u},Tf P u->TB Rf u) (f:∀{u},Tf P u->u.length<=4) (i:∀{u w s x},Tf P u->Tf P w->BO u w->El u s x->El w (s+Cf) x) (j:Rf<=S) (g:S<=Mf):Cj (Tf P) Rf Cf S where
 Ag:=fun {u} h=>⟨h.red I,o h,by decide,by have:=f h;omega⟩
 ht:=fun {u} h=>by have:=f h;omega
 nil:= .nil
 sub:=fun {r u} h=>h.sub I
 Ar:=fun {t r u} ht h i=>ht.Py I h i
 Bi:=i
 fit:=fun {u} h=>(gg _ (f h)).mono (Nat.add_le_add_right g Cf)
 mul:=fun {u} h=>Nat.le_trans (Nat.add_le_add (Nat.mul_le_mul_left 2 (Nat.add_le_add_right g Cf)) (H0 (h:=u.length) (h':=4) (R:=Rf) (R':=Rf) (f h) (Nat.le_refl _))) jb
 RS:=j
 IH:=fun {u} h=>(gd _ (f h)).mono (Nat.add_le_add_right g Cf)
section
variable {P:List (List Rat)->Prop} {V:List Re} {w:List (List Rat)} {n:Re}
theorem gq (I:DU P 256) (hV:∀{u},P u->∀v∈Go.Abs.Aq u,v∈V) (h3:V.length<=3) {S:Nat} (f:Rf<=S) (g:S<=Mf):Cj (Tf P) Rf Cf S:=by
 refine gu I (fun {u} h=>(h.Mh I hV h3).mono (by decide)) (fun h=>Nat.le_trans (h.len I hV) (by omega)) (fun {u v s x} hu j i o=>(Tf.V8 I hV h3 hu j i o).mono ?_) f g
 show s+226506<=s+214500000
 omega
end
end Go.Abs
namespace Go.Abs
open Go.RowKit
abbrev Ve:=Nu×Nu
noncomputable def vm (p:Ve):el Ai:=(nm p.1,nm p.2)
noncomputable def FJ (ns:List Nu) (W:List UInt8):List Ve:=(List.range (W.length/2)).map fun i=>(CV ns (W.getD (2*i) 0).toNat,CV ns (W.getD (2*i+1) 0).toNat)
theorem lA (ns:List Nu) (W:List UInt8):(FJ ns W).length=W.length/2:=by rw[FJ,List.length_map,List.length_range]
theorem af {W:List UInt8} {i:Nat} {x:UInt8} (h:W[i]? =some x):W.getD i 0=x:=by rw[List.getD_eq_getElem?_getD,h];rfl
theorem Ym {ns:List Nu} {W:List UInt8} {i:Nat} {x y:UInt8} (g:W[2*i]? =some x) (f:W[2*i+1]? =some y):(FJ ns W).take (i+1)=(FJ ns W).take i++[(CV ns x.toNat,CV ns y.toNat)]:=by
 have j:=Gb f
 have h:(FJ ns W)[i]? =some (CV ns x.toNat,CV ns y.toNat):=by
  rw[FJ,List.getElem?_map,List.getElem?_range (by omega)]
  show some (CV ns (W.getD (2*i) 0).toNat,CV ns (W.getD (2*i+1) 0).toNat)=_
  rw[af g,af f]
 exact Cg h
theorem WR (ns:List Nu) (i:Nat):CV ns i∈ns\/CV ns i=F3:=by
 by_cases h:ns=[]
 ·right;subst h;rfl
 exact .inl (Qo h i)
theorem Yl {ns:List Nu} {W:List UInt8} {p:Ve} (h:p∈FJ ns W):(p.1∈ns\/p.1=F3)/\(p.2∈ns\/p.2=F3):=by
 obtain⟨i,_,rfl⟩:=List.mem_map.1 h;exact⟨WR _ _,WR _ _⟩
abbrev Fe (TT:List (List Rat)->Prop) (w:List (List Rat)):Prop:=Fm TT w Rn 11500 20 43400000 23 14
abbrev Fd (TT:List (List Rat)->Prop) (w:List (List Rat)):Prop:=Fm TT w Rf 1950000 110 80000 47 23
abbrev Nd (TT:List (List Rat)->Prop) (w:List (List Rat)) (k:Nat) (T:List LR) (A:LR) (x:Re):Prop:=Nm TT w 1950000 k T A x
abbrev Vd (TT:List (List Rat)->Prop) (w:List (List Rat)) (k k':Nat) (T1:List LR) (A1:LR) (T2:List LR) (A2:LR) (x y:Re):Prop:=Vm TT w 1950000 k k' T1 A1 T2 A2 x y
theorem iP (t:Nat):II 3 Rn t<=23*t+14*11500:=by simp only[II,EE,Rn];omega
structure Pl (P:List (List Rat)->Prop) (V:List Re) (w:List (List Rat)):Prop where
 I:DU P 256
 hV:∀{u},P u->∀v∈Aq u,v∈V
 h3:V.length<=3
 hw:Tf P w
 ha:∀{u},Tf P u->BO u w
theorem kT {P:List (List Rat)->Prop} {V:List Re} (I:DU P 256) (hV:∀{u},P u->∀v∈Aq u,v∈V) (h3:V.length<=3):∃w,Pl P V w:=by
 obtain⟨w,hw,ha⟩:=Tf.top I (fun {u} h=>Nat.le_trans (h.len I hV) h3);exact⟨w,I,hV,h3,hw,ha⟩
section
variable {P:List (List Rat)->Prop} {V:List Re} {w:List (List Rat)}
theorem Pl.len (L:Pl P V w) {u:List (List Rat)} (h:Tf P u):u.length<=3:=Nat.le_trans (h.len L.I L.hV) L.h3
theorem Pl.mul (L:Pl P V w) {x y:Re} {s t:Nat} (f:El w s x) (g:El w t y):El w (s+t+10794) (x*y):=(f.mul ⟨L.hw.red L.I,L.hw.Mh L.I L.hV L.h3,by decide,by have:=L.len L.hw;omega⟩ g).mono (by
 have:=H0 (L.len L.hw) (Nat.le_refl Rn);have e:EE 3 Rn=10794:=by decide +kernel
 omega)
theorem Pl.inv (L:Pl P V w) {x y:Re} {s:Nat} (f:El w s x) (g:In w y) (e:x*y=1):El w (23*s+14*11500) y:=(f.inv ⟨L.hw.red L.I,L.hw.Mh L.I L.hV L.h3,by decide,by have:=L.len L.hw;omega⟩ g e).mono (Nat.le_trans (Mw (L.len L.hw) (Nat.le_refl _) (Nat.le_refl _)) (iP s))
theorem Pl.fd (L:Pl P V w):Fd (Tf P) w:=by
 refine⟨fun {S} h i=>gq L.I L.hV L.h3 h (Nat.le_trans i (by decide)),L.hw,L.ha,by decide,by decide,fun f g=>(L.mul f g).mono (by omega),fun f g e=>(L.inv f g e).mono (by omega),fun {u} hu=>?_⟩;exact Nat.le_trans (Mw (Nat.le_trans (L.len hu) (by decide:3<=4)) (Nat.le_refl _) (Nat.le_refl _)) iO
end
theorem ME {V:List Re} {ns:List Nu} (hV:V.length<=3) (h:∀n∈ns,BP V n):∃w,Pl (PN ns) V w:=kT (PN.EL hV h) (fun f=>PN.Aq h f) hV
theorem gi {V:List Re} {ns:List Nu} (hV:V.length<=3) (h:∀n∈ns,BP V n):∃w,Fd (Tf (PN ns)) w:=by
 obtain⟨w,L⟩:=ME hV h;exact⟨w,L.fd⟩
theorem IV {V:List Re} {ns:List Nu} {w:List (List Rat)} (L:Pl (PN ns) V w) (h:∀n∈ns,BP V n) {n:Nu} (f:n∈ns\/n=F3) {b k:Nat} (hb:227018<=k*b):Nm (Tf (PN ns)) w b k (tw n.1) (em n.1 n.2) n.2:=by
 rcases f with f | rfl
 ·have hu:=EH L.h3 h f;have he:=(h n f).el L.h3;exact⟨n.1,hu,rfl,rfl,he.mem,(Tf.V8 L.I L.hV L.h3 hu L.hw (L.ha hu) he).mono (Nat.le_trans (by decide) hb)⟩
 exact⟨[],.nil,rfl,rfl,EK 0 [],(El.rat (L.hw.red L.I) (Ju (b:=64) (r:=0) (by decide +kernel) (Nat.le_refl 64))).mono (Nat.le_trans (by decide) hb)⟩
theorem kz {V:List Re} {ns:List Nu} {W:List UInt8} {w:List (List Rat)} (L:Pl (PN ns) V w) (h:∀n∈ns,BP V n) {i:Nat} {x:el Ai} {Q:List (el Ai)} (j:Q=(FJ ns W).map vm) (f:Q[i]? =some x):∃X Y,∀{b k:Nat},227018<=k*b->Vm (Tf (PN ns)) w b k k x.1.1 x.1.2 x.2.1 x.2.2 X Y:=by
 rw[j,List.getElem?_map] at f;cases g:(FJ ns W)[i]? with
 | none=>rw[g] at f;simp at f
 | some p=>
  rw[g] at f;have e:vm p=x:=Option.some.inj f;obtain⟨m1,m2⟩:=Yl (List.mem_of_getElem? g);rw[<-e];exact⟨_,_,fun hb=>⟨IV L h m1 hb,IV L h m2 hb⟩⟩
noncomputable def GK (ns:List Nu) (W:List UInt8):List (el Ai):=if W.length<=24 then (FJ ns W).map vm else []
theorem Yi {V:List Re} {ns:List Nu} {W:List UInt8} {w:List (List Rat)} (L:Pl (PN ns) V w) (h:∀n∈ns,BP V n) {i:Nat} {x:el Ai} {Q:List (el Ai)} (f:Q=GK ns W) (g:Q[i]? =some x):∃X Y,∀{b k:Nat},227018<=k*b->Vm (Tf (PN ns)) w b k k x.1.1 x.1.2 x.2.1 x.2.2 X Y:=by
 unfold GK at f
 split at f
 ·exact kz L h f g
 subst f;simp at g
theorem FL {TT:List (List Rat)->Prop} {w:List (List Rat)} (F:Fd TT w) {p q:Rat} (g:B9 p) (h:B9 q):∃A f,(A=em [] (Re.ofRat p)/\f=em [] (Re.ofRat q))/\Vd TT w 1 1 [] A [] f (Re.ofRat p) (Re.ofRat q):=
 ⟨_,_,⟨rfl,rfl⟩,OZ F (by decide) (Ju g),OZ F (by decide) (Ju h)⟩
theorem Ii {TT:List (List Rat)->Prop} {w:List (List Rat)} (F:Fd TT w) {p:Rat} (f:B9 p):∃A,A=em [] (Re.ofRat p)/\Nd TT w 1 [] A (Re.ofRat p):=⟨_,rfl,OZ F (by decide) (Ju f)⟩
theorem cG {L:List (el At)} {i:Int} {A:LR} (o:L=[]) (h:A=em [] 0):CF 158 [.one (.sl At L),.one (.int .i64 i)] (.agg (AR [] A)):=by
 have v:L.length=0:=by rw[o];rfl
 refine AJ Tryz.func158 fun E j=>?_
 conv=>cbv
 rintro D ⟨C,f6⟩;conv=>cbv
 intro B f;conv=>cbv
 cases B <;> conv=>cbv
 ·have g:=Ah f;exact absurd g (by omega)
 have g:=Aj f;refine AB (r:= .agg [.sl (.sl AA) (([]:List LR)),.sl AA A]) j (HZ (x:=0) (by decide) (by rw[h];rfl)) ?_;try conv=>cbv
 exact AD ⟨t3,trivial⟩
theorem M8 {L:List (el At)} {ns:List Nu} {i:Int} {i':Nat} {n:Nu} {T:List LR} {A:LR} (j:L=ns.map nm) (hi:AO i i') (o:n=CV ns i') (g:T=tw n.1) (f:A=em n.1 n.2):CF 158 [.one (.sl At L),.one (.int .i64 i)] (.agg (AR T A)):=by
 by_cases h:ns=[]
 ·subst h;have e:n=F3:=o;rw[e] at g f;rw[show T=[] from g];exact cG j f
 exact cH j h hi o g f
theorem ay {X:List (el Bn)} {W:List UInt8} {ns:List Nu} (j:ns=(runN (X.take 24)).1) {V:List Re} (D:V.length<=3) (h:∀n∈ns,BP V n) (F:24<W.length):CF 44 [.agg [.sl Bn X,.sl .u8 W]] (.AG [(false,[.sl Ai (([]:List (el Ai)))]),(false,[.bool false])]):=by
 refine AJ Tryz.func44 fun E o=>?_
 conv=>cbv
 obtain⟨B,g⟩:∃z:List (el At),z=ns.map nm:=⟨_,rfl⟩
 refine AB (r:= .one (.sl At B)) o (LF (by rw[g,j])) ?_;conv=>cbv
 refine AB o (M7 g (fun n v=>⟨(h n v).cos,(h n v).E2⟩)) ?_;conv=>cbv
 refine AU ?_;conv=>cbv
 rintro n16 ⟨C,f16⟩;conv=>cbv
 intro n17 f;conv=>cbv
 cases n17 <;> conv=>cbv
 ·have i:=Bq f;exact absurd i (by omega)
 have i:=Br f;exact AD ⟨⟨rfl,Bj,trivial⟩,t2,trivial⟩
theorem az {X:List (el Bn)} {W:List UInt8} {ns:List Nu} (an:ns=(runN (X.take 24)).1) {V:List Re} (aq:V.length<=3) (aa:∀n∈ns,BP V n) (hW:W.length<=24) {Q:List (el Ai)} (hQ:Q=(FJ ns W).map vm):CF 44 [.agg [.sl Bn X,.sl .u8 W]] (.AG [(false,[.sl Ai Q]),(false,[.bool true])]):=by
 have av:=lA ns W;refine AJ Tryz.func44 fun E hE=>?_
 conv=>cbv
 obtain⟨L9,K⟩:∃z:List (el At),z=ns.map nm:=⟨_,rfl⟩
 refine AB (r:= .one (.sl At L9)) hE (LF (by rw[K,an])) ?_;conv=>cbv
 refine AB hE (M7 K (fun n hn=>⟨(aa n hn).cos,(aa n hn).E2⟩)) ?_;conv=>cbv
 refine AU ?_;conv=>cbv
 rintro n16 ⟨ao,f16⟩;conv=>cbv
 intro n17 a5;conv=>cbv
 cases n17 <;> conv=>cbv
 ·have ab:=Bq a5;refine .inr ?_;obtain⟨J0,Y⟩:=xJ fun vs bl k=>(∃(k':Nat) (j:Int),vs=[.one (.Ab 1 0 0),.one (.sl At L9),.one .nil,.one (.int .i64 j)]/\bl=[.var 0 [.sl Bn X,.sl .u8 W],.dead 0]/\(AO j (2*k')/\k'=0)/\k=W.length/2-k')\/(∃(o:List (el Ai)) (n k':Nat) (j:Int),vs=[.one (.Ab 1 0 0),.one (.sl At L9),.one (.AN Ai 47 0 0 n),.one (.int .i64 j)]/\bl=[.var 0 [.sl Bn X,.sl .u8 W],.arr 0 Ai o]/\(AO j (2*k')/\k'<=W.length/2/\n=o.length)/\o=((FJ ns W).take k').map vm/\k=W.length/2-k')
  refine⟨[],[1,4,5,6],[1,47],J0,⟨W.length/2-0,by rw[Y];exact .inl ⟨0,0,rfl,rfl,⟨Al 0,rfl⟩,rfl⟩⟩,?_⟩;intro vs bl aw hj;rw[Y] at hj;rcases hj with⟨k',j,rfl,rfl,⟨hj,a6⟩,al⟩ |⟨o,n,k',j,rfl,rfl,⟨hj,ar,hn⟩,hinv,al⟩
  ·conv=>cbv
   have ej:=hj.eq;intro n20 ah;conv=>cbv
   refine AI ?_;rintro n23 ⟨ae,f23⟩;conv=>cbv
   intro n24 L;conv=>cbv
   cases n24 <;> conv=>cbv
   ·have a1:=AW L;exact AD ⟨⟨rfl,.inr (.inl ⟨_,congrArg _ (by rw[hQ,List.eq_nil_of_length_eq_zero (show (FJ ns W).length=0 by omega)];rfl)⟩),trivial⟩,t2,trivial⟩
   have a1:=AY L;refine .inr ?_;obtain⟨f,D⟩:=AK (l:=W) (i:=(2*k')) (by omega);refine⟨f,fun _=>⟨by omega,by rw[show (j).toNat=(2*k') by omega];exact D⟩,?_⟩;try conv=>cbv
   intro n33 N;have af:=N.eq;have f33:=N.lt;conv=>cbv
   intro n34 O;conv=>cbv
   have O:=wrap_i64 O;obtain⟨I,B⟩:=DE (tw (CV ns f.toNat).1);obtain⟨G,h⟩:=Bo (em (CV ns f.toNat).1 (CV ns f.toNat).2);refine AB hE (M8 K ⟨by omega⟩ rfl B h) ?_;conv=>cbv
   intro n40 aj;conv=>cbv
   refine AI ?_;obtain⟨g,F⟩:=AK (l:=W) (i:=(2*k'+1)) (by omega);refine⟨g,fun _=>⟨by omega,by rw[show (n40).toNat=(2*k'+1) by omega];exact F⟩,?_⟩;try conv=>cbv
   intro n42 S;have ag:=S.eq;have f42:=S.lt;conv=>cbv
   intro n43 U;conv=>cbv
   have U:=wrap_i64 U;obtain⟨J,C⟩:=DE (tw (CV ns g.toNat).1);obtain⟨H,v⟩:=Bo (em (CV ns g.toNat).1 (CV ns g.toNat).2);refine AB hE (M8 K ⟨by omega⟩ rfl C v) ?_;conv=>cbv
   refine⟨[((I,G),(J,H))],fun _=>⟨rfl,by decide,rfl,⟨rfl,by first | exact t1 | exact t2 | exact t4 | simp[Ao,BA,cells],trivial⟩⟩,.inr ?_⟩;try conv=>cbv
   refine .inl ⟨[((I,G),(J,H))],fun _=>⟨rfl,by show (1)*96<=140737488355328;(try simp only[List.length_take,List.length_drop]);omega⟩,?_⟩;intro ad ak;conv=>cbv
   refine BG ?_;intro n26 ai;conv=>cbv
   refine AI ?_;refine⟨W.length/2-(k'+1),?_,?_⟩
   ·omega
   rw[Y];exact .inr ⟨_,_,k'+1,_,rfl,rfl,⟨⟨by omega⟩,by omega,ak⟩,by rw[Ym D F,List.map_append,B,h,C,v,a6];rfl,rfl⟩
  conv=>cbv
  have ej:=hj.eq;have au:o.length<=12:=by rw[hinv,List.length_map,List.length_take];omega
  intro n20 ah;conv=>cbv
  refine AI ?_;rintro n23 ⟨ae,f23⟩;conv=>cbv
  intro n24 L;conv=>cbv
  cases n24 <;> conv=>cbv
  ·have a1:=AW L;exact AD ⟨⟨rfl,.inl ⟨_,rfl,by omega,congrArg _ (by rw[hQ,hn,List.drop_zero,List.take_length,hinv,List.take_of_length_le (by omega)])⟩,trivial⟩,t2,trivial⟩
  have a1:=AY L;refine .inr ?_;obtain⟨f,D⟩:=AK (l:=W) (i:=(2*k')) (by omega);refine⟨f,fun _=>⟨by omega,by rw[show (j).toNat=(2*k') by omega];exact D⟩,?_⟩;try conv=>cbv
  intro n33 N;have af:=N.eq;have f33:=N.lt;conv=>cbv
  intro n34 O;conv=>cbv
  have O:=wrap_i64 O;obtain⟨I,B⟩:=DE (tw (CV ns f.toNat).1);obtain⟨G,h⟩:=Bo (em (CV ns f.toNat).1 (CV ns f.toNat).2);refine AB hE (M8 K ⟨by omega⟩ rfl B h) ?_;conv=>cbv
  intro n40 aj;conv=>cbv
  refine AI ?_;obtain⟨g,F⟩:=AK (l:=W) (i:=(2*k'+1)) (by omega);refine⟨g,fun _=>⟨by omega,by rw[show (n40).toNat=(2*k'+1) by omega];exact F⟩,?_⟩;try conv=>cbv
  intro n42 S;have ag:=S.eq;have f42:=S.lt;conv=>cbv
  intro n43 U;conv=>cbv
  have U:=wrap_i64 U;obtain⟨J,C⟩:=DE (tw (CV ns g.toNat).1);obtain⟨H,v⟩:=Bo (em (CV ns g.toNat).1 (CV ns g.toNat).2);refine AB hE (M8 K ⟨by omega⟩ rfl C v) ?_;conv=>cbv
  refine⟨[((I,G),(J,H))],fun _=>⟨rfl,by decide,rfl,⟨rfl,by first | exact t1 | exact t2 | exact t4 | simp[Ao,BA,cells],trivial⟩⟩,.inr ?_⟩;try conv=>cbv
  refine .inl ⟨[((I,G),(J,H))],fun _=>⟨rfl,by (first | rfl | omega),rfl,by show (o.length+1)*96<=140737488355328;(try simp only[List.length_take,List.length_drop]);omega⟩,?_⟩;intro (a2:List (el Ai)) ad Z;have a7:a2=(o:List (el Ai))++([((I,G),(J,H))]:List (el Ai)):=Z.1;have a8:ad=List.length (α:=(el Ai)) a2:=Z.2;conv=>cbv
  refine BG ?_;intro n26 ai;conv=>cbv
  refine AI ?_;refine⟨W.length/2-(k'+1),?_,?_⟩
  ·omega
  rw[Y];exact .inr ⟨a2,_,k'+1,_,rfl,rfl,⟨⟨by omega⟩,by omega,a8⟩,by rw[a7,hinv,Ym D F,List.map_append,B,h,C,v];rfl,rfl⟩
 have ab:=Br a5;exact absurd ab (by omega)
theorem ot {X:List (el Bn)} {W:List UInt8} {ns:List Nu} (h:ns=(runN (X.take 24)).1) {V:List Re} (g:V.length<=3) (j:∀n∈ns,BP V n) {Q:List (el Ai)} {i:Int} {i':Nat} {c:Bool} (hi:AO i i') (C:W.length<=24) (B:Q=(FJ ns W).map vm) (D:c=decide (i'<=Q.length)):CF 34 [.agg [.sl Bn X,.sl .u8 W],.one (.int .i64 i)] (.AG [(false,[.sl Ai Q]),(false,[.bool c])]):=by
 have F:=hi.eq;refine AJ Tryz.func34 fun E v=>?_
 conv=>cbv
 refine AB v (az h g j C B) ?_;conv=>cbv
 rintro n17 ⟨o,f17⟩;conv=>cbv
 intro n19 f;conv=>cbv
 exact AD ⟨t2,⟨rfl,congrArg _ (by rw[D,f,Bool.eq_iff_iff,decide_eq_true_eq,decide_eq_true_eq];omega),trivial⟩,trivial⟩
theorem oq {X:List (el Bn)} {W:List UInt8} {ns:List Nu} (g:ns=(runN (X.take 24)).1) {V:List Re} (f:V.length<=3) (h:∀n∈ns,BP V n) {i:Int} (o:24<W.length):CF 34 [.agg [.sl Bn X,.sl .u8 W],.one (.int .i64 i)] (.AG [(false,[.sl Ai (([]:List (el Ai)))]),(false,[.bool false])]):=by
 refine AJ Tryz.func34 fun E j=>?_
 conv=>cbv
 refine AB j (ay g f h o) ?_;conv=>cbv
 exact AD ⟨t2,t2,trivial⟩
theorem a7 {X:List (el Bn)} {W:List UInt8} {ns:List Nu} (g:ns=(runN (X.take 24)).1) {V:List Re} (f:V.length<=3) (h:∀n∈ns,BP V n) {Q:List (el Ai)} (j:Q=GK ns W) {i:Int} {i':Nat} (hi:AO i i') (v:0<i') {c:Bool} (o:c=decide (i'<=Q.length)):CF 34 [.agg [.sl Bn X,.sl .u8 W],.one (.int .i64 i)] (.AG [(false,[.sl Ai Q]),(false,[.bool c])]):=by
 unfold GK at j
 split at j
 ·exact ot g f h hi (by assumption) j o
 subst j;rw[o,decide_eq_false (by simp;omega)];exact oq g f h (by omega)
end Go.Abs
namespace Go.Abs
open Go.RowKit
open Classical in
noncomputable def fs (x y:Re):Re:=if x=0 then y else x
open Classical in
noncomputable def un (x:Re):Re:=if x=0 then 0 else 1
section
variable {x y z:Re}
theorem lO:(1:Re)≠0:=fun e=>absurd (Re.E0.1 (show Re.ofRat 1=Re.ofRat 0 from e)) (by decide)
theorem Wu {i:Re} (h:x*i=1):i=Ci x:=by
 have f:x≠0:=fun e=>lO (by rw[<-h,e];grind)
 have:=Gh f;have e:i=i*(x*Ci x):=by rw[this];grind
 rw[e,show i*(x*Ci x)=(x*i)*Ci x by grind,h];grind
end
structure LnM (TT:List (List Rat)->Prop) (w:List (List Rat)) (b k l:Nat) (T1:List LR) (A1:LR) (T2:List LR) (A2:LR) (T3:List LR) (A3:LR) (x y z:Re):Prop where
 x:Nm TT w b 1 T1 A1 x
 y:Nm TT w b k T2 A2 y
 z:Nm TT w b l T3 A3 z
section
variable {TT:List (List Rat)->Prop} {w:List (List Rat)} {R b c M q p k k' l l':Nat} {T1 T2:List LR} {A1 A2:LR} {x y:Re}
theorem Nm.shrink (h:Nm TT w b k T1 A1 x) (g:Nm TT w b l T2 A2 y) (e:x=y):Nm TT w b l T1 A1 x:=by
 obtain⟨u,f,o,j,v,_⟩:=h;obtain⟨_,_,_,_,_,i⟩:=g;exact⟨u,f,o,j,v,e ▸ i⟩
theorem RV (F:Fm TT w R b c M q p) (f:c<=M) {r:Rat} (g:B9 r) (h:Nm TT w b k T1 A1 x) (e:x=Re.ofRat r):Nm TT w b 1 T1 A1 (Re.ofRat r):=e ▸ h.shrink (OZ F f (Ju g F.hb)) e
end
section
variable {x y z a d:Re}
end
section
variable {n m z n' m' z' x y x1 y1 x2 y2:Re}
end
theorem aO:Re.ofRat ((2:Int):Rat)=1+1:=by rw[show ((2:Int):Rat)=1+1 by decide +kernel,Re.ofRat_add];rfl
theorem iB:Re.ofRat (1/2)*(1+1)=1:=by rw[<-aO,<-Re.ofRat_mul,show (1/2:Rat)*((2:Int):Rat)=1 by decide +kernel];rfl
theorem GI (a:Rat):Ci (Re.ofRat a)=Re.ofRat a⁻¹:=by
 by_cases h:a=0
 ·subst h;unfold Ci;rw[dif_neg (fun h=>h rfl)];exact congrArg Re.ofRat (show (0:Rat)=0⁻¹ by decide +kernel)
 exact (Wu (by rw[<-Re.ofRat_mul,Rat.mul_inv_cancel a h];rfl)).symm
theorem D9 (a b:Rat):Re.ofRat a-Re.ofRat b=Re.ofRat (a-b):=by
 rw[show Re.ofRat a-Re.ofRat b=Re.ofRat a+ -Re.ofRat b by grind,<-Re.ofRat_neg,<-Re.ofRat_add,Rat.sub_eq_add_neg]
end Go.Abs
namespace Go.Abs
open Go.RowKit
variable {M R b c l p:Nat} {TT:List (List Rat)->Prop} {q:Rat} {w:List (List Rat)}
theorem j7 {q k:Nat} (F:Fm TT w R b c M q p) {T1:List LR} {A1:LR} {x:Re} (ha:Nm TT w b k T1 A1 x) (L:k+c+1<=M) (i:∀u,TT u->T1=tw u->In u x->TT (Ar u x)) (C:0<=x) (hs:El w (l*b) (Re.sqrt x)) (S:l+c+1<=M):∃U B,Nm TT w b l U B (Re.sqrt x)/\CF 114 [.agg (AR T1 A1)] (.AG [(true,(AR U B)),(false,[.int .i64 0])])/\CF 106 [.agg (AR T1 A1)] (.AG [(true,(AR U B)),(false,[.int .i64 0])]):=by
 obtain⟨u,hu,f,h,J,N,I⟩:=F.own (by omega) ha;have G:=F.g L (by omega);have hw:=i u hu f J;have j:=LM J C;obtain⟨v,W,D,K,_,_,H⟩:=F.own (by omega) (show Nm TT w b l (tw (Ar u x)) (em (Ar u x) (Re.sqrt x)) (Re.sqrt x) from⟨_,hw,rfl,rfl,j,hs⟩);have ev:v=Ar u x:=(Mo D).symm;subst ev
 have hb:(l+c)*b<=60000000000000:=by
  have O:=(F.g (Nat.le_refl M) (by omega)).toGam.mul F.top;have Q:(l+c)*b<=M*b:=Nat.mul_le_mul_right b (by omega);omega
 have o:=I.mono (Nat.mul_le_mul_right b (Nat.le_succ (k+c)));exact⟨_,_,⟨_,hw,rfl,rfl,j,hs⟩,PY G.toGam hu f h o hw C rfl rfl H hb,Pm G hu f h o hw C rfl rfl⟩
structure Rt (TT0:List (List Rat)->Prop) (w0:List (List Rat)) (b0 K:Nat) (TT:List (List Rat)->Prop) (w:List (List Rat)) (b l:Nat) (v:Re):Prop where
 get:∀{k:Nat} {T1:List LR} {A1:LR},k<=K->Nm TT0 w0 b0 k T1 A1 v->∃U B,Nm TT w b l U B (Re.sqrt v)/\CF 114 [.agg [.sl (.sl AA) T1,.sl AA A1]] (.AG [(true,[.sl (.sl AA) U,.sl AA B]),(false,[.int .i64 0])])/\CF 106 [.agg [.sl (.sl AA) T1,.sl AA A1]] (.AG [(true,[.sl (.sl AA) U,.sl AA B]),(false,[.int .i64 0])])
theorem ZL {q K:Nat} {v:Re} (F:Fm TT w R b c M q p) (j:K+c+1<=M) (f:∀u,TT u->In u v->TT (Ar u v)) (g:0<=v) (hs:El w (l*b) (Re.sqrt v)) (h:l+c+1<=M:=by omega):Rt TT w b K TT w b l v:=
 ⟨fun o ha=>j7 F ha (by omega) (fun u hu _ i=>f u hu i) g hs h⟩
theorem Yq (D:B9 q) (j:(0:Re)<=Re.ofRat q) (h:¬Sq [] (Re.ofRat q)):BP [Re.ofRat q] (Ar [] (Re.ofRat q),Re.sqrt (Re.ofRat q)):=by
 refine⟨ML Kl (EK q []) j,LM (EK q []) j,fun v i=>?_,fun s hs o f=>?_,fun o f=>?_⟩
 ·rcases Mp (EK q []) v i with rfl | i
  ·exact List.mem_singleton.2 rfl
  simp[Aq] at i
 ·have hs:s∈Ar [] (Re.ofRat q):=hs;rw[Dq h] at hs;rw[List.mem_singleton.1 hs,CQ] at f;rw[List.mem_singleton.1 f];exact D
 have f:o∈co (Ar [] (Re.ofRat q)) (Re.sqrt (Re.ofRat q)):=f
 have g:=MM Kl (EK q []) (by
  have:Re.ofRat q≠0:=fun e=>h ⟨0,Bx [],by rw[e];grind⟩
  grind) h
 rw[Dq h,<-Ip (EK q [])] at f;rw[Cz g (Bx []) (OD []) (show rt [] (co [] (Re.ofRat q))=0+1*rt [] (co [] (Re.ofRat q)) by grind)] at f;have B:co [] (0:Re)=[0]:=CQ 0;have C:co [] (1:Re)=[1]:=CQ 1;rw[B,C] at f;rcases List.mem_cons.1 f with rfl | f
 ·exact FN (k:=0) (by decide)
 rw[List.mem_singleton.1 f];exact FN (k:=1) (by decide)
theorem RX:¬Sq [] (Re.ofRat 2):=Xu (k:=2) (m:=1) (by decide) (by decide)
theorem Xv:¬Sq [] (Re.ofRat (1/2)):=by
 rintro⟨y,f,e⟩
 refine RX ⟨Re.ofRat 2*y,Ak Kl (EK 2 []) f,?_⟩;have:Re.ofRat 2*y*(Re.ofRat 2*y)=Re.ofRat 2*Re.ofRat 2*(y*y):=by grind
 rw[this,e,<-Re.ofRat_mul,<-Re.ofRat_mul];exact congrArg Re.ofRat (by decide +kernel)
noncomputable def Fy:List Nu:=[(Ar [] (Re.ofRat (1/2)),Re.sqrt (Re.ofRat (1/2))),(Ar [] (Re.ofRat 2),Re.sqrt (Re.ofRat 2))]
theorem JP (h:0<=q):(0:Re)<=Re.ofRat q:=by rw[<-Re.Kd];exact Re.Kc.2 h
theorem RY:∀n∈Fy,BP [Re.ofRat (1/2),Re.ofRat 2] n:=by
 intro n f;rcases List.mem_cons.1 f with rfl | f
 ·exact (Yq (by decide +kernel) (JP (by decide +kernel)) Xv).mono (fun v g=>by rw[List.mem_singleton.1 g];simp)
 rw[List.mem_singleton.1 f];exact (Yq (by decide +kernel) (JP (by decide +kernel)) RX).mono (fun v g=>by rw[List.mem_singleton.1 g];simp)
theorem UP (f:¬Sq [] (Re.ofRat q)) {n:Nu} (hm:n∈Fy) (e:n.1=Ar [] (Re.ofRat q)) {u:List (List Rat)} (hu:Tf (PN Fy) u):Tf (PN Fy) (Ar u (Re.ofRat q)):=by
 have h:PN Fy [co [] (Re.ofRat q)]:=⟨n,hm,by rw[e,Dq f];exact List.suffix_refl _⟩;have:=Tf.Ar hu h (KG u);rwa [Dr (EK q [])] at this
theorem gY:∃w,Fd (Tf (PN Fy)) w/\Rt (Tf (PN Fy)) w 1950000 70000 (Tf (PN Fy)) w 1950000 1 (Re.ofRat (1/2))/\Rt (Tf (PN Fy)) w 1950000 70000 (Tf (PN Fy)) w 1950000 1 (Re.ofRat 2):=by
 obtain⟨w,L⟩:=ME (V:=[Re.ofRat (1/2),Re.ofRat 2]) (ns:=Fy) (by decide) RY;have f:(Ar [] (Re.ofRat (1/2)),Re.sqrt (Re.ofRat (1/2)))∈Fy:=List.mem_cons_self;have g:(Ar [] (Re.ofRat 2),Re.sqrt (Re.ofRat 2))∈Fy:=List.mem_cons_of_mem _ List.mem_cons_self;obtain⟨_,_,_,_,_,h⟩:=IV L RY (.inl f) (b:=1950000) (k:=1) (by decide);obtain⟨_,_,_,_,_,i⟩:=IV L RY (.inl g) (b:=1950000) (k:=1) (by decide);exact⟨w,L.fd,ZL L.fd (by decide) (fun u hu _=>UP Xv f rfl hu) (JP (by decide +kernel)) h,ZL L.fd (by decide) (fun u hu _=>UP RX g rfl hu) (JP (by decide +kernel)) i⟩
end Go.Abs
