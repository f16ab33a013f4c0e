/- Part 27 of a proof. Conditions: each theorem's own. -/
import Derived.Test.YtmaoeopjnhfplaaGreatPk25
set_option linter.all false
set_option maxHeartbeats 8000000
set_option maxRecDepth 20000
open Go.Proofs
namespace Go.Abs
open Go.RowKit
theorem AZ {f:FuncId} {fn:Func} (a:Tryz.prog.funcs[f]? =some fn) {args:List AV} {r:AV} (h:∀E,env Tryz.prog=E->TM E fn r none (Eh fn.ntmps args none)) (d:Hr fn=true:=by kernel_rfl) (g:(Lz args&&(r.all C6&&(r.wf&&Nat.ble args.length fn.ntmps)))=true:=by rfl):Gv Tryz.prog false f args r:=jh a d g h
theorem Bx {f:FuncId} {fn:Func} (a:Tryz.prog.funcs[f]? =some fn) {b0:BA} {args:List AV} {r:AV} (h:∀E,env Tryz.prog=E->TL E fn r b0 (Eh fn.ntmps args (some b0))) (d:Hr fn=true:=by kernel_rfl) (g:(Ku args&&(r.all Bt&&(b0.lone&&(Nat.ble args.length fn.ntmps&&Nat.ble 1 fn.ntmps))))=true:=by rfl):Bk Tryz.prog f args b0 r:=lE a d g h
theorem BB {ops:List Oper} {tr:Tr} {C:Prop} (h:C) (a:VI ops tr=true:=by kernel_rfl):(Unit->LB ops tr=true)/\C:=⟨fun _=>pD a,h⟩
end Go.Abs
namespace Go.Abs
theorem dL {E:Env} {g:FuncId} {args:List AV} {r:AV} {B:Nat->BA->List AV->Prop} {S:BA->BA} {K:Nat->AV->Prop} {d f j P5:Prop} (id:Nat) (b:BA) (n:env Tryz.prog=E) (h:Bk Tryz.prog g args (S b) r) (hb:B id b args) (o:K id r):
 d\/f\/j\/(∃(id:Nat) (b:BA) (a:List AV) (r:AV),(Unit->B id b a)/\(Unit->E.D g a (S b) r)/\K id r)\/P5:= .inr (.inr (.inr (.inl ⟨id,b,args,r,fun _=>hb,fun _=>H8 n h,o⟩)))
end Go.Abs
namespace Go.Abs
section
variable {P:List (List Rat)->Prop} {R0:Nat}
theorem oJ {α:Type} {Q:α->Prop} {f:α->Nat} {m:Nat} (hm:∀a,Q a->f a<=m) {a:α} (ha:Q a):∃b,Q b/\∀c,Q c->f c<=f b:=by
 induction h:m-f a using Nat.strongRecOn generalizing a with
 | _ n j=>
  by_cases hc:∀c,Q c->f c<=f a
  ·exact⟨a,ha,hc⟩
  obtain⟨c,g⟩:=Classical.not_forall.1 hc;obtain⟨d,h3⟩:=Classical.not_imp.1 g;have:=hm c d;exact j (m-f c) (by omega) d rfl
theorem Tf.top (I:CA P R0) {m:Nat} (hm:∀{u},Tf P u->u.length<=m):∃w,Tf P w/\∀{u},Tf P u->Bl u w:=by
 obtain⟨w,hw,B⟩:=oJ (Q:=Tf P) (f:=List.length) (fun u h=>hm h) Tf.nil;have n:=hw.red I
 have key:∀{u},P u->Bl u w:=by
  intro u
  induction u with
  | nil=>exact fun _=>MZ w
  | cons r u j=>
   intro a;have d:=j (I.sub a);have z:=I.red a;refine Kn n d ?_
   have g:Sq w (Al u r):=by
    apply Classical.byContradiction;intro A;have:=B _ (Tf.Aj hw a d);rw[C8 A,List.length_cons] at this;omega
   exact (I7 (by have:=z.2.2.1;grind)).1 g
 refine⟨w,hw,fun {u} h=>?_⟩
 induction h with
 | nil=>exact MZ w
 | @Aj u o v ht a d j=>
  by_cases g:Sq u (Al v o)
  ·rw[ED g];exact j
  rw[C8 g];refine Kn n j ?_;rw[HA (d _ (CO (I.red a)))];exact key a _ (J7 v o)
end
theorem El.down {u:List (List Rat)} {s:Nat} {x:Re} (f:In u x):∀{v:List (List Rat)},BF (v++u)->El (v++u) s x->El u s x
 | [],_,h=>h
 | r::v,d,h=>by
  have a:In (v++u) x:=OH v x f;refine El.down f (v:=v) d.1 ⟨a,?_⟩;obtain⟨D,d0,d1,d2,d3⟩:=h.bd;have e:co (r::(v++u)) x=co (v++u) x++co (v++u) 0:=EJ d a (CZ _) (by grind);rw[List.cons_append,e] at d2 d3;exact⟨D,d0,d1,(DN.app.1 d2).1,(MX.app.1 d3).1⟩
structure Fm (TT:List (List Rat)->Prop) (w:List (List Rat)) (R b c M q p:Nat):Prop where
 UH:∀{S},R<=S->S<=M*b->EM TT R (c*b) S
 top:TT w
 all:∀{u},TT u->Bl u w
 hR:R<=c*b
 hb:64<=b
 ar:∀{x y s t},El w s x->El w t y->El w (s+t+b) (x*y)
 mv:∀{x y s},El w s x->In w y->x*y=1->El w (q*s+p*b) y
 iu:∀{u},TT u->II u.length R (M*b)<=60000000000000
def Nm (TT:List (List Rat)->Prop) (w:List (List Rat)) (b k:Nat) (T:List (List (el AA))) (A:List (el AA)) (x:Re):Prop:=∃u,TT u/\T=tw u/\A=em u x/\In u x/\El w (k*b) x
section
variable {TT:List (List Rat)->Prop} {w:List (List Rat)} {R b c M q p k l:Nat} {T T1 T2:List (List (el AA))} {A A1 A2:List (el AA)} {x y:Re}
theorem Fm.g (F:Fm TT w R b c M q p) (h:k<=M) (a:c<=k):EM TT R (c*b) (k*b):=F.UH (Nat.le_trans F.hR (Nat.mul_le_mul_right b a)) (Nat.mul_le_mul_right b h)
theorem Fm.own (F:Fm TT w R b c M q p) (B:c<=M) (h:Nm TT w b k T A x):∃u,TT u/\T=tw u/\A=em u x/\In u x/\El w (k*b) x/\El u ((k+c)*b) x:=by
 obtain⟨u,hu,C,z,n,he⟩:=h;refine⟨u,hu,C,z,n,he,?_⟩;have G:=(F.g B (Nat.le_refl c)).toGam;obtain⟨f,D,h3⟩:=G.Bz hu F.top;have a:=G.CV F.top f h3 he;rw[<-Nat.add_mul] at a;rw[mw] at f a;have d:=(G.BJ f).red;unfold FZ at a d
 split at a
 ·exact a
 rename_i o
 rw[if_neg o] at d
 split at a
 ·rename_i j
  obtain⟨v,rfl⟩:=j;exact El.down n (G.BJ F.top).red a
 rename_i j
 rw[if_neg j] at d;obtain⟨v,e⟩:=Qk u w;rw[<-e] at a d;exact El.down n d a
theorem Nm.mono (h:Nm TT w b k T A x) (j:k<=l):Nm TT w b l T A x:=by
 obtain⟨u,a,d,h3,f,g⟩:=h;exact⟨u,a,d,h3,f,g.mono (Nat.mul_le_mul_right b j)⟩
theorem Nm.cast (h:Nm TT w b k T A x) (e:x=y):Nm TT w b k T A y:=e ▸ h
theorem Fm.two (F:Fm TT w R b c M q p) (ha:Nm TT w b k T1 A1 x) (hb:Nm TT w b l T2 A2 y) (J:k+c+1<=M) (K:l+c+1<=M):∃u v j,j<=M/\(j=k+c+1\/j=l+c+1)/\TT u/\TT v/\T1=tw u/\T2=tw v/\A1=em u x/\A2=em v y/\In u x/\In v y/\El w (k*b) x/\El w (l*b) y/\El u (j*b) x/\El v (j*b) y/\EM TT R (c*b) (j*b)/\TT (Bz u v)/\Bl u (Bz u v)/\Bl v (Bz u v):=by
 obtain⟨u,hu,f,a,L,z,o⟩:=F.own (by omega) ha;obtain⟨v,D,n,d,N,B,A⟩:=F.own (by omega) hb
 have key:∀j,j<=M->(j=k+c+1\/j=l+c+1)->k+c+1<=j->l+c+1<=j->∃u v j,j<=M/\(j=k+c+1\/j=l+c+1)/\TT u/\TT v/\T1=tw u/\T2=tw v/\A1=em u x/\A2=em v y/\In u x/\In v y/\El w (k*b) x/\El w (l*b) y/\El u (j*b) x/\El v (j*b) y/\EM TT R (c*b) (j*b)/\TT (Bz u v)/\Bl u (Bz u v)/\Bl v (Bz u v):=by
  intro j C I h3 O;have G:=F.g C (by omega);obtain⟨g1,g2,H⟩:=G.toGam.Bz hu D;exact⟨u,v,j,C,I,hu,D,f,n,a,d,L,N,z,B,o.mono (Nat.mul_le_mul_right b (by omega)),A.mono (Nat.mul_le_mul_right b (by omega)),G,g1,g2,H⟩
 by_cases h:k<=l
 ·exact key (l+c+1) K (.inr rfl) (by omega) (Nat.le_refl _)
 exact key (k+c+1) J (.inl rfl) (Nat.le_refl _) (by omega)
end
end Go.Abs
namespace Go.Abs
open Go.RowKit
section
variable {TT:List (List Rat)->Prop} {w:List (List Rat)} {R b c M q p k l:Nat} {T1 T2:List LR} {A1 A2:LR} {x y:Re}
theorem Nm.data {A3:LR} (h:Nm TT w b k T1 A1 x) (f:Nm TT w b l T1 A3 y) (e:x=y):A1=A3:=by
 obtain⟨u,_,j,g,_⟩:=h;obtain⟨v,_,d,a,_⟩:=f;rw[g,a,e,NY (j.symm.trans d)]
theorem EU (F:Fm TT w R b c M q p) (ha:Nm TT w b k T1 A1 x) (hb:Nm TT w b l T2 A2 y) (D:k+c+1<=M:=by omega) (H:l+c+1<=M:=by omega):∃T A,Nm TT w b (k+l+1) T A (x+y)/\CF 151 [.agg (As T1 A1),.agg (As T2 A2)] (.AI [(true,(As T A)),(false,[.int .i64 0])])/\CF 173 [.agg (As T1 A1),.agg (As T2 A2)] (.AI [(true,(As T A)),(false,[.int .i64 0])]):=by
 obtain⟨u,v,j,K,_,hu,B,f,g,a,d,I,J,o,z,h,n,G,g1,g2,C⟩:=F.two ha hb D H;refine⟨_,_,⟨Bz u v,g1,rfl,rfl,ES (g2 _ I) (C _ J),(o.add (G.BJ F.top).red z).mono ?_⟩,gO G.toGam hu B f g a d h n rfl rfl,Si G hu B f g a d h n rfl rfl⟩;have:=F.hb;rw[Nat.add_mul,Nat.add_mul];omega
theorem DM (F:Fm TT w R b c M q p) (ha:Nm TT w b k T1 A1 x) (hb:Nm TT w b l T2 A2 y) (D:k+c+1<=M:=by omega) (H:l+c+1<=M:=by omega):∃T A,Nm TT w b (k+l+1) T A (x-y)/\CF 158 [.agg (As T1 A1),.agg (As T2 A2)] (.AI [(true,(As T A)),(false,[.int .i64 0])])/\CF 178 [.agg (As T1 A1),.agg (As T2 A2)] (.AI [(true,(As T A)),(false,[.int .i64 0])]):=by
 obtain⟨u,v,j,K,_,hu,B,f,g,a,d,I,J,o,z,h,n,G,g1,g2,C⟩:=F.two ha hb D H;refine⟨_,_,⟨Bz u v,g1,rfl,rfl,GM (g2 _ I) (C _ J),(o.sub (G.BJ F.top).red z).mono ?_⟩,gV G.toGam hu B f g a d h n rfl rfl,So G hu B f g a d h n rfl rfl⟩;have:=F.hb;rw[Nat.add_mul,Nat.add_mul];omega
theorem CN (F:Fm TT w R b c M q p) (ha:Nm TT w b k T1 A1 x) (hb:Nm TT w b l T2 A2 y) (D:k+c+1<=M:=by omega) (H:l+c+1<=M:=by omega):∃T A,Nm TT w b (k+l+1) T A (x*y)/\CF 159 [.agg (As T1 A1),.agg (As T2 A2)] (.AI [(true,(As T A)),(false,[.int .i64 0])])/\CF 176 [.agg (As T1 A1),.agg (As T2 A2)] (.AI [(true,(As T A)),(false,[.int .i64 0])]):=by
 obtain⟨u,v,j,K,_,hu,B,f,g,a,d,I,J,o,z,h,n,G,g1,g2,C⟩:=F.two ha hb D H;refine⟨_,_,⟨Bz u v,g1,rfl,rfl,BN (G.BJ g1).red (g2 _ I) (C _ J),(F.ar o z).mono ?_⟩,Wy G.toGam hu B f g a d h n rfl rfl,Sj G hu B f g a d h n rfl rfl⟩;have:=F.hb;rw[Nat.add_mul,Nat.add_mul];omega
theorem FK (F:Fm TT w R b c M q p) (ha:Nm TT w b k T1 A1 x) (n:k+c+1<=M:=by omega):∃A,Nm TT w b k T1 A (-x)/\CF 81 [.agg (As T1 A1)] (.agg (As T1 A))/\CF 30 [.agg (As T1 A1)] (.agg (As T1 A)):=by
 obtain⟨u,hu,d,f,o,j,h⟩:=F.own (by omega) ha;have G:=F.g n (by omega);have a:=h.mono (Nat.mul_le_mul_right b (Nat.le_succ (k+c)));exact⟨_,⟨u,hu,d,rfl,Hw o,j.neg (G.BJ F.top).red⟩,gS G.toGam hu d f a rfl,Sk G hu d f a rfl⟩
theorem Ci (F:Fm TT w R b c M q p) (ha:Nm TT w b k T1 A1 x) (j:k+c+1<=M:=by omega):∃s:Int,s=Bi x/\CF 79 [.agg (As T1 A1)] (.one (.int .i64 s))/\CF 156 [.agg (As T1 A1)] (.one (.int .i64 s)):=by
 obtain⟨u,hu,f,d,o,n,h⟩:=F.own (by omega) ha;have G:=F.g j (by omega);have a:=h.mono (Nat.mul_le_mul_right b (Nat.le_succ (k+c)));exact⟨_,rfl,gT G.toGam hu f d a rfl,Sl G hu f d a rfl⟩
theorem bL (F:Fm TT w R b c M q p) (ha:Nm TT w b k T1 A1 x) (h:k+c+1<=M):CF 152 [.agg (As T1 A1)] (.one (.bool true)):=by
 obtain⟨u,hu,d,a,n,j,f⟩:=F.own (by omega) ha;exact iO (F.g h (by omega)) hu d a (f.mono (Nat.mul_le_mul_right b (Nat.le_succ (k+c))))
theorem Fm.pair (F:Fm TT w R b c M q p) {j:Nat} (h:2*j+2*c+1<=M):EM TT R (c*b) ((2*j+2*c+1)*b)/\2*(j*b+c*b)+1<=(2*j+2*c+1)*b:=by
 refine⟨F.g h (by omega),?_⟩;have:=F.hb;rw[Nat.add_mul,Nat.add_mul,Nat.mul_assoc,Nat.mul_assoc];omega
theorem EK (F:Fm TT w R b c M q p) (ha:Nm TT w b k T1 A1 x) (hb:Nm TT w b l T2 A2 y) (J:2*k+4*c+3<=M:=by omega) (K:2*l+4*c+3<=M:=by omega):∃e:Bool,(e=true↔x=y)/\CF 80 [.agg (As T1 A1),.agg (As T2 A2)] (.one (.bool e))/\CF 31 [.agg (As T1 A1),.agg (As T2 A2)] (.one (.bool e)):=by
 obtain⟨u,v,j,I,B,hu,o,f,g,a,d,L,N,C,D,h,n,G,g1,g2,H⟩:=F.two ha hb (by omega) (by omega);obtain⟨z,A⟩:=F.pair (j:=j) (by omega);obtain⟨e,he⟩:=Ep (x=y);exact⟨e,he,gQ G.toGam hu o f g a d h n he,iN G hu o f g a d h n z A he⟩
theorem DE (F:Fm TT w R b c M q p) (ha:Nm TT w b k T1 A1 x) (hb:Nm TT w b l T2 A2 y) {d:Nat} (X:q*l+p<=d) (I:y≠0) (hk:k+c+1<=M:=by omega) (hl:l+c+1<=M:=by omega) (hi:d+c+1<=M:=by omega):∃T A,Nm TT w b (k+d+1) T A (x*AE y)/\CF 104 [.agg (As T1 A1),.agg (As T2 A2)] (.AI [(true,(As T A)),(false,[.int .i64 0])])/\CF 172 [.agg (As T1 A1),.agg (As T2 A2)] (.AI [(true,(As T A)),(false,[.int .i64 0])]):=by
 obtain⟨u,hu,o,h,Z,N,L⟩:=F.own (by omega) ha;obtain⟨v,f,z,j,hy,Q,O⟩:=F.own (by omega) hb;have G:=F.g (Nat.le_refl M) (by omega);obtain⟨g1,g2,U⟩:=G.toGam.Bz hu f;have a:=Qx (G.BJ f).red hy I
 have C:El w (d*b) (AE y):=(F.mv Q (F.all f _ a) (F6 I)).mono (by
  have V:=Nat.mul_le_mul_right b X;rw[Nat.add_mul,Nat.mul_assoc] at V;omega)
 obtain⟨S,Y,J,W,_,_,K⟩:=F.own (by omega) (show Nm TT w b d (tw v) (em v (AE y)) (AE y) from⟨v,f,rfl,rfl,a,C⟩);have ev:S=v:=(NY J).symm;subst ev;have n:II S.length R (M*b)<=60000000000000:=F.iu f;have D:=L.mono (Nat.mul_le_mul_right b (show k+c<=M by omega));have H:=O.mono (Nat.mul_le_mul_right b (show l+c<=M by omega));have B:=K.mono (Nat.mul_le_mul_right b (show d+c<=M by omega));refine⟨_,_,⟨Bz u S,g1,rfl,rfl,BN (G.BJ g1).red (g2 _ Z) (U _ a),(F.ar N C).mono ?_⟩,gP G.toGam hu f o z h j D H a (F6 I) B n rfl rfl,XK G hu f o z h j D H a (F6 I) B n rfl rfl⟩;rw[Nat.add_mul,Nat.add_mul,Nat.one_mul];omega
end
end Go.Abs
namespace Go.Abs
open Go.RowKit
structure Vm (TT:List (List Rat)->Prop) (w:List (List Rat)) (b k k':Nat) (T1:List LR) (A1:LR) (T2:List LR) (A2:LR) (x y:Re):Prop where
 x:Nm TT w b k T1 A1 x
 y:Nm TT w b k' T2 A2 y
section
variable {TT:List (List Rat)->Prop} {w:List (List Rat)} {R b c M q p k k' l l':Nat} {T1 T2:List LR} {A1 A2:LR} {x y x' y':Re}
theorem Vm.mono (h:Vm TT w b k k' T1 A1 T2 A2 x y) (d:k<=l) (a:k'<=l'):Vm TT w b l l' T1 A1 T2 A2 x y:=⟨h.x.mono d,h.y.mono a⟩
theorem Vm.cast (h:Vm TT w b k k' T1 A1 T2 A2 x y) (e:x=x') (f:y=y'):Vm TT w b k k' T1 A1 T2 A2 x' y':=e ▸ f ▸ h
theorem Gs (F:Fm TT w R b c M q p) (a:c<=M) {r:Rat} (h:Bd b [r]):Nm TT w b 1 [] (em [] (Re.ofRat r)) (Re.ofRat r):=by
 have G:=F.g a (Nat.le_refl c);exact⟨[],G.nil,rfl,rfl,He r [],by rw[Nat.one_mul];exact El.rat (G.BJ F.top).red h⟩
theorem F2 {r:Rat} (h:Co r) (hb:64<=b:=by omega):Bd b [r]:=(QG (a:=[r]) (fun z d=>by rw[List.mem_singleton.1 d];exact h)).mono hb
end
theorem QJ {g:FuncId} {T1 T2 T3 T4 T5 T6:List LR} {A1 A2 A3 A4 A5 A6:LR} (d:CF g [.agg (As T1 A1),.agg (As T3 A3)] (.AI [(true,(As T5 A5)),(false,[.int .i64 0])])) (f:CF g [.agg (As T2 A2),.agg (As T4 A4)] (.AI [(true,(As T6 A6)),(false,[.int .i64 0])])):CF 150 [.agg (AD T1 A1 T2 A2),.agg (AD T3 A3 T4 A4),.one (.fn g)] (.AI [(true,(AD T5 A5 T6 A6)),(false,[.int .i64 0])]):=by
 refine Av Tryz.func150 fun E a=>?_
 conv=>cbv
 refine AB a d ?_;conv=>cbv
 refine AR ?_;conv=>cbv
 refine AB a f ?_;conv=>cbv
 refine AR ?_;conv=>cbv
 exact AF ⟨⟨rfl,rfl,rfl,rfl,rfl,trivial⟩,t2,trivial⟩
theorem Fw {TT:List (List Rat)->Prop} {w:List (List Rat)} {R b c M q p k k' l l':Nat} (F:Fm TT w R b c M q p) {T1 T2 T3 T4:List LR} {A1 A2 A3 A4:LR} {x1 y1 x2 y2:Re} (f:Vm TT w b k k' T1 A1 T2 A2 x1 y1) (g:Vm TT w b l l' T3 A3 T4 A4 x2 y2) (C:k+c+1<=M:=by omega) (z:k'+c+1<=M:=by omega) (D:l+c+1<=M:=by omega) (B:l'+c+1<=M:=by omega):∃T A d a,Vm TT w b (k+l+1) (k'+l'+1) T A d a (x1+x2) (y1+y2)/\CF 63 [.agg (AD T1 A1 T2 A2),.agg (AD T3 A3 T4 A4)] (.AI [(true,(AD T A d a)),(false,[.int .i64 0])]):=by
 obtain⟨T5,A5,n,h,_⟩:=EU F f.x g.x;obtain⟨T6,A6,o,j,_⟩:=EU F f.y g.y;refine⟨T5,A5,T6,A6,⟨n,o⟩,?_⟩;refine Av Tryz.func63 fun E v=>?_
 conv=>cbv
 refine AB v (QJ h j) ?_;conv=>cbv
 exact AF ⟨⟨rfl,rfl,rfl,rfl,rfl,trivial⟩,t2,trivial⟩
theorem Dm {TT:List (List Rat)->Prop} {w:List (List Rat)} {R b c M q p k k' l l':Nat} (F:Fm TT w R b c M q p) {T1 T2 T3 T4:List LR} {A1 A2 A3 A4:LR} {x1 y1 x2 y2:Re} (f:Vm TT w b k k' T1 A1 T2 A2 x1 y1) (g:Vm TT w b l l' T3 A3 T4 A4 x2 y2) (C:k+c+1<=M:=by omega) (z:k'+c+1<=M:=by omega) (D:l+c+1<=M:=by omega) (B:l'+c+1<=M:=by omega):∃T A d a,Vm TT w b (k+l+1) (k'+l'+1) T A d a (x1-x2) (y1-y2)/\CF 76 [.agg (AD T1 A1 T2 A2),.agg (AD T3 A3 T4 A4)] (.AI [(true,(AD T A d a)),(false,[.int .i64 0])]):=by
 obtain⟨T5,A5,n,h,_⟩:=DM F f.x g.x;obtain⟨T6,A6,o,j,_⟩:=DM F f.y g.y;refine⟨T5,A5,T6,A6,⟨n,o⟩,?_⟩;refine Av Tryz.func76 fun E v=>?_
 conv=>cbv
 refine AB v (QJ h j) ?_;conv=>cbv
 exact AF ⟨⟨rfl,rfl,rfl,rfl,rfl,trivial⟩,t2,trivial⟩
theorem Ho {TT:List (List Rat)->Prop} {w:List (List Rat)} {R b c M q p k k' j:Nat} (F:Fm TT w R b c M q p) {T1 T2 T3:List LR} {A1 A2 A3:LR} {x1 y1 n:Re} (g:Vm TT w b k k' T1 A1 T2 A2 x1 y1) (f:Nm TT w b j T3 A3 n) (D:k+c+1<=M:=by omega) (C:k'+c+1<=M:=by omega) (G:j+c+1<=M:=by omega):∃T A d a,Vm TT w b (k+j+1) (k'+j+1) T A d a (x1*n) (y1*n)/\CF 198 [.agg (AD T1 A1 T2 A2),.agg (As T3 A3)] (.AI [(true,(AD T A d a)),(false,[.int .i64 0])]):=by
 obtain⟨T5,A5,v,h,_⟩:=CN F g.x f;obtain⟨T6,A6,z,o,_⟩:=CN F g.y f;refine⟨T5,A5,T6,A6,⟨v,z⟩,?_⟩;refine Av Tryz.func198 fun E B=>?_
 conv=>cbv
 refine AB B (QJ h o) ?_;conv=>cbv
 exact AF ⟨⟨rfl,rfl,rfl,rfl,rfl,trivial⟩,t2,trivial⟩
theorem ss {TT:List (List Rat)->Prop} {w:List (List Rat)} {R b c M q p k:Nat} (F:Fm TT w R b c M q p) {T1:List LR} {A1:LR} {n:Re} (g:Nm TT w b k T1 A1 n) (f:k+c+1<=M):CF 243 [.agg (As T1 A1)] (.agg (As T1 A1)):=by
 obtain⟨A4,j,h,_⟩:=FK F g f;obtain⟨A5,o,a,_⟩:=FK F j f;have e:A5=A1:=Nm.data o g (by grind);rw[e] at a;refine Av Tryz.func243 fun E d=>?_
 conv=>cbv
 refine AB d h ?_;conv=>cbv
 refine AB d a ?_;conv=>cbv
 exact AF ⟨t3,trivial⟩
theorem Nb {TT:List (List Rat)->Prop} {w:List (List Rat)} {R b c M q p k k':Nat} (F:Fm TT w R b c M q p) {T1 T2:List LR} {A1 A2:LR} {x1 y1:Re} (d:Vm TT w b k k' T1 A1 T2 A2 x1 y1) (j:k+c+1<=M:=by omega) (a:k'+c+1<=M:=by omega):∃A,Vm TT w b k' k T2 A T1 A1 (-y1) x1/\CF 171 [.agg (AD T1 A1 T2 A2)] (.agg (AD T2 A T1 A1)):=by
 obtain⟨A5,h,g,_⟩:=FK F d.y a;refine⟨A5,⟨h,d.x⟩,?_⟩;refine Av Tryz.func171 fun E f=>?_
 conv=>cbv
 refine AB f g ?_;conv=>cbv
 refine AB f (ss F d.x j) ?_;conv=>cbv
 refine BB ?_;exact AF ⟨⟨rfl,rfl,rfl,rfl,rfl,trivial⟩,trivial⟩
theorem GD {TT:List (List Rat)->Prop} {w:List (List Rat)} {R b c M q p k k' l l':Nat} (F:Fm TT w R b c M q p) {T1 T2 T3 T4:List LR} {A1 A2 A3 A4:LR} {x1 y1 x2 y2:Re} (d:Vm TT w b k k' T1 A1 T2 A2 x1 y1) (f:Vm TT w b l l' T3 A3 T4 A4 x2 y2) (B:k+l+c+2<=M:=by omega) (z:k'+l'+c+2<=M:=by omega):∃T A,Nm TT w b (k+k'+l+l'+3) T A (x1*x2+y1*y2)/\CF 78 [.agg (AD T1 A1 T2 A2),.agg (AD T3 A3 T4 A4)] (.AI [(true,(As T A)),(false,[.int .i64 0])]):=by
 obtain⟨T5,A5,n,g,_⟩:=CN F d.x f.x;obtain⟨T6,A6,o,h,_⟩:=CN F d.y f.y;obtain⟨T7,A7,v,j,_⟩:=EU F n o;refine⟨T7,A7,v.mono (by omega),?_⟩;refine Av Tryz.func78 fun E a=>?_
 conv=>cbv
 refine AB a (QJ g h) ?_;conv=>cbv
 refine AR ?_;conv=>cbv
 refine AB a j ?_;conv=>cbv
 exact AF ⟨t3,t2,trivial⟩
theorem Na {TT:List (List Rat)->Prop} {w:List (List Rat)} {R b c M q p k k' l l':Nat} (F:Fm TT w R b c M q p) {T1 T2 T3 T4:List LR} {A1 A2 A3 A4:LR} {x1 y1 x2 y2:Re} (n:Vm TT w b k k' T1 A1 T2 A2 x1 y1) (o:Vm TT w b l l' T3 A3 T4 A4 x2 y2) (v:k'+l+c+2<=M:=by omega) (j:k+l'+c+2<=M:=by omega):∃T A,Nm TT w b (k+k'+l+l'+3) T A (-y1*x2+x1*y2)/\CF 83 [.agg (AD T1 A1 T2 A2),.agg (AD T3 A3 T4 A4)] (.AI [(true,(As T A)),(false,[.int .i64 0])]):=by
 obtain⟨A5,g,d⟩:=Nb F n;obtain⟨T7,A7,h,f⟩:=GD F g o;refine⟨T7,A7,h.mono (by omega),?_⟩;refine Av Tryz.func83 fun E a=>?_
 conv=>cbv
 refine AB a d ?_;conv=>cbv
 refine AB a f ?_;conv=>cbv
 refine BB ?_;exact AF ⟨t3,t2,trivial⟩
theorem GF {TT:List (List Rat)->Prop} {w:List (List Rat)} {R b c M q p k k':Nat} (F:Fm TT w R b c M q p) {T1 T2:List LR} {A1 A2:LR} {x1 y1:Re} (a:Vm TT w b k k' T1 A1 T2 A2 x1 y1) (j:2*k+c+2<=M:=by omega) (h:2*k'+c+2<=M:=by omega):∃T A,Nm TT w b (2*k+2*k'+3) T A (x1*x1+y1*y1)/\CF 109 [.agg (AD T1 A1 T2 A2)] (.AI [(true,(As T A)),(false,[.int .i64 0])]):=by
 obtain⟨T7,A7,f,d⟩:=GD F a a;refine⟨T7,A7,f.mono (by omega),?_⟩;refine Av Tryz.func109 fun E g=>?_
 conv=>cbv
 refine AB g d ?_;conv=>cbv
 exact AF ⟨t3,t2,trivial⟩
theorem PW {TT:List (List Rat)->Prop} {w:List (List Rat)} {R b c M q p k k' l l':Nat} (F:Fm TT w R b c M q p) {T1 T2 T3 T4:List LR} {A1 A2 A3 A4:LR} {x1 y1 x2 y2:Re} (j:Vm TT w b k k' T1 A1 T2 A2 x1 y1) (n:Vm TT w b l l' T3 A3 T4 A4 x2 y2) (C:2*k+4*c+3<=M) (A:2*k'+4*c+3<=M) (D:2*l+4*c+3<=M) (B:2*l'+4*c+3<=M) {e:Bool} (he:e=true↔x1=x2/\y1=y2):CF 108 [.agg (AD T1 A1 T2 A2),.agg (AD T3 A3 T4 A4)] (.one (.bool e)):=by
 obtain⟨z,d,o,_⟩:=EK F j.x n.x;obtain⟨v,a,f,_⟩:=EK F j.y n.y;refine Av Tryz.func108 fun E g=>?_
 conv=>cbv
 refine AB g o ?_;conv=>cbv
 cases z <;> conv=>cbv
 ·exact AF ⟨⟨rfl,congrArg _ (by cases e with | false=>rfl | true=>exact absurd (d.2 (he.1 rfl).1) (by simp)),trivial⟩,trivial⟩
 refine AB g f ?_;conv=>cbv
 exact AF ⟨⟨rfl,congrArg _ (by rw[Bool.eq_iff_iff,a,he];exact⟨fun h=>h.2,fun h=>⟨d.1 rfl,h⟩⟩),trivial⟩,trivial⟩
theorem CR {TT:List (List Rat)->Prop} {w:List (List Rat)} {R b c M q p k k' l l':Nat} (F:Fm TT w R b c M q p) {T1 T2 T3 T4:List LR} {A1 A2 A3 A4:LR} {x1 y1 x2 y2:Re} (j:Vm TT w b k k' T1 A1 T2 A2 x1 y1) (n:Vm TT w b l l' T3 A3 T4 A4 x2 y2) (C:2*k+4*c+3<=M) (A:2*k'+4*c+3<=M) (D:2*l+4*c+3<=M) (B:2*l'+4*c+3<=M) {e:Bool} (he:e=true↔x1=x2/\y1=y2):CF 26 [.agg (AD T1 A1 T2 A2),.agg (AD T3 A3 T4 A4)] (.one (.bool e)):=by
 obtain⟨z,d,_,o⟩:=EK F j.x n.x;obtain⟨v,a,_,f⟩:=EK F j.y n.y;refine Av Tryz.func26 fun E g=>?_
 conv=>cbv
 refine AB g o ?_;conv=>cbv
 cases z <;> conv=>cbv
 ·exact AF ⟨⟨rfl,congrArg _ (by cases e with | false=>rfl | true=>exact absurd (d.2 (he.1 rfl).1) (by simp)),trivial⟩,trivial⟩
 refine AB g f ?_;conv=>cbv
 exact AF ⟨⟨rfl,congrArg _ (by rw[Bool.eq_iff_iff,a,he];exact⟨fun h=>h.2,fun h=>⟨d.1 rfl,h⟩⟩),trivial⟩,trivial⟩
theorem SN {TT:List (List Rat)->Prop} {w:List (List Rat)} {R b c M q p k k':Nat} (F:Fm TT w R b c M q p) {T1 T2:List LR} {A1 A2:LR} {x1 y1:Re} (v:Vm TT w b k k' T1 A1 T2 A2 x1 y1) (G:k+c+1<=M) (A:k'+c+1<=M) {e:Bool} (he:e=true↔x1=0/\y1=0):CF 144 [.agg (AD T1 A1 T2 A2)] (.one (.bool e)):=by
 obtain⟨H,d,z,_⟩:=Ci F v.x;obtain⟨D,a,f,_⟩:=Ci F v.y;refine Av Tryz.func144 fun E o=>?_
 conv=>cbv
 refine AB o z ?_;conv=>cbv
 intro C n;conv=>cbv
 cases C <;> conv=>cbv
 ·have j:=BR n;exact AF ⟨⟨rfl,congrArg _ (by cases e with | false=>rfl | true=>exact absurd (by rw[d];exact FV.2 (he.1 rfl).1) j),trivial⟩,trivial⟩
 have j:=BS n;refine AB o f ?_;conv=>cbv
 intro B g;conv=>cbv
 exact AF ⟨⟨rfl,congrArg _ (by rw[Bool.eq_iff_iff,g,beq_iff_eq,a,FV,he];exact⟨fun h=>h.2,fun h=>⟨FV.1 (d.symm.trans j),h⟩⟩),trivial⟩,trivial⟩
theorem IQ {TT:List (List Rat)->Prop} {w:List (List Rat)} {R b c M q p k k':Nat} (F:Fm TT w R b c M q p) {T1 T2:List LR} {A1 A2:LR} {x1 y1:Re} (v:Vm TT w b k k' T1 A1 T2 A2 x1 y1) (G:k+c+1<=M) (A:k'+c+1<=M) {e:Bool} (he:e=true↔x1=0/\y1=0):CF 72 [.agg (AD T1 A1 T2 A2)] (.one (.bool e)):=by
 obtain⟨H,d,_,z⟩:=Ci F v.x;obtain⟨D,a,_,f⟩:=Ci F v.y;refine Av Tryz.func72 fun E o=>?_
 conv=>cbv
 refine AB o z ?_;conv=>cbv
 intro C n;conv=>cbv
 cases C <;> conv=>cbv
 ·have j:=BR n;exact AF ⟨⟨rfl,congrArg _ (by cases e with | false=>rfl | true=>exact absurd (by rw[d];exact FV.2 (he.1 rfl).1) j),trivial⟩,trivial⟩
 have j:=BS n;refine AB o f ?_;conv=>cbv
 intro B g;conv=>cbv
 exact AF ⟨⟨rfl,congrArg _ (by rw[Bool.eq_iff_iff,g,beq_iff_eq,a,FV,he];exact⟨fun h=>h.2,fun h=>⟨FV.1 (d.symm.trans j),h⟩⟩),trivial⟩,trivial⟩
theorem sz {g h:Rat} {b1 c1 b2 c2:Bool} {l1 m1 l2 m2:List UInt32} (j:B6 g b1 l1 c1 m1) (n:B6 h b2 l2 c2 m2) {A1 A2:LR} (a:A1=em [] (Re.ofRat g)) (d:A2=em [] (Re.ofRat h)):CF 142 [.agg (CX b1 l1 c1 m1),.agg (CX b2 l2 c2 m2)] (.agg (AD [] A1 [] A2)):=by
 refine Av Tryz.func142 fun E f=>?_
 conv=>cbv
 refine AB f (Py j a) ?_;conv=>cbv
 refine AB f (Py n d) ?_;conv=>cbv
 refine BB ?_;exact AF ⟨⟨rfl,rfl,rfl,rfl,rfl,trivial⟩,trivial⟩
theorem CK {x y:Int} {A1 A2:LR} (j: -9223372036854775808<=x/\x<9223372036854775808) (n: -9223372036854775808<=y/\y<9223372036854775808) (a:A1=em [] (Re.ofRat x)) (d:A2=em [] (Re.ofRat y)):CF 58 [.one (.int .i64 x),.one (.int .i64 y)] (.agg (AD [] A1 [] A2)):=by
 refine Av Tryz.func58 fun E f=>?_
 conv=>cbv
 obtain⟨b1,l1,c1,m1,g⟩:=Ca (x:Rat);refine AB f (Gi j rfl g) ?_;conv=>cbv
 obtain⟨b2,l2,c2,m2,h⟩:=Ca (y:Rat);refine AB f (Gi n rfl h) ?_;conv=>cbv
 refine AB f (sz g h a d) ?_;conv=>cbv
 exact AF ⟨⟨rfl,rfl,rfl,rfl,rfl,trivial⟩,trivial⟩
theorem fQ:CF 175 [.one (.int .i64 0),.one (.int .i64 0)] (.one (.int .i64 0)):=by
 refine Av Tryz.func175 fun E a=>?_
 conv=>cbv
 refine AR ?_;conv=>cbv
 exact AF ⟨t2,trivial⟩
theorem fS {T1 T2:List LR} {A1 A2:LR}:CF 174 [.agg (As T1 A1),.agg (As T2 A2),.one (.int .i64 0)] (.AI [(true,(AD T1 A1 T2 A2)),(false,[.int .i64 0])]):=by
 refine Av Tryz.func174 fun E a=>?_
 conv=>cbv
 refine AR ?_;conv=>cbv
 exact AF ⟨⟨rfl,rfl,rfl,rfl,rfl,trivial⟩,t2,trivial⟩
theorem Wj {TT:List (List Rat)->Prop} {w:List (List Rat)} {R b c M q p k k' l l':Nat} (F:Fm TT w R b c M q p) {T1 T2 T3 T4:List LR} {A1 A2 A3 A4:LR} {x1 y1 x2 y2:Re} (g:Vm TT w b k k' T1 A1 T2 A2 x1 y1) (h:Vm TT w b l l' T3 A3 T4 A4 x2 y2) (C:k+c+1<=M:=by omega) (z:k'+c+1<=M:=by omega) (D:l+c+1<=M:=by omega) (B:l'+c+1<=M:=by omega):∃T A f d,Vm TT w b (k+l+1) (k'+l'+1) T A f d (x1+x2) (y1+y2)/\CF 90 [.agg (AD T1 A1 T2 A2),.agg (AD T3 A3 T4 A4)] (.AI [(true,(AD T A f d)),(false,[.int .i64 0])]):=by
 obtain⟨T5,A5,o,_,j⟩:=EU F g.x h.x;obtain⟨T6,A6,v,_,n⟩:=EU F g.y h.y;refine⟨T5,A5,T6,A6,⟨o,v⟩,?_⟩;refine Av Tryz.func90 fun E a=>?_
 conv=>cbv
 refine AB a j ?_;conv=>cbv
 refine AB a n ?_;conv=>cbv
 refine AB a fQ ?_;conv=>cbv
 refine AB a fS ?_;conv=>cbv
 refine BB ?_;exact AF ⟨⟨rfl,rfl,rfl,rfl,rfl,trivial⟩,t2,trivial⟩
theorem fT {TT:List (List Rat)->Prop} {w:List (List Rat)} {R b c M q p k k' j:Nat} (F:Fm TT w R b c M q p) {T1 T2 T3:List LR} {A1 A2 A3:LR} {x1 y1 n:Re} (h:Vm TT w b k k' T1 A1 T2 A2 x1 y1) (g:Nm TT w b j T3 A3 n) (D:k+c+1<=M:=by omega) (C:k'+c+1<=M:=by omega) (G:j+c+1<=M:=by omega):∃T A f d,Vm TT w b (k+j+1) (k'+j+1) T A f d (x1*n) (y1*n)/\CF 124 [.agg (AD T1 A1 T2 A2),.agg (As T3 A3)] (.AI [(true,(AD T A f d)),(false,[.int .i64 0])]):=by
 obtain⟨T5,A5,z,_,o⟩:=CN F h.x g;obtain⟨T6,A6,B,_,v⟩:=CN F h.y g;refine⟨T5,A5,T6,A6,⟨z,B⟩,?_⟩;refine Av Tryz.func124 fun E a=>?_
 conv=>cbv
 refine AB a o ?_;conv=>cbv
 refine AB a v ?_;conv=>cbv
 refine AB a fQ ?_;conv=>cbv
 refine AB a fS ?_;conv=>cbv
 refine BB ?_;exact AF ⟨⟨rfl,rfl,rfl,rfl,rfl,trivial⟩,t2,trivial⟩
theorem Jm {TT:List (List Rat)->Prop} {w:List (List Rat)} {R b c M q p k k':Nat} (F:Fm TT w R b c M q p) {T1 T2:List LR} {A1 A2:LR} {x1 y1:Re} (g:Vm TT w b k k' T1 A1 T2 A2 x1 y1) (v:k+c+1<=M:=by omega) (a:k'+c+1<=M:=by omega):∃A d,Vm TT w b k k' T1 A T2 d (-x1) (-y1)/\CF 91 [.agg (AD T1 A1 T2 A2)] (.agg (AD T1 A T2 d)):=by
 obtain⟨A5,n,_,h⟩:=FK F g.x v;obtain⟨A6,o,_,j⟩:=FK F g.y a;refine⟨A5,A6,⟨n,o⟩,?_⟩;refine Av Tryz.func91 fun E f=>?_
 conv=>cbv
 refine AB f h ?_;conv=>cbv
 refine AB f j ?_;conv=>cbv
 refine BB ?_;exact AF ⟨⟨rfl,rfl,rfl,rfl,rfl,trivial⟩,trivial⟩
theorem FN {TT:List (List Rat)->Prop} {w:List (List Rat)} {R b c M q p k k' l l':Nat} (F:Fm TT w R b c M q p) {T1 T2 T3 T4:List LR} {A1 A2 A3 A4:LR} {x1 y1 x2 y2:Re} (z:Vm TT w b k k' T1 A1 T2 A2 x1 y1) (B:Vm TT w b l l' T3 A3 T4 A4 x2 y2) (C:k+c+1<=M:=by omega) (o:k'+c+1<=M:=by omega) (D:l+c+1<=M:=by omega) (v:l'+c+1<=M:=by omega):∃T A d a,Vm TT w b (k+l+1) (k'+l'+1) T A d a (x1+ -x2) (y1+ -y2)/\CF 27 [.agg (AD T1 A1 T2 A2),.agg (AD T3 A3 T4 A4)] (.AI [(true,(AD T A d a)),(false,[.int .i64 0])]):=by
 obtain⟨A7,A8,n,h⟩:=Jm F B;obtain⟨T5,A5,T6,A6,j,g⟩:=Wj F z n;refine⟨T5,A5,T6,A6,j,?_⟩;refine Av Tryz.func27 fun E f=>?_
 conv=>cbv
 refine AB f h ?_;conv=>cbv
 refine AB f g ?_;conv=>cbv
 refine BB ?_;exact AF ⟨⟨rfl,rfl,rfl,rfl,rfl,trivial⟩,t2,trivial⟩
theorem L7 {TT:List (List Rat)->Prop} {w:List (List Rat)} {R b c M q p k k':Nat} (F:Fm TT w R b c M q p) {T1 T2:List LR} {A1 A2:LR} {x1 y1:Re} (d:Vm TT w b k k' T1 A1 T2 A2 x1 y1) (j:k+c+1<=M:=by omega) (a:k'+c+1<=M:=by omega):∃A,Vm TT w b k' k T2 A T1 A1 (-y1) x1/\CF 49 [.agg (AD T1 A1 T2 A2)] (.agg (AD T2 A T1 A1)):=by
 obtain⟨A5,g,_,f⟩:=FK F d.y a;refine⟨A5,⟨g,d.x⟩,?_⟩;refine Av Tryz.func49 fun E h=>?_
 conv=>cbv
 refine AB h f ?_;conv=>cbv
 refine BB ?_;exact AF ⟨⟨rfl,rfl,rfl,rfl,rfl,trivial⟩,trivial⟩
theorem KY {TT:List (List Rat)->Prop} {w:List (List Rat)} {R b c M q p k k' l l':Nat} (F:Fm TT w R b c M q p) {T1 T2 T3 T4:List LR} {A1 A2 A3 A4:LR} {x1 y1 x2 y2:Re} (d:Vm TT w b k k' T1 A1 T2 A2 x1 y1) (f:Vm TT w b l l' T3 A3 T4 A4 x2 y2) (B:k+l+c+2<=M:=by omega) (z:k'+l'+c+2<=M:=by omega):∃T A,Nm TT w b (k+k'+l+l'+3) T A (x1*x2+y1*y2)/\CF 92 [.agg (AD T1 A1 T2 A2),.agg (AD T3 A3 T4 A4)] (.AI [(true,(As T A)),(false,[.int .i64 0])]):=by
 obtain⟨T5,A5,n,_,g⟩:=CN F d.x f.x;obtain⟨T6,A6,o,_,h⟩:=CN F d.y f.y;obtain⟨T7,A7,v,_,j⟩:=EU F n o;refine⟨T7,A7,v.mono (by omega),?_⟩;refine Av Tryz.func92 fun E a=>?_
 conv=>cbv
 refine AB a g ?_;conv=>cbv
 refine AB a h ?_;conv=>cbv
 refine AR ?_;conv=>cbv
 refine AR ?_;conv=>cbv
 refine AB a j ?_;conv=>cbv
 exact AF ⟨t3,t2,trivial⟩
theorem KX {TT:List (List Rat)->Prop} {w:List (List Rat)} {R b c M q p k k' l l':Nat} (F:Fm TT w R b c M q p) {T1 T2 T3 T4:List LR} {A1 A2 A3 A4:LR} {x1 y1 x2 y2:Re} (n:Vm TT w b k k' T1 A1 T2 A2 x1 y1) (o:Vm TT w b l l' T3 A3 T4 A4 x2 y2) (v:k'+l+c+2<=M:=by omega) (j:k+l'+c+2<=M:=by omega):∃T A,Nm TT w b (k+k'+l+l'+3) T A (-y1*x2+x1*y2)/\CF 29 [.agg (AD T1 A1 T2 A2),.agg (AD T3 A3 T4 A4)] (.AI [(true,(As T A)),(false,[.int .i64 0])]):=by
 obtain⟨A5,g,d⟩:=L7 F n;obtain⟨T7,A7,h,f⟩:=KY F g o;refine⟨T7,A7,h.mono (by omega),?_⟩;refine Av Tryz.func29 fun E a=>?_
 conv=>cbv
 refine AB a d ?_;conv=>cbv
 refine AB a f ?_;conv=>cbv
 refine BB ?_;exact AF ⟨t3,t2,trivial⟩
theorem H9 {TT:List (List Rat)->Prop} {w:List (List Rat)} {R b c M q p k k':Nat} (F:Fm TT w R b c M q p) {T1 T2:List LR} {A1 A2:LR} {x1 y1:Re} (a:Vm TT w b k k' T1 A1 T2 A2 x1 y1) (j:2*k+c+2<=M:=by omega) (h:2*k'+c+2<=M:=by omega):∃T A,Nm TT w b (2*k+2*k'+3) T A (x1*x1+y1*y1)/\CF 28 [.agg (AD T1 A1 T2 A2)] (.AI [(true,(As T A)),(false,[.int .i64 0])]):=by
 obtain⟨T7,A7,f,d⟩:=KY F a a;refine⟨T7,A7,f.mono (by omega),?_⟩;refine Av Tryz.func28 fun E g=>?_
 conv=>cbv
 refine AB g d ?_;conv=>cbv
 exact AF ⟨t3,t2,trivial⟩
theorem Jn {TT:List (List Rat)->Prop} {w:List (List Rat)} {R b c M q p k k':Nat} (F:Fm TT w R b c M q p) {T1 T2:List LR} {A1 A2:LR} {x1 y1:Re} (f:Vm TT w b k k' T1 A1 T2 A2 x1 y1) (g:k+c+1<=M:=by omega) (a:k'+c+1<=M:=by omega):CF 65 [.agg (AD T1 A1 T2 A2)] (.one (.bool true)):=by
 refine Av Tryz.func65 fun E d=>?_
 conv=>cbv
 refine AB d (bL F f.x g) ?_;conv=>cbv
 refine AB d (bL F f.y a) ?_;conv=>cbv
 exact AF ⟨t2,trivial⟩
end Go.Abs
namespace Go.Abs
section
variable {α:Type} [Lean.Grind.CommRing α]
def CY:Nat->(Nat->α)->α
 | 0,_=>0
 | n+1,f=>CY n f+f n
theorem IM {f g:Nat->α}:∀{n:Nat},(∀i,i<n->f i=g i)->CY n f=CY n g
 | 0,_=>rfl
 | n+1,h=>by rw[CY,CY,IM (n:=n) (fun i a=>h i (by omega)),h n (by omega)]
theorem WD (f:Nat->α) (m:Nat):∀n,CY (m+n) f=CY m f+CY n (fun i=>f (m+i))
 | 0=>by rw[CY,Nat.add_zero];grind
 | n+1=>by rw[<-Nat.add_assoc,CY,CY,WD f m n];grind
theorem WE (c:α) (f:Nat->α):∀n,c*CY n f=CY n (fun i=>c*f i)
 | 0=>by rw[CY,CY];grind
 | n+1=>by rw[CY,CY,<-WE c f n];grind
theorem dx (f g:Nat->α):∀n,CY n f+CY n g=CY n (fun i=>f i+g i)
 | 0=>by rw[CY,CY,CY];grind
 | n+1=>by rw[CY,CY,CY,<-dx f g n];grind
theorem WG:∀n,CY n (fun _=>(0:α))=0
 | 0=>rfl
 | n+1=>by rw[CY,WG n];grind
theorem dw (f:Nat->Nat->α) (m:Nat):∀n,CY n (fun i=>CY m (fun k=>f i k))=CY m (fun k=>CY n (fun i=>f i k))
 | 0=>by rw[CY];exact (WG m).symm
 | n+1=>by
  rw[CY,dw f m n,dx];rfl
end
noncomputable def cf (u:List (List Rat)) (x:Re) (i:Nat):Rat:=(co u x).getD i 0
section
variable {u w:List (List Rat)} {x y:Re}
theorem YT (h:BF u) (a:In u x) (d:In u y) (i:Nat):cf u (x+y) i=cf u x i+cf u y i:=by
 unfold cf;rw[OC h a d];have l1:=EF a;have l2:=EF d;simp only[List.getD_eq_getElem?_getD,List.getElem?_zipWith]
 by_cases f:i<2^u.length
 ·rw[List.getElem?_eq_getElem (by omega:i<(co u x).length),List.getElem?_eq_getElem (by omega:i<(co u y).length)];rfl
 rw[List.getElem?_eq_none (by omega:(co u x).length<=i),List.getElem?_eq_none (by omega:(co u y).length<=i)]
 show (0:Rat)=0+0
 grind
theorem YW (h:BF u) (a:In u x) (c:Rat) (i:Nat):cf u (Re.ofRat c*x) i=c*cf u x i:=by
 unfold cf;rw[TZ h a];simp only[List.getD_eq_getElem?_getD,List.getElem?_map];cases (co u x)[i]? with
 | none=>show (0:Rat)=c*0;grind
 | some q=>rfl
theorem YX (h:BF u) (i:Nat):cf u 0 i=0:=by
 have:=YW h (CZ u) 0 i;rw[show Re.ofRat 0*0=(0:Re) by grind] at this;rw[this];grind
theorem Ht {r:List Rat} {p q:Re} (h:BF (r::u)) (a:In u p) (f:In u q) (e:x=p+q*rt u r) {i:Nat} (d:i<2^u.length):cf (r::u) x i=cf u p i:=by
 unfold cf;rw[EJ h a f e,List.getD_eq_getElem?_getD,List.getD_eq_getElem?_getD,List.getElem?_append_left (by rw[EF a];exact d)]
theorem J4 {r:List Rat} {p q:Re} (h:BF (r::u)) (a:In u p) (d:In u q) (e:x=p+q*rt u r) (i:Nat):cf (r::u) x (2^u.length+i)=cf u q i:=by
 unfold cf;rw[EJ h a d e,List.getD_eq_getElem?_getD,List.getD_eq_getElem?_getD,List.getElem?_append_right (by rw[EF a];omega),EF a,Nat.add_sub_cancel_left]
noncomputable def bb:List (List Rat)->Nat->Re
 | [],_=>1
 | r::u,i=>if i<2^u.length then bb u i else bb u (i-2^u.length)*rt u r
theorem YE {r:List Rat} {i:Nat} (a:i<2^u.length):bb (r::u) i=bb u i:=if_pos a
theorem YD {r:List Rat} (i:Nat):bb (r::u) (2^u.length+i)=bb u i*rt u r:=by
 rw[bb,if_neg (by omega),Nat.add_sub_cancel_left]
theorem Lr:∀{u:List (List Rat)},BF u->∀i,In u (bb u i)
 | [],_,i=>Ls []
 | r::u,h,i=>by
  rw[bb]
  split
  ·exact Fh (Lr h.1 i)
  exact BN h (Fh (Lr h.1 _)) (J7 u r)
theorem Zo {f:Nat->Re} (a:∀i,In u (f i)):∀n,In u (CY n f)
 | 0=>CZ u
 | n+1=>ES (Zo a n) (a n)
theorem expand:∀{u:List (List Rat)} {x:Re},BF u->In u x->x=CY (2^u.length) (fun i=>Re.ofRat (cf u x i)*bb u i)
 | [],x,h,n=>by
  obtain⟨q,rfl⟩:=Dl.1 n
  show _=CY 1 _
  rw[CY,CY]
  show _=0+Re.ofRat (cf [] (Re.ofRat q) 0)*1
  rw[cf,Ew]
  show _=0+Re.ofRat q*1
  grind
 | r::u,x,h,n=>by
  obtain⟨p,q,d,j,e⟩:=Cq.1 n
  rw[CW,WD,IM (g:=fun i=>Re.ofRat (cf u p i)*bb u i) (fun i a=>by rw[Ht h d j e a,YE a]),
   IM (f:=fun i=>Re.ofRat (cf (r::u) x (2^u.length+i))*bb (r::u) (2^u.length+i)) (g:=fun i=>rt u r*(Re.ofRat (cf u q i)*bb u i)) (fun i a=>by rw[J4 h d j e,YD];grind),<-WE,<-expand h.1 d,<-expand h.1 j,e]
  grind
theorem TR (h:BF w) (c:Nat->Rat) {f:Nat->Re} (a:∀i,In w (f i)) (k:Nat):∀n,cf w (CY n (fun i=>Re.ofRat (c i)*f i)) k=CY n (fun i=>c i*cf w (f i) k)
 | 0=>YX h k
 | n+1=>by
  rw[CY,CY,YT h (Zo (fun i=>OM (a i) (c i)) n) (OM (a n) (c n)),TR h c a k n,YW h (a n)]
noncomputable def tr (u:List (List Rat)) (x:Re):Rat:=CY (2^u.length) (fun i=>cf u (x*bb u i) i)
theorem eh (hu:BF u) (hw:BF w) (a:Bl u w) (d:Bl w u) (f:In u x):tr u x=tr w x:=by
 have e1:∀i,cf u (x*bb u i) i=CY (2^w.length) (fun k=>cf w (x*bb u i) k*cf u (bb w k) i):=fun i=>by
  have j:=a _ (BN hu f (Lr hu i))
  rw[show cf u (x*bb u i) i=cf u (CY (2^w.length) (fun k=>Re.ofRat (cf w (x*bb u i) k)*bb w k)) i from congrArg (fun z=>cf u z i) (expand hw j),
   TR hu _ (fun k=>d _ (Lr hw k))]
 have e2:∀k,cf w (x*bb w k) k=CY (2^u.length) (fun i=>cf u (bb w k) i*cf w (x*bb u i) k):=fun k=>by
  have n:=d _ (Lr hw k)
  have h:x*bb w k=CY (2^u.length) (fun i=>Re.ofRat (cf u (bb w k) i)*(x*bb u i)):=by
   rw[show x*bb w k=x*CY (2^u.length) (fun i=>Re.ofRat (cf u (bb w k) i)*bb u i) from congrArg (x* ·) (expand hu n),WE];exact IM fun i _=>by grind
  rw[h,TR hw _ (fun i=>a _ (BN hu f (Lr hu i)))]
 unfold tr;rw[IM (fun i _=>e1 i),dw,IM (g:=fun k=>CY (2^u.length) (fun i=>cf w (x*bb u i) k*cf u (bb w k) i)) (fun k _=>rfl),IM (fun k _=>e2 k)];exact IM fun k _=>IM fun i _=>by grind
theorem PQ:∀{u:List (List Rat)} {x:Re},BF u->In u x->tr u x=((2^u.length:Nat):Rat)*cf u x 0
 | [],x,h,n=>by
  show CY 1 _=_
  rw[CY,CY]
  show 0+cf [] (x*1) 0=((1:Nat):Rat)*cf [] x 0
  rw[show x*1=x by grind];grind
 | r::u,x,h,n=>by
  obtain⟨p,q,a,j,e⟩:=Cq.1 n;have v:=DO h;have o:=PQ h.1 a;have hb:=Lr h.1;unfold tr at o ⊢
  rw[CW,WD,IM (g:=fun i=>cf u (p*bb u i) i) (fun i d=>by
    rw[YE d];exact Ht h (BN h.1 a (hb i)) (BN h.1 j (hb i)) (by rw[e];grind) d),
   IM (f:=fun i=>cf (r::u) (x*bb (r::u) (2^u.length+i)) (2^u.length+i)) (g:=fun i=>cf u (p*bb u i) i) (fun i d=>by
    rw[YD];exact J4 h (BN h.1 (BN h.1 j (hb i)) (CO h)) (BN h.1 a (hb i)) (by rw[e,<-v];grind) i),
   o,Ht h a j e (ER _),Rat.natCast_add]
  grind
end
end Go.Abs
namespace Go.Abs
structure Ml (w:List (List Rat)) (E:Nat):Prop where
 dn:∃K:Nat,0<K/\K<=2^E/\∀{x y:Re} {D D':Nat},In w x->In w y->DN D (co w x)->DN D' (co w y)->DN (D*D'*K) (co w (x*y))
 mx:∀{x y:Re} {B C:Nat},In w x->In w y->MX B (co w x)->MX C (co w y)->MX (B*C*2^E) (co w (x*y))
theorem Ml.of {w:List (List Rat)} {R:Nat} (hw:BF w) (a:TB R w):Ml w (EE w.length R):=⟨Ln hw a,JZ hw a⟩
section
variable {u:List (List Rat)} {r:List Rat} {E R s t:Nat} {x y:Re}
theorem Ml.mono {d:Nat} (M:Ml u E) (h:E<=d):Ml u d:=by
 obtain⟨K,K0,f,hm⟩:=M.dn;exact⟨⟨K,K0,Nat.le_trans f (C0 h),hm⟩,fun g j a b=>(M.mx g j a b).mono (Nat.mul_le_mul_left _ (C0 h))⟩
theorem Ml.bd (M:Ml u E) (f:In u x) (g:In u y) (a:Bd s (co u x)) (b:Bd t (co u y)):Bd (s+t+E) (co u (x*y)):=by
 obtain⟨D,j,n,o,h3⟩:=a;obtain⟨h,k0,k1,k2,z⟩:=b;obtain⟨K,v,d,hm⟩:=M.dn;refine⟨D*h*K,Nat.mul_pos (Nat.mul_pos j k0) v,?_,hm f g o k2,?_⟩
 ·have:=Nat.mul_le_mul (Nat.mul_le_mul n k1) d;rwa [<-Nat.pow_add,<-Nat.pow_add] at this
 have:=M.mx f g h3 z;rwa [<-Nat.pow_add,<-Nat.pow_add] at this
theorem Ml.cons (h:BF (r::u)) (M:Ml u E) (L:Bd R r):Ml (r::u) (2*E+R+2):=by
 obtain⟨K,Q,z,hm⟩:=M.dn;obtain⟨v,V,H,G,I⟩:=L;refine⟨⟨K*K*v,Nat.mul_pos (Nat.mul_pos Q Q) V,?_,fun {x y D W} N O g j=>?_⟩,fun {x y B C} N O n o=>?_⟩
 ·have F:K*K*v<=2^E*2^E*2^R:=Nat.mul_le_mul (Nat.mul_le_mul z z) H;rw[<-Nat.pow_add,<-Nat.pow_add] at F;exact Nat.le_trans F (C0)
 ·obtain⟨a,b,ha,hb,rfl⟩:=Cq.1 N;obtain⟨c,d,hc,f,rfl⟩:=Cq.1 O;rw[EJ h ha hb rfl,DN.app] at g;rw[EJ h hc f rfl,DN.app] at j;rw[QP h ha hb hc f rfl rfl,DN.app];have J:DN v (co u (Al u r)):=by rw[FQ h];exact G
  refine⟨DN.Gu h.1 (BN h.1 ha hc) (BN h.1 (BN h.1 hb f) (CO h)) ((hm ha hc g.1 j.1).dvd ⟨K*v,by grind⟩) ((hm (BN h.1 hb f) (CO h) (hm hb f g.2 j.2) J).dvd ⟨1,by grind⟩),
   DN.Gu h.1 (BN h.1 ha f) (BN h.1 hb hc) ((hm ha f g.1 j.2).dvd ⟨K*v,by grind⟩) ((hm hb hc g.2 j.1).dvd ⟨K*v,by grind⟩)⟩
 have A:=fun {x y:Re} {B C:Nat}=>M.mx (x:=x) (y:=y) (B:=B) (C:=C)
 obtain⟨a,b,ha,hb,rfl⟩:=Cq.1 N;obtain⟨c,d,hc,f,rfl⟩:=Cq.1 O;rw[EJ h ha hb rfl,MX.app] at n;rw[EJ h hc f rfl,MX.app] at o;rw[QP h ha hb hc f rfl rfl,MX.app];have J:MX (2^R) (co u (Al u r)):=by rw[FQ h];exact I
 have e:2*E+R+2=E+E+R+2:=by omega
 rw[e,Nat.pow_add,Nat.pow_add,Nat.pow_add];have F:=ER E;have U:=ER R
 generalize 2^E=K at*
 generalize 2^R=S at*
 have k1:B*C*K<=B*C*(K*K*S):=Nat.mul_le_mul_left _ (by
  have:K*1<=K*(K*S):=Nat.mul_le_mul_left _ (Nat.mul_pos F U);rw[Nat.mul_assoc];omega)
 have k2:B*C*K*S*K=B*C*(K*K*S):=by grind
 refine⟨(MX.Gu h.1 (BN h.1 ha hc) (BN h.1 (BN h.1 hb f) (CO h)) (A ha hc n.1 o.1) (A (BN h.1 hb f) (CO h) (A hb f n.2 o.2) J)).mono ?_,
  (MX.Gu h.1 (BN h.1 ha f) (BN h.1 hb hc) (A ha f n.1 o.2) (A hb hc n.2 o.1)).mono ?_⟩
 ·rw[k2];grind
 grind
theorem Ml.inv {P:Nat->Nat} (h:BF (r::u)) (M:Ml u E) (J:Bd R r) (X:∀{x y:Re} {s:Nat},In u x->In u y->x*y=1->Bd s (co u x)->Bd (P s) (co u y)) (Z:In (r::u) x) (e:x*y=1) (hb:Bd s (co (r::u) x)):Bd (s+E+P (2*s+2*E+R+1)) (co (r::u) y):=by
 obtain⟨p,q,d,a,rfl⟩:=Cq.1 Z;have hr:=DO h;obtain⟨D,C,F,S,h3⟩:=hb;rw[EJ h d a rfl] at S h3;obtain⟨A,B⟩:=DN.app.1 S;obtain⟨mp,Q⟩:=MX.app.1 h3;obtain⟨K,G,j,hm⟩:=M.dn;obtain⟨z,k0,k1,k2,k3⟩:=J;have L:DN z (co u (Al u r)):=by rw[FQ h];exact k2
 have I:MX (2^R) (co u (Al u r)):=by rw[FQ h];exact k3
 have Y:Bd (2*s+2*E+R+1) (co u (p*p-q*q*Al u r)):=by
  refine⟨D*D*K*z*K,Nat.mul_pos (Nat.mul_pos (Nat.mul_pos (Nat.mul_pos C C) G) k0) G,?_,DN.KW h.1 (BN h.1 d d) (BN h.1 (BN h.1 a a) (CO h)) ((hm d d A A).dvd ⟨z*K,by grind⟩) (hm (BN h.1 a a) (CO h) (hm a a B B) L),
   (MX.KW h.1 (BN h.1 d d) (BN h.1 (BN h.1 a a) (CO h)) (M.mx d d mp mp) (M.mx (BN h.1 a a) (CO h) (M.mx a a Q Q) I)).mono ?_⟩
  ·have:=Nat.mul_le_mul (Nat.mul_le_mul (Nat.mul_le_mul (Nat.mul_le_mul F F) j) k1) j;rw[<-Nat.pow_add,<-Nat.pow_add,<-Nat.pow_add,<-Nat.pow_add] at this;exact Nat.le_trans this (C0)
  rw[<-Nat.pow_add,<-Nat.pow_add,<-Nat.pow_add,<-Nat.pow_add,Nat.pow_succ];have e1:2^(s+s+E)<=2^(2*s+2*E+R):=C0;have e2:2^(s+s+E+R+E)<=2^(2*s+2*E+R):=C0;omega
 have f:=GM (BN h.1 d d) (BN h.1 (BN h.1 a a) (CO h));have W:(0:Re)<1:=Re.GP.2 (show (0:Rat)<1 by decide)
 have H:p*p-q*q*Al u r≠0:=by
  intro e0;have e1:(p+q*rt u r)*(p-q*rt u r)=0:=by grind
  rcases Re.HN e1 with e2 | e2
  ·rw[e2] at e;grind
  obtain⟨e3,e4⟩:=indep h d (Hw a) (CZ u) (CZ u) (show p+ -q*rt u r=0+0*rt u r by grind);have:p+q*rt u r=0:=by grind
  rw[this] at e;grind
 obtain⟨i,g,n⟩:=Em h.1 f H;obtain⟨U,N,O,o,v⟩:=X f g n Y
 have V:y=p*i+ -(q*i)*rt u r:=by
  have:y=(p+q*rt u r)*y*((p-q*rt u r)*i):=by
   have:(p+q*rt u r)*y*((p-q*rt u r)*i)=y*((p*p-q*q*Al u r)*i):=by grind
   rw[this,n];grind
  rw[e] at this
  grind
 rw[V,EJ h (BN h.1 d g) (Hw (BN h.1 a g)) rfl,MT h.1 (BN h.1 a g)];have m1:=M.mx d g mp v;have m2:=M.mx a g Q v;rw[<-Nat.pow_add,<-Nat.pow_add] at m1 m2;refine⟨D*U*K,Nat.mul_pos (Nat.mul_pos C N) G,?_,DN.app.2 ⟨hm d g A o,(hm a g B o).neg⟩,MX.app.2 ⟨m1.mono (C0),(m2.mono (C0)).neg⟩⟩;have:=Nat.mul_le_mul (Nat.mul_le_mul F O) j;rw[<-Nat.pow_add,<-Nat.pow_add] at this;exact Nat.le_trans this (C0)
end
end Go.Abs
namespace Go.Abs
variable {E:Nat} {u w:List (List Rat)} {x:Re}
theorem ZM (hu:BF u) (hw:BF w) (h:Bl u w):∀{v:List (List Rat)},BF v->Bl v w->Bl (ext u v) w
 | [],_,_=>h
 | r::v,a,d=>by
  have g:=ZM hu hw h a.1 d.tail;rw[ext]
  by_cases f:Sq (ext u v) (Al v r)
  ·rw[ED f];exact g
  rw[C8 f];refine Kn hw g ?_;rw[HA ((Jf hu a.1).2 _ (CO a))];exact d.root
theorem YV:∀(v:List (List Rat)) {u:List (List Rat)} {x:Re},BF (v++u)->In u x->cf (v++u) x 0=cf u x 0
 | [],_,_,_,_=>rfl
 | r::v,u,x,h,a=>by
  rw[List.cons_append,Ht (u:=v++u) h (OH v _ a) (CZ _) (by grind) (ER _)];exact YV v h.1 a
theorem YU (h:BF u):cf u 1 0=1:=by
 rw[cf,show (1:Re)=Re.ofRat 1 from rfl,JO 1 h];rfl
theorem N9 (hu:BF u) (hw:BF w) (h:Bl u w) (g:In u x):cf u x 0=cf w x 0:=by
 obtain⟨ht,f⟩:=Jf hu hw;have a:=ZM hu hw h hw (Bl.refl w);have j:=Qk u w;have d:=OI j;obtain⟨v,e⟩:=j;have k1:=eh ht hw a f (Ls _);rw[PQ ht (Ls _),PQ hw (Ls _),YU ht,YU hw] at k1;have k2:=eh ht hw a f (d _ g);rw[PQ ht (d _ g),PQ hw (h _ g)] at k2
 have o:((2^w.length:Nat):Rat)≠0:=fun e=>by
  have:=Rat.natCast_inj.1 (e.trans (show (0:Rat)=((0:Nat):Rat) from rfl));have:=ER w.length;omega
 have n:cf (ext u w) x 0=cf w x 0:=by grind
 rw[<-n,<-e];exact (YV v (e ▸ ht) g).symm
def Rb (w:List (List Rat)):List (List Rat)->Nat->Prop
 | [],k=>k=0
 | r::u,k=>∃k1 k2,k=k1+k2/\Rb w u k1/\∃y,y*rt u r=1/\Bd k2 (co w y)
theorem cj (hw:BF w) (M:Ml w E):∀{u:List (List Rat)} {k:Nat},BF u->Bl u w->Rb w u k->∃Y:Nat->Re,(∀i,In u (Y i))/\(∀{x:Re},In u x->∀i,i<2^u.length->cf u x i=cf w (x*Y i) 0)/\
  ∃D:Nat,0<D/\D<=2^(k+u.length*E)/\∀i,i<2^u.length->DN D (co w (Y i))/\MX (2^(k+u.length*E)) (co w (Y i))
 | [],k,hu,d,z=>by
  have z:k=0:=z;subst z;refine⟨fun _=>1,fun _=>Ls _,fun {x} A i n=>?_,1,by decide,by simp,fun i _=>?_⟩
  ·have:i=0:=by have n:i<1:=n;omega
   subst this;rw[show x*1=x by grind];exact N9 hu hw d A
  have e:co w (1:Re)=1::List.replicate (2^w.length-1) 0:=JO 1 hw
  have hm:∀q∈co w (1:Re),q=1\/q=0:=fun q a=>by
   rw[e] at a;rcases List.mem_cons.1 a with h | h
   ·exact .inl h
   exact .inr (List.eq_of_mem_replicate h)
  refine⟨fun q a=>?_,fun q a=>?_⟩
  ·rcases hm q a with rfl | rfl
   ·exact⟨1,by decide +kernel⟩
   exact⟨0,by decide +kernel⟩
  rcases hm q a with rfl | rfl
  ·simp only[List.length_nil,Nat.zero_mul,Nat.add_zero,Nat.pow_zero];exact⟨by decide +kernel,by decide +kernel⟩
  simp only[List.length_nil,Nat.zero_mul,Nat.add_zero,Nat.pow_zero];exact⟨by decide +kernel,by decide +kernel⟩
 | r::u,k,hu,d,z=>by
  obtain⟨k1,k2,rfl,F,y,O,I,d1,d2,d3,d4⟩:=z;obtain⟨Y,y1,y2,D,e1,e2,J⟩:=cj hw M hu.1 d.tail F;obtain⟨K,K0,Q,S⟩:=M.dn;have U:=DO hu;have H:Al u r≠0:=by have:=hu.2.2.1;grind
  obtain⟨s,N,G⟩:=Em hu.1 (CO hu) H
  have L:y=s*rt u r:=by
   have:y=y*(Al u r*s):=by rw[G];grind
   rw[this,<-U];have:y*(rt u r*rt u r*s)=(y*rt u r)*(s*rt u r):=by grind
   rw[this,O];grind
  have g:In (r::u) y:=by rw[L];exact BN hu (Fh N) (J7 u r)
  have B:=d _ g;have hlen:k1+k2+(r::u).length*E=(k1+u.length*E)+k2+E:=by rw[List.length_cons,Nat.succ_mul];omega
  refine⟨fun i=>if i<2^u.length then Y i else Y (i-2^u.length)*y,fun i=>?_,fun {x} A i n=>?_,D*I*K,Nat.mul_pos (Nat.mul_pos e1 d1) K0,?_,fun i n=>?_⟩
  ·show In (r::u) (if _ then _ else _)
   split
   ·exact Fh (y1 i)
   exact BN hu (Fh (y1 _)) g
  ·obtain⟨p,q,o,a,e⟩:=Cq.1 A
   show _=cf w (x*if _ then _ else _) 0
   split
   ·rename_i f
    rw[Ht hu o a e f,y2 o i f,<-N9 hu.1 hw d.tail (BN hu.1 o (y1 i)),<-N9 hu hw d (BN hu A (Fh (y1 i)))];exact (Ht hu (BN hu.1 o (y1 i)) (BN hu.1 a (y1 i)) (by rw[e];grind) (ER _)).symm
   rename_i C
   rw[CW] at n;obtain⟨j,rfl⟩:∃j,i=2^u.length+j:=⟨i-2^u.length,by omega⟩
   rw[Nat.add_sub_cancel_left,J4 hu o a e,y2 a j (by omega),<-N9 hu.1 hw d.tail (BN hu.1 a (y1 j)),<-N9 hu hw d (BN hu A (BN hu (Fh (y1 j)) g))];refine (Ht hu (BN hu.1 a (y1 j)) (BN hu.1 (BN hu.1 o (y1 j)) N) ?_ (ER _)).symm;have:x*(Y j*y)=p*Y j*y+q*Y j*(y*rt u r):=by rw[e];grind
   rw[this,O,L];grind
  ·rw[hlen];simp only[Nat.pow_add] at e2 ⊢;exact Nat.mul_le_mul (Nat.mul_le_mul e2 d2) Q
  show DN _ (co w (if _ then _ else _))/\MX _ (co w (if _ then _ else _))
  split
  ·rename_i f
   obtain⟨f1,f2⟩:=J i f;refine⟨(f1.mul_right (I*K)).dvd ⟨1,by grind⟩,f2.mono ?_⟩;rw[hlen];exact C0
  rename_i C
  rw[CW] at n;obtain⟨f1,f2⟩:=J (i-2^u.length) (by omega);have v:=d.tail _ (y1 (i-2^u.length));refine⟨S v B f1 d3,?_⟩;have:=M.mx v B f2 d4;rw[hlen];simp only[Nat.pow_add] at this ⊢;exact this
theorem MK {k s:Nat} (hw:BF w) (M:Ml w E) (hu:BF u) (f:Bl u w) (G:Rb w u k) (n:In u x) (H:Bd s (co w x)):Bd (s+k+(u.length+1)*E) (co u x):=by
 obtain⟨Y,y1,y2,D,e1,e2,o⟩:=cj hw M hu f G;obtain⟨K,K0,A,F⟩:=M.dn;obtain⟨z,d1,d2,d3,d4⟩:=H;have a:=f _ n;have v:s+k+(u.length+1)*E=s+(k+u.length*E)+E:=by rw[Nat.succ_mul];omega
 have key:∀q∈co u x,∃i,i<2^u.length/\q∈co w (x*Y i):=fun q j=>by
  obtain⟨i,d,rfl⟩:=List.mem_iff_getElem.1 j;have g:i<2^u.length:=by rw[<-EF n];exact d
  refine⟨i,g,?_⟩;have B:=y2 n i g;have I:=BN hw a (f _ (y1 i));have h:0<(co w (x*Y i)).length:=by rw[EF I];exact ER _
  have C:cf u x i=(co u x)[i]:=by rw[cf,List.getD_eq_getElem?_getD,List.getElem?_eq_getElem d];rfl
  have h3:cf w (x*Y i) 0=(co w (x*Y i))[0]:=by rw[cf,List.getD_eq_getElem?_getD,List.getElem?_eq_getElem h];rfl
  rw[<-C,B,h3];exact List.getElem_mem h
 refine⟨z*D*K,Nat.mul_pos (Nat.mul_pos d1 e1) K0,?_,fun q j=>?_,fun q j=>?_⟩
 ·rw[v];simp only[Nat.pow_add] at e2 ⊢;exact Nat.mul_le_mul (Nat.mul_le_mul d2 e2) A
 ·obtain⟨i,d,hm⟩:=key q j;exact F a (f _ (y1 i)) d3 (o i d).1 q hm
 obtain⟨i,d,hm⟩:=key q j;have:=M.mx a (f _ (y1 i)) d4 (o i d).2 q hm;rw[v];simp only[Nat.pow_add] at this ⊢;exact this
end Go.Abs
namespace Go.Abs
theorem QF {w:List (List Rat)} {E σ:Nat} (hw:BF w) (M:Ml w E):∀{u:List (List Rat)},BF u->Bl u w->(∀v∈BP u,Bd σ (co w (Re.sqrt v)))->∃K:Nat,0<K/\K<=2^(u.length*(σ+E+1))/\
  ∀{x:Re} {D B:Nat},In u x->(DN D (co u x)->DN (D*K) (co w x))/\(MX B (co u x)->MX (B*2^(u.length*(σ+E+1))) (co w x))
 | [],_,_,_=>⟨1,by decide,by simp,fun {x D B} N=>by
  obtain⟨q,rfl⟩:=Dl.1 N;rw[Ew,JO q hw,Nat.mul_one];refine⟨Ts,fun h=>?_⟩;rw[show B*2^(([]:List (List Rat)).length*(σ+E+1))=B by simp];exact U3 h⟩
 | r::u,h,n,j=>by
  obtain⟨K,U,L,hb⟩:=QF hw M h.1 n.tail (fun v V=>j v (List.mem_cons_of_mem _ V));obtain⟨G,I,J,hm⟩:=M.dn;obtain⟨F,S,C,A,H⟩:=j (Al u r) List.mem_cons_self;have d:In w (rt u r):=n.root;have e2:(r::u).length*(σ+E+1)=u.length*(σ+E+1)+(σ+E+1):=by rw[List.length_cons,Nat.succ_mul]
  refine⟨K*(F*G),Nat.mul_pos U (Nat.mul_pos S I),?_,fun {x D B} N=>?_⟩
  ·have Q:=Nat.mul_le_mul L (Nat.mul_le_mul C J);simp only[<-Nat.pow_add] at Q;exact Nat.le_trans Q (C0 (by rw[e2];omega))
  obtain⟨p,q,o,z,rfl⟩:=Cq.1 N;rw[EJ h o z rfl,DN.app,MX.app];have g:=n.tail _ o;have a:=n.tail _ z;refine⟨fun f=>?_,fun f=>?_⟩
  ·have k1:=(hb (B:=0) o).1 f.1;have k2:=(hb (B:=0) z).1 f.2;have O:=hm a d k2 A;exact DN.Gu hw g (BN hw a d) (k1.dvd ⟨F*G,by grind⟩) (O.dvd ⟨1,by grind⟩)
  have k1:=(hb (D:=0) o).2 f.1;have k2:=(hb (D:=0) z).2 f.2;have O:=M.mx a d k2 H;refine (MX.Gu hw g (BN hw a d) k1 O).mono ?_
  have e:B*2^(u.length*(σ+E+1))*2^σ*2^E=B*2^(u.length*(σ+E+1)+σ+E):=by
   rw[Nat.mul_assoc,Nat.mul_assoc,<-Nat.pow_add,<-Nat.pow_add];congr 2;omega
  rw[e,<-Nat.mul_add];refine Nat.mul_le_mul_left B ?_;have h3:2^(u.length*(σ+E+1))<=2^(u.length*(σ+E+1)+σ+E):=C0;rw[e2,show u.length*(σ+E+1)+(σ+E+1)=u.length*(σ+E+1)+σ+E+1 by omega,Nat.pow_succ];omega
structure Wv (w:List (List Rat)) (σ κ ν:Nat) (v:Re):Prop where
 root:In w (Re.sqrt v)
 rb:Bd σ (co w (Re.sqrt v))
 inv:∃y,y*Re.sqrt v=1/\Bd κ (co w y)
 vb:Bd ν (co w v)
theorem O8 {w:List (List Rat)} {σ κ ν:Nat}:∀{u:List (List Rat)},(∀v∈BP u,Wv w σ κ ν v)->Rb w u (u.length*κ)
 | [],_=>by show _=0;simp
 | r::u,h=>by
  obtain⟨y,d,hb⟩:=(h (Al u r) List.mem_cons_self).inv;exact⟨u.length*κ,κ,by rw[List.length_cons,Nat.succ_mul],O8 (fun v a=>h v (List.mem_cons_of_mem _ a)),y,d,hb⟩
section
variable {w u:List (List Rat)} {E σ κ ν m:Nat}
theorem Hu (hw:BF w):∀{u:List (List Rat)},BF u->(∀v∈BP u,In w (Re.sqrt v))->Bl u w
 | [],_,_=>MZ w
 | r::u,h,a=>Kn hw (Hu hw h.1 (fun v hm=>a v (List.mem_cons_of_mem _ hm))) (a (Al u r) List.mem_cons_self)
theorem WQ (hw:BF w) (M:Ml w E):∀{u:List (List Rat)},BF u->u.length<=m+1->(∀v∈BP u,Wv w σ κ ν v)->TB (ν+m*κ+(m+1)*E) u
 | [],_,_,_=>fun r n=>by simp at n
 | r::u,h,j,f=>fun s d=>by
  rw[List.length_cons] at j;have a:∀v∈BP u,Wv w σ κ ν v:=fun v hm=>f v (List.mem_cons_of_mem _ hm)
  rcases List.mem_cons.1 d with rfl | d
  ·have g:=Hu hw h.1 (fun v hm=>(a v hm).root);have:=MK hw M h.1 g (O8 a) (CO h) (f _ List.mem_cons_self).vb;rw[FQ h] at this;refine this.mono ?_;have o:=Nat.mul_le_mul_right κ (show u.length<=m by omega);have z:=Nat.mul_le_mul_right E (show u.length+1<=m+1 by omega);omega
  exact WQ hw M h.1 (by omega) a s d
theorem lO {u v:List (List Rat)} {s:Nat} {x:Re} (hw:BF w) (M:Ml w E) (hu:BF u) (j:BF v) (f:∀z∈BP u,Wv w σ κ ν z) (g:∀z∈BP v,Wv w σ κ ν z) (l1:u.length<=m) (l2:v.length<=m) (h:Bl u v) (a:El u s x):El v (s+m*(σ+E+1)+m*κ+(m+1)*E) x:=by
 have e1:=Hu hw hu (fun z d=>(f z d).root);have e2:=Hu hw j (fun z d=>(g z d).root);obtain⟨K,k0,k1,k2⟩:=QF hw M hu e1 (fun z d=>(f z d).rb);obtain⟨D,d0,d1,d2,d3⟩:=a.bd
 have hb:Bd (s+u.length*(σ+E+1)) (co w x):=by
  refine⟨D*K,Nat.mul_pos d0 k0,?_,(k2 (B:=0) a.mem).1 d2,?_⟩
  ·rw[Nat.pow_add];exact Nat.mul_le_mul d1 k1
  rw[Nat.pow_add];exact (k2 (D:=0) a.mem).2 d3
 refine⟨h _ a.mem,(MK hw M j e2 (O8 g) (h _ a.mem) hb).mono ?_⟩;have n:=Nat.mul_le_mul_right (σ+E+1) l1;have o:=Nat.mul_le_mul_right κ l2;have a3:=Nat.mul_le_mul_right E (show v.length+1<=m+1 by omega);omega
end
theorem Tf.all {P:List (List Rat)->Prop} {R0:Nat} (I:CA P R0) {B:Re->Prop} (j:∀{r u},P (r::u)->B (Al u r)) {u:List (List Rat)} (h:Tf P u):∀v∈Go.Abs.BP u,B v:=by
 induction h with
 | nil=>intro v a;simp[Go.Abs.BP] at a
 | @Aj u o z ht d n g=>
  by_cases f:Sq u (Al z o)
  ·rw[ED f];exact g
  rw[C8 f];intro v a;rcases List.mem_cons.1 a with rfl | a
  ·rw[FR (n _ (CO (I.red d)))];exact j d
  exact g v a
end Go.Abs
namespace Go.Abs
def GL:List (List Rat)->Nat->Re->Prop
 | [],_,_=>False
 | r::t,i,v=>(i<2^t.length/\GL t i v)\/(2^t.length<=i/\(v=Al t r\/GL t (i-2^t.length) v))
variable {i:Nat} {r:List Rat} {t u:List (List Rat)} {v x:Re}
theorem UM:∀{t:List (List Rat)} {i:Nat} {v:Re},GL t i v->v∈BP t
 | r::t,i,v,h=>by
  rw[BP];rcases h with⟨_,h⟩ |⟨_,h | h⟩
  ·exact List.mem_cons_of_mem _ (UM h)
  ·exact h ▸ List.mem_cons_self
  exact List.mem_cons_of_mem _ (UM h)
theorem JS (a:i<2^t.length):GL (r::t) i v↔GL t i v:=
 ⟨fun h=>h.elim (·.2) fun h=>absurd h.1 (by omega),fun h=> .inl ⟨a,h⟩⟩
theorem JR:GL (r::t) (2^t.length+i) v↔v=Al t r\/GL t i v:=
 ⟨fun h=>h.elim (fun h=>absurd h.1 (by omega)) fun h=>by have:=h.2;rwa [Nat.add_sub_cancel_left] at this,fun h=> .inr ⟨by omega,by rwa [Nat.add_sub_cancel_left]⟩⟩
theorem tC (h:BF u) (f:In u x) (a:∀i,i<2^u.length->cf u x i=0):x=0:=by
 rw[expand h f,IM (g:=fun _=>(0:Re)) (fun i d=>by rw[a i d,show Re.ofRat 0=(0:Re) from rfl];grind)];exact WG _
theorem Uv:∀{t:List (List Rat)} {v y:Re},BF t->v∈BP t->In t y->(∀i,i<2^t.length->GL t i v->cf t y i=0)->
  ∀i,i<2^t.length->(GL t i v->∃j,j<2^t.length/\¬GL t j v/\cf t (y*Re.sqrt v) i=cf t y j/\∀D,D≠v->GL t i D->GL t j D)/\(¬GL t i v->cf t (y*Re.sqrt v) i=0)
 | r::t,v,y,h,S,U,K,i,Q=>by
  obtain⟨p,q,o,B,e⟩:=Cq.1 U;have J:=HE h;rw[BP,List.nodup_cons] at J;rw[CW] at K Q
  by_cases f:v=Al t r
  ·have N:∀{j},¬GL t j v:=fun {j} g=>J.1 (f ▸ UM g)
   have L:q=0:=tC h.1 B fun j g=>by
    rw[<-J4 h o B e j];exact K _ (by omega) (JR.2 (.inl f))
   have e2:y*Re.sqrt v=0+p*rt t r:=by
    show _=0+p*Re.sqrt (Al t r)
    rw[e,L,f];grind
   by_cases z:i<2^t.length
   ·exact⟨fun d=>absurd ((JS z).1 d) N,fun _=>by rw[Ht h (CZ t) o e2 z,YX h.1]⟩
   obtain⟨j,rfl⟩:∃j,i=2^t.length+j:=⟨i-2^t.length,by omega⟩
   have g:j<2^t.length:=by omega
   refine⟨fun _=>⟨j,by rw[CW];omega,fun d=>N ((JS g).1 d),?_,fun D n d=>?_⟩,fun d=>absurd (JR.2 (.inl f)) d⟩
   ·rw[J4 h (CZ t) o e2,Ht h o B e g]
   rcases JR.1 d with F | F
   ·exact absurd (F.trans f.symm) n
   exact (JS g).2 F
  have I:v∈BP t:=(List.mem_cons.1 (by rwa [BP] at S)).resolve_left f;have O:In t (Re.sqrt v):=Nf I;have e2:y*Re.sqrt v=p*Re.sqrt v+q*Re.sqrt v*rt t r:=by rw[e];grind
  have A:=BN h.1 o O;have C:=BN h.1 B O
  by_cases z:i<2^t.length
  ·obtain⟨k1,k2⟩:=Uv h.1 I o (fun j g d=>by rw[<-Ht h o B e g];exact K j (by omega) ((JS g).2 d)) i z;refine⟨fun d=>?_,fun d=>?_⟩
   ·obtain⟨j,g,a,b,c⟩:=k1 ((JS z).1 d);exact⟨j,by rw[CW];omega,fun d=>a ((JS g).1 d),by rw[Ht h A C e2 z,b,Ht h o B e g],fun D n H=>(JS g).2 (c D n ((JS z).1 H))⟩
   rw[Ht h A C e2 z];exact k2 fun G=>d ((JS z).2 G)
  obtain⟨i,rfl⟩:∃j,i=2^t.length+j:=⟨i-2^t.length,by omega⟩
  obtain⟨k1,k2⟩:=Uv h.1 I B (fun j g d=>by rw[<-J4 h o B e j];exact K _ (by omega) (JR.2 (.inr d))) i (by omega);refine⟨fun d=>?_,fun d=>?_⟩
  ·obtain⟨j,g,a,b,c⟩:=k1 ((JR.1 d).resolve_left f);refine⟨2^t.length+j,by rw[CW];omega,fun d=>(JR.1 d).elim f a,by rw[J4 h A C e2,b,J4 h o B e],fun D n H=>?_⟩;rcases JR.1 H with F | F
   ·exact JR.2 (.inl F)
   exact JR.2 (.inr (c D n F))
  rw[J4 h A C e2];exact k2 fun G=>d (JR.2 (.inr G))
theorem Tw (ht:BF t):∀{u:List (List Rat)},(∀v∈BP u,v∈BP t)->Bl u t
 | [],_=>MZ t
 | r::u,h=>Kn ht (Tw ht fun v a=>h v (by rw[BP];exact List.mem_cons_of_mem _ a)) (Nf (h _ (by rw[BP];exact List.mem_cons_self)))
theorem TY (ht:BF t):∀{u:List (List Rat)} {x:Re},BF u->(∀v∈BP u,v∈BP t)->In u x->∀i,i<2^t.length->(cf t x i=0\/cf t x i∈co u x)/\(cf t x i≠0->∀v,GL t i v->v∈BP u)
 | [],x,_,_,I,i,g=>by
  obtain⟨q,rfl⟩:=Dl.1 I
  have e:cf t (Re.ofRat q) i=if i=0 then q else 0:=by
   rw[cf,JO q ht,List.getD_eq_getElem?_getD];cases i with
   | zero=>rfl
   | succ i=>
    rw[if_neg (by omega),List.getElem?_cons_succ,List.getElem?_replicate]
    split <;> rfl
  have L:∀{t:List (List Rat)} {v:Re},¬GL t 0 v:=fun {t v}=>by
   induction t with
   | nil=>exact id
   | cons r t Q=>exact fun h=>Q ((JS (ER _)).1 h)
  rw[e]
  split
  ·rename_i h;subst h
   exact⟨.inr (by rw[Ew];exact List.mem_cons_self),fun _ v n=>absurd n L⟩
  exact⟨.inl rfl,fun h=>absurd rfl h⟩
 | r::u,x,hu,hV,I,i,g=>by
  obtain⟨p,q,H,C,e⟩:=Cq.1 I;have z:=HE hu;rw[BP,List.nodup_cons] at z;rw[BP] at hV ⊢;have f:∀v∈BP u,v∈BP t:=fun v n=>hV v (List.mem_cons_of_mem _ n)
  have D:=Tw ht f;have B:=hV _ List.mem_cons_self;have F:=TY ht hu.1 f H;have G:=TY ht hu.1 f C
  have K:∀{y:Re},(∀i,i<2^t.length->(cf t y i=0\/cf t y i∈co u y)/\(cf t y i≠0->∀v,GL t i v->v∈BP u))->∀i,i<2^t.length->GL t i (Al u r)->cf t y i=0:=fun O i g o=>
   Classical.byContradiction fun d=>z.1 ((O i g).2 d _ o)
  obtain⟨k1,k2⟩:=Uv ht B (D _ C) (K G) i g;have N:In t (rt u r):=Nf B
  have hc:cf t x i=cf t p i+cf t (q*Re.sqrt (Al u r)) i:=by
   rw[show x=p+q*Re.sqrt (Al u r) from e];exact YT ht (D _ H) (BN ht (D _ C) N) i
  rw[EJ hu H C e]
  by_cases o:GL t i (Al u r)
  ·obtain⟨j,J,a,b,c⟩:=k1 o;rw[hc,K F i g o,b,show (0:Rat)+cf t q j=cf t q j by grind];refine⟨(G j J).1.imp id fun h=>List.mem_append_right _ h,fun d v n=>?_⟩
   by_cases A:v=Al u r
   ·exact A ▸ List.mem_cons_self
   exact List.mem_cons_of_mem _ ((G j J).2 d v (c v A n))
  rw[hc,k2 o,show cf t p i+(0:Rat)=cf t p i by grind];exact⟨(F i g).1.imp id fun h=>List.mem_append_left _ h,fun d v n=>List.mem_cons_of_mem _ ((F i g).2 d v n)⟩
theorem TE {k:Nat} (ht:BF t) (hu:BF u) (hV:∀v∈BP u,v∈BP t) (g:In u x) (h:Bd k (co u x)):Bd k (co t x):=by
 obtain⟨D,d1,d2,d3,d4⟩:=h;have d:=Tw ht hV _ g
 have key:∀q∈co t x,q=0\/q∈co u x:=fun q a=>by
  obtain⟨i,f,rfl⟩:=List.mem_iff_getElem.1 a;have j:cf t x i=(co t x)[i]:=by rw[cf,List.getD_eq_getElem?_getD,List.getElem?_eq_getElem f];rfl
  rw[<-j];exact (TY ht hu hV g i (by rw[<-EF d];exact f)).1
 refine⟨D,d1,d2,fun q a=>?_,fun q a=>?_⟩
 ·rcases key q a with rfl | h
  ·exact⟨0,by grind⟩
  exact d3 q h
 rcases key q a with rfl | h
 ·have:(0:Rat)<=((2^k:Nat):Rat):=Rat.natCast_nonneg
  constructor <;> grind
 exact d4 q h
end Go.Abs
