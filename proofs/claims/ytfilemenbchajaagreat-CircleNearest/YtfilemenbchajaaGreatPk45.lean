/- Part 46 of a proof. Conditions: each theorem's own. -/
import Derived.Test.YtfilemenbchajaaGreatPk44
set_option linter.all false
set_option maxHeartbeats 8000000
set_option maxRecDepth 20000
open Go.Proofs
namespace Go.Abs
abbrev Cf:Nat:=214500000
abbrev Mf:Nat:=156000000000
theorem Zx:∀h,h<=4->Fit h Rf (Mf+Cf)
 |0,_|1,_|2,_|3,_|4,_=>⟨by decide +kernel,by decide +kernel,by decide +kernel,by decide +kernel⟩
 | _+5,h=>absurd h (by omega)
theorem Zv:∀h,h<=4->Dm h Rf (Mf+Cf)
 |0,_|1,_|2,_|3,_|4,_=>⟨by decide +kernel,by decide +kernel,by decide +kernel,by decide +kernel⟩
 | _+5,h=>absurd h (by omega)
theorem bw:2*(Mf+Cf)+EE 4 Rf<=60000000000000:=by decide +kernel
theorem aJ:II 4 Rf Mf<=60000000000000:=by decide +kernel
theorem Z7 {P:List (List Rat)->Prop} {R0 S:Nat} (I:Db P R0) (o:∀{u},Tf P u->TB Rf u) (f:∀{u},Tf P u->u.length<=4) (i:∀{u w s x},Tf P u->Tf P w->BK u w->El u s x->El w (s+Cf) x) (j:Rf<=S) (g:S<=Mf):Cv (Tf P) Rf Cf S where
 AU:=fun {u} h=>⟨h.red I,o h,by decide,by have:=f h;omega⟩
 ht:=fun {u} h=>by have:=f h;omega
 nil:= .nil
 sub:=fun {r u} h=>h.sub I
 Ax:=fun {t r u} ht h i=>ht.RI I h i
 Be:=i
 fit:=fun {u} h=>(Zx _ (f h)).mono (Nat.add_le_add_right g Cf)
 mul:=fun {u} h=>Nat.le_trans (Nat.add_le_add (Nat.mul_le_mul_left 2 (Nat.add_le_add_right g Cf)) (He (h:=u.length) (h':=4) (R:=Rf) (R':=Rf) (f h) (Nat.le_refl _))) bw
 RS:=j
 HB:=fun {u} h=>(Zv _ (f h)).mono (Nat.add_le_add_right g Cf)
section
variable {P:List (List Rat)->Prop} {V:List Re} {w:List (List Rat)} {n:Re}
theorem Z6 (I:Db P 256) (hV:∀{u},P u->∀v∈Go.Abs.BE u,v∈V) (h3:V.length<=3) {S:Nat} (f:Rf<=S) (g:S<=Mf):Cv (Tf P) Rf Cf S:=by
 refine Z7 I (fun {u} h=>(h.Kj I hV h3).mono (by decide)) (fun h=>Nat.le_trans (h.len I hV) (by omega)) (fun {u v s x} hu j i o=>(Tf.Sk I hV h3 hu j i o).mono ?_) f g
 show s+226506<=s+214500000
 omega
end
end Go.Abs
namespace Go.Abs
open Go.RowKit
abbrev Ve:=Nu×Nu
noncomputable def vm (p:Ve):el CP:=(nm p.1,nm p.2)
noncomputable def Et (ns:List Nu) (W:List UInt8):List Ve:=(List.range (W.length/2)).map fun i=>(CE ns (W.getD (2*i) 0).toNat,CE ns (W.getD (2*i+1) 0).toNat)
theorem dH (ns:List Nu) (W:List UInt8):(Et ns W).length=W.length/2:=by rw[Et,List.length_map,List.length_range]
theorem WW {W:List UInt8} {i:Nat} {x:UInt8} (h:W[i]? =some x):W.getD i 0=x:=by rw[List.getD_eq_getElem?_getD,h];rfl
theorem Uj {ns:List Nu} {W:List UInt8} {i:Nat} {x y:UInt8} (g:W[2*i]? =some x) (f:W[2*i+1]? =some y):(Et ns W).take (i+1)=(Et ns W).take i++[(CE ns x.toNat,CE ns y.toNat)]:=by
 have j:=Gd f
 have h:(Et ns W)[i]? =some (CE ns x.toNat,CE ns y.toNat):=by
  rw[Et,List.getElem?_map,List.getElem?_range (by omega)]
  show some (CE ns (W.getD (2*i) 0).toNat,CE ns (W.getD (2*i+1) 0).toNat)=_
  rw[WW g,WW f]
 exact Bi h
theorem Lt (ns:List Nu) (i:Nat):CE ns i∈ns\/CE ns i=FN:=by
 by_cases h:ns=[]
 ·right;subst h;rfl
 exact .inl (OH h i)
theorem dI {ns:List Nu} {W:List UInt8} {p:Ve} (h:p∈Et ns W):(p.1∈ns\/p.1=FN)/\(p.2∈ns\/p.2=FN):=by
 obtain⟨i,_,rfl⟩:=List.mem_map.1 h;exact⟨Lt _ _,Lt _ _⟩
abbrev Fe (TT:List (List Rat)->Prop) (w:List (List Rat)):Prop:=Fm TT w Rn 11500 20 43400000 23 14
abbrev Fd (TT:List (List Rat)->Prop) (w:List (List Rat)):Prop:=Fm TT w Rf 1950000 110 80000 47 23
abbrev Nd (TT:List (List Rat)->Prop) (w:List (List Rat)) (k:Nat) (T:List LR) (A:LR) (x:Re):Prop:=Nm TT w 1950000 k T A x
abbrev Vd (TT:List (List Rat)->Prop) (w:List (List Rat)) (k k':Nat) (T1:List LR) (A1:LR) (T2:List LR) (A2:LR) (x y:Re):Prop:=Vm TT w 1950000 k k' T1 A1 T2 A2 x y
theorem aK (t:Nat):II 3 Rn t<=23*t+14*11500:=by simp only[II,EE,Rn];omega
structure Pl (P:List (List Rat)->Prop) (V:List Re) (w:List (List Rat)):Prop where
 I:Db P 256
 hV:∀{u},P u->∀v∈BE u,v∈V
 h3:V.length<=3
 hw:Tf P w
 ha:∀{u},Tf P u->BK u w
theorem cq {P:List (List Rat)->Prop} {V:List Re} (I:Db P 256) (hV:∀{u},P u->∀v∈BE u,v∈V) (h3:V.length<=3):∃w,Pl P V w:=by
 obtain⟨w,hw,ha⟩:=Tf.top I (fun {u} h=>Nat.le_trans (h.len I hV) h3);exact⟨w,I,hV,h3,hw,ha⟩
section
variable {P:List (List Rat)->Prop} {V:List Re} {w:List (List Rat)}
theorem Pl.len (L:Pl P V w) {u:List (List Rat)} (h:Tf P u):u.length<=3:=Nat.le_trans (h.len L.I L.hV) L.h3
theorem Pl.mul (L:Pl P V w) {x y:Re} {s t:Nat} (f:El w s x) (g:El w t y):El w (s+t+10794) (x*y):=(f.mul ⟨L.hw.red L.I,L.hw.Kj L.I L.hV L.h3,by decide,by have:=L.len L.hw;omega⟩ g).mono (by
 have:=He (L.len L.hw) (Nat.le_refl Rn);have e:EE 3 Rn=10794:=by decide +kernel
 omega)
theorem Pl.inv (L:Pl P V w) {x y:Re} {s:Nat} (f:El w s x) (g:In w y) (e:x*y=1):El w (23*s+14*11500) y:=(f.inv ⟨L.hw.red L.I,L.hw.Kj L.I L.hV L.h3,by decide,by have:=L.len L.hw;omega⟩ g e).mono (Nat.le_trans (Kr (L.len L.hw) (Nat.le_refl _) (Nat.le_refl _)) (aK s))
theorem Pl.fd (L:Pl P V w):Fd (Tf P) w:=by
 refine⟨fun {S} h i=>Z6 L.I L.hV L.h3 h (Nat.le_trans i (by decide)),L.hw,L.ha,by decide,by decide,fun f g=>(L.mul f g).mono (by omega),fun f g e=>(L.inv f g e).mono (by omega),fun {u} hu=>?_⟩;exact Nat.le_trans (Kr (Nat.le_trans (L.len hu) (by decide:3<=4)) (Nat.le_refl _) (Nat.le_refl _)) aJ
end
theorem GL {V:List Re} {ns:List Nu} (hV:V.length<=3) (h:∀n∈ns,BY V n):∃w,Pl (PN ns) V w:=cq (PN.HF hV h) (fun f=>PN.BE h f) hV
theorem Z1 {V:List Re} {ns:List Nu} (hV:V.length<=3) (h:∀n∈ns,BY V n):∃w,Fd (Tf (PN ns)) w:=by
 obtain⟨w,L⟩:=GL hV h;exact⟨w,L.fd⟩
theorem KJ {V:List Re} {ns:List Nu} {w:List (List Rat)} (L:Pl (PN ns) V w) (h:∀n∈ns,BY V n) {n:Nu} (f:n∈ns\/n=FN) {b k:Nat} (hb:227018<=k*b):Nm (Tf (PN ns)) w b k (tw n.1) (em n.1 n.2) n.2:=by
 rcases f with f | rfl
 ·have hu:=EZ L.h3 h f;have he:=(h n f).el L.h3;exact⟨n.1,hu,rfl,rfl,he.mem,(Tf.Sk L.I L.hV L.h3 hu L.hw (L.ha hu) he).mono (Nat.le_trans (by decide) hb)⟩
 exact⟨[],.nil,rfl,rfl,Ds 0 [],(El.rat (L.hw.red L.I) (IZ (b:=64) (r:=0) (by decide +kernel) (Nat.le_refl 64))).mono (Nat.le_trans (by decide) hb)⟩
theorem dG {V:List Re} {ns:List Nu} {W:List UInt8} {w:List (List Rat)} (L:Pl (PN ns) V w) (h:∀n∈ns,BY V n) {i:Nat} {x:el CP} {Q:List (el CP)} (j:Q=(Et ns W).map vm) (f:Q[i]? =some x):∃X Y,∀{b k:Nat},227018<=k*b->Vm (Tf (PN ns)) w b k k x.1.1 x.1.2 x.2.1 x.2.2 X Y:=by
 rw[j,List.getElem?_map] at f;cases g:(Et ns W)[i]? with
 | none=>rw[g] at f;simp at f
 | some p=>
  rw[g] at f;have e:vm p=x:=Option.some.inj f;obtain⟨m1,m2⟩:=dI (List.mem_of_getElem? g);rw[<-e];exact⟨_,_,fun hb=>⟨KJ L h m1 hb,KJ L h m2 hb⟩⟩
noncomputable def FL (ns:List Nu) (W:List UInt8):List (el CP):=if W.length<=24 then (Et ns W).map vm else []
theorem C9 {V:List Re} {ns:List Nu} {W:List UInt8} {w:List (List Rat)} (L:Pl (PN ns) V w) (h:∀n∈ns,BY V n) {i:Nat} {x:el CP} {Q:List (el CP)} (f:Q=FL ns W) (g:Q[i]? =some x):∃X Y,∀{b k:Nat},227018<=k*b->Vm (Tf (PN ns)) w b k k x.1.1 x.1.2 x.2.1 x.2.2 X Y:=by
 unfold FL at f
 split at f
 ·exact dG L h f g
 subst f;simp at g
theorem EH {TT:List (List Rat)->Prop} {w:List (List Rat)} (F:Fd TT w) {p q:Rat} (g:Bz p) (h:Bz q):∃A f,(A=em [] (Re.ofRat p)/\f=em [] (Re.ofRat q))/\Vd TT w 1 1 [] A [] f (Re.ofRat p) (Re.ofRat q):=
 ⟨_,_,⟨rfl,rfl⟩,KK F (by decide) (IZ g (by decide)),KK F (by decide) (IZ h (by decide))⟩
theorem DK {TT:List (List Rat)->Prop} {w:List (List Rat)} (F:Fd TT w) {p:Rat} (f:Bz p):∃A,A=em [] (Re.ofRat p)/\Nd TT w 1 [] A (Re.ofRat p):=⟨_,rfl,KK F (by decide) (IZ f (by decide))⟩
theorem Qi {L:List (el Am)} {i:Int} {A:LR} (o:L=[]) (h:A=em [] 0):CF 105 [.one (.sl Am L),.one (.int .i64 i)] (.agg [.sl (.sl AA) (([]:List LR)),.sl AA A]):=by
 have s:L.length=0:=by rw[o];rfl
 refine AH Tryz.func105 (by kernel_rfl) rfl fun E j=>?_
 conv=>cbv
 rintro v ⟨u,f6⟩;conv=>cbv
 intro t f;conv=>cbv
 cases t <;> conv=>cbv
 ·have g:=Au f;exact absurd g (by omega)
 have g:=Av f;refine cL (r:= .agg [.sl (.sl AA) (([]:List LR)),.sl AA A]) j (D6 (x:=0) (by decide) (by rw[h];rfl)) t1 ?_;try conv=>cbv
 exact fA ⟨t3,trivial⟩ rfl (by simp)
theorem K4 {L:List (el Am)} {ns:List Nu} {i:Int} {i':Nat} {n:Nu} {T:List LR} {A:LR} (j:L=ns.map nm) (r:AS i i') (o:n=CE ns i') (g:T=tw n.1) (f:A=em n.1 n.2):CF 105 [.one (.sl Am L),.one (.int .i64 i)] (.agg [.sl (.sl AA) T,.sl AA A]):=by
 by_cases h:ns=[]
 ·subst h;have e:n=FN:=o;rw[e] at g f;rw[show T=[] from g];exact Qi j f
 exact Qj j h r o g f
theorem g7 {X:List (el Bf)} {W:List UInt8} {ns:List Nu} (o:ns=(runN (X.take 24)).1) {V:List Re} (B:V.length<=3) (h:∀n∈ns,BY V n) (F:24<W.length):CF 76 [.agg [.sl Bf X,.sl .u8 W]] (.AE [(false,[.sl CP (([]:List (el CP)))]),(false,[.bool false])]):=by
 refine AH Tryz.func76 (by kernel_rfl) rfl fun E t=>?_
 conv=>cbv
 obtain⟨v,g⟩:∃z:List (el Am),z=ns.map nm:=⟨_,rfl⟩
 refine cL (r:= .one (.sl Am v)) t (NJ (by rw[g,o])) t1 ?_;try conv=>cbv
 refine cL t (Qh g (fun n u=>⟨(h n u).cos,(h n u).Fk⟩)) t1 ?_;try conv=>cbv
 intro C j;cases j.trans (rfl:_=false);conv=>cbv
 rintro D ⟨A,f16⟩;conv=>cbv
 intro s f;conv=>cbv
 cases s <;> conv=>cbv
 ·have i:=CA f;exact absurd i (by omega)
 have i:=CB f;exact fA ⟨⟨rfl,.inr (.inl ⟨_,rfl⟩),trivial⟩,t2,trivial⟩ rfl (by simp)
theorem g8 {X:List (el Bf)} {W:List UInt8} {ns:List Nu} (al:ns=(runN (X.take 24)).1) {V:List Re} (az:V.length<=3) (a7:∀n∈ns,BY V n) (hW:W.length<=24) {Q:List (el CP)} (hQ:Q=(Et ns W).map vm):CF 76 [.agg [.sl Bf X,.sl .u8 W]] (.AE [(false,[.sl CP Q]),(false,[.bool true])]):=by
 have aC:=dH ns W;refine AH Tryz.func76 (by kernel_rfl) rfl fun E Z=>?_
 conv=>cbv
 obtain⟨L9,G⟩:∃z:List (el Am),z=ns.map nm:=⟨_,rfl⟩
 refine cL (r:= .one (.sl Am L9)) Z (NJ (by rw[G,al])) t1 ?_;try conv=>cbv
 refine cL Z (Qh G (fun n hn=>⟨(a7 n hn).cos,(a7 n hn).Fk⟩)) t1 ?_;try conv=>cbv
 intro aE af;cases af.trans (rfl:_=false);conv=>cbv
 rintro aF ⟨ay,f16⟩;conv=>cbv
 intro an a1;conv=>cbv
 cases an <;> conv=>cbv
 ·have a8:=CA a1;refine .inr ?_;obtain⟨J0,N⟩:=xJ fun vs bl k=>(∃(k':Nat) (j:Int),vs=[.one (.AD 1 0 0),.one (.sl Am L9),.one .nil,.one (.int .i64 j)]/\bl=[.var 0 [.sl Bf X,.sl .u8 W],.dead 0]/\(AS j (2*k')/\k'=0)/\k=W.length/2-k')\/(∃(o:List (el CP)) (n k':Nat) (j:Int),vs=[.one (.AD 1 0 0),.one (.sl Am L9),.one (.AT CP 47 0 0 n),.one (.int .i64 j)]/\bl=[.var 0 [.sl Bf X,.sl .u8 W],.arr 0 CP o]/\(AS j (2*k')/\k'<=W.length/2/\n=o.length)/\o=((Et ns W).take k').map vm/\k=W.length/2-k')
  refine⟨[1,4,5,6],[1,47],J0,⟨W.length/2-0,by rw[N];exact .inl ⟨0,0,rfl,rfl,⟨BC 0,rfl⟩,rfl⟩⟩,?_⟩;intro vs bl aD hj;rw[N] at hj;rcases hj with⟨k',j,rfl,rfl,⟨hj,a2⟩,ak⟩ |⟨o,n,k',j,rfl,rfl,⟨hj,aA,hn⟩,hinv,ak⟩
  ·conv=>cbv
   have ej:=hj.eq;intro ao ag;conv=>cbv
   refine g1 (by omega) ?_;rintro aq ⟨ab,f23⟩;conv=>cbv
   intro U H;conv=>cbv
   cases U <;> conv=>cbv
   ·have S:=Ad H;exact fA ⟨⟨rfl,.inr (.inl ⟨_,congrArg _ (by rw[hQ,List.eq_nil_of_length_eq_zero (show (Et ns W).length=0 by omega)];rfl)⟩),trivial⟩,t2,trivial⟩ rfl (by simp)
   have S:=Ae H;refine .inr ?_;obtain⟨f,v⟩:=AG (l:=W) (i:=(2*k')) (by omega);refine⟨f,fun _=>⟨by omega,by rw[show (j).toNat=(2*k') by omega];exact v⟩,?_⟩;try conv=>cbv
   intro au I;have ad:=I.eq;have f33:=I.lt;conv=>cbv
   intro av J;conv=>cbv
   have J:=wrap_i64 J;obtain⟨D,t⟩:=E7 (tw (CE ns f.toNat).1);obtain⟨B,h⟩:=CY (em (CE ns f.toNat).1 (CE ns f.toNat).2);refine cL Z (K4 G ⟨by omega⟩ rfl t h) t2 ?_;try conv=>cbv
   intro Y ai;conv=>cbv
   refine g1 (by omega) ?_;obtain⟨g,A⟩:=AG (l:=W) (i:=(2*k'+1)) (by omega);refine⟨g,fun _=>⟨by omega,by rw[show (Y).toNat=(2*k'+1) by omega];exact A⟩,?_⟩;try conv=>cbv
   intro aw K;have ae:=K.eq;have f42:=K.lt;conv=>cbv
   intro ax L;conv=>cbv
   have L:=wrap_i64 L;obtain⟨F,u⟩:=E7 (tw (CE ns g.toNat).1);obtain⟨C,s⟩:=CY (em (CE ns g.toNat).1 (CE ns g.toNat).2);refine cL Z (K4 G ⟨by omega⟩ rfl u s) t2 ?_;try conv=>cbv
   refine⟨[((D,B),(F,C))],fun _=>⟨rfl,by decide,rfl,⟨rfl,by first | exact t1 | exact t2 | exact t4 | simp[Aw,BF,cells],trivial⟩⟩,.inr ?_⟩;try conv=>cbv
   refine .inl ⟨[((D,B),(F,C))],fun _=>⟨rfl,by show (1)*96<=140737488355328;(try simp only[List.length_take,List.length_drop]);omega⟩,?_⟩;intro aa aj;conv=>cbv
   refine⟨fun _=>Aq (by kernel_rfl),?_⟩;intro ar ah;conv=>cbv
   refine g1 (by omega) ?_;refine⟨W.length/2-(k'+1),?_,?_⟩
   ·omega
   rw[N];exact .inr ⟨_,_,k'+1,_,rfl,rfl,⟨⟨by omega⟩,by omega,aj⟩,by rw[Uj v A,List.map_append,t,h,u,s,a2];rfl,rfl⟩
  conv=>cbv
  have ej:=hj.eq;have aB:o.length<=12:=by rw[hinv,List.length_map,List.length_take];omega
  intro ao ag;conv=>cbv
  refine g1 (by omega) ?_;rintro aq ⟨ab,f23⟩;conv=>cbv
  intro U H;conv=>cbv
  cases U <;> conv=>cbv
  ·have S:=Ad H;exact fA ⟨⟨rfl,.inl ⟨_,rfl,by omega,congrArg _ (by rw[hQ,hn,List.drop_zero,List.take_length,hinv,List.take_of_length_le (by omega)])⟩,trivial⟩,t2,trivial⟩ rfl (by simp)
  have S:=Ae H;refine .inr ?_;obtain⟨f,v⟩:=AG (l:=W) (i:=(2*k')) (by omega);refine⟨f,fun _=>⟨by omega,by rw[show (j).toNat=(2*k') by omega];exact v⟩,?_⟩;try conv=>cbv
  intro au I;have ad:=I.eq;have f33:=I.lt;conv=>cbv
  intro av J;conv=>cbv
  have J:=wrap_i64 J;obtain⟨D,t⟩:=E7 (tw (CE ns f.toNat).1);obtain⟨B,h⟩:=CY (em (CE ns f.toNat).1 (CE ns f.toNat).2);refine cL Z (K4 G ⟨by omega⟩ rfl t h) t2 ?_;try conv=>cbv
  intro Y ai;conv=>cbv
  refine g1 (by omega) ?_;obtain⟨g,A⟩:=AG (l:=W) (i:=(2*k'+1)) (by omega);refine⟨g,fun _=>⟨by omega,by rw[show (Y).toNat=(2*k'+1) by omega];exact A⟩,?_⟩;try conv=>cbv
  intro aw K;have ae:=K.eq;have f42:=K.lt;conv=>cbv
  intro ax L;conv=>cbv
  have L:=wrap_i64 L;obtain⟨F,u⟩:=E7 (tw (CE ns g.toNat).1);obtain⟨C,s⟩:=CY (em (CE ns g.toNat).1 (CE ns g.toNat).2);refine cL Z (K4 G ⟨by omega⟩ rfl u s) t2 ?_;try conv=>cbv
  refine⟨[((D,B),(F,C))],fun _=>⟨rfl,by decide,rfl,⟨rfl,by first | exact t1 | exact t2 | exact t4 | simp[Aw,BF,cells],trivial⟩⟩,.inr ?_⟩;try conv=>cbv
  refine .inl ⟨[((D,B),(F,C))],fun _=>⟨rfl,by (first | rfl | omega),rfl,by show (o.length+1)*96<=140737488355328;(try simp only[List.length_take,List.length_drop]);omega⟩,?_⟩;intro (T:List (el CP)) aa O;have a5:T=(o:List (el CP))++([((D,B),(F,C))]:List (el CP)):=O.1;have a6:aa=List.length (α:=(el CP)) T:=O.2;conv=>cbv
  refine⟨fun _=>Aq (by kernel_rfl),?_⟩;intro ar ah;conv=>cbv
  refine g1 (by omega) ?_;refine⟨W.length/2-(k'+1),?_,?_⟩
  ·omega
  rw[N];exact .inr ⟨T,_,k'+1,_,rfl,rfl,⟨⟨by omega⟩,by omega,a6⟩,by rw[a5,hinv,Uj v A,List.map_append,t,h,u,s];rfl,rfl⟩
 have a8:=CB a1;exact absurd a8 (by omega)
theorem hH {X:List (el Bf)} {W:List UInt8} {ns:List Nu} (h:ns=(runN (X.take 24)).1) {V:List Re} (g:V.length<=3) (j:∀n∈ns,BY V n) {Q:List (el CP)} {i:Int} {i':Nat} {c:Bool} (v:AS i i') (t:W.length<=24) (s:Q=(Et ns W).map vm) (u:c=decide (i'<=Q.length)):CF 15 [.agg [.sl Bf X,.sl .u8 W],.one (.int .i64 i)] (.AE [(false,[.sl CP Q]),(false,[.bool c])]):=by
 have C:=v.eq;refine AH Tryz.func15 (by kernel_rfl) rfl fun E r=>?_
 conv=>cbv
 refine cL r (g8 h g j t s) ⟨t2,trivial⟩ ?_;try conv=>cbv
 rintro A ⟨o,f17⟩;conv=>cbv
 intro B f;conv=>cbv
 exact fA ⟨t2,⟨rfl,congrArg _ (by rw[u,f,Bool.eq_iff_iff,decide_eq_true_eq,decide_eq_true_eq];omega),trivial⟩,trivial⟩ rfl (by simp)
theorem g9 {X:List (el Bf)} {W:List UInt8} {ns:List Nu} (g:ns=(runN (X.take 24)).1) {V:List Re} (f:V.length<=3) (h:∀n∈ns,BY V n) {i:Int} (o:24<W.length):CF 15 [.agg [.sl Bf X,.sl .u8 W],.one (.int .i64 i)] (.AE [(false,[.sl CP (([]:List (el CP)))]),(false,[.bool false])]):=by
 refine AH Tryz.func15 (by kernel_rfl) rfl fun E j=>?_
 conv=>cbv
 refine cL j (g7 g f h o) ⟨t2,trivial⟩ ?_;try conv=>cbv
 exact fA ⟨t2,t2,trivial⟩ rfl (by simp)
theorem Hd {X:List (el Bf)} {W:List UInt8} {ns:List Nu} (g:ns=(runN (X.take 24)).1) {V:List Re} (f:V.length<=3) (h:∀n∈ns,BY V n) {Q:List (el CP)} (j:Q=FL ns W) {i:Int} {i':Nat} (r:AS i i') (s:0<i') {c:Bool} (o:c=decide (i'<=Q.length)):CF 15 [.agg [.sl Bf X,.sl .u8 W],.one (.int .i64 i)] (.AE [(false,[.sl CP Q]),(false,[.bool c])]):=by
 unfold FL at j
 split at j
 ·exact hH g f h r (by assumption) j o
 subst j;rw[o,decide_eq_false (by simp;omega)];exact g9 g f h (by omega)
theorem XS {L:List (el Am)} {ns:List Nu} {i:Int} {n:Nu} {T:List LR} {A:LR} (j:L=ns.map nm) (r:i=(ns.length:Int)-1) (o:n=CE ns (ns.length-1)) (g:T=tw n.1) (f:A=em n.1 n.2):CF 105 [.one (.sl Am L),.one (.int .i64 i)] (.agg [.sl (.sl AA) T,.sl AA A]):=by
 by_cases h:ns=[]
 ·subst h;have e:n=FN:=o;rw[e] at g f;rw[show T=[] from g];exact Qi j f
 have:=List.length_pos_iff.2 h;exact Qj j h ⟨by omega⟩ o g f
theorem g0 {X:List (el Bf)} {W:List UInt8} {ns:List Nu} (g:ns=(runN (X.take 24)).1) {V:List Re} (t:V.length<=3) (B:∀n∈ns,BY V n) {n:Nu} (v:n=CE ns (ns.length-1)) {T:List LR} {A:LR} (s:T=tw n.1) (o:A=em n.1 n.2):CF 31 [.agg [.sl Bf X,.sl .u8 W]] (.agg [.sl (.sl AA) T,.sl AA A]):=by
 refine AH Tryz.func31 (by kernel_rfl) rfl fun E i=>?_
 conv=>cbv
 obtain⟨h,f⟩:∃z:List (el Am),z=ns.map nm:=⟨_,rfl⟩
 have u:h.length=ns.length:=by rw[f,List.length_map]
 refine cL (r:= .one (.sl Am h)) i (NJ (by rw[f,g])) t1 ?_;try conv=>cbv
 rintro F ⟨D,f9⟩;conv=>cbv
 intro C j;conv=>cbv
 refine g1 (by omega) ?_;refine cL i (XS f (by omega) v s o) t2 ?_;try conv=>cbv
 exact fA ⟨t3,trivial⟩ rfl (by simp)
end Go.Abs
namespace Go.Abs
open Go.RowKit
open Classical in
noncomputable def fs (x y:Re):Re:=if x=0 then y else x
open Classical in
noncomputable def un (x:Re):Re:=if x=0 then 0 else 1
section
variable {x y z:Re}
theorem It (h:x=0):fs x y=y:=if_pos h
theorem Hx (h:x≠0):fs x y=x:=if_neg h
theorem Kn (h:x=0):un x=0:=if_pos h
theorem Ko (h:x≠0):un x=1:=if_neg h
theorem Z5 (h:¬(x=0/\y=0)):fs x y≠0:=by
 by_cases f:x=0
 ·rw[It f];exact fun e=>h ⟨f,e⟩
 rw[Hx f];exact f
theorem Uv:(1:Re)≠0:=fun e=>absurd (Re.Du.1 (show Re.ofRat 1=Re.ofRat 0 from e)) (by decide)
theorem H3 {i:Re} (h:x*i=1):i=As x:=by
 have f:x≠0:=fun e=>Uv (by rw[<-h,e];grind)
 have:=Cy f;have e:i=i*(x*As x):=by rw[this];grind
 rw[e,show i*(x*As x)=(x*i)*As x by grind,h];grind
end
structure Kt (TT:List (List Rat)->Prop) (w:List (List Rat)) (b k l:Nat) (T1:List LR) (A1:LR) (T2:List LR) (A2:LR) (T3:List LR) (A3:LR) (x y z:Re):Prop where
 x:Nm TT w b 1 T1 A1 x
 y:Nm TT w b k T2 A2 y
 z:Nm TT w b l T3 A3 z
section
variable {TT:List (List Rat)->Prop} {w:List (List Rat)} {R b c M q p k k' l l':Nat} {T1 T2:List LR} {A1 A2:LR} {x y:Re}
theorem Nm.shrink (h:Nm TT w b k T1 A1 x) (g:Nm TT w b l T2 A2 y) (e:x=y):Nm TT w b l T1 A1 x:=by
 obtain⟨u,f,o,j,r,_⟩:=h;obtain⟨_,_,_,_,_,i⟩:=g;exact⟨u,f,o,j,r,e ▸ i⟩
theorem C6 (F:Fm TT w R b c M q p) (f:c<=M) {r:Rat} (g:Bz r) (h:Nm TT w b k T1 A1 x) (e:x=Re.ofRat r):Nm TT w b 1 T1 A1 (Re.ofRat r):=e ▸ h.shrink (KK F f (IZ g F.hb)) e
end
section
variable {x y z a d:Re}
theorem V6 {x:Re} (h:x≠0):0<x*x:=by
 have f:=Re.IE x;have g:=KG h h
 grind
theorem Kh (h:¬(x=0/\y=0)):x*x+y*y≠0:=by
 have g:=Re.IE x;have i:=Re.IE y
 by_cases f:x=0
 ·have:=V6 (fun e=>h ⟨f,e⟩)
  grind
 have:=V6 f
 grind
theorem gX {s:Re} (f:s≠0):un (s*x)=un x:=by
 by_cases h:x=0
 ·rw[Kn h,Kn (by rw[h];grind)]
 rw[Ko h,Ko (KG f h)]
theorem Z4 {s:Re} (f:s≠0):fs (s*x) (s*y)=s*fs x y:=by
 by_cases h:x=0
 ·rw[It h,It (by rw[h];grind)]
 rw[Hx h,Hx (KG f h)]
theorem inv_mul {s:Re} (i:s≠0) (h:x≠0):As (s*x)=As s*As x:=(H3 (by
 have f:=Cy i;have g:=Cy h;have:s*x*(As s*As x)=(s*As s)*(x*As x):=by grind
 rw[this,f,g];grind)).symm
theorem TW {s:Re} (f:s≠0) (h:¬(x=0/\y=0)):s*z*As (fs (s*x) (s*y))=z*As (fs x y):=by
 rw[Z4 f,inv_mul f (Z5 h)];have g:=Cy f;have:s*z*(As s*As (fs x y))=(s*As s)*(z*As (fs x y)):=by grind
 rw[this,g];grind
end
section
variable {n m z n' m' z' x y x1 y1 x2 y2:Re}
theorem gW (h:¬(n=0/\m=0)):un n=n*As (fs n m):=by
 by_cases f:n=0
 ·rw[Kn f,f];grind
 rw[Ko f,Hx f,Cy f]
theorem eU {s:Re} (f:s≠0) (h:¬(n=0/\m=0)) (g:n'=s*n) (em:m'=s*m) (i:z'=s*z):un n=un n'/\m*As (fs n m)=m'*As (fs n' m')/\z*As (fs n m)=z'*As (fs n' m'):=by
 rw[g,em,i];exact⟨(gX f).symm,(TW f h).symm,(TW f h).symm⟩
end
theorem JQ:Re.ofRat ((2:Int):Rat)=1+1:=by rw[show ((2:Int):Rat)=1+1 by decide +kernel,Re.ofRat_add];rfl
theorem HE:Re.ofRat (1/2)*(1+1)=1:=by rw[<-JQ,<-Re.ofRat_mul,show (1/2:Rat)*((2:Int):Rat)=1 by decide +kernel];rfl
theorem CH (a:Rat):As (Re.ofRat a)=Re.ofRat a⁻¹:=by
 by_cases h:a=0
 ·subst h;unfold As;rw[dif_neg (fun h=>h rfl)];exact congrArg Re.ofRat (show (0:Rat)=0⁻¹ by decide +kernel)
 exact (H3 (by rw[<-Re.ofRat_mul,Rat.mul_inv_cancel a h];rfl)).symm
theorem B7 (a b:Rat):Re.ofRat a-Re.ofRat b=Re.ofRat (a-b):=by
 rw[show Re.ofRat a-Re.ofRat b=Re.ofRat a+ -Re.ofRat b by grind,<-Re.ofRat_neg,<-Re.ofRat_add,Rat.sub_eq_add_neg]
end Go.Abs
namespace Go.Abs
open Go.RowKit
variable {M R b c l p:Nat} {TT:List (List Rat)->Prop} {q:Rat} {w:List (List Rat)}
theorem cU {q k:Nat} (F:Fm TT w R b c M q p) {T1:List LR} {A1:LR} {x:Re} (ha:Nm TT w b k T1 A1 x) (I:k+c+1<=M) (i:∀u,TT u->T1=tw u->In u x->TT (Ax u x)) (r:0<=x) (C:El w (l*b) (Re.sqrt x)) (N:l+c+1<=M):∃U B,Nm TT w b l U B (Re.sqrt x)/\CF 86 [.agg [.sl (.sl AA) T1,.sl AA A1]] (.AE [(true,[.sl (.sl AA) U,.sl AA B]),(false,[.int .i64 0])])/\CF 79 [.agg [.sl (.sl AA) T1,.sl AA A1]] (.AE [(true,[.sl (.sl AA) U,.sl AA B]),(false,[.int .i64 0])]):=by
 obtain⟨u,hu,f,h,D,J,A⟩:=F.own (by omega) ha;have G:=F.g I (by omega);have hw:=i u hu f D;have j:=LI D r;obtain⟨v,O,s,H,_,_,t⟩:=F.own (by omega) (show Nm TT w b l (tw (Ax u x)) (em (Ax u x) (Re.sqrt x)) (Re.sqrt x) from⟨_,hw,rfl,rfl,j,C⟩);have ev:v=Ax u x:=(Mw s).symm;subst ev
 have hb:(l+c)*b<=60000000000000:=by
  have K:=(F.g (Nat.le_refl M) (by omega)).toGam.mul F.top;have L:(l+c)*b<=M*b:=Nat.mul_le_mul_right b (by omega);omega
 have o:=A.mono (Nat.mul_le_mul_right b (Nat.le_succ (k+c)));exact⟨_,_,⟨_,hw,rfl,rfl,j,C⟩,W6 G.toGam hu f h o hw r rfl rfl t hb,NR G hu f h o hw r rfl rfl⟩
structure Rt (Gy:List (List Rat)->Prop) (w0:List (List Rat)) (b0 K:Nat) (TT:List (List Rat)->Prop) (w:List (List Rat)) (b l:Nat) (v:Re):Prop where
 get:∀{k:Nat} {T1:List LR} {A1:LR},k<=K->Nm Gy w0 b0 k T1 A1 v->∃U B,Nm TT w b l U B (Re.sqrt v)/\CF 86 [.agg [.sl (.sl AA) T1,.sl AA A1]] (.AE [(true,[.sl (.sl AA) U,.sl AA B]),(false,[.int .i64 0])])/\CF 79 [.agg [.sl (.sl AA) T1,.sl AA A1]] (.AE [(true,[.sl (.sl AA) U,.sl AA B]),(false,[.int .i64 0])])
theorem Pb {q K:Nat} {v:Re} (F:Fm TT w R b c M q p) (o:K+c+1<=M) (f:∀u,TT u->In u v->TT (Ax u v)) (g:0<=v) (i:El w (l*b) (Re.sqrt v)) (h:l+c+1<=M):Rt TT w b K TT w b l v:=
 ⟨fun r ha=>cU F ha (by omega) (fun u hu _ j=>f u hu j) g i h⟩
theorem Um (A:Bz q) (o:(0:Re)<=Re.ofRat q) (h:¬Sq [] (Re.ofRat q)):BY [Re.ofRat q] (Ax [] (Re.ofRat q),Re.sqrt (Re.ofRat q)):=by
 refine⟨PJ PM (Ds q []) o,LI (Ds q []) o,fun v j=>?_,fun s i r f=>?_,fun r f=>?_⟩
 ·rcases P7 (Ds q []) v j with rfl | j
  ·exact List.mem_singleton.2 rfl
  simp[BE] at j
 ·have i:s∈Ax [] (Re.ofRat q):=i;rw[D9 h] at i;rw[List.mem_singleton.1 i,Co] at f;rw[List.mem_singleton.1 f];exact A
 have f:r∈co (Ax [] (Re.ofRat q)) (Re.sqrt (Re.ofRat q)):=f
 have g:=PL PM (Ds q []) (by
  have:Re.ofRat q≠0:=fun e=>h ⟨0,Bp [],by rw[e];grind⟩
  grind) h
 rw[D9 h,<-Kc (Ds q [])] at f;rw[Cr g (Bp []) (OP []) (show rt [] (co [] (Re.ofRat q))=0+1*rt [] (co [] (Re.ofRat q)) by grind)] at f;have t:co [] (0:Re)=[0]:=Co 0;have u:co [] (1:Re)=[1]:=Co 1;rw[t,u] at f;rcases List.mem_cons.1 f with rfl | f
 ·exact Pm (k:=0) (by decide)
 rw[List.mem_singleton.1 f];exact Pm (k:=1) (by decide)
theorem On:¬Sq [] (Re.ofRat 2):=cT (k:=2) (m:=1) (by decide) (by decide)
theorem UD:¬Sq [] (Re.ofRat (1/2)):=by
 rintro⟨y,f,e⟩
 refine On ⟨Re.ofRat 2*y,Ar PM (Ds 2 []) f,?_⟩;have:Re.ofRat 2*y*(Re.ofRat 2*y)=Re.ofRat 2*Re.ofRat 2*(y*y):=by grind
 rw[this,e,<-Re.ofRat_mul,<-Re.ofRat_mul];exact congrArg Re.ofRat (by decide +kernel)
noncomputable def E5:List Nu:=[(Ax [] (Re.ofRat (1/2)),Re.sqrt (Re.ofRat (1/2))),(Ax [] (Re.ofRat 2),Re.sqrt (Re.ofRat 2))]
theorem Gl (h:0<=q):(0:Re)<=Re.ofRat q:=by rw[<-Re.GI];exact Re.Oy.2 h
theorem Oo:∀n∈E5,BY [Re.ofRat (1/2),Re.ofRat 2] n:=by
 intro n f;rcases List.mem_cons.1 f with rfl | f
 ·exact (Um (by decide +kernel) (Gl (by decide +kernel)) UD).mono (fun v g=>by rw[List.mem_singleton.1 g];simp)
 rw[List.mem_singleton.1 f];exact (Um (by decide +kernel) (Gl (by decide +kernel)) On).mono (fun v g=>by rw[List.mem_singleton.1 g];simp)
theorem RH (f:¬Sq [] (Re.ofRat q)) {n:Nu} (hm:n∈E5) (e:n.1=Ax [] (Re.ofRat q)) {u:List (List Rat)} (hu:Tf (PN E5) u):Tf (PN E5) (Ax u (Re.ofRat q)):=by
 have h:PN E5 [co [] (Re.ofRat q)]:=⟨n,hm,by rw[e,D9 f];exact List.suffix_refl _⟩;have:=Tf.Ax hu h (Ip u);rwa [Df (Ds q [])] at this
theorem Zs:∃w,Fd (Tf (PN E5)) w/\Rt (Tf (PN E5)) w 1950000 70000 (Tf (PN E5)) w 1950000 1 (Re.ofRat (1/2))/\Rt (Tf (PN E5)) w 1950000 70000 (Tf (PN E5)) w 1950000 1 (Re.ofRat 2):=by
 obtain⟨w,L⟩:=GL (V:=[Re.ofRat (1/2),Re.ofRat 2]) (ns:=E5) (by decide) Oo;have f:(Ax [] (Re.ofRat (1/2)),Re.sqrt (Re.ofRat (1/2)))∈E5:=List.mem_cons_self;have g:(Ax [] (Re.ofRat 2),Re.sqrt (Re.ofRat 2))∈E5:=List.mem_cons_of_mem _ List.mem_cons_self;obtain⟨_,_,_,_,_,h⟩:=KJ L Oo (.inl f) (b:=1950000) (k:=1) (by decide);obtain⟨_,_,_,_,_,i⟩:=KJ L Oo (.inl g) (b:=1950000) (k:=1) (by decide);exact⟨w,L.fd,Pb L.fd (by decide) (fun u hu _=>RH UD f rfl hu) (Gl (by decide +kernel)) h (by decide),Pb L.fd (by decide) (fun u hu _=>RH On g rfl hu) (Gl (by decide +kernel)) i (by decide)⟩
end Go.Abs
