/- Part 46 of a proof. Conditions: each theorem's own. -/
import Derived.Test.YtoonaidhfikkeaaGreatPk44
set_option linter.all false
set_option maxHeartbeats 8000000
open Go.Proofs
namespace Go.Abs
open Go.RowKit
abbrev Ve:=Nu×Nu
noncomputable def vm (p:Ve):el Cw:=(nm p.1,nm p.2)
noncomputable def D3 (ns:List Nu) (W:List UInt8):List Ve:=(List.range (W.length/2)).map fun i=>(Bf ns (W.getD (2*i) 0).toNat,Bf ns (W.getD (2*i+1) 0).toNat)
variable {A:LR} {L:List (el AY)} {Q:List (el Cw)} {T:List LR} {TT:List (List Rat)->Prop} {V:List Re} {X:List (el Bi)} {c:Bool} {i':Nat} {n:Nu} {p:Rat} {w:List (List Rat)}
theorem Ya (ns:List Nu) (W:List UInt8):(D3 ns W).length=W.length/2:=by rw[D3,List.length_map,List.length_range]
theorem TW {W:List UInt8} {i:Nat} {x:UInt8} (h:W[i]? =some x):W.getD i 0=x:=by rw[List.getD_eq_getElem?_getD,h];rfl
theorem Rs {ns:List Nu} {W:List UInt8} {i:Nat} {x y:UInt8} (b:W[2*i]? =some x) (a:W[2*i+1]? =some y):(D3 ns W).take (i+1)=(D3 ns W).take i++[(Bf ns x.toNat,Bf ns y.toNat)]:=by
 have c:=Fg a
 have h:(D3 ns W)[i]? =some (Bf ns x.toNat,Bf ns y.toNat):=by
  rw[D3,List.getElem?_map,List.getElem?_range (by omega)]
  show some (Bf ns (W.getD (2*i) 0).toNat,Bf ns (W.getD (2*i+1) 0).toNat)=_
  rw[TW b,TW a]
 exact BJ h
theorem MM (ns:List Nu) (i:Nat):Bf ns i∈ns\/Bf ns i=E8:=by
 by_cases h:ns=[]
 ·right;subst h;rfl
 exact .inl (ML h i)
theorem Yc {ns:List Nu} {W:List UInt8} {p:Ve} (h:p∈D3 ns W):(p.1∈ns\/p.1=E8)/\(p.2∈ns\/p.2=E8):=by
 obtain⟨i,_,rfl⟩:=List.mem_map.1 h;exact⟨MM _ _,MM _ _⟩
abbrev Fd (TT:List (List Rat)->Prop) (w:List (List Rat)):Prop:=Fm TT w Rm 700000 76 714285 23 14
abbrev Nd (TT:List (List Rat)->Prop) (w:List (List Rat)) (k:Nat) (T:List LR) (A:LR) (x:Re):Prop:=Nm TT w 700000 k T A x
abbrev Vd (TT:List (List Rat)->Prop) (w:List (List Rat)) (k k':Nat) (T1:List LR) (A1:LR) (T2:List LR) (A2:LR) (x y:Re):Prop:=Vm TT w 700000 k k' T1 A1 T2 A2 x y
theorem W7 (t:Nat):II 3 Rm t<=23*t+14*700000:=by simp only[II,EE,Rm];omega
theorem Ws {P:List (List Rat)->Prop} (I:De P 256) (hm:∀{u},Tf P u->u.length<=3):∃w,Fd (Tf P) w:=by
 obtain⟨w,hw,d⟩:=Tf.top I hm;have a:EE 3 Rm<=700000:=by decide +kernel
 exact⟨w,fun {S} b c=>J3 I hm b (Nat.le_trans c (by decide)),hw,d,by decide,by decide,Nat.le_trans (GZ (hm hw) (Nat.le_refl _)) a,fun {u} t hu=>Nat.le_trans (LK (hm hu) (Nat.le_refl _) (Nat.le_refl _)) (W7 t),by decide⟩
theorem aq {ns:List Nu} (a:V.length<=3) (h:∀n∈ns,BG V n):∃w,Fd (Tf (PN ns)) w:=Ws (PN.EA a h) fun hu=>Nat.le_trans (hu.len (PN.EA a h) (fun b=>PN.BA h b)) a
theorem X3 (F:Fd TT w) (a:TT n.1) (he:El n.1 512 n.2):Nd TT w 77 (tw n.1) (em n.1 n.2) n.2:=
 ⟨n.1,a,rfl,rfl,he.mem,((F.g (k:=1) (by decide) (Nat.le_refl 1)).toGam.BF a F.top (F.all a) he).mono (by decide)⟩
theorem Ms {ns:List Nu} (F:Fd (Tf (PN ns)) w) (b:V.length<=3) (h:∀n∈ns,BG V n) (a:n∈ns\/n=E8):Nd (Tf (PN ns)) w 77 (tw n.1) (em n.1 n.2) n.2:=by
 rcases a with a | rfl
 ·exact X3 F (Di b h a) ((h n a).el b)
 have:=Hi F (by decide) (r:=0) (HF (by decide +kernel) (by decide));exact this.mono (by decide)
theorem YZ {ns:List Nu} {W:List UInt8} (F:Fd (Tf (PN ns)) w) (c:V.length<=3) (h:∀n∈ns,BG V n) {i:Nat} {x:el Cw} (d:Q=(D3 ns W).map vm) (a:Q[i]? =some x):∃X Y,Vd (Tf (PN ns)) w 77 77 x.1.1 x.1.2 x.2.1 x.2.2 X Y:=by
 rw[d,List.getElem?_map] at a;cases b:(D3 ns W)[i]? with
 | none=>rw[b] at a;simp at a
 | some p=>
  rw[b] at a;have e:vm p=x:=Option.some.inj a;obtain⟨m1,m2⟩:=Yc (List.mem_of_getElem? b);rw[<-e];exact⟨_,_,Ms F c h m1,Ms F c h m2⟩
noncomputable def Ke (ns:List Nu) (W:List UInt8):List (el Cw):=if W.length<=24 then (D3 ns W).map vm else []
theorem bB {ns:List Nu} {W:List UInt8} (F:Fd (Tf (PN ns)) w) (c:V.length<=3) (h:∀n∈ns,BG V n) {i:Nat} {x:el Cw} (a:Q=Ke ns W) (b:Q[i]? =some x):∃X Y,Vd (Tf (PN ns)) w 77 77 x.1.1 x.1.2 x.2.1 x.2.2 X Y:=by
 unfold Ke at a
 split at a
 ·exact YZ F c h a b
 subst a;simp at b
theorem bD (F:Fd TT w) {q:Rat} (b:Bq p) (c:Bq q):∃A a,(A=em [] (Re.ofRat p)/\a=em [] (Re.ofRat q))/\Vd TT w 1 1 [] A [] a (Re.ofRat p) (Re.ofRat q):=
 ⟨_,_,⟨rfl,rfl⟩,Hi F (by decide) (HF b (by decide)),Hi F (by decide) (HF c (by decide))⟩
theorem bC (F:Fd TT w) (a:Bq p):∃A,A=em [] (Re.ofRat p)/\Nd TT w 1 [] A (Re.ofRat p):=⟨_,rfl,Hi F (by decide) (HF a (by decide))⟩
theorem OT {i:Int} (f:L=[]) (c:A=em [] 0):CF 55 [.one (.sl AY L),.one (.int .i64 i)] (.agg [.sl (.sl AA) (([]:List LR)),.sl AA A]):=by
 have g:L.length=0:=by rw[f];rfl
 refine AE Tryz.func55 (by kernel_rfl) rfl fun E d=>?_
 conv=>cbv
 rintro k ⟨j,f6⟩;conv=>cbv
 intro h a;conv=>cbv
 cases h <;> conv=>cbv
 ·have b:=Ab a;exact absurd b (by omega)
 have b:=Ad a;refine cL (r:= .agg [.sl (.sl AA) (([]:List LR)),.sl AA A]) d (Um (x:=0) (by decide) (by rw[c];rfl)) t1 ?_;try conv=>cbv
 exact fA ⟨t3,trivial⟩ rfl (by simp)
theorem JL {ns:List Nu} {i:Int} (c:L=ns.map nm) (f:AK i i') (d:n=Bf ns i') (b:T=tw n.1) (a:A=em n.1 n.2):CF 55 [.one (.sl AY L),.one (.int .i64 i)] (.agg [.sl (.sl AA) T,.sl AA A]):=by
 by_cases h:ns=[]
 ·subst h;have e:n=E8:=d;rw[e] at b a;rw[show T=[] from b];exact OT c a
 exact OU c h f d b a
theorem aV {W:List UInt8} {ns:List Nu} (g:ns=(runN (X.take 24)).1) (m:V.length<=3) (c:∀n∈ns,BG V n) (s:24<W.length):CF 49 [.agg [.sl Bi X,.sl .u8 W]] (.AF [(false,[.sl Cw (([]:List (el Cw)))]),(false,[.bool false])]):=by
 refine AE Tryz.func49 (by kernel_rfl) rfl fun E i=>?_
 conv=>cbv
 obtain⟨k,b⟩:∃z:List (el AY),z=ns.map nm:=⟨_,rfl⟩
 refine cL (r:= .one (.sl AY k)) i (LW (by rw[b,g])) t1 ?_;try conv=>cbv
 refine cL i (OS b (fun n j=>⟨(c n j).cos,(c n j).EH⟩)) t1 ?_;try conv=>cbv
 intro o f;cases f.trans (rfl:_=false);conv=>cbv
 rintro q ⟨l,f16⟩;conv=>cbv
 intro h a;conv=>cbv
 cases h <;> conv=>cbv
 ·have d:=Bc a;exact absurd d (by omega)
 have d:=Be a;exact fA ⟨⟨rfl,.inr (.inl ⟨_,rfl⟩),trivial⟩,t2,trivial⟩ rfl (by simp)
theorem aW {W:List UInt8} {ns:List Nu} (ae:ns=(runN (X.take 24)).1) (aq:V.length<=3) (T:∀n∈ns,BG V n) (hW:W.length<=24) (hQ:Q=(D3 ns W).map vm):CF 49 [.agg [.sl Bi X,.sl .u8 W]] (.AF [(false,[.sl Cw Q]),(false,[.bool true])]):=by
 have av:=Ya ns W;refine AE Tryz.func49 (by kernel_rfl) rfl fun E M=>?_
 conv=>cbv
 obtain⟨L9,v⟩:∃z:List (el AY),z=ns.map nm:=⟨_,rfl⟩
 refine cL (r:= .one (.sl AY L9)) M (LW (by rw[v,ae])) t1 ?_;try conv=>cbv
 refine cL M (OS v (fun n Z=>⟨(T n Z).cos,(T n Z).EH⟩)) t1 ?_;try conv=>cbv
 intro ax a6;cases a6.trans (rfl:_=false);conv=>cbv
 rintro ay ⟨ao,f16⟩;conv=>cbv
 intro af O;conv=>cbv
 cases af <;> conv=>cbv
 ·have U:=Bc O;refine .inr ?_;obtain⟨J0,F⟩:=xJ fun vs bl k=>(∃(k':Nat) (j:Int),vs=[.one (.Am 1 0 0),.one (.sl AY L9),.one .nil,.one (.int .i64 j)]/\bl=[.var 0 [.sl Bi X,.sl .u8 W],.dead 0]/\(AK j (2*k')/\k'=0)/\k=W.length/2-k')\/(∃(o:List (el Cw)) (n k':Nat) (j:Int),vs=[.one (.Am 1 0 0),.one (.sl AY L9),.one (.AM Cw 47 0 0 n),.one (.int .i64 j)]/\bl=[.var 0 [.sl Bi X,.sl .u8 W],.arr 0 Cw o]/\(AK j (2*k')/\k'<=W.length/2/\n=o.length)/\o=((D3 ns W).take k').map vm/\k=W.length/2-k')
  refine⟨[1,4,5,6],[1,47],J0,⟨W.length/2-0,by rw[F];exact .inl ⟨0,0,rfl,rfl,⟨Ah 0,rfl⟩,rfl⟩⟩,?_⟩;intro vs bl aw N;rw[F] at N;rcases N with⟨k',j,rfl,rfl,⟨N,P⟩,ad⟩ |⟨o,n,k',j,rfl,rfl,⟨N,ar,Z⟩,hinv,ad⟩
  ·conv=>cbv
   have ej:=N.eq;intro ag a7;conv=>cbv
   refine g1 (by omega) ?_;rintro ah ⟨a1,f23⟩;conv=>cbv
   intro J x;conv=>cbv
   cases J <;> conv=>cbv
   ·have H:=AR x;exact fA ⟨⟨rfl,.inr (.inl ⟨_,congrArg _ (by rw[hQ,List.eq_nil_of_length_eq_zero (show (D3 ns W).length=0 by omega)];rfl)⟩),trivial⟩,t2,trivial⟩ rfl (by simp)
   have H:=AS x;refine .inr ?_;obtain⟨a,h⟩:=AG (l:=W) (i:=(2*k')) (by omega);refine⟨a,fun _=>⟨by omega,by rw[show (j).toNat=(2*k') by omega];exact h⟩,?_⟩;try conv=>cbv
   intro aj y;have a2:=y.eq;have f33:=y.lt;conv=>cbv
   intro ak B;conv=>cbv
   have B:=wrap_i64 B;obtain⟨t,f⟩:=EG (tw (Bf ns a.toNat).1);obtain⟨q,c⟩:=Bu (em (Bf ns a.toNat).1 (Bf ns a.toNat).2);refine cL M (JL v ⟨by omega⟩ rfl f c) t2 ?_;try conv=>cbv
   intro K aa;conv=>cbv
   refine g1 (by omega) ?_;obtain⟨b,m⟩:=AG (l:=W) (i:=(2*k'+1)) (by omega);refine⟨b,fun _=>⟨by omega,by rw[show (K).toNat=(2*k'+1) by omega];exact m⟩,?_⟩;try conv=>cbv
   intro al C;have a5:=C.eq;have f42:=C.lt;conv=>cbv
   intro an D;conv=>cbv
   have D:=wrap_i64 D;obtain⟨u,g⟩:=EG (tw (Bf ns b.toNat).1);obtain⟨s,d⟩:=Bu (em (Bf ns b.toNat).1 (Bf ns b.toNat).2);refine cL M (JL v ⟨by omega⟩ rfl g d) t2 ?_;try conv=>cbv
   refine⟨[((t,q),(u,s))],fun _=>⟨rfl,by decide,rfl,⟨rfl,by first | exact t1 | exact t2 | exact t4 | simp[Ac,Ak,cells],trivial⟩⟩,.inr ?_⟩;try conv=>cbv
   refine .inl ⟨[((t,q),(u,s))],fun _=>⟨rfl,by show (1)*96<=140737488355328;(try simp only[List.length_take,List.length_drop]);omega⟩,?_⟩;intro Y ab;conv=>cbv
   refine⟨fun _=>Et (by kernel_rfl),?_⟩;intro ai a8;conv=>cbv
   refine g1 (by omega) ?_;refine⟨W.length/2-(k'+1),?_,?_⟩
   ·omega
   rw[F];exact .inr ⟨_,_,k'+1,_,rfl,rfl,⟨⟨by omega⟩,by omega,ab⟩,by rw[Rs h m,List.map_append,f,c,g,d,P];rfl,rfl⟩
  conv=>cbv
  have ej:=N.eq;have au:o.length<=12:=by rw[hinv,List.length_map,List.length_take];omega
  intro ag a7;conv=>cbv
  refine g1 (by omega) ?_;rintro ah ⟨a1,f23⟩;conv=>cbv
  intro J x;conv=>cbv
  cases J <;> conv=>cbv
  ·have H:=AR x;exact fA ⟨⟨rfl,.inl ⟨_,rfl,by omega,congrArg _ (by rw[hQ,Z,List.drop_zero,List.take_length,hinv,List.take_of_length_le (by omega)])⟩,trivial⟩,t2,trivial⟩ rfl (by simp)
  have H:=AS x;refine .inr ?_;obtain⟨a,h⟩:=AG (l:=W) (i:=(2*k')) (by omega);refine⟨a,fun _=>⟨by omega,by rw[show (j).toNat=(2*k') by omega];exact h⟩,?_⟩;try conv=>cbv
  intro aj y;have a2:=y.eq;have f33:=y.lt;conv=>cbv
  intro ak B;conv=>cbv
  have B:=wrap_i64 B;obtain⟨t,f⟩:=EG (tw (Bf ns a.toNat).1);obtain⟨q,c⟩:=Bu (em (Bf ns a.toNat).1 (Bf ns a.toNat).2);refine cL M (JL v ⟨by omega⟩ rfl f c) t2 ?_;try conv=>cbv
  intro K aa;conv=>cbv
  refine g1 (by omega) ?_;obtain⟨b,m⟩:=AG (l:=W) (i:=(2*k'+1)) (by omega);refine⟨b,fun _=>⟨by omega,by rw[show (K).toNat=(2*k'+1) by omega];exact m⟩,?_⟩;try conv=>cbv
  intro al C;have a5:=C.eq;have f42:=C.lt;conv=>cbv
  intro an D;conv=>cbv
  have D:=wrap_i64 D;obtain⟨u,g⟩:=EG (tw (Bf ns b.toNat).1);obtain⟨s,d⟩:=Bu (em (Bf ns b.toNat).1 (Bf ns b.toNat).2);refine cL M (JL v ⟨by omega⟩ rfl g d) t2 ?_;try conv=>cbv
  refine⟨[((t,q),(u,s))],fun _=>⟨rfl,by decide,rfl,⟨rfl,by first | exact t1 | exact t2 | exact t4 | simp[Ac,Ak,cells],trivial⟩⟩,.inr ?_⟩;try conv=>cbv
  refine .inl ⟨[((t,q),(u,s))],fun _=>⟨rfl,by (first | rfl | omega),rfl,by show (o.length+1)*96<=140737488355328;(try simp only[List.length_take,List.length_drop]);omega⟩,?_⟩;intro (I:List (el Cw)) Y G;have R:I=(o:List (el Cw))++([((t,q),(u,s))]:List (el Cw)):=G.1;have S:Y=List.length (α:=(el Cw)) I:=G.2;conv=>cbv
  refine⟨fun _=>Et (by kernel_rfl),?_⟩;intro ai a8;conv=>cbv
  refine g1 (by omega) ?_;refine⟨W.length/2-(k'+1),?_,?_⟩
  ·omega
  rw[F];exact .inr ⟨I,_,k'+1,_,rfl,rfl,⟨⟨by omega⟩,by omega,S⟩,by rw[R,hinv,Rs h m,List.map_append,f,c,g,d];rfl,rfl⟩
 have U:=Be O;exact absurd U (by omega)
theorem aZ {W:List UInt8} {ns:List Nu} (d:ns=(runN (X.take 24)).1) (b:V.length<=3) (f:∀n∈ns,BG V n) {i:Int} (m:AK i i') (k:W.length<=24) (j:Q=(D3 ns W).map vm) (l:c=decide (i'<=Q.length)):CF 11 [.agg [.sl Bi X,.sl .u8 W],.one (.int .i64 i)] (.AF [(false,[.sl Cw Q]),(false,[.bool c])]):=by
 have r:=m.eq;refine AE Tryz.func11 (by kernel_rfl) rfl fun E h=>?_
 conv=>cbv
 refine cL h (aW d b f k j) ⟨t2,trivial⟩ ?_;try conv=>cbv
 rintro o ⟨g,f17⟩;conv=>cbv
 intro q a;conv=>cbv
 exact fA ⟨t2,⟨rfl,congrArg _ (by rw[l,a,Bool.eq_iff_iff,decide_eq_true_eq,decide_eq_true_eq];omega),trivial⟩,trivial⟩ rfl (by simp)
theorem aY {W:List UInt8} {ns:List Nu} (b:ns=(runN (X.take 24)).1) (a:V.length<=3) (c:∀n∈ns,BG V n) {i:Int} (f:24<W.length):CF 11 [.agg [.sl Bi X,.sl .u8 W],.one (.int .i64 i)] (.AF [(false,[.sl Cw (([]:List (el Cw)))]),(false,[.bool false])]):=by
 refine AE Tryz.func11 (by kernel_rfl) rfl fun E d=>?_
 conv=>cbv
 refine cL d (aV b a c f) ⟨t2,trivial⟩ ?_;try conv=>cbv
 exact fA ⟨t2,t2,trivial⟩ rfl (by simp)
theorem bR {W:List UInt8} {ns:List Nu} (b:ns=(runN (X.take 24)).1) (a:V.length<=3) (d:∀n∈ns,BG V n) (f:Q=Ke ns W) {i:Int} (h:AK i i') (j:0<i') (g:c=decide (i'<=Q.length)):CF 11 [.agg [.sl Bi X,.sl .u8 W],.one (.int .i64 i)] (.AF [(false,[.sl Cw Q]),(false,[.bool c])]):=by
 unfold Ke at f
 split at f
 ·exact aZ b a d h (by assumption) f g
 subst f;rw[g,decide_eq_false (by simp;omega)];exact aY b a d (by omega)
theorem UZ {ns:List Nu} {i:Int} (c:L=ns.map nm) (f:i=(ns.length:Int)-1) (d:n=Bf ns (ns.length-1)) (b:T=tw n.1) (a:A=em n.1 n.2):CF 55 [.one (.sl AY L),.one (.int .i64 i)] (.agg [.sl (.sl AA) T,.sl AA A]):=by
 by_cases h:ns=[]
 ·subst h;have e:n=E8:=d;rw[e] at b a;rw[show T=[] from b];exact OT c a
 have:=List.length_pos_iff.2 h;exact OU c h ⟨by omega⟩ d b a
theorem aU {W:List UInt8} {ns:List Nu} (b:ns=(runN (X.take 24)).1) (i:V.length<=3) (l:∀n∈ns,BG V n) (k:n=Bf ns (ns.length-1)) (h:T=tw n.1) (g:A=em n.1 n.2):CF 13 [.agg [.sl Bi X,.sl .u8 W]] (.agg [.sl (.sl AA) T,.sl AA A]):=by
 refine AE Tryz.func13 (by kernel_rfl) rfl fun E d=>?_
 conv=>cbv
 obtain⟨c,a⟩:∃z:List (el AY),z=ns.map nm:=⟨_,rfl⟩
 have j:c.length=ns.length:=by rw[a,List.length_map]
 refine cL (r:= .one (.sl AY c)) d (LW (by rw[a,b])) t1 ?_;try conv=>cbv
 rintro q ⟨o,f9⟩;conv=>cbv
 intro m f;conv=>cbv
 refine g1 (by omega) ?_;refine cL d (UZ a (by omega) k h g) t2 ?_;try conv=>cbv
 exact fA ⟨t3,trivial⟩ rfl (by simp)
theorem bQ {W:List UInt8} {ns:List Nu} (c:ns=(runN (X.take 24)).1) (a:V.length<=3) (b:∀n∈ns,BG V n) (F:Fd (Tf (PN ns)) w):∃T A x,Nd (Tf (PN ns)) w 77 T A x/\CF 13 [.agg [.sl Bi X,.sl .u8 W]] (.agg [.sl (.sl AA) T,.sl AA A]):=
 ⟨_,_,_,Ms F a b (MM ns (ns.length-1)),aU c a b rfl rfl rfl⟩
end Go.Abs
