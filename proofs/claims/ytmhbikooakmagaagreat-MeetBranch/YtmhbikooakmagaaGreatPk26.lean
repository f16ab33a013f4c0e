/- Part 27 of a proof. Conditions: each theorem's own. -/
import Derived.Test.YtmhbikooakmagaaGreatPk25
set_option linter.all false
set_option maxHeartbeats 8000000
set_option maxRecDepth 20000
open Go.Proofs
namespace Go.Abs
abbrev Rn:Nat:=1540
abbrev Cn:Nat:=874000
theorem gk:∀h,h<=3->Fit h Rn (Sm+Cn)
 |0,_|1,_|2,_|3,_=>⟨by decide +kernel,by decide +kernel,by decide +kernel,by decide +kernel⟩
 | _+4,h=>absurd h (by omega)
theorem gh:∀h,h<=3->Ee h Rn (Sm+Cn)
 |0,_|1,_|2,_|3,_=>⟨by decide +kernel,by decide +kernel,by decide +kernel,by decide +kernel⟩
 | _+4,h=>absurd h (by omega)
theorem j9:2*(Sm+Cn)+EE 3 Rn<=60000000000000:=by decide +kernel
theorem g8 {P:List (List Rat)->Prop} (I:CU P 256) {V:List Re} (hV:∀{u},P u->∀v∈BF u,v∈V) (h3:V.length<=3) {S:Nat} (f:Rn<=S) (i:S<=Sm):DT (Tf P) Rn Cn S:=
 {Tf.gx I hV h3 (by decide +kernel:256+CC 1 256 1 256<=Rn) f (by decide +kernel:CC 3 Rn 3 Rn<=Cn) (fun h g=>(gk h g).mono (by omega)) (Nat.le_trans (by omega) j9) with JN:=fun {u} hu=>(gh _ (Nat.le_trans (hu.len I hV) h3)).mono (by omega)}
section
variable {P:List (List Rat)->Prop} {V:List Re}
theorem Tf.KP (I:CU P 256) (hV:∀{u},P u->∀v∈Go.Abs.BF u,v∈V) (h3:V.length<=3) {u:List (List Rat)} (h:Tf P u):TB Rn u:=(h.aR I hV h3).2.mono (by decide +kernel)
abbrev Ce:Nat:=226506
theorem Tf.Wj (I:CU P 256) (hV:∀{u},P u->∀v∈Go.Abs.BF u,v∈V) (h3:V.length<=3) {u w:List (List Rat)} {s:Nat} {x:Re} (hu:Tf P u) (hw:Tf P w) (g:Ba u w) (f:El u s x):El w (s+Ce) x:=by
 by_cases i:w.length<=2
 ·refine (f.CE (hw.red I) (hw.KP I hV h3) (hu.red I) (hu.KP I hV h3) g).mono ?_;have:=Jp (k:=u.length) (k':=3) (R0:=Rn) (IZ:=Rn) (h:=w.length) (h':=2) (R:=Rn) (R':=Rn) (Nat.le_trans (hu.len I hV) h3) (Nat.le_refl _) i (Nat.le_refl _);have r:CC 3 Rn 2 Rn=Ce:=by decide +kernel
  omega
 refine⟨g _ f.mem,(QR (hw.red I) (hu.red I) (fun v o=>Classical.byContradiction fun j=>?_) f.mem f.bd).mono (Nat.le_add_right _ _)⟩
 have:=JW (l:=v::Go.Abs.BF w) (m:=V) (List.nodup_cons.2 ⟨j,HU (hw.red I)⟩) (fun x f=>by
  rcases List.mem_cons.1 f with rfl | f
  ·exact hu.BF I hV _ o
  exact hw.BF I hV x f)
 rw[List.length_cons,Jn] at this;omega
end
theorem El.BK {u:List (List Rat)} {n x:Re} {s:Nat} (hu:AZ u) (h:AZ (BK u n)) (f:El u s x):El (BK u n) s x:=by
 by_cases i:Sq u n
 ·rw[D3 i];exact f
 rw[Dc i] at h ⊢;have g:El u 0 0:=El.rat hu HF;have:=N2 h f.mem g.mem f.bd g.bd;rw[show x+0*rt u (co u n)=x by grind] at this;exact⟨FZ f.mem,this⟩
def P4 (P:List (List Rat)->Prop) (n:Re) (u:List (List Rat)):Prop:=P u\/∃u0,Tf P u0/\In u0 n/\u<:+BK u0 n
abbrev R4:Nat:=1920500
abbrev E4:Nat:=1942090
abbrev Rf:Nat:=150420000
section
variable {P:List (List Rat)->Prop} {V:List Re} {w:List (List Rat)} {n:Re}
theorem oe (I:CU P 256) (hV:∀{u},P u->∀v∈Go.Abs.BF u,v∈V) (h3:V.length<=3) (hw:Tf P w) (ha:∀{u},Tf P u->Ba u w) {z:List (List Rat)} (G:AZ z) (f:∀{s x},El w s x->El z s x) {r:List Rat} {u:List (List Rat)} (h:Tf P (r::u)):Wv z 2032990 46909868 R4 (AL u r):=by
 have g:=h.red I;have i:=Tf.Wj I hV h3 h hw (ha h) (JL g);have t:In (r::u) (AL u r):=FZ (B8 g);have B:AL u r≠0:=by have:=g.2.2.1;grind
 have A:rt u r≠0:=fun e=>B (by rw[<-Cq g,e];grind)
 obtain⟨y,D,j⟩:=EC (hw.red I) i.mem A;have e2:=Ii (hw.red I) (hw.KP I hV h3) i.mem D j i.bd;have o:El w 46909868 y:=⟨D,e2.mono (Nat.le_trans (IX (Nat.le_trans (hw.len I hV) h3) (Nat.le_refl _) (Nat.le_refl _)) (by decide +kernel))⟩
 have b3:El (r::u) (Rn+0) (AL u r):=by
  have C:El u 0 0:=El.rat g.1 HF;have hb:Bd Rn (co u (AL u r)):=by rw[Es g];exact (h.KP I hV h3).head
  have:=N2 g (B8 g) C.mem hb C.bd;rw[show AL u r+0*rt u r=AL u r by grind] at this;exact⟨t,this⟩
 have F:=Tf.Wj I hV h3 h hw (ha h) b3;exact⟨(f i).mem,(f i).bd.mono (by decide),⟨y,by rw[<-j];exact Re.mul_comm _ _,(f o).bd⟩,(f F).bd.mono (by decide)⟩
theorem Tf.I5 (I:CU P 256) {u v:List (List Rat)} (h:u<:+v) (f:Tf P v):Tf P u:=by
 obtain⟨t,rfl⟩:=h
 induction t with
 | nil=>exact f
 | cons r t g=>exact g (f.sub I)
theorem P4.sub (I:CU P 256) {r:List Rat} {u:List (List Rat)} (h:P4 P n (r::u)):P4 P n u:=by
 rcases h with h |⟨i,h,f,g⟩
 ·exact .inl (I.sub h)
 exact .inr ⟨i,h,f,(List.suffix_cons r u).trans g⟩
theorem P4.red (I:CU P 256) (f:0<=n) {u:List (List Rat)} (h:P4 P n u):AZ u:=by
 rcases h with h |⟨j,h,g,i⟩
 ·exact I.red h
 exact Sd i (Jg (h.red I) g f)
theorem P4.top (I:CU P 256) {r:List Rat} {u:List (List Rat)} (h:P4 P n (r::u)):Tf P (r::u)\/(In u n/\¬Sq u n/\AL u r=n):=by
 rcases h with h |⟨j,h,i,f⟩
 ·exact .inl (Tf.of I h)
 by_cases g:Sq j n
 ·rw[D3 g] at f;exact .inl (h.I5 I f)
 rw[Dc g] at f;rcases List.suffix_cons_iff.1 f with e | f
 ·obtain⟨rfl,rfl⟩:=List.cons.inj e;exact .inr ⟨i,g,EB i⟩
 exact .inl (h.I5 I f)
theorem P4.len (I:CU P 256) (hV:∀{u},P u->∀v∈Go.Abs.BF u,v∈V) {u:List (List Rat)} (h:P4 P n u):∀v∈Go.Abs.BF u,v∈n::V:=by
 induction u with
 | nil=>intro v f;simp[Go.Abs.BF] at f
 | cons r u g=>
  intro v f;rcases List.mem_cons.1 f with rfl | f
  ·rcases h.top I with h |⟨_,_,e⟩
   ·exact List.mem_cons_of_mem _ (h.BF I hV _ List.mem_cons_self)
   rw[e];exact List.mem_cons_self
  exact g (h.sub I) v f
theorem Tf.SB (I:CU P 256) {u:List (List Rat)} (h:Tf P u):Tf (P4 P n) u:=by
 induction h with
 | nil=>exact .nil
 | BK _ g f i=>exact .BK i (.inl g) f
theorem Tf.VF (I:CU P 256) {u:List (List Rat)} (h:Tf P u) (f:In u n):Tf (P4 P n) (Go.Abs.BK u n):=by
 by_cases g:Sq u n
 ·rw[D3 g];exact h.SB I
 have:=Tf.BK (h.SB I (n:=n)) (show P4 P n (co u n::u) from .inr ⟨u,h,f,by rw[Dc g];exact List.suffix_refl _⟩) (Ba.refl u);rwa [EB f] at this
end
abbrev Cf:Nat:=214500000
abbrev Mf:Nat:=156000000000
section
variable {P:List (List Rat)->Prop} {V:List Re} {w:List (List Rat)} {n:Re}
end
open Go.RowKit
abbrev Ve:=Nu×Nu
noncomputable def vm (p:Ve):el Be:=(nm p.1,nm p.2)
noncomputable def G5 (ns:List Nu) (W:List UInt8):List Ve:=(List.range (W.length/2)).map fun i=>(Cs ns (W.getD (2*i) 0).toNat,Cs ns (W.getD (2*i+1) 0).toNat)
theorem lQ (ns:List Nu) (W:List UInt8):(G5 ns W).length=W.length/2:=by rw[G5,List.length_map,List.length_range]
theorem ak {W:List UInt8} {i:Nat} {x:UInt8} (h:W[i]? =some x):W.getD i 0=x:=by rw[List.getD_eq_getElem?_getD,h];rfl
theorem Yw {ns:List Nu} {W:List UInt8} {i:Nat} {x y:UInt8} (g:W[2*i]? =some x) (f:W[2*i+1]? =some y):(G5 ns W).take (i+1)=(G5 ns W).take i++[(Cs ns x.toNat,Cs ns y.toNat)]:=by
 have j:=Il f
 have h:(G5 ns W)[i]? =some (Cs ns x.toNat,Cs ns y.toNat):=by
  rw[G5,List.getElem?_map,List.getElem?_range (by omega)]
  show some (Cs ns (W.getD (2*i) 0).toNat,Cs ns (W.getD (2*i+1) 0).toNat)=_
  rw[ak g,ak f]
 exact C4 h
theorem W6 (ns:List Nu) (i:Nat):Cs ns i∈ns\/Cs ns i=IU:=by
 by_cases h:ns=[]
 ·right;subst h;rfl
 exact .inl (Q4 h i)
theorem lR {ns:List Nu} {W:List UInt8} {p:Ve} (h:p∈G5 ns W):(p.1∈ns\/p.1=IU)/\(p.2∈ns\/p.2=IU):=by
 obtain⟨i,_,rfl⟩:=List.mem_map.1 h;exact⟨W6 _ _,W6 _ _⟩
abbrev Fe (TT:List (List Rat)->Prop) (w:List (List Rat)):Prop:=Fm TT w Rn 11500 20 43400000 23 14
abbrev Fd (TT:List (List Rat)->Prop) (w:List (List Rat)):Prop:=Fm TT w Rf 1950000 110 80000 47 23
abbrev Nd (TT:List (List Rat)->Prop) (w:List (List Rat)) (k:Nat) (T:List LR) (A:LR) (x:Re):Prop:=Nm TT w 1950000 k T A x
abbrev Vd (TT:List (List Rat)->Prop) (w:List (List Rat)) (k k':Nat) (T1:List LR) (A1:LR) (T2:List LR) (A2:LR) (x y:Re):Prop:=Vm TT w 1950000 k k' T1 A1 T2 A2 x y
theorem iL (t:Nat):II 3 Rn t<=23*t+14*11500:=by simp only[II,EE,Rn];omega
structure Pl (P:List (List Rat)->Prop) (V:List Re) (w:List (List Rat)):Prop where
 I:CU P 256
 hV:∀{u},P u->∀v∈BF u,v∈V
 h3:V.length<=3
 hw:Tf P w
 ha:∀{u},Tf P u->Ba u w
theorem lE {P:List (List Rat)->Prop} {V:List Re} (I:CU P 256) (hV:∀{u},P u->∀v∈BF u,v∈V) (h3:V.length<=3):∃w,Pl P V w:=by
 obtain⟨w,hw,ha⟩:=Tf.top I (fun {u} h=>Nat.le_trans (h.len I hV) h3);exact⟨w,I,hV,h3,hw,ha⟩
section
variable {P:List (List Rat)->Prop} {V:List Re} {w:List (List Rat)}
theorem Pl.len (L:Pl P V w) {u:List (List Rat)} (h:Tf P u):u.length<=3:=Nat.le_trans (h.len L.I L.hV) L.h3
theorem Pl.lift (L:Pl P V w) {n:Re} (s:In w n) (f:0<=n) {b k b' k':Nat} {T:List LR} {A:LR} {x:Re} (h:Nm (Tf P) w b k T A x) (r:k*b<=k'*b'):Nm (Tf (P4 P n)) (BK w n) b' k' T A x:=by
 obtain⟨u,g,i,h3,j,o⟩:=h;exact⟨u,g.SB L.I,i,h3,j,(El.BK (L.hw.red L.I) (Jg (L.hw.red L.I) s f) o).mono r⟩
end
theorem Ym {V:List Re} {ns:List Nu} (hV:V.length<=3) (h:∀n∈ns,CK V n):∃w,Pl (PN ns) V w:=lE (PN.JP hV h) (fun f=>PN.BF h f) hV
noncomputable def Mw (ns:List Nu) (W:List UInt8):List (el Be):=if W.length<=24 then (G5 ns W).map vm else []
theorem cp {L:List (el Bc)} {i:Int} {A:LR} (o:L=[]) (h:A=em [] 0):CF 158 [.one (.sl Bc L),.one (.int .i64 i)] (.agg (AK [] A)):=by
 have s:L.length=0:=by rw[o];rfl
 refine AJ Tryz.func158 fun E j=>?_
 conv=>cbv
 rintro v ⟨u,f6⟩;conv=>cbv
 intro t f;conv=>cbv
 cases t <;> conv=>cbv
 ·have g:=Ao f;exact absurd g (by omega)
 have g:=BA f;refine AB (r:= .agg [.sl (.sl AA) (([]:List LR)),.sl AA A]) j (Pw (x:=0) (by decide) (by rw[h];rfl)) ?_;try conv=>cbv
 exact AD ⟨t3,trivial⟩
theorem Ni {L:List (el Bc)} {ns:List Nu} {i:Int} {i':Nat} {n:Nu} {T:List LR} {A:LR} (j:L=ns.map nm) (r:AW i i') (o:n=Cs ns i') (g:T=tw n.1) (f:A=em n.1 n.2):CF 158 [.one (.sl Bc L),.one (.int .i64 i)] (.agg (AK T A)):=by
 by_cases h:ns=[]
 ·subst h;have e:n=IU:=o;rw[e] at g f;rw[show T=[] from g];exact cp j f
 exact cq j h r o g f
theorem oz {X:List (el B9)} {W:List UInt8} {ns:List Nu} (j:ns=(runN (X.take 24)).1) {V:List Re} (A:V.length<=3) (h:∀n∈ns,CK V n) (C:24<W.length):CF 44 [.agg [.sl B9 X,.sl .u8 W]] (.AF [(false,[.sl Be (([]:List (el Be)))]),(false,[.bool false])]):=by
 refine AJ Tryz.func44 fun E s=>?_
 conv=>cbv
 obtain⟨u,g⟩:∃z:List (el Bc),z=ns.map nm:=⟨_,rfl⟩
 refine AB (r:= .one (.sl Bc u)) s (Ub (by rw[g,j])) ?_;conv=>cbv
 refine AB s (Ua g (fun n t=>⟨(h n t).cos,(h n t).IN⟩)) ?_;conv=>cbv
 refine AO ?_;conv=>cbv
 rintro B ⟨v,f16⟩;conv=>cbv
 intro o f;conv=>cbv
 cases o <;> conv=>cbv
 ·have i:=Cg f;exact absurd i (by omega)
 have i:=Ch f;exact AD ⟨⟨rfl,AU,trivial⟩,t2,trivial⟩
theorem o0 {X:List (el B9)} {W:List UInt8} {ns:List Nu} (ak:ns=(runN (X.take 24)).1) {V:List Re} (ay:V.length<=3) (a7:∀n∈ns,CK V n) (hW:W.length<=24) {Q:List (el Be)} (hQ:Q=(G5 ns W).map vm):CF 44 [.agg [.sl B9 X,.sl .u8 W]] (.AF [(false,[.sl Be Q]),(false,[.bool true])]):=by
 have aB:=lQ ns W;refine AJ Tryz.func44 fun E Z=>?_
 conv=>cbv
 obtain⟨L9,G⟩:∃z:List (el Bc),z=ns.map nm:=⟨_,rfl⟩
 refine AB (r:= .one (.sl Bc L9)) Z (Ub (by rw[G,ak])) ?_;conv=>cbv
 refine AB Z (Ua G (fun n hn=>⟨(a7 n hn).cos,(a7 n hn).IN⟩)) ?_;conv=>cbv
 refine AO ?_;conv=>cbv
 rintro aD ⟨ax,f16⟩;conv=>cbv
 intro al a1;conv=>cbv
 cases al <;> conv=>cbv
 ·have a8:=Cg a1;refine .inr ?_;obtain⟨J0,N⟩:=xJ fun vs bl k=>(∃(k':Nat) (j:Int),vs=[.one (.Ag 1 0 0),.one (.sl Bc L9),.one .nil,.one (.int .i64 j)]/\bl=[.var 0 [.sl B9 X,.sl .u8 W],.dead 0]/\(AW j (2*k')/\k'=0)/\k=W.length/2-k')\/(∃(o:List (el Be)) (n k':Nat) (j:Int),vs=[.one (.Ag 1 0 0),.one (.sl Bc L9),.one (.AS Be 47 0 0 n),.one (.int .i64 j)]/\bl=[.var 0 [.sl B9 X,.sl .u8 W],.arr 0 Be o]/\(AW j (2*k')/\k'<=W.length/2/\n=o.length)/\o=((G5 ns W).take k').map vm/\k=W.length/2-k')
  refine⟨[],[1,4,5,6],[1,47],J0,⟨W.length/2-0,by rw[N];exact .inl ⟨0,0,rfl,rfl,⟨Bb 0,rfl⟩,rfl⟩⟩,?_⟩;intro vs bl aC hj;rw[N] at hj;rcases hj with⟨k',j,rfl,rfl,⟨hj,a2⟩,aj⟩ |⟨o,n,k',j,rfl,rfl,⟨hj,az,hn⟩,hinv,aj⟩
  ·conv=>cbv
   have ej:=hj.eq;intro an af;conv=>cbv
   refine AN ?_;rintro ao ⟨ab,f23⟩;conv=>cbv
   intro U H;conv=>cbv
   cases U <;> conv=>cbv
   ·have S:=BB H;exact AD ⟨⟨rfl,.inr (.inl ⟨_,congrArg _ (by rw[hQ,List.eq_nil_of_length_eq_zero (show (G5 ns W).length=0 by omega)];rfl)⟩),trivial⟩,t2,trivial⟩
   have S:=BC H;refine .inr ?_;obtain⟨f,v⟩:=AP (l:=W) (i:=(2*k')) (by omega);refine⟨f,fun _=>⟨by omega,by rw[show (j).toNat=(2*k') by omega];exact v⟩,?_⟩;try conv=>cbv
   intro ar I;have ad:=I.eq;have f33:=I.lt;conv=>cbv
   intro au J;conv=>cbv
   have J:=wrap_i64 J;obtain⟨D,t⟩:=G4 (tw (Cs ns f.toNat).1);obtain⟨B,h⟩:=C3 (em (Cs ns f.toNat).1 (Cs ns f.toNat).2);refine AB Z (Ni G ⟨by omega⟩ rfl t h) ?_;conv=>cbv
   intro Y ah;conv=>cbv
   refine AN ?_;obtain⟨g,A⟩:=AP (l:=W) (i:=(2*k'+1)) (by omega);refine⟨g,fun _=>⟨by omega,by rw[show (Y).toNat=(2*k'+1) by omega];exact A⟩,?_⟩;try conv=>cbv
   intro av K;have ae:=K.eq;have f42:=K.lt;conv=>cbv
   intro aw L;conv=>cbv
   have L:=wrap_i64 L;obtain⟨F,u⟩:=G4 (tw (Cs ns g.toNat).1);obtain⟨C,s⟩:=C3 (em (Cs ns g.toNat).1 (Cs ns g.toNat).2);refine AB Z (Ni G ⟨by omega⟩ rfl u s) ?_;conv=>cbv
   refine⟨[((D,B),(F,C))],fun _=>⟨rfl,by decide,rfl,⟨rfl,by first | exact t1 | exact t2 | exact t4 | simp[BV,Bm,cells],trivial⟩⟩,.inr ?_⟩;try conv=>cbv
   refine .inl ⟨[((D,B),(F,C))],fun _=>⟨rfl,by show (1)*96<=140737488355328;(try simp only[List.length_take,List.length_drop]);omega⟩,?_⟩;intro aa ai;conv=>cbv
   refine Br ?_;intro aq ag;conv=>cbv
   refine AN ?_;refine⟨W.length/2-(k'+1),?_,?_⟩
   ·omega
   rw[N];exact .inr ⟨_,_,k'+1,_,rfl,rfl,⟨⟨by omega⟩,by omega,ai⟩,by rw[Yw v A,List.map_append,t,h,u,s,a2];rfl,rfl⟩
  conv=>cbv
  have ej:=hj.eq;have aA:o.length<=12:=by rw[hinv,List.length_map,List.length_take];omega
  intro an af;conv=>cbv
  refine AN ?_;rintro ao ⟨ab,f23⟩;conv=>cbv
  intro U H;conv=>cbv
  cases U <;> conv=>cbv
  ·have S:=BB H;exact AD ⟨⟨rfl,.inl ⟨_,rfl,by omega,congrArg _ (by rw[hQ,hn,List.drop_zero,List.take_length,hinv,List.take_of_length_le (by omega)])⟩,trivial⟩,t2,trivial⟩
  have S:=BC H;refine .inr ?_;obtain⟨f,v⟩:=AP (l:=W) (i:=(2*k')) (by omega);refine⟨f,fun _=>⟨by omega,by rw[show (j).toNat=(2*k') by omega];exact v⟩,?_⟩;try conv=>cbv
  intro ar I;have ad:=I.eq;have f33:=I.lt;conv=>cbv
  intro au J;conv=>cbv
  have J:=wrap_i64 J;obtain⟨D,t⟩:=G4 (tw (Cs ns f.toNat).1);obtain⟨B,h⟩:=C3 (em (Cs ns f.toNat).1 (Cs ns f.toNat).2);refine AB Z (Ni G ⟨by omega⟩ rfl t h) ?_;conv=>cbv
  intro Y ah;conv=>cbv
  refine AN ?_;obtain⟨g,A⟩:=AP (l:=W) (i:=(2*k'+1)) (by omega);refine⟨g,fun _=>⟨by omega,by rw[show (Y).toNat=(2*k'+1) by omega];exact A⟩,?_⟩;try conv=>cbv
  intro av K;have ae:=K.eq;have f42:=K.lt;conv=>cbv
  intro aw L;conv=>cbv
  have L:=wrap_i64 L;obtain⟨F,u⟩:=G4 (tw (Cs ns g.toNat).1);obtain⟨C,s⟩:=C3 (em (Cs ns g.toNat).1 (Cs ns g.toNat).2);refine AB Z (Ni G ⟨by omega⟩ rfl u s) ?_;conv=>cbv
  refine⟨[((D,B),(F,C))],fun _=>⟨rfl,by decide,rfl,⟨rfl,by first | exact t1 | exact t2 | exact t4 | simp[BV,Bm,cells],trivial⟩⟩,.inr ?_⟩;try conv=>cbv
  refine .inl ⟨[((D,B),(F,C))],fun _=>⟨rfl,by (first | rfl | omega),rfl,by show (o.length+1)*96<=140737488355328;(try simp only[List.length_take,List.length_drop]);omega⟩,?_⟩;intro (T:List (el Be)) aa O;have a5:T=(o:List (el Be))++([((D,B),(F,C))]:List (el Be)):=O.1;have a6:aa=List.length (α:=(el Be)) T:=O.2;conv=>cbv
  refine Br ?_;intro aq ag;conv=>cbv
  refine AN ?_;refine⟨W.length/2-(k'+1),?_,?_⟩
  ·omega
  rw[N];exact .inr ⟨T,_,k'+1,_,rfl,rfl,⟨⟨by omega⟩,by omega,a6⟩,by rw[a5,hinv,Yw v A,List.map_append,t,h,u,s];rfl,rfl⟩
 have a8:=Ch a1;exact absurd a8 (by omega)
theorem o4 {X:List (el B9)} {W:List UInt8} {ns:List Nu} (h:ns=(runN (X.take 24)).1) {V:List Re} (g:V.length<=3) (j:∀n∈ns,CK V n) {Q:List (el Be)} {i:Int} {i':Nat} {c:Bool} (u:AW i i') (t:W.length<=24) (s:Q=(G5 ns W).map vm) (hc:c=decide (i'<=Q.length)):CF 34 [.agg [.sl B9 X,.sl .u8 W],.one (.int .i64 i)] (.AF [(false,[.sl Be Q]),(false,[.bool c])]):=by
 have B:=u.eq;refine AJ Tryz.func34 fun E r=>?_
 conv=>cbv
 refine AB r (o0 h g j t s) ?_;conv=>cbv
 rintro v ⟨o,f17⟩;conv=>cbv
 intro A f;conv=>cbv
 exact AD ⟨t2,⟨rfl,congrArg _ (by rw[hc,f,Bool.eq_iff_iff,decide_eq_true_eq,decide_eq_true_eq];omega),trivial⟩,trivial⟩
theorem o3 {X:List (el B9)} {W:List UInt8} {ns:List Nu} (g:ns=(runN (X.take 24)).1) {V:List Re} (f:V.length<=3) (h:∀n∈ns,CK V n) {i:Int} (o:24<W.length):CF 34 [.agg [.sl B9 X,.sl .u8 W],.one (.int .i64 i)] (.AF [(false,[.sl Be (([]:List (el Be)))]),(false,[.bool false])]):=by
 refine AJ Tryz.func34 fun E j=>?_
 conv=>cbv
 refine AB j (oz g f h o) ?_;conv=>cbv
 exact AD ⟨t2,t2,trivial⟩
theorem bH {X:List (el B9)} {W:List UInt8} {ns:List Nu} (g:ns=(runN (X.take 24)).1) {V:List Re} (f:V.length<=3) (h:∀n∈ns,CK V n) {Q:List (el Be)} (j:Q=Mw ns W) {i:Int} {i':Nat} (o:AW i i') (r:0<i') {c:Bool} (hc:c=decide (i'<=Q.length)):CF 34 [.agg [.sl B9 X,.sl .u8 W],.one (.int .i64 i)] (.AF [(false,[.sl Be Q]),(false,[.bool c])]):=by
 unfold Mw at j
 split at j
 ·exact o4 g f h o (by assumption) j hc
 subst j;rw[hc,decide_eq_false (by simp;omega)];exact o3 g f h (by omega)
open Classical in
noncomputable def fs (x y:Re):Re:=if x=0 then y else x
open Classical in
noncomputable def un (x:Re):Re:=if x=0 then 0 else 1
section
variable {x y z:Re}
theorem W2 (h:x=0):fs x y=y:=if_pos h
theorem W4 (h:x≠0):fs x y=x:=if_neg h
theorem TO (h:x=0):un x=0:=if_pos h
theorem TP (h:x≠0):un x=1:=if_neg h
theorem M8:(1:Re)≠0:=fun e=>absurd (Re.F7.1 (show Re.ofRat 1=Re.ofRat 0 from e)) (by decide)
theorem XN {i:Re} (h:x*i=1):i=AT x:=by
 have f:x≠0:=fun e=>M8 (by rw[<-h,e];grind)
 have:=Hk f;have e:i=i*(x*AT x):=by rw[this];grind
 rw[e,show i*(x*AT x)=(x*i)*AT x by grind,h];grind
theorem jV (h:¬(x=0/\y=0)):un x=1\/un x=0/\y*AT (fs x y)=1:=by
 by_cases f:x=0
 ·exact .inr ⟨TO f,by rw[W2 f];exact Hk (fun e=>h ⟨f,e⟩)⟩
 exact .inl (TP f)
end
structure Da (TT:List (List Rat)->Prop) (w:List (List Rat)) (b k l:Nat) (T1:List LR) (A1:LR) (T2:List LR) (A2:LR) (T3:List LR) (A3:LR) (x y z:Re):Prop where
 x:Nm TT w b 1 T1 A1 x
 y:Nm TT w b k T2 A2 y
 z:Nm TT w b l T3 A3 z
section
variable {TT:List (List Rat)->Prop} {w:List (List Rat)} {R b c M q p k k' l l':Nat} {T1 T2:List LR} {A1 A2:LR} {x y:Re}
theorem Nm.shrink (h:Nm TT w b k T1 A1 x) (g:Nm TT w b l T2 A2 y) (e:x=y):Nm TT w b l T1 A1 x:=by
 obtain⟨u,f,o,j,r,_⟩:=h;obtain⟨_,_,_,_,_,i⟩:=g;exact⟨u,f,o,j,r,e ▸ i⟩
theorem O0 (F:Fm TT w R b c M q p) (f:c<=M) {r:Rat} (g:C5 r) (h:Nm TT w b k T1 A1 x) (e:x=Re.ofRat r):Nm TT w b 1 T1 A1 (Re.ofRat r):=e ▸ h.shrink (KE F f (JG g F.hb)) e
theorem Vm.shrink {T3 T4:List LR} {A3 A4:LR} {x' y':Re} (h:Vm TT w b k k' T1 A1 T2 A2 x y) (g:Vm TT w b l l' T3 A3 T4 A4 x' y') (e:x=x') (f:y=y'):Vm TT w b l l' T1 A1 T2 A2 x y:=⟨h.x.shrink g.x e,h.y.shrink g.y f⟩
end
section
variable {x y z a d:Re}
theorem aF {x:Re} (h:x≠0):0<x*x:=by
 have f:=Re.I3 x;have g:=Rk h h
 grind
theorem NQ (h:¬(x=0/\y=0)):x*x+y*y≠0:=by
 have g:=Re.I3 x;have i:=Re.I3 y
 by_cases f:x=0
 ·have:=aF (fun e=>h ⟨f,e⟩)
  grind
 have:=aF f
 grind
end
section
variable {n m z n' m' z' x y x1 y1 x2 y2:Re}
end
theorem oK:Re.ofRat ((2:Int):Rat)=1+1:=by rw[show ((2:Int):Rat)=1+1 by decide +kernel,Re.ofRat_add];rfl
theorem iD:Re.ofRat (1/2)*(1+1)=1:=by rw[<-oK,<-Re.ofRat_mul,show (1/2:Rat)*((2:Int):Rat)=1 by decide +kernel];rfl
theorem HJ (a:Rat):AT (Re.ofRat a)=Re.ofRat a⁻¹:=by
 by_cases h:a=0
 ·subst h;unfold AT;rw[dif_neg (fun h=>h rfl)];exact congrArg Re.ofRat (show (0:Rat)=0⁻¹ by decide +kernel)
 exact (XN (by rw[<-Re.ofRat_mul,Rat.mul_inv_cancel a h];rfl)).symm
theorem HS (a b:Rat):Re.ofRat a-Re.ofRat b=Re.ofRat (a-b):=by
 rw[show Re.ofRat a-Re.ofRat b=Re.ofRat a+ -Re.ofRat b by grind,<-Re.ofRat_neg,<-Re.ofRat_add,Rat.sub_eq_add_neg]
theorem kZ {TT:List (List Rat)->Prop} {w:List (List Rat)} {R b c M q p k l:Nat} (F:Fm TT w R b c M q p) {T1:List LR} {A1:LR} {x:Re} (ha:Nm TT w b k T1 A1 x) (I:k+c+1<=M) (i:∀u,TT u->T1=tw u->In u x->TT (BK u x)) (r:0<=x) (C:El w (l*b) (Re.sqrt x)) (N:l+c+1<=M):∃U B,Nm TT w b l U B (Re.sqrt x)/\CF 114 [.agg (AK T1 A1)] (.AF [(true,(AK U B)),(false,[.int .i64 0])])/\CF 106 [.agg (AK T1 A1)] (.AF [(true,(AK U B)),(false,[.int .i64 0])]):=by
 obtain⟨u,hu,f,h,D,J,A⟩:=F.own (by omega) ha;have G:=F.g I (by omega);have hw:=i u hu f D;have j:=QG D r;obtain⟨v,O,s,H,_,_,t⟩:=F.own (by omega) (show Nm TT w b l (tw (BK u x)) (em (BK u x) (Re.sqrt x)) (Re.sqrt x) from⟨_,hw,rfl,rfl,j,C⟩);have ev:v=BK u x:=(NV s).symm;subst ev
 have hb:(l+c)*b<=60000000000000:=by
  have K:=(F.g (Nat.le_refl M) (by omega)).toGam.mul F.top;have L:(l+c)*b<=M*b:=Nat.mul_le_mul_right b (by omega);omega
 have o:=A.mono (Nat.mul_le_mul_right b (Nat.le_succ (k+c)));exact⟨_,_,⟨_,hw,rfl,rfl,j,C⟩,bu G.toGam hu f h o hw r rfl rfl t hb,P0 G hu f h o hw r rfl rfl⟩
structure Rt (Fj:List (List Rat)->Prop) (w0:List (List Rat)) (b0 K:Nat) (TT:List (List Rat)->Prop) (w:List (List Rat)) (b l:Nat) (v:Re):Prop where
 get:∀{k:Nat} {T1:List LR} {A1:LR},k<=K->Nm Fj w0 b0 k T1 A1 v->∃U B,Nm TT w b l U B (Re.sqrt v)/\CF 114 [.agg [.sl (.sl AA) T1,.sl AA A1]] (.AF [(true,[.sl (.sl AA) U,.sl AA B]),(false,[.int .i64 0])])/\CF 106 [.agg [.sl (.sl AA) T1,.sl AA A1]] (.AF [(true,[.sl (.sl AA) U,.sl AA B]),(false,[.int .i64 0])])
noncomputable def pF:List Nu:=[(BK [] (Re.ofRat (1/2)),Re.sqrt (Re.ofRat (1/2))),(BK [] (Re.ofRat 2),Re.sqrt (Re.ofRat 2))]
structure Up (Fj:List (List Rat)->Prop) (w0:List (List Rat)) (b0 K:Nat) (TT:List (List Rat)->Prop) (w:List (List Rat)) (b:Nat):Prop where
 up:∀{k:Nat} {T:List LR} {A:LR} {x:Re},k<=K->Nm Fj w0 b0 k T A x->Nm TT w b 1 T A x
theorem na (x y:Re):0<=x*x+y*y:=by
 have f:=Re.I3 x;have g:=Re.I3 y
 grind
end Go.Abs
