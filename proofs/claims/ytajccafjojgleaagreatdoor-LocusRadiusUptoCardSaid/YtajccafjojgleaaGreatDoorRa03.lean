/- Part 4 of a proof. Conditions: each theorem's own. -/
import Derived.Laws.Sem
import Derived.Test.YtajccafjojgleaaGreatDoorProg
import Derived.Deep.Slices
import Derived.ProofKit
import Derived.Test.YtajccafjojgleaaGreatDoorRa02
set_option linter.all false
set_option maxHeartbeats 80000000
set_option maxRecDepth 20000
open Go.Proofs
namespace Go.Abs
open Go.RowKit
def J3 (tmps:Array Value):ResultVar->Sem Value
 | .tmp t=>pure (tmps.getD t undef)
 | .cell a t=>do loadVar t (<-asAddr (tmps.getD a undef))
def MH:List Value->Value
 | [v]=>v
 | vs=> .tuple vs.toArray
structure Fn (P:Program) (TI:TypeId->Info) (f:FuncId) (n:Nat) (c:Code) (rs:List ResultVar):Prop where
 get : ∃ fn, P.funcs[f]? = some fn /\ (fn.name == "runtime.NumGoroutine") = false /\ fn.body = some c /\ fn.ntmps = n /\ fn.results.toList = rs
 dst:Hg c=true
 ty:∀t,HU P t (TI t)
 mixed:P.follows .mixedOrders=true
def ML (args:List AV):Bool:=args.all fun c=>match c with | .Aj _=>false | c=>c.all Dc
def Kf (args:List AV):Bool:=args.all fun c=>match c with | .Aj _=>false | c=>c.all QD
section
variable {P:Program} {TI:TypeId->Info} {w0 w:World} {X:WX} {β:Nat->Option Nat} {s:St} {a:Act} {I:PI}
theorem pY {fn:Func} {tmps:Array Value} {vs:List Value} (h:BL (fun r v=>(J3 tmps r).run P w= .ok v w) fn.results.toList vs):(results fn tmps).run P w= .ok (MH vs) w:=by
 have mapM:∀{l:List ResultVar} {vs:List Value},BL (fun r v=>(J3 tmps r).run P w= .ok v w) l vs->(l.mapM (J3 tmps)).run P w= .ok vs w:=fun h=>by
  induction h with
  | nil=>simp
  | cons q _ b=>rw[List.mapM_cons];simp[Sem.run_bind,q,b]
 have e:results fn tmps=(do let vs <-fn.results.mapM (J3 tmps);pure (if h:vs.size=1 then vs[0] else .tuple vs)):=by
  unfold results
  congr 1
 rw[e,Array.mapM_eq_mapM_toList];simp only[Sem.run_bind,map_eq_pure_bind,mapM h,Result.andThen_ok,Sem.run_pure]
 congr 1
 match vs with
 |[]|[v]|_::_::_=>rfl
theorem Uz (A:∀t,HU P t (TI t)) (S:BX w0 X β s a w):∀{rs:List ResultVar} {xs:List (Bool×List AC)},J4 TI s rs=some xs->∃vs,BL (fun r v=>(J3 a.tmps r).run P w= .ok v w) rs vs/\BL (fun y u=>(y.1=false->y.2.length<=1)/\F8 (Ba (cx X w β (AP s.bk))) (F2 y) u) xs vs
 | [],xs,h=>by cases h;exact⟨[],.nil,.nil⟩
 | r::rs,xs,h=>by
  simp only[J4] at h
  split at h
  ·rename_i b M j z
   cases h;obtain⟨vs,k1,k2⟩:=Uz A S z
   suffices ∃v,(J3 a.tmps r).run P w= .ok v w/\(b.1=false->b.2.length<=1)/\F8 (Ba (cx X w β (AP s.bk))) (F2 b) v by obtain⟨v,K,L⟩:=this;exact⟨v::vs,.cons K k1,.cons L k2⟩
   cases r with
   | tmp t=>
    cases j;refine⟨_,rfl,?_⟩;have p:=S.HM t
    generalize nth s.sl t=g at p
    cases g with
    | one _=>exact⟨fun _=>Nat.le_refl _,p⟩
    | agg _=>exact⟨nofun,p⟩
    | Aj _=>exact⟨fun _=>Nat.zero_le _,.inl rfl⟩
   | cell q t=>
    simp only[bg] at j;have p:=S.HM q
    split at j
    ·rename_i id v off he
     rw[he] at p
     split at j
     ·rename_i N cs hb
      split at j
      ·rename_i c
       simp only[Bool.and_eq_true,beq_iff_eq] at c;obtain⟨⟨F,D⟩,hlen⟩:=c;cases j;obtain⟨b1,C,J⟩:=(p.resolve_left nofun).2 (D.symm.trans (EN hb).symm);obtain⟨arr,e,z,h3⟩:=(S.blocks id _ hb).1.var C;have m:BL (Ba (cx X w β (AP s.bk))) (Et cs off (TI t).size) ((arr.toList.drop off).take (TI t).size):=by rw[J6];exact (h3.drop off).take _
       have x:(TI t).agg=false->(Et cs off (TI t).size).length=1:=fun e=>hlen.trans (by obtain⟨_,_,_,_,_,_,_,_,_,G⟩:=(A t).info F;exact G e)
       refine⟨valOf (TI t).agg ((arr.toList.drop off).take (TI t).size),?_,fun e=>Nat.le_of_eq (x e),?_⟩
       ·refine Eq.trans ?_ (run_load (A t) F (bR z (off:=off) (n:=(TI t).size)) (by rw[<-m.length];exact hlen));simp only[J3,J,asAddr,Instr.loadAt,Instr.sureAddr]
       have:=Qq m x
       generalize Et cs off (TI t).size=l at this
       cases H:(TI t).agg <;> rw[H] at this
       ·cases l <;> first | exact .inl rfl | exact this
       exact this
      cases j
     cases j
    cases j
  cases h
theorem XH {R:AC->AC->Prop}:∀{l m l' m':List AC},EB R l m->EB R l' m'->EB R (l++l') (m++m')
 | [],[],_,_,_,h=>h
 | _::_,_::_,_,_,h,h'=>⟨h.1,XH h.2 h'⟩
 | [],_::_,_,_,h,_ | _::_,[],_,_,h,_=>h.elim
theorem bh {bk:Nat->Option Af} {R:AC->Value->Prop} {xs:List (Bool×List AC)} {vs:List Value} (r:BL (fun y u=>(y.1=false->y.2.length<=1)/\F8 R (F2 y) u) xs vs):∀{ys:List (Bool×List AC)},Kx bk xs ys->
  ∃us,BL R (xs.flatMap (·.2)) us/\EB (I3 bk) (xs.flatMap (·.2)) (ys.flatMap (·.2))/\∀R',BL R' (ys.flatMap (·.2)) us->BL (fun y u=>F8 R' (F2 y) u) ys vs:=by
 induction r with
 | nil=>intro ys h;cases ys with
  | nil=>exact⟨[],.nil,trivial,fun _ _=> .nil⟩
  | cons=>exact h.elim
 | @cons x v _ _ q _ j=>intro ys h;cases ys with
  | nil=>exact h.elim
  | cons y ys=>
   obtain⟨⟨e,g⟩,C⟩:=h;obtain⟨us,k1,k2,D⟩:=j C
   have A:∀{l m:List AC},EB (I3 bk) l m->l.length=m.length:=fun {l}=>by
    induction l with
    | nil=>intro m h;cases m <;> first | rfl | exact h.elim
    | cons x l j=>intro m h;cases m with
     | nil=>exact h.elim
     | cons y m=>exact congrArg (· +1) (j h.2)
   obtain⟨b,g1,g2⟩:∃b,BL R x.2 b/\∀R',BL R' y.2 b->F8 R' (F2 y) v:=by
    obtain⟨t,cs⟩:=x;obtain⟨G,p⟩:=y;obtain rfl:t=G:=e;cases t with
    | true=>obtain⟨_,arr,ev,h⟩:=q;exact⟨arr.toList,h,fun R' h'=>⟨arr,ev,h'⟩⟩
    | false=>match cs,p,g,q with
     | [],[],_,_=>exact⟨[],.nil,fun _ _=> .inl rfl⟩
     | [c],[d],g,⟨_,q⟩=>exact⟨[v],.cons (q.resolve_left fun e=>by subst e;exact g.1) .nil,fun R' h=>by cases h;exact .inr ‹_›⟩
     | _::_::_,_,_,⟨q,_⟩=>simp at q
   refine⟨b++us,g1.append k1,XH g k2,fun R' h=>?_⟩;obtain⟨m1,m2,z,n,F⟩:=BL.US h;obtain⟨rfl,rfl⟩:=List.append_inj z (by rw[<-g1.length,<-n.length,A g]);exact .cons (g2 R' n) (D R' F)
theorem YA {R:AC->Value->Prop} {r:AV} {vs:List Value} (b:vs.length=1↔∀ys,r≠ .Aj ys) (h:BL (fun z q=>F8 R (F2 z) q) r.Il vs):RV R r (MH vs):=by
 cases r with
 | Aj xs=>
  have e:MH vs= .tuple vs.toArray:=by
   match vs,fun e=>b.1 e xs rfl with
   | [],_=>rfl
   | [_],h=>exact absurd rfl h
   | _::_::_,_=>rfl
  exact⟨vs.toArray,e,h⟩
 | one c | agg cs=>obtain _ |⟨h,_ | _⟩:=h;exact h
theorem Sg (r:AV):r.Il.flatMap (·.2)=r.cells:=by cases r <;> simp[AV.Il,AV.comp,AV.cells]
theorem Qr (S:BX w0 X β s a w) (G:∀o b,X.A o b->I o b\/w0.heap.size<=b) {j:Option Nat} (x:j=none\/∃id,live (AP s.bk) id/\β id=j) {c d:AC} {v:Value} (J:Jd c=true->j=none)
  (H:X.ob=none/\Dc d=true\/(live (AP s.bk) 0/\BA (AP s.bk) 0=0)/\(Iu d=true\/MB c=true/\Dc d=true)) (h:I3 (AP s.bk) c d) (r:Ba (cx X w β (AP s.bk)) c v):GN (Db false I w0.heap.size w X.ob j) w0.heap.size j d v:=by
 have g:∀b,X.ob=some b->live (AP s.bk) 0/\β 0=some b:=fun b e=>H.elim (fun q=>by rw[q.1] at e;cases e) fun q=>⟨q.1.1,(S.Ja q.1.1 q.1.2).trans e⟩
 have z:∀o b,(cx X w β (AP s.bk)).I o b->(Db false I w0.heap.size w X.ob j).I o b/\w.heap[b]? =w.heap[b]? :=fun o b hb=>
  ⟨⟨(G o b hb.2).imp (fun q=>⟨rfl,q⟩) fun q=>q,hb.1.1,fun e=>hb.1.2 0 (g b e).1 (g b e).2,fun e=>by
   rcases x with h' |⟨id,p,u⟩
   ·rw[h'] at e;cases e
   exact hb.1.2 id p (u.trans e)⟩,rfl⟩
 cases c with
 | AU t id k off len=>
  rcases h with⟨l,p,u,rfl⟩ |⟨l,n,_,_,_,_,_,rfl⟩ |⟨rfl,rfl,rfl⟩
  ·cases J rfl;obtain⟨base,cap,e,g1,g2,_,F⟩:=Ns S r p u;refine⟨base,cap,by rw[e],g1,g2,F.imp (fun q=>q) fun⟨b,C,D,N,O,Q⟩=>⟨b,_,O,?_,fun i y K=>let ⟨us,L,M⟩:=Q i y K;⟨us,Em (w':=w) z _ _ _ L,M⟩⟩⟩
   have m:X.ob≠some b:=fun e=>by
    obtain⟨k1,k2⟩:=g b e;obtain rfl:=S.inj id 0 b C k1 D k2;rcases H with H |⟨_,H | H⟩
    ·rw[H.1] at e;cases e
    ·cases H
    cases H.1
   exact⟨.inr ((S.own id b C D).resolve_right fun q=>m q.1),N,m,nofun⟩
  ·rcases H with⟨_,H⟩ |⟨_,H |⟨_,H⟩⟩ <;> cases H
  rcases H with⟨_,H⟩ |⟨H1,_⟩
  ·cases H
  refine⟨⟨r.1.1,Nat.le_refl _⟩,fun _=>?_⟩;have:=r.2 H1.2.symm;rwa [show (cx X w β (AP s.bk)).β 0=X.ob from S.Ja H1.1 H1.2] at this
 | nil=>
  rcases h with rfl |⟨t,rfl⟩ |⟨t,rfl⟩
  ·exact r
  ·rw[show v=_ from r];exact L8
  rcases H with⟨_,H⟩ |⟨_,H |⟨_,H⟩⟩ <;> cases H
 | int | bool | str | fn | sl=>obtain rfl:=h;exact Gz z rfl r
 | _=>exact h.elim
theorem pV (S:BX w0 X β s a w) (u:X.ob=none) (D:∀o b,X.A o b->I o b\/w0.heap.size<=b) {c d:AC} {v:Value} (m:Hi d=true) (h:I3 (AP s.bk) c d)
  (r:Ba (cx X w β (AP s.bk)) c v):∃p,GN (Db false I w0.heap.size w X.ob p) w0.heap.size p d v/\(p=none\/((∃id,live (AP s.bk) id/\β id=p)/\Jd c=true)):=by
 cases c with
 | AU t id k off len=>
  rcases h with⟨l,j,M,rfl⟩ |⟨l,n,_,j,rfl,rfl,rfl,rfl⟩ |⟨_,_,rfl⟩
  ·cases m
  ·obtain⟨base,cap,e,g1,g2,_,C⟩:=r.2 (EN j).symm;have x:l.length<=140737488355328:=(S.blocks id _ j).2;have g:live (AP s.bk) id:=⟨_,j,rfl⟩;rcases C with rfl |⟨b,arr,z,k1,k2,G,H⟩
   ·exact⟨none,⟨rfl,base,0,e,g1,g2,x,.inl ⟨rfl,List.eq_nil_of_length_eq_zero AA,rfl⟩⟩,.inl rfl⟩
   obtain⟨_,_,_,L⟩:=(S.blocks id _ j).1.arr k1;refine⟨some b,⟨rfl,base,cap,e,g1,g2,x,.inr ⟨b,arr,z,rfl,(S.own id b g k1).resolve_right (fun q=>by rw[u] at q;cases q.1),by rw[k2];simp,G,by simpa using H,fun i y F=>?_⟩⟩,.inr ⟨⟨id,g,k1⟩,rfl⟩⟩;obtain⟨us,J,K⟩:=L i y F;exact⟨us,Em (w':=w) (fun o' b' hb=>⟨⟨(D o' b' hb.2).imp (fun q=>⟨rfl,q⟩) (fun q=>q),hb.1.1,(by rw[u];nofun),fun e=>hb.1.2 id g (k1.trans e)⟩,rfl⟩) _ _ _ J,K⟩
  cases m
 | nil=>
  rcases h with rfl |⟨t,rfl⟩ |⟨t,rfl⟩
  ·cases m
  ·cases m
  exact⟨none,⟨rfl,none,0,r,Nat.le_refl _,Nat.zero_le _,Ai,.inl ⟨rfl,rfl,rfl⟩⟩,.inl rfl⟩
 | int | bool | str | fn | sl=>obtain rfl:=h;cases m
 | _=>exact h.elim
theorem pW (S:BX w0 X β s a w) (F:X.ob=none) (C:∀o b,X.A o b->I o b\/w0.heap.size<=b) {cs:List AC} {vs:List Value} (r:BL (Ba (cx X w β (AP s.bk))) cs vs):∀{g:List AC},(g.filter Hi).length<=1->((g.filter Hi).length=1->(cs.filter Jd).length<=1)->EB (I3 (AP s.bk)) cs g->g.all Gy=true->
  ∃j,BL (GN (Db false I w0.heap.size w X.ob j) w0.heap.size j) g vs/\(j=none\/((∃id,live (AP s.bk) id/\β id=j)/\cs.filter Jd≠[])):=by
 have m:∀{j:Option Nat} {cs:List AC} {vs:List Value},(j=none\/∃id,live (AP s.bk) id/\β id=j)->BL (Ba (cx X w β (AP s.bk))) cs vs->∀{g:List AC},g.filter Hi=[]->(cs.filter Jd≠[]->j=none)->EB (I3 (AP s.bk)) cs g->g.all Gy=true->BL (GN (Db false I w0.heap.size w X.ob j) w0.heap.size j) g vs:=by
  intro j cs vs G r
  induction r with
  | nil=>intro g _ _ h _;cases g with
   | nil=>exact .nil
   | cons=>exact h.elim
  | @cons c _ cs _ q _ D=>intro g n p h l;cases g with
   | nil=>exact h.elim
   | cons d g=>
    simp only[List.all_cons,Bool.and_eq_true] at l;rw[List.filter_cons] at n p
    split at n
    ·cases n
    rename_i x
    refine .cons (Qr S C G (fun u=>p (by rw[u];simp)) (.inl ⟨F,?_⟩) h.1 q) (D n (fun u=>p (by split <;> simp[u])) h.2 l.2);have l:=l.1;cases d <;> first | exact l | exact absurd rfl x
 induction r with
 | nil=>intro g _ _ h _;cases g with
  | nil=>exact⟨none,.nil,.inl rfl⟩
  | cons=>exact h.elim
 | @cons c v cs vs q r D=>intro g n p h l;cases g with
  | nil=>exact h.elim
  | cons d g=>
   have M:=l;simp only[List.all_cons,Bool.and_eq_true] at l;have K:Hi d=false->X.ob=none/\Dc d=true:=fun x=>⟨F,by have l:=l.1;cases d <;> first | exact l | cases x⟩
   cases x:Hi d <;> cases u:Jd c <;> simp only[List.filter_cons,x,u,if_true,Bool.false_eq_true,if_false,List.length_cons] at n p ⊢
   ·obtain⟨j,g1,g2⟩:=D n p h.2 l.2;exact⟨j,.cons (Qr S C (g2.imp id (·.1)) (fun h=>by rw[u] at h;cases h) (.inl (K x)) h.1 q) g1,g2⟩
   ·refine⟨none,.cons (Qr S C (.inl rfl) (fun _=>rfl) (.inl (K x)) h.1 q) ?_,.inl rfl⟩
    by_cases z:(g.filter Hi).length=1
    ·have J:=List.eq_nil_of_length_eq_zero (Nat.le_zero.1 (Nat.le_of_succ_le_succ (p z)));obtain⟨j,g1,rfl | g2⟩:=D n (fun _=>by rw[J];exact Nat.zero_le _) h.2 l.2
     ·exact g1
     exact absurd J g2.2
    exact m (.inl rfl) r (List.eq_nil_of_length_eq_zero AA) (fun _=>rfl) h.2 l.2
   all_goals
    obtain⟨j,g1,g2⟩:=pV S F C x h.1 q;have y:g.filter Hi=[]:=List.eq_nil_of_length_eq_zero AA;refine⟨j,.cons g1 (m (g2.imp id fun q=>q.1) r y (fun H=>g2.resolve_right fun L=>?_) h.2 l.2),g2.imp id fun q=>⟨q.1,?_⟩⟩
   ·rw[u] at L;cases L.2
   ·rw[u] at q;cases q.2
   ·exact H (List.eq_nil_of_length_eq_zero (by have:=p (by rw[y];rfl);omega))
   simp
theorem aH:∀(l m:List AV) (i:Nat),nth (l++m) i=if i<l.length then nth l i else nth m (i-l.length)
 | [],m,i=>Ai
 | x::l,m,0=>by simp[nth]
 | x::l,m,i+1=>by simp[nth,aH l m i]
theorem oN {x:Cx} {l:List AV} {vs:List Value} (r:BL (CP x) l vs):∀i,i<l.length->CP x (nth l i) (vs.getD i undef):=by
 induction r with
 | nil=>intro i h;cases h
 | cons q _ b=>intro i h;cases i with
  | zero=>exact q
  | succ i=>simpa [nth] using b i (Nat.lt_of_succ_lt_succ h)
theorem pD {c:AC} (h:Dc c=true):QD c=true:=by cases c <;> first | exact h | cases h
theorem XN {args:List AV} (h:ML args=true):Kf args=true:=List.all_eq_true.2 fun x g=>by
 have:=List.all_eq_true.1 h x g;cases x <;> first | cases this | exact AV.O3.2 fun c b=>pD (AV.O3.1 this c b)
theorem enter {f:FuncId} {n:Nat} {c:Code} {rs:List ResultVar} (F:Fn P TI f n c rs) {args:List AV} {j:Option Af} {b0:Af} {Q:AX->St->Prop} (hp:Kf args=true) (Z:j=none/\b0= .dead 0\/j=some b0/\b0.lone=true/\0<n) (hn:args.length<=n)
  (h:DY (env P) TI n c Q (EZ n args j)) {r:AV} {b1:Af} {fl:Bool} (hR:∀{w w':World} {I:PI} {ob:Option Nat} {x s β a},(b0.live=true\/ob=none)->Q x s->BX w ⟨fun o b=>I o b\/w.heap.size<=b,ob⟩ β s a w'->(∀i,x≠ .exit i)/\
   ∃vs m,BL (fun r v=>(J3 a.tmps r).run P w'= .ok v w') rs vs/\RV (GN (Db fl I w.heap.size w' ob m) w.heap.size m) r (MH vs)/\C2 (Db fl I w.heap.size w' ob m) 0 b1/\b1.short):KK P fl f args b0 r b1:=by
 obtain⟨fn,hf,D,hb,M,O⟩:=F.get;refine⟨⟨fn,c,hf,D,hb⟩,fun w I ob vs N K hG T A=>calls_of_wp hf hb ?_⟩
 have l:∀id b,AP (EZ n args j).bk id=some b->id=0/\j=some b:=by
  intro id b h;cases n with
  | zero=>cases h
  | succ n=>cases id with
   | zero=>exact⟨rfl,h⟩
   | succ id=>
    have:AP (F5 n none) id=some b:=h;rw[UO] at this;cases this
 have G:∀b,j=some b->b=b0/\b.BA=0/\∀v cs,b= .var v cs->cs.all Dc=true:=fun b e=>by
  rcases Z with⟨h,_⟩ |⟨h,hl,_⟩
  ·cases h.symm.trans e
  cases h.symm.trans e;cases b0 <;> simp_all [Af.lone,Af.BA]
 have W:BA (AP (EZ n args j).bk) 0=0:=by
  unfold BA
  split
  ·rename_i b h;exact (G b (l 0 b h).2).2.1
  rfl
 let X:WX:=⟨fun o b=>I o b\/w.heap.size<=b,ob⟩
 have U:∀b,(b<w.heap.size/\ob≠some b)->(cx X w (DT w ob I).β (AP (EZ n args j).bk)).J b:=fun b hb=>⟨hb.1,fun id _ e=>by
  by_cases h:id=0
  ·exact hb.2 ((if_pos h).symm.trans e)
  cases (if_neg h).symm.trans e⟩
 have z:∀o b,(DT w ob I).I o b->(cx X w (DT w ob I).β (AP (EZ n args j).bk)).I o b/\w.heap[b]? =w.heap[b]? :=fun o b hb=>⟨⟨U b (K o b hb),.inl hb⟩,rfl⟩
 have ptr:∀{k:Nat} {u:Value},EJ (DT w ob I) 0 0 k u->EJ (cx X w (DT w ob I).β (AP (EZ n args j).bk)) 0 0 k u:=fun r=>⟨⟨r.1.1,Nat.zero_le _⟩,fun _=>r.2 rfl⟩
 have cell:∀c v,QD c=true->Ba (DT w ob I) c v->Ba (cx X w (DT w ob I).β (AP (EZ n args j).bk)) c v:=fun c v e r=>by
  cases c with
  | AU t i v off len=>
   match i,v,e,r with
   | 0,0,_,r=>exact⟨⟨r.1.1,Nat.zero_le _⟩,fun _=>r.2 rfl⟩
  | BE i v off=>
   match i,v,e,r with
   | 0,0,_,r=>exact ptr r
  | IN p=>
   obtain⟨b,o,u,e2,L,C,hr⟩:=r
   match p,e,C with
   | (0,0,_),_,C=>exact⟨b,o,u,e2,U b L,ptr C,hr⟩
  | _=>first | exact Gz (y:=cx X w (DT w ob I).β (AP (EZ n args j).bk)) z e r | cases e
 have g:BL (CP (cx X w (DT w ob I).β (AP (EZ n args j).bk))) args vs:=A.imp (fun r v e h=>by
  cases r with
  | Aj _=>cases e
  | _=>exact RV.mono cell e h) hp
 have Y:BX w X (DT w ob I).β (EZ n args j) {tmps:=vs.toArray++Array.replicate (n-vs.toArray.size) undef,defers:=[]} w:=by
  have hlen:=g.length
  refine⟨rfl,by simp[EZ,L2];omega,by cases n <;> simp[EZ,L2] <;> omega,fun i=>?_,fun id b h=>?_,fun id a1 b ⟨_,H,_⟩ ⟨_,h2,_⟩ _ _=>(l _ _ H).1.trans (l _ _ h2).1.symm,fun id b ⟨_,H,_⟩ e=> .inr ⟨by rw[(l _ _ H).1] at e;exact e,(l _ _ H).1⟩,.rfl,
   ⟨fun _ b hb=> .inr hb,hG.mono fun o b hb=>⟨⟨⟨.inl hb,(K o b hb).2⟩,(K o b hb).1⟩,rfl⟩⟩,fun _ _=>rfl⟩
  ·show CP _ (nth (args++_) i) _
   rw[aH]
   split
   ·rename_i V
    have:=oN g i V;rw[Array.getD_eq_getD_getElem?,Array.getElem?_append_left (by simpa [<-hlen] using V)];simpa [List.getD_eq_getElem?_getD] using this
   rw[UN];exact .inl rfl
  obtain⟨rfl,h'⟩:=l id b h;obtain⟨rfl,_,hc⟩:=G b h';exact⟨C2.to (x:=DT w ob I) (id:=0) rfl (fun _ _ _=>rfl) (fun v cs e us q=>q.imp (fun _ _=>Gz z) (hc v cs e)) (fun _ _ _ _=>Em (w':=w) z _) T.1,T.2⟩
 rw[M];refine wp_mono (Ii F.mixed (fun o ho=>qx F.ty o ho) F.dst (by simp[EZ,L2];omega) Y h) fun e R w' he=>?_
 obtain⟨x,s',a2,rfl,hq,_,S⟩:=he;obtain⟨hx,us,m,k1,k2,k3⟩:=hR N hq S
 have fin:R.defers=[]/\∃v,(results fn R.tmps).run P w'= .ok v w'/\∃u m,Ending.returned v= .returned u/\Dz w w' ob/\RV (GN (Db fl I w.heap.size w' ob m) w.heap.size m) r u/\C2 (Db fl I w.heap.size w' ob m) 0 b1/\b1.short:=
  ⟨S.defers,MH us,pY (by rw[O];exact k1),MH us,m,rfl,S.Fh,k2,k3⟩
 cases x with
 | exit i=>exact absurd rfl (hx i)
 | _=>exact fin
theorem jO {f:FuncId} {n:Nat} {c:Code} {rs:List ResultVar} (F:Fn P TI f n c rs) {args:List AV} {r:AV} (A:ML args=true) (q:r.all Gy=true/\r.wf=true) (z:args.length<=n)
  (h:DY (env P) TI n c (post TI rs r none) (EZ n args none)):Eb P false f args r:=by
 refine⟨q,enter F (XN A) (.inl ⟨rfl,rfl⟩) z h fun {w w' I ob x s β a} l j S=>?_⟩;obtain rfl:=l.resolve_left nofun;unfold post at j
 split at j
 ·exact j.elim
 rename_i C
 split at j
 ·rename_i xs m
  obtain⟨v,h3,y⟩:=j.1 ();obtain⟨vs,k1,k2⟩:=Uz F.ty S m;obtain⟨us,g1,g2,p⟩:=bh k2 v;rw[Sg] at g2 p
  have g:(r.cells.filter Hi).length<=1/\((r.cells.filter Hi).length=1->((xs.flatMap (·.2)).filter Jd).length<=1):=by
   unfold aW at h3;rw[Sg] at h3
   split at h3
   ·rename_i e;rw[e];simp
   ·rename_i e;rw[e];simpa using h3
   cases h3
  obtain⟨u,D,_⟩:=pW (I:=I) S rfl (fun _ b h=>h) g1 g.1 g.2 g2 (by rw[<-r.NA];exact q.1);exact⟨fun i e=>C i e,vs,u,k1,YA (by rw[<-k1.length];exact y) (p _ D),trivial,trivial⟩
 exact j.elim
theorem Zd {f:FuncId} {n:Nat} {c:Code} {rs:List ResultVar} (F:Fn P TI f n c rs) {b0 b1:Af} {args:List AV} {r:AV} {Q:AX->St->Prop} (K:Kf args=true) (A:b0.lone=true/\b1.lone=true) (C:args.length<=n/\0<n)
  (H:∀x s,Q x s->(∀i,x≠ .exit i)/\∃xs,J4 TI s rs=some xs/\(Kx (AP s.bk) xs r.Il/\(r.all Iu=true\/(xs.all fun x=>x.2.all MB)=true/\r.all Dc=true)/\(rs.length=1↔∀ys,r≠ .Aj ys))/\AP s.bk 0=some b1) (h:DY (env P) TI n c Q (EZ n args (some b0))):KK P false f args b0 r b1:=by
 refine enter F K (.inr ⟨rfl,A.1,C.2⟩) C.1 h fun {w w' I ob x s β a} J L S=>?_
 obtain⟨M,xs,u,⟨D,h3,G⟩,hb⟩:=H x s L;obtain⟨vs,k1,k2⟩:=Uz F.ty S u;obtain⟨us,g1,g2,y⟩:=bh k2 D;rw[Sg] at g2 y;have p:b1.BA=0/\b1.live=true/\∀v cs,b1= .var v cs->cs.all Dc=true:=by have:=A.2;cases b1 <;> simp_all [Af.lone,Af.BA,Af.live]
 have j:live (AP s.bk) 0/\BA (AP s.bk) 0=0:=⟨⟨_,hb,p.2.1⟩,(EN hb).trans p.1⟩;have l:=S.Ja j.1 j.2;refine⟨M,vs,none,k1,YA (by rw[<-k1.length];exact G) (y _ ?_),?_,(S.blocks 0 b1 hb).2⟩
 ·have lift:∀{cs:List AC} {us:List Value},BL (Ba (cx ⟨fun o b=>I o b\/w.heap.size<=b,ob⟩ w' β (AP s.bk))) cs us->∀{g:List AC},(g.all Iu=true\/cs.all MB=true/\g.all Dc=true)->EB (I3 (AP s.bk)) cs g->BL (GN (Db false I w.heap.size w' ob none) w.heap.size none) g us:=fun r=>by
   induction r with
   | nil=>intro g _ h;cases g with
    | nil=>exact .nil
    | cons=>exact h.elim
   | cons q _ N=>intro g m h;cases g with
    | nil=>exact h.elim
    | cons d g=>
     simp only[List.all_cons,Bool.and_eq_true] at m;exact .cons (Qr S (fun _ b h=>h) (.inl rfl) (fun _=>rfl) (.inr ⟨j,m.imp (·.1) fun q=>⟨q.1.1,q.2.1⟩⟩) h.1 q) (N (m.imp (·.2) fun q=>⟨q.1.2,q.2.2⟩) h.2)
  exact lift g1 (h3.imp (fun h=>by rw[<-r.NA];exact h) fun q=>⟨by rw[List.all_flatMap];exact q.1,by rw[<-r.NA];exact q.2⟩) g2
 have z:∀o b,(cx ⟨fun o b=>I o b\/w.heap.size<=b,ob⟩ w' β (AP s.bk)).I o b->(Db false I w.heap.size w' ob none).I o b/\w'.heap[b]? =w'.heap[b]? :=fun o b hb=>⟨⟨hb.2.imp (fun q=>⟨rfl,q⟩) fun q=>q,hb.1.1,fun e=>hb.1.2 0 j.1 (l.trans e),nofun⟩,rfl⟩
 exact C2.to (x:=cx ⟨fun o b=>I o b\/w.heap.size<=b,ob⟩ w' β (AP s.bk)) (id:=0) l.symm (fun _ _ _=>rfl) (fun v cs e us q=>q.imp (fun _ _=>Gz z) (p.2.2 v cs e)) (fun _ _ _ _=>Em (w':=w') z _) (S.blocks 0 b1 hb).1
def lT:AC->Bool
 |.int _ _|.bool _|.fn _|.nil|.str _=>true
 | .own t _ _=>t.flat
 | _=>false
def a8:AC->AC
 | .own t l _=> .sl t l
 | c=>c
def Qh:AV->AV:= .map a8
theorem M8 {f:FuncId} {args:List AV} {r:AV} (C:r.all lT=true) (h:Eb P false f args r):Eb P true f args r:=by
 refine⟨h.1,h.2.1,fun w I ob vs g j h3 m z=>(h.2.2 w I ob vs g j h3 m z).mono fun e w' ⟨u,x,he,F,hu,_⟩=>⟨u,x,he,F,RV.mono (fun c v p r=>?_) C hu,trivial,trivial⟩⟩;cases c with
 | own t l n=>obtain⟨A,base,cap,e,g,j,h3,m⟩:=r;exact⟨A,base,cap,e,g,j,h3,m.imp (fun q=>q) fun⟨b,arr,ty,k1,k2,G,H,J,K⟩=>⟨b,arr,ty,k1,k2,G,H,J,fun i y D=>let ⟨us,L,M⟩:=K i y D;⟨us,bf (w:=w') t p y us L,M⟩⟩⟩
 | _=>first | exact r | cases p
theorem Df {fl:Bool} {f:FuncId} {args:List AV} {r:AV} (h:Eb P fl f args r):Eb P fl f args (Qh r):=by
 have j:∀{r:AV},r.all Gy=true->(Qh r).all Gy=true:=fun {r} h=>by
  have g:∀cs:List AC,cs.all Gy=true->(cs.map a8).all Gy=true:=fun cs h=>by
   rw[List.all_map,List.all_eq_true];intro c j;have:=List.all_eq_true.1 h c j;cases c <;> first | exact this | rfl
  cases r with
  | one c=>cases c <;> first | exact h | rfl
  | agg cs=>exact g cs h
  | Aj xs=>simp only[Qh,AV.map,AV.all,List.all_map] at h ⊢;exact List.all_eq_true.2 fun x m=>g x.2 (List.all_eq_true.1 h x m)
 refine⟨⟨j h.1.1,?_⟩,h.2.1,fun w I ob vs g z h3 A C=>(h.2.2 w I ob vs g z h3 A C).mono fun e w' ⟨u,q,he,F,hu,_⟩=>⟨u,none,he,F,RV.map rfl (fun c v j r=>?_) h.1.1 hu,trivial,trivial⟩⟩
 ·have:=h.1.2;cases r with
  | Aj xs=>simp only[Qh,AV.map,AV.wf,List.all_map] at this ⊢;exact List.all_eq_true.2 fun x m=>by simpa using List.all_eq_true.1 this x m
  | _=>rfl
 have p:∀o b,(Db fl I w.heap.size w' ob q).I o b->(Db fl I w.heap.size w' ob none).I o b/\w'.heap[b]? =w'.heap[b]? :=fun _ b hb=>⟨⟨hb.1,hb.2.1,hb.2.2.1,nofun⟩,rfl⟩
 cases c with
 | own t l n=>
  obtain⟨R,base,cap,e,D,Q,G,H⟩:=r;refine⟨base,cap,by rw[e],D,G,H.imp (·.2.1) fun⟨b,arr,ty,k1,k2,K,L,S,M⟩=>⟨b,0,K,⟨.inr k2,Ge L,?_,nofun⟩,fun i y J=>?_⟩⟩
  ·have:=g.resolve_left nofun;rw[this];nofun
  obtain⟨us,N,O⟩:=M i y J;exact⟨us,Em (w':=w') p _ _ _ N,by rw[Nat.zero_add];exact O⟩
 | _=>first | exact OC (y:=Db fl I w.heap.size w' ob none) p rfl r | cases j
end
end Go.Abs
namespace Go.Abs
def zC:AC->Value->Bool
 | .int k n,.int k' n'=>k==k'&&n==n'
 | .bool b,.bool b'=>b==b'
 |.nil,.slice none 0 0|.sl _ [],.slice none 0 0=>true
 | .str z,.string z'=>z.data==z'.data
 | .Bx,v=>v.oneCell'
 | _,_=>false
def Mm:List AC->List Value->Bool
 | [],[]=>true
 | c::cs,v::vs=>zC c v&&Mm cs vs
 | _,_=>false
theorem sj {c:AC} {v:Value} (h:zC c v=true) (x:Cx):Ba x c v:=by
 unfold zC at h
 split at h <;> try simp only[Bool.and_eq_true,beq_iff_eq] at h
 ·obtain⟨rfl,rfl⟩:=h
  rfl
 ·subst h;rfl
 ·rfl
 ·exact L8
 ·rename_i z z'
  obtain⟨z⟩:=z;obtain⟨z'⟩:=z';subst h;rfl
 ·exact h
 cases h
theorem Vp:∀{cs:List AC} {vs:List Value},Mm cs vs=true->∀x,BL (Ba x) cs vs
 | [],[],_,_=> .nil
 | _::_,_::_,h,x=>by simp only[Mm,Bool.and_eq_true] at h;exact .cons (sj h.1 x) (Vp h.2 x)
 | [],_::_,h,_ | _::_,[],h,_=>by simp[Mm] at h
def X0 (P:Program) (t:TypeId) (i:Info):Option Bool:=do
 let ti <-P.info? t
 let d <-P.underlying t
 let z <-ti.zero
 some (ti.size==i.size&&Mm i.zero z.cells.toList&&d.isRow==i.agg&&(i.agg||i.size==1))
def PO (P:Program) (i:Info) (f:TypeInfo->Value->Bool):TypeDesc->Option Bool
 | .slice e=>do
  let ei <-P.info? e
  let z <-ei.zero
  some (e==i.C8&&f ei z)
 | _=>none
def X2 (i:Info) (ei:TypeInfo) (z:Value):Bool:=ei.size==i.elem.size&&ei.bytes==i.Eg&&decide (0<ei.bytes)&&Mm (cells i.elem i.CD) z.cells.toList
def PQ (P:Program) (t:TypeId) (n:Nat) (g:Bool):Option Bool:=do
 let ti <-P.info? t
 let d <-P.underlying t
 some (ti.size==n&&d.isRow==g&&(g||n==1))
def NN (P:Program):List (Nat×Nat×Bool)->List Field->Bool
 | [],[]=>true
 | p::ps,f::fs=>PQ P f.type p.2.1 p.2.2==some true&&f.offset==p.1&&decide (0<p.2.1)&&NN P ps fs
 | _,_=>false
def JN (P:Program) (i:Info):TypeDesc->Bool
 | .int k=> !i.It&& !i.HG&&i.fields.isEmpty&&i.arr.isNone&&(i.kind==none||i.kind==some k)
 | .bool=>i.kind.isNone&& !i.HG&&i.fields.isEmpty&&i.arr.isNone
 | .string=>i.kind.isNone&& !i.It&&i.fields.isEmpty&&i.arr.isNone
 | .struct fs=>i.kind.isNone&& !i.It&& !i.HG&&i.arr.isNone&&(i.fields.isEmpty||NN P i.fields fs.toList)
 | .array n e=>i.kind.isNone&& !i.It&& !i.HG&&i.fields.isEmpty&&(match i.arr with | some q=>n==q.1&&decide (2<=n)&&PQ P e q.2.1 q.2.2==some true | none=>true)
 | _=>i.kind.isNone&& !i.It&& !i.HG&&i.fields.isEmpty&&i.arr.isNone
def SW (P:Program) (t:TypeId) (i:Info):Bool:=
 match P.underlying t with
 | some d=>(!i.known||X0 P t i==some true)&&(!i.sl||PO P i (X2 i) d==some true)&&(!i.pt||PO P i (fun ei z=>ei.size==1&&z.cells.size==1) d==some true)&&JN P i d
 | none=> !i.known&& !i.sl&& !i.pt&&i.kind.isNone&& !i.It&& !i.HG&&i.arr.isNone
section
variable {P:Program} {t:TypeId} {i:Info}
theorem X1 {n:Nat} {g:Bool} (h:PQ P t n g=some true):∃b d,P.info? t=some b/\P.underlying t=some d/\b.size=n/\d.isRow=g/\(g=false->n=1):=by
 simp only[PQ,Option.bind_eq_bind,Option.bind_eq_some_iff,Option.some.injEq,Bool.and_eq_true,beq_iff_eq,Bool.or_eq_true] at h;obtain⟨b,c,d,j,⟨h3,l⟩,m⟩:=h;exact⟨b,d,c,j,h3,l,fun e=>m.resolve_left (by simp[e])⟩
theorem Xy {f:TypeInfo->Value->Bool} {d:TypeDesc} (h:PO P i f d=some true):d= .slice i.C8/\∃b z,P.info? i.C8=some b/\b.zero=some z/\f b z=true:=by
 cases d <;> simp only[PO,reduceCtorEq,Option.bind_eq_bind,Option.bind_eq_some_iff,Option.some.injEq,Bool.and_eq_true,beq_iff_eq] at h
 obtain⟨b,c,z,g,rfl,h3⟩:=h;exact⟨rfl,b,z,c,g,h3⟩
theorem Xz:∀{c:List (Nat×Nat×Bool)} {fs:List Field},NN P c fs=true->c.length=fs.length/\∀(f b n:Nat) (g:Bool),c[f]? =some (b,n,g)->∃fl d,fs[f]? =some fl/\fl.offset=b/\(P.info? fl.type).map (·.size)=some n/\0<n/\P.underlying fl.type=some d/\d.isRow=g/\(g=false->n=1)
 | [],[],_=>⟨rfl,Ai⟩
 | p::c,f::fs,h=>by
  simp only[NN,Bool.and_eq_true,beq_iff_eq,decide_eq_true_eq] at h;obtain⟨⟨⟨m,q⟩,h3⟩,u⟩:=h;obtain⟨g1,g2⟩:=Xz u;obtain⟨A,d,v,x,y,z⟩:=X1 m;refine⟨by simp[g1],fun j b n g l=>?_⟩;cases j with
  | zero=>cases l;exact⟨f,d,rfl,q,by rw[v];exact congrArg some y,h3,x,z⟩
  | succ j=>exact g2 j b n g l
 | [],_::_,h | _::_,[],h=>by simp[NN] at h
theorem eQ (h:SW P t i=true):HU P t i:=by
 unfold SW at h
 split at h
 ·rename_i d c
  simp only[Bool.and_eq_true,Bool.or_eq_true,Bool.not_eq_true',beq_iff_eq] at h;obtain⟨⟨⟨l,F⟩,h3⟩,m⟩:=h;have v:∀{j:TypeDesc},d=j->P.underlying t=some j:=fun e=>e ▸ c
  refine⟨fun C=>?_,fun k C=>v ?_,fun hb=>v ?_,fun hb=>v ?_,fun H=>?_,fun _ hf=>?_,fun q y=>?_,fun G=>?_⟩
  ·have l:=l.resolve_left (by simp[C]);simp only[X0,Option.bind_eq_bind,Option.bind_eq_some_iff,Option.some.injEq,Bool.and_eq_true,beq_iff_eq,Bool.or_eq_true] at l;obtain⟨A,e1,j,e2,z,b,⟨⟨p,u⟩,a3⟩,a4⟩:=l;exact⟨A,z,j,e1,p,b,Vp u,e2,a3,fun ha=>a4.resolve_left (by simp[ha])⟩
  ·cases d <;> simp_all [JN]
  ·cases d <;> simp_all [JN]
  ·cases d <;> simp_all [JN]
  ·obtain⟨rfl,x,z,e1,e2,b⟩:=Xy (F.resolve_left (by simp[H]));simp only[X2,Bool.and_eq_true,beq_iff_eq,decide_eq_true_eq] at b;obtain⟨⟨⟨p,u⟩,a3⟩,a4⟩:=b;exact⟨c,x,z,e1,p,u,a3,e2,Vp a4⟩
  ·cases d with
   | struct fs=>
    simp only[JN,Bool.and_eq_true,Bool.or_eq_true,List.isEmpty_iff] at m;obtain⟨g1,g2⟩:=Xz (m.2.resolve_left hf);exact⟨fs,c,by simpa using g1,fun f D n g y=>by simpa using g2 f D n g y⟩
   | _=>simp_all [JN]
  ·cases d with
   | array n e=>
    simp only[JN,y,Bool.and_eq_true,beq_iff_eq,decide_eq_true_eq] at m;obtain⟨⟨rfl,g1⟩,g2⟩:=m.2;obtain⟨A,d,J,K,L,M,N⟩:=X1 g2;exact⟨e,A,d,c,J,L,K,M,N,g1⟩
   | _=>simp_all [JN]
  obtain⟨rfl,x,z,e1,e2,b⟩:=Xy (h3.resolve_left (by simp[G]));simp only[Bool.and_eq_true,beq_iff_eq] at b;exact⟨c,x,z,e1,b.1,e2,b.2⟩
 simp only[Bool.and_eq_true,Bool.not_eq_true',Option.isNone_iff_eq_none] at h
 constructor <;> simp_all
end
def aC:Info:={known:=false,CD:=false}
theorem rj (P:Program) (t:TypeId):HU P t aC:=eQ (by unfold SW;split <;> first | rfl | (rename_i d _;cases d <;> rfl))
end Go.Abs
namespace Go.Abs
abbrev eC:T:= .pr .bool (.sl .u32)
abbrev AG:T:= .pr eC eC
abbrev AY:T:= .pr (.sl (.sl AG)) (.sl AG)
abbrev K7:T:= .pr AY AY
abbrev MW:T:= .pr AG (.sl .i64)
abbrev eB:T:= .pr .i64 (.pr (.sl .i64) (.pr (.sl .i64) (.pr (.sl .ex) .i64)))
abbrev C6:T:= .pr .u8 (.pr .u8 (.pr .u8 (.pr .i8 .u8)))
def TI:TypeId->Info
 |2|3=>{size:=1,zero:=[.int .i64 0],kind:=some .i64,CD:=false}
 | 4=>{size:=1,zero:=[.bool false],It:=true,CD:=false}
 | 5=>{size:=1,zero:=[.int .u8 0],kind:=some .u8,CD:=false}
 |27|28=>{size:=1,zero:=[.nil],sl:=true,C8:=89,elem:=C6,CD:=((0,0,0,0,0):el C6),Eg:=5}
 | 36=>{size:=1,zero:=[.nil],sl:=true,C8:=26,elem:=(.sl AG),CD:=([]:el (.sl AG)),Eg:=24}
 | 26=>{size:=1,zero:=[.nil],sl:=true,C8:=56,elem:=AG,CD:=(((false,[]),(false,[])):el AG),Eg:=64}
 | 38=>{size:=2,zero:=[.nil,.nil],agg:=true,CD:=false,fields:=[(0,1,false),(1,1,false)]}
 | 39=>{size:=1,zero:=[.int .i64 0],kind:=some .i64,CD:=false}
 | 32=>{size:=1,zero:=[.nil],sl:=true,C8:=38,elem:=AY,CD:=(([],[]):el AY),Eg:=48}
 | 29=>{size:=1,zero:=[.nil],sl:=true,C8:=5,elem:= .u8,CD:=(0:el .u8),Eg:=1}
 | 63=>{size:=4,zero:=[.nil,.nil,.nil,.nil],agg:=true,CD:=false,fields:=[(0,2,true),(2,2,true)]}
 | 52=>{size:=1,zero:=[.nil],sl:=true,C8:=193,elem:= .u32,CD:=(0:el .u32),Eg:=4}
 | 54=>{size:=2,zero:=[.bool false,.nil],agg:=true,CD:=false,fields:=[(0,1,false),(1,1,false)]}
 | 56=>{size:=4,zero:=[.bool false,.nil,.bool false,.nil],agg:=true,CD:=false,fields:=[(0,2,true),(2,2,true)]}
 | 87=>{size:=1,zero:=[.int .i8 0],kind:=some .i8,CD:=false}
 | 89=>{size:=5,zero:=[.int .u8 0,.int .u8 0,.int .u8 0,.int .i8 0,.int .u8 0],agg:=true,CD:=false,fields:=[(0,1,false),(1,1,false),(2,1,false),(3,1,false),(4,1,false)]}
 | 253=>{size:=2,zero:=[.nil,.nil],agg:=true,CD:=false,fields:=[(0,1,false),(1,1,false)]}
 | 193=>{size:=1,zero:=[.int .u32 0],kind:=some .u32,CD:=false}
 |154|196=>{size:=1,zero:=[.int .u64 0],kind:=some .u64,CD:=false}
 | 173=>{size:=1,zero:=[.int .i64 0],agg:=true,CD:=false,fields:=[(0,1,false)]}
 | 61=>{size:=6,zero:=[.nil,.nil,.nil,.nil,.nil,.nil],agg:=true,CD:=false,fields:=[(0,2,true),(2,2,true),(4,2,true)]}
 | 241=>{size:=1,zero:=[.int .i64 0],agg:=true,CD:=false,fields:=[(0,1,false)]}
 | 65=>{size:=6,zero:=[.nil,.nil,.nil,.nil,.nil,.nil],agg:=true,CD:=false,fields:=[(0,4,true),(4,2,true)]}
 | 67=>{size:=21,zero:=[.int .i64 0,.nil,.nil,.nil,.nil,.nil,.nil,.nil,.nil,.nil,.nil,.nil,.nil,.nil,.nil,.nil,.nil,.nil,.nil,.nil,.nil],agg:=true,CD:=false,fields:=[(0,1,false),(1,6,true),(7,4,true),(11,6,true),(17,4,true)]}
 | 22=>{size:=1,zero:=[.nil],sl:=true,C8:=3,elem:= .i64,CD:=(0:el .i64),Eg:=8}
 | 9=>{size:=1,zero:=[.str ByteArray.empty],HG:=true,CD:=false}
 | 25=>{size:=5,zero:=[.int .i64 0,.nil,.nil,.nil,.int .i64 0],agg:=true,CD:=false,fields:=[(0,1,false),(1,1,false),(2,1,false),(3,1,false),(4,1,false)]}
 | 59=>{size:=7,zero:=[.int .i64 0,.bool false,.nil,.bool false,.nil,.str ByteArray.empty,.nil],agg:=true,CD:=false,fields:=[(0,1,false),(1,4,true),(5,1,false),(6,1,false)]}
 | 23=>{size:=1,zero:=[.nil],sl:=true,C8:=59,elem:= .ex,CD:=((Ex.mk 0 ((false,[]),(false,[])) ByteArray.empty []):el .ex),Eg:=112}
 | 31=>{size:=10,zero:=[.int .i64 0,.nil,.nil,.nil,.int .i64 0,.nil,.nil,.int .i64 0,.nil,.nil],agg:=true,CD:=false,fields:=[(0,5,true),(5,1,false),(6,1,false),(7,1,false),(8,1,false),(9,1,false)]}
 | 77=>{size:=10,zero:=[.int .i64 0,.nil,.nil,.nil,.int .i64 0,.nil,.nil,.int .i64 0,.nil,.int .i64 0],agg:=true,CD:=false,fields:=[(0,5,true),(5,1,false),(6,1,false),(7,1,false),(8,1,false),(9,1,false)]}
 | 96=>{size:=7,zero:=[.str ByteArray.empty,.int .i64 0,.int .i64 0,.int .i64 0,.int .i64 0,.int .i64 0,.bool false],agg:=true,CD:=false,fields:=[(0,1,false),(1,1,false),(2,1,false),(3,1,false),(4,1,false),(5,1,false),(6,1,false)]}
 | 144=>{size:=1,zero:=[.nil],sl:=true,C8:=96,elem:=(.pr .str (.pr .i64 (.pr .i64 (.pr .i64 (.pr .i64 (.pr .i64 .bool)))))),CD:=((ByteArray.empty,0,0,0,0,0,false):el (.pr .str (.pr .i64 (.pr .i64 (.pr .i64 (.pr .i64 (.pr .i64 .bool))))))),Eg:=64}
 |165|75=>{size:=1,zero:=[.Bx],CD:=false}
 | 167=>{size:=1,zero:=[.nil],pt:=true,C8:=165,CD:=false}
 | 157=>{size:=2,zero:=[.int .i64 0,.int .i64 0],agg:=true,CD:=false,arr:=some (2,1,false)}
 | 158=>{size:=6,zero:=[.int .i64 0,.int .i64 0,.int .i64 0,.int .i64 0,.int .i64 0,.int .i64 0],agg:=true,CD:=false,arr:=some (3,2,true)}
 | 202=>{size:=4,zero:=[.int .i64 0,.int .i64 0,.int .i64 0,.int .i64 0],agg:=true,CD:=false,arr:=some (4,1,false)}
 | 133=>{size:=5,zero:=[.bool false,.nil,.bool false,.nil,.nil],agg:=true,CD:=false,fields:=[(0,4,true),(4,1,false)]}
 |84|85=>{size:=1,zero:=[.nil],sl:=true,C8:=133,elem:=MW,CD:=((((false,[]),(false,[])),[]):el MW),Eg:=88}
 | 82=>{size:=1,zero:=[.nil],sl:=true,C8:=85,elem:=(.sl MW),CD:=([]:el (.sl MW)),Eg:=24}
 | 123=>{size:=2,zero:=[.nil,.nil],agg:=true,CD:=false,fields:=[(0,1,false),(1,1,false)]}
 | _=>aC
theorem eI (t:TypeId):HU Tryz.prog t (TI t):=by
 unfold TI
 split <;> first | exact rj _ _ | exact eQ (by kernel_rfl)
theorem Zy:Tryz.prog.follows .mixedOrders=true:=by kernel_rfl
end Go.Abs
namespace Go.Abs
def H2 (fn : Func) : Bool := (fn.name == "runtime.NumGoroutine") == false && match fn.body with | some c => Hg c | none => false
def PF (Q:List ResultVar->AX->St->Prop) (E:Env) (fn:Func) (s:St):Prop:=
 match fn.body with
 | some c=>DY E TI fn.ntmps c (Q fn.results.toList) s
 | none=>False
abbrev PE (E:Env) (fn:Func) (r:AV) (b1:Option Af) (s:St):Prop:=PF (fun rs=>post TI rs r b1) E fn s
abbrev SP (E:Env) (fn:Func) (r:AV) (b0:Af) (s:St):Prop:=PF (fun rs=>Ue TI rs r b0) E fn s
section
variable {f:FuncId} {fn:Func} (hf:Tryz.prog.funcs[f]? =some fn) (ho:H2 fn=true) {b0 b1:Af} {c0:AC} {args:List AV} {r:AV}
theorem Sz {Q:List ResultVar->AX->St->Prop} {s:St} (hf:Tryz.prog.funcs[f]? =some fn) (ho:H2 fn=true) (h:∀E,env Tryz.prog=E->PF Q E fn s):∃c,Fn Tryz.prog TI f fn.ntmps c fn.results.toList/\DY (env Tryz.prog) TI fn.ntmps c (Q fn.results.toList) s:=by
 have h:=h _ rfl;unfold PF at h;unfold H2 at ho;simp only[Bool.and_eq_true] at ho
 split at h
 ·rename_i c b
  rw[b] at ho;exact⟨c,⟨⟨fn,hf,by simpa using ho.1,b,rfl,rfl⟩,ho.2,eI,Zy⟩,h⟩
 exact h.elim
theorem jM (hf:Tryz.prog.funcs[f]? =some fn) (ho:H2 fn=true) (b:(ML args&&(r.all Gy&&(r.wf&&Nat.ble args.length fn.ntmps)))=true)
  (h:∀E,env Tryz.prog=E->PE E fn r none (EZ fn.ntmps args none)):Eb Tryz.prog false f args r:=by
 obtain⟨c,F,h⟩:=Sz hf ho h;simp only[Bool.and_eq_true,Nat.ble_eq] at b;exact jO F b.1 ⟨b.2.1,b.2.2.1⟩ b.2.2.2 h
theorem o8 {TI:TypeId->Info} {rs:List ResultVar} {x:AX} {s:St} (h:post TI rs r (some b1) x s) (b:r.all Iu=true):(∀i,x≠ .exit i)/\∃xs,J4 TI s rs=some xs/\(Kx (AP s.bk) xs r.Il/\(r.all Iu=true\/(xs.all fun x=>x.2.all MB)=true/\r.all Dc=true)/\(rs.length=1↔∀ys,r≠ .Aj ys))/\AP s.bk 0=some b1:=by
 unfold post at h
 split at h
 ·exact h.elim
 rename_i c
 split at h
 ·rename_i xs e
  exact⟨fun i e=>c i e,xs,e,⟨(h.1 ()).1,.inl b,(h.1 ()).2.2⟩,h.2 ()⟩
 exact h.elim
theorem o7 {TI:TypeId->Info} {rs:List ResultVar} {x:AX} {s:St} (h:Ue TI rs r b1 x s) (j:r.all Dc=true):(∀i,x≠ .exit i)/\∃xs,J4 TI s rs=some xs/\(Kx (AP s.bk) xs r.Il/\(r.all Iu=true\/(xs.all fun x=>x.2.all MB)=true/\r.all Dc=true)/\(rs.length=1↔∀ys,r≠ .Aj ys))/\AP s.bk 0=some b1:=by
 unfold Ue at h
 split at h
 ·exact h.elim
 rename_i l
 split at h
 ·rename_i xs e
  obtain⟨⟨b,c,h3⟩,g⟩:=h ();exact⟨fun i e=>l i e,xs,e,⟨b,.inr ⟨c,j⟩,h3⟩,g⟩
 exact h.elim
theorem ND (hf:Tryz.prog.funcs[f]? =some fn) (ho:H2 fn=true) (g:(ML args&&(r.all Iu&&(Nat.ble (args.length+1) fn.ntmps&&(QD c0&&(b0.lone&&b1.lone)))))=true)
  (h:∀E,env Tryz.prog=E->PE E fn r (some b1) (EZ fn.ntmps (.one c0::args) (some b0))):JA Tryz.prog f c0 b0 args r b1:=by
 obtain⟨c,F,h⟩:=Sz hf ho h;simp only[Bool.and_eq_true,Nat.ble_eq] at g;obtain⟨j,l,h3,m,b⟩:=g;exact⟨b.1,Zd F (by have:=XN j;unfold Kf at this ⊢;rw[List.all_cons,this,Bool.and_true];exact m) b ⟨h3,AA⟩ (fun x s q=>o8 q l) h⟩
theorem DV (hf:Tryz.prog.funcs[f]? =some fn) (ho:H2 fn=true) (j:(Kf args&&(r.all Dc&&(b0.lone&&(b1.lone&&(Nat.ble args.length fn.ntmps&&Nat.ble 1 fn.ntmps)))))=true)
  (h:∀E,env Tryz.prog=E->SP E fn r b1 (EZ fn.ntmps args (some b0))):CI Tryz.prog f args b0 r b1:=by
 obtain⟨c,F,h⟩:=Sz hf ho h;simp only[Bool.and_eq_true,Nat.ble_eq] at j;obtain⟨l,b,h3,g,m,n⟩:=j;exact⟨⟨b,h3,g⟩,Zd F l ⟨h3,g⟩ ⟨m,n⟩ (fun x s q=>o7 q b) h⟩
theorem kL (hf:Tryz.prog.funcs[f]? =some fn) (ho:H2 fn=true) (b:(Kf args&&(r.all Dc&&(b0.lone&&(Nat.ble args.length fn.ntmps&&Nat.ble 1 fn.ntmps))))=true)
 (h:∀E,env Tryz.prog=E->SP E fn r b0 (EZ fn.ntmps args (some b0))):Dn Tryz.prog f args b0 r:=DV hf ho (by simp only[Bool.and_eq_true] at b ⊢;exact⟨b.1,b.2.1,b.2.2.1,b.2.2.1,b.2.2.2⟩) h
variable {E:Env} {fl:Bool}
theorem CL (b:env Tryz.prog=E) (h:CI Tryz.prog f args b0 r b1):E.W f args b0 r b1:=b ▸ h
theorem Fq (b:env Tryz.prog=E) (h:Dn Tryz.prog f args b0 r):E.D f args b0 r:=b ▸ h
theorem Gl (b:env Tryz.prog=E) (h:Eb Tryz.prog fl f args r):E.C fl f args r:=b ▸ h
theorem Ea (b:env Tryz.prog=E) (h:JA Tryz.prog f c0 b0 args r b1):E.B f c0 b0 args r b1:=b ▸ h
end
def tK:AV->Nat
 | .one (.sl _ l)=>l.length
 | _=>0
def tI:AV->Int
 | .one (.int _ n)=>n
 | _=>0
theorem Q9 {z:ByteArray} {n:Int} (h:n.toNat<z.size):∃b:UInt8,z.data[n.toNat]? =some b:=⟨_,Array.getElem?_eq_getElem h⟩
end Go.Abs
namespace Go.Abs
abbrev LR:=List (el AG)
abbrev CF:=Eb Tryz.prog false
theorem cL {E:Env} {fl:Bool} {g:FuncId} {args:List AV} {r:AV} {L:List AV->Prop} {K:AV->Prop} {X:Prop} (b:env Tryz.prog=E) (h:Eb Tryz.prog fl g args r) (j:L args) (c:K r):
 (∃(a:List AV) (r:AV),(Unit->L a)/\(Unit->E.C fl g a r)/\K r)\/X:= .inl ⟨args,r,fun _=>j,fun _=>Gl b h,c⟩
theorem fA {A B C:Prop} (h:A) (hb:B) (b:C):(Unit->A/\B/\C)/\True:=⟨fun _=>⟨h,hb,b⟩,trivial⟩
theorem i64 {c:Int} (h: -9223372036854775808<=c/\c<9223372036854775808):EF c:=h
theorem g2 {P:Sort _} {A C:Prop} (a:A) (h:C):(P->A)/\C:=⟨fun _=>a,h⟩
theorem g1 {P:Sort _} {C:Prop} {x:Int} (a: -9223372036854775808<=x/\x<9223372036854775808) (h:C):(P->EF x)/\C:=⟨fun _=>i64 a,h⟩
theorem t1 {α:Sort _} {a:α}:a=a/\True:=⟨rfl,trivial⟩
theorem t2 {α β:Sort _} {a:α} {b:β}:a=a/\b=b/\True:=⟨rfl,t1⟩
theorem t3 {α β γ:Sort _} {a:α} {b:β} {c:γ}:a=a/\b=b/\c=c/\True:=⟨rfl,t2⟩
theorem t4 {α β γ δ:Sort _} {a:α} {b:β} {c:γ} {d:δ}:a=a/\b=b/\c=c/\d=d/\True:=⟨rfl,t3⟩
theorem xR (a:LR):∃z:LR,z=a:=⟨_,rfl⟩
theorem xV (a:List LR):∃z:List LR,z=a:=⟨_,rfl⟩
theorem xN (a:Nat):∃z:Nat,z=a:=⟨_,rfl⟩
theorem xI (a:Int):∃z:Int,z=a:=⟨_,rfl⟩
theorem xB (a:Bool):∃z:Bool,z=a:=⟨_,rfl⟩
theorem xU (a:List UInt32):∃z:List UInt32,z=a:=⟨_,rfl⟩
theorem xJ (a:List AV->List Af->Nat->Prop):∃J:List AV->List Af->Nat->Prop,J=a:=⟨_,rfl⟩
theorem xK (a:List AV->List Af->Prop):∃J:List AV->List Af->Prop,J=a:=⟨_,rfl⟩
end Go.Abs
namespace Go.Abs
abbrev Gc:AC:= .sl (.sl AG) []
abbrev Gd:AC:= .sl AG []
abbrev BZ (b:Bool) (l:List UInt32):List AC:=[.bool b,.sl .u32 l]
abbrev Br (b:Bool) (l:List UInt32) (c:Bool) (m:List UInt32):List AC:=[.bool b,.sl .u32 l,.bool c,.sl .u32 m]
abbrev AZ (T1:List (List (el AG))) (A1:List (el AG)):List AC:=[.sl (.sl AG) T1,.sl AG A1]
abbrev Bl (T1:List (List (el AG))) (A1:List (el AG)) (T2:List (List (el AG))) (A2:List (el AG)):List AC:=[.sl (.sl AG) T1,.sl AG A1,.sl (.sl AG) T2,.sl AG A2]
abbrev GH (T1:List (List (el AG))) (A1:List (el AG)) (T2:List (List (el AG))) (A2:List (el AG)) (T3:List (List (el AG))) (A3:List (el AG)):List AC:=[.sl (.sl AG) T1,.sl AG A1,.sl (.sl AG) T2,.sl AG A2,.sl (.sl AG) T3,.sl AG A3]
abbrev tN (T1:List (List (el AG))) (A1:List (el AG)) (T2:List (List (el AG))) (A2:List (el AG)) (T3:List (List (el AG))) (A3:List (el AG)) (T4:List (List (el AG))) (A4:List (el AG)):List AC:=[.sl (.sl AG) T1,.sl AG A1,.sl (.sl AG) T2,.sl AG A2,.sl (.sl AG) T3,.sl AG A3,.sl (.sl AG) T4,.sl AG A4]
abbrev tO (T1:List (List (el AG))) (A1:List (el AG)) (T2:List (List (el AG))) (A2:List (el AG)) (T3:List (List (el AG))) (A3:List (el AG)) (T4:List (List (el AG))) (A4:List (el AG)) (T5:List (List (el AG))) (A5:List (el AG)):List AC:=[.sl (.sl AG) T1,.sl AG A1,.sl (.sl AG) T2,.sl AG A2,.sl (.sl AG) T3,.sl AG A3,.sl (.sl AG) T4,.sl AG A4,.sl (.sl AG) T5,.sl AG A5]
abbrev tM (T1:List (List (el AG))) (A1:List (el AG)) (T2:List (List (el AG))) (A2:List (el AG)) (T3:List (List (el AG))) (A3:List (el AG)) (T4:List (List (el AG))) (A4:List (el AG)) (m:Bool):List AC:=[.sl (.sl AG) T1,.sl AG A1,.sl (.sl AG) T2,.sl AG A2,.sl (.sl AG) T3,.sl AG A3,.sl (.sl AG) T4,.sl AG A4,.bool m]
def OG:AC->Bool
 | .int _ _=>true | .bool _=>true | .fn _=>true | .nil=>true | .sl _ _=>true
 |.Ck _ _ _|.E5 _ _|.str _=>true
 | _=>false
def Kz:List AV->Bool
 | []=>true
 | .one c::l=>OG c&&Kz l
 | .agg cs::l=>cs.all OG&&Kz l
 | .Aj _::_=>false
theorem Zf:∀{c:AC},OG c=true->FV c c
 |.int _ _,_|.bool _,_|.fn _,_=>rfl
 | .nil,_=> .inl rfl
 |.sl _ _,_|.Ck _ _ _,_|.E5 _ _,_|.str _,_=>rfl
theorem XJ:∀{cs:List AC},cs.all OG=true->EB FV cs cs
 | [],_=>trivial
 | c::l,h=>by
  rw[List.all_cons,Bool.and_eq_true] at h;exact⟨Zf h.1,XJ h.2⟩
theorem SE:∀{a:List AV},Kz a=true->Ey FV a a
 | [],_=>trivial
 | .one c::l,h=>by
  unfold Kz at h;rw[Bool.and_eq_true] at h;exact⟨Zf h.1,SE h.2⟩
 | .agg cs::l,h=>by
  unfold Kz at h;rw[Bool.and_eq_true] at h;exact⟨XJ h.1,SE h.2⟩
theorem BO {E:Env} {fl:Bool} {g:FuncId} {args:List AV} {r:AV} {K:AV->Prop} {X:Prop} (b:env Tryz.prog=E) (h:Eb Tryz.prog fl g args r) (c:K r) (j:Kz args=true:=by rfl):
 (∃(a:List AV) (r:AV),(Unit->Ey FV args a)/\(Unit->E.C fl g a r)/\K r)\/X:= .inl ⟨args,r,fun _=>SE j,fun _=>Gl b h,c⟩
def QF:AC->AC
 | .AU t _ _ off len=> .AU t 0 0 off len
 | .BE _ _ off=> .BE 0 0 off
 | c=>c
def Kh:List AV->List AV
 | []=>[]
 | .one c::l=> .one (QF c)::Kh l
 | .agg cs::l=> .agg (cs.map QF)::Kh l
 | .Aj x::l=> .Aj x::Kh l
def ME (id v:Nat):AC->Bool
 |.AU _ i w _ _|.BE i w _=>Nat.beq i id&&Nat.beq w v
 |.Ck _ _ _|.E5 _ _|.str _=>false
 | c=>OG c
def Kn (id v:Nat):List AV->Bool
 | []=>true
 | .one c::l=>ME id v c&&Kn id v l
 | .agg cs::l=>cs.all (ME id v)&&Kn id v l
 | .Aj _::_=>false
theorem Zj {id v:Nat}:∀{c:AC},ME id v c=true->ID id v c (QF c)
 | .AU _ i w _ _,h=>by
  unfold ME at h;rw[Bool.and_eq_true] at h;exact⟨⟨Nat.eq_of_beq_eq_true h.1,Nat.eq_of_beq_eq_true h.2⟩,rfl⟩
 | .BE i w _,h=>by
  unfold ME at h;rw[Bool.and_eq_true] at h;exact⟨⟨Nat.eq_of_beq_eq_true h.1,Nat.eq_of_beq_eq_true h.2⟩,rfl⟩
 |.int _ _,_|.bool _,_|.fn _,_=>rfl
 | .nil,_=> .inl rfl
 | .sl _ _,_=>rfl
 |.Ck _ _ _,h|.E5 _ _,h|.str _,h=>by cases h
theorem Zi {id v:Nat}:∀{cs:List AC},cs.all (ME id v)=true->EB (ID id v) cs (cs.map QF)
 | [],_=>trivial
 | c::l,h=>by
  rw[List.all_cons,Bool.and_eq_true] at h;exact⟨Zj h.1,Zi h.2⟩
theorem Tg {id v:Nat}:∀{a:List AV},Kn id v a=true->Ey (ID id v) a (Kh a)
 | [],_=>trivial
 | .one c::l,h=>by
  unfold Kn at h;rw[Bool.and_eq_true] at h;exact⟨Zj h.1,Tg h.2⟩
 | .agg cs::l,h=>by
  unfold Kn at h;rw[Bool.and_eq_true] at h;exact⟨Zi h.1,Tg h.2⟩
theorem LV {E:Env} {g:FuncId} {args:List AV} {r:AV} {bk:Nat->Option Af} {K:Nat->AV->Prop} {c j l m:Prop} (id v:Nat) (n:env Tryz.prog=E) (h:Dn Tryz.prog g (Kh args) (.var 0 [.int .i64 0]) r) (p:K id r) (hb:bk id=some (.var v [.int .i64 0]):=by rfl) (ho:Kn id v args=true:=by rfl):
 c\/j\/l\/(∃(id:Nat) (b:Af) (a:List AV) (r:AV),(Unit->bk id=some b/\Ey (ID id b.BA) args a)/\(Unit->E.D g a (b.EY 0) r)/\K id r)\/m:= .inr (.inr (.inr (.inl ⟨id,.var v [.int .i64 0],Kh args,r,fun _=>⟨hb,Tg ho⟩,fun _=>Fq n h,p⟩)))
theorem DO {bk:Nat->Option Af} {t:T}:I3 bk .nil (.sl t []):= .inr (.inl ⟨_,rfl⟩)
theorem DI {P:Sort _} {C:Prop} {x:Int} (h:C) (a: -9223372036854775808<=x/\x<9223372036854775808:=by omega):(P->EF x)/\C:=⟨fun _=>a,h⟩
theorem FI {P:Sort _} {A C:Prop} (h:C) (a:A:=by omega):(P->A)/\C:=⟨fun _=>a,h⟩
theorem AN {A B C:Prop} (h:A) (hb:B:=by rfl) (b:C:=by simp):(Unit->A/\B/\C)/\True:=⟨fun _=>⟨h,hb,b⟩,trivial⟩
theorem Gt {x:Bool} {K:Bool->Prop} (k:K true) (h:x=true:=by decide):∀c,c=x->K c:=fun _ e=>by rw[e,h];exact k
theorem Lu {x:Bool} {K:Bool->Prop} (k:K false) (h:x=false:=by decide):∀c,c=x->K c:=fun _ e=>by rw[e,h];exact k
theorem H0 {f:FuncId} {fn:Func} (hf:Tryz.prog.funcs[f]? =some fn) {args:List AV} {r:AV} (h:∀E,env Tryz.prog=E->PE E fn r none (EZ fn.ntmps args none)) (ho:H2 fn=true:=by kernel_rfl) (b:(ML args&&(r.all Gy&&(r.wf&&Nat.ble args.length fn.ntmps)))=true:=by rfl):Eb Tryz.prog false f args r:=jM hf ho b h
theorem Fx {f:FuncId} {fn:Func} (hf:Tryz.prog.funcs[f]? =some fn) {b0:Af} {args:List AV} {r:AV} (h:∀E,env Tryz.prog=E->SP E fn r b0 (EZ fn.ntmps args (some b0))) (ho:H2 fn=true:=by kernel_rfl) (b:(Kf args&&(r.all Dc&&(b0.lone&&(Nat.ble args.length fn.ntmps&&Nat.ble 1 fn.ntmps))))=true:=by rfl):Dn Tryz.prog f args b0 r:=kL hf ho b h
theorem NT {a b:Int} {K:Bool->Prop} (f:b<=a->K false) (t:a<b->K true):∀c,c=decide (a<b)->K c:=fun c h=>by subst h;by_cases e:a<b <;> simp only[e,decide_true,decide_false] <;> first | exact t e | exact f AA
theorem NS {a b:Int} {K:Bool->Prop} (f:b<a->K false) (t:a<=b->K true):∀c,c=decide (a<=b)->K c:=fun c h=>by subst h;by_cases e:a<=b <;> simp only[e,decide_true,decide_false] <;> first | exact t e | exact f AA
theorem PY {a b:Int} {K:Bool->Prop} (f:a<=b->K false) (t:b<a->K true):∀c,c=decide (a>b)->K c:=NT f t
theorem LU {a b:Int} {K:Bool->Prop} (f:a<b->K false) (t:b<=a->K true):∀c,c=decide (a >= b)->K c:=NS f t
theorem Hd {a b:Int} {K:Bool->Prop} (f:a≠b->K false) (t:a=b->K true):∀c,c=(a==b)->K c:=fun c h=>by subst h;by_cases e:a=b <;> first | (rw[beq_iff_eq.2 e];exact t e) | (rw[beq_eq_false_iff_ne.2 e];exact f e)
theorem C7 {a b:Int} {K:Bool->Prop} (f:a=b->K false) (t:a≠b->K true):∀c,c=(a !=b)->K c:=fun c h=>by subst h;by_cases e:a=b <;> first | (rw[show (a !=b)=false from by simp[e]];exact f e) | (rw[show (a !=b)=true from by simp[e]];exact t e)
theorem YD {a:Bool} {K:Bool->Prop} (f:a=true->K false) (t:a=false->K true):∀c,c= !a->K c:=fun c h=>by subst h;cases a <;> first | exact f rfl | exact t rfl
theorem Ph {a b:Int} {K:Bool->Prop} (t:a<b->K true) (f:b<=a->K false):∀c,c=decide (a<b)->K c:=NT f t
theorem kp {a b:Int} {K:Bool->Prop} (t:a<=b->K true) (f:b<a->K false):∀c,c=decide (a<=b)->K c:=NS f t
theorem ko {a b:Int} {K:Bool->Prop} (t:b<a->K true) (f:a<=b->K false):∀c,c=decide (a>b)->K c:=NT f t
theorem kn {a b:Int} {K:Bool->Prop} (t:b<=a->K true) (f:a<b->K false):∀c,c=decide (a >= b)->K c:=NS f t
theorem Lb {a b:Int} {K:Bool->Prop} (t:a=b->K true) (f:a≠b->K false):∀c,c=(a==b)->K c:=Hd f t
theorem Lc {a b:Int} {K:Bool->Prop} (t:a≠b->K true) (f:a=b->K false):∀c,c=(a !=b)->K c:=C7 f t
theorem Pj {a:Bool} {K:Bool->Prop} (t:a=false->K true) (f:a=true->K false):∀c,c= !a->K c:=YD f t
theorem AL {α β γ:Sort _} {x:γ} {f:α->β} {a b:α} {B C:Prop} (h:a=b) (hb:B:=by rfl) (c:C:=by simp):(Unit->((x=x/\f a=f b/\True)/\True)/\B/\C)/\True:=AN ⟨⟨rfl,congrArg f h,trivial⟩,trivial⟩ hb c
theorem BR {α:Type} {X:List α} {n n':Nat} {A:Prop} {K:α->Prop} {x:α} (h:X[n']? =some x) (k:K x) (e:n=n':=by omega) (a:A:=by omega):∃x,(Unit->A/\X[n]? =some x)/\K x:=⟨x,fun _=>⟨a,e ▸ h⟩,k⟩
theorem BI {X:Prop} {C:Type} {V:C->List Nat->List Nat->List AV} {Q:C->List Nat->List Nat->List Af} {R:C->List Nat->List Nat->(List AV->List Af->Nat->Prop)->List AV->List Af->Nat->Prop} (cv:C) (l k:List Nat) (J:List AV->List Af->Nat->Prop) (m:Nat) (h:J (V cv l k) (Q cv l k) m)
 (g:∀c,c=J->∀vs b n,J vs b n->R cv l k c vs b n):X\/∃cv l k J,(∃n,J (V cv l k) (Q cv l k) n)/\∀vs b n,J vs b n->R cv l k J vs b n:= .inr ⟨cv,l,k,J,⟨m,h⟩,g J rfl⟩
theorem BT {I J:List AV->List Af->Nat->Prop} {vs:List AV} {b:List Af} {m n:Nat} (e:I=J) (h:J vs b n) (d:n<m:=by omega):∃n,n<m/\I vs b n:=⟨n,d,e ▸ h⟩
theorem Ae {α:Type} {X:List α} {n:Nat} {A:Prop} {K:α->Prop} (n':Nat) (k:∀x,X[n']? =some x->K x) (b:n'<X.length:=by omega) (e:n=n':=by omega) (a:A:=by omega):∃x,(Unit->A/\X[n]? =some x)/\K x:=
 ⟨X[n'],fun _=>⟨a,by rw[e];exact List.getElem?_eq_getElem b⟩,k _ (List.getElem?_eq_getElem b)⟩
theorem AW {P Q:Prop} (h:Q) (e:P=Q:=by (repeat ((try (apply Eq.trans;(conv=>lhs;cbv)));(with_reducible apply forall_congr);intro));(try (conv=>lhs;cbv));all_goals rfl):P:=e.mpr h
theorem aGo {P:Sort _} {A C D:Prop} (a:A) (h:C=D):((P->A)/\C)=D:=propext ⟨fun x=>h ▸ x.2,fun x=>⟨fun _=>a,h.symm ▸ x⟩⟩
theorem Dk {α β γ δ σ:Sort _} {x:γ} {f:α->β} {g:δ->σ} {a b:α} {c d:δ} {B C:Prop} (h:a=b) (k:c=d) (hb:B:=by rfl) (j:C:=by simp):(Unit->((x=x/\f a=f b/\g c=g d/\True)/\True)/\B/\C)/\True:=AN ⟨⟨rfl,congrArg f h,congrArg g k,trivial⟩,trivial⟩ hb j
theorem Cw {P Q:Prop} (e:P=Q:=by (repeat ((try (apply Eq.trans;(conv=>lhs;cbv)));first | ((with_reducible apply forall_congr);intro x;(fail_if_success have:=(rfl:x=()));(try have:=x.eq);(try have:=x.le);(try have:=x.lt)) | (apply aGo;(first | rfl | omega | (unfold EF;omega) | exact⟨AA,AA⟩ | exact⟨AA,AA,by unfold EF;omega⟩))));(try (conv=>lhs;cbv));all_goals rfl):P=Q:=e
theorem AK {P Q:Prop} (h:Q) (e:P=Q:=by exact Cw):P:=e.mpr h
theorem AB {E:Env} {fl:Bool} {g:FuncId} {args:List AV} {r:AV} {K:AV->Prop} {X Q:Prop} (b:env Tryz.prog=E) (h:Eb Tryz.prog fl g args r) (c:Q) (j:Kz args=true:=by rfl) (e:K r=Q:=by exact Cw):
 (∃(a:List AV) (r:AV),(Unit->Ey FV args a)/\(Unit->E.C fl g a r)/\K r)\/X:=BO b h (e.mpr c) j
theorem cLy {E:Env} {fl:Bool} {g:FuncId} {args:List AV} {r:AV} {L:List AV->Prop} {K:AV->Prop} {X Q:Prop} (b:env Tryz.prog=E) (h:Eb Tryz.prog fl g args r) (j:L args) (c:Q) (e:K r=Q:=by exact Cw):
 (∃(a:List AV) (r:AV),(Unit->L a)/\(Unit->E.C fl g a r)/\K r)\/X:=cL b h j (e.mpr c)
theorem DJ {x:Bool} {K:Bool->Prop} {Q:Prop} (k:Q) (h:x=true:=by decide) (e:K true=Q:=by exact Cw):∀c,c=x->K c:=Gt (e.mpr k) h
theorem BM {x:Bool} {K:Bool->Prop} {Q:Prop} (k:Q) (h:x=false:=by decide) (e:K false=Q:=by exact Cw):∀c,c=x->K c:=Lu (e.mpr k) h
theorem Cj {α:Type} {X:List α} {n n':Nat} {A Q:Prop} {K:α->Prop} {x:α} (h:X[n']? =some x) (k:Q) (e:n=n':=by omega) (a:A:=by omega) (v:K x=Q:=by exact Cw):∃x,(Unit->A/\X[n]? =some x)/\K x:=BR h (v.mpr k) e a
theorem Fc {E:Env} {g:FuncId} {args:List AV} {r:AV} {bk:Nat->Option Af} {K:Nat->AV->Prop} {c j l m Q:Prop} (id v:Nat) (n:env Tryz.prog=E) (h:Dn Tryz.prog g (Kh args) (.var 0 [.int .i64 0]) r) (p:Q) (hb:bk id=some (.var v [.int .i64 0]):=by rfl) (ho:Kn id v args=true:=by rfl) (e:K id r=Q:=by exact Cw):
 c\/j\/l\/(∃(id:Nat) (b:Af) (a:List AV) (r:AV),(Unit->bk id=some b/\Ey (ID id b.BA) args a)/\(Unit->E.D g a (b.EY 0) r)/\K id r)\/m:=LV id v n h (e.mpr p) hb ho
theorem BQ {a b:Int} {K:Bool->Prop} {F G:Prop} (f:b<=a->F) (t:a<b->G) (u:b<=a->K false=F:=by intro x;exact Cw) (v:a<b->K true=G:=by intro x;exact Cw):∀c,c=decide (a<b)->K c:=NT (fun x=>(u x).mpr (f x)) fun x=>(v x).mpr (t x)
theorem DF {a b:Int} {K:Bool->Prop} {F G:Prop} (t:a<b->G) (f:b<=a->F) (u:b<=a->K false=F:=by intro x;exact Cw) (v:a<b->K true=G:=by intro x;exact Cw):∀c,c=decide (a<b)->K c:=BQ f t u v
theorem fR {a b:Int} {K:Bool->Prop} {F G:Prop} (f:b<a->F) (t:a<=b->G) (u:b<a->K false=F:=by intro x;exact Cw) (v:a<=b->K true=G:=by intro x;exact Cw):∀c,c=decide (a<=b)->K c:=NS (fun x=>(u x).mpr (f x)) fun x=>(v x).mpr (t x)
theorem sb {a b:Int} {K:Bool->Prop} {F G:Prop} (t:a<=b->G) (f:b<a->F) (u:b<a->K false=F:=by intro x;exact Cw) (v:a<=b->K true=G:=by intro x;exact Cw):∀c,c=decide (a<=b)->K c:=fR f t u v
theorem FC {a b:Int} {K:Bool->Prop} {F G:Prop} (f:a<=b->F) (t:b<a->G) (u:a<=b->K false=F:=by intro x;exact Cw) (v:b<a->K true=G:=by intro x;exact Cw):∀c,c=decide (a>b)->K c:=PY (fun x=>(u x).mpr (f x)) fun x=>(v x).mpr (t x)
theorem Ft {a b:Int} {K:Bool->Prop} {F G:Prop} (t:b<a->G) (f:a<=b->F) (u:a<=b->K false=F:=by intro x;exact Cw) (v:b<a->K true=G:=by intro x;exact Cw):∀c,c=decide (a>b)->K c:=FC f t u v
theorem I9 {a b:Int} {K:Bool->Prop} {F G:Prop} (f:a<b->F) (t:b<=a->G) (u:a<b->K false=F:=by intro x;exact Cw) (v:b<=a->K true=G:=by intro x;exact Cw):∀c,c=decide (a >= b)->K c:=LU (fun x=>(u x).mpr (f x)) fun x=>(v x).mpr (t x)
theorem Mk {a b:Int} {K:Bool->Prop} {F G:Prop} (t:b<=a->G) (f:a<b->F) (u:a<b->K false=F:=by intro x;exact Cw) (v:b<=a->K true=G:=by intro x;exact Cw):∀c,c=decide (a >= b)->K c:=I9 f t u v
theorem CN {a b:Int} {K:Bool->Prop} {F G:Prop} (f:a≠b->F) (t:a=b->G) (u:a≠b->K false=F:=by intro x;exact Cw) (v:a=b->K true=G:=by intro x;exact Cw):∀c,c=(a==b)->K c:=Hd (fun x=>(u x).mpr (f x)) fun x=>(v x).mpr (t x)
theorem BS {a b:Int} {K:Bool->Prop} {F G:Prop} (t:a=b->G) (f:a≠b->F) (u:a≠b->K false=F:=by intro x;exact Cw) (v:a=b->K true=G:=by intro x;exact Cw):∀c,c=(a==b)->K c:=CN f t u v
theorem OT {a b:Int} {K:Bool->Prop} {F G:Prop} (f:a=b->F) (t:a≠b->G) (u:a=b->K false=F:=by intro x;exact Cw) (v:a≠b->K true=G:=by intro x;exact Cw):∀c,c=(a !=b)->K c:=C7 (fun x=>(u x).mpr (f x)) fun x=>(v x).mpr (t x)
theorem Gn {a b:Int} {K:Bool->Prop} {F G:Prop} (t:a≠b->G) (f:a=b->F) (u:a=b->K false=F:=by intro x;exact Cw) (v:a≠b->K true=G:=by intro x;exact Cw):∀c,c=(a !=b)->K c:=OT f t u v
theorem RP {a:Bool} {K:Bool->Prop} {F G:Prop} (f:a=true->F) (t:a=false->G) (u:a=true->K false=F:=by intro x;exact Cw) (v:a=false->K true=G:=by intro x;exact Cw):∀c,c= !a->K c:=YD (fun x=>(u x).mpr (f x)) fun x=>(v x).mpr (t x)
theorem G5 {a:Bool} {K:Bool->Prop} {F G:Prop} (t:a=false->G) (f:a=true->F) (u:a=true->K false=F:=by intro x;exact Cw) (v:a=false->K true=G:=by intro x;exact Cw):∀c,c= !a->K c:=RP f t u v
theorem AM {f:FuncId} {fn:Func} (hf:Tryz.prog.funcs[f]? =some fn) {args:List AV} {r:AV} {Q:Env->Prop} (h:∀E,env Tryz.prog=E->Q E) (e:∀E,PE E fn r none (EZ fn.ntmps args none)=Q E:=by intro E;exact Cw) (ho:H2 fn=true:=by kernel_rfl) (c:(ML args&&(r.all Gy&&(r.wf&&Nat.ble args.length fn.ntmps)))=true:=by rfl):Eb Tryz.prog false f args r:=H0 hf (fun E b=>(e E).mpr (h E b)) ho c
theorem Ao {P:Prop} (h:P:=by intros;(repeat' (first | exact rfl | exact trivial | exact DO | exact .inl rfl | exact .inr ⟨_,rfl,rfl⟩ | (refine⟨?_,?_⟩) | simp))):P:=h
theorem C5 {P:Prop} (h:P:=by first | exact t1 | exact t2 | exact t4 | simp[EB,FV,cells]):P:=h
theorem Ca {P:Prop} (h:P:=by exact fun _=>⟨rfl,by decide,rfl,⟨rfl,by first | exact t1 | exact t2 | exact t4 | simp[EB,FV,cells],trivial⟩⟩):P:=h
theorem B5 (n k:Nat) (h:n*k<=140737488355328:=by (try simp only[List.length_take,List.length_drop]);omega):n*k<=140737488355328:=h
abbrev AH (n:Int):AV:= .one (.int .i64 n)
abbrev BY (l:List AC) (e:Int):AV:= .Aj [(true,l),(false,[.int .i64 e])]
abbrev BP (t:List (List (el AG))):AC:= .sl (.sl AG) t
abbrev Au (a:List (el AG)):AC:= .sl AG a
abbrev Ah (t:List (List (el AG))):AV:= .one (.sl (.sl AG) t)
abbrev AO (a:List (el AG)):AV:= .one (.sl AG a)
abbrev CT:AV:= .one (.BE 0 0 0)
abbrev mlE {α:Type} (_:Nat):List α:=[]
theorem IE {P Q:Prop} (h:¬P:=by decide):P->Q:=fun a=>absurd a h
abbrev L6 (kd:Int) (P C:List Int) (V:List Ex) (sd:Int) (vl:List (el AG)) (AJ:List Int) (AI t:Int) (cr:List (el AY)):List AV:=[.agg [.int .i64 kd,.sl .i64 P,.sl .i64 C,.sl .ex V,.int .i64 sd],.one (.sl AG vl),.one (.sl .i64 AJ),.one (.int .i64 AI),.one (.int .i64 t),.one (.sl AY cr)]
theorem mcW {A1 A2 A3 A4 A5 X Q:Prop} {c:Nat->Af->Prop} {g h j:Nat->Af->List AV->AV->Af->Prop} {b:Af} {a:List AV} {r:AV} {b1:Af} (h3:h 0 b a r b1) (k:Q) (l:c 0 b:=by rfl) (m:g 0 b a r b1:=by exact Ao) (e:j 0 b a r b1=Q:=by exact Cw):
  A1\/A2\/A3\/A4\/A5\/(∃(id:Nat) (b:Af) (a:List AV) (r:AV) (b1:Af),(Unit->c id b/\g id b a r b1)/\(Unit->h id b a r b1)/\j id b a r b1)\/X:=
 .inr (.inr (.inr (.inr (.inr (.inl ⟨0,b,a,r,b1,fun _=>⟨l,m⟩,fun _=>h3,e.mpr k⟩)))))
end Go.Abs
namespace Go.Abs
open Go.RowKit Go.ChangeShapes Go.WideShapes Go.Deep
def Ke (P:Program) (k:IntKind) (t:TypeId):Bool:=match P.underlying t with | some (.int j)=>decide (j=k) | _=>false
def okF (P:Program) (ok:T->TypeId->Bool):T->List Field->Nat->Bool
 | _,[],_=>false
 | t,[f],o=>f.offset==o&&(P.cellsOf f.type==t.size&&ok t f.type)
 | .pr a b,f::fs,o=>(f.offset==o&&(P.cellsOf f.type==a.size&&ok a f.type))&&okF P ok b fs (o+a.size)
 | _,_,_=>false
abbrev JX:T:= .pr .i64 (.pr (.pr (.pr .bool (.sl .u32)) (.pr .bool (.sl .u32))) (.pr .str (.sl .ex)))
def MF (P:Program) (ok:T->TypeId->Bool) (t:TypeId):T->TypeId->Bool
 | .sl .ex,u=>match P.underlying u with | some (.slice e)=>e==t | _=>false
 | τ,u=>ok τ u
def F3 (P:Program):Nat->T->TypeId->Bool
 | 0,_,_=>false
 | n+1,τ,t=>match τ with
  | .u8=>Ke P .u8 t
  | .u32=>Ke P .u32 t
  | .u64=>Ke P .u64 t
  | .i8=>Ke P .i8 t
  | .i64=>Ke P .i64 t
  | .bool=>match P.underlying t with | some .bool=>true | _=>false
  | .sl e=>match P.underlying t with | some (.slice u)=>F3 P n e u&&(P.cellsOf u==e.size&&decide (0<P.bytesOf u)) | _=>false
  | .pr a b=>match P.underlying t with | some (.struct fs)=>okF P (F3 P n) (.pr a b) fs.toList 0&&P.cellsOf t==a.size+b.size | _=>false
  | .str=>match P.underlying t with | some .string=>true | _=>false
  | .ex=>match P.underlying t with | some (.struct fs)=>okF P (MF P (F3 P n) t) JX fs.toList 0&&(P.cellsOf t==7&&decide (0<P.bytesOf t)) | _=>false
  | .rf _=>false
 inductive Fw:Nat->Ex->Prop
  | mk (N:Nat) (y:Ex):y.v.1.2.length<=N+1->y.v.2.2.length<=N+1->y.name.size<=N+1->y.args.length<=N+1->(∀z∈y.args,Fw N z)->Fw (N+1) y
def HN:Nat->(t:T)->el t->Prop
 | N,.sl t,l=>l.length<=N/\∀x∈l,HN (N-1) t x
 | N,.pr a b,x=>HN N a x.1/\HN N b x.2
 | N,.str,s=>s.size<=N
 | N,.ex,x=>Fw N x
 | _,_,_=>True
structure LF {H:Type} (B:DataW H->Nat):Prop where
 len:∀e s,e.length<=B (.slice e s)
 el:∀e s d,d∈e->B d<B (.slice e s)
 agg:∀l d,d∈l->B d<B (.agg l)
 str:∀b,b.length<=B (.lit (.string b))
theorem IB {P:Program} {k:IntKind} {t:TypeId} (h:Ke P k t=true):P.underlying t=some (.int k):=by
 unfold Ke at h
 split at h
 ·rename_i j e;rw[e,of_decide_eq_true h]
 simp at h
theorem Vg {k:IntKind} {n:Int} (h:(Lit.int k n).wf=true):k.min<=n/\n<=k.max:=by
 simpa [Lit.wf] using h
theorem UU {H:Type} {enc:TypeId×Value->H} {P:Program} {w:World} {base:Nat} {sp:Nat->Bool} {u:Bool} {n m:Nat} {cs:List Value} {ok:T->TypeId->Bool} {B:DataW H->Nat} {Z:Nat->Prop}
  (c:∀(T:T) (t:TypeId) (cs:List Value) (x:DataW H×List MemPlace),ok T t=true->DataW.trod enc P w base sp u n t cs=some x->SizeOf.sizeOf x.1<m->(∀N,Z N->B x.1<=N)->(∀k∈x.1.weights P t,k<=reachBytes)->∃y:el T,rep w (fun _ b=>b<w.heap.size) T y cs/\∀N,Z N->HN N T y):
  ∀(T:T) (fs:List Field) (o:Nat),okF P ok T fs o=true->cs.length=o+T.size->
   (∀(i:Nat) (f:Field),fs[i]? =some f->∃x,DataW.trod enc P w base sp u n f.type ((cs.drop f.offset).take (P.cellsOf f.type))=some x/\SizeOf.sizeOf x.1<m/\(∀N,Z N->B x.1<=N)/\∀k∈x.1.weights P f.type,k<=reachBytes)->∃y:el T,rep w (fun _ b=>b<w.heap.size) T y (cs.drop o)/\∀N,Z N->HN N T y
 | T,[],o,h,_,_=>by cases T <;> simp[okF] at h
 | T,[f],o,h,D,j=>by
  have h':(f.offset==o&&(P.cellsOf f.type==T.size&&ok T f.type))=true:=by cases T <;> exact h
  simp only[Bool.and_eq_true,beq_iff_eq] at h';obtain⟨x,j,v,p,hw⟩:=j 0 f rfl;rw[h'.1,h'.2.1,List.take_of_length_le (by rw[List.length_drop];omega)] at j;exact c T _ _ _ h'.2.2 j v p hw
 | .pr a b,f::g::fs,o,h,D,j=>by
  have h':((f.offset==o&&(P.cellsOf f.type==a.size&&ok a f.type))&&okF P ok b (g::fs) (o+a.size))=true:=h;simp only[Bool.and_eq_true,beq_iff_eq] at h';have v:(T.pr a b).size=a.size+b.size:=rfl;obtain⟨x,l,q,p,hw⟩:=j 0 f rfl;rw[h'.1.1,h'.1.2.1] at l;obtain⟨y1,A,g1⟩:=c a _ _ _ h'.1.2.2 l q p hw;obtain⟨y2,C,g2⟩:=UU c b (g::fs) (o+a.size) h'.2 AA (fun i f hf=>j (i+1) f hf);refine⟨(y1,y2),⟨_,_,?_,A,C⟩,fun N z=>⟨g1 N z,g2 N z⟩⟩;rw[<-List.drop_drop,List.take_append_drop]
 |.u8,f::g::fs,o,h,_,_|.u32,f::g::fs,o,h,_,_|.u64,f::g::fs,o,h,_,_|.i8,f::g::fs,o,h,_,_|.i64,f::g::fs,o,h,_,_|.bool,f::g::fs,o,h,_,_|.sl _,f::g::fs,o,h,_,_|.str,f::g::fs,o,h,_,_|.ex,f::g::fs,o,h,_,_|.rf _,f::g::fs,o,h,_,_=>by simp[okF] at h
theorem da {w:World} {a:Addr} {v:Value} (h:w.cell? a=some v):a.spot=none/\a.block<w.heap.size:=by
 unfold World.cell? at h
 split at h
 ·rename_i c e l b
  refine⟨?_,(Array.getElem?_eq_some_iff.1 b).1⟩;cases g:a.spot with
  | none=>rfl
  | some x=>simp[g] at h
 simp at h
theorem Oz {a:Addr} (h:a.spot=none) (i:Nat):a.add i=⟨a.block,a.off+i,none⟩:=by
 unfold Addr.add;cases a;simp only at h;subst h
 split <;> simp_all
theorem Zp {α:Type} {p:Nat->α->Prop}:∀(n:Nat),(∀i,i<n->∃x,p i x)->∃l:List α,l.length=n/\∀i x,l[i]? =some x->p i x
 | 0,_=>⟨[],rfl,fun i x h=>by simp at h⟩
 | n+1,h=>by
  obtain⟨l,c,m⟩:=Zp n fun i g=>h i AA
  obtain⟨x,q⟩:=h n AA;refine⟨l++[x],by simp[c],fun i y b=>?_⟩
  by_cases g:i<n
  ·rw[List.getElem?_append_left AA] at b;exact m i y b
  rw[List.getElem?_append_right AA] at b
  have:i=n:=by
   apply Classical.byContradiction;intro j;rw[List.getElem?_eq_none (by simp;omega)] at b;simp at b
  subst this;rw[c,Nat.sub_self] at b;simp at b;subst b;exact q
theorem Zw {H:Type} {P:Program} {e:TypeId} {d:DataW H} {q:Nat}:∀{l:List (DataW H)},d∈l->q∈d.weights P e->q∈DataW.weightsAll P e l
 | [],h,_=>by simp at h
 | a::l,h,b=>by
  rw[DataW.weightsAll,List.mem_append];rcases List.mem_cons.1 h with rfl | h
  ·exact .inl b
  exact .inr (Zw h b)
theorem Zx {H:Type} {P:Program} {q:Nat}:∀{ts:List TypeId} {l:List (DataW H)} (i:Nat) (t:TypeId) (d:DataW H),ts[i]? =some t->l[i]? =some d->q∈d.weights P t->q∈DataW.weightsEach P ts l
 |[],_,i,t,d,h,_,_|_::_,[],i,t,d,_,h,_=>by simp at h
 | u::ts,a::l,0,t,d,h,h',b=>by
  rw[DataW.weightsEach,List.mem_append];simp at h h';subst h;subst h';exact .inl b
 | u::ts,a::l,i+1,t,d,h,h',b=>by
  rw[DataW.weightsEach,List.mem_append];exact .inr (Zx i t d h h' b)
theorem af {H:Type} {enc:TypeId×Value->H} {P:Program} {w:World} {base:Nat} {sp:Nat->Bool} {hd:Bool} {e:T} {u t:TypeId} (hu:P.underlying t=some (.slice u)) (S:P.cellsOf u=e.size) (Q:0<P.bytesOf u) {B:DataW H->Nat} (hB:LF B)
  {n:Nat} {cs:List Value} {x:DataW H×List MemPlace} (hx:DataW.trod enc P w base sp hd n t cs=some x) (hw:∀k∈x.1.weights P t,k<=reachBytes)
  (U:∀(n:Nat) (cs:List Value) (z:DataW H×List MemPlace),SizeOf.sizeOf z.1<SizeOf.sizeOf x.1->DataW.trod enc P w base sp hd n u cs=some z->(∀k∈z.1.weights P u,k<=reachBytes)->∃y:el e,rep w (fun _ b=>b<w.heap.size) e y cs/\∀N,B z.1<=N->HN N e y):
  ∃y:el (.sl e),rep w (fun _ b=>b<w.heap.size) (.sl e) y cs/\∀N,B x.1<=N->HN N (.sl e) y:=by
 rcases open_slice hu hx with⟨rfl,rfl⟩ |⟨a,len,cap,k,j,D,Pl,rfl,hb,W,a5,hk,m,F⟩
 ·exact⟨[],⟨none,0,rfl,Nat.le_refl _,Nat.zero_le _,.inl rfl⟩,fun _ _=>⟨Nat.zero_le _,fun _ h=>by cases h⟩⟩
 have a7:len<=k:=by rw[hk];split <;> omega
 rw[S] at F;have A:=congrArg Prod.fst m;simp only at A;rw[m] at hw
 have Z:∀i,i<len->SizeOf.sizeOf (D i)<SizeOf.sizeOf x.1:=fun i F=>by
  have c:=List.sizeOf_lt_of_mem (List.mem_map.2 ⟨i,List.mem_range.2 F,rfl⟩:D i∈(List.range len).map D);rw[m];simp only[DataW.slice.sizeOf_spec];omega
 have M:DataW.weights P t (DataW.slice ((List.range len).map D) ((List.range (k-len)).map fun j=>D (len+j)))=(((List.range len).map D).length+((List.range (k-len)).map fun j=>D (len+j)).length)*P.bytesOf u::(DataW.weightsAll P u ((List.range len).map D)++DataW.weightsAll P u ((List.range (k-len)).map fun j=>D (len+j))):=by
  unfold DataW.weights;rw[hu]
 have L:len<=140737488355328:=by
  have:=hw _ (by rw[M];exact List.mem_cons_self);simp only[List.length_map,List.length_range] at this;have h3:len<=(len+(k-len))*P.bytesOf u:=Nat.le_trans (Nat.le_add_right _ _) (Nat.le_mul_of_pos_right _ Q);have h4:reachBytes<=140737488355328:=AE
  omega
 have hs:=T.size_pos e
 have O:0<len->a.spot=none:=fun G=>by
  obtain⟨us,R,ht⟩:=F 0 AA;obtain⟨_,hlen,g⟩:=World.cells?_some R;have G:=g 0 hs;rw[List.getElem?_eq_getElem AA,Nat.zero_mul] at G;have c:=(da G).1;unfold Addr.add at c;simpa using c
 obtain⟨l,hl,Y⟩:=Zp (α:=el e) (p:=fun i y=>(∀N,B x.1<=N->HN (N-1) e y)/\∃us,rep w (fun _ b=>b<w.heap.size) e y us/\a.spot=none/\a.block<w.heap.size/\w.rangeAt a.block (a.off+i*e.size) us) len (fun i K=>by
  obtain⟨us,R,ht⟩:=F i AA;obtain⟨y,hy,a1⟩:=U _ _ _ (Z i AA) ht (fun q J=>hw q (by rw[M];exact List.mem_cons_of_mem _ (List.mem_append_left _ (Zw (List.mem_map.2 ⟨i,List.mem_range.2 K,rfl⟩) J))));obtain⟨_,hlen,g⟩:=World.cells?_some R;have G:=g 0 hs;rw[List.getElem?_eq_getElem AA] at G;have c:=da G;have ha:a.spot=none:=O AA
  have C:a.block<w.heap.size:=by
   have:=c.2;rw[Oz ha,Oz rfl] at this;exact this
  refine⟨y,fun N J=>a1 (N-1) (by show B (D i)<=N-1;have h5:=hB.el ((List.range len).map D) ((List.range (k-len)).map fun j=>D (len+j)) _ (List.mem_map.2 ⟨i,List.mem_range.2 K,rfl⟩);rw[<-A] at h5;omega),us,hy,ha,C,fun j v V=>?_⟩
  have a6:j<us.length:=by
   apply Classical.byContradiction;intro hn;rw[List.getElem?_eq_none AA] at V;simp at V
  have:=g j AA;rw[Oz ha,Oz rfl] at this;rw[this];exact V)
 subst hl;refine⟨l,⟨some a,cap,rfl,W,L,?_⟩,fun N J=>⟨?_,fun z hz=>?_⟩⟩
 rotate_left
 ·have c:=hB.len ((List.range l.length).map D) ((List.range (k-l.length)).map fun j=>D (l.length+j));rw[List.length_map,List.length_range] at c;rw[m] at J;exact Nat.le_trans c J
 ·obtain⟨i,F⟩:=List.mem_iff_getElem?.1 hz;exact (Y i z F).1 N J
 cases l with
 | nil=>exact .inl rfl
 | cons y l=>
  right
  obtain⟨_,_,_,ha,C,_⟩:=Y 0 y rfl;obtain⟨ab,ao,a2⟩:=a;simp only at ha;subst ha;exact⟨ab,ao,rfl,C,fun i z hz=>by obtain⟨_,us,c,_,_,h2⟩:=Y i z hz;exact⟨us,c,h2⟩⟩
theorem ae {H:Type} {enc:TypeId×Value->H} {P:Program} {w:World} {base:Nat} {sp:Nat->Bool} {j:Bool} {t:TypeId} {fs:Array Field} (hu:P.underlying t=some (.struct fs)) {B:DataW H->Nat} (l:LF B)
  {n:Nat} {cs:List Value} {x:DataW H×List MemPlace} (p:DataW.trod enc P w base sp j n t cs=some x) (hw:∀k∈x.1.weights P t,k<=reachBytes):
  ∃n',cs.length=P.cellsOf t/\∀(i:Nat) (f:Field),fs.toList[i]? =some f->∃z,DataW.trod enc P w base sp j n' f.type ((cs.drop f.offset).take (P.cellsOf f.type))=some z/\SizeOf.sizeOf z.1<SizeOf.sizeOf x.1/\
   B z.1<B x.1/\∀k∈z.1.weights P f.type,k<=reachBytes:=by
 obtain⟨xs,n',_,c,h,u,hf⟩:=DataW.trod_struct hu p;refine⟨n',h,fun i f g=>?_⟩;have b:fs[i]? =some f:=by rw[<-Array.getElem?_toList];exact g
 have y:i<fs.size:=(Array.getElem?_eq_some_iff.1 b).1;refine⟨xs[i]'AA,?_,?_,?_,fun q m=>hw q ?_⟩
 ·rw[hf i f b];exact List.getElem?_eq_getElem AA
 ·have v:=List.sizeOf_lt_of_mem (List.mem_map.2 ⟨xs[i]'AA,List.getElem_mem _,rfl⟩:(xs[i]'AA).1∈xs.map (·.1));rw[c];simp only[DataW.agg.sizeOf_spec];omega
 ·rw[c];exact l.agg _ _ (List.mem_map.2 ⟨xs[i]'AA,List.getElem_mem _,rfl⟩)
 rw[c]
 have e:DataW.weights P t (DataW.agg (xs.map (·.1)))=DataW.weightsEach P (fs.toList.map (·.type)) (xs.map (·.1)):=by
  unfold DataW.weights;rw[hu]
 rw[e];exact Zx i f.type (xs[i]'AA).1 (by rw[List.getElem?_map,g];rfl) (by rw[List.getElem?_map,List.getElem?_eq_getElem AA];rfl) m
theorem pS {w:World} {I:PI} {y:el JX} {vs:List Value} (h:rep w I JX y vs):Hx w I (.mk y.1 y.2.1 y.2.2.1 y.2.2.2) vs:=by
 have b:=(GK (Jk w I) JX y vs).1 h;exact (GK (Jk w I) .ex (.mk y.1 y.2.1 y.2.2.1 y.2.2.2) vs).2 b
theorem aa {H:Type} {enc:TypeId×Value->H} {P:Program} {w:World} {base:Nat} {sp:Nat->Bool} {L:Bool} {t:TypeId} {fs:Array Field} {ok:T->TypeId->Bool} (hu:P.underlying t=some (.struct fs))
  (c:okF P (MF P ok t) JX fs.toList 0=true) (g:P.cellsOf t=7) (h:0<P.bytesOf t) {B:DataW H->Nat} (D:LF B)
  (l:∀(T:T) (t:TypeId) (cs:List Value) (x:DataW H×List MemPlace) (n:Nat),ok T t=true->DataW.trod enc P w base sp L n t cs=some x->(∀k∈x.1.weights P t,k<=reachBytes)->∃y:el T,rep w (fun _ b=>b<w.heap.size) T y cs/\∀N,B x.1<=N->HN N T y):
  ∀(k n:Nat) (cs:List Value) (x:DataW H×List MemPlace),SizeOf.sizeOf x.1<k->DataW.trod enc P w base sp L n t cs=some x->(∀k∈x.1.weights P t,k<=reachBytes)->∃y:el .ex,rep w (fun _ b=>b<w.heap.size) .ex y cs/\∀N,B x.1<=N->HN N .ex y
 | 0,_,_,_,V,_,_=>AA
 | k+1,n,cs,x,V,Y,hw=>by
  obtain⟨n',F,j⟩:=ae hu D Y hw
  have p:0<B x.1:=by
   cases M:fs.toList with
   | nil=>rw[M] at c;simp[okF] at c
   | cons f r=>obtain⟨z,_,_,A,_⟩:=j 0 f (by rw[M];rfl);exact Nat.lt_of_le_of_lt (Nat.zero_le _) A
  obtain⟨y,Q,J⟩:=UU (w:=w) (n:=n') (m:=SizeOf.sizeOf x.1) (cs:=cs) (ok:=MF P ok t) (B:=B) (Z:=fun N=>B x.1<=N) (fun τ u cs z ho A hs O v=>by
   unfold MF at ho
   split at ho
   ·split at ho
    ·rename_i e he
     simp only[beq_iff_eq] at ho;subst ho;obtain⟨y,g1,g2⟩:=af he (by rw[g];rfl) h D A v fun n2 C z2 W K G=>aa hu c g h D l k n2 C z2 AA K G
     exact⟨y,g1,fun N q=>g2 N (O N q)⟩
    cases ho
   obtain⟨y,g1,g2⟩:=l _ _ _ _ _ ho A v;exact⟨y,g1,fun N q=>g2 N (O N q)⟩) JX fs.toList 0 c (by rw[F,g];rfl) (fun i f hf=>by
   obtain⟨z,R,S,h3,U⟩:=j i f hf;exact⟨z,R,S,fun N q=>Nat.le_trans (Nat.le_of_lt h3) q,U⟩)
  rw[List.drop_zero] at Q;refine⟨_,pS Q,fun N q=>?_⟩;have:=J N q;cases N with
  | zero=>have:=p;omega
  | succ N=>exact .mk N _ this.2.1.1.2.1 this.2.1.2.2.1 this.2.2.1 this.2.2.2.1 this.2.2.2.2
theorem Qb {H:Type} {enc:TypeId×Value->H} {P:Program} {w:World} {base:Nat} {sp:Nat->Bool} {J:Bool} {B:DataW H->Nat} (j:LF B):
  ∀(m:Nat) (T:T) (t:TypeId),F3 P m T t=true->∀(n:Nat) (cs:List Value) (x:DataW H×List MemPlace),DataW.trod enc P w base sp J n t cs=some x->(∀k∈x.1.weights P t,k<=reachBytes)->
   ∃y:el T,rep w (fun _ b=>b<w.heap.size) T y cs/\∀N,B x.1<=N->HN N T y
 | 0,_,_,h,_,_,_,_,_=>by simp[F3] at h
 | m+1,.u8,t,h,n,cs,x,c,hw=>by
  obtain⟨v,rfl,rfl,g⟩:=DataW.trod_int (IB h) c;have hb:(0:Int)<=v/\v<=255:=Vg g;refine⟨UInt8.ofNat v.toNat,?_,fun _ _=>trivial⟩
  show [Value.int .u8 v]=[Value.int .u8 _]
  rw[UInt8.toNat_ofNat'];congr 2;omega
 | m+1,.u32,t,h,n,cs,x,c,hw=>by
  obtain⟨v,rfl,rfl,g⟩:=DataW.trod_int (IB h) c;have hb:(0:Int)<=v/\v<=4294967295:=Vg g;refine⟨UInt32.ofNat v.toNat,?_,fun _ _=>trivial⟩
  show [Value.int .u32 v]=[Value.int .u32 _]
  rw[UInt32.toNat_ofNat'];congr 2;omega
 | m+1,.u64,t,h,n,cs,x,c,hw=>by
  obtain⟨v,rfl,rfl,g⟩:=DataW.trod_int (IB h) c;have hb:(0:Int)<=v/\v<=18446744073709551615:=Vg g;refine⟨UInt64.ofNat v.toNat,?_,fun _ _=>trivial⟩
  show [Value.int .u64 v]=[Value.int .u64 _]
  rw[UInt64.toNat_ofNat'];congr 2;omega
 | m+1,.i8,t,h,n,cs,x,c,hw=>by
  obtain⟨v,rfl,rfl,g⟩:=DataW.trod_int (IB h) c;exact⟨v,rfl,fun _ _=>trivial⟩
 | m+1,.i64,t,h,n,cs,x,c,hw=>by
  obtain⟨v,rfl,rfl,g⟩:=DataW.trod_int (IB h) c;exact⟨v,rfl,fun _ _=>trivial⟩
 | m+1,.bool,t,h,n,cs,x,c,hw=>by
  have h':(match P.underlying t with | some .bool=>true | _=>false)=true:=h
  split at h'
  ·rename_i e
   obtain⟨v,rfl,rfl⟩:=DataW.trod_bool e c;exact⟨v,rfl,fun _ _=>trivial⟩
  simp at h'
 | m+1,.sl e,t,h,n,cs,x,c,hw=>by
  have h':(match P.underlying t with | some (.slice u)=>F3 P m e u&&(P.cellsOf u==e.size&&decide (0<P.bytesOf u)) | _=>false)=true:=h
  split at h'
  ·rename_i u hu
   simp only[Bool.and_eq_true,beq_iff_eq,decide_eq_true_eq] at h';exact af hu h'.2.1 h'.2.2 j c hw fun n cs z _ C l=>Qb j m e u h'.1 n cs z C l
  simp at h'
 | m+1,.str,t,h,n,cs,x,c,hw=>by
  have h':(match P.underlying t with | some .string=>true | _=>false)=true:=h
  split at h'
  ·rename_i e
   obtain⟨v,rfl,rfl,_⟩:=DataW.trod_string e c;exact⟨v,rfl,fun N q=>Nat.le_trans (by have:=j.str v.data.toList;rw[Array.length_toList] at this;exact this) q⟩
  simp at h'
 | m+1,.rf _,t,h,n,cs,x,c,hw=>by cases (show false=true from h)
 | m+1,.ex,t,h,n,cs,x,c,hw=>by
  have h':(match P.underlying t with | some (.struct fs)=>okF P (MF P (F3 P m) t) JX fs.toList 0&&(P.cellsOf t==7&&decide (0<P.bytesOf t)) | _=>false)=true:=h
  split at h'
  ·rename_i fs hu
   simp only[Bool.and_eq_true,beq_iff_eq,decide_eq_true_eq] at h';exact aa hu h'.1 h'.2.1 h'.2.2 j (fun T t cs x n ho c hw=>Qb j m T t ho n cs x c hw) _ n cs x (Nat.lt_succ_self _) c hw
  simp at h'
 | m+1,.pr a b,t,h,n,cs,x,c,hw=>by
  have h':(match P.underlying t with | some (.struct fs)=>okF P (F3 P m) (.pr a b) fs.toList 0&&P.cellsOf t==a.size+b.size | _=>false)=true:=h
  split at h'
  ·rename_i fs hu
   simp only[Bool.and_eq_true,beq_iff_eq] at h';obtain⟨n',p,A⟩:=ae hu j c hw
   have:=UU (w:=w) (n:=n') (m:=SizeOf.sizeOf x.1) (cs:=cs) (ok:=F3 P m) (B:=B) (Z:=fun N=>B x.1<=N) (fun T t cs z ho C _ K l=>by
    obtain⟨y,g1,g2⟩:=Qb j m T t ho n' cs z C l;exact⟨y,g1,fun N q=>g2 N (K N q)⟩) (.pr a b) fs.toList 0 h'.1 (by rw[p,h'.2,Nat.zero_add];rfl) (fun i f hf=>by
    obtain⟨z,D,F,h3,G⟩:=A i f hf;exact⟨z,D,F,fun N q=>Nat.le_trans (Nat.le_of_lt h3) q,G⟩)
   exact this
  simp at h'
end Go.Abs
namespace Go.Abs
open Go.RowKit Go.ChangeShapes Go.WideShapes Go.Deep
def HL:List T->Type
 | []=>PUnit
 | t::ts=>el t×HL ts
def SF:(ts:List T)->HL ts->List AV
 | [],_=>[]
 | t::ts,x=>XT t x.1::SF ts x.2
def IK (P:Program):List T->List TypeId->Bool
 | [],[]=>true
 | τ::τs,t::ts=>(F3 P 20 τ t&&(P.readableRec t&&decide (t<P.types.size)))&&IK P τs ts
 | _,_=>false
theorem KT {v:Value} {c:Value} (h:v.cells.toList=[c]) (b:v.oneCell'=true):v=c:=by
 rw[Qa b] at h;simpa using h
theorem pQ {P:Program} {w:World} {I:PI} {r:Reach} {b:Nat} {m:Nat}:∀{τ:T} {t:TypeId} {v:Value} {y:el τ},F3 P (m+1) τ t=true->Value.okWide P w r b t v->rep w I τ y v.cells.toList->CP (Jk w I) (XT τ y) v
 | .u8,t,v,y,h,j,g=>by
  obtain⟨n,rfl⟩:=okWide_int (IB h) j;exact .inr (KT g rfl)
 | .u32,t,v,y,h,j,g=>by
  obtain⟨n,rfl⟩:=okWide_int (IB h) j;exact .inr (KT g rfl)
 | .u64,t,v,y,h,j,g=>by
  obtain⟨n,rfl⟩:=okWide_int (IB h) j;exact .inr (KT g rfl)
 | .i8,t,v,y,h,j,g=>by
  obtain⟨n,rfl⟩:=okWide_int (IB h) j;exact .inr (KT g rfl)
 | .i64,t,v,y,h,j,g=>by
  obtain⟨n,rfl⟩:=okWide_int (IB h) j;exact .inr (KT g rfl)
 | .bool,t,v,y,h,j,g=>by
  have h':(match P.underlying t with | some .bool=>true | _=>false)=true:=h
  split at h'
  ·rename_i e
   obtain⟨n,rfl⟩:=okWide_bool e j;exact .inr (KT g rfl)
  simp at h'
 | .str,t,v,y,h,j,g=>by
  have h':(match P.underlying t with | some .string=>true | _=>false)=true:=h
  split at h'
  ·rename_i e
   obtain⟨n,rfl⟩:=okWide_string e j;exact .inr (KT g rfl)
  simp at h'
 | .rf _,t,v,y,h,j,g=>by cases (show false=true from h)
 | .ex,t,v,y,h,j,g=>by
  have h':(match P.underlying t with | some (.struct fs)=>okF P (MF P (F3 P m) t) JX fs.toList 0&&(P.cellsOf t==7&&decide (0<P.bytesOf t)) | _=>false)=true:=h
  split at h'
  ·rename_i fs hu
   obtain⟨cs,rfl,_⟩:=okWide_struct hu j;exact⟨cs,rfl,(GK (Jk w I) _ _ _).1 g⟩
  simp at h'
 | .sl e,t,v,y,h,j,g=>by
  have h':(match P.underlying t with | some (.slice u)=>F3 P m e u&&(P.cellsOf u==e.size&&decide (0<P.bytesOf u)) | _=>false)=true:=h
  split at h'
  ·rename_i u hu
   obtain⟨a,l,c,rfl⟩:=okWide_slice hu j;exact .inr g
  simp at h'
 | .pr a b',t,v,y,h,j,g=>by
  have h':(match P.underlying t with | some (.struct fs)=>okF P (F3 P m) (.pr a b') fs.toList 0&&P.cellsOf t==a.size+b'.size | _=>false)=true:=h
  split at h'
  ·rename_i fs hu
   obtain⟨cs,rfl,_⟩:=okWide_struct hu j;exact⟨cs,rfl,(GK (Jk w I) _ _ _).1 g⟩
  simp at h'
theorem XP {H:Type} {enc:TypeId×Value->H} {P:Program} (u:laidOutB P=true) {W n:World} (hb:Below W.heap.size W n):∀(c:List T) (ts:List TypeId) (vs:List Value) (j:List (DataW H)) (l:List MemPlace),IK P c ts=true->
  DataW.TrodAll enc P W 0 (fun _=>true) true ts vs j l->(∀p∈l,p.block<W.heap.size)->DataW.TrodAll enc P n 0 (fun b=>decide (b<W.heap.size)) true ts vs j l
 | [],[],[],[],_,_,h,_=>h
 | τ::c,t::ts,v::vs,d::j,l,h,⟨p,q,y,z,e⟩,g=>by
  have h':((F3 P 20 τ t&&(P.readableRec t&&decide (t<P.types.size)))&&IK P c ts)=true:=h;simp only[Bool.and_eq_true,decide_eq_true_eq] at h';subst e;exact⟨p,q,Below.trod u h'.1.2.1 h'.1.2.2 y hb (fun x m=>g x (List.mem_append_left _ m)),XP u hb c ts vs j q h'.2 z (fun x m=>g x (List.mem_append_right _ m)),rfl⟩
 |[],t::ts,_,_,_,h,_,_|_::_,[],_,_,_,h,_,_=>by simp[IK] at h
 |[],[],[],_::_,_,_,h,_|[],[],_::_,_,_,_,h,_|_::_,_::_,[],_,_,_,h,_|_::_,_::_,_::_,[],_,_,h,_=>h.elim
def Pz:(t:T)->el t->Prop
 | .i64,n=>EF n
 | .pr a b,x=>Pz a x.1/\Pz b x.2
 | _,_=>True
def TM:(ts:List T)->HL ts->Prop
 | [],_=>True
 | t::ts,x=>Pz t x.1/\TM ts x.2
def VE:(ts:List T)->HL ts->Prop
 | [],_=>True
 | t::ts,x=>HN 1048576 t x.1/\VE ts x.2
theorem SU {P:Program} {w:World} {r:Reach} {b:Nat} {u:TypeId} {n:Int} (h:Cell.okWide P w r b u (.int .i64 n)):EF n:=by
 cases hu:P.underlying u with
 | none=>simp[Cell.okWide,Cell.ok,hu] at h
 | some d=>
  cases d <;> simp[Cell.okWide,Cell.ok,hu] at h
  obtain⟨rfl,c,g⟩:=h;have e1:IntKind.i64.min= -9223372036854775808:=rfl;have e2:IntKind.i64.max=9223372036854775807:=rfl;unfold EF;omega
theorem jz {P:Program} {w:World} {r:Reach} {b:Nat} {t:TypeId} {v:Value} (h:Value.okWide P w r b t v):∀n,Value.int .i64 n∈v.cells.toList->EF n:=by
 intro n c;unfold Value.okWide at h
 split at h
 ·obtain⟨cs,rfl,_,ts,_,_,h3⟩:=h;obtain⟨i,g⟩:=List.mem_iff_getElem?.1 (show Value.int .i64 n∈cs.toList from c);obtain⟨u,_,hu⟩:=h3 i _ (by rw[<-Array.getElem?_toList];exact g);exact SU hu
 ·obtain⟨cs,rfl,_,ts,_,_,h3⟩:=h;obtain⟨i,g⟩:=List.mem_iff_getElem?.1 (show Value.int .i64 n∈cs.toList from c);obtain⟨u,_,hu⟩:=h3 i _ (by rw[<-Array.getElem?_toList];exact g);exact SU hu
 cases v with
 | agg cs=>
  cases hu:P.underlying t with
  | none=>simp[Cell.okWide,Cell.ok,hu] at h
  | some d=>cases d <;> simp[Cell.okWide,Cell.ok,hu] at h
 | int k m=>
  have e:Value.int .i64 n=Value.int k m:=by simpa [Value.cells] using c
  rw[<-e] at h;exact SU h
 | _=>exact absurd c (by simp[Value.cells])
theorem TO {w:World} {I:PI}:∀(t:T) (y:el t) (vs:List Value),rep w I t y vs->(∀n,Value.int .i64 n∈vs->EF n)->Pz t y
 | .i64,y,_,g,h=>h y (by rw[show _=_ from g];exact List.mem_singleton.2 rfl)
 | .pr a b,y,_,g,h=>by
  obtain⟨v1,v2,rfl,j,l⟩:=g;exact⟨TO a _ _ j fun n c=>h n (List.mem_append_left _ c),TO b _ _ l fun n c=>h n (List.mem_append_right _ c)⟩
 |.u8,_,_,_,_|.u32,_,_,_,_|.u64,_,_,_,_|.i8,_,_,_,_|.bool,_,_,_,_|.sl _,_,_,_,_|.str,_,_,_,_|.ex,_,_,_,_|.rf _,_,_,_,_=>trivial
theorem XM {H:Type} {enc:TypeId×Value->H} {P:Program} {w:World} {base:Nat} {B:DataW H->Nat} (D:LF B):∀(c:List T) (ts:List TypeId) (vs:List Value) (g:List (DataW H)) (G:List MemPlace),IK P c ts=true->
  DataW.TrodAll enc P w 0 (fun _=>true) true ts vs g G->(∀(j:Nat) t v,ts[j]? =some t->vs[j]? =some v->Value.okWide P w .any base t v)->(∀k∈DataW.weightsEach P ts g,k<=reachBytes)->(∀d∈g,B d<=1048576)->
   g.length=c.length/\∃xs:HL c,BL (CP (Jk w fun _ b=>b<w.heap.size)) (SF c xs) vs/\TM c xs/\VE c xs
 | [],[],[],[],_,_,_,_,_,_=>⟨rfl,⟨⟩,.nil,trivial,trivial⟩
 | τ::c,t::ts,v::vs,d::g,G,h,⟨p,q,J,K,_⟩,z,hw,l=>by
  have h':((F3 P 20 τ t&&(P.readableRec t&&decide (t<P.types.size)))&&IK P c ts)=true:=h;simp only[Bool.and_eq_true] at h';obtain⟨e,xs,A,M,m⟩:=XM D c ts vs g q h'.2 K (fun j u x hu A=>z (j+1) u x hu A) (fun k l=>hw k (by rw[DataW.weightsEach];exact List.mem_append_right _ l)) (fun d L=>l d (List.mem_cons_of_mem _ L));obtain⟨n,N⟩:=J;obtain⟨y,F,C⟩:=Qb D 20 τ t h'.1.1 n _ _ N (fun k l=>hw k (by rw[DataW.weightsEach];exact List.mem_append_left _ l));exact⟨by simp[e],(y,xs),.cons (pQ h'.1.1 (z 0 t v rfl rfl) F) A,⟨TO _ _ _ F (jz (z 0 t v rfl rfl)),M⟩,C _ (l d List.mem_cons_self),m⟩
 |[],t::ts,_,_,_,h,_,_,_,_|_::_,[],_,_,_,h,_,_,_,_=>by simp[IK] at h
 |[],[],[],_::_,_,_,h,_,_,_|[],[],_::_,_,_,_,h,_,_,_|_::_,_::_,[],_,_,_,h,_,_,_|_::_,_::_,_::_,[],_,_,h,_,_,_=>h.elim
theorem tJ {P:Program} {f:FuncId} {fn:Func} {s:ChangeSpec} {c:List T} {tb:TypeId} (Y:laidOutB P=true) (y:IK P c fn.params.toList=true)
  (G:fn.resultTypes= #[tb]) (L:P.underlying tb=some .bool) (g:s.vars=[])
  (J:∀(H:Type) (l:List (DataW H)),l.length=c.length->s.fn H (l++[])={results:=[.lit (.bool true)],args:=l})
  (Q:∀xs:HL c,TM c xs->VE c xs->Eb P false f (SF c xs) (.one (.bool true)))
  (H:Type) {B:DataW H->Nat} (R:LF B) (enc:TypeId×Value->H) (W:World) (base:Nat) (args:Array Value) (l gs:List (DataW H)) (before:List MemPlace)
  (z:∀(j:Nat) t v,fn.params[j]? =some t->args[j]? =some v->Value.okWide P W .any base t v)
  (O:DataW.Whole enc P fn.params.toList s.vars false W args.toList l gs before)
  (S:JB W fun _ b=>b<W.heap.size)
  (hw:(DataW.weightsEach P (fn.params.toList++s.plain.varTypes P) (l++gs)).all (·<=reachBytes)=true) (D:∀d∈l,B d<=1048576):
  Calls P f args W fun e A=>∃v,e= .returned v/\s.post enc P fn false true false false W args v A:=by
 have n:=O;obtain⟨p,q,m,hV,rfl,V,Z⟩:=O;rw[g] at hV;obtain⟨rfl,rfl⟩:=trodVars_none hV
 have M:s.plain.varTypes P=[]:=by
  unfold DataSpec.varTypes ChangeSpec.plain;simp[g]
 rw[M,List.append_nil,List.append_nil,List.all_eq_true] at hw;obtain⟨hlen,xs,N,C,K⟩:=XM R c fn.params.toList args.toList l p y m (fun j t v ht hv=>z j t v (by rw[<-Array.getElem?_toList];exact ht) (by rw[<-Array.getElem?_toList];exact hv)) (fun k D=>by simpa using hw k D) D;obtain⟨_,_,U⟩:=Q xs C K;have F:∀x∈p,x.block<W.heap.size:=fun x N=>n.lt x (List.mem_append_left _ N)
 refine (U W (fun _ b=>b<W.heap.size) none args.toList (.inr rfl) (fun _ _ h=>⟨h,nofun⟩) S ⟨trivial,trivial⟩ N).mono fun e A ⟨u,bo,he,q,hr,_⟩=>?_
 have hb:Below W.heap.size W A:=⟨q.os,q.tape,q.output,q.size,fun b h=>q.get b h nofun⟩
 have hu:u= .bool true:=by
  rcases hr with h | h
  ·cases h
  exact h
 subst hu;refine⟨_,he,l,[],p++[],[],p,[],n,?_,?_,?_,?_,fun h=>by cases h⟩
 ·rw[G,J H l hlen];exact trodAll_mk1 (shut_bool L true)
 ·rw[J H l hlen];exact XP Y hb c _ _ l p y m F
 ·rw[g,J H l hlen]
  rfl
 exact hb.frame _
end Go.Abs

namespace Go.Abs
def AF:List UInt32->Nat
 | []=>0
 | x::l=>x.toNat+4294967296*AF l
def Jf:Nat->Nat->List UInt32
 | 0,_=>[]
 | f+1,n=>if n=0 then [] else UInt32.ofNat n::Jf f (n/4294967296)
def AT (n:Nat):List UInt32:=Jf n n
variable {k:Nat} {o:List UInt32} {w:UInt32}
theorem Tj:∀(f n:Nat),n<=f->Jf f n=Jf n n
 | 0,n,h=>by rw[(AA:n=0)]
 | f+1,n,h=>by
  cases n with
  | zero=>simp[Jf]
  | succ n=>
   simp only[Jf];rw[Tj f _ AA,Tj n _ AA]
theorem Gb:AT 0=[]:=rfl
theorem Np {n:Nat} (h:n≠0):AT n=UInt32.ofNat n::AT (n/4294967296):=by
 cases n with
 | zero=>exact (h rfl).elim
 | succ n=>
  show Jf (n+1) (n+1)=_
  rw[Jf,if_neg AA,Tj n _ AA]
  rfl
theorem BU (n:Nat):AF (AT n)=n:=by
 induction n using Nat.strongRecOn with
 | ind n b=>
  by_cases h:n=0
  ·subst h;rfl
  rw[Np h,AF,b _ AA];simp[UInt32.toNat_ofNat'];omega
theorem EX (n:Nat):2^(32*(n+1))=4294967296*2^(32*n):=by
 rw[Nat.mul_add,Nat.pow_add,Nat.mul_comm]
theorem QT (a b:List UInt32):AF (a++b)=AF a+2^(32*a.length)*AF b:=by
 induction a with
 | nil=>simp[AF]
 | cons x a c=>
  rw[List.cons_append,AF,AF,c,List.length_cons,EX]
  generalize 2^(32*a.length)=p
  grind
theorem C0 (l:List UInt32):AF l<2^(32*l.length):=by
 induction l with
 | nil=>simp[AF]
 | cons x l b=>
  rw[AF,List.length_cons,EX]
  generalize 2^(32*l.length)=p at*
  have:=x.toNat_lt;omega
theorem GF {n:Nat} (h:n<2^(32*k)):(AT n).length<=k:=by
 induction k generalizing n with
 | zero=>have:n=0:=by simpa using h
         subst this;simp[Gb]
 | succ k c=>
  by_cases b:n=0
  ·subst b;simp[Gb]
  rw[Np b,List.length_cons];rw[EX] at h;have:=c (n:=n/4294967296) AA;omega
theorem Zg {n:Nat} (h:2^(32*k)<=n):k+1<=(AT n).length:=by
 have b:=C0 (AT n);rw[BU] at b;have c:2^(32*k)<2^(32*(AT n).length):=Nat.lt_of_le_of_lt h b;have:=(Nat.pow_lt_pow_iff_right (by decide:1<2)).1 c;omega
theorem Ny {a b:List UInt32} (c:a.length=b.length) (h:AF a=AF b):a=b:=by
 induction a generalizing b with
 | nil=>cases b with
  | nil=>rfl
  | cons _ _=>simp at c
 | cons x a l=>cases b with
  | nil=>simp at c
  | cons y b=>
   simp only[AF] at h;have m:=x.toNat_lt;have n:=y.toNat_lt;have g:x.toNat=y.toNat:=AA
   have j:AF a=AF b:=AA
   rw[UInt32.toNat_inj.1 g,l (by simpa using c) j]
theorem Tk {l:List UInt32} (h:l=[]\/2^(32*(l.length-1))<=AF l):AT (AF l)=l:=by
 rcases h with rfl | h
 ·rfl
 apply Ny _ (BU _);have b:=GF (C0 l);have c:=Zg h;omega
theorem EV {a b:Nat} (h:a<=b:=by omega):(AT a).length<=(AT b).length:=by
 apply GF;have:=C0 (AT b);rw[BU] at this;omega
theorem E3 {n:Nat}:AT n=[]↔n=0:=by
 constructor
 ·intro h;have:=BU n;rw[h] at this;exact this.symm
 rintro rfl;rfl
theorem Zm {n:Nat} (h:n≠0):2^(32*((AT n).length-1))<=n:=by
 apply Classical.byContradiction;intro b;have:=GF (n:=n) (k:=(AT n).length-1) AA;have:AT n≠[]:=fun e=>h (E3.1 e)
 have:(AT n).length≠0:=by simpa using this
 omega
theorem Ei (l:List UInt32) (x:UInt32):AF (l++[x])=AF l+2^(32*l.length)*x.toNat:=by
 rw[QT];simp[AF]
theorem Cu {l:List UInt32} {i:Nat} {x:UInt32} (h:l[i]? =some x):AF (l.take (i+1))=AF (l.take i)+2^(32*i)*x.toNat:=by
 have b:i<l.length:=by
  apply Classical.byContradiction;intro c;rw[List.getElem?_eq_none AA] at h;exact absurd h Ai
 rw[List.take_succ_eq_append_getElem b,Ei];have:l[i]=x:=by simpa [List.getElem?_eq_getElem b] using h
 rw[this,List.length_take,Nat.min_eq_left AA]
theorem Gf (l:List UInt32) (i:Nat) (h:i<=l.length):AF l=AF (l.take i)+2^(32*i)*AF (l.drop i):=by
 conv=>lhs;rw[<-List.take_append_drop i l,QT,List.length_take,Nat.min_eq_left h]
def CR:List UInt32->List UInt32
 | []=>[]
 | x::l=>match CR l with
  | []=>if x=0 then [] else [x]
  | y::r=>x::y::r
theorem J8:∀(l:List UInt32),CR (l++[0])=CR l
 | []=>rfl
 | x::l=>by simp[CR,J8 l]
theorem LA {x:UInt32} (b:x≠0):∀(l:List UInt32),CR (l++[x])=l++[x]
 | []=>by simp[CR,b]
 | y::l=>by
  rw[List.cons_append,CR,LA b l];cases l <;> rfl
theorem Ma (l:List UInt32):CR l=AT (AF l):=by
 induction l with
 | nil=>rfl
 | cons x l c=>
  rw[CR,c,AF];have g:=x.toNat_lt
  by_cases h:AF l=0
  ·rw[h,Gb]
   by_cases b:x=0
   ·subst b;simp[Gb]
   have:x.toNat≠0:=fun e=>b (UInt32.toNat_inj.1 e)
   rw[if_neg b,Np AA,(AA:(x.toNat+4294967296*0)/4294967296=0),Gb];simp
  rw[Np (n:=x.toNat+_) AA,(AA:(x.toNat+4294967296*AF l)/4294967296=AF l)];rw[Np h]
  show x::_=_
  congr 1
  apply UInt32.toNat_inj.1;rw[UInt32.toNat_ofNat'];omega
def Je:Nat->Nat->Nat
 | 0,_=>0
 | f+1,n=>if n=0 then 0 else
  let r:=2*Je f (n/4)
  if (r+1)*(r+1)<=n then r+1 else r
def Bk (n:Nat):Nat:=Je n n
theorem TV:∀(f n:Nat),n<=f->Je f n*Je f n<=n/\n<(Je f n+1)*(Je f n+1)
 | 0,n,h=>by rw[(AA:n=0)];decide
 | f+1,n,h=>by
  rw[Je]
  by_cases b:n=0
  ·rw[if_pos b,b];decide
  rw[if_neg b];have:=TV f (n/4) AA
  generalize Je f (n/4)=r at*
  simp only;have e1:(2*r)*(2*r)=4*(r*r):=by grind
  have e2:(2*r+1+1)*(2*r+1+1)=4*((r+1)*(r+1)):=by grind
  split
  ·refine⟨by assumption,?_⟩;rw[e2];omega
  refine⟨?_,AA⟩;rw[e1];omega
theorem Nj (n:Nat):Bk n*Bk n<=n:=(TV n n (Nat.le_refl _)).1
theorem QI (n:Nat):n<(Bk n+1)*(Bk n+1):=(TV n n (Nat.le_refl _)).2
theorem ZU {n r:Nat} (c:r*r<=n) (g:n<(r+1)*(r+1)):Bk n=r:=by
 have h3:=Nj n;have h:=QI n
 generalize Bk n=s at*
 have a:s<r+1:=Nat.mul_self_lt_mul_self_iff.1 AA;have b:r<s+1:=Nat.mul_self_lt_mul_self_iff.1 AA;omega
theorem Dv {l:List UInt32} {i:Nat} (h:l.length<=i):AF (l.take i)=AF l:=by rw[List.take_of_length_le h]
theorem PL {A B c xi yi i s:Nat} (ho:o.length=i) (h:AF o+2^(32*i)*c=A+B) (b:s=c+xi+yi) (hw:w.toNat=s%4294967296):
  AF (o++[w])+2^(32*(i+1))*(s/4294967296)=(A+2^(32*i)*xi)+(B+2^(32*i)*yi):=by
 rw[Ei,EX,ho,hw]
 generalize 2^(32*i)=P at*
 have:s%4294967296+4294967296*(s/4294967296)=s:=AA
 have e:P*(s%4294967296)+4294967296*P*(s/4294967296)=P*s:=by rw[<-this];grind
 subst b
 grind
theorem SR (hw:w.toNat≠0):AT (AF (o++[w]))=o++[w]:=by
 apply Tk
 right
 rw[Ei,List.length_append];have:2^(32*o.length)*1<=2^(32*o.length)*w.toNat:=Nat.mul_le_mul_left _ AA;simp;omega
theorem Xr {p q:Nat} (h:AF o=p+q) (b:o.length=(AT p).length):o=AT (p+q):=by
 rw[<-h];refine (Tk ?_).symm
 by_cases c:p=0
 ·left
  subst c;simpa [Gb] using b
 right
 have:=Zm c;rw[b];omega
theorem Iv (n:Nat):AF (List.replicate n 0)=0:=by
 induction n with
 | zero=>rfl
 | succ n b=>rw[List.replicate_succ,AF,b];rfl
theorem VU:∀(l:List UInt32),l.take (CR l).length=CR l
 | []=>rfl
 | x::l=>by
  have c:=VU l;rw[CR];cases h:CR l with
  | nil=>
   by_cases b:x=0
   ·simp[b]
   simp[b]
  | cons y r=>
   rw[h] at c;simpa using c
theorem RD (l:List UInt32):(CR l).length<=l.length:=by
 rw[<-VU,List.length_take];omega
theorem FA {l:List UInt32} {n m:Nat} (g:n<=l.length) (hm:m=(CR (l.take n)).length):m<=n/\l.take m=AT (AF (l.take n)):=by
 have c:=RD (l.take n);rw[List.length_take] at c;have b:=VU (l.take n);rw[<-hm,List.take_take,Nat.min_eq_left AA] at b;exact⟨AA,by rw[b,Ma]⟩
end Go.Abs
namespace Go.Abs
variable {B d:Rat}
theorem pJ (e:Rat):e=e.num/e.den:=by
 have h:=Rat.mkRat_self e;rw[Rat.mkRat_eq_div] at h;exact h.symm
theorem MM (e:Rat):e*e.den=e.num:=by
 have h:(e.den:Rat)≠0:=by
  intro h;exact e.den_nz (Rat.natCast_eq_zero_iff.1 h)
 have:=pJ e
 grind
theorem pK {e:Rat} (h:0<e):0<e.num:=by
 have:=(Rat.lt_iff 0 e).1 h;simpa using this
theorem L7 {a e:Rat} (c:a<=B) (g: -B<=a) (h3:d<=e) (h: -e<=d):a*d<=B*e:=by
 have p:=Rat.mul_nonneg (a:=B-a) (b:=e+d) (by grind) (by grind);have q:=Rat.mul_nonneg (a:=B+a) (b:=e-d) (by grind) (by grind)
 grind
theorem nr {a e:Rat} (c:a<=B) (g: -B<=a) (h3:d<=e) (b: -e<=d): -(B*e)<=a*d:=by
 have:=L7 (a:= -a) (d:=d) (B:=B) (e:=e) (by grind) (by grind) h3 b
 grind
structure CS where
 f:Nat->Rat
 H3:∀e:Rat,0<e->∃N,∀n m,N<=n->N<=m->f n-f m<e
namespace CS
def eqv (a b:CS):Prop:=∀e:Rat,0<e->∃N,∀n,N<=n->a.f n-b.f n<e/\b.f n-a.f n<e
theorem kt (a:CS):eqv a a:=fun e he=>⟨0,fun n _=>by grind⟩
theorem Yg {a b:CS} (h:eqv a b):eqv b a:=fun e he=>by
 obtain⟨N,c⟩:=h e he;exact⟨N,fun n g=>⟨(c n g).2,(c n g).1⟩⟩
theorem ku {a b c:CS} (h:eqv a b) (k:eqv b c):eqv a c:=fun e he=>by
 obtain⟨N,j⟩:=h (e/2) (by grind);obtain⟨M,g⟩:=k (e/2) (by grind);refine⟨max N M,fun n l=>?_⟩;have:=j n AA;have:=g n AA
 grind
instance st:Setoid CS:=⟨eqv,kt,Yg,ku⟩
theorem kr {a b:CS} (h:∀n,a.f n=b.f n):a ≈ b:=fun e he=>⟨0,fun n _=>by have:=h n;grind⟩
theorem NI (a:CS):∃B:Rat,0<B/\∃N,∀n,N<=n->a.f n<=B/\ -B<=a.f n:=by
 obtain⟨N,c⟩:=a.H3 1 AE
 have j:0<=max (a.f N) (-(a.f N)):=by
  rcases Rat.le_total (a:=a.f N) (b:= -(a.f N)) with h | h
  ·rw[Rat.max_def,if_pos h];grind
  by_cases h':a.f N<= -(a.f N)
  ·rw[Rat.max_def,if_pos h'];grind
  rw[Rat.max_def,if_neg h'];grind
 have l:a.f N<=max (a.f N) (-(a.f N)):=by rw[Rat.max_def];split <;> grind
 have m: -(a.f N)<=max (a.f N) (-(a.f N)):=by rw[Rat.max_def];split <;> grind
 refine⟨max (a.f N) (-(a.f N))+1,by grind,N,fun n g=>?_⟩;have:=c n N g (Nat.le_refl _);have:=c N n (Nat.le_refl _) g
 grind
def const (q:Rat):CS:=⟨fun _=>q,fun e he=>⟨0,fun n m _ _=>by grind⟩⟩
def add (a b:CS):CS:=⟨fun n=>a.f n+b.f n,fun e he=>by
 obtain⟨N,hN⟩:=a.H3 (e/2) (by grind);obtain⟨M,hM⟩:=b.H3 (e/2) (by grind);refine⟨max N M,fun n m hn hm=>?_⟩;have:=hN n m AA AA;have:=hM n m AA AA
 grind⟩
def neg (a:CS):CS:=⟨fun n=> -a.f n,fun e he=>by
 obtain⟨N,hN⟩:=a.H3 e he;refine⟨N,fun n m hn hm=>?_⟩;have:=hN m n hm hn
 grind⟩
theorem Z1 {x y u v A e:Rat} (n:0<A) (z:0<B) (he:0<e) (h:x<=A) (c: -A<=x) (g:v<=B) (b: -B<=v)
  (j:x-u<e/(2*B)) (l:u-x<e/(2*B)) (h3:y-v<e/(2*A)) (m:v-y<e/(2*A)):x*y-u*v<=e:=by
 have p:=L7 (a:=x) (d:=y-v) (B:=A) (e:=e/(2*A)) h c (by grind) (by grind);have q:=L7 (a:=v) (d:=x-u) (B:=B) (e:=e/(2*B)) g b (by grind) (by grind);have e1:A*(e/(2*A))=e/2:=by grind
 have e2:B*(e/(2*B))=e/2:=by grind
 grind
def mul (a b:CS):CS:=⟨fun n=>a.f n*b.f n,fun e he=>by
 obtain⟨A,hA,N,hN⟩:=a.NI;obtain⟨B,hB,M,hM⟩:=b.NI;have p1:0<(e/2)/(2*B):=by rw[Rat.div_def];exact Rat.mul_pos (by grind) (Rat.inv_pos.2 (by grind))
 have p2:0<(e/2)/(2*A):=by rw[Rat.div_def];exact Rat.mul_pos (by grind) (Rat.inv_pos.2 (by grind))
 obtain⟨P,hP⟩:=a.H3 _ p1;obtain⟨Q,hQ⟩:=b.H3 _ p2;refine⟨max (max N M) (max P Q),fun n m hn hm=>?_⟩;have hn1:=hN n AA;have hm1:=hM m AA;have:=Z1 (e:=e/2) hA hB (by grind) hn1.1 hn1.2 hm1.1 hm1.2 (hP n m AA AA) (hP m n AA AA) (hQ n m AA AA) (hQ m n AA AA)
 grind⟩
theorem add_congr {a b c d:CS} (h:a ≈ c) (k:b ≈ d):add a b ≈ add c d:=fun e he=>by
 obtain⟨N,j⟩:=h (e/2) (by grind);obtain⟨M,g⟩:=k (e/2) (by grind);refine⟨max N M,fun n l=>?_⟩;have:=j n AA;have:=g n AA
 show a.f n+b.f n-(c.f n+d.f n)<e/\c.f n+d.f n-(a.f n+b.f n)<e
 grind
theorem neg_congr {a c:CS} (h:a ≈ c):neg a ≈ neg c:=fun e he=>by
 obtain⟨N,b⟩:=h e he;refine⟨N,fun n g=>?_⟩;have:=b n g
 show -a.f n- -c.f n<e/\ -c.f n- -a.f n<e
 grind
theorem mul_congr {a b c d:CS} (h:a ≈ c) (k:b ≈ d):mul a b ≈ mul c d:=fun e he=>by
 obtain⟨A,u,N,y⟩:=a.NI;obtain⟨B,v,M,x⟩:=d.NI;have D:0<(e/2)/(2*B):=by rw[Rat.div_def];exact Rat.mul_pos (by grind) (Rat.inv_pos.2 (by grind))
 have F:0<(e/2)/(2*A):=by rw[Rat.div_def];exact Rat.mul_pos (by grind) (Rat.inv_pos.2 (by grind))
 obtain⟨P,z⟩:=h _ D;obtain⟨Q,C⟩:=k _ F;refine⟨max (max N M) (max P Q),fun n G=>?_⟩;have j:=y n AA;have g:=x n AA;have l:=z n AA;have m:=C n AA;have t1:=Z1 (e:=e/2) u v (by grind) j.1 j.2 g.1 g.2 l.1 l.2 m.1 m.2;have p:=L7 (a:=a.f n) (d:=d.f n-b.f n) (B:=A) (e:=(e/2)/(2*A)) j.1 j.2 (by grind) (by grind);have q:=L7 (a:=d.f n) (d:=c.f n-a.f n) (B:=B) (e:=(e/2)/(2*B)) g.1 g.2 (by grind) (by grind);have e1:A*((e/2)/(2*A))=e/4:=by grind
 have e2:B*((e/2)/(2*B))=e/4:=by grind
 show a.f n*b.f n-c.f n*d.f n<e/\c.f n*d.f n-a.f n*b.f n<e
 grind
def pos (a:CS):Prop:=∃e:Rat,0<e/\∃N,∀n,N<=n->e<a.f n
theorem bF {a b:CS} (h:a ≈ b) (k:pos a):pos b:=by
 obtain⟨e,he,N,g⟩:=k;obtain⟨M,c⟩:=h (e/2) (by grind);refine⟨e/2,by grind,max N M,fun n j=>?_⟩;have:=g n AA;have:=c n AA
 grind
theorem ox {a b:CS} (h:a ≈ b):pos a=pos b:=propext ⟨bF h,bF (Yg h)⟩
theorem tri (a:CS):a ≈ const 0\/pos a\/pos (neg a):=by
 apply Classical.byContradiction;intro h;apply h;refine .inl fun e he=>?_
 obtain⟨N,b⟩:=a.H3 (e/2) (by grind);refine⟨N,fun n c=>?_⟩
 show a.f n-0<e/\0-a.f n<e
 constructor
 ·apply Classical.byContradiction;intro g;refine h (.inr (.inl ⟨e/4,by grind,N,fun m hm=>?_⟩));have:=b n m c hm
  grind
 apply Classical.byContradiction;intro g;refine h (.inr (.inr ⟨e/4,by grind,N,fun m hm=>?_⟩));have:=b m n hm c
 show e/4< -a.f m
 grind
theorem mX {x y c e:Rat} (j:0<c) (l:c<x) (m:c<y) (he:0<e) (h:x-y<e*(c*c)):y⁻¹-x⁻¹<e:=by
 have g:0<x*y:=Rat.mul_pos (by grind) (by grind);have e1:y⁻¹-x⁻¹=(x-y)*(x*y)⁻¹:=by grind
 have e2:e=e*(x*y)*(x*y)⁻¹:=by grind
 have p:=Rat.mul_nonneg (a:=x-c) (b:=y) (by grind) (by grind);have n:=Rat.mul_nonneg (a:=c) (b:=y-c) (by grind) (by grind);have q:=Rat.mul_nonneg (a:=e) (b:=x*y-c*c) (by grind) (by grind);have r:=Rat.mul_pos (a:=e*(x*y)-(x-y)) (b:=(x*y)⁻¹) (by grind) (Rat.inv_pos.2 g)
 grind
theorem Ni {a:CS} (h:pos a):∃b:CS,mul a b ≈ const 1:=by
 obtain⟨c,j,N,g⟩:=h;refine⟨⟨fun n=>(a.f (max N n))⁻¹,fun e he=>?_⟩,?_⟩
 ·have l:0<c*c:=Rat.mul_pos j j;obtain⟨M,q⟩:=a.H3 (e*(c*c)) (Rat.mul_pos he l);refine⟨M,fun n m p hm=>?_⟩;exact mX j (g _ AA) (g _ AA) he (q _ _ AA AA)
 intro e he;refine⟨N,fun n p=>?_⟩;have:=g n p;have u:a.f n*(a.f (max N n))⁻¹=1:=by rw[Nat.max_eq_right p];grind
 show a.f n*(a.f (max N n))⁻¹-1<e/\1-a.f n*(a.f (max N n))⁻¹<e
 grind
theorem mul_pos {a b:CS} (h:pos a) (k:pos b):pos (mul a b):=by
 obtain⟨c,m,N,l⟩:=h;obtain⟨d,g,M,j⟩:=k;refine⟨c*d,Rat.mul_pos m g,max N M,fun n x=>?_⟩;have u:=l n AA;have v:=j n AA;have p:=Rat.mul_pos (a:=a.f n-c) (b:=d) (by grind) g;have q:=Rat.mul_pos (a:=a.f n) (b:=b.f n-d) (by grind) (by grind)
 show c*d<a.f n*b.f n
 grind
theorem add_pos {a b:CS} (h:pos a) (k:pos b):pos (add a b):=by
 obtain⟨c,p,N,j⟩:=h;obtain⟨d,q,M,g⟩:=k;refine⟨c+d,by grind,max N M,fun n u=>?_⟩;have l:=j n AA;have m:=g n AA
 show c+d<a.f n+b.f n
 grind
theorem oL {a:CS} (h:pos a):¬pos (neg a):=by
 rintro⟨d,n,M,b⟩
 obtain⟨c,m,N,g⟩:=h;have j:=g (max N M) AA;have l:d< -a.f (max N M):=b (max N M) AA
 grind
theorem oM:¬pos (const 0):=by
 rintro⟨d,g,M,b⟩
 have c:d<0:=b M AA
 grind
theorem MJ (k:Nat):(0:Rat)<2^k:=Rat.pow_pos AE
theorem MI (k:Nat):(0:Rat)<(2^k)⁻¹:=Rat.inv_pos.2 (MJ k)
theorem oB (k:Nat):(k:Rat)<2^k:=by
 have:=Nat.lt_two_pow_self (n:=k);have h:((k:Nat):Rat)<((2^k:Nat):Rat):=Rat.natCast_lt_natCast.2 this;simpa using h
theorem small (e:Rat) (he:0<e):∃N:Nat,∀n:Nat,N<=n->((2:Rat)^n)⁻¹<e:=by
 refine⟨e.den,fun n l=>?_⟩;have m:=oB n;have p:(e.den:Rat)<=(n:Rat):=Rat.natCast_le_natCast.2 l
 have h3:1<=e*e.den:=by
  have:e*e.den=e.num:=MM e;rw[this];have h:0<e.num:=pK he;have g:((1:Int):Rat)<=e.num:=Rat.intCast_le_intCast.2 h;exact g
 have g:=MJ n;have h:=Rat.mul_lt_mul_of_pos_left (a:=(e.den:Rat)) (b:=2^n) (c:=e) (by grind) he;have q:((2:Rat)^n)⁻¹*2^n=1:=by grind
 have j:=MI n;have u:=Rat.mul_pos (a:=e*2^n-1) (b:=(2^n)⁻¹) (by grind) j;have v:(e*2^n-1)*((2:Rat)^n)⁻¹=e-((2:Rat)^n)⁻¹:=by grind
 grind
def Eo (q:Rat) (k:Nat):Rat:=(Bk (q*(2^k*2^k)).floor.toNat:Rat)*(2^k)⁻¹
theorem U0 (q:Rat) (k:Nat):0<=Eo q k:=
 Rat.mul_nonneg (by exact Rat.natCast_nonneg) (Rat.le_of_lt (MI k))
theorem bn {q:Rat} (k:Nat) (h:q<=0):Eo q k=0:=by
 have c:q*(2^k*2^k)<=0:=by
  have:=Rat.mul_nonneg (a:= -q) (b:=2^k*2^k) (by grind) (Rat.le_of_lt (Rat.mul_pos (MJ k) (MJ k)))
  generalize (2:Rat)^k=x at*
  grind
 have g:(q*(2^k*2^k)).floor<=0:=by
  have:=Rat.floor_le (q*(2^k*2^k));have h3:((q*(2^k*2^k)).floor:Rat)<=((0:Int):Rat):=Rat.le_trans this c;exact Rat.intCast_le_intCast.1 h3
 rw[Eo,Int.toNat_of_nonpos g];have:Bk 0=0:=rfl;rw[this];simp
theorem bm {q:Rat} (k:Nat) (h:0<=q):Eo q k*Eo q k<=q:=by
 have n:=MJ k;have m:=MI k;have c:0<=q*(2^k*2^k):=Rat.mul_nonneg h (Rat.le_of_lt (Rat.mul_pos n n));have p:=Rat.floor_le (q*(2^k*2^k));have h3:0<=(q*(2^k*2^k)).floor:=Rat.le_floor_iff.2 (by simpa using c);have g:=Nj (q*(2^k*2^k)).floor.toNat;rw[Eo]
 generalize v:Bk (q*(2^k*2^k)).floor.toNat=r at*
 have j:((r*r:Nat):Rat)<=((q*(2^k*2^k)).floor.toNat:Rat):=Rat.natCast_le_natCast.2 g
 have l:((q*(2^k*2^k)).floor.toNat:Rat)=((q*(2^k*2^k)).floor:Rat):=by
  have:=Int.toNat_of_nonneg h3;have u:(((q*(2^k*2^k)).floor.toNat:Int):Rat)=((q*(2^k*2^k)).floor:Rat):=by rw[this]
  exact u
 rw[l] at j
 have z:(r:Rat)*r<=q*(2^k*2^k):=by
  have:((r*r:Nat):Rat)=(r:Rat)*r:=Ai
  grind
 have A:=Rat.mul_nonneg (a:=q*(2^k*2^k)-(r:Rat)*r) (b:=(2^k)⁻¹*(2^k)⁻¹) (by grind) (Rat.le_of_lt (Rat.mul_pos m m));have e:(2:Rat)^k*(2^k)⁻¹=1:=by grind
 clear c p h3 g j l v
 generalize ((2:Rat)^k)⁻¹=y at*
 generalize (2:Rat)^k=x at*
 have e2:(q*(x*x)-(r:Rat)*r)*(y*y)=q-r*y*(r*y):=by grind
 grind
theorem Zv (q:Rat) (k:Nat):q<(Eo q k+(2^k)⁻¹)*(Eo q k+(2^k)⁻¹):=by
 have u:=MJ k;have h:=MI k;have g:=QI (q*(2^k*2^k)).floor.toNat;rw[Eo]
 generalize n:Bk (q*(2^k*2^k)).floor.toNat=r at*
 have j:q*(2^k*2^k)<(q*(2^k*2^k)).floor+1:=by
  have:=Rat.lt_floor_add_one (q*(2^k*2^k));rwa [Rat.intCast_add] at this
 have h3:(q*(2^k*2^k)).floor<=((q*(2^k*2^k)).floor.toNat:Int):=Int.self_le_toNat _
 have c:((q*(2^k*2^k)).floor:Rat)<=((q*(2^k*2^k)).floor.toNat:Rat):=by
  exact Rat.intCast_le_intCast.2 h3
 have l:((q*(2^k*2^k)).floor.toNat:Rat)+1<=((r:Rat)+1)*(r+1):=by
  have m:(q*(2^k*2^k)).floor.toNat+1<=(r+1)*(r+1):=g;have:=Rat.natCast_le_natCast.2 m;simpa using this
 have p:=Rat.mul_pos (a:=((r:Rat)+1)*(r+1)-q*(2^k*2^k)) (b:=(2^k)⁻¹*(2^k)⁻¹) (by grind) (Rat.mul_pos h h);have e:(2:Rat)^k*(2^k)⁻¹=1:=by grind
 clear j h3 g l c n
 generalize ((2:Rat)^k)⁻¹=y at*
 generalize (2:Rat)^k=x at*
 have e2:(((r:Rat)+1)*(r+1)-q*(x*x))*(y*y)=(r*y+y)*(r*y+y)-q:=by grind
 grind
theorem U5 {p q e:Rat} {k l:Nat} (he:0<e) (u:((2:Rat)^l)⁻¹<e/2) (h:p-q<e*e/2):Eo p k-Eo q l<e:=by
 apply Classical.byContradiction;intro v;have g:=U0 q l;have j:=Zv q l
 have c:0<=p:=by
  apply Classical.byContradiction;intro n;have:=bn (q:=p) k (by grind)
  grind
 have h3:=bm k c;have m:=MI l
 generalize Eo p k=s at*
 generalize Eo q l=t at*
 generalize ((2:Rat)^l)⁻¹=d at*
 have x:=Rat.mul_nonneg (a:=s-(t+d)-e/2) (b:=s+(t+d)) (by grind) (by grind);have y:=Rat.mul_nonneg (a:=e/2) (b:=s+t+d-e) (by grind) (by grind)
 grind
def sqrt (a:CS):CS:=⟨fun n=>Eo (a.f n) n,fun e he=>by
 obtain⟨N,hN⟩:=small (e/2) (by grind);obtain⟨M,hM⟩:=a.H3 (e*e/2) (by have:=Rat.mul_pos he he;grind);refine⟨max N M,fun n m hn hm=>?_⟩;exact U5 he (hN m AA) (hM n m AA AA)⟩
theorem rG {a b:CS} (h:a ≈ b):sqrt a ≈ sqrt b:=fun e he=>by
 obtain⟨N,c⟩:=small (e/2) (by grind);obtain⟨M,g⟩:=h (e*e/2) (by have:=Rat.mul_pos he he;grind);refine⟨max N M,fun n j=>?_⟩;have:=g n AA;exact⟨U5 he (c n AA) this.1,U5 he (c n AA) this.2⟩
theorem G3 {a:CS} (h:¬pos (neg a)):mul (sqrt a) (sqrt a) ≈ a:=fun e he=>by
 obtain⟨B,L,P,x⟩:=(sqrt a).NI;have D:0<e/(2*B+1):=by rw[Rat.div_def];exact Rat.mul_pos (by grind) (Rat.inv_pos.2 (by grind))
 obtain⟨N,v⟩:=small _ D;obtain⟨m,g⟩:=small 1 AE;obtain⟨M,u⟩:=a.H3 (e/2) (by grind)
 have c:∃n,M<=n/\ -(e/2)<a.f n:=by
  apply Classical.byContradiction;intro y;apply h;refine⟨e/4,by grind,M,fun n l=>?_⟩;have:¬(-(e/2)<a.f n):=fun z=>y ⟨n,l,z⟩
  show e/4< -a.f n
  grind
 obtain⟨C,j,c⟩:=c;refine⟨max (max N m) (max M P),fun n l=>?_⟩;have p:=x n AA;have F:=v n AA;have h3:=u C n j AA;have G:=Zv (a.f n) n;have H:=U0 (a.f n) n;have J:=MI n;have K:=g n AA
 show Eo (a.f n) n*Eo (a.f n) n-a.f n<e/\a.f n-Eo (a.f n) n*Eo (a.f n) n<e
 have q:Eo (a.f n) n<=B:=p.1
 constructor
 ·by_cases A:0<=a.f n
  ·have:=bm n A
   grind
  rw[bn n (by grind)]
  grind
 generalize Eo (a.f n) n=s at*
 generalize ((2:Rat)^n)⁻¹=d at*
 have O:=Rat.mul_nonneg (a:=B-s) (b:=d) (by grind) (by grind);have Q:=Rat.mul_nonneg (a:=1-d) (b:=d) (by grind) (by grind);have R:=Rat.mul_pos (a:=e/(2*B+1)-d) (b:=2*B+1) (by grind) (by grind);have S:e/(2*B+1)*(2*B+1)=e:=by grind
 grind
theorem MU (a:CS):¬pos (neg (sqrt a)):=by
 rintro⟨e,he,N,b⟩
 have c:e< -Eo (a.f N) N:=b N (Nat.le_refl _);have:=U0 (a.f N) N
 grind
end CS
def Re:Type:=Quotient CS.st
namespace Re
def mk (a:CS):Re:=Quotient.mk _ a
def ofRat (q:Rat):Re:=mk (CS.const q)
def add (x y:Re):Re:=Quotient.liftOn₂ x y (fun a b=>mk (CS.add a b)) fun _ _ _ _ h k=>Quotient.sound (CS.add_congr h k)
def mul (x y:Re):Re:=Quotient.liftOn₂ x y (fun a b=>mk (CS.mul a b)) fun _ _ _ _ h k=>Quotient.sound (CS.mul_congr h k)
def neg (x:Re):Re:=Quotient.liftOn x (fun a=>mk (CS.neg a)) fun _ _ h=>Quotient.sound (CS.neg_congr h)
def sqrt (x:Re):Re:=Quotient.liftOn x (fun a=>mk (CS.sqrt a)) fun _ _ h=>Quotient.sound (CS.rG h)
def pos (x:Re):Prop:=Quotient.liftOn x CS.pos fun _ _ h=>CS.ox h
def pow (x:Re):Nat->Re
 | 0=>ofRat 1
 | n+1=>mul (pow x n) x
instance:Add Re:=⟨add⟩
instance:Mul Re:=⟨mul⟩
instance:Neg Re:=⟨neg⟩
instance:Sub Re:=⟨fun a b=>add a (neg b)⟩
instance (n:Nat):OfNat Re n:=⟨ofRat n⟩
instance:NatCast Re:=⟨fun n=>ofRat n⟩
instance:IntCast Re:=⟨fun n=>ofRat n⟩
instance:Pow Re Nat:=⟨pow⟩
instance:SMul Nat Re:=⟨fun n a=>mul (ofRat n) a⟩
instance:SMul Int Re:=⟨fun n a=>mul (ofRat n) a⟩
instance:LT Re:=⟨fun a b=>pos (add b (neg a))⟩
instance:LE Re:=⟨fun a b=>¬pos (add a (neg b))⟩
theorem sound {a b:CS} (h:∀n,a.f n=b.f n):mk a=mk b:=Quotient.sound (CS.kr h)
theorem Di {p:Re->Prop} (h:∀a,p (mk a)) (x:Re):p x:=Quotient.ind h x
theorem add_assoc (x y z:Re):x+y+z=x+(y+z):=by
 induction x using Di;induction y using Di;induction z using Di
 exact sound fun n=>Rat.add_assoc _ _ _
theorem add_comm (x y:Re):x+y=y+x:=by
 induction x using Di;induction y using Di
 exact sound fun n=>Rat.add_comm _ _
theorem add_zero (x:Re):x+0=x:=by
 induction x using Di
 exact sound fun n=>Rat.add_zero _
theorem neg_add_cancel (x:Re): -x+x=0:=by
 induction x using Di
 exact sound fun n=>Rat.neg_add_cancel _
theorem mul_assoc (x y z:Re):x*y*z=x*(y*z):=by
 induction x using Di;induction y using Di;induction z using Di
 exact sound fun n=>Rat.mul_assoc _ _ _
theorem mul_comm (x y:Re):x*y=y*x:=by
 induction x using Di;induction y using Di
 exact sound fun n=>Rat.mul_comm _ _
theorem mul_one (x:Re):x*1=x:=by
 induction x using Di
 exact sound fun n=>Rat.mul_one _
theorem left_distrib (x y z:Re):x*(y+z)=x*y+x*z:=by
 induction x using Di;induction y using Di;induction z using Di
 exact sound fun n=>Rat.mul_add _ _ _
theorem zero_mul (x:Re):0*x=0:=by
 induction x using Di
 exact sound fun n=>Rat.zero_mul _
theorem ofRat_add (p q:Rat):ofRat (p+q)=ofRat p+ofRat q:=rfl
theorem ofRat_mul (p q:Rat):ofRat (p*q)=ofRat p*ofRat q:=rfl
theorem ofRat_neg (p:Rat):ofRat (-p)= -ofRat p:=rfl
abbrev Vv {C:Type->Type} {α:Type} (_:C α):Type->Type:=C
abbrev gN:Type->Type:=Vv Dyadic.instCommRing
abbrev Rl:Type->Type:=Vv Dyadic.instCommRing.toRing.toSemiring
instance:gN Re where
 add_assoc:=add_assoc
 add_comm:=add_comm
 add_zero:=add_zero
 neg_add_cancel:=neg_add_cancel
 mul_assoc:=mul_assoc
 mul_comm:=mul_comm
 mul_one:=mul_one
 one_mul:=fun x=>by rw[mul_comm,mul_one]
 left_distrib:=left_distrib
 right_distrib:=fun x y z=>by rw[mul_comm,left_distrib,mul_comm z x,mul_comm z y]
 zero_mul:=zero_mul
 mul_zero:=fun x=>by rw[mul_comm,zero_mul]
 pow_zero:=fun _=>rfl
 pow_succ:=fun _ _=>rfl
 sub_eq_add_neg:=fun _ _=>rfl
 neg_zsmul:=fun i x=>by
  show mul (ofRat ((-i:Int):Rat)) x=neg (mul (ofRat (i:Rat)) x)
  rw[Rat.intCast_neg]
  induction x using Di
  exact sound fun n=>Rat.neg_mul _ _
 zsmul_natCast_eq_nsmul:=fun _ _=>rfl
 nsmul_eq_natCast_mul:=fun _ _=>rfl
 ofNat_succ:=fun n=>by
  show ofRat ((n+1:Nat):Rat)=ofRat (n:Rat)+ofRat 1
  rw[Rat.natCast_add,ofRat_add]
  rfl
 ofNat_eq_natCast:=fun _=>rfl
 intCast_ofNat:=fun _=>rfl
 intCast_neg:=fun i=>by
  show ofRat ((-i:Int):Rat)=neg (ofRat (i:Rat))
  rw[Rat.intCast_neg]
  rfl
theorem lt_def (x y:Re):x<y↔pos (y-x):=Iff.rfl
theorem le_def (x y:Re):x<=y↔¬pos (x-y):=Iff.rfl
theorem oy {x y:Re}:pos x->pos y->pos (x*y):=by
 induction x using Di;induction y using Di
 exact CS.mul_pos
theorem ow {x y:Re}:pos x->pos y->pos (x+y):=by
 induction x using Di;induction y using Di
 exact CS.add_pos
theorem bD {x:Re}:pos x->¬pos (-x):=by
 induction x using Di
 exact CS.oL
theorem o6:¬pos 0:=CS.oM
theorem bG (x:Re):x=0\/pos x\/pos (-x):=by
 induction x using Di
 rcases CS.tri _ with h | h | h
 ·exact .inl (Quotient.sound h)
 ·exact .inr (.inl h)
 exact .inr (.inr h)
theorem bE {q:Rat}:pos (ofRat q)↔0<q:=by
 constructor
 ·rintro⟨e,he,N,b⟩
  have:e<q:=b N (Nat.le_refl _)
  grind
 intro h;exact⟨q/2,by grind,0,fun n _=>by show q/2<q;grind⟩
theorem le_trans' {x y z:Re} (h:x<=y) (k:y<=z):x<=z:=by
 rw[le_def] at*;intro b;rcases bG (x-y) with e | e | e
 ·rw[show x-z=(x-y)+(y-z) by grind,e,show 0+(y-z)=y-z by grind] at b;exact k b
 ·exact h e
 have:=ow b e;rw[show x-z+ -(x-y)=y-z by grind] at this;exact k this
theorem nL (x y:Re):x<=y\/y<=x:=by
 rw[le_def,le_def]
 by_cases h:pos (x-y)
 ·right
  have:=bD h;rwa [show -(x-y)=y-x by grind] at this
 exact .inl h
theorem nJ {x y:Re} (h:x<=y) (k:y<=x):x=y:=by
 rw[le_def] at*;rcases bG (x-y) with e | e | e
 ·grind
 ·exact (h e).elim
 rw[show -(x-y)=y-x by grind] at e;exact (k e).elim
theorem nW (x y:Re):x<y↔x<=y/\¬y<=x:=by
 rw[lt_def,le_def,le_def]
 constructor
 ·intro h;refine⟨?_,fun k=>k h⟩;have:=bD h;rwa [show -(y-x)=x-y by grind] at this
 rintro⟨_,h⟩
 exact Classical.not_not.1 h
instance:Std.IsLinearOrder Re where
 le_refl:=fun x=>by
  rw[le_def,show x-x=0 by grind];exact o6
 le_trans:=fun _ _ _=>le_trans'
 le_antisymm:=fun _ _=>nJ
 le_total:=nL
instance:Std.LawfulOrderLT Re where
 lt_iff:=nW
abbrev gB {C:(β:Type)->(s:Rl β)->(l:LE β)->(t:LT β)->Std.IsPreorder β->Prop} {α:Type} {s:Rl α} {l:LE α} {t:LT α} {p:Std.IsPreorder α} (_:C α s l t p):(β:Type)->(s:Rl β)->(l:LE β)->(t:LT β)->Std.IsPreorder β->Prop:=C
theorem UD {a b c:Re} (h:a<b) (g:0<c):c*a<c*b:=by
 rw[lt_def] at*;rw[show c*b-c*a=(c-0)*(b-a) by grind];exact oy g h
instance:gB Dyadic.instOrderedRing Re inferInstance inferInstance inferInstance inferInstance where
 add_le_left_iff:=fun c=>by
  rename_i a b
  rw[le_def,le_def,show a+c-(b+c)=a-b by grind]
 zero_lt_one:=by
  rw[lt_def]
  show pos (ofRat 1-ofRat 0)
  have:ofRat 1-ofRat 0=ofRat 1:=by
   show (1:Re)-0=1
   grind
  rw[this,bE]
  decide
 mul_lt_mul_of_pos_left:=fun h hc=>UD h hc
 mul_lt_mul_of_pos_right:=fun h hc=>by
  rename_i a b c
  rw[mul_comm a c,mul_comm b c];exact UD h hc
theorem mul_pos {x y:Re} (h:0<x) (k:0<y):0<x*y:=by
 have:=UD k h
 grind
theorem QS {x y:Re} (h:0<=x) (k:0<=y):0<=x*y:=by
 by_cases h':0<x
 ·by_cases k':0<y
  ·have:=mul_pos h' k'
   grind
  have:y=0:=by grind
  subst this
  grind
 have:x=0:=by grind
 subst this
 grind
theorem oR:ofRat 0=0:=rfl
theorem IJ {p q:Rat}:ofRat p<ofRat q↔p<q:=by
 rw[lt_def]
 have:ofRat q-ofRat p=ofRat (q-p):=by
  rw[show q-p=q+ -p by grind,ofRat_add,ofRat_neg];grind
 rw[this,bE]
 grind
theorem aR {p q:Rat}:ofRat p<=ofRat q↔p<=q:=by
 have:= @IJ q p
 grind
theorem Kk {p q:Rat}:ofRat p=ofRat q↔p=q:=by
 constructor
 ·intro h;have b:=(@aR p q).1 (by grind);have c:=(@aR q p).1 (by grind)
  grind
 rintro rfl;rfl
theorem ZO {x:Re} (h:0<x):∃y,x*y=1:=by
 rw[lt_def,show x-0=x by grind] at h
 induction x using Di
 obtain⟨b,hb⟩:=CS.Ni h;exact⟨mk b,Quotient.sound hb⟩
theorem Ni {x:Re} (h:x≠0):∃y,x*y=1:=by
 by_cases b:0<x
 ·exact ZO b
 obtain⟨y,c⟩:=ZO (x:= -x) (by grind);exact⟨-y,by grind⟩
theorem MU (x:Re):0<=sqrt x:=by
 rw[le_def,show 0-sqrt x= -sqrt x by grind]
 induction x using Di
 exact CS.MU _
theorem G3 {x:Re} (h:0<=x):sqrt x*sqrt x=x:=by
 rw[le_def,show 0-x= -x by grind] at h
 induction x using Di
 exact Quotient.sound (CS.G3 h)
theorem GW {x y:Re} (h:x*y=0):x=0\/y=0:=by
 by_cases b:x=0
 ·exact .inl b
 obtain⟨z,c⟩:=Ni b
 right
 have:y=(x*z)*y:=by rw[c];grind
 grind
theorem IP (x:Re):0<=x*x:=by
 by_cases h:0<=x
 ·exact QS h h
 have:=QS (x:= -x) (y:= -x) (by grind) (by grind)
 grind
theorem MS {x y:Re} (b:0<=x) (c:0<=y) (h:x*x=y*y):x=y:=by
 have:(x-y)*(x+y)=0:=by grind
 rcases GW this with e | e
 ·grind
 grind
end Re
end Go.Abs
