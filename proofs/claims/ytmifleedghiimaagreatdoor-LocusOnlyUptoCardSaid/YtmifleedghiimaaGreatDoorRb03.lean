/- Part 4 of a proof. Conditions: each theorem's own. -/
import Derived.Laws.Sem
import Derived.Test.YtmifleedghiimaaGreatDoorProg
import Derived.Deep.Slices
import Derived.ProofKit
import Derived.Test.YtmifleedghiimaaGreatDoorRb02
set_option linter.all false
set_option maxHeartbeats 80000000
set_option maxRecDepth 20000
open Go.Proofs
namespace Go.Abs
open Go.RowKit
def Lb (tmps:Array Value):ResultVar->Sem Value
 | .tmp t=>pure (tmps.getD t undef)
 | .cell a t=>do loadVar t (<-asAddr (tmps.getD a undef))
def Np:List Value->Value
 | [v]=>v
 | vs=> .tuple vs.toArray
structure Fn (P:Program) (TI:TypeId->Info) (f:FuncId) (n:Nat) (c:Code) (rs:List ResultVar):Prop where
 get : ∃ fn, P.funcs[f]? = some fn /\ (fn.name == "runtime.NumGoroutine") = false /\ fn.body = some c /\ fn.ntmps = n /\ fn.results.toList = rs
 dst:I4 c=true
 ty:∀t,It P t (TI t)
 mixed:P.follows .mixedOrders=true
def Nv (args:List AV):Bool:=args.all fun c=>match c with | .BI _=>false | c=>c.all ET
def ML (args:List AV):Bool:=args.all fun c=>match c with | .BI _=>false | c=>c.all SH
section
variable {P:Program} {TI:TypeId->Info} {w0 w:World} {X:WX} {β:Nat->Option Nat} {s:St} {a:Act} {I:PI}
def vC {fn:Func} {tmps:Array Value} {vs:List Value} (h:Bc (fun r v=>(Lb tmps r).run P w= .ok v w) fn.results.toList vs):(results fn tmps).run P w= .ok (Np vs) w:=by
 have mapM:∀{l:List ResultVar} {vs:List Value},Bc (fun r v=>(Lb tmps r).run P w= .ok v w) l vs->(l.mapM (Lb tmps)).run P w= .ok vs w:=fun h=>by
  induction h with
  | nil=>simp
  | cons q _ b=>rw[List.mapM_cons];simp[Sem.run_bind,q,b]
 have e:results fn tmps=(do let vs <-fn.results.mapM (Lb tmps);pure (if h:vs.size=1 then vs[0] else .tuple vs)):=by
  unfold results
  congr 1
 rw[e,Array.mapM_eq_mapM_toList];simp only[Sem.run_bind,map_eq_pure_bind,mapM h,Result.andThen_ok,Sem.run_pure]
 congr 1
 match vs with
 |[]|[v]|_::_::_=>rfl
def Xa (A:∀t,It P t (TI t)) (S:Bt w0 X β s a w):∀{rs:List ResultVar} {xs:List (Bool×List AC)},Lc TI s rs=some xs->∃vs,Bc (fun r v=>(Lb a.tmps r).run P w= .ok v w) rs vs/\Bc (fun y u=>(y.1=false->y.2.length<=1)/\HI (Bw (cx X w β (AR s.bk))) (HA y) u) xs vs
 | [],xs,h=>by cases h;exact⟨[],.nil,.nil⟩
 | r::rs,xs,h=>by
  simp only[Lc] at h
  split at h
  ·rename_i b M j z
   cases h;obtain⟨vs,k1,k2⟩:=Xa A S z
   suffices ∃v,(Lb a.tmps r).run P w= .ok v w/\(b.1=false->b.2.length<=1)/\HI (Bw (cx X w β (AR s.bk))) (HA b) v by obtain⟨v,K,L⟩:=this;exact⟨v::vs,.cons K k1,.cons L k2⟩
   cases r with
   | tmp t=>
    cases j;refine⟨_,rfl,?_⟩;have p:=S.Ij t
    generalize nth s.sl t=g at p
    cases g with
    | one _=>exact⟨fun _=>Nat.le_refl _,p⟩
    | agg _=>exact⟨nofun,p⟩
    | BI _=>exact⟨fun _=>Nat.zero_le _,.inl rfl⟩
   | cell q t=>
    simp only[gE] at j;have p:=S.Ij q
    split at j
    ·rename_i id v off he
     rw[he] at p
     split at j
     ·rename_i N cs hb
      split at j
      ·rename_i c
       simp only[Bool.and_eq_true,beq_iff_eq] at c;obtain⟨⟨F,D⟩,hlen⟩:=c;cases j;obtain⟨b1,C,J⟩:=(p.resolve_left nofun).2 (D.symm.trans (FN hb).symm);obtain⟨arr,e,z,h3⟩:=(S.blocks id _ hb).1.var C;have m:Bc (Bw (cx X w β (AR s.bk))) (Ft cs off (TI t).size) ((arr.toList.drop off).take (TI t).size):=by rw[Lh];exact (h3.drop off).take _
       have x:(TI t).agg=false->(Ft cs off (TI t).size).length=1:=fun e=>hlen.trans (by obtain⟨_,_,_,_,_,_,_,_,_,G⟩:=(A t).info F;exact G e)
       refine⟨valOf (TI t).agg ((arr.toList.drop off).take (TI t).size),?_,fun e=>Nat.le_of_eq (x e),?_⟩
       ·refine Eq.trans ?_ (run_load (A t) F (fu z (off:=off) (n:=(TI t).size)) (by rw[<-m.length];exact hlen));simp only[Lb,J,asAddr,Instr.loadAt,Instr.sureAddr]
       have:=Sx m x
       generalize Ft cs off (TI t).size=l at this
       cases H:(TI t).agg <;> rw[H] at this
       ·cases l <;> first | exact .inl rfl | exact this
       exact this
      cases j
     cases j
    cases j
  cases h
def ZS {R:AC->AC->Prop}:∀{l m l' m':List AC},E2 R l m->E2 R l' m'->E2 R (l++l') (m++m')
 | [],[],_,_,_,h=>h
 | _::_,_::_,_,_,h,h'=>⟨h.1,ZS h.2 h'⟩
 | [],_::_,_,_,h,_ | _::_,[],_,_,h,_=>h.elim
def gF {bk:Nat->Option BD} {R:AC->Value->Prop} {xs:List (Bool×List AC)} {vs:List Value} (r:Bc (fun y u=>(y.1=false->y.2.length<=1)/\HI R (HA y) u) xs vs):∀{ys:List (Bool×List AC)},Me bk xs ys->
  ∃us,Bc R (xs.flatMap (·.2)) us/\E2 (KY bk) (xs.flatMap (·.2)) (ys.flatMap (·.2))/\∀R',Bc R' (ys.flatMap (·.2)) us->Bc (fun y u=>HI R' (HA y) u) ys vs:=by
 induction r with
 | nil=>intro ys h;cases ys with
  | nil=>exact⟨[],.nil,trivial,fun _ _=> .nil⟩
  | cons=>exact h.elim
 | @cons x v _ _ q _ j=>intro ys h;cases ys with
  | nil=>exact h.elim
  | cons y ys=>
   obtain⟨⟨e,g⟩,C⟩:=h;obtain⟨us,k1,k2,D⟩:=j C
   have A:∀{l m:List AC},E2 (KY bk) l m->l.length=m.length:=fun {l}=>by
    induction l with
    | nil=>intro m h;cases m <;> first | rfl | exact h.elim
    | cons x l j=>intro m h;cases m with
     | nil=>exact h.elim
     | cons y m=>exact congrArg (· +1) (j h.2)
   obtain⟨b,g1,g2⟩:∃b,Bc R x.2 b/\∀R',Bc R' y.2 b->HI R' (HA y) v:=by
    obtain⟨t,cs⟩:=x;obtain⟨G,p⟩:=y;obtain rfl:t=G:=e;cases t with
    | true=>obtain⟨_,arr,ev,h⟩:=q;exact⟨arr.toList,h,fun R' h'=>⟨arr,ev,h'⟩⟩
    | false=>match cs,p,g,q with
     | [],[],_,_=>exact⟨[],.nil,fun _ _=> .inl rfl⟩
     | [c],[d],g,⟨_,q⟩=>exact⟨[v],.cons (q.resolve_left fun e=>by subst e;exact g.1) .nil,fun R' h=>by cases h;exact .inr ‹_›⟩
     | _::_::_,_,_,⟨q,_⟩=>simp at q
   refine⟨b++us,g1.append k1,ZS g k2,fun R' h=>?_⟩;obtain⟨m1,m2,z,n,F⟩:=Bc.W5 h;obtain⟨rfl,rfl⟩:=List.append_inj z (by rw[<-g1.length,<-n.length,A g]);exact .cons (g2 R' n) (D R' F)
def aS {R:AC->Value->Prop} {r:AV} {vs:List Value} (b:vs.length=1↔∀ys,r≠ .BI ys) (h:Bc (fun z q=>HI R (HA z) q) r.KE vs):RV R r (Np vs):=by
 cases r with
 | BI xs=>
  have e:Np vs= .tuple vs.toArray:=by
   match vs,fun e=>b.1 e xs rfl with
   | [],_=>rfl
   | [_],h=>exact absurd rfl h
   | _::_::_,_=>rfl
  exact⟨vs.toArray,e,h⟩
 | one c | agg cs=>obtain _ |⟨h,_ | _⟩:=h;exact h
def VJ (r:AV):r.KE.flatMap (·.2)=r.cells:=by cases r <;> simp[AV.KE,AV.comp,AV.cells]
def Sy (S:Bt w0 X β s a w) (G:∀o b,X.A o b->I o b\/w0.heap.size<=b) {j:Option Nat} (x:j=none\/∃id,live (AR s.bk) id/\β id=j) {c d:AC} {v:Value} (J:LG c=true->j=none)
  (H:X.ob=none/\ET d=true\/(live (AR s.bk) 0/\BP (AR s.bk) 0=0)/\(KO d=true\/Nj c=true/\ET d=true)) (h:KY (AR s.bk) c d) (r:Bw (cx X w β (AR s.bk)) c v):Ha (ES false I w0.heap.size w X.ob j) w0.heap.size j d v:=by
 have g:∀b,X.ob=some b->live (AR s.bk) 0/\β 0=some b:=fun b e=>H.elim (fun q=>by rw[q.1] at e;cases e) fun q=>⟨q.1.1,(S.LB q.1.1 q.1.2).trans e⟩
 have z:∀o b,(cx X w β (AR s.bk)).I o b->(ES false I w0.heap.size w X.ob j).I o b/\w.heap[b]? =w.heap[b]? :=fun o b hb=>
  ⟨⟨(G o b hb.2).imp (fun q=>⟨rfl,q⟩) fun q=>q,hb.1.1,fun e=>hb.1.2 0 (g b e).1 (g b e).2,fun e=>by
   rcases x with h' |⟨id,p,u⟩
   ·rw[h'] at e;cases e
   exact hb.1.2 id p (u.trans e)⟩,rfl⟩
 cases c with
 | Aj t id k off len=>
  rcases h with⟨l,p,u,rfl⟩ |⟨l,n,_,_,_,_,_,rfl⟩ |⟨rfl,rfl,rfl⟩
  ·cases J rfl;obtain⟨base,cap,e,g1,g2,_,F⟩:=PW S r p u;refine⟨base,cap,by rw[e],g1,g2,F.imp (fun q=>q) fun⟨b,C,D,N,O,Q⟩=>⟨b,_,O,?_,fun i y K=>let ⟨us,L,M⟩:=Q i y K;⟨us,FY (w':=w) z _ _ _ L,M⟩⟩⟩
   have m:X.ob≠some b:=fun e=>by
    obtain⟨k1,k2⟩:=g b e;obtain rfl:=S.inj id 0 b C k1 D k2;rcases H with H |⟨_,H | H⟩
    ·rw[H.1] at e;cases e
    ·cases H
    cases H.1
   exact⟨.inr ((S.own id b C D).resolve_right fun q=>m q.1),N,m,nofun⟩
  ·rcases H with⟨_,H⟩ |⟨_,H |⟨_,H⟩⟩ <;> cases H
  rcases H with⟨_,H⟩ |⟨H1,_⟩
  ·cases H
  refine⟨⟨r.1.1,Nat.le_refl _⟩,fun _=>?_⟩;have:=r.2 H1.2.symm;rwa [show (cx X w β (AR s.bk)).β 0=X.ob from S.LB H1.1 H1.2] at this
 | nil=>
  rcases h with rfl |⟨t,rfl⟩ |⟨t,rfl⟩
  ·exact r
  ·rw[show v=_ from r];exact Ni
  rcases H with⟨_,H⟩ |⟨_,H |⟨_,H⟩⟩ <;> cases H
 | int | bool | str | fn | sl=>obtain rfl:=h;exact ID z rfl r
 | _=>exact h.elim
def u9 (S:Bt w0 X β s a w) (u:X.ob=none) (D:∀o b,X.A o b->I o b\/w0.heap.size<=b) {c d:AC} {v:Value} (m:I8 d=true) (h:KY (AR s.bk) c d)
  (r:Bw (cx X w β (AR s.bk)) c v):∃p,Ha (ES false I w0.heap.size w X.ob p) w0.heap.size p d v/\(p=none\/((∃id,live (AR s.bk) id/\β id=p)/\LG c=true)):=by
 cases c with
 | Aj t id k off len=>
  rcases h with⟨l,j,M,rfl⟩ |⟨l,n,_,j,rfl,rfl,rfl,rfl⟩ |⟨_,_,rfl⟩
  ·cases m
  ·obtain⟨base,cap,e,g1,g2,_,C⟩:=r.2 (FN j).symm;have x:l.length<=140737488355328:=(S.blocks id _ j).2;have g:live (AR s.bk) id:=⟨_,j,rfl⟩;rcases C with rfl |⟨b,arr,z,k1,k2,G,H⟩
   ·exact⟨none,⟨rfl,base,0,e,g1,g2,x,.inl ⟨rfl,List.eq_nil_of_length_eq_zero AA,rfl⟩⟩,.inl rfl⟩
   obtain⟨_,_,_,L⟩:=(S.blocks id _ j).1.arr k1;refine⟨some b,⟨rfl,base,cap,e,g1,g2,x,.inr ⟨b,arr,z,rfl,(S.own id b g k1).resolve_right (fun q=>by rw[u] at q;cases q.1),by rw[k2];simp,G,by simpa using H,fun i y F=>?_⟩⟩,.inr ⟨⟨id,g,k1⟩,rfl⟩⟩;obtain⟨us,J,K⟩:=L i y F;exact⟨us,FY (w':=w) (fun o' b' hb=>⟨⟨(D o' b' hb.2).imp (fun q=>⟨rfl,q⟩) (fun q=>q),hb.1.1,(by rw[u];nofun),fun e=>hb.1.2 id g (k1.trans e)⟩,rfl⟩) _ _ _ J,K⟩
  cases m
 | nil=>
  rcases h with rfl |⟨t,rfl⟩ |⟨t,rfl⟩
  ·cases m
  ·cases m
  exact⟨none,⟨rfl,none,0,r,Nat.le_refl _,Nat.zero_le _,AS,.inl ⟨rfl,rfl,rfl⟩⟩,.inl rfl⟩
 | int | bool | str | fn | sl=>obtain rfl:=h;cases m
 | _=>exact h.elim
def vA (S:Bt w0 X β s a w) (F:X.ob=none) (C:∀o b,X.A o b->I o b\/w0.heap.size<=b) {cs:List AC} {vs:List Value} (r:Bc (Bw (cx X w β (AR s.bk))) cs vs):∀{g:List AC},(g.filter I8).length<=1->((g.filter I8).length=1->(cs.filter LG).length<=1)->E2 (KY (AR s.bk)) cs g->g.all IC=true->
  ∃j,Bc (Ha (ES false I w0.heap.size w X.ob j) w0.heap.size j) g vs/\(j=none\/((∃id,live (AR s.bk) id/\β id=j)/\cs.filter LG≠[])):=by
 have m:∀{j:Option Nat} {cs:List AC} {vs:List Value},(j=none\/∃id,live (AR s.bk) id/\β id=j)->Bc (Bw (cx X w β (AR s.bk))) cs vs->∀{g:List AC},g.filter I8=[]->(cs.filter LG≠[]->j=none)->E2 (KY (AR s.bk)) cs g->g.all IC=true->Bc (Ha (ES false I w0.heap.size w X.ob j) w0.heap.size j) g vs:=by
  intro j cs vs G r
  induction r with
  | nil=>intro g _ _ h _;cases g with
   | nil=>exact .nil
   | cons=>exact h.elim
  | @cons c _ cs _ q _ D=>intro g n p h l;cases g with
   | nil=>exact h.elim
   | cons d g=>
    simp only[List.all_cons,Bool.and_eq_true] at l;rw[List.filter_cons] at n p
    split at n
    ·cases n
    rename_i x
    refine .cons (Sy S C G (fun u=>p (by rw[u];simp)) (.inl ⟨F,?_⟩) h.1 q) (D n (fun u=>p (by split <;> simp[u])) h.2 l.2);have l:=l.1;cases d <;> first | exact l | exact absurd rfl x
 induction r with
 | nil=>intro g _ _ h _;cases g with
  | nil=>exact⟨none,.nil,.inl rfl⟩
  | cons=>exact h.elim
 | @cons c v cs vs q r D=>intro g n p h l;cases g with
  | nil=>exact h.elim
  | cons d g=>
   have M:=l;simp only[List.all_cons,Bool.and_eq_true] at l;have K:I8 d=false->X.ob=none/\ET d=true:=fun x=>⟨F,by have l:=l.1;cases d <;> first | exact l | cases x⟩
   cases x:I8 d <;> cases u:LG c <;> simp only[List.filter_cons,x,u,if_true,Bool.false_eq_true,if_false,List.length_cons] at n p ⊢
   ·obtain⟨j,g1,g2⟩:=D n p h.2 l.2;exact⟨j,.cons (Sy S C (g2.imp id (·.1)) (fun h=>by rw[u] at h;cases h) (.inl (K x)) h.1 q) g1,g2⟩
   ·refine⟨none,.cons (Sy S C (.inl rfl) (fun _=>rfl) (.inl (K x)) h.1 q) ?_,.inl rfl⟩
    by_cases z:(g.filter I8).length=1
    ·have J:=List.eq_nil_of_length_eq_zero (Nat.le_zero.1 (Nat.le_of_succ_le_succ (p z)));obtain⟨j,g1,rfl | g2⟩:=D n (fun _=>by rw[J];exact Nat.zero_le _) h.2 l.2
     ·exact g1
     exact absurd J g2.2
    exact m (.inl rfl) r (List.eq_nil_of_length_eq_zero AA) (fun _=>rfl) h.2 l.2
   all_goals
    obtain⟨j,g1,g2⟩:=u9 S F C x h.1 q;have y:g.filter I8=[]:=List.eq_nil_of_length_eq_zero AA;refine⟨j,.cons g1 (m (g2.imp id fun q=>q.1) r y (fun H=>g2.resolve_right fun L=>?_) h.2 l.2),g2.imp id fun q=>⟨q.1,?_⟩⟩
   ·rw[u] at L;cases L.2
   ·rw[u] at q;cases q.2
   ·exact H (List.eq_nil_of_length_eq_zero (by have:=p (by rw[y];rfl);omega))
   simp
def eT:∀(l m:List AV) (i:Nat),nth (l++m) i=if i<l.length then nth l i else nth m (i-l.length)
 | [],m,i=>AS
 | x::l,m,0=>by simp[nth]
 | x::l,m,i+1=>by simp[nth,eT l m i]
def tR {x:Cx} {l:List AV} {vs:List Value} (r:Bc (C6 x) l vs):∀i,i<l.length->C6 x (nth l i) (vs.getD i undef):=by
 induction r with
 | nil=>intro i h;cases h
 | cons q _ b=>intro i h;cases i with
  | zero=>exact q
  | succ i=>simpa [nth] using b i (Nat.lt_of_succ_lt_succ h)
def ug {c:AC} (h:ET c=true):SH c=true:=by cases c <;> first | exact h | cases h
def ZZ {args:List AV} (h:Nv args=true):ML args=true:=List.all_eq_true.2 fun x g=>by
 have:=List.all_eq_true.1 h x g;cases x <;> first | cases this | exact AV.Qj.2 fun c b=>ug (AV.Qj.1 this c b)
def enter {f:FuncId} {n:Nat} {c:Code} {rs:List ResultVar} (F:Fn P TI f n c rs) {args:List AV} {j:Option BD} {b0:BD} {Q:AX->St->Prop} (hp:ML args=true) (Z:j=none/\b0= .dead 0\/j=some b0/\b0.lone=true/\0<n) (hn:args.length<=n)
  (h:EO (env P) TI n c Q (Fa n args j)) {r:AV} {b1:BD} {fl:Bool} (hR:∀{w w':World} {I:PI} {ob:Option Nat} {x s β a},(b0.live=true\/ob=none)->Q x s->Bt w ⟨fun o b=>I o b\/w.heap.size<=b,ob⟩ β s a w'->(∀i,x≠ .exit i)/\
   ∃vs m,Bc (fun r v=>(Lb a.tmps r).run P w'= .ok v w') rs vs/\RV (Ha (ES fl I w.heap.size w' ob m) w.heap.size m) r (Np vs)/\Dl (ES fl I w.heap.size w' ob m) 0 b1/\b1.short):Lx P fl f args b0 r b1:=by
 obtain⟨fn,hf,D,hb,M,O⟩:=F.get;refine⟨⟨fn,c,hf,D,hb⟩,fun w I ob vs N K hG T A=>calls_of_wp hf hb ?_⟩
 have l:∀id b,AR (Fa n args j).bk id=some b->id=0/\j=some b:=by
  intro id b h;cases n with
  | zero=>cases h
  | succ n=>cases id with
   | zero=>exact⟨rfl,h⟩
   | succ id=>
    have:AR (HF n none) id=some b:=h;rw[Wc] at this;cases this
 have G:∀b,j=some b->b=b0/\b.BP=0/\∀v cs,b= .var v cs->cs.all ET=true:=fun b e=>by
  rcases Z with⟨h,_⟩ |⟨h,hl,_⟩
  ·cases h.symm.trans e
  cases h.symm.trans e;cases b0 <;> simp_all [BD.lone,BD.BP]
 have W:BP (AR (Fa n args j).bk) 0=0:=by
  unfold BP
  split
  ·rename_i b h;exact (G b (l 0 b h).2).2.1
  rfl
 let X:WX:=⟨fun o b=>I o b\/w.heap.size<=b,ob⟩
 have U:∀b,(b<w.heap.size/\ob≠some b)->(cx X w (EJ w ob I).β (AR (Fa n args j).bk)).J b:=fun b hb=>⟨hb.1,fun id _ e=>by
  by_cases h:id=0
  ·exact hb.2 ((if_pos h).symm.trans e)
  cases (if_neg h).symm.trans e⟩
 have z:∀o b,(EJ w ob I).I o b->(cx X w (EJ w ob I).β (AR (Fa n args j).bk)).I o b/\w.heap[b]? =w.heap[b]? :=fun o b hb=>⟨⟨U b (K o b hb),.inl hb⟩,rfl⟩
 have ptr:∀{k:Nat} {u:Value},FD (EJ w ob I) 0 0 k u->FD (cx X w (EJ w ob I).β (AR (Fa n args j).bk)) 0 0 k u:=fun r=>⟨⟨r.1.1,Nat.zero_le _⟩,fun _=>r.2 rfl⟩
 have cell:∀c v,SH c=true->Bw (EJ w ob I) c v->Bw (cx X w (EJ w ob I).β (AR (Fa n args j).bk)) c v:=fun c v e r=>by
  cases c with
  | Aj t i v off len=>
   match i,v,e,r with
   | 0,0,_,r=>exact⟨⟨r.1.1,Nat.zero_le _⟩,fun _=>r.2 rfl⟩
  | BU i v off=>
   match i,v,e,r with
   | 0,0,_,r=>exact ptr r
  | Ma p=>
   obtain⟨b,o,u,e2,L,C,hr⟩:=r
   match p,e,C with
   | (0,0,_),_,C=>exact⟨b,o,u,e2,U b L,ptr C,hr⟩
  | _=>first | exact ID (y:=cx X w (EJ w ob I).β (AR (Fa n args j).bk)) z e r | cases e
 have g:Bc (C6 (cx X w (EJ w ob I).β (AR (Fa n args j).bk))) args vs:=A.imp (fun r v e h=>by
  cases r with
  | BI _=>cases e
  | _=>exact RV.mono cell e h) hp
 have Y:Bt w X (EJ w ob I).β (Fa n args j) {tmps:=vs.toArray++Array.replicate (n-vs.toArray.size) undef,defers:=[]} w:=by
  have hlen:=g.length
  refine⟨rfl,by simp[Fa,Nb];omega,by cases n <;> simp[Fa,Nb] <;> omega,fun i=>?_,fun id b h=>?_,fun id a1 b ⟨_,H,_⟩ ⟨_,h2,_⟩ _ _=>(l _ _ H).1.trans (l _ _ h2).1.symm,fun id b ⟨_,H,_⟩ e=> .inr ⟨by rw[(l _ _ H).1] at e;exact e,(l _ _ H).1⟩,.rfl,
   ⟨fun _ b hb=> .inr hb,hG.mono fun o b hb=>⟨⟨⟨.inl hb,(K o b hb).2⟩,(K o b hb).1⟩,rfl⟩⟩,fun _ _=>rfl⟩
  ·show C6 _ (nth (args++_) i) _
   rw[eT]
   split
   ·rename_i V
    have:=tR g i V;rw[Array.getD_eq_getD_getElem?,Array.getElem?_append_left (by simpa [<-hlen] using V)];simpa [List.getD_eq_getElem?_getD] using this
   rw[Wb];exact .inl rfl
  obtain⟨rfl,h'⟩:=l id b h;obtain⟨rfl,_,hc⟩:=G b h';exact⟨Dl.to (x:=EJ w ob I) (id:=0) rfl (fun _ _ _=>rfl) (fun v cs e us q=>q.imp (fun _ _=>ID z) (hc v cs e)) (fun _ _ _ _=>FY (w':=w) z _) T.1,T.2⟩
 rw[M];refine wp_mono (KB F.mixed (fun o ho=>xP F.ty o ho) F.dst (by simp[Fa,Nb];omega) Y h) fun e R w' he=>?_
 obtain⟨x,s',a2,rfl,hq,_,S⟩:=he;obtain⟨hx,us,m,k1,k2,k3⟩:=hR N hq S
 have fin:R.defers=[]/\∃v,(results fn R.tmps).run P w'= .ok v w'/\∃u m,Ending.returned v= .returned u/\E0 w w' ob/\RV (Ha (ES fl I w.heap.size w' ob m) w.heap.size m) r u/\Dl (ES fl I w.heap.size w' ob m) 0 b1/\b1.short:=
  ⟨S.defers,Np us,vC (by rw[O];exact k1),Np us,m,rfl,S.Gr,k2,k3⟩
 cases x with
 | exit i=>exact absurd rfl (hx i)
 | _=>exact fin
def nf {f:FuncId} {n:Nat} {c:Code} {rs:List ResultVar} (F:Fn P TI f n c rs) {args:List AV} {r:AV} (A:Nv args=true) (q:r.all IC=true/\r.wf=true) (z:args.length<=n)
  (h:EO (env P) TI n c (post TI rs r none) (Fa n args none)):Eo P false f args r:=by
 refine⟨q,enter F (ZZ A) (.inl ⟨rfl,rfl⟩) z h fun {w w' I ob x s β a} l j S=>?_⟩;obtain rfl:=l.resolve_left nofun;unfold post at j
 split at j
 ·exact j.elim
 rename_i C
 split at j
 ·rename_i xs m
  obtain⟨v,h3,y⟩:=j.1 ();obtain⟨vs,k1,k2⟩:=Xa F.ty S m;obtain⟨us,g1,g2,p⟩:=gF k2 v;rw[VJ] at g2 p
  have g:(r.cells.filter I8).length<=1/\((r.cells.filter I8).length=1->((xs.flatMap (·.2)).filter LG).length<=1):=by
   unfold fC at h3;rw[VJ] at h3
   split at h3
   ·rename_i e;rw[e];simp
   ·rename_i e;rw[e];simpa using h3
   cases h3
  obtain⟨u,D,_⟩:=vA (I:=I) S rfl (fun _ b h=>h) g1 g.1 g.2 g2 (by rw[<-r.Od];exact q.1);exact⟨fun i e=>C i e,vs,u,k1,aS (by rw[<-k1.length];exact y) (p _ D),trivial,trivial⟩
 exact j.elim
def dP {f:FuncId} {n:Nat} {c:Code} {rs:List ResultVar} (F:Fn P TI f n c rs) {b0 b1:BD} {args:List AV} {r:AV} {Q:AX->St->Prop} (K:ML args=true) (A:b0.lone=true/\b1.lone=true) (C:args.length<=n/\0<n)
  (H:∀x s,Q x s->(∀i,x≠ .exit i)/\∃xs,Lc TI s rs=some xs/\(Me (AR s.bk) xs r.KE/\(r.all KO=true\/(xs.all fun x=>x.2.all Nj)=true/\r.all ET=true)/\(rs.length=1↔∀ys,r≠ .BI ys))/\AR s.bk 0=some b1) (h:EO (env P) TI n c Q (Fa n args (some b0))):Lx P false f args b0 r b1:=by
 refine enter F K (.inr ⟨rfl,A.1,C.2⟩) C.1 h fun {w w' I ob x s β a} J L S=>?_
 obtain⟨M,xs,u,⟨D,h3,G⟩,hb⟩:=H x s L;obtain⟨vs,k1,k2⟩:=Xa F.ty S u;obtain⟨us,g1,g2,y⟩:=gF k2 D;rw[VJ] at g2 y;have p:b1.BP=0/\b1.live=true/\∀v cs,b1= .var v cs->cs.all ET=true:=by have:=A.2;cases b1 <;> simp_all [BD.lone,BD.BP,BD.live]
 have j:live (AR s.bk) 0/\BP (AR s.bk) 0=0:=⟨⟨_,hb,p.2.1⟩,(FN hb).trans p.1⟩;have l:=S.LB j.1 j.2;refine⟨M,vs,none,k1,aS (by rw[<-k1.length];exact G) (y _ ?_),?_,(S.blocks 0 b1 hb).2⟩
 ·have lift:∀{cs:List AC} {us:List Value},Bc (Bw (cx ⟨fun o b=>I o b\/w.heap.size<=b,ob⟩ w' β (AR s.bk))) cs us->∀{g:List AC},(g.all KO=true\/cs.all Nj=true/\g.all ET=true)->E2 (KY (AR s.bk)) cs g->Bc (Ha (ES false I w.heap.size w' ob none) w.heap.size none) g us:=fun r=>by
   induction r with
   | nil=>intro g _ h;cases g with
    | nil=>exact .nil
    | cons=>exact h.elim
   | cons q _ N=>intro g m h;cases g with
    | nil=>exact h.elim
    | cons d g=>
     simp only[List.all_cons,Bool.and_eq_true] at m;exact .cons (Sy S (fun _ b h=>h) (.inl rfl) (fun _=>rfl) (.inr ⟨j,m.imp (·.1) fun q=>⟨q.1.1,q.2.1⟩⟩) h.1 q) (N (m.imp (·.2) fun q=>⟨q.1.2,q.2.2⟩) h.2)
  exact lift g1 (h3.imp (fun h=>by rw[<-r.Od];exact h) fun q=>⟨by rw[List.all_flatMap];exact q.1,by rw[<-r.Od];exact q.2⟩) g2
 have z:∀o b,(cx ⟨fun o b=>I o b\/w.heap.size<=b,ob⟩ w' β (AR s.bk)).I o b->(ES false I w.heap.size w' ob none).I o b/\w'.heap[b]? =w'.heap[b]? :=fun o b hb=>⟨⟨hb.2.imp (fun q=>⟨rfl,q⟩) fun q=>q,hb.1.1,fun e=>hb.1.2 0 j.1 (l.trans e),nofun⟩,rfl⟩
 exact Dl.to (x:=cx ⟨fun o b=>I o b\/w.heap.size<=b,ob⟩ w' β (AR s.bk)) (id:=0) l.symm (fun _ _ _=>rfl) (fun v cs e us q=>q.imp (fun _ _=>ID z) (p.2.2 v cs e)) (fun _ _ _ _=>FY (w':=w') z _) (S.blocks 0 b1 hb).1
def qU:AC->Bool
 |.int _ _|.bool _|.fn _|.nil|.str _=>true
 | .own t _ _=>t.flat
 | _=>false
def fT:AC->AC
 | .own t l _=> .sl t l
 | c=>c
def Sn:AV->AV:= .map fT
def Qc {f:FuncId} {args:List AV} {r:AV} (C:r.all qU=true) (h:Eo P false f args r):Eo P true f args r:=by
 refine⟨h.1,h.2.1,fun w I ob vs g j h3 m z=>(h.2.2 w I ob vs g j h3 m z).mono fun e w' ⟨u,x,he,F,hu,_⟩=>⟨u,x,he,F,RV.mono (fun c v p r=>?_) C hu,trivial,trivial⟩⟩;cases c with
 | own t l n=>obtain⟨A,base,cap,e,g,j,h3,m⟩:=r;exact⟨A,base,cap,e,g,j,h3,m.imp (fun q=>q) fun⟨b,arr,ty,k1,k2,G,H,J,K⟩=>⟨b,arr,ty,k1,k2,G,H,J,fun i y D=>let ⟨us,L,M⟩:=K i y D;⟨us,gD (w:=w') t p y us L,M⟩⟩⟩
 | _=>first | exact r | cases p
def EW {fl:Bool} {f:FuncId} {args:List AV} {r:AV} (h:Eo P fl f args r):Eo P fl f args (Sn r):=by
 have j:∀{r:AV},r.all IC=true->(Sn r).all IC=true:=fun {r} h=>by
  have g:∀cs:List AC,cs.all IC=true->(cs.map fT).all IC=true:=fun cs h=>by
   rw[List.all_map,List.all_eq_true];intro c j;have:=List.all_eq_true.1 h c j;cases c <;> first | exact this | rfl
  cases r with
  | one c=>cases c <;> first | exact h | rfl
  | agg cs=>exact g cs h
  | BI xs=>simp only[Sn,AV.map,AV.all,List.all_map] at h ⊢;exact List.all_eq_true.2 fun x m=>g x.2 (List.all_eq_true.1 h x m)
 refine⟨⟨j h.1.1,?_⟩,h.2.1,fun w I ob vs g z h3 A C=>(h.2.2 w I ob vs g z h3 A C).mono fun e w' ⟨u,q,he,F,hu,_⟩=>⟨u,none,he,F,RV.map rfl (fun c v j r=>?_) h.1.1 hu,trivial,trivial⟩⟩
 ·have:=h.1.2;cases r with
  | BI xs=>simp only[Sn,AV.map,AV.wf,List.all_map] at this ⊢;exact List.all_eq_true.2 fun x m=>by simpa using List.all_eq_true.1 this x m
  | _=>rfl
 have p:∀o b,(ES fl I w.heap.size w' ob q).I o b->(ES fl I w.heap.size w' ob none).I o b/\w'.heap[b]? =w'.heap[b]? :=fun _ b hb=>⟨⟨hb.1,hb.2.1,hb.2.2.1,nofun⟩,rfl⟩
 cases c with
 | own t l n=>
  obtain⟨R,base,cap,e,D,Q,G,H⟩:=r;refine⟨base,cap,by rw[e],D,G,H.imp (·.2.1) fun⟨b,arr,ty,k1,k2,K,L,S,M⟩=>⟨b,0,K,⟨.inr k2,Hn L,?_,nofun⟩,fun i y J=>?_⟩⟩
  ·have:=g.resolve_left nofun;rw[this];nofun
  obtain⟨us,N,O⟩:=M i y J;exact⟨us,FY (w':=w') p _ _ _ N,by rw[Nat.zero_add];exact O⟩
 | _=>first | exact Po (y:=ES fl I w.heap.size w' ob none) p rfl r | cases j
end
end Go.Abs
namespace Go.Abs
def zC:AC->Value->Bool
 | .int k n,.int k' n'=>k==k'&&n==n'
 | .bool b,.bool b'=>b==b'
 |.nil,.slice none 0 0|.sl _ [],.slice none 0 0=>true
 | .str z,.string z'=>z.data==z'.data
 | .Cb,v=>v.oneCell'
 | _,_=>false
def OJ:List AC->List Value->Bool
 | [],[]=>true
 | c::cs,v::vs=>zC c v&&OJ cs vs
 | _,_=>false
def zU {c:AC} {v:Value} (h:zC c v=true) (x:Cx):Bw x c v:=by
 unfold zC at h
 split at h <;> try simp only[Bool.and_eq_true,beq_iff_eq] at h
 ·obtain⟨rfl,rfl⟩:=h
  rfl
 ·subst h;rfl
 ·rfl
 ·exact Ni
 ·rename_i z z'
  obtain⟨z⟩:=z;obtain⟨z'⟩:=z';subst h;rfl
 ·exact h
 cases h
def YE:∀{cs:List AC} {vs:List Value},OJ cs vs=true->∀x,Bc (Bw x) cs vs
 | [],[],_,_=> .nil
 | _::_,_::_,h,x=>by simp only[OJ,Bool.and_eq_true] at h;exact .cons (zU h.1 x) (YE h.2 x)
 | [],_::_,h,_ | _::_,[],h,_=>by simp[OJ] at h
def aI (P:Program) (t:TypeId) (i:Info):Option Bool:=do
 let ti <-P.info? t
 let d <-P.underlying t
 let z <-ti.zero
 some (ti.size==i.size&&OJ i.zero z.cells.toList&&d.isRow==i.agg&&(i.agg||i.size==1))
def Q9 (P:Program) (i:Info) (f:TypeInfo->Value->Bool):TypeDesc->Option Bool
 | .slice e=>do
  let ei <-P.info? e
  let z <-ei.zero
  some (e==i.Dq&&f ei z)
 | _=>none
def aK (i:Info) (ei:TypeInfo) (z:Value):Bool:=ei.size==i.elem.size&&ei.bytes==i.FQ&&decide (0<ei.bytes)&&OJ (cells i.elem i.Cg) z.cells.toList
def RA (P:Program) (t:TypeId) (n:Nat) (g:Bool):Option Bool:=do
 let ti <-P.info? t
 let d <-P.underlying t
 some (ti.size==n&&d.isRow==g&&(g||n==1))
def Oq (P:Program):List (Nat×Nat×Bool)->List Field->Bool
 | [],[]=>true
 | p::ps,f::fs=>RA P f.type p.2.1 p.2.2==some true&&f.offset==p.1&&decide (0<p.2.1)&&Oq P ps fs
 | _,_=>false
def Kt (P:Program) (i:Info):TypeDesc->Bool
 | .int k=> !i.KN&& !i.Ia&&i.fields.isEmpty&&i.arr.isNone&&(i.kind==none||i.kind==some k)
 | .bool=>i.kind.isNone&& !i.Ia&&i.fields.isEmpty&&i.arr.isNone
 | .string=>i.kind.isNone&& !i.KN&&i.fields.isEmpty&&i.arr.isNone
 | .struct fs=>i.kind.isNone&& !i.KN&& !i.Ia&&i.arr.isNone&&(i.fields.isEmpty||Oq P i.fields fs.toList)
 | .array n e=>i.kind.isNone&& !i.KN&& !i.Ia&&i.fields.isEmpty&&(match i.arr with | some q=>n==q.1&&decide (2<=n)&&RA P e q.2.1 q.2.2==some true | none=>true)
 | _=>i.kind.isNone&& !i.KN&& !i.Ia&&i.fields.isEmpty&&i.arr.isNone
def VA (P:Program) (t:TypeId) (i:Info):Bool:=
 match P.underlying t with
 | some d=>(!i.known||aI P t i==some true)&&(!i.sl||Q9 P i (aK i) d==some true)&&(!i.pt||Q9 P i (fun ei z=>ei.size==1&&z.cells.size==1) d==some true)&&Kt P i d
 | none=> !i.known&& !i.sl&& !i.pt&&i.kind.isNone&& !i.KN&& !i.Ia&&i.arr.isNone
section
variable {P:Program} {t:TypeId} {i:Info}
def aJ {n:Nat} {g:Bool} (h:RA P t n g=some true):∃b d,P.info? t=some b/\P.underlying t=some d/\b.size=n/\d.isRow=g/\(g=false->n=1):=by
 simp only[RA,Option.bind_eq_bind,Option.bind_eq_some_iff,Option.some.injEq,Bool.and_eq_true,beq_iff_eq,Bool.or_eq_true] at h;obtain⟨b,c,d,j,⟨h3,l⟩,m⟩:=h;exact⟨b,d,c,j,h3,l,fun e=>m.resolve_left (by simp[e])⟩
def aG {f:TypeInfo->Value->Bool} {d:TypeDesc} (h:Q9 P i f d=some true):d= .slice i.Dq/\∃b z,P.info? i.Dq=some b/\b.zero=some z/\f b z=true:=by
 cases d <;> simp only[Q9,reduceCtorEq,Option.bind_eq_bind,Option.bind_eq_some_iff,Option.some.injEq,Bool.and_eq_true,beq_iff_eq] at h
 obtain⟨b,c,z,g,rfl,h3⟩:=h;exact⟨rfl,b,z,c,g,h3⟩
def aH:∀{c:List (Nat×Nat×Bool)} {fs:List Field},Oq P c fs=true->c.length=fs.length/\∀(f b n:Nat) (g:Bool),c[f]? =some (b,n,g)->∃fl d,fs[f]? =some fl/\fl.offset=b/\(P.info? fl.type).map (·.size)=some n/\0<n/\P.underlying fl.type=some d/\d.isRow=g/\(g=false->n=1)
 | [],[],_=>⟨rfl,AS⟩
 | p::c,f::fs,h=>by
  simp only[Oq,Bool.and_eq_true,beq_iff_eq,decide_eq_true_eq] at h;obtain⟨⟨⟨m,q⟩,h3⟩,u⟩:=h;obtain⟨g1,g2⟩:=aH u;obtain⟨A,d,v,x,y,z⟩:=aJ m;refine⟨by simp[g1],fun j b n g l=>?_⟩;cases j with
  | zero=>cases l;exact⟨f,d,rfl,q,by rw[v];exact congrArg some y,h3,x,z⟩
  | succ j=>exact g2 j b n g l
 | [],_::_,h | _::_,[],h=>by simp[Oq] at h
def jl (h:VA P t i=true):It P t i:=by
 unfold VA at h
 split at h
 ·rename_i d c
  simp only[Bool.and_eq_true,Bool.or_eq_true,Bool.not_eq_true',beq_iff_eq] at h;obtain⟨⟨⟨l,F⟩,h3⟩,m⟩:=h;have v:∀{j:TypeDesc},d=j->P.underlying t=some j:=fun e=>e ▸ c
  refine⟨fun C=>?_,fun k C=>v ?_,fun hb=>v ?_,fun hb=>v ?_,fun H=>?_,fun _ hf=>?_,fun q y=>?_,fun G=>?_⟩
  ·have l:=l.resolve_left (by simp[C]);simp only[aI,Option.bind_eq_bind,Option.bind_eq_some_iff,Option.some.injEq,Bool.and_eq_true,beq_iff_eq,Bool.or_eq_true] at l;obtain⟨A,e1,j,e2,z,b,⟨⟨p,u⟩,a3⟩,a4⟩:=l;exact⟨A,z,j,e1,p,b,YE u,e2,a3,fun ha=>a4.resolve_left (by simp[ha])⟩
  ·cases d <;> simp_all [Kt]
  ·cases d <;> simp_all [Kt]
  ·cases d <;> simp_all [Kt]
  ·obtain⟨rfl,x,z,e1,e2,b⟩:=aG (F.resolve_left (by simp[H]));simp only[aK,Bool.and_eq_true,beq_iff_eq,decide_eq_true_eq] at b;obtain⟨⟨⟨p,u⟩,a3⟩,a4⟩:=b;exact⟨c,x,z,e1,p,u,a3,e2,YE a4⟩
  ·cases d with
   | struct fs=>
    simp only[Kt,Bool.and_eq_true,Bool.or_eq_true,List.isEmpty_iff] at m;obtain⟨g1,g2⟩:=aH (m.2.resolve_left hf);exact⟨fs,c,by simpa using g1,fun f D n g y=>by simpa using g2 f D n g y⟩
   | _=>simp_all [Kt]
  ·cases d with
   | array n e=>
    simp only[Kt,y,Bool.and_eq_true,beq_iff_eq,decide_eq_true_eq] at m;obtain⟨⟨rfl,g1⟩,g2⟩:=m.2;obtain⟨A,d,J,K,L,M,N⟩:=aJ g2;exact⟨e,A,d,c,J,L,K,M,N,g1⟩
   | _=>simp_all [Kt]
  obtain⟨rfl,x,z,e1,e2,b⟩:=aG (h3.resolve_left (by simp[G]));simp only[Bool.and_eq_true,beq_iff_eq] at b;exact⟨c,x,z,e1,b.1,e2,b.2⟩
 simp only[Bool.and_eq_true,Bool.not_eq_true',Option.isNone_iff_eq_none] at h
 constructor <;> simp_all
end
def eO:Info:={known:=false,Cg:=false}
def yO (P:Program) (t:TypeId):It P t eO:=jl (by unfold VA;split <;> first | rfl | (rename_i d _;cases d <;> rfl))
end Go.Abs
namespace Go.Abs
abbrev jW:T:= .pr .bool (.sl .u32)
abbrev AJ:T:= .pr jW jW
abbrev Ae:T:= .pr (.sl (.sl AJ)) (.sl AJ)
abbrev Co:T:= .pr Ae Ae
abbrev N5:T:= .pr AJ (.sl .i64)
abbrev jV:T:= .pr .i64 (.pr (.sl .i64) (.pr (.sl .i64) (.pr (.sl .ex) .i64)))
abbrev C2:T:= .pr .u8 (.pr .u8 (.pr .u8 (.pr .i8 .u8)))
def TI:TypeId->Info
 |2|3=>{size:=1,zero:=[.int .i64 0],kind:=some .i64,Cg:=false}
 | 4=>{size:=1,zero:=[.bool false],KN:=true,Cg:=false}
 | 5=>{size:=1,zero:=[.int .u8 0],kind:=some .u8,Cg:=false}
 |27|28=>{size:=1,zero:=[.nil],sl:=true,Dq:=100,elem:=C2,Cg:=((0,0,0,0,0):el C2),FQ:=5}
 | 36=>{size:=1,zero:=[.nil],sl:=true,Dq:=26,elem:=(.sl AJ),Cg:=([]:el (.sl AJ)),FQ:=24}
 | 26=>{size:=1,zero:=[.nil],sl:=true,Dq:=68,elem:=AJ,Cg:=(((false,[]),(false,[])):el AJ),FQ:=64}
 | 38=>{size:=2,zero:=[.nil,.nil],agg:=true,Cg:=false,fields:=[(0,1,false),(1,1,false)]}
 | 47=>{size:=1,zero:=[.int .i64 0],kind:=some .i64,Cg:=false}
 | 32=>{size:=1,zero:=[.nil],sl:=true,Dq:=38,elem:=Ae,Cg:=(([],[]):el Ae),FQ:=48}
 | 29=>{size:=1,zero:=[.nil],sl:=true,Dq:=5,elem:= .u8,Cg:=(0:el .u8),FQ:=1}
 | 50=>{size:=1,zero:=[.nil],sl:=true,Dq:=42,elem:=Co,Cg:=((([],[]),([],[])):el Co),FQ:=96}
 | 42=>{size:=4,zero:=[.nil,.nil,.nil,.nil],agg:=true,Cg:=false,fields:=[(0,2,true),(2,2,true)]}
 | 64=>{size:=1,zero:=[.nil],sl:=true,Dq:=213,elem:= .u32,Cg:=(0:el .u32),FQ:=4}
 | 66=>{size:=2,zero:=[.bool false,.nil],agg:=true,Cg:=false,fields:=[(0,1,false),(1,1,false)]}
 | 68=>{size:=4,zero:=[.bool false,.nil,.bool false,.nil],agg:=true,Cg:=false,fields:=[(0,2,true),(2,2,true)]}
 | 98=>{size:=1,zero:=[.int .i8 0],kind:=some .i8,Cg:=false}
 | 100=>{size:=5,zero:=[.int .u8 0,.int .u8 0,.int .u8 0,.int .i8 0,.int .u8 0],agg:=true,Cg:=false,fields:=[(0,1,false),(1,1,false),(2,1,false),(3,1,false),(4,1,false)]}
 | 273=>{size:=2,zero:=[.nil,.nil],agg:=true,Cg:=false,fields:=[(0,1,false),(1,1,false)]}
 | 213=>{size:=1,zero:=[.int .u32 0],kind:=some .u32,Cg:=false}
 |179|216=>{size:=1,zero:=[.int .u64 0],kind:=some .u64,Cg:=false}
 |188|148=>{size:=1,zero:=[.int .i64 0],agg:=true,Cg:=false,fields:=[(0,1,false)]}
 | 40=>{size:=6,zero:=[.nil,.nil,.nil,.nil,.nil,.nil],agg:=true,Cg:=false,fields:=[(0,2,true),(2,2,true),(4,2,true)]}
 |230|204=>{size:=1,zero:=[.int .i64 0],agg:=true,Cg:=false,fields:=[(0,1,false)]}
 | 44=>{size:=6,zero:=[.nil,.nil,.nil,.nil,.nil,.nil],agg:=true,Cg:=false,fields:=[(0,4,true),(4,2,true)]}
 | 46=>{size:=21,zero:=[.int .i64 0,.nil,.nil,.nil,.nil,.nil,.nil,.nil,.nil,.nil,.nil,.nil,.nil,.nil,.nil,.nil,.nil,.nil,.nil,.nil,.nil],agg:=true,Cg:=false,fields:=[(0,1,false),(1,6,true),(7,4,true),(11,6,true),(17,4,true)]}
 | 22=>{size:=1,zero:=[.nil],sl:=true,Dq:=3,elem:= .i64,Cg:=(0:el .i64),FQ:=8}
 | 9=>{size:=1,zero:=[.str ByteArray.empty],Ia:=true,Cg:=false}
 | 25=>{size:=5,zero:=[.int .i64 0,.nil,.nil,.nil,.int .i64 0],agg:=true,Cg:=false,fields:=[(0,1,false),(1,1,false),(2,1,false),(3,1,false),(4,1,false)]}
 | 71=>{size:=7,zero:=[.int .i64 0,.bool false,.nil,.bool false,.nil,.str ByteArray.empty,.nil],agg:=true,Cg:=false,fields:=[(0,1,false),(1,4,true),(5,1,false),(6,1,false)]}
 | 23=>{size:=1,zero:=[.nil],sl:=true,Dq:=71,elem:= .ex,Cg:=((Ex.mk 0 ((false,[]),(false,[])) ByteArray.empty []):el .ex),FQ:=112}
 | 31=>{size:=10,zero:=[.int .i64 0,.nil,.nil,.nil,.int .i64 0,.nil,.nil,.int .i64 0,.nil,.nil],agg:=true,Cg:=false,fields:=[(0,5,true),(5,1,false),(6,1,false),(7,1,false),(8,1,false),(9,1,false)]}
 | 79=>{size:=10,zero:=[.int .i64 0,.nil,.nil,.nil,.int .i64 0,.nil,.nil,.int .i64 0,.nil,.int .i64 0],agg:=true,Cg:=false,fields:=[(0,5,true),(5,1,false),(6,1,false),(7,1,false),(8,1,false),(9,1,false)]}
 | 106=>{size:=7,zero:=[.str ByteArray.empty,.int .i64 0,.int .i64 0,.int .i64 0,.int .i64 0,.int .i64 0,.bool false],agg:=true,Cg:=false,fields:=[(0,1,false),(1,1,false),(2,1,false),(3,1,false),(4,1,false),(5,1,false),(6,1,false)]}
 | 169=>{size:=1,zero:=[.nil],sl:=true,Dq:=106,elem:=(.pr .str (.pr .i64 (.pr .i64 (.pr .i64 (.pr .i64 (.pr .i64 .bool)))))),Cg:=((ByteArray.empty,0,0,0,0,0,false):el (.pr .str (.pr .i64 (.pr .i64 (.pr .i64 (.pr .i64 (.pr .i64 .bool))))))),FQ:=64}
 |135|77=>{size:=1,zero:=[.Cb],Cg:=false}
 | 137=>{size:=1,zero:=[.nil],pt:=true,Dq:=135,Cg:=false}
 | 126=>{size:=2,zero:=[.int .i64 0,.int .i64 0],agg:=true,Cg:=false,arr:=some (2,1,false)}
 | 127=>{size:=6,zero:=[.int .i64 0,.int .i64 0,.int .i64 0,.int .i64 0,.int .i64 0,.int .i64 0],agg:=true,Cg:=false,arr:=some (3,2,true)}
 | 191=>{size:=4,zero:=[.int .i64 0,.int .i64 0,.int .i64 0,.int .i64 0],agg:=true,Cg:=false,arr:=some (4,1,false)}
 | 163=>{size:=5,zero:=[.bool false,.nil,.bool false,.nil,.nil],agg:=true,Cg:=false,fields:=[(0,4,true),(4,1,false)]}
 |95|96=>{size:=1,zero:=[.nil],sl:=true,Dq:=163,elem:=N5,Cg:=((((false,[]),(false,[])),[]):el N5),FQ:=88}
 | 93=>{size:=1,zero:=[.nil],sl:=true,Dq:=96,elem:=(.sl N5),Cg:=([]:el (.sl N5)),FQ:=24}
 | 153=>{size:=2,zero:=[.nil,.nil],agg:=true,Cg:=false,fields:=[(0,1,false),(1,1,false)]}
 | _=>eO
def jd (t:TypeId):It Tryz.prog t (TI t):=by
 unfold TI
 split <;> first | exact yO _ _ | exact jl (by kernel_rfl)
def dr:Tryz.prog.follows .mixedOrders=true:=by kernel_rfl
end Go.Abs
namespace Go.Abs
def JW (fn : Func) : Bool := (fn.name == "runtime.NumGoroutine") == false && match fn.body with | some c => I4 c | none => false
def Qu (Q:List ResultVar->AX->St->Prop) (E:Env) (fn:Func) (s:St):Prop:=
 match fn.body with
 | some c=>EO E TI fn.ntmps c (Q fn.results.toList) s
 | none=>False
abbrev Qt (E:Env) (fn:Func) (r:AV) (b1:Option BD) (s:St):Prop:=Qu (fun rs=>post TI rs r b1) E fn s
abbrev Uw (E:Env) (fn:Func) (r:AV) (b0:BD) (s:St):Prop:=Qu (fun rs=>XG TI rs r b0) E fn s
section
variable {f:FuncId} {fn:Func} (hf:Tryz.prog.funcs[f]? =some fn) (ho:JW fn=true) {b0 b1:BD} {c0:AC} {args:List AV} {r:AV}
def Vg {Q:List ResultVar->AX->St->Prop} {s:St} (hf:Tryz.prog.funcs[f]? =some fn) (ho:JW fn=true) (h:∀E,env Tryz.prog=E->Qu Q E fn s):∃c,Fn Tryz.prog TI f fn.ntmps c fn.results.toList/\EO (env Tryz.prog) TI fn.ntmps c (Q fn.results.toList) s:=by
 have h:=h _ rfl;unfold Qu at h;unfold JW at ho;simp only[Bool.and_eq_true] at ho
 split at h
 ·rename_i c b
  rw[b] at ho;exact⟨c,⟨⟨fn,hf,by simpa using ho.1,b,rfl,rfl⟩,ho.2,jd,dr⟩,h⟩
 exact h.elim
def na (hf:Tryz.prog.funcs[f]? =some fn) (ho:JW fn=true) (b:(Nv args&&(r.all IC&&(r.wf&&Nat.ble args.length fn.ntmps)))=true)
  (h:∀E,env Tryz.prog=E->Qt E fn r none (Fa fn.ntmps args none)):Eo Tryz.prog false f args r:=by
 obtain⟨c,F,h⟩:=Vg hf ho h;simp only[Bool.and_eq_true,Nat.ble_eq] at b;exact nf F b.1 ⟨b.2.1,b.2.2.1⟩ b.2.2.2 h
def ua {TI:TypeId->Info} {rs:List ResultVar} {x:AX} {s:St} (h:post TI rs r (some b1) x s) (b:r.all KO=true):(∀i,x≠ .exit i)/\∃xs,Lc TI s rs=some xs/\(Me (AR s.bk) xs r.KE/\(r.all KO=true\/(xs.all fun x=>x.2.all Nj)=true/\r.all ET=true)/\(rs.length=1↔∀ys,r≠ .BI ys))/\AR s.bk 0=some b1:=by
 unfold post at h
 split at h
 ·exact h.elim
 rename_i c
 split at h
 ·rename_i xs e
  exact⟨fun i e=>c i e,xs,e,⟨(h.1 ()).1,.inl b,(h.1 ()).2.2⟩,h.2 ()⟩
 exact h.elim
def uZ {TI:TypeId->Info} {rs:List ResultVar} {x:AX} {s:St} (h:XG TI rs r b1 x s) (j:r.all ET=true):(∀i,x≠ .exit i)/\∃xs,Lc TI s rs=some xs/\(Me (AR s.bk) xs r.KE/\(r.all KO=true\/(xs.all fun x=>x.2.all Nj)=true/\r.all ET=true)/\(rs.length=1↔∀ys,r≠ .BI ys))/\AR s.bk 0=some b1:=by
 unfold XG at h
 split at h
 ·exact h.elim
 rename_i l
 split at h
 ·rename_i xs e
  obtain⟨⟨b,c,h3⟩,g⟩:=h ();exact⟨fun i e=>l i e,xs,e,⟨b,.inr ⟨c,j⟩,h3⟩,g⟩
 exact h.elim
def Og (hf:Tryz.prog.funcs[f]? =some fn) (ho:JW fn=true) (g:(Nv args&&(r.all KO&&(Nat.ble (args.length+1) fn.ntmps&&(SH c0&&(b0.lone&&b1.lone)))))=true)
  (h:∀E,env Tryz.prog=E->Qt E fn r (some b1) (Fa fn.ntmps (.one c0::args) (some b0))):Kg Tryz.prog f c0 b0 args r b1:=by
 obtain⟨c,F,h⟩:=Vg hf ho h;simp only[Bool.and_eq_true,Nat.ble_eq] at g;obtain⟨j,l,h3,m,b⟩:=g;exact⟨b.1,dP F (by have:=ZZ j;unfold ML at this ⊢;rw[List.all_cons,this,Bool.and_true];exact m) b ⟨h3,AA⟩ (fun x s q=>ua q l) h⟩
def CM (hf:Tryz.prog.funcs[f]? =some fn) (ho:JW fn=true) (j:(ML args&&(r.all ET&&(b0.lone&&(b1.lone&&(Nat.ble args.length fn.ntmps&&Nat.ble 1 fn.ntmps)))))=true)
  (h:∀E,env Tryz.prog=E->Uw E fn r b1 (Fa fn.ntmps args (some b0))):Bp Tryz.prog f args b0 r b1:=by
 obtain⟨c,F,h⟩:=Vg hf ho h;simp only[Bool.and_eq_true,Nat.ble_eq] at j;obtain⟨l,b,h3,g,m,n⟩:=j;exact⟨⟨b,h3,g⟩,dP F l ⟨h3,g⟩ ⟨m,n⟩ (fun x s q=>uZ q b) h⟩
def o6 (hf:Tryz.prog.funcs[f]? =some fn) (ho:JW fn=true) (b:(ML args&&(r.all ET&&(b0.lone&&(Nat.ble args.length fn.ntmps&&Nat.ble 1 fn.ntmps))))=true)
 (h:∀E,env Tryz.prog=E->Uw E fn r b0 (Fa fn.ntmps args (some b0))):Cz Tryz.prog f args b0 r:=CM hf ho (by simp only[Bool.and_eq_true] at b ⊢;exact⟨b.1,b.2.1,b.2.2.1,b.2.2.1,b.2.2.2⟩) h
variable {E:Env} {fl:Bool}
def BJ (b:env Tryz.prog=E) (h:Bp Tryz.prog f args b0 r b1):E.W f args b0 r b1:=b ▸ h
def G3 (b:env Tryz.prog=E) (h:Cz Tryz.prog f args b0 r):E.D f args b0 r:=b ▸ h
def Im (b:env Tryz.prog=E) (h:Eo Tryz.prog fl f args r):E.C fl f args r:=b ▸ h
def Fb (b:env Tryz.prog=E) (h:Kg Tryz.prog f c0 b0 args r b1):E.B f c0 b0 args r b1:=b ▸ h
end
def zq:AV->Nat
 | .one (.sl _ l)=>l.length
 | _=>0
def zo:AV->Int
 | .one (.int _ n)=>n
 | _=>0
def TK {z:ByteArray} {n:Int} (h:n.toNat<z.size):∃b:UInt8,z.data[n.toNat]? =some b:=⟨_,Array.getElem?_eq_getElem h⟩
def Eo.yu {P:Program} {fl:Bool} {f:FuncId} {args:List AV} {t:T} {l:List (el t)} {n:Nat} {c:Bool} (h:Eo P fl f args (.BI [(false,[.own t l n]),(false,[.bool c])])):Eo P fl f args (.BI [(false,[.sl t l]),(false,[.bool c])]):=by
 obtain⟨_,G,h⟩:=h;refine⟨⟨rfl,rfl⟩,G,fun w I ob vs ho F D C ha=>?_⟩;obtain rfl:ob=none:=ho.resolve_left nofun;refine (h w I none vs ho F D C ha).mono fun e w' ⟨u,L,he,hf,j,hb⟩=>⟨u,none,he,hf,?_,trivial,trivial⟩
 obtain⟨arr,hu,j⟩:=j;refine⟨arr,hu,?_⟩;obtain⟨g,p⟩:∃g,g=arr.toList:=⟨_,rfl⟩
 rw[<-p] at j ⊢
 match g,j with
 | [v1,v2],.cons m (.cons A .nil)=>
  refine .cons ?_ (.cons A .nil);have m:=m.resolve_left nofun;obtain⟨_,base,cap,H,x,K,a3,a4⟩:=m;refine .inr ⟨base,cap,by rw[H],x,a3,?_⟩;rcases a4 with⟨rfl,b2,b3⟩ |⟨b,q,M,rfl,b1,rfl,b2,b3,z⟩
  ·exact .inl b2
  exact .inr ⟨b,0,rfl,⟨.inr b1,(Array.getElem?_eq_some_iff.1 b2).1,nofun,nofun⟩,fun i y J=>let ⟨us,k1,k2⟩:=z i y J;⟨us,FY (fun _ k v=>⟨⟨v.1,v.2.1,nofun,nofun⟩,rfl⟩) _ _ _ k1,by rw[Nat.zero_add];exact k2⟩⟩
end Go.Abs
namespace Go.Abs
abbrev LR:=List (el AJ)
abbrev CF:=Eo Tryz.prog false
def cL {E:Env} {fl:Bool} {g:FuncId} {args:List AV} {r:AV} {L:List AV->Prop} {K:AV->Prop} {X:Prop} (b:env Tryz.prog=E) (h:Eo Tryz.prog fl g args r) (j:L args) (c:K r):
 (∃(a:List AV) (r:AV),(Unit->L a)/\(Unit->E.C fl g a r)/\K r)\/X:= .inl ⟨args,r,fun _=>j,fun _=>Im b h,c⟩
def fA {A B C:Prop} (h:A) (hb:B) (b:C):(Unit->A/\B/\C)/\True:=⟨fun _=>⟨h,hb,b⟩,trivial⟩
def i64 {c:Int} (h: -9223372036854775808<=c/\c<9223372036854775808):Ej c:=h
def g2 {P:Sort _} {A C:Prop} (a:A) (h:C):(P->A)/\C:=⟨fun _=>a,h⟩
def g1 {P:Sort _} {C:Prop} {x:Int} (a: -9223372036854775808<=x/\x<9223372036854775808) (h:C):(P->Ej x)/\C:=⟨fun _=>i64 a,h⟩
def t1 {α:Sort _} {a:α}:a=a/\True:=⟨rfl,trivial⟩
def t2 {α β:Sort _} {a:α} {b:β}:a=a/\b=b/\True:=⟨rfl,t1⟩
def t3 {α β γ:Sort _} {a:α} {b:β} {c:γ}:a=a/\b=b/\c=c/\True:=⟨rfl,t2⟩
def t4 {α β γ δ:Sort _} {a:α} {b:β} {c:γ} {d:δ}:a=a/\b=b/\c=c/\d=d/\True:=⟨rfl,t3⟩
def xR (a:LR):∃z:LR,z=a:=⟨_,rfl⟩
def xV (a:List LR):∃z:List LR,z=a:=⟨_,rfl⟩
def xN (a:Nat):∃z:Nat,z=a:=⟨_,rfl⟩
def xI (a:Int):∃z:Int,z=a:=⟨_,rfl⟩
def xB (a:Bool):∃z:Bool,z=a:=⟨_,rfl⟩
def xU (a:List UInt32):∃z:List UInt32,z=a:=⟨_,rfl⟩
def xJ (a:List AV->List BD->Nat->Prop):∃J:List AV->List BD->Nat->Prop,J=a:=⟨_,rfl⟩
def xK (a:List AV->List BD->Prop):∃J:List AV->List BD->Prop,J=a:=⟨_,rfl⟩
end Go.Abs
namespace Go.Abs
abbrev BB:AC:= .sl (.sl AJ) []
abbrev BC:AC:= .sl AJ []
abbrev Bu (b:Bool) (l:List UInt32):List AC:=[.bool b,.sl .u32 l]
abbrev CP (b:Bool) (l:List UInt32) (c:Bool) (m:List UInt32):List AC:=[.bool b,.sl .u32 l,.bool c,.sl .u32 m]
abbrev AY (T1:List (List (el AJ))) (A1:List (el AJ)):List AC:=[.sl (.sl AJ) T1,.sl AJ A1]
abbrev Ag (T1:List (List (el AJ))) (A1:List (el AJ)) (T2:List (List (el AJ))) (A2:List (el AJ)):List AC:=[.sl (.sl AJ) T1,.sl AJ A1,.sl (.sl AJ) T2,.sl AJ A2]
abbrev DL (T1:List (List (el AJ))) (A1:List (el AJ)) (T2:List (List (el AJ))) (A2:List (el AJ)) (T3:List (List (el AJ))) (A3:List (el AJ)):List AC:=[.sl (.sl AJ) T1,.sl AJ A1,.sl (.sl AJ) T2,.sl AJ A2,.sl (.sl AJ) T3,.sl AJ A3]
abbrev zu (T1:List (List (el AJ))) (A1:List (el AJ)) (T2:List (List (el AJ))) (A2:List (el AJ)) (T3:List (List (el AJ))) (A3:List (el AJ)) (T4:List (List (el AJ))) (A4:List (el AJ)):List AC:=[.sl (.sl AJ) T1,.sl AJ A1,.sl (.sl AJ) T2,.sl AJ A2,.sl (.sl AJ) T3,.sl AJ A3,.sl (.sl AJ) T4,.sl AJ A4]
abbrev zv (T1:List (List (el AJ))) (A1:List (el AJ)) (T2:List (List (el AJ))) (A2:List (el AJ)) (T3:List (List (el AJ))) (A3:List (el AJ)) (T4:List (List (el AJ))) (A4:List (el AJ)) (T5:List (List (el AJ))) (A5:List (el AJ)):List AC:=[.sl (.sl AJ) T1,.sl AJ A1,.sl (.sl AJ) T2,.sl AJ A2,.sl (.sl AJ) T3,.sl AJ A3,.sl (.sl AJ) T4,.sl AJ A4,.sl (.sl AJ) T5,.sl AJ A5]
abbrev zt (T1:List (List (el AJ))) (A1:List (el AJ)) (T2:List (List (el AJ))) (A2:List (el AJ)) (T3:List (List (el AJ))) (A3:List (el AJ)) (T4:List (List (el AJ))) (A4:List (el AJ)) (m:Bool):List AC:=[.sl (.sl AJ) T1,.sl AJ A1,.sl (.sl AJ) T2,.sl AJ A2,.sl (.sl AJ) T3,.sl AJ A3,.sl (.sl AJ) T4,.sl AJ A4,.bool m]
def Ps:AC->Bool
 | .int _ _=>true | .bool _=>true | .fn _=>true | .nil=>true | .sl _ _=>true
 |.DM _ _ _|.GA _ _|.str _=>true
 | _=>false
def Mh:List AV->Bool
 | []=>true
 | .one c::l=>Ps c&&Mh l
 | .agg cs::l=>cs.all Ps&&Mh l
 | .BI _::_=>false
def dR:∀{c:AC},Ps c=true->Gc c c
 |.int _ _,_|.bool _,_|.fn _,_=>rfl
 | .nil,_=> .inl rfl
 |.sl _ _,_|.DM _ _ _,_|.GA _ _,_|.str _,_=>rfl
def ZU:∀{cs:List AC},cs.all Ps=true->E2 Gc cs cs
 | [],_=>trivial
 | c::l,h=>by
  rw[List.all_cons,Bool.and_eq_true] at h;exact⟨dR h.1,ZU h.2⟩
def Uk:∀{a:List AV},Mh a=true->Fy Gc a a
 | [],_=>trivial
 | .one c::l,h=>by
  unfold Mh at h;rw[Bool.and_eq_true] at h;exact⟨dR h.1,Uk h.2⟩
 | .agg cs::l,h=>by
  unfold Mh at h;rw[Bool.and_eq_true] at h;exact⟨ZU h.1,Uk h.2⟩
def Be {E:Env} {fl:Bool} {g:FuncId} {args:List AV} {r:AV} {K:AV->Prop} {X:Prop} (b:env Tryz.prog=E) (h:Eo Tryz.prog fl g args r) (c:K r) (j:Mh args=true:=by rfl):
 (∃(a:List AV) (r:AV),(Unit->Fy Gc args a)/\(Unit->E.C fl g a r)/\K r)\/X:= .inl ⟨args,r,fun _=>Uk j,fun _=>Im b h,c⟩
def SJ:AC->AC
 | .Aj t _ _ off len=> .Aj t 0 0 off len
 | .BU _ _ off=> .BU 0 0 off
 | c=>c
def MN:List AV->List AV
 | []=>[]
 | .one c::l=> .one (SJ c)::MN l
 | .agg cs::l=> .agg (cs.map SJ)::MN l
 | .BI x::l=> .BI x::MN l
def Nl (id v:Nat):AC->Bool
 |.Aj _ i w _ _|.BU i w _=>Nat.beq i id&&Nat.beq w v
 |.DM _ _ _|.GA _ _|.str _=>false
 | c=>Ps c
def MU (id v:Nat):List AV->Bool
 | []=>true
 | .one c::l=>Nl id v c&&MU id v l
 | .agg cs::l=>cs.all (Nl id v)&&MU id v l
 | .BI _::_=>false
def dV {id v:Nat}:∀{c:AC},Nl id v c=true->Ji id v c (SJ c)
 | .Aj _ i w _ _,h=>by
  unfold Nl at h;rw[Bool.and_eq_true] at h;exact⟨⟨Nat.eq_of_beq_eq_true h.1,Nat.eq_of_beq_eq_true h.2⟩,rfl⟩
 | .BU i w _,h=>by
  unfold Nl at h;rw[Bool.and_eq_true] at h;exact⟨⟨Nat.eq_of_beq_eq_true h.1,Nat.eq_of_beq_eq_true h.2⟩,rfl⟩
 |.int _ _,_|.bool _,_|.fn _,_=>rfl
 | .nil,_=> .inl rfl
 | .sl _ _,_=>rfl
 |.DM _ _ _,h|.GA _ _,h|.str _,h=>by cases h
def dU {id v:Nat}:∀{cs:List AC},cs.all (Nl id v)=true->E2 (Ji id v) cs (cs.map SJ)
 | [],_=>trivial
 | c::l,h=>by
  rw[List.all_cons,Bool.and_eq_true] at h;exact⟨dV h.1,dU h.2⟩
def WC {id v:Nat}:∀{a:List AV},MU id v a=true->Fy (Ji id v) a (MN a)
 | [],_=>trivial
 | .one c::l,h=>by
  unfold MU at h;rw[Bool.and_eq_true] at h;exact⟨dV h.1,WC h.2⟩
 | .agg cs::l,h=>by
  unfold MU at h;rw[Bool.and_eq_true] at h;exact⟨dU h.1,WC h.2⟩
def KF {E:Env} {g:FuncId} {args:List AV} {r:AV} {bk:Nat->Option BD} {K:Nat->AV->Prop} {c j l m:Prop} (id v:Nat) (n:env Tryz.prog=E) (h:Cz Tryz.prog g (MN args) (.var 0 [.int .i64 0]) r) (p:K id r) (hb:bk id=some (.var v [.int .i64 0]):=by rfl) (ho:MU id v args=true:=by rfl):
 c\/j\/l\/(∃(id:Nat) (b:BD) (a:List AV) (r:AV),(Unit->bk id=some b/\Fy (Ji id b.BP) args a)/\(Unit->E.D g a (b.FZ 0) r)/\K id r)\/m:= .inr (.inr (.inr (.inl ⟨id,.var v [.int .i64 0],MN args,r,fun _=>⟨hb,WC ho⟩,fun _=>G3 n h,p⟩)))
def CG {bk:Nat->Option BD} {t:T}:KY bk .nil (.sl t []):= .inr (.inl ⟨_,rfl⟩)
def D6 {P:Sort _} {C:Prop} {x:Int} (h:C) (a: -9223372036854775808<=x/\x<9223372036854775808:=by omega):(P->Ej x)/\C:=⟨fun _=>a,h⟩
def GL {P:Sort _} {A C:Prop} (h:C) (a:A:=by omega):(P->A)/\C:=⟨fun _=>a,h⟩
def AN {A B C:Prop} (h:A) (hb:B:=by rfl) (b:C:=by simp):(Unit->A/\B/\C)/\True:=⟨fun _=>⟨h,hb,b⟩,trivial⟩
def G7 {x:Bool} {K:Bool->Prop} (k:K true) (h:x=true:=by decide):∀c,c=x->K c:=fun _ e=>by rw[e,h];exact k
def IZ {x:Bool} {K:Bool->Prop} (k:K false) (h:x=false:=by decide):∀c,c=x->K c:=fun _ e=>by rw[e,h];exact k
def IN {f:FuncId} {fn:Func} (hf:Tryz.prog.funcs[f]? =some fn) {args:List AV} {r:AV} (h:∀E,env Tryz.prog=E->Qt E fn r none (Fa fn.ntmps args none)) (ho:JW fn=true:=by kernel_rfl) (b:(Nv args&&(r.all IC&&(r.wf&&Nat.ble args.length fn.ntmps)))=true:=by rfl):Eo Tryz.prog false f args r:=na hf ho b h
def DW {f:FuncId} {fn:Func} (hf:Tryz.prog.funcs[f]? =some fn) {b0:BD} {args:List AV} {r:AV} (h:∀E,env Tryz.prog=E->Uw E fn r b0 (Fa fn.ntmps args (some b0))) (ho:JW fn=true:=by kernel_rfl) (b:(ML args&&(r.all ET&&(b0.lone&&(Nat.ble args.length fn.ntmps&&Nat.ble 1 fn.ntmps))))=true:=by rfl):Cz Tryz.prog f args b0 r:=o6 hf ho b h
def Oy {a b:Int} {K:Bool->Prop} (f:b<=a->K false) (t:a<b->K true):∀c,c=decide (a<b)->K c:=fun c h=>by subst h;by_cases e:a<b <;> simp only[e,decide_true,decide_false] <;> first | exact t e | exact f AA
def Ox {a b:Int} {K:Bool->Prop} (f:b<a->K false) (t:a<=b->K true):∀c,c=decide (a<=b)->K c:=fun c h=>by subst h;by_cases e:a<=b <;> simp only[e,decide_true,decide_false] <;> first | exact t e | exact f AA
def RF {a b:Int} {K:Bool->Prop} (f:a<=b->K false) (t:b<a->K true):∀c,c=decide (a>b)->K c:=Oy f t
def M8 {a b:Int} {K:Bool->Prop} (f:a<b->K false) (t:b<=a->K true):∀c,c=decide (a >= b)->K c:=Ox f t
def I0 {a b:Int} {K:Bool->Prop} (f:a≠b->K false) (t:a=b->K true):∀c,c=(a==b)->K c:=fun c h=>by subst h;by_cases e:a=b <;> first | (rw[beq_iff_eq.2 e];exact t e) | (rw[beq_eq_false_iff_ne.2 e];exact f e)
def Dr {a b:Int} {K:Bool->Prop} (f:a=b->K false) (t:a≠b->K true):∀c,c=(a !=b)->K c:=fun c h=>by subst h;by_cases e:a=b <;> first | (rw[show (a !=b)=false from by simp[e]];exact f e) | (rw[show (a !=b)=true from by simp[e]];exact t e)
def aW {a:Bool} {K:Bool->Prop} (f:a=true->K false) (t:a=false->K true):∀c,c= !a->K c:=fun c h=>by subst h;cases a <;> first | exact f rfl | exact t rfl
def RQ {a b:Int} {K:Bool->Prop} (t:a<b->K true) (f:b<=a->K false):∀c,c=decide (a<b)->K c:=Oy f t
def pY {a b:Int} {K:Bool->Prop} (t:a<=b->K true) (f:b<a->K false):∀c,c=decide (a<=b)->K c:=Ox f t
def RP {a b:Int} {K:Bool->Prop} (t:b<a->K true) (f:a<=b->K false):∀c,c=decide (a>b)->K c:=Oy f t
def pX {a b:Int} {K:Bool->Prop} (t:b<=a->K true) (f:a<b->K false):∀c,c=decide (a >= b)->K c:=Ox f t
def NI {a b:Int} {K:Bool->Prop} (t:a=b->K true) (f:a≠b->K false):∀c,c=(a==b)->K c:=I0 f t
def NJ {a b:Int} {K:Bool->Prop} (t:a≠b->K true) (f:a=b->K false):∀c,c=(a !=b)->K c:=Dr f t
def RT {a:Bool} {K:Bool->Prop} (t:a=false->K true) (f:a=true->K false):∀c,c= !a->K c:=aW f t
def AO {α β γ:Sort _} {x:γ} {f:α->β} {a b:α} {B C:Prop} (h:a=b) (hb:B:=by rfl) (c:C:=by simp):(Unit->((x=x/\f a=f b/\True)/\True)/\B/\C)/\True:=AN ⟨⟨rfl,congrArg f h,trivial⟩,trivial⟩ hb c
def Bh {α:Type} {X:List α} {n n':Nat} {A:Prop} {K:α->Prop} {x:α} (h:X[n']? =some x) (k:K x) (e:n=n':=by omega) (a:A:=by omega):∃x,(Unit->A/\X[n]? =some x)/\K x:=⟨x,fun _=>⟨a,e ▸ h⟩,k⟩
def BX {X:Prop} {C:Type} {V:C->List Nat->List Nat->List AV} {Q:C->List Nat->List Nat->List BD} {R:C->List Nat->List Nat->(List AV->List BD->Nat->Prop)->List AV->List BD->Nat->Prop} (cv:C) (l k:List Nat) (J:List AV->List BD->Nat->Prop) (m:Nat) (h:J (V cv l k) (Q cv l k) m)
 (g:∀c,c=J->∀vs b n,J vs b n->R cv l k c vs b n):X\/∃cv l k J,(∃n,J (V cv l k) (Q cv l k) n)/\∀vs b n,J vs b n->R cv l k J vs b n:= .inr ⟨cv,l,k,J,⟨m,h⟩,g J rfl⟩
def Bj {I J:List AV->List BD->Nat->Prop} {vs:List AV} {b:List BD} {m n:Nat} (e:I=J) (h:J vs b n) (d:n<m:=by omega):∃n,n<m/\I vs b n:=⟨n,d,e ▸ h⟩
def BA {α:Type} {X:List α} {n:Nat} {A:Prop} {K:α->Prop} (n':Nat) (k:∀x,X[n']? =some x->K x) (b:n'<X.length:=by omega) (e:n=n':=by omega) (a:A:=by omega):∃x,(Unit->A/\X[n]? =some x)/\K x:=
 ⟨X[n'],fun _=>⟨a,by rw[e];exact List.getElem?_eq_getElem b⟩,k _ (List.getElem?_eq_getElem b)⟩
def Af {P Q:Prop} (h:Q) (e:P=Q:=by (repeat ((try (apply Eq.trans;(conv=>lhs;cbv)));(with_reducible apply forall_congr);intro));(try (conv=>lhs;cbv));all_goals rfl):P:=e.mpr h
def aGo {P:Sort _} {A C D:Prop} (a:A) (h:C=D):((P->A)/\C)=D:=propext ⟨fun x=>h ▸ x.2,fun x=>⟨fun _=>a,h.symm ▸ x⟩⟩
def Ed {α β γ δ σ:Sort _} {x:γ} {f:α->β} {g:δ->σ} {a b:α} {c d:δ} {B C:Prop} (h:a=b) (k:c=d) (hb:B:=by rfl) (j:C:=by simp):(Unit->((x=x/\f a=f b/\g c=g d/\True)/\True)/\B/\C)/\True:=AN ⟨⟨rfl,congrArg f h,congrArg g k,trivial⟩,trivial⟩ hb j
def DY {P Q:Prop} (e:P=Q:=by (repeat ((try (apply Eq.trans;(conv=>lhs;cbv)));first | ((with_reducible apply forall_congr);intro x;(fail_if_success have:=(rfl:x=()));(try have:=x.eq);(try have:=x.le);(try have:=x.lt)) | (apply aGo;(first | rfl | omega | (unfold Ej;omega) | exact⟨AA,AA⟩ | exact⟨AA,AA,by unfold Ej;omega⟩))));(try (conv=>lhs;cbv));all_goals rfl):P=Q:=e
def AM {P Q:Prop} (h:Q) (e:P=Q:=by exact DY):P:=e.mpr h
def AB {E:Env} {fl:Bool} {g:FuncId} {args:List AV} {r:AV} {K:AV->Prop} {X Q:Prop} (b:env Tryz.prog=E) (h:Eo Tryz.prog fl g args r) (c:Q) (j:Mh args=true:=by rfl) (e:K r=Q:=by exact DY):
 (∃(a:List AV) (r:AV),(Unit->Fy Gc args a)/\(Unit->E.C fl g a r)/\K r)\/X:=Be b h (e.mpr c) j
def cLy {E:Env} {fl:Bool} {g:FuncId} {args:List AV} {r:AV} {L:List AV->Prop} {K:AV->Prop} {X Q:Prop} (b:env Tryz.prog=E) (h:Eo Tryz.prog fl g args r) (j:L args) (c:Q) (e:K r=Q:=by exact DY):
 (∃(a:List AV) (r:AV),(Unit->L a)/\(Unit->E.C fl g a r)/\K r)\/X:=cL b h j (e.mpr c)
def CN {x:Bool} {K:Bool->Prop} {Q:Prop} (k:Q) (h:x=true:=by decide) (e:K true=Q:=by exact DY):∀c,c=x->K c:=G7 (e.mpr k) h
def BG {x:Bool} {K:Bool->Prop} {Q:Prop} (k:Q) (h:x=false:=by decide) (e:K false=Q:=by exact DY):∀c,c=x->K c:=IZ (e.mpr k) h
def CJ {α:Type} {X:List α} {n n':Nat} {A Q:Prop} {K:α->Prop} {x:α} (h:X[n']? =some x) (k:Q) (e:n=n':=by omega) (a:A:=by omega) (v:K x=Q:=by exact DY):∃x,(Unit->A/\X[n]? =some x)/\K x:=Bh h (v.mpr k) e a
def CK {E:Env} {g:FuncId} {args:List AV} {r:AV} {bk:Nat->Option BD} {K:Nat->AV->Prop} {c j l m Q:Prop} (id v:Nat) (n:env Tryz.prog=E) (h:Cz Tryz.prog g (MN args) (.var 0 [.int .i64 0]) r) (p:Q) (hb:bk id=some (.var v [.int .i64 0]):=by rfl) (ho:MU id v args=true:=by rfl) (e:K id r=Q:=by exact DY):
 c\/j\/l\/(∃(id:Nat) (b:BD) (a:List AV) (r:AV),(Unit->bk id=some b/\Fy (Ji id b.BP) args a)/\(Unit->E.D g a (b.FZ 0) r)/\K id r)\/m:=KF id v n h (e.mpr p) hb ho
def Bi {a b:Int} {K:Bool->Prop} {F G:Prop} (f:b<=a->F) (t:a<b->G) (u:b<=a->K false=F:=by intro x;exact DY) (v:a<b->K true=G:=by intro x;exact DY):∀c,c=decide (a<b)->K c:=Oy (fun x=>(u x).mpr (f x)) fun x=>(v x).mpr (t x)
def Dk {a b:Int} {K:Bool->Prop} {F G:Prop} (t:a<b->G) (f:b<=a->F) (u:b<=a->K false=F:=by intro x;exact DY) (v:a<b->K true=G:=by intro x;exact DY):∀c,c=decide (a<b)->K c:=Bi f t u v
def kN {a b:Int} {K:Bool->Prop} {F G:Prop} (f:b<a->F) (t:a<=b->G) (u:b<a->K false=F:=by intro x;exact DY) (v:a<=b->K true=G:=by intro x;exact DY):∀c,c=decide (a<=b)->K c:=Ox (fun x=>(u x).mpr (f x)) fun x=>(v x).mpr (t x)
def zQ {a b:Int} {K:Bool->Prop} {F G:Prop} (t:a<=b->G) (f:b<a->F) (u:b<a->K false=F:=by intro x;exact DY) (v:a<=b->K true=G:=by intro x;exact DY):∀c,c=decide (a<=b)->K c:=kN f t u v
def Fu {a b:Int} {K:Bool->Prop} {F G:Prop} (f:a<=b->F) (t:b<a->G) (u:a<=b->K false=F:=by intro x;exact DY) (v:b<a->K true=G:=by intro x;exact DY):∀c,c=decide (a>b)->K c:=RF (fun x=>(u x).mpr (f x)) fun x=>(v x).mpr (t x)
def Eb {a b:Int} {K:Bool->Prop} {F G:Prop} (t:b<a->G) (f:a<=b->F) (u:a<=b->K false=F:=by intro x;exact DY) (v:b<a->K true=G:=by intro x;exact DY):∀c,c=decide (a>b)->K c:=Fu f t u v
def Kf {a b:Int} {K:Bool->Prop} {F G:Prop} (f:a<b->F) (t:b<=a->G) (u:a<b->K false=F:=by intro x;exact DY) (v:b<=a->K true=G:=by intro x;exact DY):∀c,c=decide (a >= b)->K c:=M8 (fun x=>(u x).mpr (f x)) fun x=>(v x).mpr (t x)
def OH {a b:Int} {K:Bool->Prop} {F G:Prop} (t:b<=a->G) (f:a<b->F) (u:a<b->K false=F:=by intro x;exact DY) (v:b<=a->K true=G:=by intro x;exact DY):∀c,c=decide (a >= b)->K c:=Kf f t u v
def Cw {a b:Int} {K:Bool->Prop} {F G:Prop} (f:a≠b->F) (t:a=b->G) (u:a≠b->K false=F:=by intro x;exact DY) (v:a=b->K true=G:=by intro x;exact DY):∀c,c=(a==b)->K c:=I0 (fun x=>(u x).mpr (f x)) fun x=>(v x).mpr (t x)
def BY {a b:Int} {K:Bool->Prop} {F G:Prop} (t:a=b->G) (f:a≠b->F) (u:a≠b->K false=F:=by intro x;exact DY) (v:a=b->K true=G:=by intro x;exact DY):∀c,c=(a==b)->K c:=Cw f t u v
def OK {a b:Int} {K:Bool->Prop} {F G:Prop} (f:a=b->F) (t:a≠b->G) (u:a=b->K false=F:=by intro x;exact DY) (v:a≠b->K true=G:=by intro x;exact DY):∀c,c=(a !=b)->K c:=Dr (fun x=>(u x).mpr (f x)) fun x=>(v x).mpr (t x)
def HY {a b:Int} {K:Bool->Prop} {F G:Prop} (t:a≠b->G) (f:a=b->F) (u:a=b->K false=F:=by intro x;exact DY) (v:a≠b->K true=G:=by intro x;exact DY):∀c,c=(a !=b)->K c:=OK f t u v
def Tj {a:Bool} {K:Bool->Prop} {F G:Prop} (f:a=true->F) (t:a=false->G) (u:a=true->K false=F:=by intro x;exact DY) (v:a=false->K true=G:=by intro x;exact DY):∀c,c= !a->K c:=aW (fun x=>(u x).mpr (f x)) fun x=>(v x).mpr (t x)
def IH {a:Bool} {K:Bool->Prop} {F G:Prop} (t:a=false->G) (f:a=true->F) (u:a=true->K false=F:=by intro x;exact DY) (v:a=false->K true=G:=by intro x;exact DY):∀c,c= !a->K c:=Tj f t u v
def AL {f:FuncId} {fn:Func} (hf:Tryz.prog.funcs[f]? =some fn) {args:List AV} {r:AV} {Q:Env->Prop} (h:∀E,env Tryz.prog=E->Q E) (e:∀E,Qt E fn r none (Fa fn.ntmps args none)=Q E:=by intro E;exact DY) (ho:JW fn=true:=by kernel_rfl) (c:(Nv args&&(r.all IC&&(r.wf&&Nat.ble args.length fn.ntmps)))=true:=by rfl):Eo Tryz.prog false f args r:=IN hf (fun E b=>(e E).mpr (h E b)) ho c
def AK {P:Prop} (h:P:=by intros;(repeat' (first | exact rfl | exact trivial | exact CG | exact .inl rfl | exact .inr ⟨_,rfl,rfl⟩ | (refine⟨?_,?_⟩) | simp))):P:=h
def DB {P:Prop} (h:P:=by first | exact t1 | exact t2 | exact t4 | simp[E2,Gc,cells]):P:=h
def Cj {P:Prop} (h:P:=by exact fun _=>⟨rfl,by decide,rfl,⟨rfl,by first | exact t1 | exact t2 | exact t4 | simp[E2,Gc,cells],trivial⟩⟩):P:=h
def Ck (n k:Nat) (h:n*k<=140737488355328:=by (try simp only[List.length_take,List.length_drop]);omega):n*k<=140737488355328:=h
abbrev AH (n:Int):AV:= .one (.int .i64 n)
abbrev BK (l:List AC) (e:Int):AV:= .BI [(true,l),(false,[.int .i64 e])]
abbrev Ao (t:List (List (el AJ))):AC:= .sl (.sl AJ) t
abbrev AT (a:List (el AJ)):AC:= .sl AJ a
abbrev BF (t:List (List (el AJ))):AV:= .one (.sl (.sl AJ) t)
abbrev AQ (a:List (el AJ)):AV:= .one (.sl AJ a)
abbrev Bf:AV:= .one (.BU 0 0 0)
abbrev Da {α:Type} (_:Nat):List α:=[]
def HB {P Q:Prop} (h:¬P:=by decide):P->Q:=fun a=>absurd a h
abbrev WM (kd:Int) (P C:List Int) (V:List Ex) (sd:Int) (vl:List (el AJ)) (AF:List Int) (AE t:Int) (cr:List (el Ae)):List AV:=[.agg [.int .i64 kd,.sl .i64 P,.sl .i64 C,.sl .ex V,.int .i64 sd],.one (.sl AJ vl),.one (.sl .i64 AF),.one (.int .i64 AE),.one (.int .i64 t),.one (.sl Ae cr)]
def mcW {A1 A2 A3 A4 A5 X Q:Prop} {c:Nat->BD->Prop} {g h j:Nat->BD->List AV->AV->BD->Prop} {b:BD} {a:List AV} {r:AV} {b1:BD} (h3:h 0 b a r b1) (k:Q) (l:c 0 b:=by rfl) (m:g 0 b a r b1:=by exact AK) (e:j 0 b a r b1=Q:=by exact DY):
  A1\/A2\/A3\/A4\/A5\/(∃(id:Nat) (b:BD) (a:List AV) (r:AV) (b1:BD),(Unit->c id b/\g id b a r b1)/\(Unit->h id b a r b1)/\j id b a r b1)\/X:=
 .inr (.inr (.inr (.inr (.inr (.inl ⟨0,b,a,r,b1,fun _=>⟨l,m⟩,fun _=>h3,e.mpr k⟩)))))
end Go.Abs
namespace Go.Abs
open Go.RowKit Go.ChangeShapes Go.WideShapes Go.Deep
def MK (P:Program) (k:IntKind) (t:TypeId):Bool:=match P.underlying t with | some (.int j)=>decide (j=k) | _=>false
def okF (P:Program) (ok:T->TypeId->Bool):T->List Field->Nat->Bool
 | _,[],_=>false
 | t,[f],o=>f.offset==o&&(P.cellsOf f.type==t.size&&ok t f.type)
 | .pr a b,f::fs,o=>(f.offset==o&&(P.cellsOf f.type==a.size&&ok a f.type))&&okF P ok b fs (o+a.size)
 | _,_,_=>false
abbrev K7:T:= .pr .i64 (.pr (.pr (.pr .bool (.sl .u32)) (.pr .bool (.sl .u32))) (.pr .str (.sl .ex)))
def Nn (P:Program) (ok:T->TypeId->Bool) (t:TypeId):T->TypeId->Bool
 | .sl .ex,u=>match P.underlying u with | some (.slice e)=>e==t | _=>false
 | τ,u=>ok τ u
def HC (P:Program):Nat->T->TypeId->Bool
 | 0,_,_=>false
 | n+1,τ,t=>match τ with
  | .u8=>MK P .u8 t
  | .u32=>MK P .u32 t
  | .u64=>MK P .u64 t
  | .i8=>MK P .i8 t
  | .i64=>MK P .i64 t
  | .bool=>match P.underlying t with | some .bool=>true | _=>false
  | .sl e=>match P.underlying t with | some (.slice u)=>HC P n e u&&(P.cellsOf u==e.size&&decide (0<P.bytesOf u)) | _=>false
  | .pr a b=>match P.underlying t with | some (.struct fs)=>okF P (HC P n) (.pr a b) fs.toList 0&&P.cellsOf t==a.size+b.size | _=>false
  | .str=>match P.underlying t with | some .string=>true | _=>false
  | .ex=>match P.underlying t with | some (.struct fs)=>okF P (Nn P (HC P n) t) K7 fs.toList 0&&(P.cellsOf t==7&&decide (0<P.bytesOf t)) | _=>false
  | .rf _=>false
 inductive Gl:Nat->Ex->Prop
  | mk (N:Nat) (y:Ex):y.v.1.2.length<=N+1->y.v.2.2.length<=N+1->y.name.size<=N+1->y.args.length<=N+1->(∀z∈y.args,Gl N z)->Gl (N+1) y
def Ik:Nat->(t:T)->el t->Prop
 | N,.sl t,l=>l.length<=N/\∀x∈l,Ik (N-1) t x
 | N,.pr a b,x=>Ik N a x.1/\Ik N b x.2
 | N,.str,s=>s.size<=N
 | N,.ex,x=>Gl N x
 | _,_,_=>True
structure Ms {H:Type} (B:DataW H->Nat):Prop where
 len:∀e s,e.length<=B (.slice e s)
 el:∀e s d,d∈e->B d<B (.slice e s)
 agg:∀l d,d∈l->B d<B (.agg l)
 str:∀b,b.length<=B (.lit (.string b))
def Jg {P:Program} {k:IntKind} {t:TypeId} (h:MK P k t=true):P.underlying t=some (.int k):=by
 unfold MK at h
 split at h
 ·rename_i j e;rw[e,of_decide_eq_true h]
 simp at h
def X8 {k:IntKind} {n:Int} (h:(Lit.int k n).wf=true):k.min<=n/\n<=k.max:=by
 simpa [Lit.wf] using h
def W7 {H:Type} {enc:TypeId×Value->H} {P:Program} {w:World} {base:Nat} {sp:Nat->Bool} {u:Bool} {n m:Nat} {cs:List Value} {ok:T->TypeId->Bool} {B:DataW H->Nat} {Z:Nat->Prop}
  (c:∀(T:T) (t:TypeId) (cs:List Value) (x:DataW H×List MemPlace),ok T t=true->DataW.trod enc P w base sp u n t cs=some x->SizeOf.sizeOf x.1<m->(∀N,Z N->B x.1<=N)->(∀k∈x.1.weights P t,k<=reachBytes)->∃y:el T,rep w (fun _ b=>b<w.heap.size) T y cs/\∀N,Z N->Ik N T y):
  ∀(T:T) (fs:List Field) (o:Nat),okF P ok T fs o=true->cs.length=o+T.size->
   (∀(i:Nat) (f:Field),fs[i]? =some f->∃x,DataW.trod enc P w base sp u n f.type ((cs.drop f.offset).take (P.cellsOf f.type))=some x/\SizeOf.sizeOf x.1<m/\(∀N,Z N->B x.1<=N)/\∀k∈x.1.weights P f.type,k<=reachBytes)->∃y:el T,rep w (fun _ b=>b<w.heap.size) T y (cs.drop o)/\∀N,Z N->Ik N T y
 | T,[],o,h,_,_=>by cases T <;> simp[okF] at h
 | T,[f],o,h,D,j=>by
  have h':(f.offset==o&&(P.cellsOf f.type==T.size&&ok T f.type))=true:=by cases T <;> exact h
  simp only[Bool.and_eq_true,beq_iff_eq] at h';obtain⟨x,j,v,p,hw⟩:=j 0 f rfl;rw[h'.1,h'.2.1,List.take_of_length_le (by rw[List.length_drop];omega)] at j;exact c T _ _ _ h'.2.2 j v p hw
 | .pr a b,f::g::fs,o,h,D,j=>by
  have h':((f.offset==o&&(P.cellsOf f.type==a.size&&ok a f.type))&&okF P ok b (g::fs) (o+a.size))=true:=h;simp only[Bool.and_eq_true,beq_iff_eq] at h';have v:(T.pr a b).size=a.size+b.size:=rfl;obtain⟨x,l,q,p,hw⟩:=j 0 f rfl;rw[h'.1.1,h'.1.2.1] at l;obtain⟨y1,A,g1⟩:=c a _ _ _ h'.1.2.2 l q p hw;obtain⟨y2,C,g2⟩:=W7 c b (g::fs) (o+a.size) h'.2 AA (fun i f hf=>j (i+1) f hf);refine⟨(y1,y2),⟨_,_,?_,A,C⟩,fun N z=>⟨g1 N z,g2 N z⟩⟩;rw[<-List.drop_drop,List.take_append_drop]
 |.u8,f::g::fs,o,h,_,_|.u32,f::g::fs,o,h,_,_|.u64,f::g::fs,o,h,_,_|.i8,f::g::fs,o,h,_,_|.i64,f::g::fs,o,h,_,_|.bool,f::g::fs,o,h,_,_|.sl _,f::g::fs,o,h,_,_|.str,f::g::fs,o,h,_,_|.ex,f::g::fs,o,h,_,_|.rf _,f::g::fs,o,h,_,_=>by simp[okF] at h
def jD {w:World} {a:Addr} {v:Value} (h:w.cell? a=some v):a.spot=none/\a.block<w.heap.size:=by
 unfold World.cell? at h
 split at h
 ·rename_i c e l b
  refine⟨?_,(Array.getElem?_eq_some_iff.1 b).1⟩;cases g:a.spot with
  | none=>rfl
  | some x=>simp[g] at h
 simp at h
def Qg {a:Addr} (h:a.spot=none) (i:Nat):a.add i=⟨a.block,a.off+i,none⟩:=by
 unfold Addr.add;cases a;simp only at h;subst h
 split <;> simp_all
def da {α:Type} {p:Nat->α->Prop}:∀(n:Nat),(∀i,i<n->∃x,p i x)->∃l:List α,l.length=n/\∀i x,l[i]? =some x->p i x
 | 0,_=>⟨[],rfl,fun i x h=>by simp at h⟩
 | n+1,h=>by
  obtain⟨l,c,m⟩:=da n fun i g=>h i AA
  obtain⟨x,q⟩:=h n AA;refine⟨l++[x],by simp[c],fun i y b=>?_⟩
  by_cases g:i<n
  ·rw[List.getElem?_append_left AA] at b;exact m i y b
  rw[List.getElem?_append_right AA] at b
  have:i=n:=by
   apply Classical.byContradiction;intro j;rw[List.getElem?_eq_none (by simp;omega)] at b;simp at b
  subst this;rw[c,Nat.sub_self] at b;simp at b;subst b;exact q
def dj {H:Type} {P:Program} {e:TypeId} {d:DataW H} {q:Nat}:∀{l:List (DataW H)},d∈l->q∈d.weights P e->q∈DataW.weightsAll P e l
 | [],h,_=>by simp at h
 | a::l,h,b=>by
  rw[DataW.weightsAll,List.mem_append];rcases List.mem_cons.1 h with rfl | h
  ·exact .inl b
  exact .inr (dj h b)
def dk {H:Type} {P:Program} {q:Nat}:∀{ts:List TypeId} {l:List (DataW H)} (i:Nat) (t:TypeId) (d:DataW H),ts[i]? =some t->l[i]? =some d->q∈d.weights P t->q∈DataW.weightsEach P ts l
 |[],_,i,t,d,h,_,_|_::_,[],i,t,d,_,h,_=>by simp at h
 | u::ts,a::l,0,t,d,h,h',b=>by
  rw[DataW.weightsEach,List.mem_append];simp at h h';subst h;subst h';exact .inl b
 | u::ts,a::l,i+1,t,d,h,h',b=>by
  rw[DataW.weightsEach,List.mem_append];exact .inr (dk i t d h h' b)
def fI {H:Type} {enc:TypeId×Value->H} {P:Program} {w:World} {base:Nat} {sp:Nat->Bool} {hd:Bool} {e:T} {u t:TypeId} (hu:P.underlying t=some (.slice u)) (S:P.cellsOf u=e.size) (Q:0<P.bytesOf u) {B:DataW H->Nat} (hB:Ms B)
  {n:Nat} {cs:List Value} {x:DataW H×List MemPlace} (hx:DataW.trod enc P w base sp hd n t cs=some x) (hw:∀k∈x.1.weights P t,k<=reachBytes)
  (U:∀(n:Nat) (cs:List Value) (z:DataW H×List MemPlace),SizeOf.sizeOf z.1<SizeOf.sizeOf x.1->DataW.trod enc P w base sp hd n u cs=some z->(∀k∈z.1.weights P u,k<=reachBytes)->∃y:el e,rep w (fun _ b=>b<w.heap.size) e y cs/\∀N,B z.1<=N->Ik N e y):
  ∃y:el (.sl e),rep w (fun _ b=>b<w.heap.size) (.sl e) y cs/\∀N,B x.1<=N->Ik N (.sl e) y:=by
 rcases open_slice hu hx with⟨rfl,rfl⟩ |⟨a,len,cap,k,j,D,Pl,rfl,hb,W,a5,hk,m,F⟩
 ·exact⟨[],⟨none,0,rfl,Nat.le_refl _,Nat.zero_le _,.inl rfl⟩,fun _ _=>⟨Nat.zero_le _,fun _ h=>by cases h⟩⟩
 have a7:len<=k:=by rw[hk];split <;> omega
 rw[S] at F;have A:=congrArg Prod.fst m;simp only at A;rw[m] at hw
 have Z:∀i,i<len->SizeOf.sizeOf (D i)<SizeOf.sizeOf x.1:=fun i F=>by
  have c:=List.sizeOf_lt_of_mem (List.mem_map.2 ⟨i,List.mem_range.2 F,rfl⟩:D i∈(List.range len).map D);rw[m];simp only[DataW.slice.sizeOf_spec];omega
 have M:DataW.weights P t (DataW.slice ((List.range len).map D) ((List.range (k-len)).map fun j=>D (len+j)))=(((List.range len).map D).length+((List.range (k-len)).map fun j=>D (len+j)).length)*P.bytesOf u::(DataW.weightsAll P u ((List.range len).map D)++DataW.weightsAll P u ((List.range (k-len)).map fun j=>D (len+j))):=by
  unfold DataW.weights;rw[hu]
 have L:len<=140737488355328:=by
  have:=hw _ (by rw[M];exact List.mem_cons_self);simp only[List.length_map,List.length_range] at this;have h3:len<=(len+(k-len))*P.bytesOf u:=Nat.le_trans (Nat.le_add_right _ _) (Nat.le_mul_of_pos_right _ Q);have h4:reachBytes<=140737488355328:=AD
  omega
 have hs:=T.size_pos e
 have O:0<len->a.spot=none:=fun G=>by
  obtain⟨us,R,ht⟩:=F 0 AA;obtain⟨_,hlen,g⟩:=World.cells?_some R;have G:=g 0 hs;rw[List.getElem?_eq_getElem AA,Nat.zero_mul] at G;have c:=(jD G).1;unfold Addr.add at c;simpa using c
 obtain⟨l,hl,Y⟩:=da (α:=el e) (p:=fun i y=>(∀N,B x.1<=N->Ik (N-1) e y)/\∃us,rep w (fun _ b=>b<w.heap.size) e y us/\a.spot=none/\a.block<w.heap.size/\w.rangeAt a.block (a.off+i*e.size) us) len (fun i K=>by
  obtain⟨us,R,ht⟩:=F i AA;obtain⟨y,hy,a1⟩:=U _ _ _ (Z i AA) ht (fun q J=>hw q (by rw[M];exact List.mem_cons_of_mem _ (List.mem_append_left _ (dj (List.mem_map.2 ⟨i,List.mem_range.2 K,rfl⟩) J))));obtain⟨_,hlen,g⟩:=World.cells?_some R;have G:=g 0 hs;rw[List.getElem?_eq_getElem AA] at G;have c:=jD G;have ha:a.spot=none:=O AA
  have C:a.block<w.heap.size:=by
   have:=c.2;rw[Qg ha,Qg rfl] at this;exact this
  refine⟨y,fun N J=>a1 (N-1) (by show B (D i)<=N-1;have h5:=hB.el ((List.range len).map D) ((List.range (k-len)).map fun j=>D (len+j)) _ (List.mem_map.2 ⟨i,List.mem_range.2 K,rfl⟩);rw[<-A] at h5;omega),us,hy,ha,C,fun j v V=>?_⟩
  have a6:j<us.length:=by
   apply Classical.byContradiction;intro hn;rw[List.getElem?_eq_none AA] at V;simp at V
  have:=g j AA;rw[Qg ha,Qg rfl] at this;rw[this];exact V)
 subst hl;refine⟨l,⟨some a,cap,rfl,W,L,?_⟩,fun N J=>⟨?_,fun z hz=>?_⟩⟩
 rotate_left
 ·have c:=hB.len ((List.range l.length).map D) ((List.range (k-l.length)).map fun j=>D (l.length+j));rw[List.length_map,List.length_range] at c;rw[m] at J;exact Nat.le_trans c J
 ·obtain⟨i,F⟩:=List.mem_iff_getElem?.1 hz;exact (Y i z F).1 N J
 cases l with
 | nil=>exact .inl rfl
 | cons y l=>
  right
  obtain⟨_,_,_,ha,C,_⟩:=Y 0 y rfl;obtain⟨ab,ao,a2⟩:=a;simp only at ha;subst ha;exact⟨ab,ao,rfl,C,fun i z hz=>by obtain⟨_,us,c,_,_,h2⟩:=Y i z hz;exact⟨us,c,h2⟩⟩
def fH {H:Type} {enc:TypeId×Value->H} {P:Program} {w:World} {base:Nat} {sp:Nat->Bool} {j:Bool} {t:TypeId} {fs:Array Field} (hu:P.underlying t=some (.struct fs)) {B:DataW H->Nat} (l:Ms B)
  {n:Nat} {cs:List Value} {x:DataW H×List MemPlace} (p:DataW.trod enc P w base sp j n t cs=some x) (hw:∀k∈x.1.weights P t,k<=reachBytes):
  ∃n',cs.length=P.cellsOf t/\∀(i:Nat) (f:Field),fs.toList[i]? =some f->∃z,DataW.trod enc P w base sp j n' f.type ((cs.drop f.offset).take (P.cellsOf f.type))=some z/\SizeOf.sizeOf z.1<SizeOf.sizeOf x.1/\
   B z.1<B x.1/\∀k∈z.1.weights P f.type,k<=reachBytes:=by
 obtain⟨xs,n',_,c,h,u,hf⟩:=DataW.trod_struct hu p;refine⟨n',h,fun i f g=>?_⟩;have b:fs[i]? =some f:=by rw[<-Array.getElem?_toList];exact g
 have y:i<fs.size:=(Array.getElem?_eq_some_iff.1 b).1;refine⟨xs[i]'AA,?_,?_,?_,fun q m=>hw q ?_⟩
 ·rw[hf i f b];exact List.getElem?_eq_getElem AA
 ·have v:=List.sizeOf_lt_of_mem (List.mem_map.2 ⟨xs[i]'AA,List.getElem_mem _,rfl⟩:(xs[i]'AA).1∈xs.map (·.1));rw[c];simp only[DataW.agg.sizeOf_spec];omega
 ·rw[c];exact l.agg _ _ (List.mem_map.2 ⟨xs[i]'AA,List.getElem_mem _,rfl⟩)
 rw[c]
 have e:DataW.weights P t (DataW.agg (xs.map (·.1)))=DataW.weightsEach P (fs.toList.map (·.type)) (xs.map (·.1)):=by
  unfold DataW.weights;rw[hu]
 rw[e];exact dk i f.type (xs[i]'AA).1 (by rw[List.getElem?_map,g];rfl) (by rw[List.getElem?_map,List.getElem?_eq_getElem AA];rfl) m
def u5 {w:World} {I:PI} {y:el K7} {vs:List Value} (h:rep w I K7 y vs):JS w I (.mk y.1 y.2.1 y.2.2.1 y.2.2.2) vs:=by
 have b:=(HV (LL w I) K7 y vs).1 h;exact (HV (LL w I) .ex (.mk y.1 y.2.1 y.2.2.1 y.2.2.2) vs).2 b
def fG {H:Type} {enc:TypeId×Value->H} {P:Program} {w:World} {base:Nat} {sp:Nat->Bool} {K:Bool} {t:TypeId} {fs:Array Field} {ok:T->TypeId->Bool} (hu:P.underlying t=some (.struct fs))
  (c:okF P (Nn P ok t) K7 fs.toList 0=true) (g:P.cellsOf t=7) (h:0<P.bytesOf t) {B:DataW H->Nat} (D:Ms B)
  (l:∀(T:T) (t:TypeId) (cs:List Value) (x:DataW H×List MemPlace) (n:Nat),ok T t=true->DataW.trod enc P w base sp K n t cs=some x->(∀k∈x.1.weights P t,k<=reachBytes)->∃y:el T,rep w (fun _ b=>b<w.heap.size) T y cs/\∀N,B x.1<=N->Ik N T y):
  ∀(k n:Nat) (cs:List Value) (x:DataW H×List MemPlace),SizeOf.sizeOf x.1<k->DataW.trod enc P w base sp K n t cs=some x->(∀k∈x.1.weights P t,k<=reachBytes)->∃y:el .ex,rep w (fun _ b=>b<w.heap.size) .ex y cs/\∀N,B x.1<=N->Ik N .ex y
 | 0,_,_,_,U,_,_=>AA
 | k+1,n,cs,x,U,W,hw=>by
  obtain⟨n',F,j⟩:=fH hu D W hw
  have p:0<B x.1:=by
   cases L:fs.toList with
   | nil=>rw[L] at c;simp[okF] at c
   | cons f r=>obtain⟨z,_,_,A,_⟩:=j 0 f (by rw[L];rfl);exact Nat.lt_of_le_of_lt (Nat.zero_le _) A
  obtain⟨y,O,J⟩:=W7 (w:=w) (n:=n') (m:=SizeOf.sizeOf x.1) (cs:=cs) (ok:=Nn P ok t) (B:=B) (Z:=fun N=>B x.1<=N) (fun τ u cs z ho A hs M v=>by
   unfold Nn at ho
   split at ho
   ·split at ho
    ·rename_i e he
     simp only[beq_iff_eq] at ho;subst ho;obtain⟨y,g1,g2⟩:=fI he (by rw[g];rfl) h D A v fun Y C z2 V EB G=>fG hu c g h D l k Y C z2 AA EB G
     exact⟨y,g1,fun N q=>g2 N (M N q)⟩
    cases ho
   obtain⟨y,g1,g2⟩:=l _ _ _ _ _ ho A v;exact⟨y,g1,fun N q=>g2 N (M N q)⟩) K7 fs.toList 0 c (by rw[F,g];rfl) (fun i f hf=>by
   obtain⟨z,Q,R,h3,S⟩:=j i f hf;exact⟨z,Q,R,fun N q=>Nat.le_trans (Nat.le_of_lt h3) q,S⟩)
  rw[List.drop_zero] at O;refine⟨_,u5 O,fun N q=>?_⟩;have:=J N q;cases N with
  | zero=>have:=p;omega
  | succ N=>exact .mk N _ this.2.1.1.2.1 this.2.1.2.2.1 this.2.2.1 this.2.2.2.1 this.2.2.2.2
def Sg {H:Type} {enc:TypeId×Value->H} {P:Program} {w:World} {base:Nat} {sp:Nat->Bool} {J:Bool} {B:DataW H->Nat} (j:Ms B):
  ∀(m:Nat) (T:T) (t:TypeId),HC P m T t=true->∀(n:Nat) (cs:List Value) (x:DataW H×List MemPlace),DataW.trod enc P w base sp J n t cs=some x->(∀k∈x.1.weights P t,k<=reachBytes)->
   ∃y:el T,rep w (fun _ b=>b<w.heap.size) T y cs/\∀N,B x.1<=N->Ik N T y
 | 0,_,_,h,_,_,_,_,_=>by simp[HC] at h
 | m+1,.u8,t,h,n,cs,x,c,hw=>by
  obtain⟨v,rfl,rfl,g⟩:=DataW.trod_int (Jg h) c;have hb:(0:Int)<=v/\v<=255:=X8 g;refine⟨UInt8.ofNat v.toNat,?_,fun _ _=>trivial⟩
  show [Value.int .u8 v]=[Value.int .u8 _]
  rw[UInt8.toNat_ofNat'];congr 2;omega
 | m+1,.u32,t,h,n,cs,x,c,hw=>by
  obtain⟨v,rfl,rfl,g⟩:=DataW.trod_int (Jg h) c;have hb:(0:Int)<=v/\v<=4294967295:=X8 g;refine⟨UInt32.ofNat v.toNat,?_,fun _ _=>trivial⟩
  show [Value.int .u32 v]=[Value.int .u32 _]
  rw[UInt32.toNat_ofNat'];congr 2;omega
 | m+1,.u64,t,h,n,cs,x,c,hw=>by
  obtain⟨v,rfl,rfl,g⟩:=DataW.trod_int (Jg h) c;have hb:(0:Int)<=v/\v<=18446744073709551615:=X8 g;refine⟨UInt64.ofNat v.toNat,?_,fun _ _=>trivial⟩
  show [Value.int .u64 v]=[Value.int .u64 _]
  rw[UInt64.toNat_ofNat'];congr 2;omega
 | m+1,.i8,t,h,n,cs,x,c,hw=>by
  obtain⟨v,rfl,rfl,g⟩:=DataW.trod_int (Jg h) c;exact⟨v,rfl,fun _ _=>trivial⟩
 | m+1,.i64,t,h,n,cs,x,c,hw=>by
  obtain⟨v,rfl,rfl,g⟩:=DataW.trod_int (Jg h) c;exact⟨v,rfl,fun _ _=>trivial⟩
 | m+1,.bool,t,h,n,cs,x,c,hw=>by
  have h':(match P.underlying t with | some .bool=>true | _=>false)=true:=h
  split at h'
  ·rename_i e
   obtain⟨v,rfl,rfl⟩:=DataW.trod_bool e c;exact⟨v,rfl,fun _ _=>trivial⟩
  simp at h'
 | m+1,.sl e,t,h,n,cs,x,c,hw=>by
  have h':(match P.underlying t with | some (.slice u)=>HC P m e u&&(P.cellsOf u==e.size&&decide (0<P.bytesOf u)) | _=>false)=true:=h
  split at h'
  ·rename_i u hu
   simp only[Bool.and_eq_true,beq_iff_eq,decide_eq_true_eq] at h';exact fI hu h'.2.1 h'.2.2 j c hw fun n cs z _ C l=>Sg j m e u h'.1 n cs z C l
  simp at h'
 | m+1,.str,t,h,n,cs,x,c,hw=>by
  have h':(match P.underlying t with | some .string=>true | _=>false)=true:=h
  split at h'
  ·rename_i e
   obtain⟨v,rfl,rfl,_⟩:=DataW.trod_string e c;exact⟨v,rfl,fun N q=>Nat.le_trans (by have:=j.str v.data.toList;rw[Array.length_toList] at this;exact this) q⟩
  simp at h'
 | m+1,.rf _,t,h,n,cs,x,c,hw=>by cases (show false=true from h)
 | m+1,.ex,t,h,n,cs,x,c,hw=>by
  have h':(match P.underlying t with | some (.struct fs)=>okF P (Nn P (HC P m) t) K7 fs.toList 0&&(P.cellsOf t==7&&decide (0<P.bytesOf t)) | _=>false)=true:=h
  split at h'
  ·rename_i fs hu
   simp only[Bool.and_eq_true,beq_iff_eq,decide_eq_true_eq] at h';exact fG hu h'.1 h'.2.1 h'.2.2 j (fun T t cs x n ho c hw=>Sg j m T t ho n cs x c hw) _ n cs x (Nat.lt_succ_self _) c hw
  simp at h'
 | m+1,.pr a b,t,h,n,cs,x,c,hw=>by
  have h':(match P.underlying t with | some (.struct fs)=>okF P (HC P m) (.pr a b) fs.toList 0&&P.cellsOf t==a.size+b.size | _=>false)=true:=h
  split at h'
  ·rename_i fs hu
   simp only[Bool.and_eq_true,beq_iff_eq] at h';obtain⟨n',p,A⟩:=fH hu j c hw
   have:=W7 (w:=w) (n:=n') (m:=SizeOf.sizeOf x.1) (cs:=cs) (ok:=HC P m) (B:=B) (Z:=fun N=>B x.1<=N) (fun T t cs z ho C _ K l=>by
    obtain⟨y,g1,g2⟩:=Sg j m T t ho n' cs z C l;exact⟨y,g1,fun N q=>g2 N (K N q)⟩) (.pr a b) fs.toList 0 h'.1 (by rw[p,h'.2,Nat.zero_add];rfl) (fun i f hf=>by
    obtain⟨z,D,F,h3,G⟩:=A i f hf;exact⟨z,D,F,fun N q=>Nat.le_trans (Nat.le_of_lt h3) q,G⟩)
   exact this
  simp at h'
end Go.Abs
namespace Go.Abs
open Go.RowKit Go.ChangeShapes Go.WideShapes Go.Deep
def HL:List T->Type
 | []=>PUnit
 | t::ts=>el t×HL ts
def Ul:(ts:List T)->HL ts->List AV
 | [],_=>[]
 | t::ts,x=>Zg t x.1::Ul ts x.2
def Jm (P:Program):List T->List TypeId->Bool
 | [],[]=>true
 | τ::τs,t::ts=>(HC P 20 τ t&&(P.readableRec t&&decide (t<P.types.size)))&&Jm P τs ts
 | _,_=>false
def L7 {v:Value} {c:Value} (h:v.cells.toList=[c]) (b:v.oneCell'=true):v=c:=by
 rw[Sf b] at h;simpa using h
def uy {P:Program} {w:World} {I:PI} {r:Reach} {b:Nat} {m:Nat}:∀{τ:T} {t:TypeId} {v:Value} {y:el τ},HC P (m+1) τ t=true->Value.okWide P w r b t v->rep w I τ y v.cells.toList->C6 (LL w I) (Zg τ y) v
 | .u8,t,v,y,h,j,g=>by
  obtain⟨n,rfl⟩:=okWide_int (Jg h) j;exact .inr (L7 g rfl)
 | .u32,t,v,y,h,j,g=>by
  obtain⟨n,rfl⟩:=okWide_int (Jg h) j;exact .inr (L7 g rfl)
 | .u64,t,v,y,h,j,g=>by
  obtain⟨n,rfl⟩:=okWide_int (Jg h) j;exact .inr (L7 g rfl)
 | .i8,t,v,y,h,j,g=>by
  obtain⟨n,rfl⟩:=okWide_int (Jg h) j;exact .inr (L7 g rfl)
 | .i64,t,v,y,h,j,g=>by
  obtain⟨n,rfl⟩:=okWide_int (Jg h) j;exact .inr (L7 g rfl)
 | .bool,t,v,y,h,j,g=>by
  have h':(match P.underlying t with | some .bool=>true | _=>false)=true:=h
  split at h'
  ·rename_i e
   obtain⟨n,rfl⟩:=okWide_bool e j;exact .inr (L7 g rfl)
  simp at h'
 | .str,t,v,y,h,j,g=>by
  have h':(match P.underlying t with | some .string=>true | _=>false)=true:=h
  split at h'
  ·rename_i e
   obtain⟨n,rfl⟩:=okWide_string e j;exact .inr (L7 g rfl)
  simp at h'
 | .rf _,t,v,y,h,j,g=>by cases (show false=true from h)
 | .ex,t,v,y,h,j,g=>by
  have h':(match P.underlying t with | some (.struct fs)=>okF P (Nn P (HC P m) t) K7 fs.toList 0&&(P.cellsOf t==7&&decide (0<P.bytesOf t)) | _=>false)=true:=h
  split at h'
  ·rename_i fs hu
   obtain⟨cs,rfl,_⟩:=okWide_struct hu j;exact⟨cs,rfl,(HV (LL w I) _ _ _).1 g⟩
  simp at h'
 | .sl e,t,v,y,h,j,g=>by
  have h':(match P.underlying t with | some (.slice u)=>HC P m e u&&(P.cellsOf u==e.size&&decide (0<P.bytesOf u)) | _=>false)=true:=h
  split at h'
  ·rename_i u hu
   obtain⟨a,l,c,rfl⟩:=okWide_slice hu j;exact .inr g
  simp at h'
 | .pr a b',t,v,y,h,j,g=>by
  have h':(match P.underlying t with | some (.struct fs)=>okF P (HC P m) (.pr a b') fs.toList 0&&P.cellsOf t==a.size+b'.size | _=>false)=true:=h
  split at h'
  ·rename_i fs hu
   obtain⟨cs,rfl,_⟩:=okWide_struct hu j;exact⟨cs,rfl,(HV (LL w I) _ _ _).1 g⟩
  simp at h'
def Zb {H:Type} {enc:TypeId×Value->H} {P:Program} (u:laidOutB P=true) {W n:World} (hb:Below W.heap.size W n):∀(c:List T) (ts:List TypeId) (vs:List Value) (j:List (DataW H)) (l:List MemPlace),Jm P c ts=true->
  DataW.TrodAll enc P W 0 (fun _=>true) true ts vs j l->(∀p∈l,p.block<W.heap.size)->DataW.TrodAll enc P n 0 (fun b=>decide (b<W.heap.size)) true ts vs j l
 | [],[],[],[],_,_,h,_=>h
 | τ::c,t::ts,v::vs,d::j,l,h,⟨p,q,y,z,e⟩,g=>by
  have h':((HC P 20 τ t&&(P.readableRec t&&decide (t<P.types.size)))&&Jm P c ts)=true:=h;simp only[Bool.and_eq_true,decide_eq_true_eq] at h';subst e;exact⟨p,q,Below.trod u h'.1.2.1 h'.1.2.2 y hb (fun x m=>g x (List.mem_append_left _ m)),Zb u hb c ts vs j q h'.2 z (fun x m=>g x (List.mem_append_right _ m)),rfl⟩
 |[],t::ts,_,_,_,h,_,_|_::_,[],_,_,_,h,_,_=>by simp[Jm] at h
 |[],[],[],_::_,_,_,h,_|[],[],_::_,_,_,_,h,_|_::_,_::_,[],_,_,_,h,_|_::_,_::_,_::_,[],_,_,h,_=>h.elim
def R5:(t:T)->el t->Prop
 | .i64,n=>Ej n
 | .pr a b,x=>R5 a x.1/\R5 b x.2
 | _,_=>True
def Vx:(ts:List T)->HL ts->Prop
 | [],_=>True
 | t::ts,x=>R5 t x.1/\Vx ts x.2
def Xk:(ts:List T)->HL ts->Prop
 | [],_=>True
 | t::ts,x=>Ik 1048576 t x.1/\Xk ts x.2
def U8 {P:Program} {w:World} {r:Reach} {b:Nat} {u:TypeId} {n:Int} (h:Cell.okWide P w r b u (.int .i64 n)):Ej n:=by
 cases hu:P.underlying u with
 | none=>simp[Cell.okWide,Cell.ok,hu] at h
 | some d=>
  cases d <;> simp[Cell.okWide,Cell.ok,hu] at h
  obtain⟨rfl,c,g⟩:=h;have e1:IntKind.i64.min= -9223372036854775808:=rfl;have e2:IntKind.i64.max=9223372036854775807:=rfl;unfold Ej;omega
def og {P:Program} {w:World} {r:Reach} {b:Nat} {t:TypeId} {v:Value} (h:Value.okWide P w r b t v):∀n,Value.int .i64 n∈v.cells.toList->Ej n:=by
 intro n c;unfold Value.okWide at h
 split at h
 ·obtain⟨cs,rfl,_,ts,_,_,h3⟩:=h;obtain⟨i,g⟩:=List.mem_iff_getElem?.1 (show Value.int .i64 n∈cs.toList from c);obtain⟨u,_,hu⟩:=h3 i _ (by rw[<-Array.getElem?_toList];exact g);exact U8 hu
 ·obtain⟨cs,rfl,_,ts,_,_,h3⟩:=h;obtain⟨i,g⟩:=List.mem_iff_getElem?.1 (show Value.int .i64 n∈cs.toList from c);obtain⟨u,_,hu⟩:=h3 i _ (by rw[<-Array.getElem?_toList];exact g);exact U8 hu
 cases v with
 | agg cs=>
  cases hu:P.underlying t with
  | none=>simp[Cell.okWide,Cell.ok,hu] at h
  | some d=>cases d <;> simp[Cell.okWide,Cell.ok,hu] at h
 | int k m=>
  have e:Value.int .i64 n=Value.int k m:=by simpa [Value.cells] using c
  rw[<-e] at h;exact U8 h
 | _=>exact absurd c (by simp[Value.cells])
def Vy {w:World} {I:PI}:∀(t:T) (y:el t) (vs:List Value),rep w I t y vs->(∀n,Value.int .i64 n∈vs->Ej n)->R5 t y
 | .i64,y,_,g,h=>h y (by rw[show _=_ from g];exact List.mem_singleton.2 rfl)
 | .pr a b,y,_,g,h=>by
  obtain⟨v1,v2,rfl,j,l⟩:=g;exact⟨Vy a _ _ j fun n c=>h n (List.mem_append_left _ c),Vy b _ _ l fun n c=>h n (List.mem_append_right _ c)⟩
 |.u8,_,_,_,_|.u32,_,_,_,_|.u64,_,_,_,_|.i8,_,_,_,_|.bool,_,_,_,_|.sl _,_,_,_,_|.str,_,_,_,_|.ex,_,_,_,_|.rf _,_,_,_,_=>trivial
def ZY {H:Type} {enc:TypeId×Value->H} {P:Program} {w:World} {base:Nat} {B:DataW H->Nat} (D:Ms B):∀(c:List T) (ts:List TypeId) (vs:List Value) (g:List (DataW H)) (G:List MemPlace),Jm P c ts=true->
  DataW.TrodAll enc P w 0 (fun _=>true) true ts vs g G->(∀(j:Nat) t v,ts[j]? =some t->vs[j]? =some v->Value.okWide P w .any base t v)->(∀k∈DataW.weightsEach P ts g,k<=reachBytes)->(∀d∈g,B d<=1048576)->
   g.length=c.length/\∃xs:HL c,Bc (C6 (LL w fun _ b=>b<w.heap.size)) (Ul c xs) vs/\Vx c xs/\Xk c xs
 | [],[],[],[],_,_,_,_,_,_=>⟨rfl,⟨⟩,.nil,trivial,trivial⟩
 | τ::c,t::ts,v::vs,d::g,G,h,⟨p,q,J,K,_⟩,z,hw,l=>by
  have h':((HC P 20 τ t&&(P.readableRec t&&decide (t<P.types.size)))&&Jm P c ts)=true:=h;simp only[Bool.and_eq_true] at h';obtain⟨e,xs,A,M,m⟩:=ZY D c ts vs g q h'.2 K (fun j u x hu A=>z (j+1) u x hu A) (fun k l=>hw k (by rw[DataW.weightsEach];exact List.mem_append_right _ l)) (fun d L=>l d (List.mem_cons_of_mem _ L));obtain⟨n,N⟩:=J;obtain⟨y,F,C⟩:=Sg D 20 τ t h'.1.1 n _ _ N (fun k l=>hw k (by rw[DataW.weightsEach];exact List.mem_append_left _ l));exact⟨by simp[e],(y,xs),.cons (uy h'.1.1 (z 0 t v rfl rfl) F) A,⟨Vy _ _ _ F (og (z 0 t v rfl rfl)),M⟩,C _ (l d List.mem_cons_self),m⟩
 |[],t::ts,_,_,_,h,_,_,_,_|_::_,[],_,_,_,h,_,_,_,_=>by simp[Jm] at h
 |[],[],[],_::_,_,_,h,_,_,_|[],[],_::_,_,_,_,h,_,_,_|_::_,_::_,[],_,_,_,h,_,_,_|_::_,_::_,_::_,[],_,_,h,_,_,_=>h.elim
def zp {P:Program} {f:FuncId} {fn:Func} {s:ChangeSpec} {c:List T} {tb:TypeId} (Y:laidOutB P=true) (y:Jm P c fn.params.toList=true)
  (G:fn.resultTypes= #[tb]) (L:P.underlying tb=some .bool) (g:s.vars=[])
  (J:∀(H:Type) (l:List (DataW H)),l.length=c.length->s.fn H (l++[])={results:=[.lit (.bool true)],args:=l})
  (Q:∀xs:HL c,Vx c xs->Xk c xs->Eo P false f (Ul c xs) (.one (.bool true)))
  (H:Type) {B:DataW H->Nat} (R:Ms B) (enc:TypeId×Value->H) (W:World) (base:Nat) (args:Array Value) (l gs:List (DataW H)) (before:List MemPlace)
  (z:∀(j:Nat) t v,fn.params[j]? =some t->args[j]? =some v->Value.okWide P W .any base t v)
  (O:DataW.Whole enc P fn.params.toList s.vars false W args.toList l gs before)
  (S:Kh W fun _ b=>b<W.heap.size)
  (hw:(DataW.weightsEach P (fn.params.toList++s.plain.varTypes P) (l++gs)).all (·<=reachBytes)=true) (D:∀d∈l,B d<=1048576):
  Calls P f args W fun e A=>∃v,e= .returned v/\s.post enc P fn false true false false W args v A:=by
 have n:=O;obtain⟨p,q,m,hV,rfl,V,Z⟩:=O;rw[g] at hV;obtain⟨rfl,rfl⟩:=trodVars_none hV
 have M:s.plain.varTypes P=[]:=by
  unfold DataSpec.varTypes ChangeSpec.plain;simp[g]
 rw[M,List.append_nil,List.append_nil,List.all_eq_true] at hw;obtain⟨hlen,xs,N,C,K⟩:=ZY R c fn.params.toList args.toList l p y m (fun j t v ht hv=>z j t v (by rw[<-Array.getElem?_toList];exact ht) (by rw[<-Array.getElem?_toList];exact hv)) (fun k D=>by simpa using hw k D) D;obtain⟨_,_,U⟩:=Q xs C K;have F:∀x∈p,x.block<W.heap.size:=fun x N=>n.lt x (List.mem_append_left _ N)
 refine (U W (fun _ b=>b<W.heap.size) none args.toList (.inr rfl) (fun _ _ h=>⟨h,nofun⟩) S ⟨trivial,trivial⟩ N).mono fun e A ⟨u,bo,he,q,hr,_⟩=>?_
 have hb:Below W.heap.size W A:=⟨q.os,q.tape,q.output,q.size,fun b h=>q.get b h nofun⟩
 have hu:u= .bool true:=by
  rcases hr with h | h
  ·cases h
  exact h
 subst hu;refine⟨_,he,l,[],p++[],[],p,[],n,?_,?_,?_,?_,fun h=>by cases h⟩
 ·rw[G,J H l hlen];exact trodAll_mk1 (shut_bool L true)
 ·rw[J H l hlen];exact Zb Y hb c _ _ l p y m F
 ·rw[g,J H l hlen]
  rfl
 exact hb.frame _
end Go.Abs

namespace Go.Abs
def AI:List UInt32->Nat
 | []=>0
 | x::l=>x.toNat+4294967296*AI l
def LJ:Nat->Nat->List UInt32
 | 0,_=>[]
 | f+1,n=>if n=0 then [] else UInt32.ofNat n::LJ f (n/4294967296)
def Ah (n:Nat):List UInt32:=LJ n n
variable {k:Nat} {o:List UInt32} {w:UInt32}
def WE:∀(f n:Nat),n<=f->LJ f n=LJ n n
 | 0,n,h=>by rw[(AA:n=0)]
 | f+1,n,h=>by
  cases n with
  | zero=>simp[LJ]
  | succ n=>
   simp only[LJ];rw[WE f _ AA,WE n _ AA]
def Hm:Ah 0=[]:=rfl
def PS {n:Nat} (h:n≠0):Ah n=UInt32.ofNat n::Ah (n/4294967296):=by
 cases n with
 | zero=>exact (h rfl).elim
 | succ n=>
  show LJ (n+1) (n+1)=_
  rw[LJ,if_neg AA,WE n _ AA]
  rfl
def Bk (n:Nat):AI (Ah n)=n:=by
 induction n using Nat.strongRecOn with
 | ind n b=>
  by_cases h:n=0
  ·subst h;rfl
  rw[PS h,AI,b _ AA];simp[UInt32.toNat_ofNat'];omega
def FX (n:Nat):2^(32*(n+1))=4294967296*2^(32*n):=by
 rw[Nat.mul_add,Nat.pow_add,Nat.mul_comm]
def SX (a b:List UInt32):AI (a++b)=AI a+2^(32*a.length)*AI b:=by
 induction a with
 | nil=>simp[AI]
 | cons x a c=>
  rw[List.cons_append,AI,AI,c,List.length_cons,FX]
  generalize 2^(32*a.length)=p
  grind
def Dj (l:List UInt32):AI l<2^(32*l.length):=by
 induction l with
 | nil=>simp[AI]
 | cons x l b=>
  rw[AI,List.length_cons,FX]
  generalize 2^(32*l.length)=p at*
  have:=x.toNat_lt;omega
def HS {n:Nat} (h:n<2^(32*k)):(Ah n).length<=k:=by
 induction k generalizing n with
 | zero=>have:n=0:=by simpa using h
         subst this;simp[Hm]
 | succ k c=>
  by_cases b:n=0
  ·subst b;simp[Hm]
  rw[PS b,List.length_cons];rw[FX] at h;have:=c (n:=n/4294967296) AA;omega
def dS {n:Nat} (h:2^(32*k)<=n):k+1<=(Ah n).length:=by
 have b:=Dj (Ah n);rw[Bk] at b;have c:2^(32*k)<2^(32*(Ah n).length):=Nat.lt_of_le_of_lt h b;have:=(Nat.pow_lt_pow_iff_right (by decide:1<2)).1 c;omega
def Pb {a b:List UInt32} (c:a.length=b.length) (h:AI a=AI b):a=b:=by
 induction a generalizing b with
 | nil=>cases b with
  | nil=>rfl
  | cons _ _=>simp at c
 | cons x a l=>cases b with
  | nil=>simp at c
  | cons y b=>
   simp only[AI] at h;have m:=x.toNat_lt;have n:=y.toNat_lt;have g:x.toNat=y.toNat:=AA
   have j:AI a=AI b:=AA
   rw[UInt32.toNat_inj.1 g,l (by simpa using c) j]
def WG {l:List UInt32} (h:l=[]\/2^(32*(l.length-1))<=AI l):Ah (AI l)=l:=by
 rcases h with rfl | h
 ·rfl
 apply Pb _ (Bk _);have b:=HS (Dj l);have c:=dS h;omega
def FW {a b:Nat} (h:a<=b:=by omega):(Ah a).length<=(Ah b).length:=by
 apply HS;have:=Dj (Ah b);rw[Bk] at this;omega
def F8 {n:Nat}:Ah n=[]↔n=0:=by
 constructor
 ·intro h;have:=Bk n;rw[h] at this;exact this.symm
 rintro rfl;rfl
def dY {n:Nat} (h:n≠0):2^(32*((Ah n).length-1))<=n:=by
 apply Classical.byContradiction;intro b;have:=HS (n:=n) (k:=(Ah n).length-1) AA;have:Ah n≠[]:=fun e=>h (F8.1 e)
 have:(Ah n).length≠0:=by simpa using this
 omega
def Fj (l:List UInt32) (x:UInt32):AI (l++[x])=AI l+2^(32*l.length)*x.toNat:=by
 rw[SX];simp[AI]
def DV {l:List UInt32} {i:Nat} {x:UInt32} (h:l[i]? =some x):AI (l.take (i+1))=AI (l.take i)+2^(32*i)*x.toNat:=by
 have b:i<l.length:=by
  apply Classical.byContradiction;intro c;rw[List.getElem?_eq_none AA] at h;exact absurd h AS
 rw[List.take_succ_eq_append_getElem b,Fj];have:l[i]=x:=by simpa [List.getElem?_eq_getElem b] using h
 rw[this,List.length_take,Nat.min_eq_left AA]
def Ho (l:List UInt32) (i:Nat) (h:i<=l.length):AI l=AI (l.take i)+2^(32*i)*AI (l.drop i):=by
 conv=>lhs;rw[<-List.take_append_drop i l,SX,List.length_take,Nat.min_eq_left h]
def C7:List UInt32->List UInt32
 | []=>[]
 | x::l=>match C7 l with
  | []=>if x=0 then [] else [x]
  | y::r=>x::y::r
def Lj:∀(l:List UInt32),C7 (l++[0])=C7 l
 | []=>rfl
 | x::l=>by simp[C7,Lj l]
def Mm {x:UInt32} (b:x≠0):∀(l:List UInt32),C7 (l++[x])=l++[x]
 | []=>by simp[C7,b]
 | y::l=>by
  rw[List.cons_append,C7,Mm b l];cases l <;> rfl
def N8 (l:List UInt32):C7 l=Ah (AI l):=by
 induction l with
 | nil=>rfl
 | cons x l c=>
  rw[C7,c,AI];have g:=x.toNat_lt
  by_cases h:AI l=0
  ·rw[h,Hm]
   by_cases b:x=0
   ·subst b;simp[Hm]
   have:x.toNat≠0:=fun e=>b (UInt32.toNat_inj.1 e)
   rw[if_neg b,PS AA,(AA:(x.toNat+4294967296*0)/4294967296=0),Hm];simp
  rw[PS (n:=x.toNat+_) AA,(AA:(x.toNat+4294967296*AI l)/4294967296=AI l)];rw[PS h]
  show x::_=_
  congr 1
  apply UInt32.toNat_inj.1;rw[UInt32.toNat_ofNat'];omega
def LH:Nat->Nat->Nat
 | 0,_=>0
 | f+1,n=>if n=0 then 0 else
  let r:=2*LH f (n/4)
  if (r+1)*(r+1)<=n then r+1 else r
def CH (n:Nat):Nat:=LH n n
def V6:∀(f n:Nat),n<=f->LH f n*LH f n<=n/\n<(LH f n+1)*(LH f n+1)
 | 0,n,h=>by rw[(AA:n=0)];decide
 | f+1,n,h=>by
  rw[LH]
  by_cases b:n=0
  ·rw[if_pos b,b];decide
  rw[if_neg b];have:=V6 f (n/4) AA
  generalize LH f (n/4)=r at*
  simp only;have e1:(2*r)*(2*r)=4*(r*r):=by grind
  have e2:(2*r+1+1)*(2*r+1+1)=4*((r+1)*(r+1)):=by grind
  split
  ·refine⟨by assumption,?_⟩;rw[e2];omega
  refine⟨?_,AA⟩;rw[e1];omega
def PM (n:Nat):CH n*CH n<=n:=(V6 n n (Nat.le_refl _)).1
def SN (n:Nat):n<(CH n+1)*(CH n+1):=(V6 n n (Nat.le_refl _)).2
def dF {n r:Nat} (c:r*r<=n) (g:n<(r+1)*(r+1)):CH n=r:=by
 have h3:=PM n;have h:=SN n
 generalize CH n=s at*
 have a:s<r+1:=Nat.mul_self_lt_mul_self_iff.1 AA;have b:r<s+1:=Nat.mul_self_lt_mul_self_iff.1 AA;omega
def Ev {l:List UInt32} {i:Nat} (h:l.length<=i):AI (l.take i)=AI l:=by rw[List.take_of_length_le h]
def Q5 {A B c xi yi i s:Nat} (ho:o.length=i) (h:AI o+2^(32*i)*c=A+B) (b:s=c+xi+yi) (hw:w.toNat=s%4294967296):
  AI (o++[w])+2^(32*(i+1))*(s/4294967296)=(A+2^(32*i)*xi)+(B+2^(32*i)*yi):=by
 rw[Fj,FX,ho,hw]
 generalize 2^(32*i)=P at*
 have:s%4294967296+4294967296*(s/4294967296)=s:=AA
 have e:P*(s%4294967296)+4294967296*P*(s/4294967296)=P*s:=by rw[<-this];grind
 subst b
 grind
def Uy (hw:w.toNat≠0):Ah (AI (o++[w]))=o++[w]:=by
 apply WG
 right
 rw[Fj,List.length_append];have:2^(32*o.length)*1<=2^(32*o.length)*w.toNat:=Nat.mul_le_mul_left _ AA;simp;omega
def Z5 {p q:Nat} (h:AI o=p+q) (b:o.length=(Ah p).length):o=Ah (p+q):=by
 rw[<-h];refine (WG ?_).symm
 by_cases c:p=0
 ·left
  subst c;simpa [Hm] using b
 right
 have:=dY c;rw[b];omega
def KQ (n:Nat):AI (List.replicate n 0)=0:=by
 induction n with
 | zero=>rfl
 | succ n b=>rw[List.replicate_succ,AI,b];rfl
def Xy:∀(l:List UInt32),l.take (C7 l).length=C7 l
 | []=>rfl
 | x::l=>by
  have c:=Xy l;rw[C7];cases h:C7 l with
  | nil=>
   by_cases b:x=0
   ·simp[b]
   simp[b]
  | cons y r=>
   rw[h] at c;simpa using c
def TO (l:List UInt32):(C7 l).length<=l.length:=by
 rw[<-Xy,List.length_take];omega
def GF {l:List UInt32} {n m:Nat} (g:n<=l.length) (hm:m=(C7 (l.take n)).length):m<=n/\l.take m=Ah (AI (l.take n)):=by
 have c:=TO (l.take n);rw[List.length_take] at c;have b:=Xy (l.take n);rw[<-hm,List.take_take,Nat.min_eq_left AA] at b;exact⟨AA,by rw[b,N8]⟩
end Go.Abs
namespace Go.Abs
variable {B d:Rat}
def uo (e:Rat):e=e.num/e.den:=by
 have h:=Rat.mkRat_self e;rw[Rat.mkRat_eq_div] at h;exact h.symm
def Nw (e:Rat):e*e.den=e.num:=by
 have h:(e.den:Rat)≠0:=by
  intro h;exact e.den_nz (Rat.natCast_eq_zero_iff.1 h)
 have:=uo e
 grind
def uq {e:Rat} (h:0<e):0<e.num:=by
 have:=(Rat.lt_iff 0 e).1 h;simpa using this
def Nh {a e:Rat} (c:a<=B) (g: -B<=a) (h3:d<=e) (h: -e<=d):a*d<=B*e:=by
 have p:=Rat.mul_nonneg (a:=B-a) (b:=e+d) (by grind) (by grind);have q:=Rat.mul_nonneg (a:=B+a) (b:=e-d) (by grind) (by grind)
 grind
def sx {a e:Rat} (c:a<=B) (g: -B<=a) (h3:d<=e) (b: -e<=d): -(B*e)<=a*d:=by
 have:=Nh (a:= -a) (d:=d) (B:=B) (e:=e) (by grind) (by grind) h3 b
 grind
structure CS where
 f:Nat->Rat
 JX:∀e:Rat,0<e->∃N,∀n m,N<=n->N<=m->f n-f m<e
namespace CS
def eqv (a b:CS):Prop:=∀e:Rat,0<e->∃N,∀n,N<=n->a.f n-b.f n<e/\b.f n-a.f n<e
def ph (a:CS):eqv a a:=fun e he=>⟨0,fun n _=>by grind⟩
def bK {a b:CS} (h:eqv a b):eqv b a:=fun e he=>by
 obtain⟨N,c⟩:=h e he;exact⟨N,fun n g=>⟨(c n g).2,(c n g).1⟩⟩
def pj {a b c:CS} (h:eqv a b) (k:eqv b c):eqv a c:=fun e he=>by
 obtain⟨N,j⟩:=h (e/2) (by grind);obtain⟨M,g⟩:=k (e/2) (by grind);refine⟨max N M,fun n l=>?_⟩;have:=j n AA;have:=g n AA
 grind
instance st:Setoid CS:=⟨eqv,ph,bK,pj⟩
def pg {a b:CS} (h:∀n,a.f n=b.f n):a ≈ b:=fun e he=>⟨0,fun n _=>by have:=h n;grind⟩
def Oj (a:CS):∃B:Rat,0<B/\∃N,∀n,N<=n->a.f n<=B/\ -B<=a.f n:=by
 obtain⟨N,c⟩:=a.JX 1 AD
 have j:0<=max (a.f N) (-(a.f N)):=by
  rcases Rat.le_total (a:=a.f N) (b:= -(a.f N)) with h | h
  ·rw[Rat.max_def,if_pos h];grind
  by_cases h':a.f N<= -(a.f N)
  ·rw[Rat.max_def,if_pos h'];grind
  rw[Rat.max_def,if_neg h'];grind
 have l:a.f N<=max (a.f N) (-(a.f N)):=by rw[Rat.max_def];split <;> grind
 have m: -(a.f N)<=max (a.f N) (-(a.f N)):=by rw[Rat.max_def];split <;> grind
 refine⟨max (a.f N) (-(a.f N))+1,by grind,N,fun n g=>?_⟩;have:=c n N g (Nat.le_refl _);have:=c N n (Nat.le_refl _) g
 grind
def const (q:Rat):CS:=⟨fun _=>q,fun e he=>⟨0,fun n m _ _=>by grind⟩⟩
def add (a b:CS):CS:=⟨fun n=>a.f n+b.f n,fun e he=>by
 obtain⟨N,hN⟩:=a.JX (e/2) (by grind);obtain⟨M,hM⟩:=b.JX (e/2) (by grind);refine⟨max N M,fun n m hn hm=>?_⟩;have:=hN n m AA AA;have:=hM n m AA AA
 grind⟩
def neg (a:CS):CS:=⟨fun n=> -a.f n,fun e he=>by
 obtain⟨N,hN⟩:=a.JX e he;refine⟨N,fun n m hn hm=>?_⟩;have:=hN m n hm hn
 grind⟩
def dw {x y u v A e:Rat} (n:0<A) (z:0<B) (he:0<e) (h:x<=A) (c: -A<=x) (g:v<=B) (b: -B<=v)
  (j:x-u<e/(2*B)) (l:u-x<e/(2*B)) (h3:y-v<e/(2*A)) (m:v-y<e/(2*A)):x*y-u*v<=e:=by
 have p:=Nh (a:=x) (d:=y-v) (B:=A) (e:=e/(2*A)) h c (by grind) (by grind);have q:=Nh (a:=v) (d:=x-u) (B:=B) (e:=e/(2*B)) g b (by grind) (by grind);have e1:A*(e/(2*A))=e/2:=by grind
 have e2:B*(e/(2*B))=e/2:=by grind
 grind
def mul (a b:CS):CS:=⟨fun n=>a.f n*b.f n,fun e he=>by
 obtain⟨A,hA,N,hN⟩:=a.Oj;obtain⟨B,hB,M,hM⟩:=b.Oj;have p1:0<(e/2)/(2*B):=by rw[Rat.div_def];exact Rat.mul_pos (by grind) (Rat.inv_pos.2 (by grind))
 have p2:0<(e/2)/(2*A):=by rw[Rat.div_def];exact Rat.mul_pos (by grind) (Rat.inv_pos.2 (by grind))
 obtain⟨P,hP⟩:=a.JX _ p1;obtain⟨Q,hQ⟩:=b.JX _ p2;refine⟨max (max N M) (max P Q),fun n m hn hm=>?_⟩;have hn1:=hN n AA;have hm1:=hM m AA;have:=dw (e:=e/2) hA hB (by grind) hn1.1 hn1.2 hm1.1 hm1.2 (hP n m AA AA) (hP m n AA AA) (hQ n m AA AA) (hQ m n AA AA)
 grind⟩
def add_congr {a b c d:CS} (h:a ≈ c) (k:b ≈ d):add a b ≈ add c d:=fun e he=>by
 obtain⟨N,j⟩:=h (e/2) (by grind);obtain⟨M,g⟩:=k (e/2) (by grind);refine⟨max N M,fun n l=>?_⟩;have:=j n AA;have:=g n AA
 show a.f n+b.f n-(c.f n+d.f n)<e/\c.f n+d.f n-(a.f n+b.f n)<e
 grind
def neg_congr {a c:CS} (h:a ≈ c):neg a ≈ neg c:=fun e he=>by
 obtain⟨N,b⟩:=h e he;refine⟨N,fun n g=>?_⟩;have:=b n g
 show -a.f n- -c.f n<e/\ -c.f n- -a.f n<e
 grind
def mul_congr {a b c d:CS} (h:a ≈ c) (k:b ≈ d):mul a b ≈ mul c d:=fun e he=>by
 obtain⟨A,u,N,y⟩:=a.Oj;obtain⟨B,v,M,x⟩:=d.Oj;have D:0<(e/2)/(2*B):=by rw[Rat.div_def];exact Rat.mul_pos (by grind) (Rat.inv_pos.2 (by grind))
 have F:0<(e/2)/(2*A):=by rw[Rat.div_def];exact Rat.mul_pos (by grind) (Rat.inv_pos.2 (by grind))
 obtain⟨P,z⟩:=h _ D;obtain⟨Q,C⟩:=k _ F;refine⟨max (max N M) (max P Q),fun n G=>?_⟩;have j:=y n AA;have g:=x n AA;have l:=z n AA;have m:=C n AA;have t1:=dw (e:=e/2) u v (by grind) j.1 j.2 g.1 g.2 l.1 l.2 m.1 m.2;have p:=Nh (a:=a.f n) (d:=d.f n-b.f n) (B:=A) (e:=(e/2)/(2*A)) j.1 j.2 (by grind) (by grind);have q:=Nh (a:=d.f n) (d:=c.f n-a.f n) (B:=B) (e:=(e/2)/(2*B)) g.1 g.2 (by grind) (by grind);have e1:A*((e/2)/(2*A))=e/4:=by grind
 have e2:B*((e/2)/(2*B))=e/4:=by grind
 show a.f n*b.f n-c.f n*d.f n<e/\c.f n*d.f n-a.f n*b.f n<e
 grind
def pos (a:CS):Prop:=∃e:Rat,0<e/\∃N,∀n,N<=n->e<a.f n
def fZ {a b:CS} (h:a ≈ b) (k:pos a):pos b:=by
 obtain⟨e,he,N,g⟩:=k;obtain⟨M,c⟩:=h (e/2) (by grind);refine⟨e/2,by grind,max N M,fun n j=>?_⟩;have:=g n AA;have:=c n AA
 grind
def uR {a b:CS} (h:a ≈ b):pos a=pos b:=propext ⟨fZ h,fZ (bK h)⟩
def tri (a:CS):a ≈ const 0\/pos a\/pos (neg a):=by
 apply Classical.byContradiction;intro h;apply h;refine .inl fun e he=>?_
 obtain⟨N,b⟩:=a.JX (e/2) (by grind);refine⟨N,fun n c=>?_⟩
 show a.f n-0<e/\0-a.f n<e
 constructor
 ·apply Classical.byContradiction;intro g;refine h (.inr (.inl ⟨e/4,by grind,N,fun m hm=>?_⟩));have:=b n m c hm
  grind
 apply Classical.byContradiction;intro g;refine h (.inr (.inr ⟨e/4,by grind,N,fun m hm=>?_⟩));have:=b m n hm c
 show e/4< -a.f m
 grind
def rP {x y c e:Rat} (j:0<c) (l:c<x) (m:c<y) (he:0<e) (h:x-y<e*(c*c)):y⁻¹-x⁻¹<e:=by
 have g:0<x*y:=Rat.mul_pos (by grind) (by grind);have e1:y⁻¹-x⁻¹=(x-y)*(x*y)⁻¹:=by grind
 have e2:e=e*(x*y)*(x*y)⁻¹:=by grind
 have p:=Rat.mul_nonneg (a:=x-c) (b:=y) (by grind) (by grind);have n:=Rat.mul_nonneg (a:=c) (b:=y-c) (by grind) (by grind);have q:=Rat.mul_nonneg (a:=e) (b:=x*y-c*c) (by grind) (by grind);have r:=Rat.mul_pos (a:=e*(x*y)-(x-y)) (b:=(x*y)⁻¹) (by grind) (Rat.inv_pos.2 g)
 grind
def PL {a:CS} (h:pos a):∃b:CS,mul a b ≈ const 1:=by
 obtain⟨c,j,N,g⟩:=h;refine⟨⟨fun n=>(a.f (max N n))⁻¹,fun e he=>?_⟩,?_⟩
 ·have l:0<c*c:=Rat.mul_pos j j;obtain⟨M,q⟩:=a.JX (e*(c*c)) (Rat.mul_pos he l);refine⟨M,fun n m p hm=>?_⟩;exact rP j (g _ AA) (g _ AA) he (q _ _ AA AA)
 intro e he;refine⟨N,fun n p=>?_⟩;have:=g n p;have u:a.f n*(a.f (max N n))⁻¹=1:=by rw[Nat.max_eq_right p];grind
 show a.f n*(a.f (max N n))⁻¹-1<e/\1-a.f n*(a.f (max N n))⁻¹<e
 grind
def mul_pos {a b:CS} (h:pos a) (k:pos b):pos (mul a b):=by
 obtain⟨c,m,N,l⟩:=h;obtain⟨d,g,M,j⟩:=k;refine⟨c*d,Rat.mul_pos m g,max N M,fun n x=>?_⟩;have u:=l n AA;have v:=j n AA;have p:=Rat.mul_pos (a:=a.f n-c) (b:=d) (by grind) g;have q:=Rat.mul_pos (a:=a.f n) (b:=b.f n-d) (by grind) (by grind)
 show c*d<a.f n*b.f n
 grind
def add_pos {a b:CS} (h:pos a) (k:pos b):pos (add a b):=by
 obtain⟨c,p,N,j⟩:=h;obtain⟨d,q,M,g⟩:=k;refine⟨c+d,by grind,max N M,fun n u=>?_⟩;have l:=j n AA;have m:=g n AA
 show c+d<a.f n+b.f n
 grind
def tP {a:CS} (h:pos a):¬pos (neg a):=by
 rintro⟨d,n,M,b⟩
 obtain⟨c,m,N,g⟩:=h;have j:=g (max N M) AA;have l:d< -a.f (max N M):=b (max N M) AA
 grind
def tQ:¬pos (const 0):=by
 rintro⟨d,g,M,b⟩
 have c:d<0:=b M AA
 grind
def Ns (k:Nat):(0:Rat)<2^k:=Rat.pow_pos AD
def Nr (k:Nat):(0:Rat)<(2^k)⁻¹:=Rat.inv_pos.2 (Ns k)
def tG (k:Nat):(k:Rat)<2^k:=by
 have:=Nat.lt_two_pow_self (n:=k);have h:((k:Nat):Rat)<((2^k:Nat):Rat):=Rat.natCast_lt_natCast.2 this;simpa using h
def small (e:Rat) (he:0<e):∃N:Nat,∀n:Nat,N<=n->((2:Rat)^n)⁻¹<e:=by
 refine⟨e.den,fun n l=>?_⟩;have m:=tG n;have p:(e.den:Rat)<=(n:Rat):=Rat.natCast_le_natCast.2 l
 have h3:1<=e*e.den:=by
  have:e*e.den=e.num:=Nw e;rw[this];have h:0<e.num:=uq he;have g:((1:Int):Rat)<=e.num:=Rat.intCast_le_intCast.2 h;exact g
 have g:=Ns n;have h:=Rat.mul_lt_mul_of_pos_left (a:=(e.den:Rat)) (b:=2^n) (c:=e) (by grind) he;have q:((2:Rat)^n)⁻¹*2^n=1:=by grind
 have j:=Nr n;have u:=Rat.mul_pos (a:=e*2^n-1) (b:=(2^n)⁻¹) (by grind) j;have v:(e*2^n-1)*((2:Rat)^n)⁻¹=e-((2:Rat)^n)⁻¹:=by grind
 grind
def Fp (q:Rat) (k:Nat):Rat:=(CH (q*(2^k*2^k)).floor.toNat:Rat)*(2^k)⁻¹
def Xb (q:Rat) (k:Nat):0<=Fp q k:=
 Rat.mul_nonneg (by exact Rat.natCast_nonneg) (Rat.le_of_lt (Nr k))
def gK {q:Rat} (k:Nat) (h:q<=0):Fp q k=0:=by
 have c:q*(2^k*2^k)<=0:=by
  have:=Rat.mul_nonneg (a:= -q) (b:=2^k*2^k) (by grind) (Rat.le_of_lt (Rat.mul_pos (Ns k) (Ns k)))
  generalize (2:Rat)^k=x at*
  grind
 have g:(q*(2^k*2^k)).floor<=0:=by
  have:=Rat.floor_le (q*(2^k*2^k));have h3:((q*(2^k*2^k)).floor:Rat)<=((0:Int):Rat):=Rat.le_trans this c;exact Rat.intCast_le_intCast.1 h3
 rw[Fp,Int.toNat_of_nonpos g];have:CH 0=0:=rfl;rw[this];simp
def gJ {q:Rat} (k:Nat) (h:0<=q):Fp q k*Fp q k<=q:=by
 have n:=Ns k;have m:=Nr k;have c:0<=q*(2^k*2^k):=Rat.mul_nonneg h (Rat.le_of_lt (Rat.mul_pos n n));have p:=Rat.floor_le (q*(2^k*2^k));have h3:0<=(q*(2^k*2^k)).floor:=Rat.le_floor_iff.2 (by simpa using c);have g:=PM (q*(2^k*2^k)).floor.toNat;rw[Fp]
 generalize v:CH (q*(2^k*2^k)).floor.toNat=r at*
 have j:((r*r:Nat):Rat)<=((q*(2^k*2^k)).floor.toNat:Rat):=Rat.natCast_le_natCast.2 g
 have l:((q*(2^k*2^k)).floor.toNat:Rat)=((q*(2^k*2^k)).floor:Rat):=by
  have:=Int.toNat_of_nonneg h3;have u:(((q*(2^k*2^k)).floor.toNat:Int):Rat)=((q*(2^k*2^k)).floor:Rat):=by rw[this]
  exact u
 rw[l] at j
 have z:(r:Rat)*r<=q*(2^k*2^k):=by
  have:((r*r:Nat):Rat)=(r:Rat)*r:=AS
  grind
 have A:=Rat.mul_nonneg (a:=q*(2^k*2^k)-(r:Rat)*r) (b:=(2^k)⁻¹*(2^k)⁻¹) (by grind) (Rat.le_of_lt (Rat.mul_pos m m));have e:(2:Rat)^k*(2^k)⁻¹=1:=by grind
 clear c p h3 g j l v
 generalize ((2:Rat)^k)⁻¹=y at*
 generalize (2:Rat)^k=x at*
 have e2:(q*(x*x)-(r:Rat)*r)*(y*y)=q-r*y*(r*y):=by grind
 grind
def di (q:Rat) (k:Nat):q<(Fp q k+(2^k)⁻¹)*(Fp q k+(2^k)⁻¹):=by
 have u:=Ns k;have h:=Nr k;have g:=SN (q*(2^k*2^k)).floor.toNat;rw[Fp]
 generalize n:CH (q*(2^k*2^k)).floor.toNat=r at*
 have j:q*(2^k*2^k)<(q*(2^k*2^k)).floor+1:=by
  have:=Rat.lt_floor_add_one (q*(2^k*2^k));rwa [Rat.intCast_add] at this
 have h3:(q*(2^k*2^k)).floor<=((q*(2^k*2^k)).floor.toNat:Int):=Int.self_le_toNat _
 have c:((q*(2^k*2^k)).floor:Rat)<=((q*(2^k*2^k)).floor.toNat:Rat):=by
  exact Rat.intCast_le_intCast.2 h3
 have l:((q*(2^k*2^k)).floor.toNat:Rat)+1<=((r:Rat)+1)*(r+1):=by
  have m:(q*(2^k*2^k)).floor.toNat+1<=(r+1)*(r+1):=g;have:=Rat.natCast_le_natCast.2 m;simpa using this
 have p:=Rat.mul_pos (a:=((r:Rat)+1)*(r+1)-q*(2^k*2^k)) (b:=(2^k)⁻¹*(2^k)⁻¹) (by grind) (Rat.mul_pos h h);have e:(2:Rat)^k*(2^k)⁻¹=1:=by grind
 clear j h3 g l c n
 generalize ((2:Rat)^k)⁻¹=y at*
 generalize (2:Rat)^k=x at*
 have e2:(((r:Rat)+1)*(r+1)-q*(x*x))*(y*y)=(r*y+y)*(r*y+y)-q:=by grind
 grind
def Xc {p q e:Rat} {k l:Nat} (he:0<e) (u:((2:Rat)^l)⁻¹<e/2) (h:p-q<e*e/2):Fp p k-Fp q l<e:=by
 apply Classical.byContradiction;intro v;have g:=Xb q l;have j:=di q l
 have c:0<=p:=by
  apply Classical.byContradiction;intro n;have:=gK (q:=p) k (by grind)
  grind
 have h3:=gJ k c;have m:=Nr l
 generalize Fp p k=s at*
 generalize Fp q l=t at*
 generalize ((2:Rat)^l)⁻¹=d at*
 have x:=Rat.mul_nonneg (a:=s-(t+d)-e/2) (b:=s+(t+d)) (by grind) (by grind);have y:=Rat.mul_nonneg (a:=e/2) (b:=s+t+d-e) (by grind) (by grind)
 grind
def sqrt (a:CS):CS:=⟨fun n=>Fp (a.f n) n,fun e he=>by
 obtain⟨N,hN⟩:=small (e/2) (by grind);obtain⟨M,hM⟩:=a.JX (e*e/2) (by have:=Rat.mul_pos he he;grind);refine⟨max N M,fun n m hn hm=>?_⟩;exact Xc he (hN m AA) (hM n m AA AA)⟩
def xn {a b:CS} (h:a ≈ b):sqrt a ≈ sqrt b:=fun e he=>by
 obtain⟨N,c⟩:=small (e/2) (by grind);obtain⟨M,g⟩:=h (e*e/2) (by have:=Rat.mul_pos he he;grind);refine⟨max N M,fun n j=>?_⟩;have:=g n AA;exact⟨Xc he (c n AA) this.1,Xc he (c n AA) this.2⟩
def JH {a:CS} (h:¬pos (neg a)):mul (sqrt a) (sqrt a) ≈ a:=fun e he=>by
 obtain⟨B,K,P,x⟩:=(sqrt a).Oj;have C:0<e/(2*B+1):=by rw[Rat.div_def];exact Rat.mul_pos (by grind) (Rat.inv_pos.2 (by grind))
 obtain⟨N,v⟩:=small _ C;obtain⟨m,g⟩:=small 1 AD;obtain⟨M,u⟩:=a.JX (e/2) (by grind)
 have c:∃n,M<=n/\ -(e/2)<a.f n:=by
  apply Classical.byContradiction;intro y;apply h;refine⟨e/4,by grind,M,fun n l=>?_⟩;have:¬(-(e/2)<a.f n):=fun z=>y ⟨n,l,z⟩
  show e/4< -a.f n
  grind
 obtain⟨n0,j,c⟩:=c;refine⟨max (max N m) (max M P),fun n l=>?_⟩;have p:=x n AA;have D:=v n AA;have h3:=u n0 n j AA;have F:=di (a.f n) n;have G:=Xb (a.f n) n;have H:=Nr n;have J:=g n AA
 show Fp (a.f n) n*Fp (a.f n) n-a.f n<e/\a.f n-Fp (a.f n) n*Fp (a.f n) n<e
 have q:Fp (a.f n) n<=B:=p.1
 constructor
 ·by_cases A:0<=a.f n
  ·have:=gJ n A
   grind
  rw[gK n (by grind)]
  grind
 generalize Fp (a.f n) n=s at*
 generalize ((2:Rat)^n)⁻¹=d at*
 have L:=Rat.mul_nonneg (a:=B-s) (b:=d) (by grind) (by grind);have O:=Rat.mul_nonneg (a:=1-d) (b:=d) (by grind) (by grind);have Q:=Rat.mul_pos (a:=e/(2*B+1)-d) (b:=2*B+1) (by grind) (by grind);have R:e/(2*B+1)*(2*B+1)=e:=by grind
 grind
def N4 (a:CS):¬pos (neg (sqrt a)):=by
 rintro⟨e,he,N,b⟩
 have c:e< -Fp (a.f N) N:=b N (Nat.le_refl _);have:=Xb (a.f N) N
 grind
end CS
def Re:Type:=Quotient CS.st
namespace Re
def mk (a:CS):Re:=Quotient.mk _ a
def ofRat (q:Rat):Re:=mk (CS.const q)
def add (x y:Re):Re:=Quotient.liftOn₂ x y (fun a b=>mk (CS.add a b)) fun _ _ _ _ h k=>Quotient.sound (CS.add_congr h k)
def mul (x y:Re):Re:=Quotient.liftOn₂ x y (fun a b=>mk (CS.mul a b)) fun _ _ _ _ h k=>Quotient.sound (CS.mul_congr h k)
def neg (x:Re):Re:=Quotient.liftOn x (fun a=>mk (CS.neg a)) fun _ _ h=>Quotient.sound (CS.neg_congr h)
def sqrt (x:Re):Re:=Quotient.liftOn x (fun a=>mk (CS.sqrt a)) fun _ _ h=>Quotient.sound (CS.xn h)
def pos (x:Re):Prop:=Quotient.liftOn x CS.pos fun _ _ h=>CS.uR h
def pow (x:Re):Nat->Re
 | 0=>ofRat 1
 | n+1=>mul (pow x n) x
instance:Add Re:=⟨add⟩
instance:Mul Re:=⟨mul⟩
instance:Neg Re:=⟨neg⟩
instance:Sub Re:=⟨fun a b=>add a (neg b)⟩
instance (n:Nat):OfNat Re n:=⟨ofRat n⟩
instance:NatCast Re:=⟨fun n=>ofRat n⟩
instance:IntCast Re:=⟨fun n=>ofRat n⟩
instance:Pow Re Nat:=⟨pow⟩
instance:SMul Nat Re:=⟨fun n a=>mul (ofRat n) a⟩
instance:SMul Int Re:=⟨fun n a=>mul (ofRat n) a⟩
instance:LT Re:=⟨fun a b=>pos (add b (neg a))⟩
instance:LE Re:=⟨fun a b=>¬pos (add a (neg b))⟩
def sound {a b:CS} (h:∀n,a.f n=b.f n):mk a=mk b:=Quotient.sound (CS.pg h)
def Ec {p:Re->Prop} (h:∀a,p (mk a)) (x:Re):p x:=Quotient.ind h x
def add_assoc (x y z:Re):x+y+z=x+(y+z):=by
 induction x using Ec;induction y using Ec;induction z using Ec
 exact sound fun n=>Rat.add_assoc _ _ _
def add_comm (x y:Re):x+y=y+x:=by
 induction x using Ec;induction y using Ec
 exact sound fun n=>Rat.add_comm _ _
def add_zero (x:Re):x+0=x:=by
 induction x using Ec
 exact sound fun n=>Rat.add_zero _
def neg_add_cancel (x:Re): -x+x=0:=by
 induction x using Ec
 exact sound fun n=>Rat.neg_add_cancel _
def mul_assoc (x y z:Re):x*y*z=x*(y*z):=by
 induction x using Ec;induction y using Ec;induction z using Ec
 exact sound fun n=>Rat.mul_assoc _ _ _
def mul_comm (x y:Re):x*y=y*x:=by
 induction x using Ec;induction y using Ec
 exact sound fun n=>Rat.mul_comm _ _
def mul_one (x:Re):x*1=x:=by
 induction x using Ec
 exact sound fun n=>Rat.mul_one _
def left_distrib (x y z:Re):x*(y+z)=x*y+x*z:=by
 induction x using Ec;induction y using Ec;induction z using Ec
 exact sound fun n=>Rat.mul_add _ _ _
def zero_mul (x:Re):0*x=0:=by
 induction x using Ec
 exact sound fun n=>Rat.zero_mul _
def ofRat_add (p q:Rat):ofRat (p+q)=ofRat p+ofRat q:=rfl
def ofRat_mul (p q:Rat):ofRat (p*q)=ofRat p*ofRat q:=rfl
def ofRat_neg (p:Rat):ofRat (-p)= -ofRat p:=rfl
abbrev YI {C:Type->Type} {α:Type} (_:C α):Type->Type:=C
abbrev lV:Type->Type:=YI Dyadic.instCommRing
abbrev UO:Type->Type:=YI Dyadic.instCommRing.toRing.toSemiring
instance:lV Re where
 add_assoc:=add_assoc
 add_comm:=add_comm
 add_zero:=add_zero
 neg_add_cancel:=neg_add_cancel
 mul_assoc:=mul_assoc
 mul_comm:=mul_comm
 mul_one:=mul_one
 one_mul:=fun x=>by rw[mul_comm,mul_one]
 left_distrib:=left_distrib
 right_distrib:=fun x y z=>by rw[mul_comm,left_distrib,mul_comm z x,mul_comm z y]
 zero_mul:=zero_mul
 mul_zero:=fun x=>by rw[mul_comm,zero_mul]
 pow_zero:=fun _=>rfl
 pow_succ:=fun _ _=>rfl
 sub_eq_add_neg:=fun _ _=>rfl
 neg_zsmul:=fun i x=>by
  show mul (ofRat ((-i:Int):Rat)) x=neg (mul (ofRat (i:Rat)) x)
  rw[Rat.intCast_neg]
  induction x using Ec
  exact sound fun n=>Rat.neg_mul _ _
 zsmul_natCast_eq_nsmul:=fun _ _=>rfl
 nsmul_eq_natCast_mul:=fun _ _=>rfl
 ofNat_succ:=fun n=>by
  show ofRat ((n+1:Nat):Rat)=ofRat (n:Rat)+ofRat 1
  rw[Rat.natCast_add,ofRat_add]
  rfl
 ofNat_eq_natCast:=fun _=>rfl
 intCast_ofNat:=fun _=>rfl
 intCast_neg:=fun i=>by
  show ofRat ((-i:Int):Rat)=neg (ofRat (i:Rat))
  rw[Rat.intCast_neg]
  rfl
def lt_def (x y:Re):x<y↔pos (y-x):=Iff.rfl
def le_def (x y:Re):x<=y↔¬pos (x-y):=Iff.rfl
def uT {x y:Re}:pos x->pos y->pos (x*y):=by
 induction x using Ec;induction y using Ec
 exact CS.mul_pos
def uQ {x y:Re}:pos x->pos y->pos (x+y):=by
 induction x using Ec;induction y using Ec
 exact CS.add_pos
def fX {x:Re}:pos x->¬pos (-x):=by
 induction x using Ec
 exact CS.tP
def uY:¬pos 0:=CS.tQ
def fa (x:Re):x=0\/pos x\/pos (-x):=by
 induction x using Ec
 rcases CS.tri _ with h | h | h
 ·exact .inl (Quotient.sound h)
 ·exact .inr (.inl h)
 exact .inr (.inr h)
def fY {q:Rat}:pos (ofRat q)↔0<q:=by
 constructor
 ·rintro⟨e,he,N,b⟩
  have:e<q:=b N (Nat.le_refl _)
  grind
 intro h;exact⟨q/2,by grind,0,fun n _=>by show q/2<q;grind⟩
def le_trans' {x y z:Re} (h:x<=y) (k:y<=z):x<=z:=by
 rw[le_def] at*;intro b;rcases fa (x-y) with e | e | e
 ·rw[show x-z=(x-y)+(y-z) by grind,e,show 0+(y-z)=y-z by grind] at b;exact k b
 ·exact h e
 have:=uQ b e;rw[show x-z+ -(x-y)=y-z by grind] at this;exact k this
def sR (x y:Re):x<=y\/y<=x:=by
 rw[le_def,le_def]
 by_cases h:pos (x-y)
 ·right
  have:=fX h;rwa [show -(x-y)=y-x by grind] at this
 exact .inl h
def sO {x y:Re} (h:x<=y) (k:y<=x):x=y:=by
 rw[le_def] at*;rcases fa (x-y) with e | e | e
 ·grind
 ·exact (h e).elim
 rw[show -(x-y)=y-x by grind] at e;exact (k e).elim
def sa (x y:Re):x<y↔x<=y/\¬y<=x:=by
 rw[lt_def,le_def,le_def]
 constructor
 ·intro h;refine⟨?_,fun k=>k h⟩;have:=fX h;rwa [show -(y-x)=x-y by grind] at this
 rintro⟨_,h⟩
 exact Classical.not_not.1 h
instance:Std.IsLinearOrder Re where
 le_refl:=fun x=>by
  rw[le_def,show x-x=0 by grind];exact uY
 le_trans:=fun _ _ _=>le_trans'
 le_antisymm:=fun _ _=>sO
 le_total:=sR
instance:Std.LawfulOrderLT Re where
 lt_iff:=sa
abbrev lJ {C:(β:Type)->(s:UO β)->(l:LE β)->(t:LT β)->Std.IsPreorder β->Prop} {α:Type} {s:UO α} {l:LE α} {t:LT α} {p:Std.IsPreorder α} (_:C α s l t p):(β:Type)->(s:UO β)->(l:LE β)->(t:LT β)->Std.IsPreorder β->Prop:=C
def WO {a b c:Re} (h:a<b) (g:0<c):c*a<c*b:=by
 rw[lt_def] at*;rw[show c*b-c*a=(c-0)*(b-a) by grind];exact uT g h
instance:lJ Dyadic.instOrderedRing Re inferInstance inferInstance inferInstance inferInstance where
 add_le_left_iff:=fun c=>by
  rename_i a b
  rw[le_def,le_def,show a+c-(b+c)=a-b by grind]
 zero_lt_one:=by
  rw[lt_def]
  show pos (ofRat 1-ofRat 0)
  have:ofRat 1-ofRat 0=ofRat 1:=by
   show (1:Re)-0=1
   grind
  rw[this,fY]
  decide
 mul_lt_mul_of_pos_left:=fun h hc=>WO h hc
 mul_lt_mul_of_pos_right:=fun h hc=>by
  rename_i a b c
  rw[mul_comm a c,mul_comm b c];exact WO h hc
def mul_pos {x y:Re} (h:0<x) (k:0<y):0<x*y:=by
 have:=WO k h
 grind
def dx {x y:Re} (h:0<=x) (k:0<=y):0<=x*y:=by
 by_cases h':0<x
 ·by_cases k':0<y
  ·have:=mul_pos h' k'
   grind
  have:y=0:=by grind
  subst this
  grind
 have:x=0:=by grind
 subst this
 grind
def tY:ofRat 0=0:=rfl
def KR {p q:Rat}:ofRat p<ofRat q↔p<q:=by
 rw[lt_def]
 have:ofRat q-ofRat p=ofRat (q-p):=by
  rw[show q-p=q+ -p by grind,ofRat_add,ofRat_neg];grind
 rw[this,fY]
 grind
def eX {p q:Rat}:ofRat p<=ofRat q↔p<=q:=by
 have:= @KR q p
 grind
def MS {p q:Rat}:ofRat p=ofRat q↔p=q:=by
 constructor
 ·intro h;have b:=(@eX p q).1 (by grind);have c:=(@eX q p).1 (by grind)
  grind
 rintro rfl;rfl
def cy {x:Re} (h:0<x):∃y,x*y=1:=by
 rw[lt_def,show x-0=x by grind] at h
 induction x using Ec
 obtain⟨b,hb⟩:=CS.PL h;exact⟨mk b,Quotient.sound hb⟩
def PL {x:Re} (h:x≠0):∃y,x*y=1:=by
 by_cases b:0<x
 ·exact cy b
 obtain⟨y,c⟩:=cy (x:= -x) (by grind);exact⟨-y,by grind⟩
def N4 (x:Re):0<=sqrt x:=by
 rw[le_def,show 0-sqrt x= -sqrt x by grind]
 induction x using Ec
 exact CS.N4 _
def JH {x:Re} (h:0<=x):sqrt x*sqrt x=x:=by
 rw[le_def,show 0-x= -x by grind] at h
 induction x using Ec
 exact Quotient.sound (CS.JH h)
def F3 {x y:Re} (h:x*y=0):x=0\/y=0:=by
 by_cases b:x=0
 ·exact .inl b
 obtain⟨z,c⟩:=PL b
 right
 have:y=(x*z)*y:=by rw[c];grind
 grind
def Lg (x:Re):0<=x*x:=by
 by_cases h:0<=x
 ·exact dx h h
 have:=dx (x:= -x) (y:= -x) (by grind) (by grind)
 grind
def N2 {x y:Re} (b:0<=x) (c:0<=y) (h:x*x=y*y):x=y:=by
 have:(x-y)*(x+y)=0:=by grind
 rcases F3 this with e | e
 ·grind
 grind
end Re
end Go.Abs
