/- Part 6 of a proof. Conditions: each theorem's own. -/
import Derived.Laws.Sem
import Derived.Test.YtclgfoceefhnkaaGreatDoorProg
import Derived.Test.YtclgfoceefhnkaaGreatDoorLn04
set_option linter.all false
set_option maxHeartbeats 80000000
set_option maxRecDepth 20000
open Go.Proofs
namespace Go.Abs
open Go.RowKit
def JR (tmps:Array Value):ResultVar->Sem Value
 | .tmp t=>pure (tmps.getD t undef)
 | .cell a t=>do loadVar t (<-asAddr (tmps.getD a undef))
def LY:List Value->Value
 | [v]=>v
 | vs=> .tuple vs.toArray
structure Fn (P:Program) (TI:TypeId->Info) (f:FuncId) (n:Nat) (c:Code) (rs:List ResultVar):Prop where
 get : ∃ fn, P.funcs[f]? = some fn /\ (fn.name == "runtime.NumGoroutine") = false /\ fn.body = some c /\ fn.ntmps = n /\ fn.results.toList = rs
 dst:HI c=true
 ty:∀t,G9 P t (TI t)
 mixed:P.follows .mixedOrders=true
def Ld (args:List AV):Bool:=args.all fun c=>match c with | .AI _=>false | c=>c.all DS
def J5 (args:List AV):Bool:=args.all fun c=>match c with | .AI _=>false | c=>c.all PJ
section
variable {P:Program} {TI:TypeId->Info} {w0 w:World} {X:WX} {β:Nat->Option Nat} {s:St} {a:Act} {I:Nat->Prop}
theorem nZ {fn:Func} {tmps:Array Value} {vs:List Value} (h:BM (fun r v=>(JR tmps r).run P w= .ok v w) fn.results.toList vs):(results fn tmps).run P w= .ok (LY vs) w:=by
 have mapM:∀{l:List ResultVar} {vs:List Value},BM (fun r v=>(JR tmps r).run P w= .ok v w) l vs->(l.mapM (JR tmps)).run P w= .ok vs w:=fun h=>by
  induction h with
  | nil=>simp
  | cons q _ b=>rw[List.mapM_cons];simp[Sem.run_bind,q,b]
 have e:results fn tmps=(do let vs <-fn.results.mapM (JR tmps);pure (if h:vs.size=1 then vs[0] else .tuple vs)):=by
  unfold results
  congr 1
 rw[e,Array.mapM_eq_mapM_toList];simp only[Sem.run_bind,map_eq_pure_bind,mapM h,Result.andThen_ok,Sem.run_pure]
 congr 1
 match vs with
 |[]|[v]|_::_::_=>rfl
theorem TJ (p:∀t,G9 P t (TI t)) (S:Bl w0 X β s a w):∀{rs:List ResultVar} {xs:List (Bool×List AC)},JS TI s rs=some xs->∃vs,BM (fun r v=>(JR a.tmps r).run P w= .ok v w) rs vs/\BM (fun y u=>(y.1=false->y.2.length<=1)/\Fg (Bg (cx X w β (AN s.bk))) (FR y) u) xs vs
 | [],xs,h=>by cases h;exact⟨[],.nil,.nil⟩
 | r::rs,xs,h=>by
  simp only[JS] at h
  split at h
  ·rename_i b H d o
   cases h;obtain⟨vs,k1,k2⟩:=TJ p S o
   suffices ∃v,(JR a.tmps r).run P w= .ok v w/\(b.1=false->b.2.length<=1)/\Fg (Bg (cx X w β (AN s.bk))) (FR b) v by obtain⟨v,F,G⟩:=this;exact⟨v::vs,.cons F k1,.cons G k2⟩
   cases r with
   | tmp t=>
    cases d;refine⟨_,rfl,?_⟩;have k:=S.Hz t
    generalize nth s.sl t=g at k
    cases g with
    | one _=>exact⟨fun _=>Nat.le_refl _,k⟩
    | agg _=>exact⟨nofun,k⟩
    | AI _=>exact⟨fun _=>Nat.zero_le _,.inl rfl⟩
   | cell q t=>
    simp only[Zg] at d;have k:=S.Hz q
    split at d
    ·rename_i id v off he
     rw[he] at k
     split at d
     ·rename_i J cs hb
      split at d
      ·rename_i c
       simp only[Bool.and_eq_true,beq_iff_eq] at c;obtain⟨⟨A,z⟩,hlen⟩:=c;cases d;obtain⟨b1,x,D⟩:=(k.resolve_left nofun).2 (z.symm.trans (EL hb).symm);obtain⟨arr,e,o,h3⟩:=(S.blocks id _ hb).1.var x;have j:BM (Bg (cx X w β (AN s.bk))) (Eh cs off (TI t).size) ((arr.toList.drop off).take (TI t).size):=by rw[KS];exact (h3.drop off).take _
       have m:(TI t).agg=false->(Eh cs off (TI t).size).length=1:=fun e=>hlen.trans (by obtain⟨_,_,_,_,_,_,_,_,_,B⟩:=(p t).info A;exact B e)
       refine⟨valOf (TI t).agg ((arr.toList.drop off).take (TI t).size),?_,fun e=>Nat.le_of_eq (m e),?_⟩
       ·refine Eq.trans ?_ (run_load (p t) A (ZZ o (off:=off) (n:=(TI t).size)) (by rw[<-j.length];exact hlen));simp only[JR,D,asAddr,Instr.loadAt,Instr.sureAddr]
       have:=Pr j m
       generalize Eh cs off (TI t).size=l at this
       cases C:(TI t).agg <;> rw[C] at this
       ·cases l <;> first | exact .inl rfl | exact this
       exact this
      cases d
     cases d
    cases d
  cases h
theorem Vp {R:AC->AC->Prop}:∀{l m l' m':List AC},BR R l m->BR R l' m'->BR R (l++l') (m++m')
 | [],[],_,_,_,h=>h
 | _::_,_::_,_,_,h,h'=>⟨h.1,Vp h.2 h'⟩
 | [],_::_,_,_,h,_ | _::_,[],_,_,h,_=>h.elim
theorem Zh {bk:Nat->Option Af} {R:AC->Value->Prop} {xs:List (Bool×List AC)} {vs:List Value} (r:BM (fun y u=>(y.1=false->y.2.length<=1)/\Fg R (FR y) u) xs vs):∀{ys:List (Bool×List AC)},KN bk xs ys->
  ∃us,BM R (xs.flatMap (·.2)) us/\BR (Ij bk) (xs.flatMap (·.2)) (ys.flatMap (·.2))/\∀R',BM R' (ys.flatMap (·.2)) us->BM (fun y u=>Fg R' (FR y) u) ys vs:=by
 induction r with
 | nil=>intro ys h;cases ys with
  | nil=>exact⟨[],.nil,trivial,fun _ _=> .nil⟩
  | cons=>exact h.elim
 | @cons x v _ _ q _ j=>intro ys h;cases ys with
  | nil=>exact h.elim
  | cons y ys=>
   obtain⟨⟨e,g⟩,z⟩:=h;obtain⟨us,k1,k2,A⟩:=j z
   have p:∀{l m:List AC},BR (Ij bk) l m->l.length=m.length:=fun {l}=>by
    induction l with
    | nil=>intro m h;cases m <;> first | rfl | exact h.elim
    | cons x l j=>intro m h;cases m with
     | nil=>exact h.elim
     | cons y m=>exact congrArg (· +1) (j h.2)
   obtain⟨b,g1,g2⟩:∃b,BM R x.2 b/\∀R',BM R' y.2 b->Fg R' (FR y) v:=by
    obtain⟨t,cs⟩:=x;obtain⟨C,n⟩:=y;obtain rfl:t=C:=e;cases t with
    | true=>obtain⟨_,arr,ev,h⟩:=q;exact⟨arr.toList,h,fun R' h'=>⟨arr,ev,h'⟩⟩
    | false=>match cs,n,g,q with
     | [],[],_,_=>exact⟨[],.nil,fun _ _=> .inl rfl⟩
     | [c],[d],g,⟨_,q⟩=>exact⟨[v],.cons (q.resolve_left fun e=>by subst e;exact g.1) .nil,fun R' h=>by cases h;exact .inr ‹_›⟩
     | _::_::_,_,_,⟨q,_⟩=>simp at q
   refine⟨b++us,g1.append k1,Vp g k2,fun R' h=>?_⟩;obtain⟨m1,m2,o,k,B⟩:=BM.Sl h;obtain⟨rfl,rfl⟩:=List.append_inj o (by rw[<-g1.length,<-k.length,p g]);exact .cons (g2 R' k) (A R' B)
theorem Wo {R:AC->Value->Prop} {r:AV} {vs:List Value} (b:vs.length=1↔∀ys,r≠ .AI ys) (h:BM (fun z q=>Fg R (FR z) q) r.IK vs):RV R r (LY vs):=by
 cases r with
 | AI xs=>
  have e:LY vs= .tuple vs.toArray:=by
   match vs,fun e=>b.1 e xs rfl with
   | [],_=>rfl
   | [_],h=>exact absurd rfl h
   | _::_::_,_=>rfl
  exact⟨vs.toArray,e,h⟩
 | one c | agg cs=>obtain _ |⟨h,_ | _⟩:=h;exact h
theorem RU (r:AV):r.IK.flatMap (·.2)=r.cells:=by cases r <;> simp[AV.IK,AV.comp,AV.cells]
theorem Ps (S:Bl w0 X β s a w) (D:∀b,X.A b->I b\/w0.heap.size<=b) {j:Option Nat} (u:j=none\/∃id,live (AN s.bk) id/\β id=j) {c d:AC} {v:Value} (F:JA c=true->j=none)
  (H:X.ob=none/\DS d=true\/(live (AN s.bk) 0/\BE (AN s.bk) 0=0)/\(IW d=true\/LS c=true/\DS d=true)) (h:Ij (AN s.bk) c d) (r:Bg (cx X w β (AN s.bk)) c v):GN (DW false I w0.heap.size w X.ob j) w0.heap.size j d v:=by
 have g:∀b,X.ob=some b->live (AN s.bk) 0/\β 0=some b:=fun b e=>H.elim (fun q=>by rw[q.1] at e;cases e) fun q=>⟨q.1.1,(S.Jy q.1.1 q.1.2).trans e⟩
 have x:∀b,(cx X w β (AN s.bk)).I b->(DW false I w0.heap.size w X.ob j).I b/\w.heap[b]? =w.heap[b]? :=fun b hb=>
  ⟨⟨(D b hb.2).imp (fun q=>⟨rfl,q⟩) fun q=>q,hb.1.1,fun e=>hb.1.2 0 (g b e).1 (g b e).2,fun e=>by
   rcases u with h' |⟨id,o,p⟩
   ·rw[h'] at e;cases e
   exact hb.1.2 id o (p.trans e)⟩,rfl⟩
 cases c with
 | AZ t id k off len=>
  rcases h with⟨l,o,p,rfl⟩ |⟨l,n,_,_,_,_,_,rfl⟩ |⟨rfl,rfl,rfl⟩
  ·cases F rfl;obtain⟨base,cap,e,g1,g2,_,C⟩:=PQ S r o p;refine⟨base,cap,by rw[e],g1,g2,C.imp (fun q=>q) fun⟨b,z,B,L,M,N⟩=>⟨b,_,M,?_,fun i y G=>let ⟨us,J,K⟩:=N i y G;⟨us,Ev (w':=w) x _ _ _ J,K⟩⟩⟩
   have m:X.ob≠some b:=fun e=>by
    obtain⟨k1,k2⟩:=g b e;obtain rfl:=S.inj id 0 b z k1 B k2;rcases H with H |⟨_,H | H⟩
    ·rw[H.1] at e;cases e
    ·cases H
    cases H.1
   exact⟨.inr ((S.own id b z B).resolve_right fun q=>m q.1),L,m,nofun⟩
  ·rcases H with⟨_,H⟩ |⟨_,H |⟨_,H⟩⟩ <;> cases H
  rcases H with⟨_,H⟩ |⟨H1,_⟩
  ·cases H
  refine⟨⟨r.1.1,Nat.le_refl _⟩,fun _=>?_⟩;have:=r.2 H1.2.symm;rwa [show (cx X w β (AN s.bk)).β 0=X.ob from S.Jy H1.1 H1.2] at this
 | nil=>
  rcases h with rfl |⟨t,rfl⟩ |⟨t,rfl⟩
  ·exact r
  ·rw[show v=_ from r];exact LQ
  rcases H with⟨_,H⟩ |⟨_,H |⟨_,H⟩⟩ <;> cases H
 | int | bool | str | fn | sl=>obtain rfl:=h;exact Gz x rfl r
 | _=>exact h.elim
theorem nW (S:Bl w0 X β s a w) (p:X.ob=none) (B:∀b,X.A b->I b\/w0.heap.size<=b) {c d:AC} {v:Value} (m:HO d=true) (h:Ij (AN s.bk) c d)
  (r:Bg (cx X w β (AN s.bk)) c v):∃o,GN (DW false I w0.heap.size w X.ob o) w0.heap.size o d v/\(o=none\/((∃id,live (AN s.bk) id/\β id=o)/\JA c=true)):=by
 cases c with
 | AZ t id k off len=>
  rcases h with⟨l,j,K,rfl⟩ |⟨l,n,_,j,rfl,rfl,rfl,rfl⟩ |⟨_,_,rfl⟩
  ·cases m
  ·obtain⟨base,cap,e,g1,g2,_,z⟩:=r.2 (EL j).symm;have u:l.length<=140737488355328:=(S.blocks id _ j).2;have g:live (AN s.bk) id:=⟨_,j,rfl⟩;rcases z with rfl |⟨b,arr,x,k1,k2,D,F⟩
   ·exact⟨none,⟨rfl,base,0,e,g1,g2,u,.inl ⟨rfl,List.eq_nil_of_length_eq_zero (by omega),rfl⟩⟩,.inl rfl⟩
   obtain⟨_,_,_,J⟩:=(S.blocks id _ j).1.arr k1;refine⟨some b,⟨rfl,base,cap,e,g1,g2,u,.inr ⟨b,arr,x,rfl,(S.own id b g k1).resolve_right (fun q=>by rw[p] at q;cases q.1),by rw[k2];simp,D,by simpa using F,fun i y C=>?_⟩⟩,.inr ⟨⟨id,g,k1⟩,rfl⟩⟩;obtain⟨us,G,H⟩:=J i y C;exact⟨us,Ev (w':=w) (fun b' hb=>⟨⟨(B b' hb.2).imp (fun q=>⟨rfl,q⟩) (fun q=>q),hb.1.1,(by rw[p];nofun),fun e=>hb.1.2 id g (k1.trans e)⟩,rfl⟩) _ _ _ G,H⟩
  cases m
 | nil=>
  rcases h with rfl |⟨t,rfl⟩ |⟨t,rfl⟩
  ·cases m
  ·cases m
  exact⟨none,⟨rfl,none,0,r,Nat.le_refl _,Nat.zero_le _,by simp,.inl ⟨rfl,rfl,rfl⟩⟩,.inl rfl⟩
 | int | bool | str | fn | sl=>obtain rfl:=h;cases m
 | _=>exact h.elim
theorem nX (S:Bl w0 X β s a w) (B:X.ob=none) (y:∀b,X.A b->I b\/w0.heap.size<=b) {cs:List AC} {vs:List Value} (r:BM (Bg (cx X w β (AN s.bk))) cs vs):∀{g:List AC},(g.filter HO).length<=1->((g.filter HO).length=1->(cs.filter JA).length<=1)->BR (Ij (AN s.bk)) cs g->g.all Ge=true->
  ∃j,BM (GN (DW false I w0.heap.size w X.ob j) w0.heap.size j) g vs/\(j=none\/((∃id,live (AN s.bk) id/\β id=j)/\cs.filter JA≠[])):=by
 have l:∀{j:Option Nat} {cs:List AC} {vs:List Value},(j=none\/∃id,live (AN s.bk) id/\β id=j)->BM (Bg (cx X w β (AN s.bk))) cs vs->∀{g:List AC},g.filter HO=[]->(cs.filter JA≠[]->j=none)->BR (Ij (AN s.bk)) cs g->g.all Ge=true->BM (GN (DW false I w0.heap.size w X.ob j) w0.heap.size j) g vs:=by
  intro j cs vs C r
  induction r with
  | nil=>intro g _ _ h _;cases g with
   | nil=>exact .nil
   | cons=>exact h.elim
  | @cons c _ cs _ q _ z=>intro g m n h k;cases g with
   | nil=>exact h.elim
   | cons d g=>
    simp only[List.all_cons,Bool.and_eq_true] at k;rw[List.filter_cons] at m n
    split at m
    ·cases m
    rename_i p
    refine .cons (Ps S y C (fun o=>n (by rw[o];simp)) (.inl ⟨B,?_⟩) h.1 q) (z m (fun o=>n (by split <;> simp[o])) h.2 k.2);have k:=k.1;cases d <;> first | exact k | exact absurd rfl p
 induction r with
 | nil=>intro g _ _ h _;cases g with
  | nil=>exact⟨none,.nil,.inl rfl⟩
  | cons=>exact h.elim
 | @cons c v cs vs q r z=>intro g m n h k;cases g with
  | nil=>exact h.elim
  | cons d g=>
   have J:=k;simp only[List.all_cons,Bool.and_eq_true] at k;have G:HO d=false->X.ob=none/\DS d=true:=fun p=>⟨B,by have k:=k.1;cases d <;> first | exact k | cases p⟩
   cases p:HO d <;> cases o:JA c <;> simp only[List.filter_cons,p,o,if_true,Bool.false_eq_true,if_false,List.length_cons] at m n ⊢
   ·obtain⟨j,g1,g2⟩:=z m n h.2 k.2;exact⟨j,.cons (Ps S y (g2.imp id (·.1)) (fun h=>by rw[o] at h;cases h) (.inl (G p)) h.1 q) g1,g2⟩
   ·refine⟨none,.cons (Ps S y (.inl rfl) (fun _=>rfl) (.inl (G p)) h.1 q) ?_,.inl rfl⟩
    by_cases x:(g.filter HO).length=1
    ·have F:=List.eq_nil_of_length_eq_zero (Nat.le_zero.1 (Nat.le_of_succ_le_succ (n x)));obtain⟨j,g1,rfl | g2⟩:=z m (fun _=>by rw[F];exact Nat.zero_le _) h.2 k.2
     ·exact g1
     exact absurd F g2.2
    exact l (.inl rfl) r (List.eq_nil_of_length_eq_zero (by omega)) (fun _=>rfl) h.2 k.2
   all_goals
    obtain⟨j,g1,g2⟩:=nW S B y p h.1 q;have u:g.filter HO=[]:=List.eq_nil_of_length_eq_zero (by omega);refine⟨j,.cons g1 (l (g2.imp id fun q=>q.1) r u (fun D=>g2.resolve_right fun H=>?_) h.2 k.2),g2.imp id fun q=>⟨q.1,?_⟩⟩
   ·rw[o] at H;cases H.2
   ·rw[o] at q;cases q.2
   ·exact D (List.eq_nil_of_length_eq_zero (by have:=n (by rw[u];rfl);omega))
   simp
theorem Yo:∀(l m:List AV) (i:Nat),nth (l++m) i=if i<l.length then nth l i else nth m (i-l.length)
 | [],m,i=>by simp
 | x::l,m,0=>by simp[nth]
 | x::l,m,i+1=>by simp[nth,Yo l m i]
theorem mB {x:Cx} {l:List AV} {vs:List Value} (r:BM (CX x) l vs):∀i,i<l.length->CX x (nth l i) (vs.getD i undef):=by
 induction r with
 | nil=>intro i h;cases h
 | cons q _ b=>intro i h;cases i with
  | zero=>exact q
  | succ i=>simpa [nth] using b i (Nat.lt_of_succ_lt_succ h)
theorem mh {c:AC} (h:DS c=true):PJ c=true:=by cases c <;> first | exact h | cases h
theorem Vx {args:List AV} (h:Ld args=true):J5 args=true:=List.all_eq_true.2 fun x d=>by
 have:=List.all_eq_true.1 h x d;cases x <;> first | cases this | exact AV.OK.2 fun c b=>mh (AV.OK.1 this c b)
theorem enter {f:FuncId} {n:Nat} {c:Code} {rs:List ResultVar} (F:Fn P TI f n c rs) {args:List AV} {g:Option Af} {b0:Af} {Q:AX->St->Prop} (hp:J5 args=true) (Y:g=none/\b0= .dead 0\/g=some b0/\b0.lone=true/\0<n) (hn:args.length<=n)
  (h:DQ (env P) TI n c Q (EJ n args g)) {r:AV} {b1:Af} {fl:Bool} (hR:∀{w w':World} {I:Nat->Prop} {ob:Option Nat} {x s β a},(b0.live=true\/ob=none)->Q x s->Bl w ⟨fun b=>I b\/w.heap.size<=b,ob⟩ β s a w'->(∀i,x≠ .exit i)/\
   ∃vs l,BM (fun r v=>(JR a.tmps r).run P w'= .ok v w') rs vs/\RV (GN (DW fl I w.heap.size w' ob l) w.heap.size l) r (LY vs)/\C4 (DW fl I w.heap.size w' ob l) 0 b1/\b1.short):Jg P fl f args b0 r b1:=by
 obtain⟨fn,hf,B,hb,K,M⟩:=F.get;refine⟨⟨fn,c,hf,B,hb⟩,fun w I ob vs L G hG O z=>calls_of_wp hf hb ?_⟩
 have j:∀id b,AN (EJ n args g).bk id=some b->id=0/\g=some b:=by
  intro id b h;cases n with
  | zero=>cases h
  | succ n=>cases id with
   | zero=>exact⟨rfl,h⟩
   | succ id=>
    have:AN (FV n none) id=some b:=h;rw[Sh] at this;cases this
 have C:∀b,g=some b->b=b0/\b.BE=0/\∀v cs,b= .var v cs->cs.all DS=true:=fun b e=>by
  rcases Y with⟨h,_⟩ |⟨h,hl,_⟩
  ·cases h.symm.trans e
  cases h.symm.trans e;cases b0 <;> simp_all [Af.lone,Af.BE]
 have U:BE (AN (EJ n args g).bk) 0=0:=by
  unfold BE
  split
  ·rename_i b h;exact (C b (j 0 b h).2).2.1
  rfl
 let X:WX:=⟨fun b=>I b\/w.heap.size<=b,ob⟩
 have R:∀b,(b<w.heap.size/\ob≠some b)->(cx X w (DM w ob I).β (AN (EJ n args g).bk)).J b:=fun b hb=>⟨hb.1,fun id _ e=>by
  by_cases h:id=0
  ·exact hb.2 ((if_pos h).symm.trans e)
  cases (if_neg h).symm.trans e⟩
 have m:∀b,(DM w ob I).I b->(cx X w (DM w ob I).β (AN (EJ n args g).bk)).I b/\w.heap[b]? =w.heap[b]? :=fun b hb=>⟨⟨R b (G b hb),.inl hb⟩,rfl⟩
 have ptr:∀{k:Nat} {u:Value},D3 (DM w ob I) 0 0 k u->D3 (cx X w (DM w ob I).β (AN (EJ n args g).bk)) 0 0 k u:=fun r=>⟨⟨r.1.1,Nat.zero_le _⟩,fun _=>r.2 rfl⟩
 have cell:∀c v,PJ c=true->Bg (DM w ob I) c v->Bg (cx X w (DM w ob I).β (AN (EJ n args g).bk)) c v:=fun c v e r=>by
  cases c with
  | AZ t i v off len=>
   match i,v,e,r with
   | 0,0,_,r=>exact⟨⟨r.1.1,Nat.zero_le _⟩,fun _=>r.2 rfl⟩
  | AR i v off=>
   match i,v,e,r with
   | 0,0,_,r=>exact ptr r
  | KJ p=>
   obtain⟨b,o,u,W,H,A,hr⟩:=r
   match p,e,A with
   | (0,0,_),_,A=>exact⟨b,o,u,W,R b H,ptr A,hr⟩
  | _=>first | exact Gz (y:=cx X w (DM w ob I).β (AN (EJ n args g).bk)) m e r | cases e
 have d:BM (CX (cx X w (DM w ob I).β (AN (EJ n args g).bk))) args vs:=z.imp (fun r v e h=>by
  cases r with
  | AI _=>cases e
  | _=>exact RV.mono cell e h) hp
 have V:Bl w X (DM w ob I).β (EJ n args g) {tmps:=vs.toArray++Array.replicate (n-vs.toArray.size) undef,defers:=[]} w:=by
  have hlen:=d.length
  refine⟨rfl,by simp[EJ,LL];omega,by cases n <;> simp[EJ,LL] <;> omega,fun i=>?_,fun id b h=>?_,fun id a1 b ⟨_,D,_⟩ ⟨_,Z,_⟩ _ _=>(j _ _ D).1.trans (j _ _ Z).1.symm,fun id b ⟨_,D,_⟩ e=> .inr ⟨by rw[(j _ _ D).1] at e;exact e,(j _ _ D).1⟩,.rfl,
   ⟨fun b hb=> .inr hb,hG.mono fun b hb=>⟨⟨⟨.inl hb,(G b hb).2⟩,(G b hb).1⟩,rfl⟩⟩,fun _ _=>rfl⟩
  ·show CX _ (nth (args++_) i) _
   rw[Yo]
   split
   ·rename_i T
    have:=mB d i T;rw[Array.getD_eq_getD_getElem?,Array.getElem?_append_left (by simpa [<-hlen] using T)];simpa [List.getD_eq_getElem?_getD] using this
   rw[Sg];exact .inl rfl
  obtain⟨rfl,h'⟩:=j id b h;obtain⟨rfl,_,hc⟩:=C b h';exact⟨C4.to (x:=DM w ob I) (id:=0) rfl (fun _ _ _=>rfl) (fun v cs e us q=>q.imp (fun _ _=>Gz m) (hc v cs e)) (fun _ _ _ _=>Ev (w':=w) m _) O.1,O.2⟩
 rw[K];refine wp_mono (IG F.mixed (fun o ho=>ot F.ty o ho) F.dst (by simp[EJ,LL];omega) V h) fun e N w' he=>?_
 obtain⟨x,s',a2,rfl,hq,_,S⟩:=he;obtain⟨hx,us,l,k1,k2,k3⟩:=hR L hq S
 have fin:N.defers=[]/\∃v,(results fn N.tmps).run P w'= .ok v w'/\∃u l,Ending.returned v= .returned u/\Dq w w' ob/\RV (GN (DW fl I w.heap.size w' ob l) w.heap.size l) r u/\C4 (DW fl I w.heap.size w' ob l) 0 b1/\b1.short:=
  ⟨S.defers,LY us,nZ (by rw[M];exact k1),LY us,l,rfl,S.Fo,k2,k3⟩
 cases x with
 | exit i=>exact absurd rfl (hx i)
 | _=>exact fin
theorem gC {f:FuncId} {n:Nat} {c:Code} {rs:List ResultVar} (F:Fn P TI f n c rs) {args:List AV} {r:AV} (v:Ld args=true) (m:r.all Ge=true/\r.wf=true) (u:args.length<=n)
  (h:DQ (env P) TI n c (post TI rs r none) (EJ n args none)):Ej P false f args r:=by
 refine⟨m,enter F (Vx v) (.inl ⟨rfl,rfl⟩) u h fun {w w' I ob x s β a} j g S=>?_⟩;obtain rfl:=j.resolve_left nofun;unfold post at g
 split at g
 ·exact g.elim
 rename_i y
 split at g
 ·rename_i xs k
  obtain⟨p,h3,q⟩:=g.1 ();obtain⟨vs,k1,k2⟩:=TJ F.ty S k;obtain⟨us,g1,g2,l⟩:=Zh k2 p;rw[RU] at g2 l
  have d:(r.cells.filter HO).length<=1/\((r.cells.filter HO).length=1->((xs.flatMap (·.2)).filter JA).length<=1):=by
   unfold Y1 at h3;rw[RU] at h3
   split at h3
   ·rename_i e;rw[e];simp
   ·rename_i e;rw[e];simpa using h3
   cases h3
  obtain⟨o,z,_⟩:=nX (I:=I) S rfl (fun b h=>h) g1 d.1 d.2 g2 (by rw[<-r.MJ];exact m.1);exact⟨fun i e=>y i e,vs,o,k1,Wo (by rw[<-k1.length];exact q) (l _ z),trivial,trivial⟩
 exact g.elim
theorem X9 {f:FuncId} {n:Nat} {c:Code} {rs:List ResultVar} (F:Fn P TI f n c rs) {b0 b1:Af} {args:List AV} {r:AV} {Q:AX->St->Prop} (G:J5 args=true) (y:b0.lone=true/\b1.lone=true) (z:args.length<=n/\0<n)
  (C:∀x s,Q x s->(∀i,x≠ .exit i)/\∃xs,JS TI s rs=some xs/\(KN (AN s.bk) xs r.IK/\(r.all IW=true\/(xs.all fun x=>x.2.all LS)=true/\r.all DS=true)/\(rs.length=1↔∀ys,r≠ .AI ys))/\AN s.bk 0=some b1) (h:DQ (env P) TI n c Q (EJ n args (some b0))):Jg P false f args b0 r b1:=by
 refine enter F G (.inr ⟨rfl,y.1,z.2⟩) z.1 h fun {w w' I ob x s β a} D H S=>?_
 obtain⟨J,xs,o,⟨A,h3,B⟩,hb⟩:=C x s H;obtain⟨vs,k1,k2⟩:=TJ F.ty S o;obtain⟨us,g1,g2,p⟩:=Zh k2 A;rw[RU] at g2 p;have m:b1.BE=0/\b1.live=true/\∀v cs,b1= .var v cs->cs.all DS=true:=by have:=y.2;cases b1 <;> simp_all [Af.lone,Af.BE,Af.live]
 have j:live (AN s.bk) 0/\BE (AN s.bk) 0=0:=⟨⟨_,hb,m.2.1⟩,(EL hb).trans m.1⟩;have k:=S.Jy j.1 j.2;refine⟨J,vs,none,k1,Wo (by rw[<-k1.length];exact B) (p _ ?_),?_,(S.blocks 0 b1 hb).2⟩
 ·have lift:∀{cs:List AC} {us:List Value},BM (Bg (cx ⟨fun b=>I b\/w.heap.size<=b,ob⟩ w' β (AN s.bk))) cs us->∀{g:List AC},(g.all IW=true\/cs.all LS=true/\g.all DS=true)->BR (Ij (AN s.bk)) cs g->BM (GN (DW false I w.heap.size w' ob none) w.heap.size none) g us:=fun r=>by
   induction r with
   | nil=>intro g _ h;cases g with
    | nil=>exact .nil
    | cons=>exact h.elim
   | cons q _ K=>intro g l h;cases g with
    | nil=>exact h.elim
    | cons d g=>
     simp only[List.all_cons,Bool.and_eq_true] at l;exact .cons (Ps S (fun b h=>h) (.inl rfl) (fun _=>rfl) (.inr ⟨j,l.imp (·.1) fun q=>⟨q.1.1,q.2.1⟩⟩) h.1 q) (K (l.imp (·.2) fun q=>⟨q.1.2,q.2.2⟩) h.2)
  exact lift g1 (h3.imp (fun h=>by rw[<-r.MJ];exact h) fun q=>⟨by rw[List.all_flatMap];exact q.1,by rw[<-r.MJ];exact q.2⟩) g2
 have u:∀b,(cx ⟨fun b=>I b\/w.heap.size<=b,ob⟩ w' β (AN s.bk)).I b->(DW false I w.heap.size w' ob none).I b/\w'.heap[b]? =w'.heap[b]? :=fun b hb=>⟨⟨hb.2.imp (fun q=>⟨rfl,q⟩) fun q=>q,hb.1.1,fun e=>hb.1.2 0 j.1 (k.trans e),nofun⟩,rfl⟩
 exact C4.to (x:=cx ⟨fun b=>I b\/w.heap.size<=b,ob⟩ w' β (AN s.bk)) (id:=0) k.symm (fun _ _ _=>rfl) (fun v cs e us q=>q.imp (fun _ _=>Gz u) (m.2.2 v cs e)) (fun _ _ _ _=>Ev (w':=w') u _) (S.blocks 0 b1 hb).1
def jV:AC->Bool
 |.int _ _|.bool _|.fn _|.nil|.str _=>true
 | .own t _ _=>t.flat
 | _=>false
def ZH:AC->AC
 | .own t l _=> .sl t l
 | c=>c
def Pk:AV->AV:= .map ZH
theorem OC {f:FuncId} {args:List AV} {r:AV} (x:r.all jV=true) (h:Ej P false f args r):Ej P true f args r:=by
 refine⟨h.1,h.2.1,fun w I ob vs d g h3 j o=>(h.2.2 w I ob vs d g h3 j o).mono fun e w' ⟨u,m,he,F,hu,_⟩=>⟨u,m,he,F,RV.mono (fun c v k r=>?_) x hu,trivial,trivial⟩⟩;cases c with
 | own t l n=>obtain⟨p,base,cap,e,d,g,h3,j⟩:=r;exact⟨p,base,cap,e,d,g,h3,j.imp (fun q=>q) fun⟨b,arr,ty,k1,k2,A,B,C,D⟩=>⟨b,arr,ty,k1,k2,A,B,C,fun i y z=>let ⟨us,G,H⟩:=D i y z;⟨us,Zf (w:=w') t k y us G,H⟩⟩⟩
 | _=>first | exact r | cases k
theorem DV {fl:Bool} {f:FuncId} {args:List AV} {r:AV} (h:Ej P fl f args r):Ej P fl f args (Pk r):=by
 have g:∀{r:AV},r.all Ge=true->(Pk r).all Ge=true:=fun {r} h=>by
  have d:∀cs:List AC,cs.all Ge=true->(cs.map ZH).all Ge=true:=fun cs h=>by
   rw[List.all_map,List.all_eq_true];intro c g;have:=List.all_eq_true.1 h c g;cases c <;> first | exact this | rfl
  cases r with
  | one c=>cases c <;> first | exact h | rfl
  | agg cs=>exact d cs h
  | AI xs=>simp only[Pk,AV.map,AV.all,List.all_map] at h ⊢;exact List.all_eq_true.2 fun x j=>d x.2 (List.all_eq_true.1 h x j)
 refine⟨⟨g h.1.1,?_⟩,h.2.1,fun w I ob vs d o h3 p q=>(h.2.2 w I ob vs d o h3 p q).mono fun e w' ⟨u,m,he,F,hu,_⟩=>⟨u,none,he,F,RV.map rfl (fun c v g r=>?_) h.1.1 hu,trivial,trivial⟩⟩
 ·have:=h.1.2;cases r with
  | AI xs=>simp only[Pk,AV.map,AV.wf,List.all_map] at this ⊢;exact List.all_eq_true.2 fun x j=>by simpa using List.all_eq_true.1 this x j
  | _=>rfl
 have k:∀b,(DW fl I w.heap.size w' ob m).I b->(DW fl I w.heap.size w' ob none).I b/\w'.heap[b]? =w'.heap[b]? :=fun b hb=>⟨⟨hb.1,hb.2.1,hb.2.2.1,nofun⟩,rfl⟩
 cases c with
 | own t l n=>
  obtain⟨M,base,cap,e,z,L,A,B⟩:=r;refine⟨base,cap,by rw[e],z,A,B.imp (·.2.1) fun⟨b,arr,ty,k1,k2,D,G,N,H⟩=>⟨b,0,D,⟨.inr k2,GA G,?_,nofun⟩,fun i y C=>?_⟩⟩
  ·have:=d.resolve_left nofun;rw[this];nofun
  obtain⟨us,J,K⟩:=H i y C;exact⟨us,Ev (w':=w') k _ _ _ J,by rw[Nat.zero_add];exact K⟩
 | _=>first | exact NO (y:=DW fl I w.heap.size w' ob none) k rfl r | cases g
end
def zC:AC->Value->Bool
 | .int k n,.int k' n'=>k==k'&&n==n'
 | .bool b,.bool b'=>b==b'
 |.nil,.slice none 0 0|.sl _ [],.slice none 0 0=>true
 | .str z,.string z'=>z.data==z'.data
 | .B7,v=>v.oneCell'
 | _,_=>false
def Ly:List AC->List Value->Bool
 | [],[]=>true
 | c::cs,v::vs=>zC c v&&Ly cs vs
 | _,_=>false
theorem qa {c:AC} {v:Value} (h:zC c v=true) (x:Cx):Bg x c v:=by
 unfold zC at h
 split at h <;> try simp only[Bool.and_eq_true,beq_iff_eq] at h
 ·obtain⟨rfl,rfl⟩:=h
  rfl
 ·subst h;rfl
 ·rfl
 ·exact LQ
 ·rename_i z z'
  obtain⟨z⟩:=z;obtain⟨z'⟩:=z';subst h;rfl
 ·exact h
 cases h
theorem UU:∀{cs:List AC} {vs:List Value},Ly cs vs=true->∀x,BM (Bg x) cs vs
 | [],[],_,_=> .nil
 | _::_,_::_,h,x=>by simp only[Ly,Bool.and_eq_true] at h;exact .cons (qa h.1 x) (UU h.2 x)
 | [],_::_,h,_ | _::_,[],h,_=>by simp[Ly] at h
def Wg (P:Program) (t:TypeId) (i:Info):Option Bool:=do
 let ti <-P.info? t
 let d <-P.underlying t
 let z <-ti.zero
 some (ti.size==i.size&&Ly i.zero z.cells.toList&&d.isRow==i.agg&&(i.agg||i.size==1))
def Oa (P:Program) (i:Info) (f:TypeInfo->Value->Bool):TypeDesc->Option Bool
 | .slice e=>do
  let ei <-P.info? e
  let z <-ei.zero
  some (e==i.C1&&f ei z)
 | _=>none
def Wi (i:Info) (ei:TypeInfo) (z:Value):Bool:=ei.size==i.elem.size&&ei.bytes==i.EA&&decide (0<ei.bytes)&&Ly (cells i.elem i.CB) z.cells.toList
def Ob (P:Program) (t:TypeId) (n:Nat) (g:Bool):Option Bool:=do
 let ti <-P.info? t
 let d <-P.underlying t
 some (ti.size==n&&d.isRow==g&&(g||n==1))
def MV (P:Program):List (Nat×Nat×Bool)->List Field->Bool
 | [],[]=>true
 | p::ps,f::fs=>Ob P f.type p.2.1 p.2.2==some true&&f.offset==p.1&&decide (0<p.2.1)&&MV P ps fs
 | _,_=>false
def I1 (P:Program) (i:Info):TypeDesc->Bool
 | .int k=> !i.IV&& !i.Gy&&i.fields.isEmpty&&i.arr.isNone&&(i.kind==none||i.kind==some k)
 | .bool=>i.kind.isNone&& !i.Gy&&i.fields.isEmpty&&i.arr.isNone
 | .string=>i.kind.isNone&& !i.IV&&i.fields.isEmpty&&i.arr.isNone
 | .struct fs=>i.kind.isNone&& !i.IV&& !i.Gy&&i.arr.isNone&&(i.fields.isEmpty||MV P i.fields fs.toList)
 | .array n e=>i.kind.isNone&& !i.IV&& !i.Gy&&i.fields.isEmpty&&(match i.arr with | some q=>n==q.1&&decide (2<=n)&&Ob P e q.2.1 q.2.2==some true | none=>true)
 | _=>i.kind.isNone&& !i.IV&& !i.Gy&&i.fields.isEmpty&&i.arr.isNone
def RJ (P:Program) (t:TypeId) (i:Info):Bool:=
 match P.underlying t with
 | some d=>(!i.known||Wg P t i==some true)&&(!i.sl||Oa P i (Wi i) d==some true)&&(!i.pt||Oa P i (fun ei z=>ei.size==1&&z.cells.size==1) d==some true)&&I1 P i d
 | none=> !i.known&& !i.sl&& !i.pt&&i.kind.isNone&& !i.IV&& !i.Gy&&i.arr.isNone
section
variable {P:Program} {t:TypeId} {i:Info}
theorem Wh {n:Nat} {g:Bool} (h:Ob P t n g=some true):∃b d,P.info? t=some b/\P.underlying t=some d/\b.size=n/\d.isRow=g/\(g=false->n=1):=by
 simp only[Ob,Option.bind_eq_bind,Option.bind_eq_some_iff,Option.some.injEq,Bool.and_eq_true,beq_iff_eq,Bool.or_eq_true] at h;obtain⟨b,c,d,j,⟨h3,k⟩,l⟩:=h;exact⟨b,d,c,j,h3,k,fun e=>l.resolve_left (by simp[e])⟩
theorem We {f:TypeInfo->Value->Bool} {d:TypeDesc} (h:Oa P i f d=some true):d= .slice i.C1/\∃b z,P.info? i.C1=some b/\b.zero=some z/\f b z=true:=by
 cases d <;> simp only[Oa,reduceCtorEq,Option.bind_eq_bind,Option.bind_eq_some_iff,Option.some.injEq,Bool.and_eq_true,beq_iff_eq] at h
 obtain⟨b,c,z,g,rfl,h3⟩:=h;exact⟨rfl,b,z,c,g,h3⟩
theorem Wf:∀{c:List (Nat×Nat×Bool)} {fs:List Field},MV P c fs=true->c.length=fs.length/\∀(f b n:Nat) (g:Bool),c[f]? =some (b,n,g)->∃fl d,fs[f]? =some fl/\fl.offset=b/\(P.info? fl.type).map (·.size)=some n/\0<n/\P.underlying fl.type=some d/\d.isRow=g/\(g=false->n=1)
 | [],[],_=>⟨rfl,by simp⟩
 | p::c,f::fs,h=>by
  simp only[MV,Bool.and_eq_true,beq_iff_eq,decide_eq_true_eq] at h;obtain⟨⟨⟨l,m⟩,h3⟩,o⟩:=h;obtain⟨g1,g2⟩:=Wf o;obtain⟨y,d,q,u,v,x⟩:=Wh l;refine⟨by simp[g1],fun j b n g k=>?_⟩;cases j with
  | zero=>cases k;exact⟨f,d,rfl,m,by rw[q];exact congrArg some v,h3,u,x⟩
  | succ j=>exact g2 j b n g k
 | [],_::_,h | _::_,[],h=>by simp[MV] at h
theorem bW (h:RJ P t i=true):G9 P t i:=by
 unfold RJ at h
 split at h
 ·rename_i d j
  simp only[Bool.and_eq_true,Bool.or_eq_true,Bool.not_eq_true',beq_iff_eq] at h;obtain⟨⟨⟨m,D⟩,h3⟩,o⟩:=h;have v:∀{l:TypeDesc},d=l->P.underlying t=some l:=fun e=>e ▸ j
  refine⟨fun B=>?_,fun k B=>v ?_,fun hb=>v ?_,fun hb=>v ?_,fun G=>?_,fun _ hf=>?_,fun q y=>?_,fun F=>?_⟩
  ·have m:=m.resolve_left (by simp[B]);simp only[Wg,Option.bind_eq_bind,Option.bind_eq_some_iff,Option.some.injEq,Bool.and_eq_true,beq_iff_eq,Bool.or_eq_true] at m;obtain⟨A,e1,l,c,z,b,⟨⟨p,u⟩,a3⟩,a4⟩:=m;exact⟨A,z,l,e1,p,b,UU u,c,a3,fun ha=>a4.resolve_left (by simp[ha])⟩
  ·cases d <;> simp_all [I1]
  ·cases d <;> simp_all [I1]
  ·cases d <;> simp_all [I1]
  ·obtain⟨rfl,x,z,e1,c,b⟩:=We (D.resolve_left (by simp[G]));simp only[Wi,Bool.and_eq_true,beq_iff_eq,decide_eq_true_eq] at b;obtain⟨⟨⟨p,u⟩,a3⟩,a4⟩:=b;exact⟨j,x,z,e1,p,u,a3,c,UU a4⟩
  ·cases d with
   | struct fs=>
    simp only[I1,Bool.and_eq_true,Bool.or_eq_true,List.isEmpty_iff] at o;obtain⟨g1,g2⟩:=Wf (o.2.resolve_left hf);exact⟨fs,j,by simpa using g1,fun f C n g y=>by simpa using g2 f C n g y⟩
   | _=>simp_all [I1]
  ·cases d with
   | array n e=>
    simp only[I1,y,Bool.and_eq_true,beq_iff_eq,decide_eq_true_eq] at o;obtain⟨⟨rfl,g1⟩,g2⟩:=o.2;obtain⟨A,d,H,J,K,L,M⟩:=Wh g2;exact⟨e,A,d,j,H,K,J,L,M,g1⟩
   | _=>simp_all [I1]
  obtain⟨rfl,x,z,e1,c,b⟩:=We (h3.resolve_left (by simp[F]));simp only[Bool.and_eq_true,beq_iff_eq] at b;exact⟨j,x,z,e1,b.1,c,b.2⟩
 simp only[Bool.and_eq_true,Bool.not_eq_true',Option.isNone_iff_eq_none] at h
 constructor <;> simp_all
end
def Yj:Info:={known:=false,CB:=false}
theorem pZ (P:Program) (t:TypeId):G9 P t Yj:=bW (by unfold RJ;split <;> first | rfl | (rename_i d _;cases d <;> rfl))
abbrev bG:T:= .pr .bool (.sl .u32)
abbrev AA:T:= .pr bG bG
abbrev AQ:T:= .pr (.sl (.sl AA)) (.sl AA)
abbrev Bz:T:= .pr AQ AQ
abbrev Lm:T:= .pr AA (.sl .i64)
abbrev bF:T:= .pr .i64 (.pr (.sl .i64) (.pr (.sl .i64) (.pr (.sl .ex) .i64)))
abbrev DC:T:= .pr .u8 (.pr .u8 (.pr .u8 (.pr .i8 .u8)))
def TI:TypeId->Info
 |2|3=>{size:=1,zero:=[.int .i64 0],kind:=some .i64,CB:=false}
 | 4=>{size:=1,zero:=[.bool false],IV:=true,CB:=false}
 | 5=>{size:=1,zero:=[.int .u8 0],kind:=some .u8,CB:=false}
 |27|28=>{size:=1,zero:=[.nil],sl:=true,C1:=127,elem:=DC,CB:=((0,0,0,0,0):el DC),EA:=5}
 | 39=>{size:=1,zero:=[.nil],sl:=true,C1:=26,elem:=(.sl AA),CB:=([]:el (.sl AA)),EA:=24}
 | 26=>{size:=1,zero:=[.nil],sl:=true,C1:=79,elem:=AA,CB:=(((false,[]),(false,[])):el AA),EA:=64}
 | 41=>{size:=2,zero:=[.nil,.nil],agg:=true,CB:=false,fields:=[(0,1,false),(1,1,false)]}
 | 50=>{size:=1,zero:=[.int .i64 0],kind:=some .i64,CB:=false}
 | 32=>{size:=1,zero:=[.nil],sl:=true,C1:=41,elem:=AQ,CB:=(([],[]):el AQ),EA:=48}
 | 29=>{size:=1,zero:=[.nil],sl:=true,C1:=5,elem:= .u8,CB:=(0:el .u8),EA:=1}
 | 66=>{size:=1,zero:=[.nil],sl:=true,C1:=45,elem:=Bz,CB:=((([],[]),([],[])):el Bz),EA:=96}
 | 45=>{size:=4,zero:=[.nil,.nil,.nil,.nil],agg:=true,CB:=false,fields:=[(0,2,true),(2,2,true)]}
 | 75=>{size:=1,zero:=[.nil],sl:=true,C1:=248,elem:= .u32,CB:=(0:el .u32),EA:=4}
 | 77=>{size:=2,zero:=[.bool false,.nil],agg:=true,CB:=false,fields:=[(0,1,false),(1,1,false)]}
 | 79=>{size:=4,zero:=[.bool false,.nil,.bool false,.nil],agg:=true,CB:=false,fields:=[(0,2,true),(2,2,true)]}
 | 59=>{size:=1,zero:=[.int .i8 0],kind:=some .i8,CB:=false}
 | 127=>{size:=5,zero:=[.int .u8 0,.int .u8 0,.int .u8 0,.int .i8 0,.int .u8 0],agg:=true,CB:=false,fields:=[(0,1,false),(1,1,false),(2,1,false),(3,1,false),(4,1,false)]}
 | 294=>{size:=2,zero:=[.nil,.nil],agg:=true,CB:=false,fields:=[(0,1,false),(1,1,false)]}
 | 248=>{size:=1,zero:=[.int .u32 0],kind:=some .u32,CB:=false}
 |216|251=>{size:=1,zero:=[.int .u64 0],kind:=some .u64,CB:=false}
 |228|149=>{size:=1,zero:=[.int .i64 0],agg:=true,CB:=false,fields:=[(0,1,false)]}
 | 43=>{size:=6,zero:=[.nil,.nil,.nil,.nil,.nil,.nil],agg:=true,CB:=false,fields:=[(0,2,true),(2,2,true),(4,2,true)]}
 |162|167=>{size:=1,zero:=[.int .i64 0],agg:=true,CB:=false,fields:=[(0,1,false)]}
 | 47=>{size:=6,zero:=[.nil,.nil,.nil,.nil,.nil,.nil],agg:=true,CB:=false,fields:=[(0,4,true),(4,2,true)]}
 | 49=>{size:=21,zero:=[.int .i64 0,.nil,.nil,.nil,.nil,.nil,.nil,.nil,.nil,.nil,.nil,.nil,.nil,.nil,.nil,.nil,.nil,.nil,.nil,.nil,.nil],agg:=true,CB:=false,fields:=[(0,1,false),(1,6,true),(7,4,true),(11,6,true),(17,4,true)]}
 | 22=>{size:=1,zero:=[.nil],sl:=true,C1:=3,elem:= .i64,CB:=(0:el .i64),EA:=8}
 | 9=>{size:=1,zero:=[.str ByteArray.empty],Gy:=true,CB:=false}
 | 25=>{size:=5,zero:=[.int .i64 0,.nil,.nil,.nil,.int .i64 0],agg:=true,CB:=false,fields:=[(0,1,false),(1,1,false),(2,1,false),(3,1,false),(4,1,false)]}
 | 82=>{size:=7,zero:=[.int .i64 0,.bool false,.nil,.bool false,.nil,.str ByteArray.empty,.nil],agg:=true,CB:=false,fields:=[(0,1,false),(1,4,true),(5,1,false),(6,1,false)]}
 | 23=>{size:=1,zero:=[.nil],sl:=true,C1:=82,elem:= .ex,CB:=((Ex.mk 0 ((false,[]),(false,[])) ByteArray.empty []):el .ex),EA:=112}
 | 31=>{size:=10,zero:=[.int .i64 0,.nil,.nil,.nil,.int .i64 0,.nil,.nil,.int .i64 0,.nil,.nil],agg:=true,CB:=false,fields:=[(0,5,true),(5,1,false),(6,1,false),(7,1,false),(8,1,false),(9,1,false)]}
 | 109=>{size:=10,zero:=[.int .i64 0,.nil,.nil,.nil,.int .i64 0,.nil,.nil,.int .i64 0,.nil,.int .i64 0],agg:=true,CB:=false,fields:=[(0,5,true),(5,1,false),(6,1,false),(7,1,false),(8,1,false),(9,1,false)]}
 | 133=>{size:=7,zero:=[.str ByteArray.empty,.int .i64 0,.int .i64 0,.int .i64 0,.int .i64 0,.int .i64 0,.bool false],agg:=true,CB:=false,fields:=[(0,1,false),(1,1,false),(2,1,false),(3,1,false),(4,1,false),(5,1,false),(6,1,false)]}
 | 206=>{size:=1,zero:=[.nil],sl:=true,C1:=133,elem:=(.pr .str (.pr .i64 (.pr .i64 (.pr .i64 (.pr .i64 (.pr .i64 .bool)))))),CB:=((ByteArray.empty,0,0,0,0,0,false):el (.pr .str (.pr .i64 (.pr .i64 (.pr .i64 (.pr .i64 (.pr .i64 .bool))))))),EA:=64}
 |157|107=>{size:=1,zero:=[.B7],CB:=false}
 | 159=>{size:=1,zero:=[.nil],pt:=true,C1:=157,CB:=false}
 | 173=>{size:=2,zero:=[.int .i64 0,.int .i64 0],agg:=true,CB:=false,arr:=some (2,1,false)}
 | 174=>{size:=6,zero:=[.int .i64 0,.int .i64 0,.int .i64 0,.int .i64 0,.int .i64 0,.int .i64 0],agg:=true,CB:=false,arr:=some (3,2,true)}
 | 237=>{size:=4,zero:=[.int .i64 0,.int .i64 0,.int .i64 0,.int .i64 0],agg:=true,CB:=false,arr:=some (4,1,false)}
 | 195=>{size:=5,zero:=[.bool false,.nil,.bool false,.nil,.nil],agg:=true,CB:=false,fields:=[(0,4,true),(4,1,false)]}
 |118|119=>{size:=1,zero:=[.nil],sl:=true,C1:=195,elem:=Lm,CB:=((((false,[]),(false,[])),[]):el Lm),EA:=88}
 | 116=>{size:=1,zero:=[.nil],sl:=true,C1:=119,elem:=(.sl Lm),CB:=([]:el (.sl Lm)),EA:=24}
 | 185=>{size:=2,zero:=[.nil,.nil],agg:=true,CB:=false,fields:=[(0,1,false),(1,1,false)]}
 | _=>Yj
theorem bL (t:TypeId):G9 Tryz.prog t (TI t):=by
 unfold TI
 split <;> first | exact pZ _ _ | exact bW (by kernel_rfl)
theorem YV:Tryz.prog.follows .mixedOrders=true:=by kernel_rfl
def Hg (fn : Func) : Bool := (fn.name == "runtime.NumGoroutine") == false && match fn.body with | some c => HI c | none => false
def OS (Q:List ResultVar->AX->St->Prop) (E:Env) (fn:Func) (s:St):Prop:=
 match fn.body with
 | some c=>DQ E TI fn.ntmps c (Q fn.results.toList) s
 | none=>False
abbrev OR (E:Env) (fn:Func) (r:AV) (b1:Option Af) (s:St):Prop:=OS (fun rs=>post TI rs r b1) E fn s
abbrev RE (E:Env) (fn:Func) (r:AV) (b0:Af) (s:St):Prop:=OS (fun rs=>Sx TI rs r b0) E fn s
section
variable {f:FuncId} {fn:Func} (hf:Tryz.prog.funcs[f]? =some fn) (ho:Hg fn=true) {b0 b1:Af} {c0:AC} {args:List AV} {r:AV}
theorem Rr {Q:List ResultVar->AX->St->Prop} {s:St} (hf:Tryz.prog.funcs[f]? =some fn) (ho:Hg fn=true) (h:∀E,env Tryz.prog=E->OS Q E fn s):∃c,Fn Tryz.prog TI f fn.ntmps c fn.results.toList/\DQ (env Tryz.prog) TI fn.ntmps c (Q fn.results.toList) s:=by
 have h:=h _ rfl;unfold OS at h;unfold Hg at ho;simp only[Bool.and_eq_true] at ho
 split at h
 ·rename_i c b
  rw[b] at ho;exact⟨c,⟨⟨fn,hf,by simpa using ho.1,b,rfl,rfl⟩,ho.2,bL,YV⟩,h⟩
 exact h.elim
theorem gA (hf:Tryz.prog.funcs[f]? =some fn) (ho:Hg fn=true) (b:(Ld args&&(r.all Ge&&(r.wf&&Nat.ble args.length fn.ntmps)))=true)
  (h:∀E,env Tryz.prog=E->OR E fn r none (EJ fn.ntmps args none)):Ej Tryz.prog false f args r:=by
 obtain⟨c,F,h⟩:=Rr hf ho h;simp only[Bool.and_eq_true,Nat.ble_eq] at b;exact gC F b.1 ⟨b.2.1,b.2.2.1⟩ b.2.2.2 h
theorem mc {TI:TypeId->Info} {rs:List ResultVar} {x:AX} {s:St} (h:post TI rs r (some b1) x s) (b:r.all IW=true):(∀i,x≠ .exit i)/\∃xs,JS TI s rs=some xs/\(KN (AN s.bk) xs r.IK/\(r.all IW=true\/(xs.all fun x=>x.2.all LS)=true/\r.all DS=true)/\(rs.length=1↔∀ys,r≠ .AI ys))/\AN s.bk 0=some b1:=by
 unfold post at h
 split at h
 ·exact h.elim
 rename_i c
 split at h
 ·rename_i xs e
  exact⟨fun i e=>c i e,xs,e,⟨(h.1 ()).1,.inl b,(h.1 ()).2.2⟩,h.2 ()⟩
 exact h.elim
theorem mb {TI:TypeId->Info} {rs:List ResultVar} {x:AX} {s:St} (h:Sx TI rs r b1 x s) (g:r.all DS=true):(∀i,x≠ .exit i)/\∃xs,JS TI s rs=some xs/\(KN (AN s.bk) xs r.IK/\(r.all IW=true\/(xs.all fun x=>x.2.all LS)=true/\r.all DS=true)/\(rs.length=1↔∀ys,r≠ .AI ys))/\AN s.bk 0=some b1:=by
 unfold Sx at h
 split at h
 ·exact h.elim
 rename_i j
 split at h
 ·rename_i xs e
  obtain⟨⟨b,c,h3⟩,d⟩:=h ();exact⟨fun i e=>j i e,xs,e,⟨b,.inr ⟨c,g⟩,h3⟩,d⟩
 exact h.elim
theorem ML (hf:Tryz.prog.funcs[f]? =some fn) (ho:Hg fn=true) (d:(Ld args&&(r.all IW&&(Nat.ble (args.length+1) fn.ntmps&&(PJ c0&&(b0.lone&&b1.lone)))))=true)
  (h:∀E,env Tryz.prog=E->OR E fn r (some b1) (EJ fn.ntmps (.one c0::args) (some b0))):Is Tryz.prog f c0 b0 args r b1:=by
 obtain⟨c,F,h⟩:=Rr hf ho h;simp only[Bool.and_eq_true,Nat.ble_eq] at d;obtain⟨g,j,h3,k,b⟩:=d;exact⟨b.1,X9 F (by have:=Vx g;unfold J5 at this ⊢;rw[List.all_cons,this,Bool.and_true];exact k) b ⟨h3,by omega⟩ (fun x s q=>mc q j) h⟩
theorem FI (hf:Tryz.prog.funcs[f]? =some fn) (ho:Hg fn=true) (g:(J5 args&&(r.all DS&&(b0.lone&&(b1.lone&&(Nat.ble args.length fn.ntmps&&Nat.ble 1 fn.ntmps)))))=true)
  (h:∀E,env Tryz.prog=E->RE E fn r b1 (EJ fn.ntmps args (some b0))):D4 Tryz.prog f args b0 r b1:=by
 obtain⟨c,F,h⟩:=Rr hf ho h;simp only[Bool.and_eq_true,Nat.ble_eq] at g;obtain⟨j,b,h3,d,k,l⟩:=g;exact⟨⟨b,h3,d⟩,X9 F j ⟨h3,d⟩ ⟨k,l⟩ (fun x s q=>mb q b) h⟩
theorem iQ (hf:Tryz.prog.funcs[f]? =some fn) (ho:Hg fn=true) (b:(J5 args&&(r.all DS&&(b0.lone&&(Nat.ble args.length fn.ntmps&&Nat.ble 1 fn.ntmps))))=true)
 (h:∀E,env Tryz.prog=E->RE E fn r b0 (EJ fn.ntmps args (some b0))):Bv Tryz.prog f args b0 r:=FI hf ho (by simp only[Bool.and_eq_true] at b ⊢;exact⟨b.1,b.2.1,b.2.2.1,b.2.2.1,b.2.2.2⟩) h
variable {E:Env} {fl:Bool}
theorem FY (b:env Tryz.prog=E) (h:D4 Tryz.prog f args b0 r b1):E.W f args b0 r b1:=b ▸ h
theorem CW (b:env Tryz.prog=E) (h:Bv Tryz.prog f args b0 r):E.D f args b0 r:=b ▸ h
theorem FG (b:env Tryz.prog=E) (h:Ej Tryz.prog fl f args r):E.C fl f args r:=b ▸ h
theorem EK (b:env Tryz.prog=E) (h:Is Tryz.prog f c0 b0 args r b1):E.B f c0 b0 args r b1:=b ▸ h
end
def ql:AV->Nat
 | .one (.sl _ l)=>l.length
 | _=>0
def qj:AV->Int
 | .one (.int _ n)=>n
 | _=>0
theorem P8 {z:ByteArray} {n:Int} (h:n.toNat<z.size):∃b:UInt8,z.data[n.toNat]? =some b:=⟨_,Array.getElem?_eq_getElem h⟩
abbrev LR:=List (el AA)
abbrev CF:=Ej Tryz.prog false
theorem cL {E:Env} {fl:Bool} {g:FuncId} {args:List AV} {r:AV} {L:List AV->Prop} {K:AV->Prop} {X:Prop} (b:env Tryz.prog=E) (h:Ej Tryz.prog fl g args r) (d:L args) (c:K r):
 (∃(a:List AV) (r:AV),(Unit->L a)/\(Unit->E.C fl g a r)/\K r)\/X:= .inl ⟨args,r,fun _=>d,fun _=>FG b h,c⟩
theorem fA {A B C:Prop} (h:A) (hb:B) (b:C):(Unit->A/\B/\C)/\True:=⟨fun _=>⟨h,hb,b⟩,trivial⟩
theorem i64 {c:Int} (h: -9223372036854775808<=c/\c<9223372036854775808):Du c:=h
theorem g2 {P:Sort _} {A C:Prop} (a:A) (h:C):(P->A)/\C:=⟨fun _=>a,h⟩
theorem g1 {P:Sort _} {C:Prop} {x:Int} (a: -9223372036854775808<=x/\x<9223372036854775808) (h:C):(P->Du x)/\C:=⟨fun _=>i64 a,h⟩
theorem t1 {α:Sort _} {a:α}:a=a/\True:=⟨rfl,trivial⟩
theorem t2 {α β:Sort _} {a:α} {b:β}:a=a/\b=b/\True:=⟨rfl,t1⟩
theorem t3 {α β γ:Sort _} {a:α} {b:β} {c:γ}:a=a/\b=b/\c=c/\True:=⟨rfl,t2⟩
theorem t4 {α β γ δ:Sort _} {a:α} {b:β} {c:γ} {d:δ}:a=a/\b=b/\c=c/\d=d/\True:=⟨rfl,t3⟩
theorem xR (a:LR):∃z:LR,z=a:=⟨_,rfl⟩
theorem xV (a:List LR):∃z:List LR,z=a:=⟨_,rfl⟩
theorem xN (a:Nat):∃z:Nat,z=a:=⟨_,rfl⟩
theorem xI (a:Int):∃z:Int,z=a:=⟨_,rfl⟩
theorem xB (a:Bool):∃z:Bool,z=a:=⟨_,rfl⟩
theorem xU (a:List UInt32):∃z:List UInt32,z=a:=⟨_,rfl⟩
theorem xJ (a:List AV->List Af->Nat->Prop):∃J:List AV->List Af->Nat->Prop,J=a:=⟨_,rfl⟩
theorem xK (a:List AV->List Af->Prop):∃J:List AV->List Af->Prop,J=a:=⟨_,rfl⟩
abbrev BJ:AC:= .sl (.sl AA) []
abbrev BK:AC:= .sl AA []
abbrev BX (b:Bool) (l:List UInt32):List AC:=[.bool b,.sl .u32 l]
abbrev Bw (b:Bool) (l:List UInt32) (c:Bool) (m:List UInt32):List AC:=[.bool b,.sl .u32 l,.bool c,.sl .u32 m]
abbrev AJ (T1:List (List (el AA))) (A1:List (el AA)):List AC:=[.sl (.sl AA) T1,.sl AA A1]
abbrev AH (T1:List (List (el AA))) (A1:List (el AA)) (T2:List (List (el AA))) (A2:List (el AA)):List AC:=[.sl (.sl AA) T1,.sl AA A1,.sl (.sl AA) T2,.sl AA A2]
abbrev CQ (T1:List (List (el AA))) (A1:List (el AA)) (T2:List (List (el AA))) (A2:List (el AA)) (T3:List (List (el AA))) (A3:List (el AA)):List AC:=[.sl (.sl AA) T1,.sl AA A1,.sl (.sl AA) T2,.sl AA A2,.sl (.sl AA) T3,.sl AA A3]
abbrev qp (T1:List (List (el AA))) (A1:List (el AA)) (T2:List (List (el AA))) (A2:List (el AA)) (T3:List (List (el AA))) (A3:List (el AA)) (T4:List (List (el AA))) (A4:List (el AA)):List AC:=[.sl (.sl AA) T1,.sl AA A1,.sl (.sl AA) T2,.sl AA A2,.sl (.sl AA) T3,.sl AA A3,.sl (.sl AA) T4,.sl AA A4]
abbrev qt (T1:List (List (el AA))) (A1:List (el AA)) (T2:List (List (el AA))) (A2:List (el AA)) (T3:List (List (el AA))) (A3:List (el AA)) (T4:List (List (el AA))) (A4:List (el AA)) (T5:List (List (el AA))) (A5:List (el AA)):List AC:=[.sl (.sl AA) T1,.sl AA A1,.sl (.sl AA) T2,.sl AA A2,.sl (.sl AA) T3,.sl AA A3,.sl (.sl AA) T4,.sl AA A4,.sl (.sl AA) T5,.sl AA A5]
abbrev qo (T1:List (List (el AA))) (A1:List (el AA)) (T2:List (List (el AA))) (A2:List (el AA)) (T3:List (List (el AA))) (A3:List (el AA)) (T4:List (List (el AA))) (A4:List (el AA)) (m:Bool):List AC:=[.sl (.sl AA) T1,.sl AA A1,.sl (.sl AA) T2,.sl AA A2,.sl (.sl AA) T3,.sl AA A3,.sl (.sl AA) T4,.sl AA A4,.bool m]
def NU:AC->Bool
 | .int _ _=>true | .bool _=>true | .fn _=>true | .nil=>true | .sl _ _=>true
 |.Co _ _ _|.Ed _ _|.str _=>true
 | _=>false
def KO:List AV->Bool
 | []=>true
 | .one c::l=>NU c&&KO l
 | .agg cs::l=>cs.all NU&&KO l
 | .AI _::_=>false
theorem YB:∀{c:AC},NU c=true->BV c c
 |.int _ _,_|.bool _,_|.fn _,_=>rfl
 | .nil,_=> .inl rfl
 |.sl _ _,_|.Co _ _ _,_|.Ed _ _,_|.str _,_=>rfl
theorem Vs:∀{cs:List AC},cs.all NU=true->BR BV cs cs
 | [],_=>trivial
 | c::l,h=>by
  rw[List.all_cons,Bool.and_eq_true] at h;exact⟨YB h.1,Vs h.2⟩
theorem Qz:∀{a:List AV},KO a=true->En BV a a
 | [],_=>trivial
 | .one c::l,h=>by
  unfold KO at h;rw[Bool.and_eq_true] at h;exact⟨YB h.1,Qz h.2⟩
 | .agg cs::l,h=>by
  unfold KO at h;rw[Bool.and_eq_true] at h;exact⟨Vs h.1,Qz h.2⟩
theorem BP {E:Env} {fl:Bool} {g:FuncId} {args:List AV} {r:AV} {K:AV->Prop} {X:Prop} (b:env Tryz.prog=E) (h:Ej Tryz.prog fl g args r) (c:K r) (d:KO args=true:=by rfl):
 (∃(a:List AV) (r:AV),(Unit->En BV args a)/\(Unit->E.C fl g a r)/\K r)\/X:= .inl ⟨args,r,fun _=>Qz d,fun _=>FG b h,c⟩
def PL:AC->AC
 | .AZ t _ _ off len=> .AZ t 0 0 off len
 | .AR _ _ off=> .AR 0 0 off
 | c=>c
def J6:List AV->List AV
 | []=>[]
 | .one c::l=> .one (PL c)::J6 l
 | .agg cs::l=> .agg (cs.map PL)::J6 l
 | .AI x::l=> .AI x::J6 l
def LV (id v:Nat):AC->Bool
 |.AZ _ i w _ _|.AR i w _=>Nat.beq i id&&Nat.beq w v
 |.Co _ _ _|.Ed _ _|.str _=>false
 | c=>NU c
def KD (id v:Nat):List AV->Bool
 | []=>true
 | .one c::l=>LV id v c&&KD id v l
 | .agg cs::l=>cs.all (LV id v)&&KD id v l
 | .AI _::_=>false
theorem YF {id v:Nat}:∀{c:AC},LV id v c=true->Hr id v c (PL c)
 | .AZ _ i w _ _,h=>by
  unfold LV at h;rw[Bool.and_eq_true] at h;exact⟨⟨Nat.eq_of_beq_eq_true h.1,Nat.eq_of_beq_eq_true h.2⟩,rfl⟩
 | .AR i w _,h=>by
  unfold LV at h;rw[Bool.and_eq_true] at h;exact⟨⟨Nat.eq_of_beq_eq_true h.1,Nat.eq_of_beq_eq_true h.2⟩,rfl⟩
 |.int _ _,_|.bool _,_|.fn _,_=>rfl
 | .nil,_=> .inl rfl
 | .sl _ _,_=>rfl
 |.Co _ _ _,h|.Ed _ _,h|.str _,h=>by cases h
theorem YE {id v:Nat}:∀{cs:List AC},cs.all (LV id v)=true->BR (Hr id v) cs (cs.map PL)
 | [],_=>trivial
 | c::l,h=>by
  rw[List.all_cons,Bool.and_eq_true] at h;exact⟨YF h.1,YE h.2⟩
theorem SJ {id v:Nat}:∀{a:List AV},KD id v a=true->En (Hr id v) a (J6 a)
 | [],_=>trivial
 | .one c::l,h=>by
  unfold KD at h;rw[Bool.and_eq_true] at h;exact⟨YF h.1,SJ h.2⟩
 | .agg cs::l,h=>by
  unfold KD at h;rw[Bool.and_eq_true] at h;exact⟨YE h.1,SJ h.2⟩
theorem ER {E:Env} {g:FuncId} {args:List AV} {r:AV} {bk:Nat->Option Af} {K:Nat->AV->Prop} {c d j k:Prop} (id v:Nat) (l:env Tryz.prog=E) (h:Bv Tryz.prog g (J6 args) (.var 0 [.int .i64 0]) r) (m:K id r) (hb:bk id=some (.var v [.int .i64 0]):=by rfl) (ho:KD id v args=true:=by rfl):
 c\/d\/j\/(∃(id:Nat) (b:Af) (a:List AV) (r:AV),(Unit->bk id=some b/\En (Hr id b.BE) args a)/\(Unit->E.D g a (b.EI 0) r)/\K id r)\/k:= .inr (.inr (.inr (.inl ⟨id,.var v [.int .i64 0],J6 args,r,fun _=>⟨hb,SJ ho⟩,fun _=>CW l h,m⟩)))
theorem AL {bk:Nat->Option Af} {t:T}:Ij bk .nil (.sl t []):= .inr (.inl ⟨_,rfl⟩)
theorem DH {P:Sort _} {C:Prop} {x:Int} (h:C) (a: -9223372036854775808<=x/\x<9223372036854775808:=by omega):(P->Du x)/\C:=⟨fun _=>a,h⟩
theorem Er {P:Sort _} {A C:Prop} (h:C) (a:A:=by omega):(P->A)/\C:=⟨fun _=>a,h⟩
theorem AE {A B C:Prop} (h:A) (hb:B:=by rfl) (b:C:=by simp):(Unit->A/\B/\C)/\True:=⟨fun _=>⟨h,hb,b⟩,trivial⟩
theorem GZ {x:Bool} {K:Bool->Prop} (k:K true) (h:x=true:=by decide):∀c,c=x->K c:=fun _ e=>by rw[e,h];exact k
theorem LD {x:Bool} {K:Bool->Prop} (k:K false) (h:x=false:=by decide):∀c,c=x->K c:=fun _ e=>by rw[e,h];exact k
theorem Gs {f:FuncId} {fn:Func} (hf:Tryz.prog.funcs[f]? =some fn) {args:List AV} {r:AV} (h:∀E,env Tryz.prog=E->OR E fn r none (EJ fn.ntmps args none)) (ho:Hg fn=true:=by kernel_rfl) (b:(Ld args&&(r.all Ge&&(r.wf&&Nat.ble args.length fn.ntmps)))=true:=by rfl):Ej Tryz.prog false f args r:=gA hf ho b h
theorem CK {f:FuncId} {fn:Func} (hf:Tryz.prog.funcs[f]? =some fn) {b0:Af} {args:List AV} {r:AV} (h:∀E,env Tryz.prog=E->RE E fn r b0 (EJ fn.ntmps args (some b0))) (ho:Hg fn=true:=by kernel_rfl) (b:(J5 args&&(r.all DS&&(b0.lone&&(Nat.ble args.length fn.ntmps&&Nat.ble 1 fn.ntmps))))=true:=by rfl):Bv Tryz.prog f args b0 r:=iQ hf ho b h
theorem Md {a b:Int} {K:Bool->Prop} (f:b<=a->K false) (t:a<b->K true):∀c,c=decide (a<b)->K c:=fun c h=>by subst h;by_cases e:a<b <;> simp only[e,decide_true,decide_false] <;> first | exact t e | exact f (by omega)
theorem Mc {a b:Int} {K:Bool->Prop} (f:b<a->K false) (t:a<=b->K true):∀c,c=decide (a<=b)->K c:=fun c h=>by subst h;by_cases e:a<=b <;> simp only[e,decide_true,decide_false] <;> first | exact t e | exact f (by omega)
theorem Of {a b:Int} {K:Bool->Prop} (f:a<=b->K false) (t:b<a->K true):∀c,c=decide (a>b)->K c:=Md f t
theorem Kr {a b:Int} {K:Bool->Prop} (f:a<b->K false) (t:b<=a->K true):∀c,c=decide (a >= b)->K c:=Mc f t
theorem HF {a b:Int} {K:Bool->Prop} (f:a≠b->K false) (t:a=b->K true):∀c,c=(a==b)->K c:=fun c h=>by subst h;by_cases e:a=b <;> first | (rw[beq_iff_eq.2 e];exact t e) | (rw[beq_eq_false_iff_ne.2 e];exact f e)
theorem C5 {a b:Int} {K:Bool->Prop} (f:a=b->K false) (t:a≠b->K true):∀c,c=(a !=b)->K c:=fun c h=>by subst h;by_cases e:a=b <;> first | (rw[show (a !=b)=false from by simp[e]];exact f e) | (rw[show (a !=b)=true from by simp[e]];exact t e)
theorem Wr {a:Bool} {K:Bool->Prop} (f:a=true->K false) (t:a=false->K true):∀c,c= !a->K c:=fun c h=>by subst h;cases a <;> first | exact f rfl | exact t rfl
theorem Oo {a b:Int} {K:Bool->Prop} (t:a<b->K true) (f:b<=a->K false):∀c,c=decide (a<b)->K c:=Md f t
theorem jD {a b:Int} {K:Bool->Prop} (t:a<=b->K true) (f:b<a->K false):∀c,c=decide (a<=b)->K c:=Mc f t
theorem jC {a b:Int} {K:Bool->Prop} (t:b<a->K true) (f:a<=b->K false):∀c,c=decide (a>b)->K c:=Md f t
theorem jB {a b:Int} {K:Bool->Prop} (t:b<=a->K true) (f:a<b->K false):∀c,c=decide (a >= b)->K c:=Mc f t
theorem Kx {a b:Int} {K:Bool->Prop} (t:a=b->K true) (f:a≠b->K false):∀c,c=(a==b)->K c:=HF f t
theorem Ky {a b:Int} {K:Bool->Prop} (t:a≠b->K true) (f:a=b->K false):∀c,c=(a !=b)->K c:=C5 f t
theorem Oq {a:Bool} {K:Bool->Prop} (t:a=false->K true) (f:a=true->K false):∀c,c= !a->K c:=Wr f t
theorem AF {α β γ:Sort _} {x:γ} {f:α->β} {a b:α} {B C:Prop} (h:a=b) (hb:B:=by rfl) (c:C:=by simp):(Unit->((x=x/\f a=f b/\True)/\True)/\B/\C)/\True:=AE ⟨⟨rfl,congrArg f h,trivial⟩,trivial⟩ hb c
theorem BQ {α:Type} {X:List α} {n n':Nat} {A:Prop} {K:α->Prop} {x:α} (h:X[n']? =some x) (k:K x) (e:n=n':=by omega) (a:A:=by omega):∃x,(Unit->A/\X[n]? =some x)/\K x:=⟨x,fun _=>⟨a,e ▸ h⟩,k⟩
theorem BN {X:Prop} {C:Type} {V:C->List Nat->List Nat->List AV} {Q:C->List Nat->List Nat->List Af} {R:C->List Nat->List Nat->(List AV->List Af->Nat->Prop)->List AV->List Af->Nat->Prop} (cv:C) (l k:List Nat) (J:List AV->List Af->Nat->Prop) (m:Nat) (h:J (V cv l k) (Q cv l k) m)
 (d:∀c,c=J->∀vs b n,J vs b n->R cv l k c vs b n):X\/∃cv l k J,(∃n,J (V cv l k) (Q cv l k) n)/\∀vs b n,J vs b n->R cv l k J vs b n:= .inr ⟨cv,l,k,J,⟨m,h⟩,d J rfl⟩
theorem Ba {I J:List AV->List Af->Nat->Prop} {vs:List AV} {b:List Af} {m n:Nat} (e:I=J) (h:J vs b n) (d:n<m:=by omega):∃n,n<m/\I vs b n:=⟨n,d,e ▸ h⟩
theorem AW {α:Type} {X:List α} {n:Nat} {A:Prop} {K:α->Prop} (n':Nat) (k:∀x,X[n']? =some x->K x) (b:n'<X.length:=by omega) (e:n=n':=by omega) (a:A:=by omega):∃x,(Unit->A/\X[n]? =some x)/\K x:=
 ⟨X[n'],fun _=>⟨a,by rw[e];exact List.getElem?_eq_getElem b⟩,k _ (List.getElem?_eq_getElem b)⟩
theorem AS {P Q:Prop} (h:Q) (e:P=Q:=by (repeat ((try (apply Eq.trans;(conv=>lhs;cbv)));(with_reducible apply forall_congr);intro));(try (conv=>lhs;cbv));all_goals rfl):P:=e.mpr h
theorem aGo {P:Sort _} {A C D:Prop} (a:A) (h:C=D):((P->A)/\C)=D:=propext ⟨fun x=>h ▸ x.2,fun x=>⟨fun _=>a,h.symm ▸ x⟩⟩
theorem Di {α β γ δ σ:Sort _} {x:γ} {f:α->β} {g:δ->σ} {a b:α} {c d:δ} {B C:Prop} (h:a=b) (k:c=d) (hb:B:=by rfl) (j:C:=by simp):(Unit->((x=x/\f a=f b/\g c=g d/\True)/\True)/\B/\C)/\True:=AE ⟨⟨rfl,congrArg f h,congrArg g k,trivial⟩,trivial⟩ hb j
theorem Cy {P Q:Prop} (e:P=Q:=by (repeat ((try (apply Eq.trans;(conv=>lhs;cbv)));first | ((with_reducible apply forall_congr);intro x;(fail_if_success have:=(rfl:x=()));(try have:=x.eq);(try have:=x.le);(try have:=x.lt)) | (apply aGo;(first | rfl | omega | (unfold Du;omega) | exact⟨by omega,by omega⟩ | exact⟨by omega,by omega,by unfold Du;omega⟩))));(try (conv=>lhs;cbv));all_goals rfl):P=Q:=e
theorem AK {P Q:Prop} (h:Q) (e:P=Q:=by exact Cy):P:=e.mpr h
theorem AB {E:Env} {fl:Bool} {g:FuncId} {args:List AV} {r:AV} {K:AV->Prop} {X Q:Prop} (b:env Tryz.prog=E) (h:Ej Tryz.prog fl g args r) (c:Q) (d:KO args=true:=by rfl) (e:K r=Q:=by exact Cy):
 (∃(a:List AV) (r:AV),(Unit->En BV args a)/\(Unit->E.C fl g a r)/\K r)\/X:=BP b h (e.mpr c) d
theorem cLy {E:Env} {fl:Bool} {g:FuncId} {args:List AV} {r:AV} {L:List AV->Prop} {K:AV->Prop} {X Q:Prop} (b:env Tryz.prog=E) (h:Ej Tryz.prog fl g args r) (d:L args) (c:Q) (e:K r=Q:=by exact Cy):
 (∃(a:List AV) (r:AV),(Unit->L a)/\(Unit->E.C fl g a r)/\K r)\/X:=cL b h d (e.mpr c)
theorem CU {x:Bool} {K:Bool->Prop} {Q:Prop} (k:Q) (h:x=true:=by decide) (e:K true=Q:=by exact Cy):∀c,c=x->K c:=GZ (e.mpr k) h
theorem BH {x:Bool} {K:Bool->Prop} {Q:Prop} (k:Q) (h:x=false:=by decide) (e:K false=Q:=by exact Cy):∀c,c=x->K c:=LD (e.mpr k) h
theorem D6 {α:Type} {X:List α} {n n':Nat} {A Q:Prop} {K:α->Prop} {x:α} (h:X[n']? =some x) (k:Q) (e:n=n':=by omega) (a:A:=by omega) (v:K x=Q:=by exact Cy):∃x,(Unit->A/\X[n]? =some x)/\K x:=BQ h (v.mpr k) e a
theorem BZ {E:Env} {g:FuncId} {args:List AV} {r:AV} {bk:Nat->Option Af} {K:Nat->AV->Prop} {c d j k Q:Prop} (id v:Nat) (l:env Tryz.prog=E) (h:Bv Tryz.prog g (J6 args) (.var 0 [.int .i64 0]) r) (m:Q) (hb:bk id=some (.var v [.int .i64 0]):=by rfl) (ho:KD id v args=true:=by rfl) (e:K id r=Q:=by exact Cy):
 c\/d\/j\/(∃(id:Nat) (b:Af) (a:List AV) (r:AV),(Unit->bk id=some b/\En (Hr id b.BE) args a)/\(Unit->E.D g a (b.EI 0) r)/\K id r)\/k:=ER id v l h (e.mpr m) hb ho
theorem BW {a b:Int} {K:Bool->Prop} {F G:Prop} (f:b<=a->F) (t:a<b->G) (u:b<=a->K false=F:=by intro x;exact Cy) (v:a<b->K true=G:=by intro x;exact Cy):∀c,c=decide (a<b)->K c:=Md (fun x=>(u x).mpr (f x)) fun x=>(v x).mpr (t x)
theorem Cw {a b:Int} {K:Bool->Prop} {F G:Prop} (t:a<b->G) (f:b<=a->F) (u:b<=a->K false=F:=by intro x;exact Cy) (v:a<b->K true=G:=by intro x;exact Cy):∀c,c=decide (a<b)->K c:=BW f t u v
theorem UW {a b:Int} {K:Bool->Prop} {F G:Prop} (f:b<a->F) (t:a<=b->G) (u:b<a->K false=F:=by intro x;exact Cy) (v:a<=b->K true=G:=by intro x;exact Cy):∀c,c=decide (a<=b)->K c:=Mc (fun x=>(u x).mpr (f x)) fun x=>(v x).mpr (t x)
theorem cK {a b:Int} {K:Bool->Prop} {F G:Prop} (t:a<=b->G) (f:b<a->F) (u:b<a->K false=F:=by intro x;exact Cy) (v:a<=b->K true=G:=by intro x;exact Cy):∀c,c=decide (a<=b)->K c:=UW f t u v
theorem E0 {a b:Int} {K:Bool->Prop} {F G:Prop} (f:a<=b->F) (t:b<a->G) (u:a<=b->K false=F:=by intro x;exact Cy) (v:b<a->K true=G:=by intro x;exact Cy):∀c,c=decide (a>b)->K c:=Of (fun x=>(u x).mpr (f x)) fun x=>(v x).mpr (t x)
theorem FJ {a b:Int} {K:Bool->Prop} {F G:Prop} (t:b<a->G) (f:a<=b->F) (u:a<=b->K false=F:=by intro x;exact Cy) (v:b<a->K true=G:=by intro x;exact Cy):∀c,c=decide (a>b)->K c:=E0 f t u v
theorem Ir {a b:Int} {K:Bool->Prop} {F G:Prop} (f:a<b->F) (t:b<=a->G) (u:a<b->K false=F:=by intro x;exact Cy) (v:b<=a->K true=G:=by intro x;exact Cy):∀c,c=decide (a >= b)->K c:=Kr (fun x=>(u x).mpr (f x)) fun x=>(v x).mpr (t x)
theorem Nh {a b:Int} {K:Bool->Prop} {F G:Prop} (t:b<=a->G) (f:a<b->F) (u:a<b->K false=F:=by intro x;exact Cy) (v:b<=a->K true=G:=by intro x;exact Cy):∀c,c=decide (a >= b)->K c:=Ir f t u v
theorem CH {a b:Int} {K:Bool->Prop} {F G:Prop} (f:a≠b->F) (t:a=b->G) (u:a≠b->K false=F:=by intro x;exact Cy) (v:a=b->K true=G:=by intro x;exact Cy):∀c,c=(a==b)->K c:=HF (fun x=>(u x).mpr (f x)) fun x=>(v x).mpr (t x)
theorem BO {a b:Int} {K:Bool->Prop} {F G:Prop} (t:a=b->G) (f:a≠b->F) (u:a≠b->K false=F:=by intro x;exact Cy) (v:a=b->K true=G:=by intro x;exact Cy):∀c,c=(a==b)->K c:=CH f t u v
theorem No {a b:Int} {K:Bool->Prop} {F G:Prop} (f:a=b->F) (t:a≠b->G) (u:a=b->K false=F:=by intro x;exact Cy) (v:a≠b->K true=G:=by intro x;exact Cy):∀c,c=(a !=b)->K c:=C5 (fun x=>(u x).mpr (f x)) fun x=>(v x).mpr (t x)
theorem Fa {a b:Int} {K:Bool->Prop} {F G:Prop} (t:a≠b->G) (f:a=b->F) (u:a=b->K false=F:=by intro x;exact Cy) (v:a≠b->K true=G:=by intro x;exact Cy):∀c,c=(a !=b)->K c:=No f t u v
theorem Np {a:Bool} {K:Bool->Prop} {F G:Prop} (f:a=true->F) (t:a=false->G) (u:a=true->K false=F:=by intro x;exact Cy) (v:a=false->K true=G:=by intro x;exact Cy):∀c,c= !a->K c:=Wr (fun x=>(u x).mpr (f x)) fun x=>(v x).mpr (t x)
theorem Gm {a:Bool} {K:Bool->Prop} {F G:Prop} (t:a=false->G) (f:a=true->F) (u:a=true->K false=F:=by intro x;exact Cy) (v:a=false->K true=G:=by intro x;exact Cy):∀c,c= !a->K c:=Np f t u v
theorem AG {f:FuncId} {fn:Func} (hf:Tryz.prog.funcs[f]? =some fn) {args:List AV} {r:AV} {Q:Env->Prop} (h:∀E,env Tryz.prog=E->Q E) (e:∀E,OR E fn r none (EJ fn.ntmps args none)=Q E:=by intro E;exact Cy) (ho:Hg fn=true:=by kernel_rfl) (c:(Ld args&&(r.all Ge&&(r.wf&&Nat.ble args.length fn.ntmps)))=true:=by rfl):Ej Tryz.prog false f args r:=Gs hf (fun E b=>(e E).mpr (h E b)) ho c
end Go.Abs
