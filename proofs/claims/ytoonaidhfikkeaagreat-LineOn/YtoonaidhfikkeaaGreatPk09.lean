/- Part 10 of a proof. Conditions: each theorem's own. -/
import Derived.Laws.Sem
import Derived.Test.YtoonaidhfikkeaaGreatPk08
set_option linter.all false
set_option maxHeartbeats 8000000
namespace Go.Abs
open Go.RowKit
section
variable {P:Program} {E:Env} {TI:TypeId->Info}
theorem aN {c:Code} {Q:Exit->Act->World->Prop} (I:Nat->Act->World->Prop) {k:Nat} {a:Act} {w:World} (m:I k a w)
  (round:∀k a w,I k a w->c.wp P (Exit.then (fun g w'=>∃k',k'<k/\I k' g w') Q) a w):(Code.loop c).wp P Q a w:=by
 have least:∀(a:Act) (w:World) (n:Nat),I n a w->∃k,I k a w/\∀j,I j a w->k<=j:=by
  intro a w n
  induction n using Nat.strongRecOn with
  | _ n r=>
   intro l
   by_cases h:∃j,j<n/\I j a w
   ·obtain⟨j,d,b⟩:=h;exact r j d b
   exact⟨n,l,fun j q=>Nat.le_of_not_lt fun i=>h ⟨j,i,q⟩⟩
 have⟨μ,f⟩:∃μ:Act->World->Nat,∀a w,(∃n,I n a w)->I (μ a w) a w/\∀j,I j a w->μ a w<=j:=by
  have:∀p:Act×World,∃k,(∃n,I n p.1 p.2)->I k p.1 p.2/\∀j,I j p.1 p.2->k<=j:=fun p=>by
   by_cases h:∃n,I n p.1 p.2
   ·obtain⟨n,l⟩:=h;obtain⟨k,d,b⟩:=least p.1 p.2 n l;exact⟨k,fun _=>⟨d,b⟩⟩
   exact⟨0,fun h'=>absurd h' h⟩
  exact⟨fun a w=>Classical.choose (this (a,w)),fun a w=>Classical.choose_spec (this (a,w))⟩
 refine wp_loop (fun a w=>∃n,I n a w) μ ⟨k,m⟩ fun a w o=>?_
 refine wp_mono (round _ a w (f a w o).1) fun e g w' he=>?_
 cases e with
 | normal=>obtain⟨k',d,b⟩:=he;exact⟨⟨k',b⟩,Nat.lt_of_le_of_lt ((f g w' ⟨k',b⟩).2 k' b) d⟩
 | _=>exact he
def Hb (s:St) (bs:List Nat) (k:Nat):AH:=match AD s.bk k with | some b=>if k==0&&b.AN !=0 then .dead 0 else Ir (AD s.bk) bs b | none=> .dead 0
theorem Ig (s:St) (c:List Nat) (k:Nat):Hb s c k= .dead 0\/∃b,AD s.bk k=some b/\Hb s c k=Ir (AD s.bk) c b/\(k=0->b.AN=0):=by
 unfold Hb
 split
 ·rename_i b hb
  split
  ·exact .inl rfl
  rename_i h
  refine .inr ⟨b,hb,rfl,fun e=>?_⟩;subst e;simpa using h
 exact .inl rfl
theorem X7 (bk:Nat->Option AH) (c:List Nat) (b:AH):(Ir bk c b).AN=0:=by cases b <;> rfl
theorem X6 (bk:Nat->Option AH) (c:List Nat) (b:AH):(Ir bk c b).live=b.live:=by cases b <;> rfl
theorem XT (s:St) (b:List Nat) (k:Nat) (r:List Nat):Cd s b (k::r)=Hb s b k::Cd s b r:=rfl
theorem RM (s:St) (b:List Nat):∀(f:List Nat) (l:List (Option AH)) (id:Nat),AD (Eu f (Cd s b f) l) id=if id∈f/\id<l.length then some (Hb s b id) else AD l id
 | [],l,id=>by simp[Eu,Cd]
 | k::r,l,id=>by
  rw[XT,Eu,RM s b r,EU,Es]
  by_cases c:id<l.length
  ·by_cases g:id∈r
   ·simp[c,g]
   by_cases d:id=k
   ·subst d;simp[c,g]
   simp[c,g,d]
  by_cases d:id=k
  ·subst d;simp[c]
  simp[c,d]
theorem RK (s:St) (b:List Nat):∀(g:List Nat) (l:List AV) (i:Nat),nth (D4 g (Co s b g) l) i=if i∈g/\i<l.length then Mt (AD s.bk) b (nth s.sl i) else nth l i
 | [],l,i=>by simp[D4,Co]
 | k::r,l,i=>by
  rw[Co,D4,RK s b r,EU,Gq]
  by_cases c:i<l.length
  ·by_cases f:i∈r
   ·simp[c,f]
   by_cases d:i=k
   ·subst d;simp[c,f]
   simp[c,f,d]
  by_cases d:i=k
  ·subst d;simp[c]
  simp[c,d]
theorem Qs:∀(d:List Nat) (c:List AH) (l:List (Option AH)),(Eu d c l).length=l.length
 |[],_,_|_::_,[],_=>by simp[Eu]
 | k::r,b::c,l=>by rw[Eu,Qs r,EU]
theorem Ii:∀(c:List Nat) (d:List AV) (l:List AV),(D4 c d l).length=l.length
 |[],_,_|_::_,[],_=>by simp[D4]
 | k::r,b::f,l=>by rw[D4,Ii r,EU]
theorem Eo {α:Type}:∀(n:Nat) (x:α),(Ew n x).length=n
 | 0,_=>rfl
 | n+1,x=>by simp[Ew,Eo n x]
theorem Mx:∀(n i:Nat),AD (Ew n none) i=none
 |0,_|n+1,0=>rfl
 | n+1,i+1=>Mx n i
theorem Mv:∀(n i:Nat),nth (Ew n (.one .BB)) i= .one .BB
 |0,_|n+1,0=>rfl
 | n+1,i+1=>Mv n i
theorem RG {x y:Cx} {bk:Nat->Option AH} {j:List Nat} (hw:y.w=x.w) (d:y.β=x.β) (g:x.cv=AN bk) (q:∀id,y.cv id=0) (f:∀b,x.I b->y.I b):∀{c:AC} {v:Value},Ae x c v->Ae y (GI bk j c) v
 |.BB,_,r|.int _ _,_,r|.bool _,_,r|.fn _,_,r|.nil,_,r=>r
 | .sl _ _,_,r=>Bo (fun b hb=>⟨f b hb,by rw[hw]⟩) _ _ _ r
 | .AM t id v off len,u,r=>by
  simp only[GI]
  split
  ·rename_i h
   simp only[Bool.and_eq_true,beq_iff_eq] at h;have:=r.2 (by rw[g];exact h.2.symm);exact⟨⟨r.1.1,Nat.zero_le _⟩,fun _=>by rw[hw,d];exact this⟩
  exact r.1.1
 | .CI _ _ _ _ _,_,r=>r.1.1
 | .Am id v off,u,r=>by
  simp only[GI]
  split
  ·rename_i h
   simp only[Bool.and_eq_true,beq_iff_eq] at h;have:=r.2 (by rw[g];exact h.2.symm);exact⟨⟨r.1.1,Nat.zero_le _⟩,fun _=>by rw[d];exact this⟩
  exact r.1.1
 | .B3 t id v i k,u,r=>by
  simp only[GI]
  split
  ·rename_i h
   simp only[Bool.and_eq_true,beq_iff_eq] at h;have:=r.2 (by rw[g];exact h.2.symm);exact⟨⟨r.1.1,Nat.zero_le _⟩,fun _=>by rw[d];exact this⟩
  exact r.1.1
 | .ub _,_,h=>h
 | .CU t z off,_,⟨b,o,us,l,m,n,p⟩=>⟨b,o,us,l,f b m,Bo (fun b hb=>⟨f b hb,by rw[hw]⟩) _ _ _ n,by rw[hw];exact p⟩
 | .own _ _ _,_,r=>r.elim
theorem AO.norm {x y:Cx} {bk:Nat->Option AH} {i:List Nat} (hw:y.w=x.w) (c:y.β=x.β) (f:x.cv=AN bk) (g:∀id,y.cv id=0) (d:∀b,x.I b->y.I b):∀{cs:List AC} {us:List Value},AO (Ae x) cs us->AO (Ae y) (cs.map (GI bk i)) us
 | [],[],_=>trivial
 | _::_,_::_,h=>⟨RG hw c f g d h.1,AO.norm hw c f g d h.2⟩
 |[],_::_,h|_::_,[],h=>h.elim
theorem X8 {x y:Cx} {bk:Nat->Option AH} {j:List Nat} (hw:y.w=x.w) (d:y.β=x.β) (g:x.cv=AN bk) (i:∀id,y.cv id=0) (f:∀b,x.I b->y.I b) {a:AV} {v:Value} (h:Au x a v):Au y (Mt bk j a) v:=by
 cases a with
 | one c=>
  rcases h with rfl | h
  ·exact .inl rfl
  exact .inr (RG hw d g i f h)
 | agg cs=>obtain⟨arr,e,h⟩:=h;exact⟨arr,e,AO.norm hw d g i f h⟩
 | AF _=>exact .inl rfl
theorem Av.head {w0:World} {X:WX} {β:Nat->Option Nat} {s:St} {a:Act} {w:World} (S:Av w0 X β s a w) {n:Nat} (B:s.sl.length=n) (g c:List Nat):Av w0 X β (Ep n g (Co s c g) c (Cd s c c)) a w:=by
 have k:∀id b,AD (Ep n g (Co s c g) c (Cd s c c)).bk id=some b->b=Hb s c id:=fun id b h=>by
  have h:AD (Eu c (Cd s c c) (Ew n none)) id=some b:=h;rw[RM,Mx] at h
  split at h
  ·exact (Option.some.inj h).symm
  cases h
 have m:∀id,AN (AD (Ep n g (Co s c g) c (Cd s c c)).bk) id=0:=fun id=>by
  unfold AN
  split
  ·rename_i b hb
   rw[k id b hb];rcases Ig s c id with h |⟨b',_,h,_⟩ <;> rw[h]
   ·rfl
   exact X7 _ _ _
  rfl
 have d:∀id,live (AD (Ep n g (Co s c g) c (Cd s c c)).bk) id->live (AD s.bk) id:=fun id ⟨b,hb,j⟩=>by
  have:=k id b hb;subst this;rcases Ig s c id with h |⟨b',f,h,_⟩ <;> rw[h] at j
  ·cases j
  rw[X6] at j;exact⟨b',f,j⟩
 have v:∀b,(cx X w β (AD s.bk)).I b->(cx X w β (AD (Ep n g (Co s c g) c (Cd s c c)).bk)).I b:=fun b hb=>⟨⟨hb.1.1,fun id j=>hb.1.2 id (d id j)⟩,hb.2⟩
 refine⟨S.defers,?_,?_,fun i=>?_,fun id b hb=>?_,fun id A b o p=>S.inj id A b (d _ o) (d _ p),fun id b o=>S.own id b (d _ o),S.os,S.tape,S.output,S.size,S.block,fun id b hb=>?_,S.fresh,fun j _=>?_⟩
 ·show (D4 _ _ _).length=_
  rw[Ii,Eo,<-B];exact S.len
 ·show (Eu _ _ _).length=_
  rw[Qs,Eo,<-B];exact S.len
 ·show Au _ (nth (D4 _ _ _) i) _
  rw[RK,Mv]
  split
  ·exact X8 (x:=cx X w β (AD s.bk)) (y:=cx X w β (AD (Ep n g (Co s c g) c (Cd s c c)).bk)) rfl rfl rfl m v (S.BV i)
  exact GW _ _
 ·have:=k id b hb;subst this;rcases Ig s c id with h |⟨b',f,h,_⟩ <;> rw[h]
  ·trivial
  have r:=S.blocks id b' f;cases b' with
  | dead _=>trivial
  | var _ cs=>obtain⟨b,arr,e,o,p,u⟩:=r;exact⟨b,arr,e,o,p,AO.norm (x:=cx X w β (AD s.bk)) (y:=cx X w β (AD (Ep n g (Co s c g) c (Cd s c c)).bk)) rfl rfl rfl m v u⟩
  | arr _ t l=>
   refine r.imp (fun q=>q) fun⟨b,arr,e,o,p,u⟩=>⟨b,arr,e,o,p,fun i y D=>?_⟩
   obtain⟨us,F,G⟩:=u i y D;exact⟨us,Bo (w':=w) (fun b hb=>⟨v b hb,rfl⟩) _ _ _ F,G⟩
 ·have:=k id b hb;subst this;rcases Ig s c id with h |⟨b',f,h,_⟩ <;> rw[h]
  ·trivial
  have:=S.lens id b' f;cases b' <;> exact this
 have z:=d 0 j;obtain⟨b,hb,j⟩:=j;have:=k 0 b hb;subst this;rcases Ig s c 0 with h |⟨b',f,h,C⟩ <;> rw[h] at j
 ·cases j
 exact S.HV z (by unfold AN;rw[f];exact C rfl)
def Eg:Code->Bool
 | .region _ ops _=>ops.toList.all Jq
 |.seq a b|.cond _ a b=>Eg a&&Eg b
 |.block _ c|.loop c=>Eg c
 | _=>true
def Z0:AX->Exit
 | .B4=> .normal
 | .exit n=> .exit n
 | .ret=> .ret
def Gb (w0:World) (X:WX) (n:Nat) (Q:AX->St->Prop) (e:Exit) (a:Act) (w:World):Prop:=
 ∃x s β,e=Z0 x/\Q x s/\s.sl.length=n/\Av w0 X β s a w
theorem DV (hm:P.follows .mixedOrders=true) (p:∀o,Jq o=true->Sound P E TI o) {n:Nat} {w0:World} {X:WX}:∀{c:Code} {Q:AX->St->Prop} {β:Nat->Option Nat} {s:St} {a:Act} {w:World},Eg c=true->s.sl.length=n->Av w0 X β s a w->B9 E TI n c Q s->
  c.wp P (Gb w0 X n Q) a w
 | .skip,Q,β,s,a,w,_,j,S,h=>wp_skip ⟨.B4,s,β,rfl,h,j,S⟩
 | .exit i,Q,β,s,a,w,_,j,S,h=>wp_exit ⟨.exit i,s,β,rfl,h,j,S⟩
 | .ret,Q,β,s,a,w,_,j,S,h=>wp_ret ⟨.ret,s,β,rfl,h,j,S⟩
 | .region id ops draw,Q,β,s,a,w,m,j,S,h=>
  Yj hm (fun o I=>p o (List.all_eq_true.1 m o I)) S h fun s' v F d t w' l=>⟨.B4,s',d,rfl,v,by rw[F];exact j,l⟩
 | .seq x y,Q,β,s,a,w,m,j,S,h=>by
  simp only[Eg,Bool.and_eq_true] at m;refine wp_seq (wp_mono (DV hm p m.1 j S h) fun e t w' he=>?_);obtain⟨x',s',d,rfl,g,f,l⟩:=he;cases x' with
  | B4=>exact DV hm p m.2 f l g
  | exit i=>exact⟨.exit i,s',d,rfl,g,f,l⟩
  | ret=>exact⟨.ret,s',d,rfl,g,f,l⟩
 | .cond c x y,Q,β,s,a,w,m,j,S,h=>by
  simp only[Eg,Bool.and_eq_true] at m;have r:=Br S.BV c
  have plain:(match ev s.sl c with | .one (.bool true)=>B9 E TI n x Q s | .one (.bool false)=>B9 E TI n y Q s | .one (.ub u)=>(u=true->B9 E TI n x Q s)/\B9 E TI n y Q s | _=>False)->(Code.cond c x y).wp P (Gb w0 X n Q) a w:=by
   intro h
   split at h
   ·rename_i he
    rw[he] at r;exact wp_cond_true (A0 r (by simp)) (DV hm p m.1 j S h)
   ·rename_i he
    rw[he] at r;exact wp_cond_false (A0 r (by simp)) (DV hm p m.2 j S h)
   ·rename_i u he
    rw[he] at r;obtain⟨b,hb,A⟩:=A0 r (by simp);cases b with
    | true=>exact wp_cond_true hb (DV hm p m.1 j S (h.1 (A rfl)))
    | false=>exact wp_cond_false hb (DV hm p m.2 j S h.2)
   exact h.elim
  simp only[B9] at h
  split at h
  ·rcases h with⟨z,q,J,B,h⟩ | h
   ·have fin:∀e t w',Gb w0 X n (fun e s'=>match e with | .B4=>J (Co s' q z) (Cd s' q q) | .exit i=>Q (.exit i) s' | .ret=>Q .ret s') e t w'->Gb w0 X n Q e t w':=by
     rintro e t w' ⟨x',s',d,rfl,g,f,l⟩;cases x' with
     | B4=>exact⟨.B4,_,d,rfl,B _ _ g,by show (D4 _ _ _).length=_;rw[Ii,Eo],l.head f z q⟩
     | exit i=>exact⟨.exit i,s',d,rfl,g,f,l⟩
     | ret=>exact⟨.ret,s',d,rfl,g,f,l⟩
    split at h
    ·rename_i he
     rw[he] at r;exact wp_cond_true (A0 r (by simp)) (wp_mono (DV hm p m.1 j S h) fin)
    ·rename_i he
     rw[he] at r;exact wp_cond_false (A0 r (by simp)) (wp_mono (DV hm p m.2 j S h) fin)
    ·rename_i u he
     rw[he] at r;obtain⟨b,hb,A⟩:=A0 r (by simp);cases b with
     | true=>exact wp_cond_true hb (wp_mono (DV hm p m.1 j S (h.1 (A rfl))) fin)
     | false=>exact wp_cond_false hb (wp_mono (DV hm p m.2 j S h.2) fin)
    exact h.elim
   exact plain h
  exact plain h
 | .block id c,Q,β,s,a,w,m,j,S,h=>by
  rcases h with⟨z,q,J,B,h⟩ | h
  ·refine wp_block (wp_mono (DV hm p (c:=c) m j S h) fun e t w' he=>?_);obtain⟨x',s',d,rfl,g,f,l⟩:=he
   have fin:J (Co s' q z) (Cd s' q q)->Gb w0 X n Q .normal t w':=fun g=>
    ⟨.B4,_,d,rfl,B _ _ g,by show (D4 _ _ _).length=_;rw[Ii,Eo],l.head f z q⟩
   cases x' with
   | B4=>exact fin g
   | exit i=>
    show Exit.inBlock id (Gb w0 X n Q) (.exit i) t w'
    simp only[Exit.inBlock];simp only at g
    split
    ·rename_i v;rw[if_pos v] at g;exact fin g
    rename_i v;rw[if_neg v] at g;exact⟨.exit i,s',d,rfl,g,f,l⟩
   | ret=>exact⟨.ret,s',d,rfl,g,f,l⟩
  refine wp_block (wp_mono (DV hm p (c:=c) m j S h) fun e t w' he=>?_);obtain⟨x',s',d,rfl,g,f,l⟩:=he;cases x' with
  | B4=>exact⟨.B4,s',d,rfl,g,f,l⟩
  | exit i=>
   show Exit.inBlock id (Gb w0 X n Q) (.exit i) t w'
   simp only[Exit.inBlock];simp only at g
   split
   ·rename_i v;rw[if_pos v] at g;exact⟨.B4,s',d,rfl,g,f,l⟩
   rename_i v;rw[if_neg v] at g;exact⟨.exit i,s',d,rfl,g,f,l⟩
  | ret=>exact⟨.ret,s',d,rfl,g,f,l⟩
 | .loop c,Q,β,s,a,w,m,j,S,h=>by
  obtain⟨z,q,J,⟨k0,G⟩,K⟩:=h;refine aN (fun k a w=>∃D C β,J D C k/\Av w0 X β (Ep n z D q C) a w) ⟨_,_,β,G,S.head j z q⟩ fun k a w H=>?_
  obtain⟨D,C,β,B,S⟩:=H;refine wp_mono (DV hm p (c:=c) m (by show (D4 _ _ _).length=_;rw[Ii,Eo]) S (K D C k B)) fun e t w' he=>?_
  obtain⟨x',s',d,rfl,g,f,l⟩:=he;cases x' with
  | B4=>obtain⟨k',v,F⟩:=g;exact⟨k',v,_,_,d,F,l.head f z q⟩
  | exit i=>exact⟨.exit i,s',d,rfl,g,f,l⟩
  | ret=>exact⟨.ret,s',d,rfl,g,f,l⟩
 |.rangeFunc _ _ _ _,_,_,_,_,_,_,_,_,h|.scope _,_,_,_,_,_,_,_,_,h|.label _,_,_,_,_,_,_,_,_,h|.goto _,_,_,_,_,_,_,_,_,h|.refuse _,_,_,_,_,_,_,_,_,h=>h.elim
end
end Go.Abs
namespace Go.Abs
open Go.RowKit
section
variable {P:Program} {TI:TypeId->Info}
def I0 (tmps:Array Value):ResultVar->Sem Value
 | .tmp t=>pure (tmps.getD t undef)
 | .cell a t=>do loadVar t (<-asAddr (tmps.getD a undef))
theorem Q0 {w:World} {f:ResultVar->Sem Value}:∀{l:List ResultVar} {b:List Value},AO (fun r v=>(f r).run P w= .ok v w) l b->(l.mapM f).run P w= .ok b w
 | [],[],_=>by simp
 | r::l,v::b,h=>by
  rw[List.mapM_cons];simp[Sem.run_bind,h.1,Q0 h.2]
 |[],_::_,h|_::_,[],h=>h.elim
def Fo:List Value->Value
 | [v]=>v
 | vs=> .tuple vs.toArray
theorem NM {fn:Func} {tmps:Array Value} {w:World} {b:List Value} (h:AO (fun r v=>(I0 tmps r).run P w= .ok v w) fn.results.toList b):(results fn tmps).run P w= .ok (Fo b) w:=by
 have e:results fn tmps=(do let b <-fn.results.mapM (I0 tmps);pure (if h:b.size=1 then b[0] else .tuple b)):=by
  unfold results
  congr 1
 rw[e,Array.mapM_eq_mapM_toList];simp only[Sem.run_bind,map_eq_pure_bind,Q0 h,Result.andThen_ok,Sem.run_pure]
 congr 1
 match b with
 |[]|[v]|_::_::_=>rfl
section
variable {w0:World} {X:WX} {β:Nat->Option Nat} {s:St} {a:Act} {w:World}
theorem Yr (A:∀t,Cg P t (TI t)) (S:Av w0 X β s a w) {r:ResultVar} {b b':Bool×List AC} (h:Ko TI s r=some b) (m:Ac (Ck (AD s.bk)) b.2 b'.2):
  ∃v us,(I0 a.tmps r).run P w= .ok v w/\AO (Ae (cx X w β (AD s.bk))) b.2 us/\(b.1=true->v= .agg us.toArray)/\(b.1=false->us=[]\/us=[v]):=by
 cases r with
 | tmp t=>
  simp only[Ko,Option.some.injEq] at h;subst h;have f:=S.BV t
  generalize M:nth s.sl t=g at m f
  cases g with
  | one c=>
   have o:c≠ .BB:=by
    rintro rfl;cases b' with
    | mk x y=>cases y with
     | nil=>exact m.elim
     | cons _ _=>exact m.1.elim
   exact⟨_,[a.tmps.getD t undef],rfl,⟨A0 f o,trivial⟩,fun e=>by simp[AV.comp] at e,fun _=> .inr rfl⟩
  | agg cs=>
   obtain⟨arr,e,f⟩:=f;exact⟨_,arr.toList,rfl,f,fun _=>by rw[e],fun e=>by simp[AV.comp] at e⟩
  | AF _=>exact⟨_,[],rfl,trivial,fun e=>by simp[AV.comp] at e,fun _=> .inl rfl⟩
 | cell q t=>
  simp only[Ko] at h;have f:=S.BV q
  split at h
  ·rename_i id v off he
   rw[he] at f;have f:=A0 f (by simp)
   split at h
   ·rename_i N cs hb
    split at h
    ·rename_i d
     simp only[Bool.and_eq_true,beq_iff_eq] at d;obtain⟨⟨B,z⟩,hlen⟩:=d;obtain⟨D,arr,e,F,G,H⟩:=S.blocks id _ hb;have L:v=AN (AD s.bk) id:=by unfold AN;rw[hb];exact z.symm
     obtain⟨b1,l,K⟩:=f.2 L;obtain rfl:D=b1:=Option.some.inj (F.symm.trans l)
     have i:AO (Ae (cx X w β (AD s.bk))) (Dr cs off (TI t).size) ((arr.toList.drop off).take (TI t).size):=by
      rw[Hv];exact (H.drop off).take _
     have C:=i.length;have k:=run_load (A t) B (Rw G (off:=off) (n:=(TI t).size)) (by rw[<-C];exact hlen);obtain rfl:=Option.some.inj h;have p:(TI t).agg=false->(TI t).size=1:=by obtain⟨_,_,_,_,_,_,_,_,_,I⟩:=(A t).info B;exact I
     refine⟨valOf (TI t).agg ((arr.toList.drop off).take (TI t).size),_,?_,i,fun e=>?_,fun e=>?_⟩
     ·refine Eq.trans ?_ k;simp only[I0,K,asAddr,Instr.loadAt,Instr.sureAddr]
      rfl
     ·rw[show (TI t).agg=true from e];rfl
     right
     have J:=p e;rw[show (TI t).agg=false from e];have j:((arr.toList.drop off).take (TI t).size).length=1:=by rw[<-C,hlen];exact J
     generalize (arr.toList.drop off).take (TI t).size=us at j
     match us,j with
     | [u],_=>rfl
    cases h
   cases h
  cases h
end
section
variable {w0:World} {X:WX} {β:Nat->Option Nat} {s:St} {a:Act} {w:World}
def Yb (I:Nat->Prop) (lo:Nat) (w:World) (bo:Option Nat):Cx:=CT w fun b=>((false=false/\I b)\/lo<=b)/\b<w.heap.size/\bo≠some b
theorem R8 {I:Nat->Prop} (S:Av w0 X β s a w) (R:∀b,¬X.X b) (Q:∀b,X.A b->I b\/w0.heap.size<=b) {bo:Option Nat} (z:bo=none\/∃id,live (AD s.bk) id/\β id=bo) {c d:AC} {v:Value} (L:Dl d=false) (U:Fh c=true->bo=none) (h:Ck (AD s.bk) c d) (O:∀t o l,d≠ .AM t 0 0 o l)
  (r:Ae (cx X w β (AD s.bk)) c v):B7 (Yb I w0.heap.size w bo) w0.heap.size bo d v:=by
 have K:∀b,(cx X w β (AD s.bk)).I b->(Yb I w0.heap.size w bo).I b/\w.heap[b]? =w.heap[b]? :=fun b hb=>
  ⟨⟨(Q b hb.2).imp (fun q=>⟨rfl,q⟩) id,hb.1.1,fun e=>by
   rcases z with h' |⟨id,g,J⟩
   ·rw[h'] at e;cases e
   exact hb.1.2 id g (J.trans e)⟩,rfl⟩
 cases c with
 | AM t id j off len=>
  rcases h with⟨l,g,J,rfl⟩ |⟨l,n,_,_,_,_,_,rfl⟩ |⟨_,_,rfl⟩
  ·have x:=U rfl;subst x;have V:j=AN (AD s.bk) id:=by rw[Db g];rfl
   obtain⟨base,cap,e,g1,g2,_,H⟩:=r.2 V;have hlen:((l.drop off).take len).length=len:=by simp;omega
   have m:l.length<=140737488355328:=S.lens id _ g;refine⟨base,cap,by rw[hlen,e],by rw[hlen];exact g1,by rw[hlen];omega,?_⟩;rcases H with H |⟨b,arr,e',k1,k2,k3,k4⟩
   ·left;exact List.eq_nil_of_length_eq_zero (by rw[hlen];omega)
   have D:=S.blocks id _ g;rcases D with⟨u,M⟩ |⟨b',G,N,u,M,Z⟩
   ·exact absurd (u.symm.trans k1) (by simp)
   obtain rfl:b'=b:=Option.some.inj (u.symm.trans k1);have C:live (AD s.bk) id:=⟨_,g,rfl⟩
   have B:b'<w.heap.size:=by
    rcases Nat.lt_or_ge b' w.heap.size with h' | h'
    ·exact h'
    have F:w.heap[b']? =_:=M;simp[Array.getElem?_eq_none h'] at F
   refine .inr ⟨b',_,k2,⟨.inr ((S.own id b' C u).resolve_right (fun q=>R b' q.1)),B,by simp⟩,fun i y p=>?_⟩
   have T:l[off+i]? =some y:=by
    rw[List.getElem?_take] at p
    split at p
    ·simpa using p
    cases p
   obtain⟨us,W,Y⟩:=Z (off+i) y T;exact⟨us,Bo (w':=w) K _ _ _ W,by rw[show off*t.size+i*t.size=(off+i)*t.size by rw[Nat.add_mul]];exact Y⟩
  ·cases L
  exact absurd rfl (O t off len)
 | nil=>
  rcases h with rfl |⟨t,rfl⟩ |⟨t,rfl⟩
  ·exact r
  ·exact⟨none,0,by rw[show v=_ from r];rfl,Nat.le_refl _,by simp,.inl rfl⟩
  cases L
 |int k n|bool b|fn f=>rw[show d=_ from h];exact r
 | sl t l=>rw[show d=_ from h];exact Bo (w':=w) K _ _ _ r
 | _=>exact h.elim
theorem Yp {I:Nat->Prop} (S:Av w0 X β s a w) (G:∀b,¬X.X b) (D:∀b,X.A b->I b\/w0.heap.size<=b) {c d:AC} {v:Value} (m:Dl d=true) (h:Ck (AD s.bk) c d)
  (r:Ae (cx X w β (AD s.bk)) c v):∃bo,B7 (Yb I w0.heap.size w bo) w0.heap.size bo d v/\(bo=none\/((∃id,live (AD s.bk) id/\β id=bo)/\Fh c=true)):=by
 cases c with
 | AM t id u off len=>
  rcases h with⟨l,p,R,rfl⟩ |⟨l,n,_,p,rfl,rfl,rfl,rfl⟩ |⟨_,_,rfl⟩
  ·cases m
  ·have H:u=AN (AD s.bk) id:=by rw[Db p];rfl
   obtain⟨base,cap,e,g1,g2,_,C⟩:=r.2 H;have g:l.length<=140737488355328:=S.lens id _ p;have j:live (AD s.bk) id:=⟨_,p,rfl⟩;rcases C with rfl |⟨b,arr,e',k1,k2,K,L⟩
   ·exact⟨none,⟨rfl,base,0,e,g1,g2,g,.inl ⟨rfl,List.eq_nil_of_length_eq_zero (by omega),rfl⟩⟩,.inl rfl⟩
   have x:=S.blocks id _ p;rcases x with⟨o,O⟩ |⟨b',z,B,o,O,Q⟩
   ·exact absurd (o.symm.trans k1) (by simp)
   obtain rfl:b'=b:=Option.some.inj (o.symm.trans k1)
   have F:∀b,(cx X w β (AD s.bk)).I b->(Yb I w0.heap.size w (some b')).I b/\w.heap[b]? =w.heap[b]? :=fun b hb=>
    ⟨⟨(D b hb.2).imp (fun q=>⟨rfl,q⟩) (fun q=>q),hb.1.1,fun e=>hb.1.2 id j (o.trans e)⟩,rfl⟩
   refine⟨some b',⟨rfl,base,cap,e,g1,g2,g,.inr ⟨b',arr,e',rfl,(S.own id b' j o).resolve_right (fun q=>G b' q.1),by rw[k2];simp,K,by simpa using L,fun i y J=>?_⟩⟩,.inr ⟨⟨id,j,o⟩,rfl⟩⟩;obtain⟨us,M,N⟩:=Q i y J;exact⟨us,Bo (w':=w) F _ _ _ M,N⟩
  cases m
 | nil=>
  rcases h with rfl |⟨t,rfl⟩ |⟨t,rfl⟩
  ·cases m
  ·cases m
  exact⟨none,⟨rfl,none,0,by rw[show v=_ from r];rfl,Nat.le_refl _,Nat.zero_le _,by simp,.inl ⟨rfl,rfl,rfl⟩⟩,.inl rfl⟩
 |int k n|bool b|fn f|sl t l=>rw[show d=_ from h] at m;cases m
 | _=>exact h.elim
theorem NL {I:Nat->Prop} (S:Av w0 X β s a w) (u:∀b,¬X.X b) (r:∀b,X.A b->I b\/w0.heap.size<=b) {bo:Option Nat} (g:bo=none\/∃id,live (AD s.bk) id/\β id=bo):∀{cs f:List AC} {m:List Value},f.filter Dl=[]->(cs.filter Fh≠[]->bo=none)->Ac (Ck (AD s.bk)) cs f->f.all BU=true->
  AO (Ae (cx X w β (AD s.bk))) cs m->AO (B7 (Yb I w0.heap.size w bo) w0.heap.size bo) f m
 | [],[],[],_,_,_,_,_=>trivial
 | c::cs,d::f,v::m,i,n,p,j,q=>by
  simp only[List.all_cons,Bool.and_eq_true] at j
  have x:Dl d=false:=by
   cases h:Dl d with
   | false=>rfl
   | true=>rw[List.filter_cons,h] at i;simp at i
  refine⟨R8 S u r g x (fun k=>n (by rw[List.filter_cons,k];simp)) p.1 (fun t o l e=>by subst e;simp[BU,Ai] at j) q.1,NL S u r g (by rw[List.filter_cons,x] at i;simpa using i) (fun k=>n (fun e=>k ?_)) p.2 j.2 q.2⟩;rw[List.filter_cons] at e
  split at e
  ·cases e
  exact e
 |[],[],_::_,_,_,_,_,h|_::_,_::_,[],_,_,_,_,h|[],_::_,_,_,_,h,_,_|_::_,[],_,_,_,h,_,_=>h.elim
theorem SB {I:Nat->Prop} (S:Av w0 X β s a w) (x:∀b,¬X.X b) (u:∀b,X.A b->I b\/w0.heap.size<=b):∀{cs g:List AC} {D:List Value},(g.filter Dl).length<=1->((g.filter Dl).length=1->(cs.filter Fh).length<=1)->Ac (Ck (AD s.bk)) cs g->g.all BU=true->
  AO (Ae (cx X w β (AD s.bk))) cs D->∃bo,AO (B7 (Yb I w0.heap.size w bo) w0.heap.size bo) g D/\(bo=none\/((∃id,live (AD s.bk) id/\β id=bo)/\cs.filter Fh≠[]))
 | [],[],[],_,_,_,_,_=>⟨none,trivial,.inl rfl⟩
 | c::cs,d::g,v::D,k,j,n,p,r=>by
  have B:=p;simp only[List.all_cons,Bool.and_eq_true] at p;cases y:Dl d with
  | true=>
   rw[List.filter_cons,y] at k j;simp only[if_true,List.length_cons] at k j;have i:g.filter Dl=[]:=List.eq_nil_of_length_eq_zero (by omega);obtain⟨bo,g1,g2⟩:=Yp S x u y n.1 r.1;refine⟨bo,⟨g1,NL S x u (g2.imp id fun q=>q.1) i (fun C=>?_) n.2 p.2 r.2⟩,g2.imp id fun q=>⟨q.1,by rw[List.filter_cons,q.2];simp⟩⟩;rcases g2 with g2 |⟨_,g2⟩
   ·exact g2
   exfalso
   have:=j (by rw[i];rfl);rw[List.filter_cons,g2] at this;simp only[if_true,List.length_cons] at this;exact C (List.eq_nil_of_length_eq_zero (by omega))
  | false=>
   rw[List.filter_cons,y] at k j;simp only[Bool.false_eq_true,if_false] at k j;have F:∀t o l,d≠ .AM t 0 0 o l:=fun t o l e=>by subst e;simp[BU,Ai] at p
   by_cases z:(g.filter Dl).length=1
   ·have f:=j z
    have m:(cs.filter Fh).length<=1:=by
     rw[List.filter_cons] at f
     split at f
     ·simp only[List.length_cons] at f;omega
     exact f
    obtain⟨bo,g1,g2⟩:=SB S x u k (fun _=>m) n.2 p.2 r.2;refine⟨bo,⟨R8 S x u (g2.imp id fun q=>q.1) y (fun G=>?_) n.1 F r.1,g1⟩,g2.imp id fun q=>⟨q.1,fun e=>q.2 ?_⟩⟩
    ·rcases g2 with g2 |⟨_,g2⟩
     ·exact g2
     rw[List.filter_cons,G] at f;simp only[if_true,List.length_cons] at f;exact absurd (List.eq_nil_of_length_eq_zero (by omega)) g2
    rw[List.filter_cons] at e
    split at e
    ·cases e
    exact e
   have i:g.filter Dl=[]:=List.eq_nil_of_length_eq_zero (by omega);exact⟨none,NL S x u (.inl rfl) (by rw[List.filter_cons,y];simpa using i) (fun _=>rfl) n B r,.inl rfl⟩
 |[],[],_::_,_,_,_,_,h|_::_,_::_,[],_,_,_,_,h|[],_::_,_,_,_,h,_,_|_::_,[],_,_,_,h,_,_=>h.elim
end
end
end Go.Abs
namespace Go.Abs
open Go.RowKit
section
variable {P:Program} {TI:TypeId->Info}
section
variable {w0:World} {X:WX} {β:Nat->Option Nat} {s:St} {a:Act} {w:World}
theorem Kp (k:∀t,Cg P t (TI t)) (S:Av w0 X β s a w):∀{rs:List ResultVar} {xs ys:List (Bool×List AC)},Fv TI s rs=some xs->Ex (AD s.bk) xs ys->
  ∃i us,AO (fun r v=>(I0 a.tmps r).run P w= .ok v w) rs i/\AO (Ae (cx X w β (AD s.bk))) (xs.flatMap (·.2)) us/\
   ∀(y:Cx) (lo:Nat) (bo:Option Nat),AO (B7 y lo bo) (ys.flatMap (·.2)) us->AO (fun z q=>D8 y lo bo (CJ z) q) ys i
 | [],xs,ys,h,f=>by
  simp only[Fv,Option.some.injEq] at h;subst h;cases ys with
  | nil=>exact⟨[],[],trivial,trivial,fun _ _ _ _=>trivial⟩
  | cons _ _=>exact f.elim
 | r::rs,xs,ys,h,f=>by
  simp only[Fv] at h
  split at h
  ·rename_i b F u A
   obtain rfl:=Option.some.inj h;cases ys with
   | nil=>exact f.elim
   | cons b' ys=>
    obtain⟨⟨e,n⟩,f⟩:=f;obtain⟨v,us,g1,g2,o,p⟩:=Yr k S u n;obtain⟨i,j,k1,k2,C⟩:=Kp k S A f;refine⟨v::i,us++j,⟨g1,k1⟩,by rw[List.flatMap_cons];exact g2.append k2,fun y lo bo d=>?_⟩;rw[List.flatMap_cons] at d;obtain⟨m1,m2,e',g,D⟩:=d.M3
    have hlen:us.length=m1.length:=by
     rw[<-g2.length,<-g.length]
     have:∀{l m:List AC},Ac (Ck (AD s.bk)) l m->l.length=m.length:=by
      intro l
      induction l with
      | nil=>intro m h;cases m <;> first | rfl | exact h.elim
      | cons x l B=>intro m h;cases m with
       | nil=>exact h.elim
       | cons y m=>simp[B h.2]
     exact this n
    obtain⟨rfl,rfl⟩:=List.append_inj e' hlen;refine⟨?_,C y lo bo D⟩;obtain⟨t,cs⟩:=b';simp only at e;cases t with
    | true=>exact⟨us.toArray,o e,by simpa using g⟩
    | false=>
     rcases p e with rfl | rfl
     ·cases cs with
      | nil=>exact .inl rfl
      | cons _ _=>exact g.elim
     cases cs with
     | nil=>exact g.elim
     | cons c cs=>exact .inr g.1
  cases h
end
theorem RJ:∀(l m:List AV) (i:Nat),nth (l++m) i=if i<l.length then nth l i else nth m (i-l.length)
 | [],m,i=>by simp
 | x::l,m,0=>by simp[nth]
 | x::l,m,i+1=>by simp[nth,RJ l m i]
theorem AO.nth {x:Cx}:∀{l:List AV} {c:List Value} (i:Nat),AO (Au x) l c->i<l.length->Au x (nth l i) (c.getD i undef)
 | _::_,_::_,0,h,_=>by simpa [Abs.nth] using h.1
 | _::_,_::_,i+1,h,b=>by simpa [Abs.nth] using AO.nth i h.2 (by simpa using b)
 | [],[],_,_,b=>by simp at b
 |[],_::_,_,h,_|_::_,[],_,h,_=>h.elim
theorem Kg {x y:Cx} (h:∀b,x.I b->y.I b/\y.w.heap[b]? =x.w.heap[b]?):∀{l:List AV} {d:List Value},(l.all fun c=>match c with | .AF _=>false | c=>c.all Ai)=true->AO (Au x) l d->AO (Au y) l d
 | [],[],_,_=>trivial
 | .one c::_,_::_,e,r=>by
  simp only[List.all_cons,Bool.and_eq_true] at e;exact⟨r.1.imp (fun q=>q) (It h e.1),Kg h e.2 r.2⟩
 | .agg c::_,_::_,e,r=>by
  simp only[List.all_cons,Bool.and_eq_true] at e;obtain⟨arr,e',f⟩:=r.1;exact⟨⟨arr,e',AO.pure h e.1 f⟩,Kg h e.2 r.2⟩
 | .AF _::_,_::_,e,_=>by simp at e
 |[],_::_,_,r|_::_,[],_,r=>r.elim
theorem Av.start {w:World} {X:WX} {args:List AV} {g:List Value} {n:Nat} {f:Option AH} (t:args.length<=n) (p:∀b,X.ob=some b->X.X b) (o:∀b,w.heap.size<=b->X.A b) (q:∀b,f=some b->b.AN=0/\b.short/\0<n)
  (c:AO (Au (cx X w (β0 X.ob) (AD (Cb n args f).bk))) args g) (hb:∀b,f=some b->B5 (cx X w (β0 X.ob) (AD (Cb n args f).bk)) 0 b):
  Av w X (β0 X.ob) (Cb n args f) {tmps:=g.toArray++Array.replicate (n-g.toArray.size) undef,defers:=[]} w:=by
 have hlen:=c.length
 have d:∀id b,AD (Cb n args f).bk id=some b->id=0/\f=some b:=by
  intro id b h;cases n with
  | zero=>simp[Cb,AD] at h
  | succ n=>
   cases id with
   | zero=>exact⟨rfl,h⟩
   | succ id=>
    have:AD (Ew n none) id=some b:=h;rw[Mx] at this;cases this
 refine⟨rfl,?_,?_,fun i=>?_,fun id b h=>?_,fun id r b ⟨_,j,_⟩ ⟨_,m,_⟩ _ _=>?_,fun id b ⟨_,j,_⟩ k=> .inr ?_,rfl,rfl,rfl,Nat.le_refl _,fun _ _ _=>rfl,fun id b h=>?_,o,fun _ _=>⟨rfl,fun b arr e _ he=>⟨arr,he,rfl⟩⟩⟩
 ·simp[Cb,Eo];omega
 ·simp[Cb];cases n with
  | zero=>simp;omega
  | succ n=>simp[Eo];omega
 ·show Au _ (nth (args++_) i) _
  rw[RJ]
  split
  ·rename_i l
   have:=c.nth i l
   have e:(g.toArray++Array.replicate (n-g.toArray.size) undef).getD i undef=g.getD i undef:=by
    rw[Array.getD_eq_getD_getElem?,Array.getElem?_append_left (by simpa [<-hlen] using l)];simp[List.getD_eq_getElem?_getD]
   rw[e];exact this
  rw[Mv];exact GW _ _
 ·obtain⟨rfl,h'⟩:=d id b h;exact hb b h'
 ·rw[(d _ _ j).1,(d _ _ m).1]
 ·obtain⟨rfl,_⟩:=d _ _ j;exact⟨p b k,rfl⟩
 exact (q b (d id b h).2).2.1
def Kf (args:List AV):Bool:=args.all fun c=>match c with | .AF _=>false | c=>c.all Ai
structure Fn (P:Program) (TI:TypeId->Info) (f:FuncId) (n:Nat) (c:Code) (rs:List ResultVar):Prop where
 get : ∃ fn, P.funcs[f]? = some fn /\ (fn.name == "runtime.NumGoroutine") = false /\ fn.body = some c /\ fn.ntmps = n /\ fn.results.toList = rs
 dst:Eg c=true
 ty:∀t,Cg P t (TI t)
 mixed:P.follows .mixedOrders=true
theorem MB {r:AV} {y:Cx} {lo:Nat} {bo:Option Nat} {b:List Value} (d:b.length=1↔∀ys,r≠ .AF ys) (h:AO (fun z q=>D8 y lo bo (CJ z) q) r.CP b):Ea y lo bo r (Fo b):=by
 cases r with
 | AF xs=>
  have:b.length≠1:=fun e=>d.1 e xs rfl
  have e:Fo b= .tuple b.toArray:=by
   match b,this with
   | [],_=>rfl
   | [_],h=>exact absurd rfl h
   | _::_::_,_=>rfl
  exact⟨b.toArray,e,h⟩
 | one c=>
  match b,h with
  | [v],h=>exact h.1
 | agg cs=>
  match b,h with
  | [v],h=>exact h.1
theorem Vi {f:FuncId} {n:Nat} {c:Code} {rs:List ResultVar} (F:Fn P TI f n c rs) {args:List AV} {r:AV} (U:Kf args=true) (B:r.all BU=true/\r.wf=true) (R:args.length<=n)
  (h:B9 (env P) TI n c (post TI rs r none) (Cb n args none)):EW P false f args r:=by
 obtain⟨fn,K,p,hb,z,C⟩:=F.get;refine⟨⟨fn,c,K,p,hb⟩,B,fun w I L Q j=>?_⟩;refine calls_of_wp K hb ?_
 have M:Av w ⟨fun _=>False,fun b=>I b\/w.heap.size<=b,none⟩ (β0 none) (Cb n args none) {tmps:=L.toArray++Array.replicate (n-L.toArray.size) undef,defers:=[]} w:=
  Av.start (X:=⟨fun _=>False,fun b=>I b\/w.heap.size<=b,none⟩) R (fun _ e=>by cases e) (fun b hb=> .inr hb) (fun b e=>by cases e)
   (Kg (x:=CT w I) (y:=cx ⟨fun _=>False,fun b=>I b\/w.heap.size<=b,none⟩ w (β0 none) (AD (Cb n args none).bk)) (fun b hb=>⟨⟨⟨Q b hb,fun id _ e=>by simp[β0] at e⟩,.inl hb⟩,rfl⟩) U j) (fun b e=>by cases e)
 rw[z];refine wp_mono (DV F.mixed (fun o T=>Nb F.ty o T) F.dst (by simp[Cb,Eo];omega) M h) fun e H w' he=>?_
 obtain⟨x,s',Y,rfl,g,_,S⟩:=he
 have fin:post TI rs r none x s'->x≠ .exit 0/\(∀i,x≠ .exit i)->H.defers=[]/\∃v,(results fn H.tmps).run P w'= .ok v w'/\∃u bo,Ending.returned v= .returned u/\Below w.heap.size w w'/\
   Ea (CT w' fun b=>((false=false/\I b)\/w.heap.size<=b)/\b<w'.heap.size/\bo≠some b) w.heap.size bo r u:=by
  intro g V;refine⟨S.defers,?_⟩
  have A:∃xs,Fv TI s' rs=some xs/\Ex (AD s'.bk) xs r.CP/\Gs xs r.CP=true/\(rs.length=1↔∀ys,r≠ .AF ys):=by
   unfold post at g
   split at g
   ·exact absurd rfl (V.2 _)
   split at g
   ·rename_i xs D
    exact⟨xs,D,g.1 ()⟩
   exact g.elim
  obtain⟨xs,N,J,t,O⟩:=A;obtain⟨us,ws,k1,k2,W⟩:=Kp F.ty S N J
  have k:Ac (Ck (AD s'.bk)) (xs.flatMap (·.2)) (r.CP.flatMap (·.2)):=by
   have app:∀{l m l' m':List AC},Ac (Ck (AD s'.bk)) l m->Ac (Ck (AD s'.bk)) l' m'->Ac (Ck (AD s'.bk)) (l++l') (m++m'):=by
    intro l
    induction l with
    | nil=>intro m l' m' h h';cases m <;> first | exact h' | exact h.elim
    | cons x l G=>intro m l' m' h h';cases m with
     | nil=>exact h.elim
     | cons y m=>exact⟨h.1,G h.2 h'⟩
   have:∀{l m:List (Bool×List AC)},Ex (AD s'.bk) l m->Ac (Ck (AD s'.bk)) (l.flatMap (·.2)) (m.flatMap (·.2)):=by
    intro l
    induction l with
    | nil=>intro m h;cases m <;> first | trivial | exact h.elim
    | cons x l G=>intro m h;cases m with
     | nil=>exact h.elim
     | cons y m=>rw[List.flatMap_cons,List.flatMap_cons];exact app h.1.2 (G h.2)
   exact this J
  have q:(r.CP.flatMap (·.2)).all BU=true:=by
   cases r with
   |one c|agg cs=>simpa [AV.CP,AV.comp,AV.all] using B.1
   | AF xs=>simp only[AV.CP,List.all_flatMap];exact B.1
  have d:((r.CP.flatMap (·.2)).filter Dl).length<=1/\(((r.CP.flatMap (·.2)).filter Dl).length=1->((xs.flatMap (·.2)).filter Fh).length<=1):=by
   unfold Gs at t
   split at t
   ·rename_i e;rw[e];simp
   ·rename_i e;rw[e];simpa using t
   cases t
  obtain⟨bo,g1,_⟩:=SB (I:=I) S (fun b h=>h) (fun b h=>h) d.1 d.2 k q k2;have hlen:us.length=rs.length:=k1.length.symm;refine⟨Fo us,NM (by rw[C];exact k1),Fo us,bo,rfl,⟨S.os,S.tape,S.output,S.size,fun b hb=>S.block b hb (fun h=>h)⟩,?_⟩;exact MB (by rw[hlen];exact O) (W _ _ _ g1)
 cases x with
 |B4|ret=>exact fin g ⟨by simp,by simp⟩
 | exit i=>exact g.elim
end
end Go.Abs
