/- Part 11 of a proof. Conditions: each theorem's own. -/
import Derived.Laws.Sem
import Derived.Test.YtfilemenbchajaaGreatPk09
set_option linter.all false
set_option maxHeartbeats 8000000
set_option maxRecDepth 20000
namespace Go.Abs
open Go.RowKit
section
variable {P:Program} {E:Env} {TI:TypeId->Info}
theorem gp {c:Code} {Q:Exit->Act->World->Prop} (I:Nat->Act->World->Prop) {k:Nat} {a:Act} {w:World} (m:I k a w)
  (round:∀k a w,I k a w->c.wp P (Exit.then (fun g w'=>∃k',k'<k/\I k' g w') Q) a w):(Code.loop c).wp P Q a w:=by
 have least:∀(a:Act) (w:World) (n:Nat),I n a w->∃k,I k a w/\∀j,I j a w->k<=j:=by
  intro a w n
  induction n using Nat.strongRecOn with
  | _ n r=>
   intro l
   by_cases h:∃j,j<n/\I j a w
   ·obtain⟨j,d,b⟩:=h;exact r j d b
   exact⟨n,l,fun j q=>Nat.le_of_not_lt fun i=>h ⟨j,i,q⟩⟩
 have⟨μ,f⟩:∃μ:Act->World->Nat,∀a w,(∃n,I n a w)->I (μ a w) a w/\∀j,I j a w->μ a w<=j:=by
  have:∀p:Act×World,∃k,(∃n,I n p.1 p.2)->I k p.1 p.2/\∀j,I j p.1 p.2->k<=j:=fun p=>by
   by_cases h:∃n,I n p.1 p.2
   ·obtain⟨n,l⟩:=h;obtain⟨k,d,b⟩:=least p.1 p.2 n l;exact⟨k,fun _=>⟨d,b⟩⟩
   exact⟨0,fun h'=>absurd h' h⟩
  exact⟨fun a w=>Classical.choose (this (a,w)),fun a w=>Classical.choose_spec (this (a,w))⟩
 refine wp_loop (fun a w=>∃n,I n a w) μ ⟨k,m⟩ fun a w o=>?_
 refine wp_mono (round _ a w (f a w o).1) fun e g w' he=>?_
 cases e with
 | normal=>obtain⟨k',d,b⟩:=he;exact⟨⟨k',b⟩,Nat.lt_of_le_of_lt ((f g w' ⟨k',b⟩).2 k' b) d⟩
 | _=>exact he
def I0 (s:St) (bs:List Nat) (k:Nat):AM:=match AF s.bk k with | some b=>if k==0&&b.AW !=0 then .dead 0 else KL (AF s.bk) bs b | none=> .dead 0
theorem J7 (s:St) (c:List Nat) (k:Nat):I0 s c k= .dead 0\/∃b,AF s.bk k=some b/\I0 s c k=KL (AF s.bk) c b/\(k=0->b.AW=0):=by
 unfold I0
 split
 ·rename_i b hb
  split
  ·exact .inl rfl
  rename_i h
  refine .inr ⟨b,hb,rfl,fun e=>?_⟩;subst e;simpa using h
 exact .inl rfl
theorem cN (bk:Nat->Option AM) (c:List Nat) (b:AM):(KL bk c b).AW=0:=by cases b <;> rfl
theorem cM (bk:Nat->Option AM) (c:List Nat) (b:AM):(KL bk c b).live=b.live:=by cases b <;> rfl
theorem ar (s:St) (b:List Nat) (k:Nat) (r:List Nat):DJ s b (k::r)=I0 s b k::DJ s b r:=rfl
theorem UH (s:St) (b:List Nat):∀(d:List Nat) (l:List (Option AM)) (id:Nat),AF (Fj d (DJ s b d) l) id=if id∈d/\id<l.length then some (I0 s b id) else AF l id
 | [],l,id=>by simp[Fj,DJ]
 | k::r,l,id=>by
  rw[ar,Fj,UH s b r,FK,Fi]
  by_cases c:id<l.length
  ·by_cases f:id∈r
   ·simp[c,f]
   by_cases h3:id=k
   ·subst h3;simp[c,f]
   simp[c,f,h3]
  by_cases h3:id=k
  ·subst h3;simp[c]
  simp[c,h3]
theorem UG (s:St) (b:List Nat):∀(ks:List Nat) (l:List AV) (i:Nat),nth (Eu ks (DV s b ks) l) i=if i∈ks/\i<l.length then Om (AF s.bk) b (nth s.sl i) else nth l i
 | [],l,i=>by simp[Eu,DV]
 | k::r,l,i=>by
  rw[DV,Eu,UG s b r,FK,H6]
  by_cases c:i<l.length
  ·by_cases d:i∈r
   ·simp[c,d]
   by_cases h3:i=k
   ·subst h3;simp[c,d]
   simp[c,d,h3]
  by_cases h3:i=k
  ·subst h3;simp[c]
  simp[c,h3]
theorem TP:∀(d:List Nat) (c:List AM) (l:List (Option AM)),(Fj d c l).length=l.length
 |[],_,_|_::_,[],_=>by simp[Fj]
 | k::r,b::c,l=>by rw[Fj,TP r,FK]
theorem J9:∀(ks:List Nat) (vs:List AV) (l:List AV),(Eu ks vs l).length=l.length
 |[],_,_|_::_,[],_=>by simp[Eu]
 | k::r,b::c,l=>by rw[Eu,J9 r,FK]
theorem Ff {α:Type}:∀(n:Nat) (x:α),(Fl n x).length=n
 | 0,_=>rfl
 | n+1,x=>by simp[Fl,Ff n x]
theorem Ou:∀(n i:Nat),AF (Fl n none) i=none
 |0,_|n+1,0=>rfl
 | n+1,i+1=>Ou n i
theorem Oq:∀(n i:Nat),nth (Fl n (.one .BZ)) i= .one .BZ
 |0,_|n+1,0=>rfl
 | n+1,i+1=>Oq n i
theorem UA {x y:Cx} {bk:Nat->Option AM} {j:List Nat} (hw:y.w=x.w) (d:y.β=x.β) (g:x.cv=AW bk) (p:∀id,y.cv id=0) (f:∀b,x.I b->y.I b):∀{c:AC} {v:Value},Az x c v->Az y (HK bk j c) v
 |.BZ,_,r|.int _ _,_,r|.bool _,_,r|.fn _,_,r|.nil,_,r=>r
 | .sl _ _,_,r=>CR (fun b hb=>⟨f b hb,by rw[hw]⟩) _ _ _ r
 | .AT t id v off len,u,r=>by
  simp only[HK]
  split
  ·rename_i h
   simp only[Bool.and_eq_true,beq_iff_eq] at h;have:=r.2 (by rw[g];exact h.2.symm);exact⟨⟨r.1.1,Nat.zero_le _⟩,fun _=>by rw[hw,d];exact this⟩
  exact r.1.1
 | .Cw _ _ _ _ _,_,r=>r.1.1
 | .AD id v off,u,r=>by
  simp only[HK]
  split
  ·rename_i h
   simp only[Bool.and_eq_true,beq_iff_eq] at h;have:=r.2 (by rw[g];exact h.2.symm);exact⟨⟨r.1.1,Nat.zero_le _⟩,fun _=>by rw[d];exact this⟩
  exact r.1.1
 | .Cd t id v i k,u,r=>by
  simp only[HK]
  split
  ·rename_i h
   simp only[Bool.and_eq_true,beq_iff_eq] at h;have:=r.2 (by rw[g];exact h.2.symm);exact⟨⟨r.1.1,Nat.zero_le _⟩,fun _=>by rw[d];exact this⟩
  exact r.1.1
 | .ub _,_,h=>h
 | .C8 t z off,_,⟨b,o,us,l,m,h3,n⟩=>⟨b,o,us,l,f b m,CR (fun b hb=>⟨f b hb,by rw[hw]⟩) _ _ _ h3,by rw[hw];exact n⟩
 | .own _ _ _,_,r=>r.elim
theorem AY.norm {x y:Cx} {bk:Nat->Option AM} {i:List Nat} (hw:y.w=x.w) (c:y.β=x.β) (f:x.cv=AW bk) (g:∀id,y.cv id=0) (d:∀b,x.I b->y.I b):∀{cs:List AC} {us:List Value},AY (Az x) cs us->AY (Az y) (cs.map (HK bk i)) us
 | [],[],_=>trivial
 | _::_,_::_,h=>⟨UA hw c f g d h.1,AY.norm hw c f g d h.2⟩
 |[],_::_,h|_::_,[],h=>h.elim
theorem cO {x y:Cx} {bk:Nat->Option AM} {j:List Nat} (hw:y.w=x.w) (d:y.β=x.β) (g:x.cv=AW bk) (i:∀id,y.cv id=0) (f:∀b,x.I b->y.I b) {a:AV} {v:Value} (h:BQ x a v):BQ y (Om bk j a) v:=by
 cases a with
 | one c=>
  rcases h with rfl | h
  ·exact .inl rfl
  exact .inr (UA hw d g i f h)
 | agg cs=>obtain⟨arr,e,h⟩:=h;exact⟨arr,e,AY.norm hw d g i f h⟩
 | AE _=>exact .inl rfl
theorem BR.head {w0:World} {X:WX} {β:Nat->Option Nat} {s:St} {a:Act} {w:World} (S:BR w0 X β s a w) {n:Nat} (z:s.sl.length=n) (ks c:List Nat):BR w0 X β (Fg n ks (DV s c ks) c (DJ s c c)) a w:=by
 have j:∀id b,AF (Fg n ks (DV s c ks) c (DJ s c c)).bk id=some b->b=I0 s c id:=fun id b h=>by
  have h:AF (Fj c (DJ s c c) (Fl n none)) id=some b:=h;rw[UH,Ou] at h
  split at h
  ·exact (Option.some.inj h).symm
  cases h
 have k:∀id,AW (AF (Fg n ks (DV s c ks) c (DJ s c c)).bk) id=0:=fun id=>by
  unfold AW
  split
  ·rename_i b hb
   rw[j id b hb];rcases J7 s c id with h |⟨b',_,h,_⟩ <;> rw[h]
   ·rfl
   exact cN _ _ _
  rfl
 have d:∀id,live (AF (Fg n ks (DV s c ks) c (DJ s c c)).bk) id->live (AF s.bk) id:=fun id ⟨b,hb,g⟩=>by
  have:=j id b hb;subst this;rcases J7 s c id with h |⟨b',f,h,_⟩ <;> rw[h] at g
  ·cases g
  rw[cM] at g;exact⟨b',f,g⟩
 have p:∀b,(cx X w β (AF s.bk)).I b->(cx X w β (AF (Fg n ks (DV s c ks) c (DJ s c c)).bk)).I b:=fun b hb=>⟨⟨hb.1.1,fun id g=>hb.1.2 id (d id g)⟩,hb.2⟩
 refine⟨S.defers,?_,?_,fun i=>?_,fun id b hb=>?_,fun id v b m o=>S.inj id v b (d _ m) (d _ o),fun id b m=>S.own id b (d _ m),S.os,S.tape,S.output,S.size,S.block,fun id b hb=>?_,S.fresh,fun g _=>?_⟩
 ·show (Eu _ _ _).length=_
  rw[J9,Ff,<-z];exact S.len
 ·show (Fj _ _ _).length=_
  rw[TP,Ff,<-z];exact S.len
 ·show BQ _ (nth (Eu _ _ _) i) _
  rw[UG,Oq]
  split
  ·exact cO (x:=cx X w β (AF s.bk)) (y:=cx X w β (AF (Fg n ks (DV s c ks) c (DJ s c c)).bk)) rfl rfl rfl k p (S.Bx i)
  exact HX _ _
 ·have:=j id b hb;subst this;rcases J7 s c id with h |⟨b',f,h,_⟩ <;> rw[h]
  ·trivial
  have r:=S.blocks id b' f;cases b' with
  | dead _=>trivial
  | var _ cs=>obtain⟨b,arr,e,m,o,h3⟩:=r;exact⟨b,arr,e,m,o,AY.norm (x:=cx X w β (AF s.bk)) (y:=cx X w β (AF (Fg n ks (DV s c ks) c (DJ s c c)).bk)) rfl rfl rfl k p h3⟩
  | arr _ t l=>
   refine r.imp (fun q=>q) fun⟨b,arr,e,m,o,h3⟩=>⟨b,arr,e,m,o,fun i y B=>?_⟩
   obtain⟨us,C,D⟩:=h3 i y B;exact⟨us,CR (w':=w) (fun b hb=>⟨p b hb,rfl⟩) _ _ _ C,D⟩
 ·have:=j id b hb;subst this;rcases J7 s c id with h |⟨b',f,h,_⟩ <;> rw[h]
  ·trivial
  have:=S.lens id b' f;cases b' <;> exact this
 have u:=d 0 g;obtain⟨b,hb,g⟩:=g;have:=j 0 b hb;subst this;rcases J7 s c 0 with h |⟨b',f,h,A⟩ <;> rw[h] at g
 ·cases g
 exact S.Iv u (by unfold AW;rw[f];exact A rfl)
def FX:Code->Bool
 | .region _ ops _=>ops.toList.all Lh
 |.seq a b|.cond _ a b=>FX a&&FX b
 |.block _ c|.loop c=>FX c
 | _=>true
def gM:AX->Exit
 | .Ch=> .normal
 | .exit n=> .exit n
 | .ret=> .ret
def Hg (w0:World) (X:WX) (n:Nat) (Q:AX->St->Prop) (e:Exit) (a:Act) (w:World):Prop:=
 ∃x s β,e=gM x/\Q x s/\s.sl.length=n/\BR w0 X β s a w
theorem EK (hm:P.follows .mixedOrders=true) (p:∀o,Lh o=true->Sound P E TI o) {n:Nat} {w0:World} {X:WX}:∀{c:Code} {Q:AX->St->Prop} {β:Nat->Option Nat} {s:St} {a:Act} {w:World},FX c=true->s.sl.length=n->BR w0 X β s a w->Cc E TI n c Q s->
  c.wp P (Hg w0 X n Q) a w
 | .skip,Q,β,s,a,w,_,j,S,h=>wp_skip ⟨.Ch,s,β,rfl,h,j,S⟩
 | .exit i,Q,β,s,a,w,_,j,S,h=>wp_exit ⟨.exit i,s,β,rfl,h,j,S⟩
 | .ret,Q,β,s,a,w,_,j,S,h=>wp_ret ⟨.ret,s,β,rfl,h,j,S⟩
 | .region id ops draw,Q,β,s,a,w,m,j,S,h=>
  dr hm (fun o G=>p o (List.all_eq_true.1 m o G)) S h fun s' v C d t w' l=>⟨.Ch,s',d,rfl,v,by rw[C];exact j,l⟩
 | .seq x y,Q,β,s,a,w,m,j,S,h=>by
  simp only[FX,Bool.and_eq_true] at m;refine wp_seq (wp_mono (EK hm p m.1 j S h) fun e t w' he=>?_);obtain⟨x',s',d,rfl,g,f,l⟩:=he;cases x' with
  | Ch=>exact EK hm p m.2 f l g
  | exit i=>exact⟨.exit i,s',d,rfl,g,f,l⟩
  | ret=>exact⟨.ret,s',d,rfl,g,f,l⟩
 | .cond c x y,Q,β,s,a,w,m,j,S,h=>by
  simp only[FX,Bool.and_eq_true] at m;have r:=CU S.Bx c
  have plain:(match ev s.sl c with | .one (.bool true)=>Cc E TI n x Q s | .one (.bool false)=>Cc E TI n y Q s | .one (.ub u)=>(u=true->Cc E TI n x Q s)/\Cc E TI n y Q s | _=>False)->(Code.cond c x y).wp P (Hg w0 X n Q) a w:=by
   intro h
   split at h
   ·rename_i he
    rw[he] at r;exact wp_cond_true (BX r (by simp)) (EK hm p m.1 j S h)
   ·rename_i he
    rw[he] at r;exact wp_cond_false (BX r (by simp)) (EK hm p m.2 j S h)
   ·rename_i u he
    rw[he] at r;obtain⟨b,hb,z⟩:=BX r (by simp);cases b with
    | true=>exact wp_cond_true hb (EK hm p m.1 j S (h.1 (z rfl)))
    | false=>exact wp_cond_false hb (EK hm p m.2 j S h.2)
   exact h.elim
  simp only[Cc] at h
  split at h
  ·rcases h with⟨ks,q,J,A,h⟩ | h
   ·have fin:∀e t w',Hg w0 X n (fun e s'=>match e with | .Ch=>J (DV s' q ks) (DJ s' q q) | .exit i=>Q (.exit i) s' | .ret=>Q .ret s') e t w'->Hg w0 X n Q e t w':=by
     rintro e t w' ⟨x',s',d,rfl,g,f,l⟩;cases x' with
     | Ch=>exact⟨.Ch,_,d,rfl,A _ _ g,by show (Eu _ _ _).length=_;rw[J9,Ff],l.head f ks q⟩
     | exit i=>exact⟨.exit i,s',d,rfl,g,f,l⟩
     | ret=>exact⟨.ret,s',d,rfl,g,f,l⟩
    split at h
    ·rename_i he
     rw[he] at r;exact wp_cond_true (BX r (by simp)) (wp_mono (EK hm p m.1 j S h) fin)
    ·rename_i he
     rw[he] at r;exact wp_cond_false (BX r (by simp)) (wp_mono (EK hm p m.2 j S h) fin)
    ·rename_i u he
     rw[he] at r;obtain⟨b,hb,z⟩:=BX r (by simp);cases b with
     | true=>exact wp_cond_true hb (wp_mono (EK hm p m.1 j S (h.1 (z rfl))) fin)
     | false=>exact wp_cond_false hb (wp_mono (EK hm p m.2 j S h.2) fin)
    exact h.elim
   exact plain h
  exact plain h
 | .block id c,Q,β,s,a,w,m,j,S,h=>by
  rcases h with⟨ks,q,J,A,h⟩ | h
  ·refine wp_block (wp_mono (EK hm p (c:=c) m j S h) fun e t w' he=>?_);obtain⟨x',s',d,rfl,g,f,l⟩:=he
   have fin:J (DV s' q ks) (DJ s' q q)->Hg w0 X n Q .normal t w':=fun g=>
    ⟨.Ch,_,d,rfl,A _ _ g,by show (Eu _ _ _).length=_;rw[J9,Ff],l.head f ks q⟩
   cases x' with
   | Ch=>exact fin g
   | exit i=>
    show Exit.inBlock id (Hg w0 X n Q) (.exit i) t w'
    simp only[Exit.inBlock];simp only at g
    split
    ·rename_i v;rw[if_pos v] at g;exact fin g
    rename_i v;rw[if_neg v] at g;exact⟨.exit i,s',d,rfl,g,f,l⟩
   | ret=>exact⟨.ret,s',d,rfl,g,f,l⟩
  refine wp_block (wp_mono (EK hm p (c:=c) m j S h) fun e t w' he=>?_);obtain⟨x',s',d,rfl,g,f,l⟩:=he;cases x' with
  | Ch=>exact⟨.Ch,s',d,rfl,g,f,l⟩
  | exit i=>
   show Exit.inBlock id (Hg w0 X n Q) (.exit i) t w'
   simp only[Exit.inBlock];simp only at g
   split
   ·rename_i v;rw[if_pos v] at g;exact⟨.Ch,s',d,rfl,g,f,l⟩
   rename_i v;rw[if_neg v] at g;exact⟨.exit i,s',d,rfl,g,f,l⟩
  | ret=>exact⟨.ret,s',d,rfl,g,f,l⟩
 | .loop c,Q,β,s,a,w,m,j,S,h=>by
  obtain⟨ks,q,J,⟨k0,D⟩,H⟩:=h;refine gp (fun k a w=>∃vs B β,J vs B k/\BR w0 X β (Fg n ks vs q B) a w) ⟨_,_,β,D,S.head j ks q⟩ fun k a w F=>?_
  obtain⟨vs,B,β,A,S⟩:=F;refine wp_mono (EK hm p (c:=c) m (by show (Eu _ _ _).length=_;rw[J9,Ff]) S (H vs B k A)) fun e t w' he=>?_
  obtain⟨x',s',d,rfl,g,f,l⟩:=he;cases x' with
  | Ch=>obtain⟨k',v,C⟩:=g;exact⟨k',v,_,_,d,C,l.head f ks q⟩
  | exit i=>exact⟨.exit i,s',d,rfl,g,f,l⟩
  | ret=>exact⟨.ret,s',d,rfl,g,f,l⟩
 |.rangeFunc _ _ _ _,_,_,_,_,_,_,_,_,h|.scope _,_,_,_,_,_,_,_,_,h|.label _,_,_,_,_,_,_,_,_,h|.goto _,_,_,_,_,_,_,_,_,h|.refuse _,_,_,_,_,_,_,_,_,h=>h.elim
end
end Go.Abs
namespace Go.Abs
open Go.RowKit
section
variable {P:Program} {TI:TypeId->Info}
def KX (tmps:Array Value):ResultVar->Sem Value
 | .tmp t=>pure (tmps.getD t undef)
 | .cell a t=>do loadVar t (<-asAddr (tmps.getD a undef))
theorem Tg {w:World} {f:ResultVar->Sem Value}:∀{l:List ResultVar} {vs:List Value},AY (fun r v=>(f r).run P w= .ok v w) l vs->(l.mapM f).run P w= .ok vs w
 | [],[],_=>by simp
 | r::l,v::vs,h=>by
  rw[List.mapM_cons];simp[Sem.run_bind,h.1,Tg h.2]
 |[],_::_,h|_::_,[],h=>h.elim
def Gi:List Value->Value
 | [v]=>v
 | vs=> .tuple vs.toArray
theorem PS {fn:Func} {tmps:Array Value} {w:World} {vs:List Value} (h:AY (fun r v=>(KX tmps r).run P w= .ok v w) fn.results.toList vs):(results fn tmps).run P w= .ok (Gi vs) w:=by
 have e:results fn tmps=(do let vs <-fn.results.mapM (KX tmps);pure (if h:vs.size=1 then vs[0] else .tuple vs)):=by
  unfold results
  congr 1
 rw[e,Array.mapM_eq_mapM_toList];simp only[Sem.run_bind,map_eq_pure_bind,Tg h,Result.andThen_ok,Sem.run_pure]
 congr 1
 match vs with
 |[]|[v]|_::_::_=>rfl
section
variable {w0:World} {X:WX} {β:Nat->Option Nat} {s:St} {a:Act} {w:World}
theorem eD (A:∀t,DI P t (TI t)) (S:BR w0 X β s a w) {r:ResultVar} {b b':Bool×List AC} (h:Mg TI s r=some b) (m:Aw (Di (AF s.bk)) b.2 b'.2):
  ∃v us,(KX a.tmps r).run P w= .ok v w/\AY (Az (cx X w β (AF s.bk))) b.2 us/\(b.1=true->v= .agg us.toArray)/\(b.1=false->us=[]\/us=[v]):=by
 cases r with
 | tmp t=>
  simp only[Mg,Option.some.injEq] at h;subst h;have f:=S.Bx t
  generalize K:nth s.sl t=g at m f
  cases g with
  | one c=>
   have o:c≠ .BZ:=by
    rintro rfl;cases b' with
    | mk x y=>cases y with
     | nil=>exact m.elim
     | cons _ _=>exact m.1.elim
   exact⟨_,[a.tmps.getD t undef],rfl,⟨BX f o,trivial⟩,fun e=>by simp[AV.comp] at e,fun _=> .inr rfl⟩
  | agg cs=>
   obtain⟨arr,e,f⟩:=f;exact⟨_,arr.toList,rfl,f,fun _=>by rw[e],fun e=>by simp[AV.comp] at e⟩
  | AE _=>exact⟨_,[],rfl,trivial,fun e=>by simp[AV.comp] at e,fun _=> .inl rfl⟩
 | cell q t=>
  simp only[Mg] at h;have f:=S.Bx q
  split at h
  ·rename_i id v off he
   rw[he] at f;have f:=BX f (by simp)
   split at h
   ·rename_i L cs hb
    split at h
    ·rename_i d
     simp only[Bool.and_eq_true,beq_iff_eq] at d;obtain⟨⟨B,z⟩,hlen⟩:=d;obtain⟨b0,arr,e,D,F,h3⟩:=S.blocks id _ hb;have J:v=AW (AF s.bk) id:=by unfold AW;rw[hb];exact z.symm
     obtain⟨b1,l,I⟩:=f.2 J;obtain rfl:b0=b1:=Option.some.inj (D.symm.trans l)
     have i:AY (Az (cx X w β (AF s.bk))) (Ef cs off (TI t).size) ((arr.toList.drop off).take (TI t).size):=by
      rw[JJ];exact (h3.drop off).take _
     have C:=i.length;have k:=run_load (A t) B (Us F (off:=off) (n:=(TI t).size)) (by rw[<-C];exact hlen);obtain rfl:=Option.some.inj h;have p:(TI t).agg=false->(TI t).size=1:=by obtain⟨_,_,_,_,_,_,_,_,_,G⟩:=(A t).info B;exact G
     refine⟨valOf (TI t).agg ((arr.toList.drop off).take (TI t).size),_,?_,i,fun e=>?_,fun e=>?_⟩
     ·refine Eq.trans ?_ k;simp only[KX,I,asAddr,Instr.loadAt,Instr.sureAddr]
      rfl
     ·rw[show (TI t).agg=true from e];rfl
     right
     have H:=p e;rw[show (TI t).agg=false from e];have j:((arr.toList.drop off).take (TI t).size).length=1:=by rw[<-C,hlen];exact H
     generalize (arr.toList.drop off).take (TI t).size=us at j
     match us,j with
     | [u],_=>rfl
    cases h
   cases h
  cases h
end
section
variable {w0:World} {X:WX} {β:Nat->Option Nat} {s:St} {a:Act} {w:World}
def Yb (I:Nat->Prop) (lo:Nat) (w:World) (bo:Option Nat):Cx:=C7 w fun b=>((false=false/\I b)\/lo<=b)/\b<w.heap.size/\bo≠some b
theorem U4 {I:Nat->Prop} (S:BR w0 X β s a w) (R:∀b,¬X.X b) (Q:∀b,X.A b->I b\/w0.heap.size<=b) {bo:Option Nat} (z:bo=none\/∃id,live (AF s.bk) id/\β id=bo) {c d:AC} {v:Value} (L:Ep d=false) (U:HG c=true->bo=none) (h:Di (AF s.bk) c d) (O:∀t o l,d≠ .AT t 0 0 o l)
  (r:Az (cx X w β (AF s.bk)) c v):Cj (Yb I w0.heap.size w bo) w0.heap.size bo d v:=by
 have K:∀b,(cx X w β (AF s.bk)).I b->(Yb I w0.heap.size w bo).I b/\w.heap[b]? =w.heap[b]? :=fun b hb=>
  ⟨⟨(Q b hb.2).imp (fun q=>⟨rfl,q⟩) id,hb.1.1,fun e=>by
   rcases z with h' |⟨id,g,J⟩
   ·rw[h'] at e;cases e
   exact hb.1.2 id g (J.trans e)⟩,rfl⟩
 cases c with
 | AT t id j off len=>
  rcases h with⟨l,g,J,rfl⟩ |⟨l,n,_,_,_,_,_,rfl⟩ |⟨_,_,rfl⟩
  ·have x:=U rfl;subst x;have V:j=AW (AF s.bk) id:=by rw[ET g];rfl
   obtain⟨base,cap,e,g1,g2,_,H⟩:=r.2 V;have hlen:((l.drop off).take len).length=len:=by simp;omega
   have m:l.length<=140737488355328:=S.lens id _ g;refine⟨base,cap,by rw[hlen,e],by rw[hlen];exact g1,by rw[hlen];omega,?_⟩;rcases H with H |⟨b,arr,e',k1,k2,k3,k4⟩
   ·left;exact List.eq_nil_of_length_eq_zero (by rw[hlen];omega)
   have D:=S.blocks id _ g;rcases D with⟨u,M⟩ |⟨b',G,N,u,M,Z⟩
   ·exact absurd (u.symm.trans k1) (by simp)
   obtain rfl:b'=b:=Option.some.inj (u.symm.trans k1);have C:live (AF s.bk) id:=⟨_,g,rfl⟩
   have B:b'<w.heap.size:=by
    rcases Nat.lt_or_ge b' w.heap.size with h' | h'
    ·exact h'
    have F:w.heap[b']? =_:=M;simp[Array.getElem?_eq_none h'] at F
   refine .inr ⟨b',_,k2,⟨.inr ((S.own id b' C u).resolve_right (fun q=>R b' q.1)),B,by simp⟩,fun i y p=>?_⟩
   have T:l[off+i]? =some y:=by
    rw[List.getElem?_take] at p
    split at p
    ·simpa using p
    cases p
   obtain⟨us,W,Y⟩:=Z (off+i) y T;exact⟨us,CR (w':=w) K _ _ _ W,by rw[show off*t.size+i*t.size=(off+i)*t.size by rw[Nat.add_mul]];exact Y⟩
  ·cases L
  exact absurd rfl (O t off len)
 | nil=>
  rcases h with rfl |⟨t,rfl⟩ |⟨t,rfl⟩
  ·exact r
  ·exact⟨none,0,by rw[show v=_ from r];rfl,Nat.le_refl _,by simp,.inl rfl⟩
  cases L
 |int k n|bool b|fn f=>rw[show d=_ from h];exact r
 | sl t l=>rw[show d=_ from h];exact CR (w':=w) K _ _ _ r
 | _=>exact h.elim
theorem eB {I:Nat->Prop} (S:BR w0 X β s a w) (G:∀b,¬X.X b) (D:∀b,X.A b->I b\/w0.heap.size<=b) {c d:AC} {v:Value} (m:Ep d=true) (h:Di (AF s.bk) c d)
  (r:Az (cx X w β (AF s.bk)) c v):∃bo,Cj (Yb I w0.heap.size w bo) w0.heap.size bo d v/\(bo=none\/((∃id,live (AF s.bk) id/\β id=bo)/\HG c=true)):=by
 cases c with
 | AT t id u off len=>
  rcases h with⟨l,p,R,rfl⟩ |⟨l,n,_,p,rfl,rfl,rfl,rfl⟩ |⟨_,_,rfl⟩
  ·cases m
  ·have H:u=AW (AF s.bk) id:=by rw[ET p];rfl
   obtain⟨base,cap,e,g1,g2,_,C⟩:=r.2 H;have g:l.length<=140737488355328:=S.lens id _ p;have j:live (AF s.bk) id:=⟨_,p,rfl⟩;rcases C with rfl |⟨b,arr,e',k1,k2,K,L⟩
   ·exact⟨none,⟨rfl,base,0,e,g1,g2,g,.inl ⟨rfl,List.eq_nil_of_length_eq_zero (by omega),rfl⟩⟩,.inl rfl⟩
   have x:=S.blocks id _ p;rcases x with⟨o,O⟩ |⟨b',z,B,o,O,Q⟩
   ·exact absurd (o.symm.trans k1) (by simp)
   obtain rfl:b'=b:=Option.some.inj (o.symm.trans k1)
   have F:∀b,(cx X w β (AF s.bk)).I b->(Yb I w0.heap.size w (some b')).I b/\w.heap[b]? =w.heap[b]? :=fun b hb=>
    ⟨⟨(D b hb.2).imp (fun q=>⟨rfl,q⟩) (fun q=>q),hb.1.1,fun e=>hb.1.2 id j (o.trans e)⟩,rfl⟩
   refine⟨some b',⟨rfl,base,cap,e,g1,g2,g,.inr ⟨b',arr,e',rfl,(S.own id b' j o).resolve_right (fun q=>G b' q.1),by rw[k2];simp,K,by simpa using L,fun i y J=>?_⟩⟩,.inr ⟨⟨id,j,o⟩,rfl⟩⟩;obtain⟨us,M,N⟩:=Q i y J;exact⟨us,CR (w':=w) F _ _ _ M,N⟩
  cases m
 | nil=>
  rcases h with rfl |⟨t,rfl⟩ |⟨t,rfl⟩
  ·cases m
  ·cases m
  exact⟨none,⟨rfl,none,0,by rw[show v=_ from r];rfl,Nat.le_refl _,Nat.zero_le _,by simp,.inl ⟨rfl,rfl,rfl⟩⟩,.inl rfl⟩
 |int k n|bool b|fn f|sl t l=>rw[show d=_ from h] at m;cases m
 | _=>exact h.elim
theorem PR {I:Nat->Prop} (S:BR w0 X β s a w) (q:∀b,¬X.X b) (p:∀b,X.A b->I b\/w0.heap.size<=b) {bo:Option Nat} (g:bo=none\/∃id,live (AF s.bk) id/\β id=bo):∀{cs f:List AC} {vs:List Value},f.filter Ep=[]->(cs.filter HG≠[]->bo=none)->Aw (Di (AF s.bk)) cs f->f.all Bt=true->
  AY (Az (cx X w β (AF s.bk))) cs vs->AY (Cj (Yb I w0.heap.size w bo) w0.heap.size bo) f vs
 | [],[],[],_,_,_,_,_=>trivial
 | c::cs,d::f,v::vs,i,m,h3,j,n=>by
  simp only[List.all_cons,Bool.and_eq_true] at j
  have r:Ep d=false:=by
   cases h:Ep d with
   | false=>rfl
   | true=>rw[List.filter_cons,h] at i;simp at i
  refine⟨U4 S q p g r (fun k=>m (by rw[List.filter_cons,k];simp)) h3.1 (fun t o l e=>by subst e;simp[Bt,BD] at j) n.1,PR S q p g (by rw[List.filter_cons,r] at i;simpa using i) (fun k=>m (fun e=>k ?_)) h3.2 j.2 n.2⟩;rw[List.filter_cons] at e
  split at e
  ·cases e
  exact e
 |[],[],_::_,_,_,_,_,h|_::_,_::_,[],_,_,_,_,h|[],_::_,_,_,_,h,_,_|_::_,[],_,_,_,h,_,_=>h.elim
theorem U7 {I:Nat->Prop} (S:BR w0 X β s a w) (u:∀b,¬X.X b) (r:∀b,X.A b->I b\/w0.heap.size<=b):∀{cs g:List AC} {vs:List Value},(g.filter Ep).length<=1->((g.filter Ep).length=1->(cs.filter HG).length<=1)->Aw (Di (AF s.bk)) cs g->g.all Bt=true->
  AY (Az (cx X w β (AF s.bk))) cs vs->∃bo,AY (Cj (Yb I w0.heap.size w bo) w0.heap.size bo) g vs/\(bo=none\/((∃id,live (AF s.bk) id/\β id=bo)/\cs.filter HG≠[]))
 | [],[],[],_,_,_,_,_=>⟨none,trivial,.inl rfl⟩
 | c::cs,d::g,v::vs,k,j,h3,n,p=>by
  have z:=n;simp only[List.all_cons,Bool.and_eq_true] at n;cases x:Ep d with
  | true=>
   rw[List.filter_cons,x] at k j;simp only[if_true,List.length_cons] at k j;have i:g.filter Ep=[]:=List.eq_nil_of_length_eq_zero (by omega);obtain⟨bo,g1,g2⟩:=eB S u r x h3.1 p.1;refine⟨bo,⟨g1,PR S u r (g2.imp id fun q=>q.1) i (fun B=>?_) h3.2 n.2 p.2⟩,g2.imp id fun q=>⟨q.1,by rw[List.filter_cons,q.2];simp⟩⟩;rcases g2 with g2 |⟨_,g2⟩
   ·exact g2
   exfalso
   have:=j (by rw[i];rfl);rw[List.filter_cons,g2] at this;simp only[if_true,List.length_cons] at this;exact B (List.eq_nil_of_length_eq_zero (by omega))
  | false=>
   rw[List.filter_cons,x] at k j;simp only[Bool.false_eq_true,if_false] at k j;have C:∀t o l,d≠ .AT t 0 0 o l:=fun t o l e=>by subst e;simp[Bt,BD] at n
   by_cases y:(g.filter Ep).length=1
   ·have f:=j y
    have m:(cs.filter HG).length<=1:=by
     rw[List.filter_cons] at f
     split at f
     ·simp only[List.length_cons] at f;omega
     exact f
    obtain⟨bo,g1,g2⟩:=U7 S u r k (fun _=>m) h3.2 n.2 p.2;refine⟨bo,⟨U4 S u r (g2.imp id fun q=>q.1) x (fun D=>?_) h3.1 C p.1,g1⟩,g2.imp id fun q=>⟨q.1,fun e=>q.2 ?_⟩⟩
    ·rcases g2 with g2 |⟨_,g2⟩
     ·exact g2
     rw[List.filter_cons,D] at f;simp only[if_true,List.length_cons] at f;exact absurd (List.eq_nil_of_length_eq_zero (by omega)) g2
    rw[List.filter_cons] at e
    split at e
    ·cases e
    exact e
   have i:g.filter Ep=[]:=List.eq_nil_of_length_eq_zero (by omega);exact⟨none,PR S u r (.inl rfl) (by rw[List.filter_cons,x];simpa using i) (fun _=>rfl) h3 z p,.inl rfl⟩
 |[],[],_::_,_,_,_,_,h|_::_,_::_,[],_,_,_,_,h|[],_::_,_,_,_,h,_,_|_::_,[],_,_,_,h,_,_=>h.elim
end
end
end Go.Abs
namespace Go.Abs
open Go.RowKit
section
variable {P:Program} {TI:TypeId->Info}
section
variable {w0:World} {X:WX} {β:Nat->Option Nat} {s:St} {a:Act} {w:World}
theorem Mh (j:∀t,DI P t (TI t)) (S:BR w0 X β s a w):∀{rs:List ResultVar} {xs ys:List (Bool×List AC)},Gp TI s rs=some xs->Gn (AF s.bk) xs ys->
  ∃vs us,AY (fun r v=>(KX a.tmps r).run P w= .ok v w) rs vs/\AY (Az (cx X w β (AF s.bk))) (xs.flatMap (·.2)) us/\
   ∀(y:Cx) (lo:Nat) (bo:Option Nat),AY (Cj y lo bo) (ys.flatMap (·.2)) us->AY (fun z q=>Ey y lo bo (Cz z) q) ys vs
 | [],xs,ys,h,f=>by
  simp only[Gp,Option.some.injEq] at h;subst h;cases ys with
  | nil=>exact⟨[],[],trivial,trivial,fun _ _ _ _=>trivial⟩
  | cons _ _=>exact f.elim
 | r::rs,xs,ys,h,f=>by
  simp only[Gp] at h
  split at h
  ·rename_i b D p u
   obtain rfl:=Option.some.inj h;cases ys with
   | nil=>exact f.elim
   | cons b' ys=>
    obtain⟨⟨e,k⟩,f⟩:=f;obtain⟨v,us,g1,g2,n,o⟩:=eD j S p k;obtain⟨vs,i,k1,k2,B⟩:=Mh j S u f;refine⟨v::vs,us++i,⟨g1,k1⟩,by rw[List.flatMap_cons];exact g2.append k2,fun y lo bo d=>?_⟩;rw[List.flatMap_cons] at d;obtain⟨m1,m2,e',g,C⟩:=d.Oz
    have hlen:us.length=m1.length:=by
     rw[<-g2.length,<-g.length]
     have:∀{l m:List AC},Aw (Di (AF s.bk)) l m->l.length=m.length:=by
      intro l
      induction l with
      | nil=>intro m h;cases m <;> first | rfl | exact h.elim
      | cons x l A=>intro m h;cases m with
       | nil=>exact h.elim
       | cons y m=>simp[A h.2]
     exact this k
    obtain⟨rfl,rfl⟩:=List.append_inj e' hlen;refine⟨?_,B y lo bo C⟩;obtain⟨t,cs⟩:=b';simp only at e;cases t with
    | true=>exact⟨us.toArray,n e,by simpa using g⟩
    | false=>
     rcases o e with rfl | rfl
     ·cases cs with
      | nil=>exact .inl rfl
      | cons _ _=>exact g.elim
     cases cs with
     | nil=>exact g.elim
     | cons c cs=>exact .inr g.1
  cases h
end
theorem UF:∀(l m:List AV) (i:Nat),nth (l++m) i=if i<l.length then nth l i else nth m (i-l.length)
 | [],m,i=>by simp
 | x::l,m,0=>by simp[nth]
 | x::l,m,i+1=>by simp[nth,UF l m i]
theorem AY.nth {x:Cx}:∀{l:List AV} {vs:List Value} (i:Nat),AY (BQ x) l vs->i<l.length->BQ x (nth l i) (vs.getD i undef)
 | _::_,_::_,0,h,_=>by simpa [Abs.nth] using h.1
 | _::_,_::_,i+1,h,b=>by simpa [Abs.nth] using AY.nth i h.2 (by simpa using b)
 | [],[],_,_,b=>by simp at b
 |[],_::_,_,h,_|_::_,[],_,h,_=>h.elim
theorem MU {x y:Cx} (h:∀b,x.I b->y.I b/\y.w.heap[b]? =x.w.heap[b]?):∀{l:List AV} {vs:List Value},(l.all fun c=>match c with | .AE _=>false | c=>c.all BD)=true->AY (BQ x) l vs->AY (BQ y) l vs
 | [],[],_,_=>trivial
 | .one c::_,_::_,e,r=>by
  simp only[List.all_cons,Bool.and_eq_true] at e;exact⟨r.1.imp (fun q=>q) (KQ h e.1),MU h e.2 r.2⟩
 | .agg c::_,_::_,e,r=>by
  simp only[List.all_cons,Bool.and_eq_true] at e;obtain⟨arr,e',d⟩:=r.1;exact⟨⟨arr,e',AY.pure h e.1 d⟩,MU h e.2 r.2⟩
 | .AE _::_,_::_,e,_=>by simp at e
 |[],_::_,_,r|_::_,[],_,r=>r.elim
theorem BR.start {w:World} {X:WX} {args:List AV} {vs:List Value} {n:Nat} {b0:Option AM} (q:args.length<=n) (m:∀b,X.ob=some b->X.X b) (l:∀b,w.heap.size<=b->X.A b) (o:∀b,b0=some b->b.AW=0/\b.short/\0<n)
  (c:AY (BQ (cx X w (β0 X.ob) (AF (C4 n args b0).bk))) args vs) (hb:∀b,b0=some b->Ci (cx X w (β0 X.ob) (AF (C4 n args b0).bk)) 0 b):
  BR w X (β0 X.ob) (C4 n args b0) {tmps:=vs.toArray++Array.replicate (n-vs.toArray.size) undef,defers:=[]} w:=by
 have hlen:=c.length
 have d:∀id b,AF (C4 n args b0).bk id=some b->id=0/\b0=some b:=by
  intro id b h;cases n with
  | zero=>simp[C4,AF] at h
  | succ n=>
   cases id with
   | zero=>exact⟨rfl,h⟩
   | succ id=>
    have:AF (Fl n none) id=some b:=h;rw[Ou] at this;cases this
 refine⟨rfl,?_,?_,fun i=>?_,fun id b h=>?_,fun id p b ⟨_,f,_⟩ ⟨_,k,_⟩ _ _=>?_,fun id b ⟨_,f,_⟩ g=> .inr ?_,rfl,rfl,rfl,Nat.le_refl _,fun _ _ _=>rfl,fun id b h=>?_,l,fun _ _=>⟨rfl,fun b arr e _ he=>⟨arr,he,rfl⟩⟩⟩
 ·simp[C4,Ff];omega
 ·simp[C4];cases n with
  | zero=>simp;omega
  | succ n=>simp[Ff];omega
 ·show BQ _ (nth (args++_) i) _
  rw[UF]
  split
  ·rename_i j
   have:=c.nth i j
   have e:(vs.toArray++Array.replicate (n-vs.toArray.size) undef).getD i undef=vs.getD i undef:=by
    rw[Array.getD_eq_getD_getElem?,Array.getElem?_append_left (by simpa [<-hlen] using j)];simp[List.getD_eq_getElem?_getD]
   rw[e];exact this
  rw[Oq];exact HX _ _
 ·obtain⟨rfl,h'⟩:=d id b h;exact hb b h'
 ·rw[(d _ _ f).1,(d _ _ k).1]
 ·obtain⟨rfl,_⟩:=d _ _ f;exact⟨m b g,rfl⟩
 exact (o b (d id b h).2).2.1
def KP (args:List AV):Bool:=args.all fun c=>match c with | .AE _=>false | c=>c.all BD
structure Fn (P:Program) (TI:TypeId->Info) (f:FuncId) (n:Nat) (c:Code) (rs:List ResultVar):Prop where
 get : ∃ fn, P.funcs[f]? = some fn /\ (fn.name == "runtime.NumGoroutine") = false /\ fn.body = some c /\ fn.ntmps = n /\ fn.results.toList = rs
 dst:FX c=true
 ty:∀t,DI P t (TI t)
 mixed:P.follows .mixedOrders=true
theorem N5 {r:AV} {y:Cx} {lo:Nat} {bo:Option Nat} {vs:List Value} (b:vs.length=1↔∀ys,r≠ .AE ys) (h:AY (fun z q=>Ey y lo bo (Cz z) q) r.De vs):FP y lo bo r (Gi vs):=by
 cases r with
 | AE xs=>
  have:vs.length≠1:=fun e=>b.1 e xs rfl
  have e:Gi vs= .tuple vs.toArray:=by
   match vs,this with
   | [],_=>rfl
   | [_],h=>exact absurd rfl h
   | _::_::_,_=>rfl
  exact⟨vs.toArray,e,h⟩
 | one c=>
  match vs,h with
  | [v],h=>exact h.1
 | agg cs=>
  match vs,h with
  | [v],h=>exact h.1
theorem RD {f:FuncId} {n:Nat} {c:Code} {rs:List ResultVar} (F:Fn P TI f n c rs) {args:List AV} {r:AV} (R:KP args=true) (A:r.all Bt=true/\r.wf=true) (O:args.length<=n)
  (h:Cc (env P) TI n c (post TI rs r none) (C4 n args none)):FB P false f args r:=by
 obtain⟨fn,J,p,hb,t,B⟩:=F.get;refine⟨⟨fn,c,J,p,hb⟩,A,fun w I vs N j=>?_⟩;refine calls_of_wp J hb ?_
 have K:BR w ⟨fun _=>False,fun b=>I b\/w.heap.size<=b,none⟩ (β0 none) (C4 n args none) {tmps:=vs.toArray++Array.replicate (n-vs.toArray.size) undef,defers:=[]} w:=
  BR.start (X:=⟨fun _=>False,fun b=>I b\/w.heap.size<=b,none⟩) O (fun _ e=>by cases e) (fun b hb=> .inr hb) (fun b e=>by cases e)
   (MU (x:=C7 w I) (y:=cx ⟨fun _=>False,fun b=>I b\/w.heap.size<=b,none⟩ w (β0 none) (AF (C4 n args none).bk)) (fun b hb=>⟨⟨⟨N b hb,fun id _ e=>by simp[β0] at e⟩,.inl hb⟩,rfl⟩) R j) (fun b e=>by cases e)
 rw[t];refine wp_mono (EK F.mixed (fun o Q=>Pp F.ty o Q) F.dst (by simp[C4,Ff];omega) K h) fun e G w' he=>?_
 obtain⟨x,s',V,rfl,g,_,S⟩:=he
 have fin:post TI rs r none x s'->x≠ .exit 0/\(∀i,x≠ .exit i)->G.defers=[]/\∃v,(results fn G.tmps).run P w'= .ok v w'/\∃u bo,Ending.returned v= .returned u/\Below w.heap.size w w'/\
   FP (C7 w' fun b=>((false=false/\I b)\/w.heap.size<=b)/\b<w'.heap.size/\bo≠some b) w.heap.size bo r u:=by
  intro g T;refine⟨S.defers,?_⟩
  have z:∃xs,Gp TI s' rs=some xs/\Gn (AF s'.bk) xs r.De/\MP xs r.De=true/\(rs.length=1↔∀ys,r≠ .AE ys):=by
   unfold post at g
   split at g
   ·exact absurd rfl (T.2 _)
   split at g
   ·rename_i xs C
    exact⟨xs,C,g.1 ()⟩
   exact g.elim
  obtain⟨xs,L,H,h3,M⟩:=z;obtain⟨us,ws,k1,k2,U⟩:=Mh F.ty S L H
  have k:Aw (Di (AF s'.bk)) (xs.flatMap (·.2)) (r.De.flatMap (·.2)):=by
   have app:∀{l m l' m':List AC},Aw (Di (AF s'.bk)) l m->Aw (Di (AF s'.bk)) l' m'->Aw (Di (AF s'.bk)) (l++l') (m++m'):=by
    intro l
    induction l with
    | nil=>intro m l' m' h h';cases m <;> first | exact h' | exact h.elim
    | cons x l D=>intro m l' m' h h';cases m with
     | nil=>exact h.elim
     | cons y m=>exact⟨h.1,D h.2 h'⟩
   have:∀{l m:List (Bool×List AC)},Gn (AF s'.bk) l m->Aw (Di (AF s'.bk)) (l.flatMap (·.2)) (m.flatMap (·.2)):=by
    intro l
    induction l with
    | nil=>intro m h;cases m <;> first | trivial | exact h.elim
    | cons x l D=>intro m h;cases m with
     | nil=>exact h.elim
     | cons y m=>rw[List.flatMap_cons,List.flatMap_cons];exact app h.1.2 (D h.2)
   exact this H
  have q:(r.De.flatMap (·.2)).all Bt=true:=by
   cases r with
   |one c|agg cs=>simpa [AV.De,AV.comp,AV.all] using A.1
   | AE xs=>simp only[AV.De,List.all_flatMap];exact A.1
  have d:((r.De.flatMap (·.2)).filter Ep).length<=1/\(((r.De.flatMap (·.2)).filter Ep).length=1->((xs.flatMap (·.2)).filter HG).length<=1):=by
   unfold MP at h3
   split at h3
   ·rename_i e;rw[e];simp
   ·rename_i e;rw[e];simpa using h3
   cases h3
  obtain⟨bo,g1,_⟩:=U7 (I:=I) S (fun b h=>h) (fun b h=>h) d.1 d.2 k q k2;have hlen:us.length=rs.length:=k1.length.symm;refine⟨Gi us,PS (by rw[B];exact k1),Gi us,bo,rfl,⟨S.os,S.tape,S.output,S.size,fun b hb=>S.block b hb (fun h=>h)⟩,?_⟩;exact N5 (by rw[hlen];exact M) (U _ _ _ g1)
 cases x with
 |Ch|ret=>exact fin g ⟨by simp,by simp⟩
 | exit i=>exact g.elim
end
end Go.Abs
