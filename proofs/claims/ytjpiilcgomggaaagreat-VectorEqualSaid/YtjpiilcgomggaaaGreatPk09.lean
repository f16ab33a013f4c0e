/- Part 10 of a proof. Conditions: each theorem's own. -/
import Derived.Laws.Sem
import Derived.Test.YtjpiilcgomggaaaGreatPk08
set_option linter.all false
set_option maxHeartbeats 8000000
namespace Go.Abs
open Go.RowKit
section
variable {P:Program} {E:Env} {TI:TypeId->Info}
theorem aE {c:Code} {Q:Exit->Act->World->Prop} (I:Nat->Act->World->Prop) {k:Nat} {a:Act} {w:World} (m:I k a w)
  (round:∀k a w,I k a w->c.wp P (Exit.then (fun g w'=>∃k',k'<k/\I k' g w') Q) a w):(Code.loop c).wp P Q a w:=by
 have least:∀(a:Act) (w:World) (n:Nat),I n a w->∃k,I k a w/\∀j,I j a w->k<=j:=by
  intro a w n
  induction n using Nat.strongRecOn with
  | _ n r=>
   intro l
   by_cases h:∃j,j<n/\I j a w
   ·obtain⟨j,d,b⟩:=h;exact r j d b
   exact⟨n,l,fun j q=>Nat.le_of_not_lt fun i=>h ⟨j,i,q⟩⟩
 have⟨μ,f⟩:∃μ:Act->World->Nat,∀a w,(∃n,I n a w)->I (μ a w) a w/\∀j,I j a w->μ a w<=j:=by
  have:∀p:Act×World,∃k,(∃n,I n p.1 p.2)->I k p.1 p.2/\∀j,I j p.1 p.2->k<=j:=fun p=>by
   by_cases h:∃n,I n p.1 p.2
   ·obtain⟨n,l⟩:=h;obtain⟨k,d,b⟩:=least p.1 p.2 n l;exact⟨k,fun _=>⟨d,b⟩⟩
   exact⟨0,fun h'=>absurd h' h⟩
  exact⟨fun a w=>Classical.choose (this (a,w)),fun a w=>Classical.choose_spec (this (a,w))⟩
 refine wp_loop (fun a w=>∃n,I n a w) μ ⟨k,m⟩ fun a w o=>?_
 refine wp_mono (round _ a w (f a w o).1) fun e g w' he=>?_
 cases e with
 | normal=>obtain⟨k',d,b⟩:=he;exact⟨⟨k',b⟩,Nat.lt_of_le_of_lt ((f g w' ⟨k',b⟩).2 k' b) d⟩
 | _=>exact he
def Hb (s:St) (bs:List Nat) (k:Nat):AH:=match AD s.bk k with | some b=>if k==0&&b.AM !=0 then .dead 0 else Io (AD s.bk) bs b | none=> .dead 0
theorem Ic (s:St) (c:List Nat) (k:Nat):Hb s c k= .dead 0\/∃b,AD s.bk k=some b/\Hb s c k=Io (AD s.bk) c b/\(k=0->b.AM=0):=by
 unfold Hb
 split
 ·rename_i b d
  split
  ·exact .inl rfl
  rename_i h
  refine .inr ⟨b,d,rfl,fun e=>?_⟩;subst e;simpa using h
 exact .inl rfl
theorem X2 (bk:Nat->Option AH) (c:List Nat) (b:AH):(Io bk c b).AM=0:=by cases b <;> rfl
theorem X1 (bk:Nat->Option AH) (c:List Nat) (b:AH):(Io bk c b).live=b.live:=by cases b <;> rfl
theorem XS (s:St) (b:List Nat) (k:Nat) (r:List Nat):Cb s b (k::r)=Hb s b k::Cb s b r:=rfl
theorem RP (s:St) (b:List Nat):∀(f:List Nat) (l:List (Option AH)) (id:Nat),AD (Es f (Cb s b f) l) id=if id∈f/\id<l.length then some (Hb s b id) else AD l id
 | [],l,id=>by simp[Es,Cb]
 | k::r,l,id=>by
  rw[XS,Es,RP s b r,ET,Er]
  by_cases c:id<l.length
  ·by_cases g:id∈r
   ·simp[c,g]
   by_cases d:id=k
   ·subst d;simp[c,g]
   simp[c,g,d]
  by_cases d:id=k
  ·subst d;simp[c]
  simp[c,d]
theorem RO (s:St) (b:List Nat):∀(g:List Nat) (l:List AV) (i:Nat),nth (D1 g (Ck s b g) l) i=if i∈g/\i<l.length then Mp (AD s.bk) b (nth s.sl i) else nth l i
 | [],l,i=>by simp[D1,Ck]
 | k::r,l,i=>by
  rw[Ck,D1,RO s b r,ET,Gn]
  by_cases c:i<l.length
  ·by_cases f:i∈r
   ·simp[c,f]
   by_cases d:i=k
   ·subst d;simp[c,f]
   simp[c,f,d]
  by_cases d:i=k
  ·subst d;simp[c]
  simp[c,d]
theorem Qt:∀(d:List Nat) (c:List AH) (l:List (Option AH)),(Es d c l).length=l.length
 |[],_,_|_::_,[],_=>by simp[Es]
 | k::r,b::c,l=>by rw[Es,Qt r,ET]
theorem Ig:∀(c:List Nat) (d:List AV) (l:List AV),(D1 c d l).length=l.length
 |[],_,_|_::_,[],_=>by simp[D1]
 | k::r,b::f,l=>by rw[D1,Ig r,ET]
theorem En {α:Type}:∀(n:Nat) (x:α),(Et n x).length=n
 | 0,_=>rfl
 | n+1,x=>by simp[Et,En n x]
theorem Mt:∀(n i:Nat),AD (Et n none) i=none
 |0,_|n+1,0=>rfl
 | n+1,i+1=>Mt n i
theorem Mr:∀(n i:Nat),nth (Et n (.one .A4)) i= .one .A4
 |0,_|n+1,0=>rfl
 | n+1,i+1=>Mr n i
theorem RJ {x y:Cx} {bk:Nat->Option AH} {j:List Nat} (hw:y.w=x.w) (d:y.β=x.β) (hx:x.cv=AM bk) (q:∀id,y.cv id=0) (f:∀b,x.I b->y.I b):∀{c:AC} {v:Value},Af x c v->Af y (GJ bk j c) v
 |.A4,_,r|.int _ _,_,r|.bool _,_,r|.fn _,_,r|.nil,_,r=>r
 | .sl _ _,_,r=>Bi (fun b g=>⟨f b g,by rw[hw]⟩) _ _ _ r
 | .AL t id v off len,u,r=>by
  simp only[GJ]
  split
  ·rename_i h
   simp only[Bool.and_eq_true,beq_iff_eq] at h;have:=r.2 (by rw[hx];exact h.2.symm);exact⟨⟨r.1.1,Nat.zero_le _⟩,fun _=>by rw[hw,d];exact this⟩
  exact r.1.1
 | .CD _ _ _ _ _,_,r=>r.1.1
 | .An id v off,u,r=>by
  simp only[GJ]
  split
  ·rename_i h
   simp only[Bool.and_eq_true,beq_iff_eq] at h;have:=r.2 (by rw[hx];exact h.2.symm);exact⟨⟨r.1.1,Nat.zero_le _⟩,fun _=>by rw[d];exact this⟩
  exact r.1.1
 | .Bv t id v i k,u,r=>by
  simp only[GJ]
  split
  ·rename_i h
   simp only[Bool.and_eq_true,beq_iff_eq] at h;have:=r.2 (by rw[hx];exact h.2.symm);exact⟨⟨r.1.1,Nat.zero_le _⟩,fun _=>by rw[d];exact this⟩
  exact r.1.1
 | .ub _,_,h=>h
 | .CN t z off,_,⟨b,o,us,l,m,n,p⟩=>⟨b,o,us,l,f b m,Bi (fun b g=>⟨f b g,by rw[hw]⟩) _ _ _ n,by rw[hw];exact p⟩
 | .own _ _ _,_,r=>r.elim
theorem AO.norm {x y:Cx} {bk:Nat->Option AH} {g:List Nat} (hw:y.w=x.w) (c:y.β=x.β) (hx:x.cv=AM bk) (f:∀id,y.cv id=0) (d:∀b,x.I b->y.I b):∀{cs:List AC} {us:List Value},AO (Af x) cs us->AO (Af y) (cs.map (GJ bk g)) us
 | [],[],_=>trivial
 | _::_,_::_,h=>⟨RJ hw c hx f d h.1,AO.norm hw c hx f d h.2⟩
 |[],_::_,h|_::_,[],h=>h.elim
theorem X3 {x y:Cx} {bk:Nat->Option AH} {i:List Nat} (hw:y.w=x.w) (d:y.β=x.β) (hx:x.cv=AM bk) (g:∀id,y.cv id=0) (f:∀b,x.I b->y.I b) {a:AV} {v:Value} (h:At x a v):At y (Mp bk i a) v:=by
 cases a with
 | one c=>
  rcases h with rfl | h
  ·exact .inl rfl
  exact .inr (RJ hw d hx g f h)
 | agg cs=>obtain⟨arr,e,h⟩:=h;exact⟨arr,e,AO.norm hw d hx g f h⟩
 | AG _=>exact .inl rfl
theorem Aw.head {w0:World} {X:WX} {β:Nat->Option Nat} {s:St} {a:Act} {w:World} (S:Aw w0 X β s a w) {n:Nat} (C:s.sl.length=n) (j c:List Nat):Aw w0 X β (Eo n j (Ck s c j) c (Cb s c c)) a w:=by
 have m:∀id b,AD (Eo n j (Ck s c j) c (Cb s c c)).bk id=some b->b=Hb s c id:=fun id b h=>by
  have h:AD (Es c (Cb s c c) (Et n none)) id=some b:=h;rw[RP,Mt] at h
  split at h
  ·exact (Option.some.inj h).symm
  cases h
 have o:∀id,AM (AD (Eo n j (Ck s c j) c (Cb s c c)).bk) id=0:=fun id=>by
  unfold AM
  split
  ·rename_i b f
   rw[m id b f];rcases Ic s c id with h |⟨b',_,h,_⟩ <;> rw[h]
   ·rfl
   exact X2 _ _ _
  rfl
 have d:∀id,live (AD (Eo n j (Ck s c j) c (Cb s c c)).bk) id->live (AD s.bk) id:=fun id ⟨b,f,k⟩=>by
  have:=m id b f;subst this;rcases Ic s c id with h |⟨b',g,h,_⟩ <;> rw[h] at k
  ·cases k
  rw[X1] at k;exact⟨b',g,k⟩
 have z:∀b,(cx X w β (AD s.bk)).I b->(cx X w β (AD (Eo n j (Ck s c j) c (Cb s c c)).bk)).I b:=fun b f=>⟨⟨f.1.1,fun id k=>f.1.2 id (d id k)⟩,f.2⟩
 refine⟨S.defers,?_,?_,fun i=>?_,fun id b f=>?_,fun id B b p u=>S.inj id B b (d _ p) (d _ u),fun id b p=>S.own id b (d _ p),S.os,S.tape,S.output,S.size,S.block,fun id b f=>?_,S.fresh,fun k _=>?_⟩
 ·show (D1 _ _ _).length=_
  rw[Ig,En,<-C];exact S.len
 ·show (Es _ _ _).length=_
  rw[Qt,En,<-C];exact S.len
 ·show At _ (nth (D1 _ _ _) i) _
  rw[RO,Mr]
  split
  ·exact X3 (x:=cx X w β (AD s.bk)) (y:=cx X w β (AD (Eo n j (Ck s c j) c (Cb s c c)).bk)) rfl rfl rfl o z (S.BS i)
  exact GU _ _
 ·have:=m id b f;subst this;rcases Ic s c id with h |⟨b',g,h,_⟩ <;> rw[h]
  ·trivial
  have r:=S.blocks id b' g;cases b' with
  | dead _=>trivial
  | var _ cs=>obtain⟨b,arr,e,p,u,v⟩:=r;exact⟨b,arr,e,p,u,AO.norm (x:=cx X w β (AD s.bk)) (y:=cx X w β (AD (Eo n j (Ck s c j) c (Cb s c c)).bk)) rfl rfl rfl o z v⟩
  | arr _ t l=>
   refine r.imp (fun q=>q) fun⟨b,arr,e,p,u,v⟩=>⟨b,arr,e,p,u,fun i y F=>?_⟩
   obtain⟨us,G,H⟩:=v i y F;exact⟨us,Bi (w':=w) (fun b f=>⟨z b f,rfl⟩) _ _ _ G,H⟩
 ·have:=m id b f;subst this;rcases Ic s c id with h |⟨b',g,h,_⟩ <;> rw[h]
  ·trivial
  have:=S.lens id b' g;cases b' <;> exact this
 have A:=d 0 k;obtain⟨b,f,k⟩:=k;have:=m 0 b f;subst this;rcases Ic s c 0 with h |⟨b',g,h,D⟩ <;> rw[h] at k
 ·cases k
 exact S.HV A (by unfold AM;rw[g];exact D rfl)
def Eh:Code->Bool
 | .region _ ops _=>ops.toList.all Jr
 |.seq a b|.cond _ a b=>Eh a&&Eh b
 |.block _ c|.loop c=>Eh c
 | _=>true
def Zu:AX->Exit
 | .Bw=> .normal
 | .exit n=> .exit n
 | .ret=> .ret
def GZ (w0:World) (X:WX) (n:Nat) (Q:AX->St->Prop) (e:Exit) (a:Act) (w:World):Prop:=
 ∃x s β,e=Zu x/\Q x s/\s.sl.length=n/\Aw w0 X β s a w
theorem DQ (hm:P.follows .mixedOrders=true) (p:∀o,Jr o=true->Sound P E TI o) {n:Nat} {w0:World} {X:WX}:∀{c:Code} {Q:AX->St->Prop} {β:Nat->Option Nat} {s:St} {a:Act} {w:World},Eh c=true->s.sl.length=n->Aw w0 X β s a w->B1 E TI n c Q s->
  c.wp P (GZ w0 X n Q) a w
 | .skip,Q,β,s,a,w,_,j,S,h=>wp_skip ⟨.Bw,s,β,rfl,h,j,S⟩
 | .exit i,Q,β,s,a,w,_,j,S,h=>wp_exit ⟨.exit i,s,β,rfl,h,j,S⟩
 | .ret,Q,β,s,a,w,_,j,S,h=>wp_ret ⟨.ret,s,β,rfl,h,j,S⟩
 | .region id ops draw,Q,β,s,a,w,m,j,S,h=>
  Yc hm (fun o L=>p o (List.all_eq_true.1 m o L)) S h fun s' v H d t w' l=>⟨.Bw,s',d,rfl,v,by rw[H];exact j,l⟩
 | .seq x y,Q,β,s,a,w,m,j,S,h=>by
  simp only[Eh,Bool.and_eq_true] at m;refine wp_seq (wp_mono (DQ hm p m.1 j S h) fun e t w' he=>?_);obtain⟨A,s',d,rfl,g,f,l⟩:=he;cases A with
  | Bw=>exact DQ hm p m.2 f l g
  | exit i=>exact⟨.exit i,s',d,rfl,g,f,l⟩
  | ret=>exact⟨.ret,s',d,rfl,g,f,l⟩
 | .cond c x y,Q,β,s,a,w,m,j,S,h=>by
  simp only[Eh,Bool.and_eq_true] at m;have r:=Bm S.BS c
  have plain:(match ev s.sl c with | .one (.bool true)=>B1 E TI n x Q s | .one (.bool false)=>B1 E TI n y Q s | .one (.ub u)=>(u=true->B1 E TI n x Q s)/\B1 E TI n y Q s | _=>False)->(Code.cond c x y).wp P (GZ w0 X n Q) a w:=by
   intro h
   split at h
   ·rename_i he
    rw[he] at r;exact wp_cond_true (A0 r (by simp)) (DQ hm p m.1 j S h)
   ·rename_i he
    rw[he] at r;exact wp_cond_false (A0 r (by simp)) (DQ hm p m.2 j S h)
   ·rename_i u he
    rw[he] at r;obtain⟨b,D,B⟩:=A0 r (by simp);cases b with
    | true=>exact wp_cond_true D (DQ hm p m.1 j S (h.1 (B rfl)))
    | false=>exact wp_cond_false D (DQ hm p m.2 j S h.2)
   exact h.elim
  simp only[B1] at h
  split at h
  ·rcases h with⟨z,q,J,C,h⟩ | h
   ·have fin:∀e t w',GZ w0 X n (fun e s'=>match e with | .Bw=>J (Ck s' q z) (Cb s' q q) | .exit i=>Q (.exit i) s' | .ret=>Q .ret s') e t w'->GZ w0 X n Q e t w':=by
     rintro e t w' ⟨A,s',d,rfl,g,f,l⟩;cases A with
     | Bw=>exact⟨.Bw,_,d,rfl,C _ _ g,by show (D1 _ _ _).length=_;rw[Ig,En],l.head f z q⟩
     | exit i=>exact⟨.exit i,s',d,rfl,g,f,l⟩
     | ret=>exact⟨.ret,s',d,rfl,g,f,l⟩
    split at h
    ·rename_i he
     rw[he] at r;exact wp_cond_true (A0 r (by simp)) (wp_mono (DQ hm p m.1 j S h) fin)
    ·rename_i he
     rw[he] at r;exact wp_cond_false (A0 r (by simp)) (wp_mono (DQ hm p m.2 j S h) fin)
    ·rename_i u he
     rw[he] at r;obtain⟨b,D,B⟩:=A0 r (by simp);cases b with
     | true=>exact wp_cond_true D (wp_mono (DQ hm p m.1 j S (h.1 (B rfl))) fin)
     | false=>exact wp_cond_false D (wp_mono (DQ hm p m.2 j S h.2) fin)
    exact h.elim
   exact plain h
  exact plain h
 | .block id c,Q,β,s,a,w,m,j,S,h=>by
  rcases h with⟨z,q,J,C,h⟩ | h
  ·refine wp_block (wp_mono (DQ hm p (c:=c) m j S h) fun e t w' he=>?_);obtain⟨A,s',d,rfl,g,f,l⟩:=he
   have fin:J (Ck s' q z) (Cb s' q q)->GZ w0 X n Q .normal t w':=fun g=>
    ⟨.Bw,_,d,rfl,C _ _ g,by show (D1 _ _ _).length=_;rw[Ig,En],l.head f z q⟩
   cases A with
   | Bw=>exact fin g
   | exit i=>
    show Exit.inBlock id (GZ w0 X n Q) (.exit i) t w'
    simp only[Exit.inBlock];simp only at g
    split
    ·rename_i v;rw[if_pos v] at g;exact fin g
    rename_i v;rw[if_neg v] at g;exact⟨.exit i,s',d,rfl,g,f,l⟩
   | ret=>exact⟨.ret,s',d,rfl,g,f,l⟩
  refine wp_block (wp_mono (DQ hm p (c:=c) m j S h) fun e t w' he=>?_);obtain⟨A,s',d,rfl,g,f,l⟩:=he;cases A with
  | Bw=>exact⟨.Bw,s',d,rfl,g,f,l⟩
  | exit i=>
   show Exit.inBlock id (GZ w0 X n Q) (.exit i) t w'
   simp only[Exit.inBlock];simp only at g
   split
   ·rename_i v;rw[if_pos v] at g;exact⟨.Bw,s',d,rfl,g,f,l⟩
   rename_i v;rw[if_neg v] at g;exact⟨.exit i,s',d,rfl,g,f,l⟩
  | ret=>exact⟨.ret,s',d,rfl,g,f,l⟩
 | .loop c,Q,β,s,a,w,m,j,S,h=>by
  obtain⟨z,q,J,⟨k0,I⟩,M⟩:=h;refine aE (fun k a w=>∃G F β,J G F k/\Aw w0 X β (Eo n z G q F) a w) ⟨_,_,β,I,S.head j z q⟩ fun k a w K=>?_
  obtain⟨G,F,β,C,S⟩:=K;refine wp_mono (DQ hm p (c:=c) m (by show (D1 _ _ _).length=_;rw[Ig,En]) S (M G F k C)) fun e t w' he=>?_
  obtain⟨A,s',d,rfl,g,f,l⟩:=he;cases A with
  | Bw=>obtain⟨k',v,H⟩:=g;exact⟨k',v,_,_,d,H,l.head f z q⟩
  | exit i=>exact⟨.exit i,s',d,rfl,g,f,l⟩
  | ret=>exact⟨.ret,s',d,rfl,g,f,l⟩
 |.rangeFunc _ _ _ _,_,_,_,_,_,_,_,_,h|.scope _,_,_,_,_,_,_,_,_,h|.label _,_,_,_,_,_,_,_,_,h|.goto _,_,_,_,_,_,_,_,_,h|.refuse _,_,_,_,_,_,_,_,_,h=>h.elim
end
end Go.Abs
namespace Go.Abs
open Go.RowKit
section
variable {P:Program} {TI:TypeId->Info}
def I0 (tmps:Array Value):ResultVar->Sem Value
 | .tmp t=>pure (tmps.getD t undef)
 | .cell a t=>do loadVar t (<-asAddr (tmps.getD a undef))
theorem Q3 {w:World} {f:ResultVar->Sem Value}:∀{l:List ResultVar} {b:List Value},AO (fun r v=>(f r).run P w= .ok v w) l b->(l.mapM f).run P w= .ok b w
 | [],[],_=>by simp
 | r::l,v::b,h=>by
  rw[List.mapM_cons];simp[Sem.run_bind,h.1,Q3 h.2]
 |[],_::_,h|_::_,[],h=>h.elim
def Fg:List Value->Value
 | [v]=>v
 | vs=> .tuple vs.toArray
theorem NI {fn:Func} {tmps:Array Value} {w:World} {b:List Value} (h:AO (fun r v=>(I0 tmps r).run P w= .ok v w) fn.results.toList b):(results fn tmps).run P w= .ok (Fg b) w:=by
 have e:results fn tmps=(do let b <-fn.results.mapM (I0 tmps);pure (if h:b.size=1 then b[0] else .tuple b)):=by
  unfold results
  congr 1
 rw[e,Array.mapM_eq_mapM_toList];simp only[Sem.run_bind,map_eq_pure_bind,Q3 h,Result.andThen_ok,Sem.run_pure]
 congr 1
 match b with
 |[]|[v]|_::_::_=>rfl
section
variable {w0:World} {X:WX} {β:Nat->Option Nat} {s:St} {a:Act} {w:World}
theorem Yk (hT:∀t,Ce P t (TI t)) (S:Aw w0 X β s a w) {r:ResultVar} {b b':Bool×List AC} (h:Kp TI s r=some b) (m:Ae (Cz (AD s.bk)) b.2 b'.2):
  ∃v us,(I0 a.tmps r).run P w= .ok v w/\AO (Af (cx X w β (AD s.bk))) b.2 us/\(b.1=true->v= .agg us.toArray)/\(b.1=false->us=[]\/us=[v]):=by
 cases r with
 | tmp t=>
  simp only[Kp,Option.some.injEq] at h;subst h;have f:=S.BS t
  generalize M:nth s.sl t=g at m f
  cases g with
  | one c=>
   have o:c≠ .A4:=by
    rintro rfl;cases b' with
    | mk x y=>cases y with
     | nil=>exact m.elim
     | cons _ _=>exact m.1.elim
   exact⟨_,[a.tmps.getD t undef],rfl,⟨A0 f o,trivial⟩,fun e=>by simp[AV.comp] at e,fun _=> .inr rfl⟩
  | agg cs=>
   obtain⟨arr,e,f⟩:=f;exact⟨_,arr.toList,rfl,f,fun _=>by rw[e],fun e=>by simp[AV.comp] at e⟩
  | AG _=>exact⟨_,[],rfl,trivial,fun e=>by simp[AV.comp] at e,fun _=> .inl rfl⟩
 | cell q t=>
  simp only[Kp] at h;have f:=S.BS q
  split at h
  ·rename_i id v off he
   rw[he] at f;have f:=A0 f (by simp)
   split at h
   ·rename_i N cs A
    split at h
    ·rename_i d
     simp only[Bool.and_eq_true,beq_iff_eq] at d;obtain⟨⟨B,z⟩,hlen⟩:=d;obtain⟨D,arr,e,F,G,H⟩:=S.blocks id _ A;have L:v=AM (AD s.bk) id:=by unfold AM;rw[A];exact z.symm
     obtain⟨b1,l,K⟩:=f.2 L;obtain rfl:D=b1:=Option.some.inj (F.symm.trans l)
     have i:AO (Af (cx X w β (AD s.bk))) (Dk cs off (TI t).size) ((arr.toList.drop off).take (TI t).size):=by
      rw[Hw];exact (H.drop off).take _
     have C:=i.length;have k:=run_load (hT t) B (Ru G (off:=off) (n:=(TI t).size)) (by rw[<-C];exact hlen);obtain rfl:=Option.some.inj h;have p:(TI t).agg=false->(TI t).size=1:=by obtain⟨_,_,_,_,_,_,_,_,_,I⟩:=(hT t).info B;exact I
     refine⟨valOf (TI t).agg ((arr.toList.drop off).take (TI t).size),_,?_,i,fun e=>?_,fun e=>?_⟩
     ·refine Eq.trans ?_ k;simp only[I0,K,asAddr,Instr.loadAt,Instr.sureAddr]
      rfl
     ·rw[show (TI t).agg=true from e];rfl
     right
     have J:=p e;rw[show (TI t).agg=false from e];have j:((arr.toList.drop off).take (TI t).size).length=1:=by rw[<-C,hlen];exact J
     generalize (arr.toList.drop off).take (TI t).size=us at j
     match us,j with
     | [u],_=>rfl
    cases h
   cases h
  cases h
end
section
variable {w0:World} {X:WX} {β:Nat->Option Nat} {s:St} {a:Act} {w:World}
def Yb (I:Nat->Prop) (lo:Nat) (w:World) (bo:Option Nat):Cx:=CM w fun b=>((false=false/\I b)\/lo<=b)/\b<w.heap.size/\bo≠some b
theorem R3 {I:Nat->Prop} (S:Aw w0 X β s a w) (R:∀b,¬X.X b) (hA:∀b,X.A b->I b\/w0.heap.size<=b) {bo:Option Nat} (B:bo=none\/∃id,live (AD s.bk) id/\β id=bo) {c d:AC} {v:Value} (M:Dw d=false) (U:GF c=true->bo=none) (h:Cz (AD s.bk) c d) (Q:∀t o l,d≠ .AL t 0 0 o l)
  (r:Af (cx X w β (AD s.bk)) c v):By (Yb I w0.heap.size w bo) w0.heap.size bo d v:=by
 have L:∀b,(cx X w β (AD s.bk)).I b->(Yb I w0.heap.size w bo).I b/\w.heap[b]? =w.heap[b]? :=fun b x=>
  ⟨⟨(hA b x.2).imp (fun q=>⟨rfl,q⟩) id,x.1.1,fun e=>by
   rcases B with h' |⟨id,g,K⟩
   ·rw[h'] at e;cases e
   exact x.1.2 id g (K.trans e)⟩,rfl⟩
 cases c with
 | AL t id j off len=>
  rcases h with⟨l,g,K,rfl⟩ |⟨l,n,_,_,_,_,_,rfl⟩ |⟨_,_,rfl⟩
  ·have z:=U rfl;subst z;have V:j=AM (AD s.bk) id:=by rw[DZ g];rfl
   obtain⟨base,cap,e,g1,g2,_,J⟩:=r.2 V;have hlen:((l.drop off).take len).length=len:=by simp;omega
   have m:l.length<=140737488355328:=S.lens id _ g;refine⟨base,cap,by rw[hlen,e],by rw[hlen];exact g1,by rw[hlen];omega,?_⟩;rcases J with J |⟨b,arr,e',k1,k2,k3,k4⟩
   ·left;exact List.eq_nil_of_length_eq_zero (by rw[hlen];omega)
   have F:=S.blocks id _ g;rcases F with⟨u,N⟩ |⟨b',H,O,u,N,Z⟩
   ·exact absurd (u.symm.trans k1) (by simp)
   obtain rfl:b'=b:=Option.some.inj (u.symm.trans k1);have D:live (AD s.bk) id:=⟨_,g,rfl⟩
   have C:b'<w.heap.size:=by
    rcases Nat.lt_or_ge b' w.heap.size with h' | h'
    ·exact h'
    have G:w.heap[b']? =_:=N;simp[Array.getElem?_eq_none h'] at G
   refine .inr ⟨b',_,k2,⟨.inr ((S.own id b' D u).resolve_right (fun q=>R b' q.1)),C,by simp⟩,fun i y p=>?_⟩
   have T:l[off+i]? =some y:=by
    rw[List.getElem?_take] at p
    split at p
    ·simpa using p
    cases p
   obtain⟨us,W,Y⟩:=Z (off+i) y T;exact⟨us,Bi (w':=w) L _ _ _ W,by rw[show off*t.size+i*t.size=(off+i)*t.size by rw[Nat.add_mul]];exact Y⟩
  ·cases M
  exact absurd rfl (Q t off len)
 | nil=>
  rcases h with rfl |⟨t,rfl⟩ |⟨t,rfl⟩
  ·exact r
  ·exact⟨none,0,by rw[show v=_ from r];rfl,Nat.le_refl _,by simp,.inl rfl⟩
  cases M
 |int k n|bool b|fn f=>rw[show d=_ from h];exact r
 | sl t l=>rw[show d=_ from h];exact Bi (w':=w) L _ _ _ r
 | _=>exact h.elim
theorem Yi {I:Nat->Prop} (S:Aw w0 X β s a w) (G:∀b,¬X.X b) (hA:∀b,X.A b->I b\/w0.heap.size<=b) {c d:AC} {v:Value} (m:Dw d=true) (h:Cz (AD s.bk) c d)
  (r:Af (cx X w β (AD s.bk)) c v):∃bo,By (Yb I w0.heap.size w bo) w0.heap.size bo d v/\(bo=none\/((∃id,live (AD s.bk) id/\β id=bo)/\GF c=true)):=by
 cases c with
 | AL t id u off len=>
  rcases h with⟨l,p,R,rfl⟩ |⟨l,n,_,p,rfl,rfl,rfl,rfl⟩ |⟨_,_,rfl⟩
  ·cases m
  ·have H:u=AM (AD s.bk) id:=by rw[DZ p];rfl
   obtain⟨base,cap,e,g1,g2,_,D⟩:=r.2 H;have g:l.length<=140737488355328:=S.lens id _ p;have j:live (AD s.bk) id:=⟨_,p,rfl⟩;rcases D with rfl |⟨b,arr,e',k1,k2,K,L⟩
   ·exact⟨none,⟨rfl,base,0,e,g1,g2,g,.inl ⟨rfl,List.eq_nil_of_length_eq_zero (by omega),rfl⟩⟩,.inl rfl⟩
   have z:=S.blocks id _ p;rcases z with⟨o,O⟩ |⟨b',B,C,o,O,Q⟩
   ·exact absurd (o.symm.trans k1) (by simp)
   obtain rfl:b'=b:=Option.some.inj (o.symm.trans k1)
   have F:∀b,(cx X w β (AD s.bk)).I b->(Yb I w0.heap.size w (some b')).I b/\w.heap[b]? =w.heap[b]? :=fun b x=>
    ⟨⟨(hA b x.2).imp (fun q=>⟨rfl,q⟩) (fun q=>q),x.1.1,fun e=>x.1.2 id j (o.trans e)⟩,rfl⟩
   refine⟨some b',⟨rfl,base,cap,e,g1,g2,g,.inr ⟨b',arr,e',rfl,(S.own id b' j o).resolve_right (fun q=>G b' q.1),by rw[k2];simp,K,by simpa using L,fun i y J=>?_⟩⟩,.inr ⟨⟨id,j,o⟩,rfl⟩⟩;obtain⟨us,M,N⟩:=Q i y J;exact⟨us,Bi (w':=w) F _ _ _ M,N⟩
  cases m
 | nil=>
  rcases h with rfl |⟨t,rfl⟩ |⟨t,rfl⟩
  ·cases m
  ·cases m
  exact⟨none,⟨rfl,none,0,by rw[show v=_ from r];rfl,Nat.le_refl _,Nat.zero_le _,by simp,.inl ⟨rfl,rfl,rfl⟩⟩,.inl rfl⟩
 |int k n|bool b|fn f|sl t l=>rw[show d=_ from h] at m;cases m
 | _=>exact h.elim
theorem NH {I:Nat->Prop} (S:Aw w0 X β s a w) (r:∀b,¬X.X b) (hA:∀b,X.A b->I b\/w0.heap.size<=b) {bo:Option Nat} (g:bo=none\/∃id,live (AD s.bk) id/\β id=bo):∀{cs f:List AC} {m:List Value},f.filter Dw=[]->(cs.filter GF≠[]->bo=none)->Ae (Cz (AD s.bk)) cs f->f.all BR=true->
  AO (Af (cx X w β (AD s.bk))) cs m->AO (By (Yb I w0.heap.size w bo) w0.heap.size bo) f m
 | [],[],[],_,_,_,_,_=>trivial
 | c::cs,d::f,v::m,i,n,p,j,q=>by
  simp only[List.all_cons,Bool.and_eq_true] at j
  have u:Dw d=false:=by
   cases h:Dw d with
   | false=>rfl
   | true=>rw[List.filter_cons,h] at i;simp at i
  refine⟨R3 S r hA g u (fun k=>n (by rw[List.filter_cons,k];simp)) p.1 (fun t o l e=>by subst e;simp[BR,Ah] at j) q.1,NH S r hA g (by rw[List.filter_cons,u] at i;simpa using i) (fun k=>n (fun e=>k ?_)) p.2 j.2 q.2⟩;rw[List.filter_cons] at e
  split at e
  ·cases e
  exact e
 |[],[],_::_,_,_,_,_,h|_::_,_::_,[],_,_,_,_,h|[],_::_,_,_,_,h,_,_|_::_,[],_,_,_,h,_,_=>h.elim
theorem R6 {I:Nat->Prop} (S:Aw w0 X β s a w) (u:∀b,¬X.X b) (hA:∀b,X.A b->I b\/w0.heap.size<=b):∀{cs g:List AC} {C:List Value},(g.filter Dw).length<=1->((g.filter Dw).length=1->(cs.filter GF).length<=1)->Ae (Cz (AD s.bk)) cs g->g.all BR=true->
  AO (Af (cx X w β (AD s.bk))) cs C->∃bo,AO (By (Yb I w0.heap.size w bo) w0.heap.size bo) g C/\(bo=none\/((∃id,live (AD s.bk) id/\β id=bo)/\cs.filter GF≠[]))
 | [],[],[],_,_,_,_,_=>⟨none,trivial,.inl rfl⟩
 | c::cs,d::g,v::C,k,j,n,p,r=>by
  have z:=p;simp only[List.all_cons,Bool.and_eq_true] at p;cases x:Dw d with
  | true=>
   rw[List.filter_cons,x] at k j;simp only[if_true,List.length_cons] at k j;have i:g.filter Dw=[]:=List.eq_nil_of_length_eq_zero (by omega);obtain⟨bo,g1,g2⟩:=Yi S u hA x n.1 r.1;refine⟨bo,⟨g1,NH S u hA (g2.imp id fun q=>q.1) i (fun B=>?_) n.2 p.2 r.2⟩,g2.imp id fun q=>⟨q.1,by rw[List.filter_cons,q.2];simp⟩⟩;rcases g2 with g2 |⟨_,g2⟩
   ·exact g2
   exfalso
   have:=j (by rw[i];rfl);rw[List.filter_cons,g2] at this;simp only[if_true,List.length_cons] at this;exact B (List.eq_nil_of_length_eq_zero (by omega))
  | false=>
   rw[List.filter_cons,x] at k j;simp only[Bool.false_eq_true,if_false] at k j;have D:∀t o l,d≠ .AL t 0 0 o l:=fun t o l e=>by subst e;simp[BR,Ah] at p
   by_cases y:(g.filter Dw).length=1
   ·have f:=j y
    have m:(cs.filter GF).length<=1:=by
     rw[List.filter_cons] at f
     split at f
     ·simp only[List.length_cons] at f;omega
     exact f
    obtain⟨bo,g1,g2⟩:=R6 S u hA k (fun _=>m) n.2 p.2 r.2;refine⟨bo,⟨R3 S u hA (g2.imp id fun q=>q.1) x (fun F=>?_) n.1 D r.1,g1⟩,g2.imp id fun q=>⟨q.1,fun e=>q.2 ?_⟩⟩
    ·rcases g2 with g2 |⟨_,g2⟩
     ·exact g2
     rw[List.filter_cons,F] at f;simp only[if_true,List.length_cons] at f;exact absurd (List.eq_nil_of_length_eq_zero (by omega)) g2
    rw[List.filter_cons] at e
    split at e
    ·cases e
    exact e
   have i:g.filter Dw=[]:=List.eq_nil_of_length_eq_zero (by omega);exact⟨none,NH S u hA (.inl rfl) (by rw[List.filter_cons,x];simpa using i) (fun _=>rfl) n z r,.inl rfl⟩
 |[],[],_::_,_,_,_,_,h|_::_,_::_,[],_,_,_,_,h|[],_::_,_,_,_,h,_,_|_::_,[],_,_,_,h,_,_=>h.elim
end
end
end Go.Abs
namespace Go.Abs
open Go.RowKit
section
variable {P:Program} {TI:TypeId->Info}
section
variable {w0:World} {X:WX} {β:Nat->Option Nat} {s:St} {a:Act} {w:World}
theorem Kq (hT:∀t,Ce P t (TI t)) (S:Aw w0 X β s a w):∀{rs:List ResultVar} {xs ys:List (Bool×List AC)},Fm TI s rs=some xs->Fl (AD s.bk) xs ys->
  ∃i us,AO (fun r v=>(I0 a.tmps r).run P w= .ok v w) rs i/\AO (Af (cx X w β (AD s.bk))) (xs.flatMap (·.2)) us/\
   ∀(y:Cx) (lo:Nat) (bo:Option Nat),AO (By y lo bo) (ys.flatMap (·.2)) us->AO (fun z q=>D4 y lo bo (CE z) q) ys i
 | [],xs,ys,h,f=>by
  simp only[Fm,Option.some.injEq] at h;subst h;cases ys with
  | nil=>exact⟨[],[],trivial,trivial,fun _ _ _ _=>trivial⟩
  | cons _ _=>exact f.elim
 | r::rs,xs,ys,h,f=>by
  simp only[Fm] at h
  split at h
  ·rename_i b D p u
   obtain rfl:=Option.some.inj h;cases ys with
   | nil=>exact f.elim
   | cons b' ys=>
    obtain⟨⟨e,k⟩,f⟩:=f;obtain⟨v,us,g1,g2,n,o⟩:=Yk hT S p k;obtain⟨i,j,k1,k2,B⟩:=Kq hT S u f;refine⟨v::i,us++j,⟨g1,k1⟩,by rw[List.flatMap_cons];exact g2.append k2,fun y lo bo d=>?_⟩;rw[List.flatMap_cons] at d;obtain⟨m1,m2,e',g,C⟩:=d.Mx
    have hlen:us.length=m1.length:=by
     rw[<-g2.length,<-g.length]
     have:∀{l m:List AC},Ae (Cz (AD s.bk)) l m->l.length=m.length:=by
      intro l
      induction l with
      | nil=>intro m h;cases m <;> first | rfl | exact h.elim
      | cons x l A=>intro m h;cases m with
       | nil=>exact h.elim
       | cons y m=>simp[A h.2]
     exact this k
    obtain⟨rfl,rfl⟩:=List.append_inj e' hlen;refine⟨?_,B y lo bo C⟩;obtain⟨t,cs⟩:=b';simp only at e;cases t with
    | true=>exact⟨us.toArray,n e,by simpa using g⟩
    | false=>
     rcases o e with rfl | rfl
     ·cases cs with
      | nil=>exact .inl rfl
      | cons _ _=>exact g.elim
     cases cs with
     | nil=>exact g.elim
     | cons c cs=>exact .inr g.1
  cases h
end
theorem RN:∀(l m:List AV) (i:Nat),nth (l++m) i=if i<l.length then nth l i else nth m (i-l.length)
 | [],m,i=>by simp
 | x::l,m,0=>by simp[nth]
 | x::l,m,i+1=>by simp[nth,RN l m i]
theorem AO.nth {x:Cx}:∀{l:List AV} {c:List Value} (i:Nat),AO (At x) l c->i<l.length->At x (nth l i) (c.getD i undef)
 | _::_,_::_,0,h,_=>by simpa [Abs.nth] using h.1
 | _::_,_::_,i+1,h,b=>by simpa [Abs.nth] using AO.nth i h.2 (by simpa using b)
 | [],[],_,_,b=>by simp at b
 |[],_::_,_,h,_|_::_,[],_,h,_=>h.elim
theorem Kh {x y:Cx} (h:∀b,x.I b->y.I b/\y.w.heap[b]? =x.w.heap[b]?):∀{l:List AV} {d:List Value},(l.all fun c=>match c with | .AG _=>false | c=>c.all Ah)=true->AO (At x) l d->AO (At y) l d
 | [],[],_,_=>trivial
 | .one c::_,_::_,e,r=>by
  simp only[List.all_cons,Bool.and_eq_true] at e;exact⟨r.1.imp (fun q=>q) (Ir h e.1),Kh h e.2 r.2⟩
 | .agg c::_,_::_,e,r=>by
  simp only[List.all_cons,Bool.and_eq_true] at e;obtain⟨arr,e',f⟩:=r.1;exact⟨⟨arr,e',AO.pure h e.1 f⟩,Kh h e.2 r.2⟩
 | .AG _::_,_::_,e,_=>by simp at e
 |[],_::_,_,r|_::_,[],_,r=>r.elim
theorem Aw.start {w:World} {X:WX} {args:List AV} {g:List Value} {n:Nat} {f:Option AH} (t:args.length<=n) (o:∀b,X.ob=some b->X.X b) (hA:∀b,w.heap.size<=b->X.A b) (q:∀b,f=some b->b.AM=0/\b.short/\0<n)
  (c:AO (At (cx X w (β0 X.ob) (AD (CW n args f).bk))) args g) (p:∀b,f=some b->Bx (cx X w (β0 X.ob) (AD (CW n args f).bk)) 0 b):
  Aw w X (β0 X.ob) (CW n args f) {tmps:=g.toArray++Array.replicate (n-g.toArray.size) undef,defers:=[]} w:=by
 have hlen:=c.length
 have d:∀id b,AD (CW n args f).bk id=some b->id=0/\f=some b:=by
  intro id b h;cases n with
  | zero=>simp[CW,AD] at h
  | succ n=>
   cases id with
   | zero=>exact⟨rfl,h⟩
   | succ id=>
    have:AD (Et n none) id=some b:=h;rw[Mt] at this;cases this
 refine⟨rfl,?_,?_,fun i=>?_,fun id b h=>?_,fun id r b ⟨_,j,_⟩ ⟨_,m,_⟩ _ _=>?_,fun id b ⟨_,j,_⟩ k=> .inr ?_,rfl,rfl,rfl,Nat.le_refl _,fun _ _ _=>rfl,fun id b h=>?_,hA,fun _ _=>⟨rfl,fun b arr e _ he=>⟨arr,he,rfl⟩⟩⟩
 ·simp[CW,En];omega
 ·simp[CW];cases n with
  | zero=>simp;omega
  | succ n=>simp[En];omega
 ·show At _ (nth (args++_) i) _
  rw[RN]
  split
  ·rename_i l
   have:=c.nth i l
   have e:(g.toArray++Array.replicate (n-g.toArray.size) undef).getD i undef=g.getD i undef:=by
    rw[Array.getD_eq_getD_getElem?,Array.getElem?_append_left (by simpa [<-hlen] using l)];simp[List.getD_eq_getElem?_getD]
   rw[e];exact this
  rw[Mr];exact GU _ _
 ·obtain⟨rfl,h'⟩:=d id b h;exact p b h'
 ·rw[(d _ _ j).1,(d _ _ m).1]
 ·obtain⟨rfl,_⟩:=d _ _ j;exact⟨o b k,rfl⟩
 exact (q b (d id b h).2).2.1
def Kg (args:List AV):Bool:=args.all fun c=>match c with | .AG _=>false | c=>c.all Ah
structure Fn (P:Program) (TI:TypeId->Info) (f:FuncId) (n:Nat) (c:Code) (rs:List ResultVar):Prop where
 get : ∃ fn, P.funcs[f]? = some fn /\ (fn.name == "runtime.NumGoroutine") = false /\ fn.body = some c /\ fn.ntmps = n /\ fn.results.toList = rs
 dst:Eh c=true
 ty:∀t,Ce P t (TI t)
 mixed:P.follows .mixedOrders=true
theorem L8 {r:AV} {y:Cx} {lo:Nat} {bo:Option Nat} {b:List Value} (d:b.length=1↔∀ys,r≠ .AG ys) (h:AO (fun z q=>D4 y lo bo (CE z) q) r.Cw b):Ea y lo bo r (Fg b):=by
 cases r with
 | AG xs=>
  have:b.length≠1:=fun e=>d.1 e xs rfl
  have e:Fg b= .tuple b.toArray:=by
   match b,this with
   | [],_=>rfl
   | [_],h=>exact absurd rfl h
   | _::_::_,_=>rfl
  exact⟨b.toArray,e,h⟩
 | one c=>
  match b,h with
  | [v],h=>exact h.1
 | agg cs=>
  match b,h with
  | [v],h=>exact h.1
theorem VZ {f:FuncId} {n:Nat} {c:Code} {rs:List ResultVar} (F:Fn P TI f n c rs) {args:List AV} {r:AV} (V:Kg args=true) (C:r.all BR=true/\r.wf=true) (T:args.length<=n)
  (h:B1 (env P) TI n c (post TI rs r none) (CW n args none)):EF P false f args r:=by
 obtain⟨fn,L,q,d,A,D⟩:=F.get;refine⟨⟨fn,c,L,q,d⟩,C,fun w I M R k=>?_⟩;refine calls_of_wp L d ?_
 have N:Aw w ⟨fun _=>False,fun b=>I b\/w.heap.size<=b,none⟩ (β0 none) (CW n args none) {tmps:=M.toArray++Array.replicate (n-M.toArray.size) undef,defers:=[]} w:=
  Aw.start (X:=⟨fun _=>False,fun b=>I b\/w.heap.size<=b,none⟩) T (fun _ e=>by cases e) (fun b d=> .inr d) (fun b e=>by cases e)
   (Kh (x:=CM w I) (y:=cx ⟨fun _=>False,fun b=>I b\/w.heap.size<=b,none⟩ w (β0 none) (AD (CW n args none).bk)) (fun b d=>⟨⟨⟨R b d,fun id _ e=>by simp[β0] at e⟩,.inl d⟩,rfl⟩) V k) (fun b e=>by cases e)
 rw[A];refine wp_mono (DQ F.mixed (fun o U=>NX F.ty o U) F.dst (by simp[CW,En];omega) N h) fun e J w' he=>?_
 obtain⟨x,s',Y,rfl,j,_,S⟩:=he
 have fin:post TI rs r none x s'->x≠ .exit 0/\(∀i,x≠ .exit i)->J.defers=[]/\∃v,(results fn J.tmps).run P w'= .ok v w'/\∃u bo,Ending.returned v= .returned u/\Below w.heap.size w w'/\
   Ea (CM w' fun b=>((false=false/\I b)\/w.heap.size<=b)/\b<w'.heap.size/\bo≠some b) w.heap.size bo r u:=by
  intro j hx;refine⟨S.defers,?_⟩
  have B:∃xs,Fm TI s' rs=some xs/\Fl (AD s'.bk) xs r.Cw/\Ka xs r.Cw=true/\(rs.length=1↔∀ys,r≠ .AG ys):=by
   unfold post at j
   split at j
   ·exact absurd rfl (hx.2 _)
   split at j
   ·rename_i xs G
    exact⟨xs,G,j.1 ()⟩
   exact j.elim
  obtain⟨xs,O,K,z,Q⟩:=B;obtain⟨us,ws,k1,k2,W⟩:=Kq F.ty S O K
  have p:Ae (Cz (AD s'.bk)) (xs.flatMap (·.2)) (r.Cw.flatMap (·.2)):=by
   have app:∀{l m l' m':List AC},Ae (Cz (AD s'.bk)) l m->Ae (Cz (AD s'.bk)) l' m'->Ae (Cz (AD s'.bk)) (l++l') (m++m'):=by
    intro l
    induction l with
    | nil=>intro m l' m' h h';cases m <;> first | exact h' | exact h.elim
    | cons x l H=>intro m l' m' h h';cases m with
     | nil=>exact h.elim
     | cons y m=>exact⟨h.1,H h.2 h'⟩
   have:∀{l m:List (Bool×List AC)},Fl (AD s'.bk) l m->Ae (Cz (AD s'.bk)) (l.flatMap (·.2)) (m.flatMap (·.2)):=by
    intro l
    induction l with
    | nil=>intro m h;cases m <;> first | trivial | exact h.elim
    | cons x l H=>intro m h;cases m with
     | nil=>exact h.elim
     | cons y m=>rw[List.flatMap_cons,List.flatMap_cons];exact app h.1.2 (H h.2)
   exact this K
  have t:(r.Cw.flatMap (·.2)).all BR=true:=by
   cases r with
   |one c|agg cs=>simpa [AV.Cw,AV.comp,AV.all] using C.1
   | AG xs=>simp only[AV.Cw,List.all_flatMap];exact C.1
  have g:((r.Cw.flatMap (·.2)).filter Dw).length<=1/\(((r.Cw.flatMap (·.2)).filter Dw).length=1->((xs.flatMap (·.2)).filter GF).length<=1):=by
   unfold Ka at z
   split at z
   ·rename_i e;rw[e];simp
   ·rename_i e;rw[e];simpa using z
   cases z
  obtain⟨bo,g1,_⟩:=R6 (I:=I) S (fun b h=>h) (fun b h=>h) g.1 g.2 p t k2;have hlen:us.length=rs.length:=k1.length.symm;refine⟨Fg us,NI (by rw[D];exact k1),Fg us,bo,rfl,⟨S.os,S.tape,S.output,S.size,fun b d=>S.block b d (fun h=>h)⟩,?_⟩;exact L8 (by rw[hlen];exact Q) (W _ _ _ g1)
 cases x with
 |Bw|ret=>exact fin j ⟨by simp,by simp⟩
 | exit i=>exact j.elim
end
end Go.Abs
