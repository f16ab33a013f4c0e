/- Part 7 of a proof. Conditions: each theorem's own. -/
import Derived.Laws.Sem
import Derived.Test.YtmhbikooakmagaaGreatRk05
set_option linter.all false
set_option maxHeartbeats 8000000
set_option maxRecDepth 20000
namespace Go.Abs
open Go.RowKit
section
variable {P:Program} {E:Env} {TI:TypeId->Info}
theorem oR {c:Code} {Q:Exit->Act->World->Prop} (I:Nat->Act->World->Prop) {k:Nat} {a:Act} {w:World} (m:I k a w)
  (round:∀k a w,I k a w->c.wp P (Exit.then (fun g w'=>∃k',k'<k/\I k' g w') Q) a w):(Code.loop c).wp P Q a w:=by
 have least:∀(a:Act) (w:World) (n:Nat),I n a w->∃k,I k a w/\∀j,I j a w->k<=j:=by
  intro a w n
  induction n using Nat.strongRecOn with
  | _ n r=>
   intro l
   by_cases h:∃j,j<n/\I j a w
   ·obtain⟨j,d,b⟩:=h;exact r j d b
   exact⟨n,l,fun j q=>Nat.le_of_not_lt fun i=>h ⟨j,i,q⟩⟩
 have⟨μ,f⟩:∃μ:Act->World->Nat,∀a w,(∃n,I n a w)->I (μ a w) a w/\∀j,I j a w->μ a w<=j:=by
  have:∀p:Act×World,∃k,(∃n,I n p.1 p.2)->I k p.1 p.2/\∀j,I j p.1 p.2->k<=j:=fun p=>by
   by_cases h:∃n,I n p.1 p.2
   ·obtain⟨n,l⟩:=h;obtain⟨k,d,b⟩:=least p.1 p.2 n l;exact⟨k,fun _=>⟨d,b⟩⟩
   exact⟨0,fun h'=>absurd h' h⟩
  exact⟨fun a w=>Classical.choose (this (a,w)),fun a w=>Classical.choose_spec (this (a,w))⟩
 refine wp_loop (fun a w=>∃n,I n a w) μ ⟨k,m⟩ fun a w o=>?_
 refine wp_mono (round _ a w (f a w o).1) fun e g w' he=>?_
 cases e with
 | normal=>obtain⟨k',d,b⟩:=he;exact⟨⟨k',b⟩,Nat.lt_of_le_of_lt ((f g w' ⟨k',b⟩).2 k' b) d⟩
 | _=>exact he
def KS (s:St) (bs:List Nat) (k:Nat):AL:=match AF s.bk k with | some b=>if k==0&&b.AQ !=0 then .dead 0 else L3 (AF s.bk) bs b | none=> .dead 0
theorem Lr (s:St) (c:List Nat) (k:Nat):KS s c k= .dead 0\/∃b,AF s.bk k=some b/\KS s c k=L3 (AF s.bk) c b/\(k=0->b.AQ=0):=by
 unfold KS
 split
 ·rename_i b hb
  split
  ·exact .inl rfl
  rename_i h
  refine .inr ⟨b,hb,rfl,fun e=>?_⟩;subst e;simpa using h
 exact .inl rfl
theorem js (bk:Nat->Option AL) (c:List Nat) (b:AL):(L3 bk c b).AQ=0:=by cases b <;> rfl
theorem jq (bk:Nat->Option AL) (c:List Nat) (b:AL):(L3 bk c b).live=b.live:=by cases b <;> rfl
theorem jA (s:St) (b:List Nat) (k:Nat) (r:List Nat):Dj s b (k::r)=KS s b k::Dj s b r:=rfl
theorem Xz (s:St) (b:List Nat):∀(d:List Nat) (l:List (Option AL)) (id:Nat),AF (Gq d (Dj s b d) l) id=if id∈d/\id<l.length then some (KS s b id) else AF l id
 | [],l,id=>by simp[Gq,Dj]
 | k::r,l,id=>by
  rw[jA,Gq,Xz s b r,Fb,Gm]
  by_cases c:id<l.length
  ·by_cases f:id∈r
   ·simp[c,f]
   by_cases h3:id=k
   ·subst h3;simp[c,f]
   simp[c,f,h3]
  by_cases h3:id=k
  ·subst h3;simp[c]
  simp[c,h3]
theorem Xy (s:St) (b:List Nat):∀(ks:List Nat) (l:List AV) (i:Nat),nth (Ff ks (Dz s b ks) l) i=if i∈ks/\i<l.length then RW (AF s.bk) b (nth s.sl i) else nth l i
 | [],l,i=>by simp[Ff,Dz]
 | k::r,l,i=>by
  rw[Dz,Ff,Xy s b r,Fb,JI]
  by_cases c:i<l.length
  ·by_cases d:i∈r
   ·simp[c,d]
   by_cases h3:i=k
   ·subst h3;simp[c,d]
   simp[c,d,h3]
  by_cases h3:i=k
  ·subst h3;simp[c]
  simp[c,h3]
theorem XA:∀(d:List Nat) (c:List AL) (l:List (Option AL)),(Gq d c l).length=l.length
 |[],_,_|_::_,[],_=>by simp[Gq]
 | k::r,b::c,l=>by rw[Gq,XA r,Fb]
theorem Lt:∀(ks:List Nat) (vs:List AV) (l:List AV),(Ff ks vs l).length=l.length
 |[],_,_|_::_,[],_=>by simp[Ff]
 | k::r,b::c,l=>by rw[Ff,Lt r,Fb]
theorem Gi {α:Type}:∀(n:Nat) (x:α),(Gs n x).length=n
 | 0,_=>rfl
 | n+1,x=>by simp[Gs,Gi n x]
theorem Rc:∀(n i:Nat),AF (Gs n none) i=none
 |0,_|n+1,0=>rfl
 | n+1,i+1=>Rc n i
theorem RZ:∀(n i:Nat),nth (Gs n (.one .BY)) i= .one .BY
 |0,_|n+1,0=>rfl
 | n+1,i+1=>RZ n i
theorem Xr {x y:Cx} {bk:Nat->Option AL} {j:List Nat} (hw:y.w=x.w) (d:y.β=x.β) (g:x.cv=AQ bk) (p:∀id,y.cv id=0) (f:∀b,x.I b->y.I b):∀{c:AC} {v:Value},Ap x c v->Ap y (IX bk j c) v
 |.BY,_,r|.int _ _,_,r|.bool _,_,r|.fn _,_,r|.nil,_,r=>r
 | .sl _ _,_,r=>CD (fun b hb=>⟨f b hb,by rw[hw]⟩) _ _ _ r
 | .AN t id v off len,u,r=>by
  simp only[IX]
  split
  ·rename_i h
   simp only[Bool.and_eq_true,beq_iff_eq] at h;have:=r.2 (by rw[g];exact h.2.symm);exact⟨⟨r.1.1,Nat.zero_le _⟩,fun _=>by rw[hw,d];exact this⟩
  exact r.1.1
 | .C9 _ _ _ _ _,_,r=>r.1.1
 | .Ab id v off,u,r=>by
  simp only[IX]
  split
  ·rename_i h
   simp only[Bool.and_eq_true,beq_iff_eq] at h;have:=r.2 (by rw[g];exact h.2.symm);exact⟨⟨r.1.1,Nat.zero_le _⟩,fun _=>by rw[d];exact this⟩
  exact r.1.1
 | .Ch t id v i k,u,r=>by
  simp only[IX]
  split
  ·rename_i h
   simp only[Bool.and_eq_true,beq_iff_eq] at h;have:=r.2 (by rw[g];exact h.2.symm);exact⟨⟨r.1.1,Nat.zero_le _⟩,fun _=>by rw[d];exact this⟩
  exact r.1.1
 | .ub _,_,h=>h
 | .CX t z off,_,⟨b,o,us,l,m,h3,n⟩=>⟨b,o,us,l,f b m,CD (fun b hb=>⟨f b hb,by rw[hw]⟩) _ _ _ h3,by rw[hw];exact n⟩
 | .Cy _ _,_,⟨_,e,_⟩=>by rw[e];rfl
 | .CZ _ _,_,⟨us,e,r⟩=>⟨us,e,r.mono fun _ _=>FR.mono fun b hb=>⟨f b hb,by rw[hw]⟩⟩
 | .own _ _ _,_,r=>r.elim
theorem AS.norm {x y:Cx} {bk:Nat->Option AL} {i:List Nat} (hw:y.w=x.w) (c:y.β=x.β) (f:x.cv=AQ bk) (g:∀id,y.cv id=0) (d:∀b,x.I b->y.I b):∀{cs:List AC} {us:List Value},AS (Ap x) cs us->AS (Ap y) (cs.map (IX bk i)) us
 | [],[],_=>trivial
 | _::_,_::_,h=>⟨Xr hw c f g d h.1,AS.norm hw c f g d h.2⟩
 |[],_::_,h|_::_,[],h=>h.elim
theorem jt {x y:Cx} {bk:Nat->Option AL} {j:List Nat} (hw:y.w=x.w) (d:y.β=x.β) (g:x.cv=AQ bk) (i:∀id,y.cv id=0) (f:∀b,x.I b->y.I b) {a:AV} {v:Value} (h:BK x a v):BK y (RW bk j a) v:=by
 cases a with
 | one c=>
  rcases h with rfl | h
  ·exact .inl rfl
  exact .inr (Xr hw d g i f h)
 | agg cs=>obtain⟨arr,e,h⟩:=h;exact⟨arr,e,AS.norm hw d g i f h⟩
 | AG _=>exact .inl rfl
theorem BI.head {w0:World} {X:WX} {β:Nat->Option Nat} {s:St} {a:Act} {w:World} (S:BI w0 X β s a w) {n:Nat} (z:s.sl.length=n) (ks c:List Nat):BI w0 X β (Gk n ks (Dz s c ks) c (Dj s c c)) a w:=by
 have j:∀id b,AF (Gk n ks (Dz s c ks) c (Dj s c c)).bk id=some b->b=KS s c id:=fun id b h=>by
  have h:AF (Gq c (Dj s c c) (Gs n none)) id=some b:=h;rw[Xz,Rc] at h
  split at h
  ·exact (Option.some.inj h).symm
  cases h
 have k:∀id,AQ (AF (Gk n ks (Dz s c ks) c (Dj s c c)).bk) id=0:=fun id=>by
  unfold AQ
  split
  ·rename_i b hb
   rw[j id b hb];rcases Lr s c id with h |⟨b',_,h,_⟩ <;> rw[h]
   ·rfl
   exact js _ _ _
  rfl
 have d:∀id,live (AF (Gk n ks (Dz s c ks) c (Dj s c c)).bk) id->live (AF s.bk) id:=fun id ⟨b,hb,g⟩=>by
  have:=j id b hb;subst this;rcases Lr s c id with h |⟨b',f,h,_⟩ <;> rw[h] at g
  ·cases g
  rw[jq] at g;exact⟨b',f,g⟩
 have p:∀b,(cx X w β (AF s.bk)).I b->(cx X w β (AF (Gk n ks (Dz s c ks) c (Dj s c c)).bk)).I b:=fun b hb=>⟨⟨hb.1.1,fun id g=>hb.1.2 id (d id g)⟩,hb.2⟩
 refine⟨S.defers,?_,?_,fun i=>?_,fun id b hb=>?_,fun id v b m o=>S.inj id v b (d _ m) (d _ o),fun id b m=>S.own id b (d _ m),S.os,S.tape,S.output,S.size,S.block,fun id b hb=>?_,S.fresh,fun g _=>?_⟩
 ·show (Ff _ _ _).length=_
  rw[Lt,Gi,<-z];exact S.len
 ·show (Gq _ _ _).length=_
  rw[XA,Gi,<-z];exact S.len
 ·show BK _ (nth (Ff _ _ _) i) _
  rw[Xy,RZ]
  split
  ·exact jt (x:=cx X w β (AF s.bk)) (y:=cx X w β (AF (Gk n ks (Dz s c ks) c (Dj s c c)).bk)) rfl rfl rfl k p (S.B6 i)
  exact Im _ _
 ·have:=j id b hb;subst this;rcases Lr s c id with h |⟨b',f,h,_⟩ <;> rw[h]
  ·trivial
  have r:=S.blocks id b' f;cases b' with
  | dead _=>trivial
  | var _ cs=>obtain⟨b,arr,e,m,o,h3⟩:=r;exact⟨b,arr,e,m,o,AS.norm (x:=cx X w β (AF s.bk)) (y:=cx X w β (AF (Gk n ks (Dz s c ks) c (Dj s c c)).bk)) rfl rfl rfl k p h3⟩
  | arr _ t l=>
   refine r.imp (fun q=>q) fun⟨b,arr,e,m,o,h3⟩=>⟨b,arr,e,m,o,fun i y B=>?_⟩
   obtain⟨us,C,D⟩:=h3 i y B;exact⟨us,CD (w':=w) (fun b hb=>⟨p b hb,rfl⟩) _ _ _ C,D⟩
 ·have:=j id b hb;subst this;rcases Lr s c id with h |⟨b',f,h,_⟩ <;> rw[h]
  ·trivial
  have:=S.lens id b' f;cases b' <;> exact this
 have u:=d 0 g;obtain⟨b,hb,g⟩:=g;have:=j 0 b hb;subst this;rcases Lr s c 0 with h |⟨b',f,h,A⟩ <;> rw[h] at g
 ·cases g
 exact S.KM u (by unfold AQ;rw[f];exact A rfl)
theorem Yp (a:Act) (k:Nat):a.put (some k) (a.tmps.getD k undef)=a:=by
 have h:a.tmps.setIfInBounds k (a.tmps.getD k undef)=a.tmps:=by
  apply Array.ext
  ·simp
  intro i c b;rw[Array.getElem_setIfInBounds]
  split
  ·subst_vars;simp[Array.getD,b]
  rfl
 simp only[Act.put,h]
theorem BI.conv {w0:World} {X:WX} {a:Act} {w:World} {n:Nat}:∀{s:St} {β:Nat->Option Nat},BI w0 X β s a w->s.sl.length=n->∀(cv:List (Nat×T×Bool)),∃β',BI w0 X β' (J9 s cv) a w/\(J9 s cv).sl.length=n
 | s,β,S,d,[]=>⟨β,S,d⟩
 | s,β,S,d,(k,t,b)::r=>by
  have q:∀{c:AC},(∀v:Value,v= .slice none 0 0->Ap (cx X w β (AF s.bk)) c v)->nth s.sl k= .one .nil->BI w0 X β ⟨A9 s.sl k (.one c),s.bk⟩ a w:=fun {c} m e=>by
   have hs:=S.B6 k;rw[e] at hs;have f:a.tmps.getD k undef= .slice none 0 0:=hs.resolve_left (by simp);have:=S.val (dst:=some k) (v:= .one c) (u:=a.tmps.getD k undef) (rd:=[]) (.inr (m _ f));rw[Yp] at this;exact this
  unfold J9
  split
  ·rename_i e
   exact BI.conv (q (c:= .sl t []) (fun v f=>⟨none,0,by rw[f];rfl,Nat.le_refl _,Nat.zero_le _,.inl rfl⟩) e) (by rw[Fb];exact d) r
  ·rename_i e
   by_cases g:k<s.bk.length
   ·have hs:=S.B6 k;rw[e] at hs;have f:a.tmps.getD k undef= .slice none 0 0:=hs.resolve_left (by simp)
    have:=S.write (β':=fun j=>if j=k then none else β j) (w':=w) (dst:=some k) (v:= .one (.AN t k (AQ (AF s.bk) k+1) 0 0)) (u:=a.tmps.getD k undef) (rd:=[]) (id:=k) (BL:= .arr (AQ (AF s.bk) k+1) t []) g (Nat.zero_le _)
     (fun j p=>by simp[p]) (by simp[AL.AQ]) (fun e=>by simp[AL.AQ] at e) (fun _ _ _=>rfl) (Nat.le_refl _) (fun b arr e o=>⟨arr,o,rfl⟩) rfl rfl rfl (fun _ b hb=>by simp at hb)
     (fun _=> .inl ⟨by show (if k=k then _ else _)=_;simp,rfl⟩)
     (fun _=> .inr ⟨⟨by rw[f];rfl,by show _<=AQ _ k;rw[Ew _ _ _ g,if_pos rfl];exact Nat.le_refl _⟩,fun _=>⟨none,0,f,Nat.le_refl _,Nat.zero_le _,fun h=>(by cases h),.inl rfl⟩⟩)
    rw[Yp] at this;exact BI.conv this (by show (A9 _ _ _).length=_;rw[Fb];exact d) r
   have i:A9 s.sl k (.one (.AN t k (AQ (AF s.bk) k+1) 0 0))=s.sl:=Gu _ _ _ (by rw[S.len,<-S.HG];omega);have l:A9 s.bk k (some (AL.arr (AQ (AF s.bk) k+1) t []))=s.bk:=Gu _ _ _ (by omega);rw[i,l];exact BI.conv S d r
  exact BI.conv S d r
def GY:Code->Bool
 | .region _ ops _=>ops.toList.all Nt
 |.seq a b|.cond _ a b=>GY a&&GY b
 |.block _ c|.loop c=>GY c
 | _=>true
def nu:AX->Exit
 | .Cu=> .normal
 | .exit n=> .exit n
 | .ret=> .ret
def Ix (w0:World) (X:WX) (n:Nat) (Q:AX->St->Prop) (e:Exit) (a:Act) (w:World):Prop:=
 ∃x s β,e=nu x/\Q x s/\s.sl.length=n/\BI w0 X β s a w
theorem Ez (hm:P.follows .mixedOrders=true) (hs:∀o,Nt o=true->Sound P E TI o) {n:Nat} {w0:World} {X:WX}:∀{c:Code} {Q:AX->St->Prop} {β:Nat->Option Nat} {s:St} {a:Act} {w:World},GY c=true->s.sl.length=n->BI w0 X β s a w->Cr E TI n c Q s->
  c.wp P (Ix w0 X n Q) a w
 | .skip,Q,β,s,a,w,_,g,S,h=>wp_skip ⟨.Cu,s,β,rfl,h,g,S⟩
 | .exit i,Q,β,s,a,w,_,g,S,h=>wp_exit ⟨.exit i,s,β,rfl,h,g,S⟩
 | .ret,Q,β,s,a,w,_,g,S,h=>wp_ret ⟨.ret,s,β,rfl,h,g,S⟩
 | .region id ops draw,Q,β,s,a,w,l,g,S,h=>
  lQ hm (fun o D=>hs o (List.all_eq_true.1 l o D)) S h fun s' r A β' q w' j=>⟨.Cu,s',β',rfl,r,by rw[A];exact g,j⟩
 | .seq x y,Q,β,s,a,w,l,g,S,h=>by
  simp only[GY,Bool.and_eq_true] at l;refine wp_seq (wp_mono (Ez hm hs l.1 g S h) fun e q w' he=>?_);obtain⟨x',s',β',rfl,f,d,j⟩:=he;cases x' with
  | Cu=>exact Ez hm hs l.2 d j f
  | exit i=>exact⟨.exit i,s',β',rfl,f,d,j⟩
  | ret=>exact⟨.ret,s',β',rfl,f,d,j⟩
 | .cond c x y,Q,β,s,a,w,l,g,S,h=>by
  simp only[GY,Bool.and_eq_true] at l;have p:=CY S.B6 c
  have plain:(match ev s.sl c with | .one (.bool true)=>Cr E TI n x Q s | .one (.bool false)=>Cr E TI n y Q s | .one (.ub u)=>(u=true->Cr E TI n x Q s)/\Cr E TI n y Q s | _=>False)->(Code.cond c x y).wp P (Ix w0 X n Q) a w:=by
   intro h
   split at h
   ·rename_i he
    rw[he] at p;exact wp_cond_true (BN p (by simp)) (Ez hm hs l.1 g S h)
   ·rename_i he
    rw[he] at p;exact wp_cond_false (BN p (by simp)) (Ez hm hs l.2 g S h)
   ·rename_i u he
    rw[he] at p;obtain⟨b,hb,t⟩:=BN p (by simp);cases b with
    | true=>exact wp_cond_true hb (Ez hm hs l.1 g S (h.1 (t rfl)))
    | false=>exact wp_cond_false hb (Ez hm hs l.2 g S h.2)
   exact h.elim
  simp only[Cr] at h
  split at h
  ·rcases h with⟨ks,m,J,v,h⟩ | h
   ·have fin:∀e q w',Ix w0 X n (fun e s'=>match e with | .Cu=>J (Dz s' m ks) (Dj s' m m) | .exit i=>Q (.exit i) s' | .ret=>Q .ret s') e q w'->Ix w0 X n Q e q w':=by
     rintro e q w' ⟨x',s',β',rfl,f,d,j⟩;cases x' with
     | Cu=>exact⟨.Cu,_,β',rfl,v _ _ f,by show (Ff _ _ _).length=_;rw[Lt,Gi],j.head d ks m⟩
     | exit i=>exact⟨.exit i,s',β',rfl,f,d,j⟩
     | ret=>exact⟨.ret,s',β',rfl,f,d,j⟩
    split at h
    ·rename_i he
     rw[he] at p;exact wp_cond_true (BN p (by simp)) (wp_mono (Ez hm hs l.1 g S h) fin)
    ·rename_i he
     rw[he] at p;exact wp_cond_false (BN p (by simp)) (wp_mono (Ez hm hs l.2 g S h) fin)
    ·rename_i u he
     rw[he] at p;obtain⟨b,hb,t⟩:=BN p (by simp);cases b with
     | true=>exact wp_cond_true hb (wp_mono (Ez hm hs l.1 g S (h.1 (t rfl))) fin)
     | false=>exact wp_cond_false hb (wp_mono (Ez hm hs l.2 g S h.2) fin)
    exact h.elim
   exact plain h
  exact plain h
 | .block id c,Q,β,s,a,w,l,g,S,h=>by
  rcases h with⟨ks,m,J,v,h⟩ | h
  ·refine wp_block (wp_mono (Ez hm hs (c:=c) l g S h) fun e q w' he=>?_);obtain⟨x',s',β',rfl,f,d,j⟩:=he
   have fin:J (Dz s' m ks) (Dj s' m m)->Ix w0 X n Q .normal q w':=fun f=>
    ⟨.Cu,_,β',rfl,v _ _ f,by show (Ff _ _ _).length=_;rw[Lt,Gi],j.head d ks m⟩
   cases x' with
   | Cu=>exact fin f
   | exit i=>
    show Exit.inBlock id (Ix w0 X n Q) (.exit i) q w'
    simp only[Exit.inBlock];simp only at f
    split
    ·rename_i r;rw[if_pos r] at f;exact fin f
    rename_i r;rw[if_neg r] at f;exact⟨.exit i,s',β',rfl,f,d,j⟩
   | ret=>exact⟨.ret,s',β',rfl,f,d,j⟩
  refine wp_block (wp_mono (Ez hm hs (c:=c) l g S h) fun e q w' he=>?_);obtain⟨x',s',β',rfl,f,d,j⟩:=he;cases x' with
  | Cu=>exact⟨.Cu,s',β',rfl,f,d,j⟩
  | exit i=>
   show Exit.inBlock id (Ix w0 X n Q) (.exit i) q w'
   simp only[Exit.inBlock];simp only at f
   split
   ·rename_i r;rw[if_pos r] at f;exact⟨.Cu,s',β',rfl,f,d,j⟩
   rename_i r;rw[if_neg r] at f;exact⟨.exit i,s',β',rfl,f,d,j⟩
  | ret=>exact⟨.ret,s',β',rfl,f,d,j⟩
 | .loop c,Q,β,s,a,w,l,g,S,h=>by
  obtain⟨cv,ks,m,J,⟨k0,B⟩,F⟩:=h;obtain⟨β,S,g⟩:=S.conv g cv;refine oR (fun k a w=>∃vs z β,J vs z k/\BI w0 X β (Gk n ks vs m z) a w) ⟨_,_,β,B,S.head g ks m⟩ fun k a w C=>?_
  obtain⟨vs,z,β,v,S⟩:=C;refine wp_mono (Ez hm hs (c:=c) l (by show (Ff _ _ _).length=_;rw[Lt,Gi]) S (F vs z k v)) fun e q w' he=>?_
  obtain⟨x',s',β',rfl,f,d,j⟩:=he;cases x' with
  | Cu=>obtain⟨k',r,A⟩:=f;exact⟨k',r,_,_,β',A,j.head d ks m⟩
  | exit i=>exact⟨.exit i,s',β',rfl,f,d,j⟩
  | ret=>exact⟨.ret,s',β',rfl,f,d,j⟩
 |.rangeFunc _ _ _ _,_,_,_,_,_,_,_,_,h|.scope _,_,_,_,_,_,_,_,_,h|.label _,_,_,_,_,_,_,_,_,h|.goto _,_,_,_,_,_,_,_,_,h|.refuse _,_,_,_,_,_,_,_,_,h=>h.elim
end
section
variable {P:Program} {TI:TypeId->Info}
def MS (tmps:Array Value):ResultVar->Sem Value
 | .tmp t=>pure (tmps.getD t undef)
 | .cell a t=>do loadVar t (<-asAddr (tmps.getD a undef))
theorem XP {w:World} {f:ResultVar->Sem Value}:∀{l:List ResultVar} {vs:List Value},AS (fun r v=>(f r).run P w= .ok v w) l vs->(l.mapM f).run P w= .ok vs w
 | [],[],_=>by simp
 | r::l,v::vs,h=>by
  rw[List.mapM_cons];simp[Sem.run_bind,h.1,XP h.2]
 |[],_::_,h|_::_,[],h=>h.elim
def Hq:List Value->Value
 | [v]=>v
 | vs=> .tuple vs.toArray
theorem SG {fn:Func} {tmps:Array Value} {w:World} {vs:List Value} (h:AS (fun r v=>(MS tmps r).run P w= .ok v w) fn.results.toList vs):(results fn tmps).run P w= .ok (Hq vs) w:=by
 have e:results fn tmps=(do let vs <-fn.results.mapM (MS tmps);pure (if h:vs.size=1 then vs[0] else .tuple vs)):=by
  unfold results
  congr 1
 rw[e,Array.mapM_eq_mapM_toList];simp only[Sem.run_bind,map_eq_pure_bind,XP h,Result.andThen_ok,Sem.run_pure]
 congr 1
 match vs with
 |[]|[v]|_::_::_=>rfl
section
variable {w0:World} {X:WX} {β:Nat->Option Nat} {s:St} {a:Act} {w:World}
theorem lZ (A:∀t,DW P t (TI t)) (S:BI w0 X β s a w) {r:ResultVar} {b b':Bool×List AC} (h:Om TI s r=some b) (m:Ao (D4 (AF s.bk)) b.2 b'.2):
  ∃v us,(MS a.tmps r).run P w= .ok v w/\AS (Ap (cx X w β (AF s.bk))) b.2 us/\(b.1=true->v= .agg us.toArray)/\(b.1=false->us=[]\/us=[v]):=by
 cases r with
 | tmp t=>
  simp only[Om,Option.some.injEq] at h;subst h;have f:=S.B6 t
  generalize L:nth s.sl t=g at m f
  cases g with
  | one c=>
   have o:c≠ .BY:=by
    rintro rfl;cases b' with
    | mk x y=>cases y with
     | nil=>exact m.elim
     | cons _ _=>exact m.1.elim
   exact⟨_,[a.tmps.getD t undef],rfl,⟨BN f o,trivial⟩,fun e=>by simp[AV.comp] at e,fun _=> .inr rfl⟩
  | agg cs=>
   obtain⟨arr,e,f⟩:=f;exact⟨_,arr.toList,rfl,f,fun _=>by rw[e],fun e=>by simp[AV.comp] at e⟩
  | AG _=>exact⟨_,[],rfl,trivial,fun e=>by simp[AV.comp] at e,fun _=> .inl rfl⟩
 | cell q t=>
  simp only[Om] at h;have f:=S.B6 q
  split at h
  ·rename_i id v off he
   rw[he] at f;have f:=BN f (by simp)
   split at h
   ·rename_i M cs hb
    split at h
    ·rename_i d
     simp only[Bool.and_eq_true,beq_iff_eq] at d;obtain⟨⟨B,z⟩,hlen⟩:=d;obtain⟨D,arr,e,F,G,h3⟩:=S.blocks id _ hb;have K:v=AQ (AF s.bk) id:=by unfold AQ;rw[hb];exact z.symm
     obtain⟨b1,l,J⟩:=f.2 K;obtain rfl:D=b1:=Option.some.inj (F.symm.trans l)
     have i:AS (Ap (cx X w β (AF s.bk))) (FO cs off (TI t).size) ((arr.toList.drop off).take (TI t).size):=by
      rw[Ku];exact (h3.drop off).take _
     have C:=i.length;have k:=run_load (A t) B (R9 G (off:=off) (n:=(TI t).size)) (by rw[<-C];exact hlen);obtain rfl:=Option.some.inj h;have p:(TI t).agg=false->(TI t).size=1:=by obtain⟨_,_,_,_,_,_,_,_,_,H⟩:=(A t).info B;exact H
     refine⟨valOf (TI t).agg ((arr.toList.drop off).take (TI t).size),_,?_,i,fun e=>?_,fun e=>?_⟩
     ·refine Eq.trans ?_ k;simp only[MS,J,asAddr,Instr.loadAt,Instr.sureAddr]
      rfl
     ·rw[show (TI t).agg=true from e];rfl
     right
     have I:=p e;rw[show (TI t).agg=false from e];have j:((arr.toList.drop off).take (TI t).size).length=1:=by rw[<-C,hlen];exact I
     generalize (arr.toList.drop off).take (TI t).size=us at j
     match us,j with
     | [u],_=>rfl
    cases h
   cases h
  cases h
end
section
variable {w0:World} {X:WX} {β:Nat->Option Nat} {s:St} {a:Act} {w:World}
def Yb (I:Nat->Prop) (lo:Nat) (w:World) (bo:Option Nat):Cx:=DC w fun b=>((false=false/\I b)\/lo<=b)/\b<w.heap.size/\bo≠some b
theorem Yx {I:Nat->Prop} (S:BI w0 X β s a w) (R:∀b,¬X.X b) (Q:∀b,X.A b->I b\/w0.heap.size<=b) {bo:Option Nat} (z:bo=none\/∃id,live (AF s.bk) id/\β id=bo) {c d:AC} {v:Value} (L:FZ d=false) (T:IM c=true->bo=none) (h:D4 (AF s.bk) c d) (O:∀t o l,d≠ .AN t 0 0 o l)
  (r:Ap (cx X w β (AF s.bk)) c v):C6 (Yb I w0.heap.size w bo) w0.heap.size bo d v:=by
 have K:∀b,(cx X w β (AF s.bk)).I b->(Yb I w0.heap.size w bo).I b/\w.heap[b]? =w.heap[b]? :=fun b hb=>
  ⟨⟨(Q b hb.2).imp (fun q=>⟨rfl,q⟩) id,hb.1.1,fun e=>by
   rcases z with h' |⟨id,g,J⟩
   ·rw[h'] at e;cases e
   exact hb.1.2 id g (J.trans e)⟩,rfl⟩
 cases c with
 | AN t id j off len=>
  rcases h with⟨l,g,J,rfl⟩ |⟨l,n,_,_,_,_,_,rfl⟩ |⟨_,_,rfl⟩
  ·have x:=T rfl;subst x;have U:j=AQ (AF s.bk) id:=by rw[EB g];rfl
   obtain⟨base,cap,e,g1,g2,_,H⟩:=r.2 U;have hlen:((l.drop off).take len).length=len:=by simp;omega
   have m:l.length<=140737488355328:=S.lens id _ g;refine⟨base,cap,by rw[hlen,e],by rw[hlen];exact g1,by rw[hlen];omega,?_⟩;rcases H with H |⟨b,arr,e',k1,k2,Z,k4⟩
   ·left;exact List.eq_nil_of_length_eq_zero (by rw[hlen];omega)
   have D:=S.blocks id _ g;rcases D with⟨u,M⟩ |⟨b',G,N,u,M,Y⟩
   ·exact absurd (u.symm.trans k1) (by simp)
   obtain rfl:b'=b:=Option.some.inj (u.symm.trans k1);have C:live (AF s.bk) id:=⟨_,g,rfl⟩
   have B:b'<w.heap.size:=by
    rcases Nat.lt_or_ge b' w.heap.size with h' | h'
    ·exact h'
    have F:w.heap[b']? =_:=M;simp[Array.getElem?_eq_none h'] at F
   refine .inr ⟨b',_,k2,⟨.inr ((S.own id b' C u).resolve_right (fun q=>R b' q.1)),B,by simp⟩,fun i y p=>?_⟩
   have hi:l[off+i]? =some y:=by
    rw[List.getElem?_take] at p
    split at p
    ·simpa using p
    cases p
   obtain⟨us,V,W⟩:=Y (off+i) y hi;exact⟨us,CD (w':=w) K _ _ _ V,by rw[show off*t.size+i*t.size=(off+i)*t.size by rw[Nat.add_mul]];exact W⟩
  ·cases L
  exact absurd rfl (O t off len)
 | nil=>
  rcases h with rfl |⟨t,rfl⟩ |⟨t,rfl⟩
  ·exact r
  ·exact⟨none,0,by rw[show v=_ from r];rfl,Nat.le_refl _,by simp,.inl rfl⟩
  cases L
 |int k n|bool b|fn f=>rw[show d=_ from h];exact r
 | sl t l=>rw[show d=_ from h];exact CD (w':=w) K _ _ _ r
 | _=>exact h.elim
theorem lX {I:Nat->Prop} (S:BI w0 X β s a w) (G:∀b,¬X.X b) (D:∀b,X.A b->I b\/w0.heap.size<=b) {c d:AC} {v:Value} (m:FZ d=true) (h:D4 (AF s.bk) c d)
  (r:Ap (cx X w β (AF s.bk)) c v):∃bo,C6 (Yb I w0.heap.size w bo) w0.heap.size bo d v/\(bo=none\/((∃id,live (AF s.bk) id/\β id=bo)/\IM c=true)):=by
 cases c with
 | AN t id u off len=>
  rcases h with⟨l,p,R,rfl⟩ |⟨l,n,_,p,rfl,rfl,rfl,rfl⟩ |⟨_,_,rfl⟩
  ·cases m
  ·have H:u=AQ (AF s.bk) id:=by rw[EB p];rfl
   obtain⟨base,cap,e,g1,g2,_,C⟩:=r.2 H;have g:l.length<=140737488355328:=S.lens id _ p;have j:live (AF s.bk) id:=⟨_,p,rfl⟩;rcases C with rfl |⟨b,arr,e',k1,k2,K,L⟩
   ·exact⟨none,⟨rfl,base,0,e,g1,g2,g,.inl ⟨rfl,List.eq_nil_of_length_eq_zero (by omega),rfl⟩⟩,.inl rfl⟩
   have x:=S.blocks id _ p;rcases x with⟨o,O⟩ |⟨b',z,B,o,O,Q⟩
   ·exact absurd (o.symm.trans k1) (by simp)
   obtain rfl:b'=b:=Option.some.inj (o.symm.trans k1)
   have F:∀b,(cx X w β (AF s.bk)).I b->(Yb I w0.heap.size w (some b')).I b/\w.heap[b]? =w.heap[b]? :=fun b hb=>
    ⟨⟨(D b hb.2).imp (fun q=>⟨rfl,q⟩) (fun q=>q),hb.1.1,fun e=>hb.1.2 id j (o.trans e)⟩,rfl⟩
   refine⟨some b',⟨rfl,base,cap,e,g1,g2,g,.inr ⟨b',arr,e',rfl,(S.own id b' j o).resolve_right (fun q=>G b' q.1),by rw[k2];simp,K,by simpa using L,fun i y J=>?_⟩⟩,.inr ⟨⟨id,j,o⟩,rfl⟩⟩;obtain⟨us,M,N⟩:=Q i y J;exact⟨us,CD (w':=w) F _ _ _ M,N⟩
  cases m
 | nil=>
  rcases h with rfl |⟨t,rfl⟩ |⟨t,rfl⟩
  ·cases m
  ·cases m
  exact⟨none,⟨rfl,none,0,by rw[show v=_ from r];rfl,Nat.le_refl _,Nat.zero_le _,by simp,.inl ⟨rfl,rfl,rfl⟩⟩,.inl rfl⟩
 |int k n|bool b|fn f|sl t l=>rw[show d=_ from h] at m;cases m
 | _=>exact h.elim
theorem SF {I:Nat->Prop} (S:BI w0 X β s a w) (q:∀b,¬X.X b) (p:∀b,X.A b->I b\/w0.heap.size<=b) {bo:Option Nat} (g:bo=none\/∃id,live (AF s.bk) id/\β id=bo):∀{cs f:List AC} {vs:List Value},f.filter FZ=[]->(cs.filter IM≠[]->bo=none)->Ao (D4 (AF s.bk)) cs f->f.all CB=true->
  AS (Ap (cx X w β (AF s.bk))) cs vs->AS (C6 (Yb I w0.heap.size w bo) w0.heap.size bo) f vs
 | [],[],[],_,_,_,_,_=>trivial
 | c::cs,d::f,v::vs,i,m,h3,j,n=>by
  simp only[List.all_cons,Bool.and_eq_true] at j
  have r:FZ d=false:=by
   cases h:FZ d with
   | false=>rfl
   | true=>rw[List.filter_cons,h] at i;simp at i
  refine⟨Yx S q p g r (fun k=>m (by rw[List.filter_cons,k];simp)) h3.1 (fun t o l e=>by subst e;simp[CB,BB] at j) n.1,SF S q p g (by rw[List.filter_cons,r] at i;simpa using i) (fun k=>m (fun e=>k ?_)) h3.2 j.2 n.2⟩;rw[List.filter_cons] at e
  split at e
  ·cases e
  exact e
 |[],[],_::_,_,_,_,_,h|_::_,_::_,[],_,_,_,_,h|[],_::_,_,_,_,h,_,_|_::_,[],_,_,_,h,_,_=>h.elim
theorem Y3 {I:Nat->Prop} (S:BI w0 X β s a w) (u:∀b,¬X.X b) (r:∀b,X.A b->I b\/w0.heap.size<=b):∀{cs g:List AC} {vs:List Value},(g.filter FZ).length<=1->((g.filter FZ).length=1->(cs.filter IM).length<=1)->Ao (D4 (AF s.bk)) cs g->g.all CB=true->
  AS (Ap (cx X w β (AF s.bk))) cs vs->∃bo,AS (C6 (Yb I w0.heap.size w bo) w0.heap.size bo) g vs/\(bo=none\/((∃id,live (AF s.bk) id/\β id=bo)/\cs.filter IM≠[]))
 | [],[],[],_,_,_,_,_=>⟨none,trivial,.inl rfl⟩
 | c::cs,d::g,v::vs,k,j,h3,n,p=>by
  have z:=n;simp only[List.all_cons,Bool.and_eq_true] at n;cases x:FZ d with
  | true=>
   rw[List.filter_cons,x] at k j;simp only[if_true,List.length_cons] at k j;have i:g.filter FZ=[]:=List.eq_nil_of_length_eq_zero (by omega);obtain⟨bo,g1,g2⟩:=lX S u r x h3.1 p.1;refine⟨bo,⟨g1,SF S u r (g2.imp id fun q=>q.1) i (fun B=>?_) h3.2 n.2 p.2⟩,g2.imp id fun q=>⟨q.1,by rw[List.filter_cons,q.2];simp⟩⟩;rcases g2 with g2 |⟨_,g2⟩
   ·exact g2
   exfalso
   have:=j (by rw[i];rfl);rw[List.filter_cons,g2] at this;simp only[if_true,List.length_cons] at this;exact B (List.eq_nil_of_length_eq_zero (by omega))
  | false=>
   rw[List.filter_cons,x] at k j;simp only[Bool.false_eq_true,if_false] at k j;have C:∀t o l,d≠ .AN t 0 0 o l:=fun t o l e=>by subst e;simp[CB,BB] at n
   by_cases y:(g.filter FZ).length=1
   ·have f:=j y
    have m:(cs.filter IM).length<=1:=by
     rw[List.filter_cons] at f
     split at f
     ·simp only[List.length_cons] at f;omega
     exact f
    obtain⟨bo,g1,g2⟩:=Y3 S u r k (fun _=>m) h3.2 n.2 p.2;refine⟨bo,⟨Yx S u r (g2.imp id fun q=>q.1) x (fun D=>?_) h3.1 C p.1,g1⟩,g2.imp id fun q=>⟨q.1,fun e=>q.2 ?_⟩⟩
    ·rcases g2 with g2 |⟨_,g2⟩
     ·exact g2
     rw[List.filter_cons,D] at f;simp only[if_true,List.length_cons] at f;exact absurd (List.eq_nil_of_length_eq_zero (by omega)) g2
    rw[List.filter_cons] at e
    split at e
    ·cases e
    exact e
   have i:g.filter FZ=[]:=List.eq_nil_of_length_eq_zero (by omega);exact⟨none,SF S u r (.inl rfl) (by rw[List.filter_cons,x];simpa using i) (fun _=>rfl) h3 z p,.inl rfl⟩
 |[],[],_::_,_,_,_,_,h|_::_,_::_,[],_,_,_,_,h|[],_::_,_,_,_,h,_,_|_::_,[],_,_,_,h,_,_=>h.elim
end
end
section
variable {P:Program} {TI:TypeId->Info}
section
variable {w0:World} {X:WX} {β:Nat->Option Nat} {s:St} {a:Act} {w:World}
theorem On (j:∀t,DW P t (TI t)) (S:BI w0 X β s a w):∀{rs:List ResultVar} {xs ys:List (Bool×List AC)},Hu TI s rs=some xs->Ht (AF s.bk) xs ys->
  ∃vs us,AS (fun r v=>(MS a.tmps r).run P w= .ok v w) rs vs/\AS (Ap (cx X w β (AF s.bk))) (xs.flatMap (·.2)) us/\
   ∀(y:Cx) (lo:Nat) (bo:Option Nat),AS (C6 y lo bo) (ys.flatMap (·.2)) us->AS (fun z q=>Fo y lo bo (DI z) q) ys vs
 | [],xs,ys,h,f=>by
  simp only[Hu,Option.some.injEq] at h;subst h;cases ys with
  | nil=>exact⟨[],[],trivial,trivial,fun _ _ _ _=>trivial⟩
  | cons _ _=>exact f.elim
 | r::rs,xs,ys,h,f=>by
  simp only[Hu] at h
  split at h
  ·rename_i b D p u
   obtain rfl:=Option.some.inj h;cases ys with
   | nil=>exact f.elim
   | cons b' ys=>
    obtain⟨⟨e,k⟩,f⟩:=f;obtain⟨v,us,g1,g2,n,o⟩:=lZ j S p k;obtain⟨vs,i,k1,k2,B⟩:=On j S u f;refine⟨v::vs,us++i,⟨g1,k1⟩,by rw[List.flatMap_cons];exact g2.append k2,fun y lo bo d=>?_⟩;rw[List.flatMap_cons] at d;obtain⟨m1,m2,e',g,C⟩:=d.Rl
    have hlen:us.length=m1.length:=by
     rw[<-g2.length,<-g.length]
     have:∀{l m:List AC},Ao (D4 (AF s.bk)) l m->l.length=m.length:=by
      intro l
      induction l with
      | nil=>intro m h;cases m <;> first | rfl | exact h.elim
      | cons x l A=>intro m h;cases m with
       | nil=>exact h.elim
       | cons y m=>simp[A h.2]
     exact this k
    obtain⟨rfl,rfl⟩:=List.append_inj e' hlen;refine⟨?_,B y lo bo C⟩;obtain⟨t,cs⟩:=b';simp only at e;cases t with
    | true=>exact⟨us.toArray,n e,by simpa using g⟩
    | false=>
     rcases o e with rfl | rfl
     ·cases cs with
      | nil=>exact .inl rfl
      | cons _ _=>exact g.elim
     cases cs with
     | nil=>exact g.elim
     | cons c cs=>exact .inr g.1
  cases h
end
theorem Xx:∀(l m:List AV) (i:Nat),nth (l++m) i=if i<l.length then nth l i else nth m (i-l.length)
 | [],m,i=>by simp
 | x::l,m,0=>by simp[nth]
 | x::l,m,i+1=>by simp[nth,Xx l m i]
theorem AS.nth {x:Cx}:∀{l:List AV} {vs:List Value} (i:Nat),AS (BK x) l vs->i<l.length->BK x (nth l i) (vs.getD i undef)
 | _::_,_::_,0,h,_=>by simpa [Abs.nth] using h.1
 | _::_,_::_,i+1,h,hi=>by simpa [Abs.nth] using AS.nth i h.2 (by simpa using hi)
 | [],[],_,_,hi=>by simp at hi
 |[],_::_,_,h,_|_::_,[],_,h,_=>h.elim
theorem Oh {x y:Cx} (h:∀b,x.I b->y.I b/\y.w.heap[b]? =x.w.heap[b]?):∀{l:List AV} {vs:List Value},(l.all fun c=>match c with | .AG _=>false | c=>c.all BB)=true->AS (BK x) l vs->AS (BK y) l vs
 | [],[],_,_=>trivial
 | .one c::_,_::_,e,r=>by
  simp only[List.all_cons,Bool.and_eq_true] at e;exact⟨r.1.imp (fun q=>q) (MH h e.1),Oh h e.2 r.2⟩
 | .agg c::_,_::_,e,r=>by
  simp only[List.all_cons,Bool.and_eq_true] at e;obtain⟨arr,e',d⟩:=r.1;exact⟨⟨arr,e',AS.pure h e.1 d⟩,Oh h e.2 r.2⟩
 | .AG _::_,_::_,e,_=>by simp at e
 |[],_::_,_,r|_::_,[],_,r=>r.elim
theorem BI.start {w:World} {X:WX} {args:List AV} {vs:List Value} {n:Nat} {f:Option AL} (q:args.length<=n) (m:∀b,X.ob=some b->X.X b) (l:∀b,w.heap.size<=b->X.A b) (o:∀b,f=some b->b.AQ=0/\b.short/\0<n)
  (c:AS (BK (cx X w (β0 X.ob) (AF (Cw n args f).bk))) args vs) (hb:∀b,f=some b->Cc (cx X w (β0 X.ob) (AF (Cw n args f).bk)) 0 b):
  BI w X (β0 X.ob) (Cw n args f) {tmps:=vs.toArray++Array.replicate (n-vs.toArray.size) undef,defers:=[]} w:=by
 have hlen:=c.length
 have d:∀id b,AF (Cw n args f).bk id=some b->id=0/\f=some b:=by
  intro id b h;cases n with
  | zero=>simp[Cw,AF] at h
  | succ n=>
   cases id with
   | zero=>exact⟨rfl,h⟩
   | succ id=>
    have:AF (Gs n none) id=some b:=h;rw[Rc] at this;cases this
 refine⟨rfl,?_,?_,fun i=>?_,fun id b h=>?_,fun id p b ⟨_,g,_⟩ ⟨_,k,_⟩ _ _=>?_,fun id b ⟨_,g,_⟩ j=> .inr ?_,rfl,rfl,rfl,Nat.le_refl _,fun _ _ _=>rfl,fun id b h=>?_,l,fun _ _=>⟨rfl,fun b arr e _ he=>⟨arr,he,rfl⟩⟩⟩
 ·simp[Cw,Gi];omega
 ·simp[Cw];cases n with
  | zero=>simp;omega
  | succ n=>simp[Gi];omega
 ·show BK _ (nth (args++_) i) _
  rw[Xx]
  split
  ·rename_i hi
   have:=c.nth i hi
   have e:(vs.toArray++Array.replicate (n-vs.toArray.size) undef).getD i undef=vs.getD i undef:=by
    rw[Array.getD_eq_getD_getElem?,Array.getElem?_append_left (by simpa [<-hlen] using hi)];simp[List.getD_eq_getElem?_getD]
   rw[e];exact this
  rw[RZ];exact Im _ _
 ·obtain⟨rfl,h'⟩:=d id b h;exact hb b h'
 ·rw[(d _ _ g).1,(d _ _ k).1]
 ·obtain⟨rfl,_⟩:=d _ _ g;exact⟨m b j,rfl⟩
 exact (o b (d id b h).2).2.1
def Ih (args:List AV):Bool:=args.all fun c=>match c with | .AG _=>false | c=>c.all BB
structure Fn (P:Program) (TI:TypeId->Info) (f:FuncId) (n:Nat) (c:Code) (rs:List ResultVar):Prop where
 get : ∃ fn, P.funcs[f]? = some fn /\ (fn.name == "runtime.NumGoroutine") = false /\ fn.body = some c /\ fn.ntmps = n /\ fn.results.toList = rs
 dst:GY c=true
 ty:∀t,DW P t (TI t)
 mixed:P.follows .mixedOrders=true
theorem QX {r:AV} {y:Cx} {lo:Nat} {bo:Option Nat} {vs:List Value} (b:vs.length=1↔∀ys,r≠ .AG ys) (h:AS (fun z q=>Fo y lo bo (DI z) q) r.EF vs):GR y lo bo r (Hq vs):=by
 cases r with
 | AG xs=>
  have:vs.length≠1:=fun e=>b.1 e xs rfl
  have e:Hq vs= .tuple vs.toArray:=by
   match vs,this with
   | [],_=>rfl
   | [_],h=>exact absurd rfl h
   | _::_::_,_=>rfl
  exact⟨vs.toArray,e,h⟩
 | one c=>
  match vs,h with
  | [v],h=>exact h.1
 | agg cs=>
  match vs,h with
  | [v],h=>exact h.1
theorem UL {f:FuncId} {n:Nat} {c:Code} {rs:List ResultVar} (F:Fn P TI f n c rs) {args:List AV} {r:AV} (R:Ih args=true) (A:r.all CB=true/\r.wf=true) (O:args.length<=n)
  (h:Cr (env P) TI n c (post TI rs r none) (Cw n args none)):E8 P false f args r:=by
 obtain⟨fn,J,p,hb,t,B⟩:=F.get;refine⟨⟨fn,c,J,p,hb⟩,A,fun w I vs N j=>?_⟩;refine calls_of_wp J hb ?_
 have K:BI w ⟨fun _=>False,fun b=>I b\/w.heap.size<=b,none⟩ (β0 none) (Cw n args none) {tmps:=vs.toArray++Array.replicate (n-vs.toArray.size) undef,defers:=[]} w:=
  BI.start (X:=⟨fun _=>False,fun b=>I b\/w.heap.size<=b,none⟩) O (fun _ e=>by cases e) (fun b hb=> .inr hb) (fun b e=>by cases e)
   (Oh (x:=DC w I) (y:=cx ⟨fun _=>False,fun b=>I b\/w.heap.size<=b,none⟩ w (β0 none) (AF (Cw n args none).bk)) (fun b hb=>⟨⟨⟨N b hb,fun id _ e=>by simp[β0] at e⟩,.inl hb⟩,rfl⟩) R j) (fun b e=>by cases e)
 rw[t];refine wp_mono (Ez F.mixed (fun o Q=>SZ F.ty o Q) F.dst (by simp[Cw,Gi];omega) K h) fun e G w' he=>?_
 obtain⟨x,s',β',rfl,g,_,S⟩:=he
 have fin:post TI rs r none x s'->x≠ .exit 0/\(∀i,x≠ .exit i)->G.defers=[]/\∃v,(results fn G.tmps).run P w'= .ok v w'/\∃u bo,Ending.returned v= .returned u/\Below w.heap.size w w'/\
   GR (DC w' fun b=>((false=false/\I b)\/w.heap.size<=b)/\b<w'.heap.size/\bo≠some b) w.heap.size bo r u:=by
  intro g T;refine⟨S.defers,?_⟩
  have z:∃xs,Hu TI s' rs=some xs/\Ht (AF s'.bk) xs r.EF/\Oc xs r.EF=true/\(rs.length=1↔∀ys,r≠ .AG ys):=by
   unfold post at g
   split at g
   ·exact absurd rfl (T.2 _)
   split at g
   ·rename_i xs C
    exact⟨xs,C,g.1 ()⟩
   exact g.elim
  obtain⟨xs,L,H,h3,M⟩:=z;obtain⟨us,ws,k1,k2,U⟩:=On F.ty S L H
  have k:Ao (D4 (AF s'.bk)) (xs.flatMap (·.2)) (r.EF.flatMap (·.2)):=by
   have app:∀{l m l' m':List AC},Ao (D4 (AF s'.bk)) l m->Ao (D4 (AF s'.bk)) l' m'->Ao (D4 (AF s'.bk)) (l++l') (m++m'):=by
    intro l
    induction l with
    | nil=>intro m l' m' h h';cases m <;> first | exact h' | exact h.elim
    | cons x l D=>intro m l' m' h h';cases m with
     | nil=>exact h.elim
     | cons y m=>exact⟨h.1,D h.2 h'⟩
   have:∀{l m:List (Bool×List AC)},Ht (AF s'.bk) l m->Ao (D4 (AF s'.bk)) (l.flatMap (·.2)) (m.flatMap (·.2)):=by
    intro l
    induction l with
    | nil=>intro m h;cases m <;> first | trivial | exact h.elim
    | cons x l D=>intro m h;cases m with
     | nil=>exact h.elim
     | cons y m=>rw[List.flatMap_cons,List.flatMap_cons];exact app h.1.2 (D h.2)
   exact this H
  have q:(r.EF.flatMap (·.2)).all CB=true:=by
   cases r with
   |one c|agg cs=>simpa [AV.EF,AV.comp,AV.all] using A.1
   | AG xs=>simp only[AV.EF,List.all_flatMap];exact A.1
  have d:((r.EF.flatMap (·.2)).filter FZ).length<=1/\(((r.EF.flatMap (·.2)).filter FZ).length=1->((xs.flatMap (·.2)).filter IM).length<=1):=by
   unfold Oc at h3
   split at h3
   ·rename_i e;rw[e];simp
   ·rename_i e;rw[e];simpa using h3
   cases h3
  obtain⟨bo,g1,_⟩:=Y3 (I:=I) S (fun b h=>h) (fun b h=>h) d.1 d.2 k q k2;have hlen:us.length=rs.length:=k1.length.symm;refine⟨Hq us,SG (by rw[B];exact k1),Hq us,bo,rfl,⟨S.os,S.tape,S.output,S.size,fun b hb=>S.block b hb (fun h=>h)⟩,?_⟩;exact QX (by rw[hlen];exact M) (U _ _ _ g1)
 cases x with
 |Cu|ret=>exact fin g ⟨by simp,by simp⟩
 | exit i=>exact g.elim
end
end Go.Abs
