/- Part 7 of a proof. Conditions: each theorem's own. -/
import Derived.Laws.Sem
import Derived.Test.YtmhbikooakmagaaGreatQk05
set_option linter.all false
set_option maxHeartbeats 8000000
set_option maxRecDepth 20000
namespace Go.Abs
open Go.RowKit
section
variable {P:Program} {E:Env} {TI:TypeId->Info}
theorem fO {c:Code} {Q:Exit->Act->World->Prop} (I:Nat->Act->World->Prop) {k:Nat} {a:Act} {w:World} (m:I k a w)
  (round:∀k a w,I k a w->c.wp P (Exit.then (fun g w'=>∃k',k'<k/\I k' g w') Q) a w):(Code.loop c).wp P Q a w:=by
 have least:∀(a:Act) (w:World) (n:Nat),I n a w->∃k,I k a w/\∀j,I j a w->k<=j:=by
  intro a w n
  induction n using Nat.strongRecOn with
  | _ n r=>
   intro l
   by_cases h:∃j,j<n/\I j a w
   ·obtain⟨j,d,b⟩:=h;exact r j d b
   exact⟨n,l,fun j q=>Nat.le_of_not_lt fun i=>h ⟨j,i,q⟩⟩
 have⟨μ,f⟩:∃μ:Act->World->Nat,∀a w,(∃n,I n a w)->I (μ a w) a w/\∀j,I j a w->μ a w<=j:=by
  have:∀p:Act×World,∃k,(∃n,I n p.1 p.2)->I k p.1 p.2/\∀j,I j p.1 p.2->k<=j:=fun p=>by
   by_cases h:∃n,I n p.1 p.2
   ·obtain⟨n,l⟩:=h;obtain⟨k,d,b⟩:=least p.1 p.2 n l;exact⟨k,fun _=>⟨d,b⟩⟩
   exact⟨0,fun h'=>absurd h' h⟩
  exact⟨fun a w=>Classical.choose (this (a,w)),fun a w=>Classical.choose_spec (this (a,w))⟩
 refine wp_loop (fun a w=>∃n,I n a w) μ ⟨k,m⟩ fun a w o=>?_
 refine wp_mono (round _ a w (f a w o).1) fun e g w' he=>?_
 cases e with
 | normal=>obtain⟨k',d,b⟩:=he;exact⟨⟨k',b⟩,Nat.lt_of_le_of_lt ((f g w' ⟨k',b⟩).2 k' b) d⟩
 | _=>exact he
def IU (s:St) (bs:List Nat) (k:Nat):AK:=match AF s.bk k with | some b=>if k==0&&b.AO !=0 then .dead 0 else Ju (AF s.bk) bs b | none=> .dead 0
theorem Jm (s:St) (c:List Nat) (k:Nat):IU s c k= .dead 0\/∃b,AF s.bk k=some b/\IU s c k=Ju (AF s.bk) c b/\(k=0->b.AO=0):=by
 unfold IU
 split
 ·rename_i b hb
  split
  ·exact .inl rfl
  rename_i h
  refine .inr ⟨b,hb,rfl,fun e=>?_⟩;subst e;simpa using h
 exact .inl rfl
theorem bO (bk:Nat->Option AK) (c:List Nat) (b:AK):(Ju bk c b).AO=0:=by cases b <;> rfl
theorem bM (bk:Nat->Option AK) (c:List Nat) (b:AK):(Ju bk c b).live=b.live:=by cases b <;> rfl
theorem aR (s:St) (b:List Nat) (k:Nat) (r:List Nat):C0 s b (k::r)=IU s b k::C0 s b r:=rfl
theorem Tg (s:St) (b:List Nat):∀(d:List Nat) (l:List (Option AK)) (id:Nat),AF (Fa d (C0 s b d) l) id=if id∈d/\id<l.length then some (IU s b id) else AF l id
 | [],l,id=>by simp[Fa,C0]
 | k::r,l,id=>by
  rw[aR,Fa,Tg s b r,Ek,FZ]
  by_cases c:id<l.length
  ·by_cases f:id∈r
   ·simp[c,f]
   by_cases h3:id=k
   ·subst h3;simp[c,f]
   simp[c,f,h3]
  by_cases h3:id=k
  ·subst h3;simp[c]
  simp[c,h3]
theorem Te (s:St) (b:List Nat):∀(f:List Nat) (l:List AV) (i:Nat),nth (Ep f (DF s b f) l) i=if i∈f/\i<l.length then OK (AF s.bk) b (nth s.sl i) else nth l i
 | [],l,i=>by simp[Ep,DF]
 | k::r,l,i=>by
  rw[DF,Ep,Te s b r,Ek,Hf]
  by_cases c:i<l.length
  ·by_cases d:i∈r
   ·simp[c,d]
   by_cases h3:i=k
   ·subst h3;simp[c,d]
   simp[c,d,h3]
  by_cases h3:i=k
  ·subst h3;simp[c]
  simp[c,h3]
theorem S4:∀(d:List Nat) (c:List AK) (l:List (Option AK)),(Fa d c l).length=l.length
 |[],_,_|_::_,[],_=>by simp[Fa]
 | k::r,b::c,l=>by rw[Fa,S4 r,Ek]
theorem Jo:∀(c:List Nat) (vs:List AV) (l:List AV),(Ep c vs l).length=l.length
 |[],_,_|_::_,[],_=>by simp[Ep]
 | k::r,b::d,l=>by rw[Ep,Jo r,Ek]
theorem FV {α:Type}:∀(n:Nat) (x:α),(Fb n x).length=n
 | 0,_=>rfl
 | n+1,x=>by simp[Fb,FV n x]
theorem ON:∀(n i:Nat),AF (Fb n none) i=none
 |0,_|n+1,0=>rfl
 | n+1,i+1=>ON n i
theorem OL:∀(n i:Nat),nth (Fb n (.one .BJ)) i= .one .BJ
 |0,_|n+1,0=>rfl
 | n+1,i+1=>OL n i
theorem TZ {x y:Cx} {bk:Nat->Option AK} {j:List Nat} (hw:y.w=x.w) (d:y.β=x.β) (g:x.cv=AO bk) (p:∀id,y.cv id=0) (f:∀b,x.I b->y.I b):∀{c:AC} {v:Value},Ah x c v->Ah y (G4 bk j c) v
 |.BJ,_,r|.int _ _,_,r|.bool _,_,r|.fn _,_,r|.nil,_,r=>r
 | .sl _ _,_,r=>B3 (fun b hb=>⟨f b hb,by rw[hw]⟩) _ _ _ r
 | .AN t id v off len,u,r=>by
  simp only[G4]
  split
  ·rename_i h
   simp only[Bool.and_eq_true,beq_iff_eq] at h;have:=r.2 (by rw[g];exact h.2.symm);exact⟨⟨r.1.1,Nat.zero_le _⟩,fun _=>by rw[hw,d];exact this⟩
  exact r.1.1
 | .CU _ _ _ _ _,_,r=>r.1.1
 | .Ak id v off,u,r=>by
  simp only[G4]
  split
  ·rename_i h
   simp only[Bool.and_eq_true,beq_iff_eq] at h;have:=r.2 (by rw[g];exact h.2.symm);exact⟨⟨r.1.1,Nat.zero_le _⟩,fun _=>by rw[d];exact this⟩
  exact r.1.1
 | .B8 t id v i k,u,r=>by
  simp only[G4]
  split
  ·rename_i h
   simp only[Bool.and_eq_true,beq_iff_eq] at h;have:=r.2 (by rw[g];exact h.2.symm);exact⟨⟨r.1.1,Nat.zero_le _⟩,fun _=>by rw[d];exact this⟩
  exact r.1.1
 | .ub _,_,h=>h
 | .Cc t z off,_,⟨b,o,us,l,m,h3,n⟩=>⟨b,o,us,l,f b m,B3 (fun b hb=>⟨f b hb,by rw[hw]⟩) _ _ _ h3,by rw[hw];exact n⟩
 | .own _ _ _,_,r=>r.elim
theorem AR.norm {x y:Cx} {bk:Nat->Option AK} {i:List Nat} (hw:y.w=x.w) (c:y.β=x.β) (f:x.cv=AO bk) (g:∀id,y.cv id=0) (d:∀b,x.I b->y.I b):∀{cs:List AC} {us:List Value},AR (Ah x) cs us->AR (Ah y) (cs.map (G4 bk i)) us
 | [],[],_=>trivial
 | _::_,_::_,h=>⟨TZ hw c f g d h.1,AR.norm hw c f g d h.2⟩
 |[],_::_,h|_::_,[],h=>h.elim
theorem bP {x y:Cx} {bk:Nat->Option AK} {j:List Nat} (hw:y.w=x.w) (d:y.β=x.β) (g:x.cv=AO bk) (i:∀id,y.cv id=0) (f:∀b,x.I b->y.I b) {a:AV} {v:Value} (h:BB x a v):BB y (OK bk j a) v:=by
 cases a with
 | one c=>
  rcases h with rfl | h
  ·exact .inl rfl
  exact .inr (TZ hw d g i f h)
 | agg cs=>obtain⟨arr,e,h⟩:=h;exact⟨arr,e,AR.norm hw d g i f h⟩
 | AI _=>exact .inl rfl
theorem Av.head {w0:World} {X:WX} {β:Nat->Option Nat} {s:St} {a:Act} {w:World} (S:Av w0 X β s a w) {n:Nat} (A:s.sl.length=n) (g c:List Nat):Av w0 X β (FX n g (DF s c g) c (C0 s c c)) a w:=by
 have k:∀id b,AF (FX n g (DF s c g) c (C0 s c c)).bk id=some b->b=IU s c id:=fun id b h=>by
  have h:AF (Fa c (C0 s c c) (Fb n none)) id=some b:=h;rw[Tg,ON] at h
  split at h
  ·exact (Option.some.inj h).symm
  cases h
 have m:∀id,AO (AF (FX n g (DF s c g) c (C0 s c c)).bk) id=0:=fun id=>by
  unfold AO
  split
  ·rename_i b hb
   rw[k id b hb];rcases Jm s c id with h |⟨b',_,h,_⟩ <;> rw[h]
   ·rfl
   exact bO _ _ _
  rfl
 have d:∀id,live (AF (FX n g (DF s c g) c (C0 s c c)).bk) id->live (AF s.bk) id:=fun id ⟨b,hb,j⟩=>by
  have:=k id b hb;subst this;rcases Jm s c id with h |⟨b',f,h,_⟩ <;> rw[h] at j
  ·cases j
  rw[bM] at j;exact⟨b',f,j⟩
 have u:∀b,(cx X w β (AF s.bk)).I b->(cx X w β (AF (FX n g (DF s c g) c (C0 s c c)).bk)).I b:=fun b hb=>⟨⟨hb.1.1,fun id j=>hb.1.2 id (d id j)⟩,hb.2⟩
 refine⟨S.defers,?_,?_,fun i=>?_,fun id b hb=>?_,fun id z b o p=>S.inj id z b (d _ o) (d _ p),fun id b o=>S.own id b (d _ o),S.os,S.tape,S.output,S.size,S.block,fun id b hb=>?_,S.fresh,fun j _=>?_⟩
 ·show (Ep _ _ _).length=_
  rw[Jo,FV,<-A];exact S.len
 ·show (Fa _ _ _).length=_
  rw[S4,FV,<-A];exact S.len
 ·show BB _ (nth (Ep _ _ _) i) _
  rw[Te,OL]
  split
  ·exact bP (x:=cx X w β (AF s.bk)) (y:=cx X w β (AF (FX n g (DF s c g) c (C0 s c c)).bk)) rfl rfl rfl m u (S.Bf i)
  exact HD _ _
 ·have:=k id b hb;subst this;rcases Jm s c id with h |⟨b',f,h,_⟩ <;> rw[h]
  ·trivial
  have r:=S.blocks id b' f;cases b' with
  | dead _=>trivial
  | var _ cs=>obtain⟨b,arr,e,o,p,h3⟩:=r;exact⟨b,arr,e,o,p,AR.norm (x:=cx X w β (AF s.bk)) (y:=cx X w β (AF (FX n g (DF s c g) c (C0 s c c)).bk)) rfl rfl rfl m u h3⟩
  | arr _ t l=>
   refine r.imp (fun q=>q) fun⟨b,arr,e,o,p,h3⟩=>⟨b,arr,e,o,p,fun i y C=>?_⟩
   obtain⟨us,D,F⟩:=h3 i y C;exact⟨us,B3 (w':=w) (fun b hb=>⟨u b hb,rfl⟩) _ _ _ D,F⟩
 ·have:=k id b hb;subst this;rcases Jm s c id with h |⟨b',f,h,_⟩ <;> rw[h]
  ·trivial
  have:=S.lens id b' f;cases b' <;> exact this
 have v:=d 0 j;obtain⟨b,hb,j⟩:=j;have:=k 0 b hb;subst this;rcases Jm s c 0 with h |⟨b',f,h,B⟩ <;> rw[h] at j
 ·cases j
 exact S.IN v (by unfold AO;rw[f];exact B rfl)
theorem UO (a:Act) (k:Nat):a.put (some k) (a.tmps.getD k undef)=a:=by
 have h:a.tmps.setIfInBounds k (a.tmps.getD k undef)=a.tmps:=by
  apply Array.ext
  ·simp
  intro i c b;rw[Array.getElem_setIfInBounds]
  split
  ·subst_vars;simp[Array.getD,b]
  rfl
 simp only[Act.put,h]
theorem Av.conv {w0:World} {X:WX} {a:Act} {w:World} {n:Nat}:∀{s:St} {β:Nat->Option Nat},Av w0 X β s a w->s.sl.length=n->∀(cv:List (Nat×T×Bool)),∃β',Av w0 X β' (IC s cv) a w/\(IC s cv).sl.length=n
 | s,β,S,d,[]=>⟨β,S,d⟩
 | s,β,S,d,(k,t,b)::r=>by
  have x:∀{c:AC},(∀v:Value,v= .slice none 0 0->Ah (cx X w β (AF s.bk)) c v)->nth s.sl k= .one .nil->Av w0 X β ⟨Al s.sl k (.one c),s.bk⟩ a w:=fun {c} o e=>by
   have i:=S.Bf k;rw[e] at i;have f:a.tmps.getD k undef= .slice none 0 0:=i.resolve_left (by simp);have:=S.val (dst:=some k) (v:= .one c) (u:=a.tmps.getD k undef) (rd:=[]) (.inr (o _ f));rw[UO] at this;exact this
  unfold IC
  split
  ·rename_i e
   exact Av.conv (x (c:= .sl t []) (fun v f=>⟨none,0,by rw[f];rfl,Nat.le_refl _,Nat.zero_le _,.inl rfl⟩) e) (by rw[Ek];exact d) r
  ·rename_i e
   by_cases g:k<s.bk.length
   ·have i:=S.Bf k;rw[e] at i;have f:a.tmps.getD k undef= .slice none 0 0:=i.resolve_left (by simp)
    have:=S.write (β':=fun j=>if j=k then none else β j) (w':=w) (dst:=some k) (v:= .one (.AN t k (AO (AF s.bk) k+1) 0 0)) (u:=a.tmps.getD k undef) (rd:=[]) (id:=k) (Az:= .arr (AO (AF s.bk) k+1) t []) g (Nat.zero_le _)
     (fun j q=>by simp[q]) (by simp[AK.AO]) (fun e=>by simp[AK.AO] at e) (fun _ _ _=>rfl) (Nat.le_refl _) (fun b arr e p=>⟨arr,p,rfl⟩) rfl rfl rfl (fun _ b hb=>by simp at hb)
     (fun _=> .inl ⟨by show (if k=k then _ else _)=_;simp,rfl⟩)
     (fun _=> .inr ⟨⟨by rw[f];rfl,by show _<=AO _ k;rw[EC _ _ _ g,if_pos rfl];exact Nat.le_refl _⟩,fun _=>⟨none,0,f,Nat.le_refl _,Nat.zero_le _,fun h=>(by cases h),.inl rfl⟩⟩)
    rw[UO] at this;exact Av.conv this (by show (Al _ _ _).length=_;rw[Ek];exact d) r
   have l:Al s.sl k (.one (.AN t k (AO (AF s.bk) k+1) 0 0))=s.sl:=Ff _ _ _ (by rw[S.len,<-S.F2];omega);have m:Al s.bk k (some (AK.arr (AO (AF s.bk) k+1) t []))=s.bk:=Ff _ _ _ (by omega);rw[l,m];exact Av.conv S d r
  exact Av.conv S d r
def FO:Code->Bool
 | .region _ ops _=>ops.toList.all LH
 |.seq a b|.cond _ a b=>FO a&&FO b
 |.block _ c|.loop c=>FO c
 | _=>true
def eY:AX->Exit
 | .CJ=> .normal
 | .exit n=> .exit n
 | .ret=> .ret
def HN (w0:World) (X:WX) (n:Nat) (Q:AX->St->Prop) (e:Exit) (a:Act) (w:World):Prop:=
 ∃x s β,e=eY x/\Q x s/\s.sl.length=n/\Av w0 X β s a w
theorem EG (hm:P.follows .mixedOrders=true) (m:∀o,LH o=true->Sound P E TI o) {n:Nat} {w0:World} {X:WX}:∀{c:Code} {Q:AX->St->Prop} {β:Nat->Option Nat} {s:St} {a:Act} {w:World},FO c=true->s.sl.length=n->Av w0 X β s a w->CH E TI n c Q s->
  c.wp P (HN w0 X n Q) a w
 | .skip,Q,β,s,a,w,_,g,S,h=>wp_skip ⟨.CJ,s,β,rfl,h,g,S⟩
 | .exit i,Q,β,s,a,w,_,g,S,h=>wp_exit ⟨.exit i,s,β,rfl,h,g,S⟩
 | .ret,Q,β,s,a,w,_,g,S,h=>wp_ret ⟨.ret,s,β,rfl,h,g,S⟩
 | .region id ops draw,Q,β,s,a,w,l,g,S,h=>
  cb hm (fun o G=>m o (List.all_eq_true.1 l o G)) S h fun s' t C β' r w' j=>⟨.CJ,s',β',rfl,t,by rw[C];exact g,j⟩
 | .seq x y,Q,β,s,a,w,l,g,S,h=>by
  simp only[FO,Bool.and_eq_true] at l;refine wp_seq (wp_mono (EG hm m l.1 g S h) fun e r w' he=>?_);obtain⟨x',s',β',rfl,f,d,j⟩:=he;cases x' with
  | CJ=>exact EG hm m l.2 d j f
  | exit i=>exact⟨.exit i,s',β',rfl,f,d,j⟩
  | ret=>exact⟨.ret,s',β',rfl,f,d,j⟩
 | .cond c x y,Q,β,s,a,w,l,g,S,h=>by
  simp only[FO,Bool.and_eq_true] at l;have q:=B7 S.Bf c
  have plain:(match ev s.sl c with | .one (.bool true)=>CH E TI n x Q s | .one (.bool false)=>CH E TI n y Q s | .one (.ub u)=>(u=true->CH E TI n x Q s)/\CH E TI n y Q s | _=>False)->(Code.cond c x y).wp P (HN w0 X n Q) a w:=by
   intro h
   split at h
   ·rename_i he
    rw[he] at q;exact wp_cond_true (BE q (by simp)) (EG hm m l.1 g S h)
   ·rename_i he
    rw[he] at q;exact wp_cond_false (BE q (by simp)) (EG hm m l.2 g S h)
   ·rename_i u he
    rw[he] at q;obtain⟨b,hb,z⟩:=BE q (by simp);cases b with
    | true=>exact wp_cond_true hb (EG hm m l.1 g S (h.1 (z rfl)))
    | false=>exact wp_cond_false hb (EG hm m l.2 g S h.2)
   exact h.elim
  simp only[CH] at h
  split at h
  ·rcases h with⟨v,p,J,A,h⟩ | h
   ·have fin:∀e r w',HN w0 X n (fun e s'=>match e with | .CJ=>J (DF s' p v) (C0 s' p p) | .exit i=>Q (.exit i) s' | .ret=>Q .ret s') e r w'->HN w0 X n Q e r w':=by
     rintro e r w' ⟨x',s',β',rfl,f,d,j⟩;cases x' with
     | CJ=>exact⟨.CJ,_,β',rfl,A _ _ f,by show (Ep _ _ _).length=_;rw[Jo,FV],j.head d v p⟩
     | exit i=>exact⟨.exit i,s',β',rfl,f,d,j⟩
     | ret=>exact⟨.ret,s',β',rfl,f,d,j⟩
    split at h
    ·rename_i he
     rw[he] at q;exact wp_cond_true (BE q (by simp)) (wp_mono (EG hm m l.1 g S h) fin)
    ·rename_i he
     rw[he] at q;exact wp_cond_false (BE q (by simp)) (wp_mono (EG hm m l.2 g S h) fin)
    ·rename_i u he
     rw[he] at q;obtain⟨b,hb,z⟩:=BE q (by simp);cases b with
     | true=>exact wp_cond_true hb (wp_mono (EG hm m l.1 g S (h.1 (z rfl))) fin)
     | false=>exact wp_cond_false hb (wp_mono (EG hm m l.2 g S h.2) fin)
    exact h.elim
   exact plain h
  exact plain h
 | .block id c,Q,β,s,a,w,l,g,S,h=>by
  rcases h with⟨v,p,J,A,h⟩ | h
  ·refine wp_block (wp_mono (EG hm m (c:=c) l g S h) fun e r w' he=>?_);obtain⟨x',s',β',rfl,f,d,j⟩:=he
   have fin:J (DF s' p v) (C0 s' p p)->HN w0 X n Q .normal r w':=fun f=>
    ⟨.CJ,_,β',rfl,A _ _ f,by show (Ep _ _ _).length=_;rw[Jo,FV],j.head d v p⟩
   cases x' with
   | CJ=>exact fin f
   | exit i=>
    show Exit.inBlock id (HN w0 X n Q) (.exit i) r w'
    simp only[Exit.inBlock];simp only at f
    split
    ·rename_i t;rw[if_pos t] at f;exact fin f
    rename_i t;rw[if_neg t] at f;exact⟨.exit i,s',β',rfl,f,d,j⟩
   | ret=>exact⟨.ret,s',β',rfl,f,d,j⟩
  refine wp_block (wp_mono (EG hm m (c:=c) l g S h) fun e r w' he=>?_);obtain⟨x',s',β',rfl,f,d,j⟩:=he;cases x' with
  | CJ=>exact⟨.CJ,s',β',rfl,f,d,j⟩
  | exit i=>
   show Exit.inBlock id (HN w0 X n Q) (.exit i) r w'
   simp only[Exit.inBlock];simp only at f
   split
   ·rename_i t;rw[if_pos t] at f;exact⟨.CJ,s',β',rfl,f,d,j⟩
   rename_i t;rw[if_neg t] at f;exact⟨.exit i,s',β',rfl,f,d,j⟩
  | ret=>exact⟨.ret,s',β',rfl,f,d,j⟩
 | .loop c,Q,β,s,a,w,l,g,S,h=>by
  obtain⟨cv,v,p,J,⟨k0,D⟩,H⟩:=h;obtain⟨β,S,g⟩:=S.conv g cv;refine fO (fun k a w=>∃vs B β,J vs B k/\Av w0 X β (FX n v vs p B) a w) ⟨_,_,β,D,S.head g v p⟩ fun k a w F=>?_
  obtain⟨vs,B,β,A,S⟩:=F;refine wp_mono (EG hm m (c:=c) l (by show (Ep _ _ _).length=_;rw[Jo,FV]) S (H vs B k A)) fun e r w' he=>?_
  obtain⟨x',s',β',rfl,f,d,j⟩:=he;cases x' with
  | CJ=>obtain⟨k',t,C⟩:=f;exact⟨k',t,_,_,β',C,j.head d v p⟩
  | exit i=>exact⟨.exit i,s',β',rfl,f,d,j⟩
  | ret=>exact⟨.ret,s',β',rfl,f,d,j⟩
 |.rangeFunc _ _ _ _,_,_,_,_,_,_,_,_,h|.scope _,_,_,_,_,_,_,_,_,h|.label _,_,_,_,_,_,_,_,_,h|.goto _,_,_,_,_,_,_,_,_,h|.refuse _,_,_,_,_,_,_,_,_,h=>h.elim
end
section
variable {P:Program} {TI:TypeId->Info}
def KD (tmps:Array Value):ResultVar->Sem Value
 | .tmp t=>pure (tmps.getD t undef)
 | .cell a t=>do loadVar t (<-asAddr (tmps.getD a undef))
theorem TE {w:World} {f:ResultVar->Sem Value}:∀{l:List ResultVar} {vs:List Value},AR (fun r v=>(f r).run P w= .ok v w) l vs->(l.mapM f).run P w= .ok vs w
 | [],[],_=>by simp
 | r::l,v::vs,h=>by
  rw[List.mapM_cons];simp[Sem.run_bind,h.1,TE h.2]
 |[],_::_,h|_::_,[],h=>h.elim
def Gb:List Value->Value
 | [v]=>v
 | vs=> .tuple vs.toArray
theorem Ot {fn:Func} {tmps:Array Value} {w:World} {vs:List Value} (h:AR (fun r v=>(KD tmps r).run P w= .ok v w) fn.results.toList vs):(results fn tmps).run P w= .ok (Gb vs) w:=by
 have e:results fn tmps=(do let vs <-fn.results.mapM (KD tmps);pure (if h:vs.size=1 then vs[0] else .tuple vs)):=by
  unfold results
  congr 1
 rw[e,Array.mapM_eq_mapM_toList];simp only[Sem.run_bind,map_eq_pure_bind,TE h,Result.andThen_ok,Sem.run_pure]
 congr 1
 match vs with
 |[]|[v]|_::_::_=>rfl
section
variable {w0:World} {X:WX} {β:Nat->Option Nat} {s:St} {a:Act} {w:World}
theorem cp (A:∀t,Ck P t (TI t)) (S:Av w0 X β s a w) {r:ResultVar} {b b':Bool×List AC} (h:MB TI s r=some b) (m:Aj (DJ (AF s.bk)) b.2 b'.2):
  ∃v us,(KD a.tmps r).run P w= .ok v w/\AR (Ah (cx X w β (AF s.bk))) b.2 us/\(b.1=true->v= .agg us.toArray)/\(b.1=false->us=[]\/us=[v]):=by
 cases r with
 | tmp t=>
  simp only[MB,Option.some.injEq] at h;subst h;have f:=S.Bf t
  generalize L:nth s.sl t=g at m f
  cases g with
  | one c=>
   have o:c≠ .BJ:=by
    rintro rfl;cases b' with
    | mk x y=>cases y with
     | nil=>exact m.elim
     | cons _ _=>exact m.1.elim
   exact⟨_,[a.tmps.getD t undef],rfl,⟨BE f o,trivial⟩,fun e=>by simp[AV.comp] at e,fun _=> .inr rfl⟩
  | agg cs=>
   obtain⟨arr,e,f⟩:=f;exact⟨_,arr.toList,rfl,f,fun _=>by rw[e],fun e=>by simp[AV.comp] at e⟩
  | AI _=>exact⟨_,[],rfl,trivial,fun e=>by simp[AV.comp] at e,fun _=> .inl rfl⟩
 | cell q t=>
  simp only[MB] at h;have f:=S.Bf q
  split at h
  ·rename_i id v off he
   rw[he] at f;have f:=BE f (by simp)
   split at h
   ·rename_i M cs hb
    split at h
    ·rename_i d
     simp only[Bool.and_eq_true,beq_iff_eq] at d;obtain⟨⟨B,z⟩,hlen⟩:=d;obtain⟨D,arr,e,F,G,h3⟩:=S.blocks id _ hb;have K:v=AO (AF s.bk) id:=by unfold AO;rw[hb];exact z.symm
     obtain⟨b1,l,J⟩:=f.2 K;obtain rfl:D=b1:=Option.some.inj (F.symm.trans l)
     have i:AR (Ah (cx X w β (AF s.bk))) (EZ cs off (TI t).size) ((arr.toList.drop off).take (TI t).size):=by
      rw[Iy];exact (h3.drop off).take _
     have C:=i.length;have k:=run_load (A t) B (UQ G (off:=off) (n:=(TI t).size)) (by rw[<-C];exact hlen);obtain rfl:=Option.some.inj h;have p:(TI t).agg=false->(TI t).size=1:=by obtain⟨_,_,_,_,_,_,_,_,_,H⟩:=(A t).info B;exact H
     refine⟨valOf (TI t).agg ((arr.toList.drop off).take (TI t).size),_,?_,i,fun e=>?_,fun e=>?_⟩
     ·refine Eq.trans ?_ k;simp only[KD,J,asAddr,Instr.loadAt,Instr.sureAddr]
      rfl
     ·rw[show (TI t).agg=true from e];rfl
     right
     have I:=p e;rw[show (TI t).agg=false from e];have j:((arr.toList.drop off).take (TI t).size).length=1:=by rw[<-C,hlen];exact I
     generalize (arr.toList.drop off).take (TI t).size=us at j
     match us,j with
     | [u],_=>rfl
    cases h
   cases h
  cases h
end
section
variable {w0:World} {X:WX} {β:Nat->Option Nat} {s:St} {a:Act} {w:World}
def Yb (I:Nat->Prop) (lo:Nat) (w:World) (bo:Option Nat):Cx:=CR w fun b=>((false=false/\I b)\/lo<=b)/\b<w.heap.size/\bo≠some b
theorem Uc {I:Nat->Prop} (S:Av w0 X β s a w) (R:∀b,¬X.X b) (Q:∀b,X.A b->I b\/w0.heap.size<=b) {bo:Option Nat} (z:bo=none\/∃id,live (AF s.bk) id/\β id=bo) {c d:AC} {v:Value} (L:Ei d=false) (U:Gx c=true->bo=none) (h:DJ (AF s.bk) c d) (O:∀t o l,d≠ .AN t 0 0 o l)
  (r:Ah (cx X w β (AF s.bk)) c v):CN (Yb I w0.heap.size w bo) w0.heap.size bo d v:=by
 have K:∀b,(cx X w β (AF s.bk)).I b->(Yb I w0.heap.size w bo).I b/\w.heap[b]? =w.heap[b]? :=fun b hb=>
  ⟨⟨(Q b hb.2).imp (fun q=>⟨rfl,q⟩) id,hb.1.1,fun e=>by
   rcases z with h' |⟨id,g,J⟩
   ·rw[h'] at e;cases e
   exact hb.1.2 id g (J.trans e)⟩,rfl⟩
 cases c with
 | AN t id j off len=>
  rcases h with⟨l,g,J,rfl⟩ |⟨l,n,_,_,_,_,_,rfl⟩ |⟨_,_,rfl⟩
  ·have x:=U rfl;subst x;have V:j=AO (AF s.bk) id:=by rw[DW g];rfl
   obtain⟨base,cap,e,g1,g2,_,H⟩:=r.2 V;have hlen:((l.drop off).take len).length=len:=by simp;omega
   have m:l.length<=140737488355328:=S.lens id _ g;refine⟨base,cap,by rw[hlen,e],by rw[hlen];exact g1,by rw[hlen];omega,?_⟩;rcases H with H |⟨b,arr,e',k1,k2,k3,k4⟩
   ·left;exact List.eq_nil_of_length_eq_zero (by rw[hlen];omega)
   have D:=S.blocks id _ g;rcases D with⟨u,M⟩ |⟨b',G,N,u,M,Z⟩
   ·exact absurd (u.symm.trans k1) (by simp)
   obtain rfl:b'=b:=Option.some.inj (u.symm.trans k1);have C:live (AF s.bk) id:=⟨_,g,rfl⟩
   have B:b'<w.heap.size:=by
    rcases Nat.lt_or_ge b' w.heap.size with h' | h'
    ·exact h'
    have F:w.heap[b']? =_:=M;simp[Array.getElem?_eq_none h'] at F
   refine .inr ⟨b',_,k2,⟨.inr ((S.own id b' C u).resolve_right (fun q=>R b' q.1)),B,by simp⟩,fun i y p=>?_⟩
   have T:l[off+i]? =some y:=by
    rw[List.getElem?_take] at p
    split at p
    ·simpa using p
    cases p
   obtain⟨us,W,Y⟩:=Z (off+i) y T;exact⟨us,B3 (w':=w) K _ _ _ W,by rw[show off*t.size+i*t.size=(off+i)*t.size by rw[Nat.add_mul]];exact Y⟩
  ·cases L
  exact absurd rfl (O t off len)
 | nil=>
  rcases h with rfl |⟨t,rfl⟩ |⟨t,rfl⟩
  ·exact r
  ·exact⟨none,0,by rw[show v=_ from r];rfl,Nat.le_refl _,by simp,.inl rfl⟩
  cases L
 |int k n|bool b|fn f=>rw[show d=_ from h];exact r
 | sl t l=>rw[show d=_ from h];exact B3 (w':=w) K _ _ _ r
 | _=>exact h.elim
theorem cl {I:Nat->Prop} (S:Av w0 X β s a w) (G:∀b,¬X.X b) (D:∀b,X.A b->I b\/w0.heap.size<=b) {c d:AC} {v:Value} (m:Ei d=true) (h:DJ (AF s.bk) c d)
  (r:Ah (cx X w β (AF s.bk)) c v):∃bo,CN (Yb I w0.heap.size w bo) w0.heap.size bo d v/\(bo=none\/((∃id,live (AF s.bk) id/\β id=bo)/\Gx c=true)):=by
 cases c with
 | AN t id u off len=>
  rcases h with⟨l,p,R,rfl⟩ |⟨l,n,_,p,rfl,rfl,rfl,rfl⟩ |⟨_,_,rfl⟩
  ·cases m
  ·have H:u=AO (AF s.bk) id:=by rw[DW p];rfl
   obtain⟨base,cap,e,g1,g2,_,C⟩:=r.2 H;have g:l.length<=140737488355328:=S.lens id _ p;have j:live (AF s.bk) id:=⟨_,p,rfl⟩;rcases C with rfl |⟨b,arr,e',k1,k2,K,L⟩
   ·exact⟨none,⟨rfl,base,0,e,g1,g2,g,.inl ⟨rfl,List.eq_nil_of_length_eq_zero (by omega),rfl⟩⟩,.inl rfl⟩
   have x:=S.blocks id _ p;rcases x with⟨o,O⟩ |⟨b',z,B,o,O,Q⟩
   ·exact absurd (o.symm.trans k1) (by simp)
   obtain rfl:b'=b:=Option.some.inj (o.symm.trans k1)
   have F:∀b,(cx X w β (AF s.bk)).I b->(Yb I w0.heap.size w (some b')).I b/\w.heap[b]? =w.heap[b]? :=fun b hb=>
    ⟨⟨(D b hb.2).imp (fun q=>⟨rfl,q⟩) (fun q=>q),hb.1.1,fun e=>hb.1.2 id j (o.trans e)⟩,rfl⟩
   refine⟨some b',⟨rfl,base,cap,e,g1,g2,g,.inr ⟨b',arr,e',rfl,(S.own id b' j o).resolve_right (fun q=>G b' q.1),by rw[k2];simp,K,by simpa using L,fun i y J=>?_⟩⟩,.inr ⟨⟨id,j,o⟩,rfl⟩⟩;obtain⟨us,M,N⟩:=Q i y J;exact⟨us,B3 (w':=w) F _ _ _ M,N⟩
  cases m
 | nil=>
  rcases h with rfl |⟨t,rfl⟩ |⟨t,rfl⟩
  ·cases m
  ·cases m
  exact⟨none,⟨rfl,none,0,by rw[show v=_ from r];rfl,Nat.le_refl _,Nat.zero_le _,by simp,.inl ⟨rfl,rfl,rfl⟩⟩,.inl rfl⟩
 |int k n|bool b|fn f|sl t l=>rw[show d=_ from h] at m;cases m
 | _=>exact h.elim
theorem Oq {I:Nat->Prop} (S:Av w0 X β s a w) (q:∀b,¬X.X b) (p:∀b,X.A b->I b\/w0.heap.size<=b) {bo:Option Nat} (g:bo=none\/∃id,live (AF s.bk) id/\β id=bo):∀{cs f:List AC} {vs:List Value},f.filter Ei=[]->(cs.filter Gx≠[]->bo=none)->Aj (DJ (AF s.bk)) cs f->f.all Be=true->
  AR (Ah (cx X w β (AF s.bk))) cs vs->AR (CN (Yb I w0.heap.size w bo) w0.heap.size bo) f vs
 | [],[],[],_,_,_,_,_=>trivial
 | c::cs,d::f,v::vs,i,m,h3,j,n=>by
  simp only[List.all_cons,Bool.and_eq_true] at j
  have r:Ei d=false:=by
   cases h:Ei d with
   | false=>rfl
   | true=>rw[List.filter_cons,h] at i;simp at i
  refine⟨Uc S q p g r (fun k=>m (by rw[List.filter_cons,k];simp)) h3.1 (fun t o l e=>by subst e;simp[Be,Ao] at j) n.1,Oq S q p g (by rw[List.filter_cons,r] at i;simpa using i) (fun k=>m (fun e=>k ?_)) h3.2 j.2 n.2⟩;rw[List.filter_cons] at e
  split at e
  ·cases e
  exact e
 |[],[],_::_,_,_,_,_,h|_::_,_::_,[],_,_,_,_,h|[],_::_,_,_,_,h,_,_|_::_,[],_,_,_,h,_,_=>h.elim
theorem Uf {I:Nat->Prop} (S:Av w0 X β s a w) (u:∀b,¬X.X b) (r:∀b,X.A b->I b\/w0.heap.size<=b):∀{cs g:List AC} {vs:List Value},(g.filter Ei).length<=1->((g.filter Ei).length=1->(cs.filter Gx).length<=1)->Aj (DJ (AF s.bk)) cs g->g.all Be=true->
  AR (Ah (cx X w β (AF s.bk))) cs vs->∃bo,AR (CN (Yb I w0.heap.size w bo) w0.heap.size bo) g vs/\(bo=none\/((∃id,live (AF s.bk) id/\β id=bo)/\cs.filter Gx≠[]))
 | [],[],[],_,_,_,_,_=>⟨none,trivial,.inl rfl⟩
 | c::cs,d::g,v::vs,k,j,h3,n,p=>by
  have z:=n;simp only[List.all_cons,Bool.and_eq_true] at n;cases x:Ei d with
  | true=>
   rw[List.filter_cons,x] at k j;simp only[if_true,List.length_cons] at k j;have i:g.filter Ei=[]:=List.eq_nil_of_length_eq_zero (by omega);obtain⟨bo,g1,g2⟩:=cl S u r x h3.1 p.1;refine⟨bo,⟨g1,Oq S u r (g2.imp id fun q=>q.1) i (fun B=>?_) h3.2 n.2 p.2⟩,g2.imp id fun q=>⟨q.1,by rw[List.filter_cons,q.2];simp⟩⟩;rcases g2 with g2 |⟨_,g2⟩
   ·exact g2
   exfalso
   have:=j (by rw[i];rfl);rw[List.filter_cons,g2] at this;simp only[if_true,List.length_cons] at this;exact B (List.eq_nil_of_length_eq_zero (by omega))
  | false=>
   rw[List.filter_cons,x] at k j;simp only[Bool.false_eq_true,if_false] at k j;have C:∀t o l,d≠ .AN t 0 0 o l:=fun t o l e=>by subst e;simp[Be,Ao] at n
   by_cases y:(g.filter Ei).length=1
   ·have f:=j y
    have m:(cs.filter Gx).length<=1:=by
     rw[List.filter_cons] at f
     split at f
     ·simp only[List.length_cons] at f;omega
     exact f
    obtain⟨bo,g1,g2⟩:=Uf S u r k (fun _=>m) h3.2 n.2 p.2;refine⟨bo,⟨Uc S u r (g2.imp id fun q=>q.1) x (fun D=>?_) h3.1 C p.1,g1⟩,g2.imp id fun q=>⟨q.1,fun e=>q.2 ?_⟩⟩
    ·rcases g2 with g2 |⟨_,g2⟩
     ·exact g2
     rw[List.filter_cons,D] at f;simp only[if_true,List.length_cons] at f;exact absurd (List.eq_nil_of_length_eq_zero (by omega)) g2
    rw[List.filter_cons] at e
    split at e
    ·cases e
    exact e
   have i:g.filter Ei=[]:=List.eq_nil_of_length_eq_zero (by omega);exact⟨none,Oq S u r (.inl rfl) (by rw[List.filter_cons,x];simpa using i) (fun _=>rfl) h3 z p,.inl rfl⟩
 |[],[],_::_,_,_,_,_,h|_::_,_::_,[],_,_,_,_,h|[],_::_,_,_,_,h,_,_|_::_,[],_,_,_,h,_,_=>h.elim
end
end
section
variable {P:Program} {TI:TypeId->Info}
section
variable {w0:World} {X:WX} {β:Nat->Option Nat} {s:St} {a:Act} {w:World}
theorem MC (j:∀t,Ck P t (TI t)) (S:Av w0 X β s a w):∀{rs:List ResultVar} {xs ys:List (Bool×List AC)},Gh TI s rs=some xs->Gg (AF s.bk) xs ys->
  ∃vs us,AR (fun r v=>(KD a.tmps r).run P w= .ok v w) rs vs/\AR (Ah (cx X w β (AF s.bk))) (xs.flatMap (·.2)) us/\
   ∀(y:Cx) (lo:Nat) (bo:Option Nat),AR (CN y lo bo) (ys.flatMap (·.2)) us->AR (fun z q=>Eu y lo bo (Ca z) q) ys vs
 | [],xs,ys,h,f=>by
  simp only[Gh,Option.some.injEq] at h;subst h;cases ys with
  | nil=>exact⟨[],[],trivial,trivial,fun _ _ _ _=>trivial⟩
  | cons _ _=>exact f.elim
 | r::rs,xs,ys,h,f=>by
  simp only[Gh] at h
  split at h
  ·rename_i b D p u
   obtain rfl:=Option.some.inj h;cases ys with
   | nil=>exact f.elim
   | cons b' ys=>
    obtain⟨⟨e,k⟩,f⟩:=f;obtain⟨v,us,g1,g2,n,o⟩:=cp j S p k;obtain⟨vs,i,k1,k2,B⟩:=MC j S u f;refine⟨v::vs,us++i,⟨g1,k1⟩,by rw[List.flatMap_cons];exact g2.append k2,fun y lo bo d=>?_⟩;rw[List.flatMap_cons] at d;obtain⟨m1,m2,e',g,C⟩:=d.OV
    have hlen:us.length=m1.length:=by
     rw[<-g2.length,<-g.length]
     have:∀{l m:List AC},Aj (DJ (AF s.bk)) l m->l.length=m.length:=by
      intro l
      induction l with
      | nil=>intro m h;cases m <;> first | rfl | exact h.elim
      | cons x l A=>intro m h;cases m with
       | nil=>exact h.elim
       | cons y m=>simp[A h.2]
     exact this k
    obtain⟨rfl,rfl⟩:=List.append_inj e' hlen;refine⟨?_,B y lo bo C⟩;obtain⟨t,cs⟩:=b';simp only at e;cases t with
    | true=>exact⟨us.toArray,n e,by simpa using g⟩
    | false=>
     rcases o e with rfl | rfl
     ·cases cs with
      | nil=>exact .inl rfl
      | cons _ _=>exact g.elim
     cases cs with
     | nil=>exact g.elim
     | cons c cs=>exact .inr g.1
  cases h
end
theorem Td:∀(l m:List AV) (i:Nat),nth (l++m) i=if i<l.length then nth l i else nth m (i-l.length)
 | [],m,i=>by simp
 | x::l,m,0=>by simp[nth]
 | x::l,m,i+1=>by simp[nth,Td l m i]
theorem AR.nth {x:Cx}:∀{l:List AV} {vs:List Value} (i:Nat),AR (BB x) l vs->i<l.length->BB x (nth l i) (vs.getD i undef)
 | _::_,_::_,0,h,_=>by simpa [Abs.nth] using h.1
 | _::_,_::_,i+1,h,b=>by simpa [Abs.nth] using AR.nth i h.2 (by simpa using b)
 | [],[],_,_,b=>by simp at b
 |[],_::_,_,h,_|_::_,[],_,h,_=>h.elim
theorem L4 {x y:Cx} (h:∀b,x.I b->y.I b/\y.w.heap[b]? =x.w.heap[b]?):∀{l:List AV} {vs:List Value},(l.all fun c=>match c with | .AI _=>false | c=>c.all Ao)=true->AR (BB x) l vs->AR (BB y) l vs
 | [],[],_,_=>trivial
 | .one c::_,_::_,e,r=>by
  simp only[List.all_cons,Bool.and_eq_true] at e;exact⟨r.1.imp (fun q=>q) (J6 h e.1),L4 h e.2 r.2⟩
 | .agg c::_,_::_,e,r=>by
  simp only[List.all_cons,Bool.and_eq_true] at e;obtain⟨arr,e',d⟩:=r.1;exact⟨⟨arr,e',AR.pure h e.1 d⟩,L4 h e.2 r.2⟩
 | .AI _::_,_::_,e,_=>by simp at e
 |[],_::_,_,r|_::_,[],_,r=>r.elim
theorem Av.start {w:World} {X:WX} {args:List AV} {vs:List Value} {n:Nat} {f:Option AK} (r:args.length<=n) (o:∀b,X.ob=some b->X.X b) (m:∀b,w.heap.size<=b->X.A b) (p:∀b,f=some b->b.AO=0/\b.short/\0<n)
  (c:AR (BB (cx X w (β0 X.ob) (AF (CL n args f).bk))) args vs) (hb:∀b,f=some b->B5 (cx X w (β0 X.ob) (AF (CL n args f).bk)) 0 b):
  Av w X (β0 X.ob) (CL n args f) {tmps:=vs.toArray++Array.replicate (n-vs.toArray.size) undef,defers:=[]} w:=by
 have hlen:=c.length
 have d:∀id b,AF (CL n args f).bk id=some b->id=0/\f=some b:=by
  intro id b h;cases n with
  | zero=>simp[CL,AF] at h
  | succ n=>
   cases id with
   | zero=>exact⟨rfl,h⟩
   | succ id=>
    have:AF (Fb n none) id=some b:=h;rw[ON] at this;cases this
 refine⟨rfl,?_,?_,fun i=>?_,fun id b h=>?_,fun id q b ⟨_,g,_⟩ ⟨_,l,_⟩ _ _=>?_,fun id b ⟨_,g,_⟩ j=> .inr ?_,rfl,rfl,rfl,Nat.le_refl _,fun _ _ _=>rfl,fun id b h=>?_,m,fun _ _=>⟨rfl,fun b arr e _ he=>⟨arr,he,rfl⟩⟩⟩
 ·simp[CL,FV];omega
 ·simp[CL];cases n with
  | zero=>simp;omega
  | succ n=>simp[FV];omega
 ·show BB _ (nth (args++_) i) _
  rw[Td]
  split
  ·rename_i k
   have:=c.nth i k
   have e:(vs.toArray++Array.replicate (n-vs.toArray.size) undef).getD i undef=vs.getD i undef:=by
    rw[Array.getD_eq_getD_getElem?,Array.getElem?_append_left (by simpa [<-hlen] using k)];simp[List.getD_eq_getElem?_getD]
   rw[e];exact this
  rw[OL];exact HD _ _
 ·obtain⟨rfl,h'⟩:=d id b h;exact hb b h'
 ·rw[(d _ _ g).1,(d _ _ l).1]
 ·obtain⟨rfl,_⟩:=d _ _ g;exact⟨o b j,rfl⟩
 exact (p b (d id b h).2).2.1
def HB (args:List AV):Bool:=args.all fun c=>match c with | .AI _=>false | c=>c.all Ao
structure Fn (P:Program) (TI:TypeId->Info) (f:FuncId) (n:Nat) (c:Code) (rs:List ResultVar):Prop where
 get : ∃ fn, P.funcs[f]? = some fn /\ (fn.name == "runtime.NumGoroutine") = false /\ fn.body = some c /\ fn.ntmps = n /\ fn.results.toList = rs
 dst:FO c=true
 ty:∀t,Ck P t (TI t)
 mixed:P.follows .mixedOrders=true
theorem NQ {r:AV} {y:Cx} {lo:Nat} {bo:Option Nat} {vs:List Value} (b:vs.length=1↔∀ys,r≠ .AI ys) (h:AR (fun z q=>Eu y lo bo (Ca z) q) r.DQ vs):FI y lo bo r (Gb vs):=by
 cases r with
 | AI xs=>
  have:vs.length≠1:=fun e=>b.1 e xs rfl
  have e:Gb vs= .tuple vs.toArray:=by
   match vs,this with
   | [],_=>rfl
   | [_],h=>exact absurd rfl h
   | _::_::_,_=>rfl
  exact⟨vs.toArray,e,h⟩
 | one c=>
  match vs,h with
  | [v],h=>exact h.1
 | agg cs=>
  match vs,h with
  | [v],h=>exact h.1
theorem Qf {f:FuncId} {n:Nat} {c:Code} {rs:List ResultVar} (F:Fn P TI f n c rs) {args:List AV} {r:AV} (R:HB args=true) (A:r.all Be=true/\r.wf=true) (O:args.length<=n)
  (h:CH (env P) TI n c (post TI rs r none) (CL n args none)):EN P false f args r:=by
 obtain⟨fn,J,p,hb,t,B⟩:=F.get;refine⟨⟨fn,c,J,p,hb⟩,A,fun w I vs N j=>?_⟩;refine calls_of_wp J hb ?_
 have K:Av w ⟨fun _=>False,fun b=>I b\/w.heap.size<=b,none⟩ (β0 none) (CL n args none) {tmps:=vs.toArray++Array.replicate (n-vs.toArray.size) undef,defers:=[]} w:=
  Av.start (X:=⟨fun _=>False,fun b=>I b\/w.heap.size<=b,none⟩) O (fun _ e=>by cases e) (fun b hb=> .inr hb) (fun b e=>by cases e)
   (L4 (x:=CR w I) (y:=cx ⟨fun _=>False,fun b=>I b\/w.heap.size<=b,none⟩ w (β0 none) (AF (CL n args none).bk)) (fun b hb=>⟨⟨⟨N b hb,fun id _ e=>by simp[β0] at e⟩,.inl hb⟩,rfl⟩) R j) (fun b e=>by cases e)
 rw[t];refine wp_mono (EG F.mixed (fun o Q=>O8 F.ty o Q) F.dst (by simp[CL,FV];omega) K h) fun e G w' he=>?_
 obtain⟨x,s',β',rfl,g,_,S⟩:=he
 have fin:post TI rs r none x s'->x≠ .exit 0/\(∀i,x≠ .exit i)->G.defers=[]/\∃v,(results fn G.tmps).run P w'= .ok v w'/\∃u bo,Ending.returned v= .returned u/\Below w.heap.size w w'/\
   FI (CR w' fun b=>((false=false/\I b)\/w.heap.size<=b)/\b<w'.heap.size/\bo≠some b) w.heap.size bo r u:=by
  intro g T;refine⟨S.defers,?_⟩
  have z:∃xs,Gh TI s' rs=some xs/\Gg (AF s'.bk) xs r.DQ/\Lx xs r.DQ=true/\(rs.length=1↔∀ys,r≠ .AI ys):=by
   unfold post at g
   split at g
   ·exact absurd rfl (T.2 _)
   split at g
   ·rename_i xs C
    exact⟨xs,C,g.1 ()⟩
   exact g.elim
  obtain⟨xs,L,H,h3,M⟩:=z;obtain⟨us,ws,k1,k2,U⟩:=MC F.ty S L H
  have k:Aj (DJ (AF s'.bk)) (xs.flatMap (·.2)) (r.DQ.flatMap (·.2)):=by
   have app:∀{l m l' m':List AC},Aj (DJ (AF s'.bk)) l m->Aj (DJ (AF s'.bk)) l' m'->Aj (DJ (AF s'.bk)) (l++l') (m++m'):=by
    intro l
    induction l with
    | nil=>intro m l' m' h h';cases m <;> first | exact h' | exact h.elim
    | cons x l D=>intro m l' m' h h';cases m with
     | nil=>exact h.elim
     | cons y m=>exact⟨h.1,D h.2 h'⟩
   have:∀{l m:List (Bool×List AC)},Gg (AF s'.bk) l m->Aj (DJ (AF s'.bk)) (l.flatMap (·.2)) (m.flatMap (·.2)):=by
    intro l
    induction l with
    | nil=>intro m h;cases m <;> first | trivial | exact h.elim
    | cons x l D=>intro m h;cases m with
     | nil=>exact h.elim
     | cons y m=>rw[List.flatMap_cons,List.flatMap_cons];exact app h.1.2 (D h.2)
   exact this H
  have q:(r.DQ.flatMap (·.2)).all Be=true:=by
   cases r with
   |one c|agg cs=>simpa [AV.DQ,AV.comp,AV.all] using A.1
   | AI xs=>simp only[AV.DQ,List.all_flatMap];exact A.1
  have d:((r.DQ.flatMap (·.2)).filter Ei).length<=1/\(((r.DQ.flatMap (·.2)).filter Ei).length=1->((xs.flatMap (·.2)).filter Gx).length<=1):=by
   unfold Lx at h3
   split at h3
   ·rename_i e;rw[e];simp
   ·rename_i e;rw[e];simpa using h3
   cases h3
  obtain⟨bo,g1,_⟩:=Uf (I:=I) S (fun b h=>h) (fun b h=>h) d.1 d.2 k q k2;have hlen:us.length=rs.length:=k1.length.symm;refine⟨Gb us,Ot (by rw[B];exact k1),Gb us,bo,rfl,⟨S.os,S.tape,S.output,S.size,fun b hb=>S.block b hb (fun h=>h)⟩,?_⟩;exact NQ (by rw[hlen];exact M) (U _ _ _ g1)
 cases x with
 |CJ|ret=>exact fin g ⟨by simp,by simp⟩
 | exit i=>exact g.elim
end
end Go.Abs
