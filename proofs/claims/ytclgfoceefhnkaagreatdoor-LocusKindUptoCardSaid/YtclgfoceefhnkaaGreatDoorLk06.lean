/- Part 7 of a proof. Conditions: each theorem's own. -/
import Derived.Orders
import Derived.Test.YtclgfoceefhnkaaGreatDoorLk05
set_option linter.all false
set_option maxHeartbeats 80000000
set_option maxRecDepth 20000
namespace Go.Abs
open Go.RowKit
section
theorem Zg {op:BinOp} {k:IntKind} {a b:Int} {K:AC->Prop} (h:arith op k a b K):∃c,(∀j:AC->Prop,j c->arith op k a b j)/\K c:=by
 unfold arith at h ⊢
 split at h
 case h_1=>obtain⟨g,i⟩:=h _ rfl;exact⟨_,fun j f c d=>by subst d;exact⟨g,f⟩,i⟩
 case h_2=>obtain⟨g,i⟩:=h _ rfl;exact⟨_,fun j f c d=>by subst d;exact⟨g,f⟩,i⟩
 case h_3=>obtain⟨g,i⟩:=h _ rfl;exact⟨_,fun j f c d=>by subst d;exact⟨g,f⟩,i⟩
 case h_4=>obtain⟨g,i⟩:=h _ rfl;exact⟨_,fun j f c d=>by subst d;exact⟨g,f⟩,i⟩
 case h_5=>obtain⟨g,i⟩:=h _ rfl;exact⟨_,fun j f c d=>by subst d;exact⟨g,f⟩,i⟩
 all_goals first
  | exact⟨_,fun j f c d=>by subst d;exact f,h _ rfl⟩
  | (obtain⟨g,i⟩:=h _ rfl;exact⟨_,fun j f c d=>by subst d;exact⟨g,f⟩,i⟩)
theorem J5 {len:Nat} {lo k n:Option AV} {K:Nat->Nat->Bool->Prop} (h:Fv len lo k n K):∃a b c,(∀f:Nat->Nat->Bool->Prop,f a b c->Fv len lo k n f)/\K a b c:=by
 unfold Fv at h ⊢
 split at h
 ·exact⟨_,_,_,fun f d c o=>by subst o;exact d,h _ rfl⟩
 ·obtain⟨g,i⟩:=h;exact⟨_,_,_,fun f d=>⟨g,fun l m j=>by obtain⟨rfl,rfl⟩:=j;exact d⟩,i _ _ ⟨rfl,rfl⟩⟩
 ·obtain⟨g,i⟩:=h;exact⟨_,_,_,fun f d=>⟨g,fun l j=>by obtain rfl:=j;exact d⟩,i _ rfl⟩
 ·obtain⟨g,i⟩:=h;exact⟨_,_,_,fun f d=>⟨g,fun l m j=>by obtain⟨rfl,rfl⟩:=j;exact d⟩,i _ _ ⟨rfl,rfl⟩⟩
 ·obtain⟨g,i⟩:=h;exact⟨_,_,_,fun f d=>⟨g,fun l j=>by obtain rfl:=j;exact d⟩,i _ rfl⟩
 exact h.elim
theorem Zj {bk:Nat->Option AG} {u:T} {x:AV} {lo m p:Option AV} {K:BR->Prop} (h:HR bk u x lo m p K):∃f,(∀i:BR->Prop,i f->HR bk u x lo m p i)/\K f:=by
 unfold HR at h ⊢
 split at h
 ·obtain⟨l,h⟩:=h;obtain⟨a,b,c,j,d⟩:=J5 (h _ rfl);exact⟨_,fun i k=>⟨l,fun n q=>by subst q;exact j _ fun l' g=>by subst g;exact k⟩,d _ rfl⟩
 ·obtain⟨l,h⟩:=h
  split at h
  ·rename_i r
   obtain⟨a,b,c,j,d⟩:=J5 h;have d:=d _ _ ⟨rfl,rfl⟩;cases c with
   |true|false=>exact⟨_,fun i k=>⟨l,by rw[if_pos r];exact j _ fun o n g=>by obtain⟨rfl,rfl⟩:=g;exact k⟩,d⟩
  exact h.elim
 ·obtain⟨a,b,c,j,d⟩:=J5 h;exact⟨_,fun i k=>j _ k,d⟩
 exact h.elim
theorem Nd {E:Env} {g:FuncId} {args:List AV} {d:Nat} {bk:Nat->Option AG} {K:BR->Prop} (h:FQ E g args d bk K):∃f,(∀l:BR->Prop,l f->FQ E g args d bk l)/\K f:=by
 rcases h with⟨a,r,c,j,h⟩ |⟨a,r,c,j,h⟩ | h |⟨i,b,a,r,c,j,h⟩ |⟨i,b,a,r,c,j,h⟩ | h |⟨i,b,a,r,b1,c,j,h⟩ |⟨l2,a,r,c,j,h⟩ |⟨i,b,a,r,b1,c,j,h⟩
 rotate_left 6
 ·exact⟨_,fun l k=> .inr (.inr (.inr (.inr (.inr (.inr (.inl ⟨i,b,a,r,b1,c,j,k⟩)))))),h⟩
 ·exact⟨_,fun l k=> .inr (.inr (.inr (.inr (.inr (.inr (.inr (.inl ⟨l2,a,r,c,j,k⟩))))))),h⟩
 ·exact⟨_,fun l k=> .inr (.inr (.inr (.inr (.inr (.inr (.inr (.inr ⟨i,b,a,r,b1,c,j,k⟩))))))),h⟩
 ·exact⟨_,fun l k=> .inl ⟨a,r,c,j,k⟩,h⟩
 ·exact⟨_,fun l k=> .inr (.inl ⟨a,r,c,j,k⟩),h⟩
 rotate_left
 ·exact⟨_,fun l k=> .inr (.inr (.inr (.inl ⟨i,b,a,r,c,j,k⟩))),h⟩
 ·exact⟨_,fun l k=> .inr (.inr (.inr (.inr (.inl ⟨i,b,a,r,c,j,k⟩)))),h⟩
 ·unfold FQ
  split at h
  ·split at h
   ·rename_i m
    split at h
    ·rename_i o
     obtain⟨a,l',c,j,h⟩:=h;exact⟨_,fun l k=> .inr (.inr (.inr (.inr (.inr (.inl (by simp only[m,if_pos o];exact⟨a,l',c,j,fun n p=>by subst p;exact k⟩)))))),h _ rfl⟩
    exact h.elim
   exact h.elim
  exact h.elim
 unfold FQ
 split at h
 ·split at h
  ·rename_i q
   split at h
   ·rename_i m
    split at h
    ·rename_i o
     obtain⟨a,r,b1,c,j,h⟩:=h;exact⟨_,fun l k=> .inr (.inr (.inl (by simp only[q,m,if_pos o];exact⟨a,r,b1,c,j,k⟩))),h⟩
    exact h.elim
   exact h.elim
  exact h.elim
 exact h.elim
theorem T.beq_refl:∀t:T,T.beq t t=true
 | .u8=>rfl | .u32=>rfl | .u64=>rfl | .i8=>rfl | .i64=>rfl | .bool=>rfl
 | .str=>rfl | .ex=>rfl
 |.rf t|.sl t=>T.beq_refl t
 | .pr a b=>by simp only[T.beq,T.beq_refl a,T.beq_refl b,Bool.and_self]
theorem Gw {TI:TypeId->Info} {b:Builtin} {a:List TypeId} {args:List AV} {d:Nat} {bk:Nat->Option AG} {K:BR->Prop}:
  Nb TI b a args d bk K↔EK TI b a args d bk K\/(b= .append/\EK TI b a args d bk (JO K))\/(b= .append/\Ft TI a args bk K):=by
 cases b <;> simp[Nb]
theorem ZS {TI:TypeId->Info} {a:List TypeId} {args:List AV} {bk:Nat->Option AG} {K:BR->Prop} (h:Ft TI a args bk K):∃g,(∀b:BR->Prop,b g->Ft TI a args bk b)/\K g:=by
 unfold Ft at h
 split at h
 ·obtain⟨d,h⟩:=h
  split at h
  ·rename_i i
   split at h
   ·rename_i k
    obtain⟨l2,f,h⟩:=h;exact⟨_,fun b c=>by unfold Ft;refine⟨d,?_⟩;simp only[i,if_pos k];exact⟨l2,f,fun l' n j=>by obtain⟨rfl,rfl⟩:=j;exact c⟩,h _ _ ⟨rfl,rfl⟩⟩
   exact h.elim
  exact h.elim
 exact h.elim
theorem Pj {K:BR->Prop} {g:BR} (h:JO K g):∃(t:T) (id v n:Nat) (l:List (el t)),g=⟨.one (.AQ t id v 0 n),[(id,.arr v t l)],g.rd⟩/\id≠0/\n=l.length/\K ⟨.one (.sl t l),[(id,.dead v)],g.rd⟩/\
  ∀a:BR->Prop,a ⟨.one (.sl t l),[(id,.dead v)],g.rd⟩->JO a g:=by
 obtain⟨o,p,m⟩:=g;unfold JO at h
 split at h
 ·rename_i t id v off n i r q l c d
  split at h
  ·rename_i f
   simp only at c d;simp only[Bool.and_eq_true,bne_iff_ne,beq_iff_eq] at f;obtain⟨⟨⟨⟨c1,c2⟩,c3⟩,j⟩,b⟩:=f;have b:=T.beq_eq b;subst c2 c3 j b c d;refine⟨t,id,v,n,l,rfl,c1,h.1 (),h.2,fun a k=>?_⟩;unfold JO;simp only;rw[if_pos (by simp[c1,T.beq_refl])];exact⟨h.1,k⟩
  exact h.elim
 exact h.elim
theorem Nm {TI:TypeId->Info} {b:Builtin} {a:List TypeId} {args:List AV} {d:Nat} {bk:Nat->Option AG} {K:BR->Prop} (c:b= .append) (h:EK TI b a args d bk K):args.length=2:=by
 subst c;unfold EK at h
 split at h <;> first | contradiction | exact h.elim | rfl
theorem Ze {TI:TypeId->Info} {b:Builtin} {c:List TypeId} {args:List AV} {d:Nat} {bk:Nat->Option AG} {g:BR} (i:b= .append) (h:EK TI b c args d bk (fun f=>f=g)) {id:Nat} {B:AG} (hw:g.ws=[(id,B)]):
  id=d\/∃x,bk id=some x:=by
 subst i;unfold EK at h
 split at h <;> first | contradiction | skip
 ·obtain⟨_,l2,_,h⟩:=h;have:=h _ rfl;subst this;simp at hw;exact .inl hw.1.symm
 ·obtain⟨_,h⟩:=h
  split at h
  ·rename_i a
   split at h
   ·obtain⟨l2,_,h⟩:=h;have:=h _ _ ⟨rfl,rfl⟩;subst this;simp at hw;exact .inr ⟨_,hw.1 ▸ a⟩
   exact h.elim
  exact h.elim
 obtain⟨_,h⟩:=h
 split at h
 ·rename_i a
  split at h
  ·obtain⟨l2,_,h⟩:=h;have:=h _ _ ⟨rfl,rfl⟩;subst this;simp at hw;exact .inr ⟨_,hw.1 ▸ a⟩
  exact h.elim
 exact h.elim
theorem Jy {TI:TypeId->Info} {b:Builtin} {o:List TypeId} {args:List AV} {d:Nat} {bk:Nat->Option AG} {K:BR->Prop} (hlen:∀t l,args=[.one (.sl t l)]->l.length<=140737488355328) (h:EK TI b o args d bk K):
  ∃f,(∀i:BR->Prop,i f->EK TI b o args d bk i)/\K f:=by
 unfold EK at h ⊢
 split at h
 ·exact⟨_,fun i a=>⟨h.1,fun n g=>by obtain⟨rfl,_⟩:=g;exact a⟩,h.2 _ ⟨rfl,hlen _ _ rfl⟩⟩
 ·obtain⟨j,h⟩:=h
  split at h
  ·rename_i k
   exact⟨_,fun i a=>⟨j,by rw[if_pos k];intro n g;obtain⟨rfl⟩:=g;exact a⟩,h _ ⟨rfl⟩⟩
  exact h.elim
 ·obtain⟨j,h⟩:=h
  split at h
  ·rename_i k
   exact⟨_,fun i a=>⟨j,by rw[if_pos k];intro n g;obtain⟨rfl⟩:=g;exact a⟩,h _ ⟨rfl⟩⟩
  exact h.elim
 ·exact⟨_,fun i a=>⟨h.1,a⟩,h.2⟩
 ·exact⟨_,fun i a=>⟨h.1,fun n g=>by obtain⟨rfl⟩:=g;exact a⟩,h.2 _ ⟨rfl⟩⟩
 ·exact⟨_,fun i a=>⟨h.1,fun n g=>by obtain⟨rfl⟩:=g;exact a⟩,h.2 _ ⟨rfl⟩⟩
 ·exact⟨_,fun i a=>⟨h.1,a⟩,h.2⟩
 ·exact⟨_,fun i a c q=>by subst q;exact a,h _ rfl⟩
 ·exact⟨_,fun i a c q=>by subst q;exact a,h _ rfl⟩
 ·obtain⟨j,l2,m,h⟩:=h;exact⟨_,fun i a=>⟨j,l2,m,fun n g=>by subst g;exact a⟩,h _ rfl⟩
 ·obtain⟨j,h⟩:=h
  split at h
  ·rename_i p
   split at h
   ·rename_i k
    obtain⟨l2,m,h⟩:=h;exact⟨_,fun i a=>⟨j,by simp only[p,if_pos k];exact⟨l2,m,fun l' n g=>by obtain⟨rfl,rfl⟩:=g;exact a⟩⟩,h _ _ ⟨rfl,rfl⟩⟩
   exact h.elim
  exact h.elim
 ·obtain⟨j,h⟩:=h
  split at h
  ·rename_i p
   split at h
   ·rename_i k
    obtain⟨l2,m,h⟩:=h;exact⟨_,fun i a=>⟨j,by simp only[p,if_pos k];exact⟨l2,m,fun l' n g=>by obtain⟨rfl,rfl⟩:=g;exact a⟩⟩,h _ _ ⟨rfl,rfl⟩⟩
   exact h.elim
  exact h.elim
 exact h.elim
theorem Nl {E:Env} {TI:TypeId->Info} {o:Oper} {d:Nat} {e:Operand->AV} {bk:Nat->Option AG} {K:BR->Prop} (hlen:∀x t l,e x= .one (.sl t l)->l.length<=140737488355328) (h:B5 E TI o d e bk K):
  ∃f,(∀m:BR->Prop,m f->B5 E TI o d e bk m)/\K f:=by
 unfold B5 at h ⊢;cases Y:o.op <;> simp only[Y] at h ⊢
 case move x=>exact⟨_,fun m a=>a,h⟩
 case assign x=>exact⟨_,fun m a=>a,h⟩
 case nilCheck x=>
  split at h
  ·rename_i he
   split at h
   ·rename_i A
    rw[he] at h;exact⟨_,fun m a=>by rw[he];rw[if_pos A];exact a,h⟩
   exact h.elim
  ·rename_i he
   exact⟨_,fun m a=>a,h⟩
  ·rename_i he
   exact⟨_,fun m a=>a,h⟩
  ·rename_i he
   exact⟨_,fun m a=>a,h⟩
  exact h.elim
 case pick c x y=>
  split at h
  ·rename_i he;exact⟨_,fun m a=>by (try simp only[he]);exact a,h⟩
  ·rename_i he;exact⟨_,fun m a=>by (try simp only[he]);exact a,h⟩
  exact h.elim
 case alloc t=>exact⟨_,fun m a=>⟨h.1,a⟩,h.2⟩
 case box t x=>
  split at h
  ·exact h.elim
  ·exact h.elim
  rename_i v r s
  exact⟨_,fun m a=>a,h⟩
 case extract x i=>
  split at h
  ·rename_i he
   split at h
   ·rename_i u
    exact⟨_,fun m a=>by (try simp only[he,u]);exact a,h⟩
   exact h.elim
  exact h.elim
 case load t x=>
  simp only[KD] at h ⊢;obtain⟨r,h⟩:=h
  split at h
  ·rename_i he
   split at h
   ·rename_i H
    split at h
    ·rename_i A
     exact⟨_,fun m a=>⟨r,by (try simp only[he,H,if_pos A]);exact a⟩,h⟩
    exact h.elim
   exact h.elim
  ·rename_i he
   split at h
   ·rename_i A
    exact⟨_,fun m a=>⟨r,by (try simp only[he,if_pos A]);exact a⟩,h⟩
   exact h.elim
  ·rename_i he
   obtain⟨s,h⟩:=h;exact⟨_,fun m a=>⟨r,by (try simp only[he]);exact⟨s,a⟩⟩,h⟩
  ·rename_i he
   split at h
   ·rename_i H
    split at h
    ·rename_i A
     obtain⟨z,s,h⟩:=h
     split at h
     ·rename_i I
      exact⟨_,fun m a=>⟨r,by (try simp only[he,H,if_pos A]);exact⟨z,s,by simp only[if_pos I];exact a⟩⟩,h⟩
     exact h.elim
    exact h.elim
   exact h.elim
  exact h.elim
 case store t p x=>
  obtain⟨r,h⟩:=h
  split at h
  ·rename_i he
   split at h
   ·exact h.elim
   ·exact h.elim
   ·rename_i Z n2 H
    split at h
    ·rename_i A
     refine⟨_,fun m a=>⟨r,?_⟩,h⟩;rw[if_pos A];exact a
    exact h.elim
   exact h.elim
  ·rename_i he
   split at h
   ·exact h.elim
   ·exact h.elim
   ·rename_i Z n2 H
    split at h
    ·rename_i A
     obtain⟨z,s,h⟩:=h;refine⟨_,fun m a=>⟨r,?_⟩,h _ rfl⟩;rw[if_pos A];exact⟨z,s,fun l' N=>by subst N;exact a⟩
    rename_i R
    split at h
    ·rename_i A
     obtain⟨x0,z,s,h⟩:=h;refine⟨_,fun m a=>⟨r,?_⟩,h _ rfl⟩;rw[if_neg R,if_pos A];exact⟨x0,z,s,fun l' N=>by subst N;exact a⟩
    exact h.elim
   exact h.elim
  exact h.elim
 case fieldAddr t x i=>
  obtain⟨r,h⟩:=h
  split at h
  ·rename_i J he
   split at h
   ·rename_i A
    exact⟨_,fun m a=>⟨r,by (try simp only[J,he,if_pos A]);exact a⟩,h⟩
   exact h.elim
  ·rename_i J he
   exact⟨_,fun m a=>⟨r,by (try simp only[J,he]);exact a⟩,h⟩
  ·rename_i J he
   split at h
   ·rename_i A
    exact⟨_,fun m a=>⟨r,by (try simp only[J,he,if_pos A]);exact a⟩,h⟩
   exact h.elim
  exact h.elim
 case field t x i=>
  obtain⟨r,h⟩:=h
  split at h
  ·rename_i J he
   split at h
   ·rename_i A
    exact⟨_,fun m a=>⟨r,by (try simp only[J,he,if_pos A]);exact a⟩,h⟩
   exact h.elim
  exact h.elim
 case build t ps=>
  cases G:(TI t).arr with
  | some q=>
   simp only[G] at h ⊢;obtain⟨r,h⟩:=h
   split at h
   ·rename_i he
    exact⟨_,fun m a=>⟨r,by (try simp only[he]);exact a⟩,h⟩
   exact h.elim
  | none=>
  simp only[G] at h ⊢;obtain⟨r,h⟩:=h
  split at h
  ·rename_i he
   exact⟨_,fun m a=>⟨r,by (try simp only[he]);exact a⟩,h⟩
  exact h.elim
 case buildSlice t n ps=>
  cases F:(TI t).pt
  case true=>
   simp only[F] at h ⊢
   split at h
   ·rename_i qs G
    exact⟨_,fun m a=>by (try simp only[G]);exact⟨h.1,a⟩,h.2⟩
   exact h.elim
  simp only[F] at h ⊢;obtain⟨r,s,xs,C,h | h⟩:=h
  ·exact⟨_,fun m a=>⟨r,s,xs,C,.inl a⟩,h⟩
  exact⟨_,fun m a=>⟨r,s,xs,C,.inr a⟩,h⟩
 case makeSlice t x y=>
  obtain⟨r,h⟩:=h
  split at h
  ·rename_i u w
   exact⟨_,fun m a=>⟨r,by (try simp only[u,w]);exact⟨h.1,fun k z I=>by obtain⟨rfl,rfl⟩:=I;exact a⟩⟩,h.2 _ _ ⟨rfl,rfl⟩⟩
  exact h.elim
 case indexAddr t x i=>
  cases F:(TI t).pt
  case true=>
   simp only[F] at h ⊢
   split at h
   ·rename_i u w
    obtain⟨p,s,h⟩:=h;exact⟨_,fun m a=>by (try simp only[u,w]);exact⟨p,s,a⟩,h⟩
   exact h.elim
  simp only[F] at h ⊢;cases G:(TI t).arr with
  | some q=>
   simp only[G] at h ⊢
   split at h
   ·rename_i u w
    split at h
    ·rename_i A
     exact⟨_,fun m a=>by (try simp only[u,w,if_pos A]);exact⟨h.1,a⟩,h.2⟩
    exact h.elim
   ·rename_i u w
    exact⟨_,fun m a=>by (try simp only[u,w]);exact⟨h.1,a⟩,h.2⟩
   exact h.elim
  | none=>
  simp only[G] at h ⊢;obtain⟨r,h⟩:=h
  split at h
  ·rename_i u w
   obtain⟨s,z,C,h⟩:=h;exact⟨_,fun m a=>⟨r,by (try simp only[u,w]);exact⟨s,z,C,a⟩⟩,h⟩
  ·rename_i u w
   obtain⟨s,h⟩:=h
   split at h
   ·rename_i A
    exact⟨_,fun m a=>⟨r,by (try simp only[u,w]);exact⟨s,by rw[if_pos A];exact⟨h.1,fun j W=>by subst W;exact a⟩⟩⟩,h.2 _ rfl⟩
   exact h.elim
  exact h.elim
 case slice t x lo hi mx=>
  revert h;generalize e x=X;intro h
  split at h
  ·obtain⟨r,h⟩:=h;obtain⟨p,q,c,s,C,U⟩:=J5 (h _ rfl);exact⟨_,fun m a=>⟨r,fun n R=>by subst R;exact s _ ⟨C,fun z I=>by subst I;exact a⟩⟩,U _ rfl⟩
  obtain⟨r,h⟩:=h;obtain⟨f,s,C⟩:=Zj h;refine⟨f,fun m a=>?_,C⟩;exact⟨r,s _ a⟩
 case index t x i=>
  cases G:(TI t).arr with
  | some q=>
   simp only[G] at h ⊢
   split at h
   ·rename_i u w
    obtain⟨r,h⟩:=h
    split at h
    ·rename_i A
     exact⟨_,fun m a=>by (try simp only[u,w,if_pos A]);exact⟨r,a⟩,h⟩
    exact h.elim
   exact h.elim
  | none=>
  simp only[G] at h ⊢;obtain⟨r,h⟩:=h
  split at h
  ·rename_i u w
   obtain⟨b,s,h⟩:=h;exact⟨_,fun m a=>⟨r,by (try simp only[u,w]);exact⟨b,s,fun z I=>by obtain rfl:=I.eq;exact a⟩⟩,h _ ⟨rfl⟩⟩
  exact h.elim
 case binOp op t x y t'=>
  split at h
  ·rename_i u w
   split at h
   ·rename_i O
    obtain⟨c,s,C⟩:=Zg h;exact⟨_,fun m a=>by (try simp only[u,w,if_pos O]);exact s _ a,C⟩
   exact h.elim
  ·rename_i u w
   obtain⟨r,h⟩:=h;cases op <;> simp only at h
   all_goals first
    | exact h.elim
    | exact⟨_,fun m a=>by (try simp only[u,w]);exact⟨r,fun c B=>B ▸ a⟩,h _ rfl⟩
  ·rename_i u w
   obtain⟨r,h⟩:=h;cases op <;> simp only at h
   all_goals first
    | exact h.elim
    | exact⟨_,fun m a=>by (try simp only[u,w]);exact⟨r,fun c B=>B ▸ a⟩,h _ rfl⟩
  ·rename_i u w
   cases op <;> simp only at h
   all_goals first
    | exact h.elim
    | exact⟨_,fun m a=>by (try simp only[u,w]);exact fun c B=>B ▸ a,h _ rfl⟩
    | exact⟨_,fun m a=>by (try simp only[u,w]);exact⟨h.1,fun c B=>B ▸ a⟩,h.2 _ rfl⟩
  exact h.elim
 case unOp op t x=>
  split at h
  ·rename_i u
   exact⟨_,fun m a=>by (try simp only[u]);intro c B;subst B;exact a,h _ rfl⟩
  ·rename_i u
   exact⟨_,fun m a=>by (try simp only[u]);intro c B;subst B;exact a,h _ rfl⟩
  exact h.elim
 case convert src dst x=>
  obtain⟨r,h⟩:=h
  split at h
  ·rename_i u w
   exact⟨_,fun m a=>⟨r,by (try simp only[u,w]);intro c B;subst B;exact a⟩,h _ rfl⟩
  ·rename_i u w
   obtain⟨g1,g2,S,l,T,h⟩:=h;exact⟨_,fun m a=>⟨r,by (try simp only[u,w]);exact⟨g1,g2,S,l,T,fun z I=>by subst I;exact a⟩⟩,h _ rfl⟩
  exact h.elim
 case makeFunc fn first cap=>
  split at h
  ·rename_i r s;exact⟨_,fun m a=>by (try simp only[r,s]);exact a,h⟩
  exact h.elim
 case call c=>
  cases B:c.callee with
  | builtin b=>
   simp only[B] at h ⊢
   have D:∀t l,c.args.toList.map e=[.one (.sl t l)]->l.length<=140737488355328:=by
    intro t l M
    generalize c.args.toList=L at M
    match L,M with
    | [x],M=>exact hlen x t l (by simpa using M)
    |[],M|_::_::_,M=>simp at M
   rcases Gw.1 h with h |⟨H,h⟩ |⟨H,h⟩
   ·obtain⟨g,r,s⟩:=Jy D h;exact⟨g,fun m a=>Gw.2 (.inl (r m a)),s⟩
   ·obtain⟨g,r,s⟩:=Jy D h;obtain⟨t,id,v,n,l,hg,_,_,V,Q⟩:=Pj s;exact⟨_,fun m a=>Gw.2 (.inr (.inl ⟨H,r _ (Q m a)⟩)),V⟩
   obtain⟨g,r,s⟩:=ZS h;exact⟨g,fun m a=>Gw.2 (.inr (.inr ⟨H,r m a⟩)),s⟩
  | value f=>
   simp only[B] at h ⊢
   split at h
   ·rename_i he
    obtain⟨f,s,C⟩:=Nd h;exact⟨f,fun m a=>by (try simp only[he]);exact s _ a,C⟩
   ·rename_i he
    obtain⟨f,s,C⟩:=Nd h;exact⟨f,fun m a=>by (try simp only[he]);exact s _ a,C⟩
   ·rename_i he
    obtain⟨f,s,C⟩:=Nd h;exact⟨f,fun m a=>by (try simp only[he]);exact s _ a,C⟩
   exact h.elim
  | invoke _ _=>simp only[B] at h
end
section
theorem OL {pl:List (Nat×Nat×Bool)} {e e':Operand->AV}:∀{ps:List (Nat×Operand)} {cs:List AC},(∀p∈ps,e p.2=e' p.2)->F1 pl e ps cs=F1 pl e' ps cs
 | [],_,_=>rfl
 | (i,x)::r,cs,h=>by
  have a:=h (i,x) (by simp);simp only at a;have c:∀cs,F1 pl e r cs=F1 pl e' r cs:=fun cs=>OL fun p b=>h p (by simp[b])
  simp only[F1,a,c]
theorem Zc {E:Env} {TI:TypeId->Info} {o:Oper} {d:Nat} {e e':Operand->AV} {bk:Nat->Option AG} {K:BR->Prop} (he:∀x∈o.op.operands,e x=e' x) (h:B5 E TI o d e bk K):B5 E TI o d e' bk K:=by
 unfold B5 at h ⊢;cases w:o.op <;> simp only[w] at h ⊢ <;> (try exact h.elim) <;> rw[w] at he <;> simp only[Op.operands] at he
 case move x=>rw[<-he x (by simp)];exact h
 case assign x=>rw[<-he x (by simp)];exact h
 case nilCheck x=>rw[<-he x (by simp)];exact h
 case pick c x y=>rw[<-he x (by simp),<-he y (by simp),<-he c (by simp)];exact h
 case alloc t=>exact h
 case box t x=>rw[<-he x (by simp)];exact h
 case extract x i=>rw[<-he x (by simp)];exact h
 case load t x=>rw[<-he x (by simp)];exact h
 case store t p x=>rw[<-he x (by simp),<-he p (by simp)];exact h
 case fieldAddr t x i=>rw[<-he x (by simp)];exact h
 case field t x i=>rw[<-he x (by simp)];exact h
 case build t ps=>
  cases A:(TI t).arr with
  | some q=>
   simp only[A] at h ⊢;rw[<-OL (e:=e) (e':=e') (fun p g=>he p.2 (by simpa using ⟨p.1,Array.mem_toList_iff.1 g⟩))];exact h
  | none=>
  simp only[A] at h ⊢;rw[<-OL (e:=e) (e':=e') (fun p g=>he p.2 (by simpa using ⟨p.1,Array.mem_toList_iff.1 g⟩))];exact h
 case buildSlice t n ps=>
  cases l:(TI t).pt
  case true=>
   simp only[l] at h ⊢;rw[<-List.map_congr_left (f:=fun p=>e p.2) (fun p g=>he p.2 (by simpa using ⟨p.1,Array.mem_toList_iff.1 g⟩))];exact h
  simp only[l] at h ⊢;obtain⟨k,C,xs,D,h⟩:=h;refine⟨k,C,xs,fun u=>?_,h⟩;obtain⟨g1,g2,v,B⟩:=D u;have g:∀p∈ps.toList,e p.2=e' p.2:=fun p g=>he p.2 (by simpa using ⟨p.1,Array.mem_toList_iff.1 g⟩)
  refine⟨g1,g2,?_,?_⟩
  ·rw[List.all_eq_true] at v ⊢;intro p j;rw[<-g p j];exact v p j
  rw[<-List.map_congr_left (f:=fun p=>(p.1,(e p.2).cs)) (fun p j=>by rw[g p j])];exact B
 case makeSlice t x y=>rw[<-he x (by simp),<-he y (by simp)];exact h
 case indexAddr t x i=>rw[<-he x (by simp),<-he i (by simp)];exact h
 case index t x i=>rw[<-he x (by simp),<-he i (by simp)];exact h
 case slice t x lo hi mx=>
  have k:∀y:Option Operand,(∀z,y=some z->e z=e' z)->y.map e=y.map e':=fun y F=>by cases y <;> simp;exact F _ rfl
  rw[<-he x (by simp),<-k lo (fun z m=>he z (by simp[m])),<-k hi (fun z m=>he z (by simp[m])),<-k mx (fun z m=>he z (by simp[m]))];exact h
 case binOp op t x y t'=>rw[<-he x (by simp),<-he y (by simp)];exact h
 case unOp op t x=>rw[<-he x (by simp)];exact h
 case convert src dst x=>rw[<-he x (by simp)];exact h
 case makeFunc fn first cap=>
  rw[<-show cap.toList.map e=cap.toList.map e' from List.map_congr_left fun x s=>he x (by simp;exact .inr (by simpa using s))];exact h
 case call c=>
  have a:c.args.toList.map e=c.args.toList.map e':=List.map_congr_left fun x s=>he x (by simp[Call.operands];exact .inr (by simpa using s))
  cases r:c.callee with
  | builtin b=>simp only[r] at h ⊢;rw[<-a];exact h
  | value f=>
   simp only[r] at h ⊢;rw[<-a,<-he f (by simp[Call.operands,r])];exact h
  | invoke _ _=>simp only[r] at h
theorem Fj {bk Bc:Nat->Option AG} {id:Nat} (h:bk id=Bc id):AK bk id=AK Bc id:=by simp[AK,h]
theorem Wa {bk Bc:Nat->Option AG}:∀{ps:List (Nat×Nat)} {qs:List ((t:T)×el t)},(∀id∈ps.map (·.1),bk id=Bc id)->Kw bk ps qs->Kw Bc ps qs
 | [],[],_,h=>h
 | p::_,_::_,b,h=>⟨(b p.1 (by simp)).symm.trans h.1,Wa (fun id a=>b id (List.mem_cons_of_mem _ a)) h.2⟩
 |[],_::_,_,h|_::_,[],_,h=>h
theorem IN {bk Bc:Nat->Option AG} {c d:AC} (h:∀id∈Bk c,bk id=Bc id) (g:DC bk c d):DC Bc c d:=by
 cases c <;> first | exact g | skip
 case AQ t id v off len=>obtain⟨l,a,b⟩:=g;exact⟨l,(h id (by simp[Bk])) ▸ a,b⟩
 case Ae id v off=>obtain⟨a,t,x,b,j⟩:=g;exact⟨a,t,x,(h id (by simp[Bk])) ▸ b,j⟩
 case CU f ps=>exact g.imp (fun⟨qs,a,b⟩=>⟨qs,Wa (fun id i=>h id i) a,b⟩) id
theorem Rk {bk Bc:Nat->Option AG}:∀{l m:List AC},(∀id∈l.flatMap Bk,bk id=Bc id)->Aq (DC bk) l m->Aq (DC Bc) l m
 | [],[],_,h=>h
 | c::l,_::_,b,h=>⟨IN (fun id a=>b id (by simp[a])) h.1,Rk (fun id a=>b id (by rw[List.flatMap_cons];exact List.mem_append_right _ a)) h.2⟩
 |[],_::_,_,h|_::_,[],_,h=>h
theorem Ie {bk Bc:Nat->Option AG}:∀{l m:List AV},(∀id∈Be l,bk id=Bc id)->C6 (DC bk) l m->C6 (DC Bc) l m
 | [],[],_,h=>h
 | .one c::l,.one _::_,b,h=>⟨IN (fun id a=>b id (by simp[Be,a])) h.1,Ie (fun id a=>b id (by simp[Be,a])) h.2⟩
 | .agg cs::l,.agg _::_,b,h=>⟨Rk (fun id a=>b id (by rw[Be];exact List.mem_append_left _ a)) h.1,Ie (fun id a=>b id (by rw[Be];exact List.mem_append_right _ a)) h.2⟩
 |.AJ _::_,.AJ _::_,_,h|.one _::_,.agg _::_,_,h|.one _::_,.AJ _::_,_,h|.agg _::_,.one _::_,_,h|.agg _::_,.AJ _::_,_,h|.AJ _::_,.one _::_,_,h|.AJ _::_,.agg _::_,_,h=>h.1.elim
 |[],_::_,_,h|_::_,[],_,h=>h
theorem Wb {bk Bc:Nat->Option AG} {l2:List Nat} (c:∀id∈l2,bk id=Bc id):∀{ps:List (Nat×Nat)} {qs:List ((t:T)×el t)},(∀id∈ps.map (·.1),bk id=Bc id)->Kx bk l2 ps qs->Kx Bc l2 ps qs
 | [],[],_,h=>h
 | p::_,⟨t,x⟩::_,d,h=>by
  refine⟨?_,Wb c (fun id a=>d id (List.mem_cons_of_mem _ a)) h.2⟩;have e:=d p.1 (by simp);have b:=h.1
  cases t <;> first
   | exact e.symm.trans b
   | (obtain⟨id,v,g1,g2,f⟩:=b;exact⟨id,v,g1,e.symm.trans g2,(c id g1).symm.trans f⟩)
 |[],_::_,_,h|_::_,[],_,h=>h
theorem fQ {bk:Nat->Option AG} {l2:List Nat} {c d:AC} (a:∀f ps,c≠ .CU f ps):Kv bk l2 c d=DC bk c d:=by
 cases c <;> first | rfl | exact absurd rfl (a _ _)
theorem fP {bk Bc:Nat->Option AG} {l2:List Nat} {c d:AC} (h:∀id∈Bk c,bk id=Bc id) (g:∀id∈l2,bk id=Bc id) (b:Kv bk l2 c d):Kv Bc l2 c d:=by
 cases c
 case CU f ps=>obtain⟨qs,i,j⟩:=b;exact⟨qs,Wb g (fun id a=>h id a) i,j⟩
 all_goals (rw[fQ (fun _ _ e=>by cases e)] at b ⊢;exact IN h b)
theorem cR {bk Bc:Nat->Option AG} {i v:Nat} {c d:AC} (h:∀id∈Bk c,bk id=Bc id) (a:I3 bk i v c d):I3 Bc i v c d:=by
 cases c <;> first | exact a | skip
 case Ae j w off=>exact a.imp id fun⟨b,o,f,g⟩=>⟨b,o,(h j (by simp[Bk])).symm.trans f,g⟩
theorem Rf {R R':AC->AC->Prop}:∀{l m:List AC},(∀c∈l,∀d,R c d->R' c d)->Aq R l m->Aq R' l m
 | [],[],_,h=>h
 | c::_,_::_,a,h=>⟨a c (by simp) _ h.1,Rf (fun c b=>a c (by simp[b])) h.2⟩
 |[],_::_,_,h|_::_,[],_,h=>h
theorem LX {R R':AC->AC->Prop} {L:List Nat} (hR:∀c d,(∀id∈Bk c,id∈L)->R c d->R' c d):∀{l m:List AV},(∀id∈Be l,id∈L)->C6 R l m->C6 R' l m
 | [],[],_,h=>h
 | .one c::l,.one _::_,b,h=>⟨hR _ _ (fun id a=>b id (by simp[Be,a])) h.1,LX hR (fun id a=>b id (by simp[Be,a])) h.2⟩
 | .agg cs::l,.agg _::_,b,h=>⟨Rf (fun c f d=>hR c d fun id a=>b id (by rw[Be];exact List.mem_append_left _ (List.mem_flatMap.2 ⟨c,f,a⟩))) h.1,LX hR (fun id a=>b id (by rw[Be];exact List.mem_append_right _ a)) h.2⟩
 |.AJ _::_,.AJ _::_,_,h|.one _::_,.agg _::_,_,h|.one _::_,.AJ _::_,_,h|.agg _::_,.one _::_,_,h|.agg _::_,.AJ _::_,_,h|.AJ _::_,.one _::_,_,h|.AJ _::_,.agg _::_,_,h=>h.1.elim
 |[],_::_,_,h|_::_,[],_,h=>h
theorem Nc {E:Env} {g:FuncId} {args:List AV} {d:Nat} {bk Bc:Nat->Option AG} {f:BR} (m:∀id∈f.rd,bk id=Bc id) (h:FQ E g args d bk (fun g=>g=f)):FQ E g args d Bc (fun g=>g=f):=by
 rcases h with⟨a,r,k,l,h⟩ |⟨a,r,k,l,h⟩ | h |⟨i,b,a,r,k,l,h⟩ |⟨i,b,a,r,k,l,h⟩ | h |⟨i,b,a,r,b1,k,l,h⟩ |⟨l2,a,r,k,l,h⟩ |⟨i,b,a,r,b1,k,l,h⟩
 rotate_left 6
 ·subst h;exact .inr (.inr (.inr (.inr (.inr (.inr (.inl ⟨i,b,a,r,b1,fun u=>⟨(m i (by simp)).symm.trans (k u).1,(k u).2⟩,l,rfl⟩))))))
 ·subst h;exact .inr (.inr (.inr (.inr (.inr (.inr (.inr (.inl ⟨l2,a,r,fun u=>LX (fun c d o q=>fP (fun id j=>m id (by simp[o id j])) (fun id j=>m id (by simp[j])) q) (fun _ j=>j) (k u),l,by rw[Fj (m d (by simp))]⟩)))))))
 ·subst h;exact .inr (.inr (.inr (.inr (.inr (.inr (.inr (.inr ⟨i,b,a,r,b1,fun u=>⟨(m i (by simp)).symm.trans (k u).1,LX (fun c d o q=>cR (fun id j=>m id (by simp[o id j])) q) (fun _ j=>j) (k u).2⟩,l,rfl⟩)))))))
 rotate_left 3
 ·subst h;exact .inr (.inr (.inr (.inl ⟨i,b,a,r,fun u=>⟨(m i (by simp)).symm.trans (k u).1,(k u).2⟩,l,rfl⟩)))
 ·subst h;refine .inr (.inr (.inr (.inr (.inl ⟨i,b,a,r,fun u=>?_,l,rfl⟩))));obtain⟨⟨g1,g2,t⟩,v⟩:=k u;refine⟨⟨g1,(m i (by simp)).symm.trans g2,t⟩,Ie (fun id j=>m id ?_) v⟩;have:=List.all_eq_true.1 t id j;simp at this;simp[this]
 ·unfold FQ
  split at h
  ·split at h
   ·rename_i p
    split at h
    ·rename_i s
     obtain⟨a,l',k,l,h⟩:=h;have h:=h _ rfl;subst h;refine .inr (.inr (.inr (.inr (.inr (.inl ?_)))));have:=m _ (List.mem_cons_self ..);rw[p] at this;simp only[<-this,if_pos s];exact⟨a,l',fun u=>⟨(k u).1,(k u).2.1,Ie (fun id j=>m id (by simp[j])) (k u).2.2⟩,l,fun n w=>by subst w;rfl⟩
    exact h.elim
   exact h.elim
  exact h.elim
 ·subst h;exact .inl ⟨a,r,k,l,by rw[Fj (m d (by simp))]⟩
 ·subst h;exact .inr (.inl ⟨a,r,fun u=>Ie (fun id j=>m id (by simp[j])) (k u),l,by rw[Fj (m d (by simp))]⟩)
 unfold FQ
 split at h
 ·split at h
  ·rename_i x
   split at h
   ·rename_i p
    split at h
    ·rename_i s
     obtain⟨a,r,b1,k,l,h⟩:=h;subst h;refine .inr (.inr (.inl ?_));have:=m _ (List.mem_cons_self ..);rw[p] at this;simp only[<-this,if_pos s];exact⟨a,r,b1,fun u=>⟨(k u).1,Ie (fun id j=>m id (by simp[j])) (k u).2⟩,l,rfl⟩
    exact h.elim
   exact h.elim
  exact h.elim
 exact h.elim
theorem Zi {u:T} {x:AV} {lo i j:Option AV} {bk Bc:Nat->Option AG} {f:BR} (l:∀id∈f.rd,bk id=Bc id) (h:HR bk u x lo i j (fun g=>g=f)):HR Bc u x lo i j (fun g=>g=f):=by
 unfold HR at h ⊢
 split at h
 ·exact h
 ·obtain⟨k,h⟩:=h;refine⟨k,?_⟩
  split at h
  ·rename_i m
   obtain⟨a,b,c,n,d⟩:=J5 h;have d:=d _ _ ⟨rfl,rfl⟩;cases c <;> subst d <;> rw[if_pos ((Fj (l _ (List.mem_singleton.2 rfl))).symm.trans m)] <;> exact h
  exact h.elim
 ·exact h
 exact h.elim
theorem RX {TI:TypeId->Info} {b:Builtin} {m:List TypeId} {args:List AV} {d:Nat} {bk Bc:Nat->Option AG} {f:BR} (k:∀id∈f.rd,bk id=Bc id) (h:EK TI b m args d bk (fun g=>g=f)):EK TI b m args d Bc (fun g=>g=f):=by
 unfold EK at h ⊢
 split at h
 ·exact h
 ·obtain⟨i,h⟩:=h
  split at h
  ·rename_i l
   have j:=h _ ⟨rfl⟩;subst j;exact⟨i,by rw[if_pos ((Fj (k _ (List.mem_singleton.2 rfl))).symm.trans l)];exact h⟩
  exact h.elim
 ·obtain⟨i,h⟩:=h
  split at h
  ·rename_i l
   have j:=h _ ⟨rfl⟩;subst j;exact⟨i,by rw[if_pos ((Fj (k _ (List.mem_singleton.2 rfl))).symm.trans l)];exact h⟩
  exact h.elim
 ·exact h
 ·exact h
 ·exact h
 ·exact h
 ·exact h
 ·exact h
 ·obtain⟨i,l2,a,h⟩:=h;have j:=h _ rfl;subst j;refine⟨i,l2,fun u=>⟨IN (fun id c=>k id (by simp[c])) (a u).1,(a u).2⟩,?_⟩;rw[<-Fj (k d (by simp))];exact h
 ·obtain⟨i,h⟩:=h;refine⟨i,?_⟩
  split at h
  ·rename_i n
   split at h
   ·rename_i l
    obtain⟨l2,a,h⟩:=h;have j:=h _ _ ⟨rfl,rfl⟩;subst j;have:=k _ (List.mem_cons_self ..);rw[n] at this;simp only[<-this,if_pos l];exact⟨l2,fun u=>⟨(a u).1,(a u).2.1,IN (fun id c=>k id (by simp[c])) (a u).2.2.1,(a u).2.2.2⟩,h⟩
   exact h.elim
  exact h.elim
 ·obtain⟨i,h⟩:=h;refine⟨i,?_⟩
  split at h
  ·rename_i n
   split at h
   ·rename_i l
    obtain⟨l2,a,h⟩:=h;have j:=h _ _ ⟨rfl,rfl⟩;subst j;have:=k _ (List.mem_cons_self ..);rw[n] at this;simp only[<-this,if_pos l];exact⟨l2,fun u=>⟨(a u).1,(a u).2.1,IN (fun id c=>k id (by simp[c])) (a u).2.2.1,(a u).2.2.2⟩,h⟩
   exact h.elim
  exact h.elim
 exact h.elim
theorem ZR {TI:TypeId->Info} {a:List TypeId} {args:List AV} {bk Bc:Nat->Option AG} {f:BR} (d:∀id∈f.rd,bk id=Bc id) (h:Ft TI a args bk (fun g=>g=f)):Ft TI a args Bc (fun g=>g=f):=by
 unfold Ft at h ⊢
 split at h
 ·obtain⟨i,h⟩:=h;refine⟨i,?_⟩
  split at h
  ·rename_i k
   split at h
   ·rename_i l
    obtain⟨l2,b,h⟩:=h;have j:=h _ _ ⟨rfl,rfl⟩;subst j;have:=d _ (List.mem_cons_self ..);rw[k] at this;simp only[<-this,if_pos l];exact⟨l2,fun u=>⟨(b u).1,(b u).2.1,IN (fun id c=>d id (by simp[c])) (b u).2.2.1,(b u).2.2.2⟩,h⟩
   exact h.elim
  exact h.elim
 exact h.elim
theorem Zb {E:Env} {TI:TypeId->Info} {o:Oper} {d:Nat} {e:Operand->AV} {bk Bc:Nat->Option AG} {f:BR} (m:∀id∈f.rd,bk id=Bc id) (h:B5 E TI o d e bk (fun g=>g=f)):B5 E TI o d e Bc (fun g=>g=f):=by
 have B:∀{id v:Nat},AK bk id=v->id∈f.rd->AK Bc id=v:=fun j k=>(Fj (m _ k)).symm.trans j
 have u:∀{id:Nat} {b:AG},bk id=some b->id∈f.rd->Bc id=some b:=fun j k=>(m _ k).symm.trans j
 unfold B5 at h ⊢;cases O:o.op <;> simp only[O] at h ⊢ <;> (try exact h)
 case nilCheck x=>
  split at h
  ·split at h
   ·rename_i a
    rw[if_pos (B a (by rw[<-h];simp))];exact h
   exact h.elim
  ·exact h
  ·exact h
  ·exact h
  exact h.elim
 case alloc t=>rw[<-Fj (m d (by rw[<-h.2];simp))];exact h
 case box t x=>
  split at h
  ·exact h.elim
  ·exact h.elim
  rw[<-Fj (m d (by rw[<-h];simp))];exact h
 case load t x=>
  simp only[KD] at h ⊢;obtain⟨j,h⟩:=h;refine⟨j,?_⟩
  split at h
  ·split at h
   ·rename_i D
    split at h
    ·rename_i a
     simp only[u D (by rw[<-h];simp),if_pos a];exact h
    exact h.elim
   exact h.elim
  ·exact h
  ·exact h
  ·split at h
   ·rename_i D
    split at h
    ·rename_i a
     have h':=h;obtain⟨z,k,h⟩:=h
     split at h
     ·simp only[u D (by rw[<-h];simp),if_pos a];exact h'
     exact h.elim
    exact h.elim
   exact h.elim
  exact h.elim
 case store t p x=>
  obtain⟨j,h⟩:=h;refine⟨j,?_⟩
  split at h
  ·split at h
   ·exact h.elim
   ·exact h.elim
   ·rename_i D G H
    split at h
    ·rename_i a
     rw[u D (by rw[<-h];simp)]
     split
     ·rename_i C;exact (G _ C).elim
     ·rename_i C;exact (H C).elim
     ·rename_i w _ _;cases Option.some.inj w;rw[if_pos a];exact h
     rename_i p q r;first | exact (p _ _ rfl).elim | exact (q _ _ rfl).elim | exact (r _ _ rfl).elim
    exact h.elim
   exact h.elim
  ·split at h
   ·exact h.elim
   ·exact h.elim
   ·rename_i D G H
    split at h
    ·rename_i a
     have h':=h;obtain⟨z,k,h⟩:=h;rw[u D (by rw[<-h _ rfl];simp)]
     split
     ·rename_i C;exact (G _ C).elim
     ·rename_i C;exact (H C).elim
     ·rename_i w _ _;cases Option.some.inj w;rw[if_pos a];exact h'
     rename_i p q r;first | exact (p _ _ _ rfl).elim | exact (q _ _ _ rfl).elim | exact (r _ _ _ rfl).elim
    rename_i N
    split at h
    ·rename_i a
     have h':=h;obtain⟨R,z,k,h⟩:=h;rw[u D (by rw[<-h _ rfl];simp)]
     split
     ·rename_i C;exact (G _ C).elim
     ·rename_i C;exact (H C).elim
     ·rename_i w _ _;cases Option.some.inj w;rw[if_neg N,if_pos a];exact h'
     rename_i p q r;first | exact (p _ _ _ rfl).elim | exact (q _ _ _ rfl).elim | exact (r _ _ _ rfl).elim
    exact h.elim
   exact h.elim
  exact h.elim
 case fieldAddr t x i=>
  obtain⟨j,h⟩:=h;refine⟨j,?_⟩
  split at h
  ·split at h
   ·rename_i a;rw[if_pos (B a (by rw[<-h];simp))];exact h
   exact h.elim
  ·exact h
  ·split at h
   ·rename_i a;rw[if_pos (B a (by rw[<-h];simp))];exact h
   exact h.elim
  exact h.elim
 case buildSlice t n ps=>
  cases A:(TI t).pt
  case true=>
   simp only[A] at h ⊢;exact h
  simp only[A] at h ⊢;obtain⟨j,k,xs,F,h | h⟩:=h
  ·rw[<-Fj (m d (by rw[<-h];simp))];exact⟨j,k,xs,F,.inl h⟩
  exact⟨j,k,xs,F,.inr h⟩
 case makeSlice t x y=>
  obtain⟨j,h⟩:=h;refine⟨j,?_⟩
  split at h
  ·rw[<-Fj (m d (by rw[<-h.2 _ _ ⟨rfl,rfl⟩];simp))];exact h
  exact h.elim
 case indexAddr t x i=>
  cases A:(TI t).pt
  case true=>
   simp only[A] at h ⊢;exact h
  simp only[A] at h ⊢;cases M:(TI t).arr with
  | some q=>
   simp only[M] at h ⊢
   split at h
   ·split at h
    ·rename_i a;rw[if_pos (B a (by rw[<-h.2];simp))];exact h
    exact h.elim
   ·exact h
   exact h.elim
  | none=>
  simp only[M] at h ⊢;obtain⟨j,h⟩:=h;refine⟨j,?_⟩
  split at h
  ·exact h
  ·obtain⟨k,h⟩:=h
   split at h
   ·rename_i a;exact⟨k,by rw[if_pos (B a (by rw[<-h.2 _ rfl];simp))];exact h⟩
   exact h.elim
  exact h.elim
 case slice t x lo hi mx=>
  revert h;generalize e x=X;intro h
  split at h
  ·exact h
  exact⟨h.1,Zi m h.2⟩
 case call c=>
  cases I:c.callee with
  | builtin b=>
   simp only[I] at h ⊢;rcases Gw.1 h with h |⟨s,h⟩ |⟨s,h⟩
   ·exact Gw.2 (.inl (RX m h))
   ·obtain⟨g,j,k⟩:=Jy (fun t l J=>absurd (Nm s h) (by rw[J];exact (by decide:¬(1=2)))) h;obtain⟨t,id,v,n,l,Q,_,_,L,K⟩:=Pj k;have F:=RX (Bc:=Bc) (f:=g) (fun i hi=>m i (by rw[<-L];exact hi)) (j _ rfl);obtain⟨g2,k1,k2⟩:=Jy (fun t l J=>absurd (Nm s h) (by rw[J];exact (by decide:¬(1=2)))) F;subst k2;exact Gw.2 (.inr (.inl ⟨s,k1 _ (K _ L)⟩))
   exact Gw.2 (.inr (.inr ⟨s,ZR m h⟩))
  | value g=>
   simp only[I] at h ⊢
   split at h
   ·exact Nc m h
   ·exact Nc m h
   ·exact Nc m h
   exact h.elim
  | invoke _ _=>simp only[I] at h
end
def Lw (o:Oper):Bool:=
 match o.op with
 |.alloc _|.box _ _|.makeSlice _ _ _|.buildSlice _ _ _=>o.dst.isSome
 | .call c=>match c.callee with
  | .builtin _=>o.dst.isSome
  | _=>true
 | _=>true
section
variable {P:Program} {TI:TypeId->Info}
theorem BB.fC {w0:World} {X:WX} {β:Nat->Option Nat} {s:St} {a:Act} {w:World} {q id v:Nat} {t:T} {l:List (el t)} {rd J:List Nat}
  (S:BB w0 X β (s.app (some q) ⟨.one (.AQ t id v 0 l.length),[(id,.arr v t l)],rd⟩) a w) (f:id<s.bk.length) (Q:id≠0):
  BB w0 X β (s.app (some q) ⟨.one (.sl t l),[(id,.dead v)],J⟩) a w:=by
 have r:∀k,AF (Av s.bk id (some (.arr v t l))) k=if k=id then some (.arr v t l) else AF s.bk k:=fun k=>by
  rw[F9];by_cases h:k=id <;> simp[h,f]
 have x:∀k,AF (Av s.bk id (some (.dead v))) k=if k=id then some (.dead v) else AF s.bk k:=fun k=>by
  rw[F9];by_cases h:k=id <;> simp[h,f]
 have p:∀k,AK (AF (Av s.bk id (some (.dead v)))) k=AK (AF (Av s.bk id (some (.arr v t l)))) k:=fun k=>by
  rw[ET _ _ _ f,ET _ _ _ f];rfl
 have g:∀k,live (AF (Av s.bk id (some (.dead v)))) k->live (AF (Av s.bk id (some (.arr v t l)))) k/\k≠id:=fun k d=>by
  rw[Fe _ _ _ f] at d
  by_cases h:k=id
  ·rw[if_pos h] at d;simp[AG.live] at d
  rw[if_neg h] at d;exact⟨by rw[Fe _ _ _ f,if_neg h];exact d,h⟩
 have z:live (AF (Av s.bk id (some (.arr v t l)))) id:=by rw[Fe _ _ _ f,if_pos rfl];rfl
 have hle:(cx X w β (AF (Av s.bk id (some (.arr v t l))))).le (cx X w β (AF (Av s.bk id (some (.dead v))))):=
  ⟨fun k=>Nat.le_of_eq (p k).symm,fun _ _=>rfl,fun k b arr e _ _ V=>⟨arr,V,rfl⟩,fun b m=>⟨⟨⟨m.1.1,fun k d=>m.1.2 k (g k d).1⟩,m.2⟩,rfl⟩,fun b m=>⟨⟨m.1,fun k d=>m.2 k (g k d).1⟩,rfl⟩⟩
 have D:∀b o,w.heap[b]? =some o->b<w.heap.size:=fun b o h=>by
  rcases Nat.lt_or_ge b w.heap.size with h' | h'
  ·exact h'
  simp[Array.getElem?_eq_none h'] at h
 refine⟨S.defers,by have:=S.len;simpa [St.app,Er,E4] using this,by have:=S.GZ;simpa [St.app,Ci,E4] using this,fun i=>?_,fun k b d=>?_,fun k k' b d c m B=>S.inj k k' b (g k d).1 (g k' c).1 m B,
  fun k b d m=>S.own k b (g k d).1 m,S.os,S.tape,S.output,S.size,S.block,fun k b d=>?_,S.fresh,fun W hv=>?_⟩
 ·have Z:=S.GJ i
  show BF _ (nth (Av s.sl q (.one (.sl t l))) i) _
  have n:BF (cx X w β (AF (Av s.bk id (some (.arr v t l))))) (nth (Av s.sl q (.one (.AQ t id v 0 l.length))) i) (a.tmps.getD i undef):=Z;rw[IC] at n ⊢
  by_cases h:i=q/\q<s.sl.length
  ·rw[if_pos h] at n ⊢;have U:=BA n (by simp)
   have G:v=(cx X w β (AF (Av s.bk id (some (.arr v t l))))).cv id:=by
    show v=AK _ id
    rw[ET _ _ _ f,if_pos rfl];rfl
   obtain⟨base,cap,hu,g1,g2,O⟩:=I7 U G;refine .inr ?_
   show rep w _ (.sl t) l [_]
   have F:l.length<=140737488355328:=S.lens id (.arr v t l) (by show AF (Av s.bk id (some (.arr v t l))) id=_;rw[r,if_pos rfl]);refine⟨base,cap,by rw[hu],g1,F,?_⟩
   by_cases u:l=[]
   ·exact .inl u
   right
   have Y:0<l.length:=List.length_pos_iff.2 u;rcases O with rfl |⟨b,arr,e,H,N,q3,q4⟩
   ·omega
   rcases S.blocks id (.arr v t l) (by show AF (Av s.bk id (some (.arr v t l))) id=_;rw[r,if_pos rfl]) with⟨L,M⟩ |⟨b',K,e',L,M,p3⟩
   ·exact absurd M u
   obtain rfl:b'=b:=Option.some.inj (L.symm.trans H);rw[Nat.zero_mul] at N
   have R:X.A b':=by
    rcases S.own id b' z H with h | h
    ·exact S.fresh.1 b' h
    exact absurd h.2 Q
   refine⟨b',0,N,⟨⟨D _ _ q3,fun k d e=>(g k d).2 (S.inj k id b' (g k d).1 z e H)⟩,R⟩,fun j y hy=>?_⟩;obtain⟨us,k1,k2⟩:=p3 j y hy;exact⟨us,By hle.I _ _ _ k1,by rw[Nat.zero_add];exact k2⟩
  rw[if_neg h] at n ⊢;exact BF.mono hle n
 ·have c:AF (Av s.bk id (some (.dead v))) k=some b:=d;rw[x] at c
  by_cases h:k=id
  ·rw[if_pos h] at c;cases Option.some.inj c
   trivial
  rw[if_neg h] at c;have m:AF (Av s.bk id (some (.arr v t l))) k=some b:=by rw[r,if_neg h];exact c
  exact CM.mono hle (p k) (fun _ _=>rfl) (S.blocks k b m)
 ·have c:AF (Av s.bk id (some (.dead v))) k=some b:=d;rw[x] at c
  by_cases h:k=id
  ·rw[if_pos h] at c;cases Option.some.inj c
   trivial
  rw[if_neg h] at c;exact S.lens k b (by show AF (Av s.bk id (some (.arr v t l))) k=_;rw[r,if_neg h];exact c)
 have C:=g 0 W;exact S.H7 C.1 ((p 0).symm.trans hv)
theorem fb (y:∀t,Cw P t (TI t)) {o:Oper} {c:Call} {b:Builtin} (u:o.op= .call c) (p:c.callee= .builtin b) (r:o.dst≠none):Sound P (env P) TI o:=by
 intro w0 X β s a w S f h N Q k;simp only[B5,u,p] at h;rcases Gw.1 h with h |⟨m,h⟩ |⟨m,J⟩
 ·exact We y u p r S h k
 ·obtain⟨g,C,I⟩:=Jy (fun t l O=>absurd (Nm m h) (by rw[O];exact (by decide:¬(1=2)))) h;obtain⟨t,id,v,n,l,D,H,R,K,_⟩:=Pj I;subst R;obtain⟨q,z⟩:=Option.ne_none_iff_exists'.1 r;rw[z] at k;refine We y u p r S (C _ rfl) (fun β' G w' j=>k β' G w' ?_);rw[z,D] at j;rw[<-K]
  by_cases i:id<s.bk.length
  ·exact j.fC i H
  have d:s.bk.length<=id:=Nat.le_of_not_lt i;have L:BP o=q:=by simp[BP,z]
  rcases Ze m (C _ rfl) (by rw[D]) with e |⟨x,F⟩
  ·have A:s.sl.length<=q:=by
    have e1:=S.len;have T:=S.GZ;omega
   have e1:∀(f:BR) (B:AG),f.ws=[(id,B)]->s.app (some q) f=s:=fun f B M=>by
    unfold St.app;rw[M];simp only[Er,Ci,GF _ _ _ A,GF _ _ _ d]
   rw[e1 _ _ rfl] at j;rw[e1 _ _ rfl];exact j
  rw[F8 _ _ d] at F;cases F
 subst m;exact fT y u p r S J k
theorem M1 (j:∀t,Cw P t (TI t)) (o:Oper) (k:Lw o=true):Sound P (env P) TI o:=by
 unfold Lw at k;have l:o.dst.isSome=true->o.dst≠none:=fun h e=>by simp[e] at h
 cases g:o.op <;> simp only[g] at k
 case move x=>(intro w0 X β s a w S f h N Q d;exact ft g S h d)
 case assign x=>(intro w0 X β s a w S f h N Q d;exact fV g S h d)
 case nilCheck x=>(intro w0 X β s a w S f h N Q d;exact fu g S h d)
 case pick c x y=>(intro w0 X β s a w S f h N Q d;exact fv g S h d)
 case alloc t=>(intro w0 X β s a w S f h N Q d;exact fU j g (l k) S h d)
 case box t x=>(intro w0 X β s a w S f h N Q d;exact fX g (l k) S h d)
 case extract x i=>(intro w0 X β s a w S f h N Q d;exact fe g S h d)
 case load t x=>(intro w0 X β s a w S f h N Q d;exact fm j g S h d)
 case store t p x=>(intro w0 X β s a w S f h N Q d;exact fx j g S h d)
 case fieldAddr t x i=>(intro w0 X β s a w S f h N Q d;exact fg j g S h d)
 case field t x i=>(intro w0 X β s a w S f h N Q d;exact ff j g S h d)
 case build t ps=>(intro w0 X β s a w S f h N Q d;exact fY j g S h d)
 case buildSlice t n ps=>(intro w0 X β s a w S f h N Q d;exact fa j g (l k) S h d)
 case makeSlice t x y=>(intro w0 X β s a w S f h N Q d;exact fq j g (l k) S h d)
 case index t x i=>(intro w0 X β s a w S f h N Q d;exact fh j g S h d)
 case indexAddr t x i=>(intro w0 X β s a w S f h N Q d;exact fk j g S h d)
 case slice t x lo hi mx=>(intro w0 X β s a w S f h N Q d;exact fw j g S h d)
 case binOp op t x y t'=>(intro w0 X β s a w S f h N Q d;exact fW j g S h d)
 case unOp op t x=>(intro w0 X β s a w S f h N Q d;exact fy g S h d)
 case convert src dst x=>(intro w0 X β s a w S f h N Q d;exact fc j g S h d)
 case makeFunc fn first cap=>(intro w0 X β s a w S f h N Q d;exact fp g S h d)
 case call c=>
  cases m:c.callee with
  | builtin b=>simp only[m] at k;(intro w0 X β s a w S f h N Q d;exact fb j g m (l k) S h d)
  | value f=>(intro w0 X β s a w S f h N Q d;exact fS o g m S h d)
  | invoke _ _=>intro w0 X β s a w S f h N Q d;simp only[B5,g,m] at h
 all_goals (intro w0 X β s a w S f h N Q d;simp only[B5,g] at h)
end
section
variable {P:Program} {E:Env} {TI:TypeId->Info}
def Eb (E:Env) (TI:TypeId->Info) (all:List Oper) (o:Oper) (f:BR) (s:St):Prop:=
 match o.guard with
 | none=>B5 E TI o (BP o) (ev s.sl) (AF s.bk) (fun g=>g=f)
 | some (j,w)=>∃g,MB all j=some g/\
  ((nth s.sl g= .one (.bool w)/\B5 E TI o (BP o) (ev s.sl) (AF s.bk) (fun g=>g=f))\/
    ((nth s.sl g= .one (.bool (!w))\/nth s.sl g= .AJ [])/\f=⟨.AJ [],[],[]⟩))
def chain (E:Env) (TI:TypeId->Info) (all:List Oper):List Oper->List BR->St->Prop
 | [],[],_=>True
 | o::r,f::fs,s=>Eb E TI all o f s/\chain E TI all r fs (s.app o.dst f)
 | _,_,_=>False
def fin:List Oper->List BR->St->St
 | o::r,f::fs,s=>fin r fs (s.app o.dst f)
 | _,_,s=>s
def JY (f:BR):List Nat×List Nat:=(f.rd,f.ws.map (·.1))
theorem iB {o:Oper} {a:Act} {w:World} {N:Act->World->Prop} (h:o.wp P a w N (fun _ _ _=>False)):∃b w',N b w':=by
 unfold Oper.wp at h
 generalize (execOp a.eval o).run P w=r at h
 unfold Oper.upon at h
 split at h
 ·exact⟨_,_,h⟩
 ·exact⟨_,_,h⟩
 ·exact⟨_,_,h⟩
 ·obtain⟨e,w',c,hR,_⟩:=h [];cases e with
  | returned v=>exact⟨_,_,hR⟩
  | panicked _=>exact hR.elim
  | outgrown=>obtain⟨_,_,h⟩:=hR;exact h.elim
 ·obtain⟨v,w',hR,_⟩:=h default [];exact⟨_,_,hR⟩
 ·exact h.elim
 exact h.elim
theorem SG {w0:World} {X:WX} {β:Nat->Option Nat} {s:St} {a:Act} {w:World} (S:BB w0 X β s a w) {g:Nat} {b:Bool} (h:nth s.sl g= .one (.bool b)):a.tmps[g]? =some (.bool b):=by
 have f:=S.GJ g;rw[h] at f;have d:a.tmps.getD g undef= .bool b:=BA f (by simp);rcases Nat.lt_or_ge g a.tmps.size with c | c
 ·simp[Array.getD,c] at d;simp[c,d]
 simp[Array.getD,Nat.not_lt.2 c,undef] at d
theorem PG {ops:Array Oper} {o:Oper} (r:Sound P E TI o) {w0:World} {X:WX} {β:Nat->Option Nat} {s:St} {a:Act} {w:World} (S:BB w0 X β s a w) {f:BR} (h:Eb E TI ops.toList o f s)
  {N:Act->World->Prop} {Q:Exit->Act->World->Prop} (n:∀β' p w',BB w0 X β' (s.app o.dst f) p w'->N p w'):
  if Region.wanted o (yielded ops a.tmps) then o.wp P a w N Q else N (a.put o.dst undef) w:=by
 unfold Eb at h
 split at h
 ·rename_i l
  simp only[Region.wanted,l,if_true];exact r S h n
 rename_i j want l
 obtain⟨g,t,m⟩:=h;have b:(ops[j]?).bind (·.dst)=some g:=by simpa [MB] using t
 rcases m with⟨c,m⟩ |⟨c,rfl⟩
 ·have d:yielded ops a.tmps j=some want:=by simp[yielded,b,SG S c]
  simp only[Region.wanted,l,d,beq_self_eq_true,if_true];exact r S m n
 have d:(yielded ops a.tmps j==some want)=false:=by
  rcases c with c | c
  ·have d:yielded ops a.tmps j=some (!want):=by simp[yielded,b,SG S c]
   rw[d];cases want <;> rfl
  have d:yielded ops a.tmps j=none:=by
   have q:=S.GJ g;rw[c] at q;obtain⟨arr,i,_⟩:=q;have i:a.tmps.getD g undef= .tuple arr:=i;unfold yielded;simp only[b,Option.bind_some];rcases Nat.lt_or_ge g a.tmps.size with k | k
   ·simp[Array.getD,k] at i;simp[k,i]
   simp[k]
  rw[d];rfl
 simp only[Region.wanted,l,d,Bool.false_eq_true,if_false];exact n β _ w (S.val ⟨#[],rfl,trivial⟩)
theorem dQ {ops:Array Oper} {o:Oper} (c:Sound P E TI o) {w0:World} {X:WX} {β:Nat->Option Nat} {s:St} {a:Act} {w:World} (S:BB w0 X β s a w) {f:BR} (h:Eb E TI ops.toList o f s):
  ∃β' b w',BB w0 X β' (s.app o.dst f) b w':=by
 have:=PG (N:=fun b w'=>∃β',BB w0 X β' (s.app o.dst f) b w') (Q:=fun _ _ _=>False) c S h fun β' b w' h=>⟨β',h⟩
 split at this
 ·obtain⟨b,w',β',h⟩:=iB this;exact⟨β',b,w',h⟩
 obtain⟨β',h⟩:=this;exact⟨β',_,_,h⟩
theorem Pq {w0:World} {X:WX} {β:Nat->Option Nat} {s:St} {a:Act} {w:World} (S:BB w0 X β s a w) (x:Operand) (t:T) (l:List (el t)) (h:ev s.sl x= .one (.sl t l)):l.length<=140737488355328:=by
 have b:=Bx S x;rw[h] at b;obtain⟨_,_,_,_,c,_⟩:=BA b (by simp);exact c
theorem V4 {ops:Array Oper} {draw:Bool} {w0:World} {X:WX} {Q:St->Prop}:∀{r:List Oper} {tr:Tr} {β:Nat->Option Nat} {s:St} {a:Act} {w:World},(∀o∈r,Sound P E TI o)->BB w0 X β s a w->
  GD E TI ops.toList draw r tr Q s->∃c,chain E TI ops.toList r c s/\Q (fin r c s)/\(draw=true->Hd ops.toList (tr.reverse++c.map JY)=true)
 | [],tr,β,s,a,w,_,_,h=>by
  refine⟨[],trivial,?_,?_⟩
  ·cases draw
   ·exact h
   exact h.2
  rintro rfl;simpa using h.1 ()
 | o::r,tr,β,s,a,w,m,S,h=>by
  have go:∀f,Eb E TI ops.toList o f s->GD E TI ops.toList draw r (JY f::tr) Q (s.app o.dst f)->
    ∃c,chain E TI ops.toList (o::r) c s/\Q (fin (o::r) c s)/\(draw=true->Hd ops.toList (tr.reverse++c.map JY)=true):=by
   intro f i k;obtain⟨β',u,w',n⟩:=dQ (m o (by simp)) S i;obtain⟨c,g1,g2,p⟩:=V4 (fun o t=>m o (by simp[t])) n k;exact⟨f::c,⟨i,g1⟩,g2,fun q=>by have:=p q;simpa using this⟩
  unfold GD at h
  split at h
  ·rename_i l
   obtain⟨f,i,k⟩:=Nl (Pq S) h;exact go f (by unfold Eb;rw[l];exact i _ rfl) k
  rename_i j want l
  split at h
  ·exact h.elim
  rename_i g b
  split at h
  ·rename_i d
   obtain⟨f,i,k⟩:=Nl (Pq S) h;exact go f (by unfold Eb;rw[l];exact⟨g,b,.inl ⟨d,i _ rfl⟩⟩) k
  ·rename_i d
   obtain⟨f,i,k⟩:=Nl (Pq S) h;exact go f (by unfold Eb;rw[l];exact⟨g,b,.inl ⟨d,i _ rfl⟩⟩) k
  ·rename_i d
   exact go ⟨.AJ [],[],[]⟩ (by unfold Eb;rw[l];exact⟨g,b,.inr ⟨.inl d,rfl⟩⟩) h
  ·rename_i d
   exact go ⟨.AJ [],[],[]⟩ (by unfold Eb;rw[l];exact⟨g,b,.inr ⟨.inl d,rfl⟩⟩) h
  ·rename_i d
   exact go ⟨.AJ [],[],[]⟩ (by unfold Eb;rw[l];exact⟨g,b,.inr ⟨.inr d,rfl⟩⟩) h
  exact h.elim
theorem XN {ops:Array Oper} {w0:World} {X:WX} {Q:Exit->Act->World->Prop}:∀{r:List Oper} {b:List BR} {k:Nat} {β:Nat->Option Nat} {s:St} {a:Act} {w:World},(∀j,ops[k+j]? =r[j]?)->(∀o∈r,Sound P E TI o)->BB w0 X β s a w->
  chain E TI ops.toList r b s->(∀β a w,BB w0 X β (fin r b s) a w->Q .normal a w)->wpOps P ops Q (List.range' k r.length) a w
 | [],[],k,β,s,a,w,_,_,S,_,c=>c β a w S
 | o::r,f::b,k,β,s,a,w,g,i,S,d,c=>by
  have m:ops[k]? =some o:=by simpa using g 0
  have:=PG (Q:=Q) (N:=wpOps P ops Q (List.range' (k+1) r.length)) (i o (by simp)) S d.1 fun β' p w' l=>
   XN (fun j=>by have:=g (j+1);rw[show k+1+j=k+(j+1) by omega];simpa using this) (fun o n=>i o (by simp[n])) l d.2 c
  simp only[List.length_cons,List.range'_succ,wpOps,m]
  split
  ·rename_i hw;rw[if_pos hw] at this;exact .inl this
  rename_i hw;rw[if_neg hw] at this;exact this
 |[],_::_,_,_,_,_,_,_,_,_,h,_|_::_,[],_,_,_,_,_,_,_,_,h,_=>h.elim
end
section
variable {P:Program} {E:Env} {TI:TypeId->Info}
def run (m:Nat->Bool):Nat->List Oper->List BR->St->St
 | k,o::r,f::fs,s=>run m (k+1) r fs (if m k then s.app o.dst f else s)
 | _,_,_,s=>s
theorem V5 {m:Nat->Bool}:∀{r:List Oper} {a:List BR} {k:Nat} {s:St},(∀j,k<=j->j<k+r.length->m j=true)->run m k r a s=fin r a s
 | o::r,f::a,k,s,h=>by
  simp only[run,fin];rw[h k (Nat.le_refl _) (by simp),if_pos rfl];exact V5 fun j b c=>h j (by omega) (by simp;omega)
 |[],_,_,_,_|_::_,[],_,_,_=>rfl
theorem Uw (s:St) (d:Option Nat) (f:BR) (x:Nat) (h:d≠some x):nth (s.app d f).sl x=nth s.sl x:=by
 cases d with
 | none=>rfl
 | some q=>
  show nth (Av s.sl q f.v) x=_
  rw[IC,if_neg]
  rintro⟨rfl,_⟩;exact h rfl
theorem KR (s:St) (d:Option Nat) (f:BR):(s.app d f).sl.length=s.sl.length:=by
 cases d with
 | none=>rfl
 | some q=>exact E4 _ _ _
theorem KT:∀(ws:List (Nat×AG)) (l:List (Option AG)),(Ci ws l).length=l.length
 | [],_=>rfl
 | p::ws,l=>by rw[Ci,KT ws,E4]
theorem O4:∀(ws:List (Nat×AG)) (l:List (Option AG)) (x:Nat),x ∉ ws.map (·.1)->AF (Ci ws l) x=AF l x
 | [],_,_,_=>rfl
 | p::ws,l,x,h=>by
  rw[Ci,O4 ws _ x (fun h'=>h (by simp at h' ⊢;exact .inr h')),F9,if_neg]
  rintro⟨rfl,_⟩;exact h (by simp)
theorem U0:∀(ws:List (Nat×AG)) (l l':List (Option AG)) (x:Nat),l.length=l'.length->AF l x=AF l' x->AF (Ci ws l) x=AF (Ci ws l') x
 | [],_,_,_,_,h=>h
 | p::ws,l,l',x,a,h=>U0 ws _ _ x (by simp[E4,a]) (by rw[F9,F9,a,h])
theorem Kr {m1 m2:Nat->Bool} {x:Nat}:∀{r:List Oper} {l:List BR} {k:Nat} {s s':St},(∀j o,r[j]? =some o->m1 (k+j)≠m2 (k+j)->o.dst≠some x)->nth s.sl x=nth s'.sl x->s.sl.length=s'.sl.length->
  nth (run m1 k r l s).sl x=nth (run m2 k r l s').sl x
 | o::r,f::l,k,s,s',h,a,b=>by
  have m:=h 0 o rfl;simp only[Nat.add_zero] at m;have i:∀j g,r[j]? =some g->m1 (k+1+j)≠m2 (k+1+j)->g.dst≠some x:=fun j g n hm=>h (j+1) g (by simpa using n) (by rw[show k+(j+1)=k+1+j by omega];exact hm)
  simp only[run];cases c:m1 k <;> cases d:m2 k <;> simp only[Bool.false_eq_true,if_true,if_false]
  ·exact Kr i a b
  ·exact Kr i (by rw[Uw _ _ _ _ (m (by simp[c,d]))];exact a) (by rw[KR];exact b)
  ·exact Kr i (by rw[Uw _ _ _ _ (m (by simp[c,d]))];exact a) (by rw[KR];exact b)
  refine Kr i ?_ (by rw[KR,KR];exact b);cases p:o.dst with
  | none=>exact a
  | some q=>show nth (Av _ _ _) _=nth (Av _ _ _) _;rw[IC,IC,b,a]
 |[],_,_,_,_,_,a,_|_::_,[],_,_,_,_,a,_=>a
theorem Kq {m1 m2:Nat->Bool} {x:Nat}:∀{r:List Oper} {b:List BR} {k:Nat} {s s':St},(∀j f,b[j]? =some f->m1 (k+j)≠m2 (k+j)->x ∉ f.ws.map (·.1))->AF s.bk x=AF s'.bk x->s.bk.length=s'.bk.length->
  AF (run m1 k r b s).bk x=AF (run m2 k r b s').bk x
 | o::r,f::b,k,s,s',h,a,c=>by
  have l:=h 0 f rfl;simp only[Nat.add_zero] at l;have i:∀j m,b[j]? =some m->m1 (k+1+j)≠m2 (k+1+j)->x ∉ m.ws.map (·.1):=fun j p n hm=>h (j+1) p (by simpa using n) (by rw[show k+(j+1)=k+1+j by omega];exact hm)
  simp only[run];cases d:m1 k <;> cases g:m2 k <;> simp only[Bool.false_eq_true,if_true,if_false]
  ·exact Kq i a c
  ·exact Kq i (by show _=AF (Ci _ _) _;rw[O4 _ _ _ (l (by simp[d,g]))];exact a) (by show _=(Ci _ _).length;rw[KT];exact c)
  ·exact Kq i (by show AF (Ci _ _) _=_;rw[O4 _ _ _ (l (by simp[d,g]))];exact a) (by show (Ci _ _).length=_;rw[KT];exact c)
  exact Kq i (U0 _ _ _ _ c a) (by show (Ci _ _).length=(Ci _ _).length;rw[KT,KT];exact c)
 |[],_,_,_,_,_,a,_|_::_,[],_,_,_,_,a,_=>a
theorem Pm {α:Type}:∀(l:List α) (i j:Nat) (x y:α),i≠j->Av (Av l i x) j y=Av (Av l j y) i x
 | [],_,_,_,_,_=>rfl
 | _::_,0,0,_,_,h=>(h rfl).elim
 |_::_,0,_+1,_,_,_|_::_,_+1,0,_,_,_=>rfl
 | _::l,i+1,j+1,x,y,h=>by simp[Av,Pm l i j x y (by omega)]
theorem Vb:∀(ws:List (Nat×AG)) (l:List (Option AG)) (i:Nat) (b:Option AG),i ∉ ws.map (·.1)->Ci ws (Av l i b)=Av (Ci ws l) i b
 | [],_,_,_,_=>rfl
 | p::ws,l,i,b,h=>by
  rw[Ci,Ci,Pm _ _ _ _ _ (fun e=>h (by simp[e])),Vb ws _ i b (fun h'=>h (by simp at h' ⊢;exact .inr h'))]
theorem Va:∀(ws a:List (Nat×AG)) (l:List (Option AG)),(∀x∈ws.map (·.1),x ∉ a.map (·.1))->Ci a (Ci ws l)=Ci ws (Ci a l)
 | [],_,_,_=>rfl
 | p::ws,a,l,h=>by
  rw[Ci,Ci,Va ws a _ (fun x b=>h x (by simp at b ⊢;exact .inr b)),Vb a l p.1 _ (h p.1 (by simp))]
theorem Zd {s:St} {d a:Option Nat} {f b:BR} (c:∀q,d=some q->a≠some q) (g:∀x∈f.ws.map (·.1),x ∉ b.ws.map (·.1)):(s.app d f).app a b=(s.app a b).app d f:=by
 have e1:Er (Er s.sl d f.v) a b.v=Er (Er s.sl a b.v) d f.v:=by
  cases d with
  | none=>rfl
  | some q=>cases a with
   | none=>rfl
   | some h=>exact Pm _ _ _ _ _ fun e=>c q rfl (by rw[e])
 show St.mk _ _=St.mk _ _
 rw[St.mk.injEq];exact⟨e1,Va _ _ _ g⟩
theorem Pg {m m':Nat->Bool} {i:Nat} {o:Oper} {f:BR}:∀{r:List Oper} {c:List BR} {k:Nat} {s:St},i<k->(∀j,j≠i->m' j=m j)->
  (∀j h g,r[j]? =some h->c[j]? =some g->m (k+j)=true->(∀q,h.dst=some q->o.dst≠some q)/\(∀x∈g.ws.map (·.1),x ∉ f.ws.map (·.1)))->
  (run m k r c s).app o.dst f=run m' k r c (s.app o.dst f)
 | h::r,g::c,k,s,u,hm,d=>by
  simp only[run,hm k (by omega)]
  have l:∀j b a,r[j]? =some b->c[j]? =some a->m (k+1+j)=true->(∀q,b.dst=some q->o.dst≠some q)/\(∀x∈a.ws.map (·.1),x ∉ f.ws.map (·.1)):=
   fun j b a n p t=>d (j+1) b a (by simpa using n) (by simpa using p) (by rw[show k+(j+1)=k+1+j by omega];exact t)
  cases v:m k <;> simp only[Bool.false_eq_true,if_true,if_false]
  ·exact Pg (by omega) hm l
  have:=d 0 h g rfl rfl (by simpa using v);rw[Pg (m':=m') (by omega) hm l,Zd this.1 this.2]
 |[],_,_,_,_,_,_|_::_,[],_,_,_,_,_=>rfl
theorem V6 {m m':Nat->Bool} {i:Nat} {o:Oper} {f:BR}:∀{r:List Oper} {h:List BR} {k j0:Nat} {s:St},i=k+j0->r[j0]? =some o->h[j0]? =some f->m i=false->m' i=true->(∀j,j≠i->m' j=m j)->
  (∀j t p,j0<j->r[j]? =some t->h[j]? =some p->m (k+j)=true->(∀q,t.dst=some q->o.dst≠some q)/\(∀x∈p.ws.map (·.1),x ∉ f.ws.map (·.1)))->
  (run m k r h s).app o.dst f=run m' k r h s
 | t::r,p::h,k,0,s,u,l,n,hm,d,a,c=>by
  simp at l n;subst l n;simp only[Nat.add_zero] at u;subst u;simp only[run,hm,d,Bool.false_eq_true,if_true,if_false];exact Pg (Nat.lt_succ_self _) a fun j g b v w y=>c (j+1) g b (by omega) (by simpa using v) (by simpa using w) (by rw[show i+(j+1)=i+1+j by omega];exact y)
 | t::r,p::h,k,j0+1,s,u,l,n,hm,d,a,c=>by
  simp only[run,a k (by omega)];exact V6 (j0:=j0) (by omega) (by simpa using l) (by simpa using n) hm d a fun j g b z v w y=>c (j+1) g b (by omega) (by simpa using v) (by simpa using w) (by rw[show k+(j+1)=k+1+j by omega];exact y)
 | [],_,_,_,_,_,l,_,_,_,_,_=>by simp at l
 | _::_,[],_,_,_,_,_,n,_,_,_,_=>by simp at n
theorem SN {all:List Oper}:∀{r:List Oper} {a:List BR} {k j:Nat} {s:St} {o:Oper},chain E TI all r a s->r[j]? =some o->∃f,a[j]? =some f/\Eb E TI all o f (run (fun t=>decide (t<k+j)) k r a s)
 | d::r,b::a,k,0,s,o,c,h=>by
  simp at h;subst h;refine⟨b,rfl,?_⟩
  have:run (fun t=>decide (t<k+0)) k (d::r) (b::a) s=s:=by
   have e:∀(r:List Oper) (a:List BR) (k':Nat) (s:St),k<=k'->run (fun t=>decide (t<k+0)) k' r a s=s:=by
    intro r
    induction r with
    | nil=>intro a k' s _;cases a <;> rfl
    | cons o r l=>
     intro a k' s m;cases a with
     | nil=>rfl
     | cons f a=>simp only[run];rw[if_neg (by simp;omega)];exact l a (k'+1) s (by omega)
   exact e _ _ _ _ (Nat.le_refl _)
  rw[this];exact c.1
 | d::r,b::a,k,j+1,s,o,c,h=>by
  obtain⟨f,g,i⟩:=SN (k:=k+1) c.2 (show r[j]? =some o by simpa using h);refine⟨f,by simpa using g,?_⟩;simp only[run];rw[if_pos (by simp),show k+(j+1)=k+1+j by omega];exact i
 | [],[],_,_,_,_,_,h=>by simp at h
 |[],_::_,_,_,_,_,h,_|_::_,[],_,_,_,_,h,_=>h.elim
theorem N0 {all:List Oper}:∀{r:List Oper} {a:List BR} {s:St},chain E TI all r a s->a.length=r.length
 | [],[],_,_=>rfl
 | _::_,_::_,_,h=>by simp[N0 h.2]
 |[],_::_,_,h|_::_,[],_,h=>h.elim
theorem dP {all:List Oper} {o:Oper} {f:BR} {s s':St} (b:∀x∈Gc all o,nth s.sl x=nth s'.sl x) (i:∀x∈f.rd,AF s.bk x=AF s'.bk x) (h:Eb E TI all o f s):Eb E TI all o f s':=by
 have he:∀x∈o.op.operands,ev s.sl x=ev s'.sl x:=fun x k=>by
  cases x with
  | tmp t=>exact b t (by
   unfold Gc VH;refine List.mem_append_left _ (List.mem_append_right _ (List.mem_filterMap.2 ⟨.tmp t,by simpa using k,rfl⟩)))
  | _=>rfl
 have a:B5 E TI o (BP o) (ev s.sl) (AF s.bk) (fun g=>g=f)->B5 E TI o (BP o) (ev s'.sl) (AF s'.bk) (fun g=>g=f):=fun h=>Zb i (Zc he h)
 unfold Eb at h ⊢
 split at h
 ·rename_i c;exact a h
 rename_i j want c
 obtain⟨g,g1,d⟩:=h;refine⟨g,g1,?_⟩;rw[<-b g (by unfold Gc;rw[c];simp[g1])];exact d.imp (fun q=>⟨q.1,a q.2⟩) id
end
end Go.Abs
