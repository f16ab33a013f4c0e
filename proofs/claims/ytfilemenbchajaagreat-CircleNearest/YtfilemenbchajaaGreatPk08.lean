/- Part 9 of a proof. Conditions: each theorem's own. -/
import Derived.Test.YtfilemenbchajaaGreatPk07
set_option linter.all false
set_option maxHeartbeats 8000000
set_option maxRecDepth 20000
namespace Go.Abs
open Go.RowKit
section
theorem RV {op:BinOp} {k:IntKind} {a b:Int} {K:AC->Prop} (h:arith op k a b K):∃c,(∀j:AC->Prop,j c->arith op k a b j)/\K c:=by
 unfold arith at h ⊢
 split at h
 case h_1=>obtain⟨g,i⟩:=h _ rfl;exact⟨_,fun j f c d=>by subst d;exact⟨g,f⟩,i⟩
 case h_2=>obtain⟨g,i⟩:=h _ rfl;exact⟨_,fun j f c d=>by subst d;exact⟨g,f⟩,i⟩
 case h_3=>obtain⟨g,i⟩:=h _ rfl;exact⟨_,fun j f c d=>by subst d;exact⟨g,f⟩,i⟩
 case h_4=>obtain⟨g,i⟩:=h _ rfl;exact⟨_,fun j f c d=>by subst d;exact⟨g,f⟩,i⟩
 case h_5=>obtain⟨g,i⟩:=h _ rfl;exact⟨_,fun j f c d=>by subst d;exact⟨g,f⟩,i⟩
 all_goals first
  | exact⟨_,fun j f c d=>by subst d;exact f,h _ rfl⟩
  | (obtain⟨g,i⟩:=h _ rfl;exact⟨_,fun j f c d=>by subst d;exact⟨g,f⟩,i⟩)
theorem LL {len:Nat} {lo k mx:Option AV} {K:Nat->Nat->Bool->Prop} (h:G4 len lo k mx K):∃a b c,(∀f:Nat->Nat->Bool->Prop,f a b c->G4 len lo k mx f)/\K a b c:=by
 unfold G4 at h ⊢
 split at h
 ·exact⟨_,_,_,fun f d c n=>by subst n;exact d,h _ rfl⟩
 ·obtain⟨g,i⟩:=h;exact⟨_,_,_,fun f d=>⟨g,fun l m j=>by obtain⟨rfl,rfl⟩:=j;exact d⟩,i _ _ ⟨rfl,rfl⟩⟩
 ·obtain⟨g,i⟩:=h;exact⟨_,_,_,fun f d=>⟨g,fun l j=>by obtain rfl:=j;exact d⟩,i _ rfl⟩
 ·obtain⟨g,i⟩:=h;exact⟨_,_,_,fun f d=>⟨g,fun l m j=>by obtain⟨rfl,rfl⟩:=j;exact d⟩,i _ _ ⟨rfl,rfl⟩⟩
 ·obtain⟨g,i⟩:=h;exact⟨_,_,_,fun f d=>⟨g,fun l j=>by obtain rfl:=j;exact d⟩,i _ rfl⟩
 exact h.elim
theorem Yp {bk:Nat->Option AM} {u:T} {x:AV} {lo l mx:Option AV} {K:Ba->Prop} (h:G3 bk u x lo l mx K):∃f,(∀g:Ba->Prop,g f->G3 bk u x lo l mx g)/\K f:=by
 unfold G3 at h ⊢
 split at h
 ·obtain⟨k,h⟩:=h;obtain⟨a,b,c,i,h3⟩:=LL (h _ rfl);exact⟨_,fun g j=>⟨k,fun n m=>by subst m;exact i _ fun l' d=>by subst d;exact j⟩,h3 _ rfl⟩
 ·obtain⟨k,h⟩:=h
  split at h
  ·rename_i p
   obtain⟨a,b,c,i,h3⟩:=LL h;have h3:=h3 _ _ ⟨rfl,rfl⟩;cases c with
   |true|false=>exact⟨_,fun g j=>⟨k,by rw[if_pos p];exact i _ fun o n d=>by obtain⟨rfl,rfl⟩:=d;exact j⟩,h3⟩
  exact h.elim
 ·obtain⟨a,b,c,i,h3⟩:=LL h;exact⟨_,fun g j=>i _ j,h3⟩
 exact h.elim
theorem Ya {E:Env} {g:FuncId} {args:List AV} {d:Nat} {bk:Nat->Option AM} {K:Ba->Prop} (h:Hp E g args d bk K):∃f,(∀l:Ba->Prop,l f->Hp E g args d bk l)/\K f:=by
 rcases h with⟨a,r,c,j,h⟩ |⟨a,r,c,j,h⟩ | h |⟨i,b,a,r,c,j,h⟩ |⟨i,b,a,r,c,j,h⟩
 ·exact⟨_,fun l k=> .inl ⟨a,r,c,j,k⟩,h⟩
 ·exact⟨_,fun l k=> .inr (.inl ⟨a,r,c,j,k⟩),h⟩
 rotate_left
 ·exact⟨_,fun l k=> .inr (.inr (.inr (.inl ⟨i,b,a,r,c,j,k⟩))),h⟩
 ·exact⟨_,fun l k=> .inr (.inr (.inr (.inr ⟨i,b,a,r,c,j,k⟩))),h⟩
 unfold Hp
 split at h
 ·split at h
  ·rename_i m
   split at h
   ·rename_i hb
    split at h
    ·rename_i n
     obtain⟨a,r,b1,c,j,h⟩:=h;exact⟨_,fun l k=> .inr (.inr (.inl (by simp only[m,hb,if_pos n];exact⟨a,r,b1,c,j,k⟩))),h⟩
    exact h.elim
   exact h.elim
  exact h.elim
 exact h.elim
theorem T.beq_refl:∀t:T,T.beq t t=true
 | .u8=>rfl | .u32=>rfl | .u64=>rfl | .i8=>rfl | .i64=>rfl | .bool=>rfl
 | .sl t=>T.beq_refl t
 | .pr a b=>by simp only[T.beq,T.beq_refl a,T.beq_refl b,Bool.and_self]
theorem Ho {TI:TypeId->Info} {b:Builtin} {a:List TypeId} {args:List AV} {d:Nat} {bk:Nat->Option AM} {K:Ba->Prop}:
  NW TI b a args d bk K↔D8 TI b a args d bk K\/(b= .append/\D8 TI b a args d bk (JF K)):=by
 cases b <;> simp[NW]
theorem Pe {K:Ba->Prop} {g:Ba} (h:JF K g):∃(t:T) (id v n:Nat) (l:List (el t)),g=⟨.one (.AT t id v 0 n),[(id,.arr v t l)],g.rd⟩/\id≠0/\n=l.length/\K ⟨.one (.sl t l),[(id,.dead v)],g.rd⟩/\
  ∀a:Ba->Prop,a ⟨.one (.sl t l),[(id,.dead v)],g.rd⟩->JF a g:=by
 obtain⟨p,q,o⟩:=g;unfold JF at h
 split at h
 ·rename_i t id v off n i s r l c d
  split at h
  ·rename_i f
   simp only at c d;simp only[Bool.and_eq_true,bne_iff_ne,beq_iff_eq] at f;obtain⟨⟨⟨⟨c1,c2⟩,j⟩,k⟩,b⟩:=f;have b:=T.beq_eq b;subst c2 j k b c d;refine⟨t,id,v,n,l,rfl,c1,h.1 (),h.2,fun a m=>?_⟩;unfold JF;simp only;rw[if_pos (by simp[c1,T.beq_refl])];exact⟨h.1,m⟩
  exact h.elim
 exact h.elim
theorem Nc {TI:TypeId->Info} {b:Builtin} {a:List TypeId} {args:List AV} {d:Nat} {bk:Nat->Option AM} {K:Ba->Prop} (hb:b= .append) (h:D8 TI b a args d bk K):args.length=2:=by
 subst hb;unfold D8 at h
 split at h <;> first | contradiction | exact h.elim | rfl
theorem Yn {TI:TypeId->Info} {b:Builtin} {c:List TypeId} {args:List AV} {d:Nat} {bk:Nat->Option AM} {g:Ba} (hb:b= .append) (h:D8 TI b c args d bk (fun f=>f=g)) {id:Nat} {B:AM} (hw:g.ws=[(id,B)]):
  id=d\/∃x,bk id=some x:=by
 subst hb;unfold D8 at h
 split at h <;> first | contradiction | skip
 ·obtain⟨_,l2,_,h⟩:=h;have:=h _ rfl;subst this;simp at hw;exact .inl hw.1.symm
 ·obtain⟨_,h⟩:=h
  split at h
  ·rename_i a
   split at h
   ·obtain⟨l2,_,h⟩:=h;have:=h _ _ ⟨rfl,rfl⟩;subst this;simp at hw;exact .inr ⟨_,hw.1 ▸ a⟩
   exact h.elim
  exact h.elim
 obtain⟨_,h⟩:=h
 split at h
 ·rename_i a
  split at h
  ·obtain⟨l2,_,h⟩:=h;have:=h _ _ ⟨rfl,rfl⟩;subst this;simp at hw;exact .inr ⟨_,hw.1 ▸ a⟩
  exact h.elim
 exact h.elim
theorem Jg {TI:TypeId->Info} {b:Builtin} {o:List TypeId} {args:List AV} {d:Nat} {bk:Nat->Option AM} {K:Ba->Prop} (hlen:∀t l,args=[.one (.sl t l)]->l.length<=140737488355328) (h:D8 TI b o args d bk K):
  ∃f,(∀g:Ba->Prop,g f->D8 TI b o args d bk g)/\K f:=by
 unfold D8 at h ⊢
 split at h
 ·exact⟨_,fun g a=>⟨h.1,fun n i=>by obtain⟨rfl,_⟩:=i;exact a⟩,h.2 _ ⟨rfl,hlen _ _ rfl⟩⟩
 ·obtain⟨j,h⟩:=h
  split at h
  ·rename_i k
   exact⟨_,fun g a=>⟨j,by rw[if_pos k];intro n i;obtain⟨rfl⟩:=i;exact a⟩,h _ ⟨rfl⟩⟩
  exact h.elim
 ·obtain⟨j,h⟩:=h
  split at h
  ·rename_i k
   exact⟨_,fun g a=>⟨j,by rw[if_pos k];intro n i;obtain⟨rfl⟩:=i;exact a⟩,h _ ⟨rfl⟩⟩
  exact h.elim
 ·exact⟨_,fun g a=>⟨h.1,a⟩,h.2⟩
 ·exact⟨_,fun g a=>⟨h.1,a⟩,h.2⟩
 ·exact⟨_,fun g a c p=>by subst p;exact a,h _ rfl⟩
 ·obtain⟨j,l2,m,h⟩:=h;exact⟨_,fun g a=>⟨j,l2,m,fun n i=>by subst i;exact a⟩,h _ rfl⟩
 ·obtain⟨j,h⟩:=h
  split at h
  ·rename_i hb
   split at h
   ·rename_i k
    obtain⟨l2,m,h⟩:=h;exact⟨_,fun g a=>⟨j,by simp only[hb,if_pos k];exact⟨l2,m,fun l' n i=>by obtain⟨rfl,rfl⟩:=i;exact a⟩⟩,h _ _ ⟨rfl,rfl⟩⟩
   exact h.elim
  exact h.elim
 ·obtain⟨j,h⟩:=h
  split at h
  ·rename_i hb
   split at h
   ·rename_i k
    obtain⟨l2,m,h⟩:=h;exact⟨_,fun g a=>⟨j,by simp only[hb,if_pos k];exact⟨l2,m,fun l' n i=>by obtain⟨rfl,rfl⟩:=i;exact a⟩⟩,h _ _ ⟨rfl,rfl⟩⟩
   exact h.elim
  exact h.elim
 exact h.elim
theorem Nb {E:Env} {TI:TypeId->Info} {o:Oper} {d:Nat} {e:Operand->AV} {bk:Nat->Option AM} {K:Ba->Prop} (hlen:∀x t l,e x= .one (.sl t l)->l.length<=140737488355328) (h:Bv E TI o d e bk K):
  ∃f,(∀m:Ba->Prop,m f->Bv E TI o d e bk m)/\K f:=by
 unfold Bv at h ⊢;cases N:o.op <;> simp only[N] at h ⊢
 case move x=>exact⟨_,fun m a=>a,h⟩
 case assign x=>exact⟨_,fun m a=>a,h⟩
 case nilCheck x=>
  split at h
  ·rename_i he
   split at h
   ·rename_i s
    rw[he] at h;exact⟨_,fun m a=>by rw[he];rw[if_pos s];exact a,h⟩
   exact h.elim
  ·rename_i he
   exact⟨_,fun m a=>a,h⟩
  exact h.elim
 case pick c x y=>
  split at h
  ·rename_i he;exact⟨_,fun m a=>by (try simp only[he]);exact a,h⟩
  ·rename_i he;exact⟨_,fun m a=>by (try simp only[he]);exact a,h⟩
  exact h.elim
 case alloc t=>exact⟨_,fun m a=>⟨h.1,a⟩,h.2⟩
 case box t x=>
  split at h
  ·exact h.elim
  ·exact h.elim
  rename_i v q r
  exact⟨_,fun m a=>a,h⟩
 case extract x i=>
  split at h
  ·rename_i he
   split at h
   ·rename_i u
    exact⟨_,fun m a=>by (try simp only[he,u]);exact a,h⟩
   exact h.elim
  exact h.elim
 case load t x=>
  simp only[Js] at h ⊢;obtain⟨q,h⟩:=h
  split at h
  ·rename_i he
   split at h
   ·rename_i hb
    split at h
    ·rename_i s
     exact⟨_,fun m a=>⟨q,by (try simp only[he,hb,if_pos s]);exact a⟩,h⟩
    exact h.elim
   exact h.elim
  ·rename_i he
   split at h
   ·rename_i s
    exact⟨_,fun m a=>⟨q,by (try simp only[he,if_pos s]);exact a⟩,h⟩
   exact h.elim
  ·rename_i he
   split at h
   ·rename_i hb
    split at h
    ·rename_i s
     obtain⟨z,r,h⟩:=h
     split at h
     ·rename_i I
      exact⟨_,fun m a=>⟨q,by (try simp only[he,hb,if_pos s]);exact⟨z,r,by simp only[if_pos I];exact a⟩⟩,h⟩
     exact h.elim
    exact h.elim
   exact h.elim
  exact h.elim
 case store t p x=>
  obtain⟨q,h⟩:=h
  split at h
  ·rename_i he
   split at h
   ·exact h.elim
   ·exact h.elim
   ·rename_i O P hb
    split at h
    ·rename_i s
     refine⟨_,fun m a=>⟨q,?_⟩,h⟩;rw[if_pos s];exact a
    exact h.elim
   exact h.elim
  ·rename_i he
   split at h
   ·exact h.elim
   ·exact h.elim
   ·rename_i O P hb
    split at h
    ·rename_i s
     obtain⟨z,r,h⟩:=h;refine⟨_,fun m a=>⟨q,?_⟩,h _ rfl⟩;rw[if_pos s];exact⟨z,r,fun l' G=>by subst G;exact a⟩
    exact h.elim
   exact h.elim
  exact h.elim
 case fieldAddr t x i=>
  obtain⟨q,h⟩:=h
  split at h
  ·rename_i C he
   split at h
   ·rename_i s
    exact⟨_,fun m a=>⟨q,by (try simp only[C,he,if_pos s]);exact a⟩,h⟩
   exact h.elim
  ·rename_i C he
   exact⟨_,fun m a=>⟨q,by (try simp only[C,he]);exact a⟩,h⟩
  ·rename_i C he
   split at h
   ·rename_i s
    exact⟨_,fun m a=>⟨q,by (try simp only[C,he,if_pos s]);exact a⟩,h⟩
   exact h.elim
  exact h.elim
 case field t x i=>
  obtain⟨q,h⟩:=h
  split at h
  ·rename_i C he
   split at h
   ·rename_i s
    exact⟨_,fun m a=>⟨q,by (try simp only[C,he,if_pos s]);exact a⟩,h⟩
   exact h.elim
  exact h.elim
 case build t ps=>
  obtain⟨q,h⟩:=h
  split at h
  ·rename_i he
   exact⟨_,fun m a=>⟨q,by (try simp only[he]);exact a⟩,h⟩
  exact h.elim
 case buildSlice t n ps=>
  obtain⟨q,r,xs,h3,h | h⟩:=h
  ·exact⟨_,fun m a=>⟨q,r,xs,h3,.inl a⟩,h⟩
  exact⟨_,fun m a=>⟨q,r,xs,h3,.inr a⟩,h⟩
 case makeSlice t x y=>
  obtain⟨q,h⟩:=h
  split at h
  ·rename_i u w
   exact⟨_,fun m a=>⟨q,by (try simp only[u,w]);exact⟨h.1,fun k z I=>by obtain⟨rfl,rfl⟩:=I;exact a⟩⟩,h.2 _ _ ⟨rfl,rfl⟩⟩
  exact h.elim
 case indexAddr t x i=>
  obtain⟨q,h⟩:=h
  split at h
  ·rename_i u w
   obtain⟨r,z,h3,h⟩:=h;exact⟨_,fun m a=>⟨q,by (try simp only[u,w]);exact⟨r,z,h3,a⟩⟩,h⟩
  ·rename_i u w
   obtain⟨r,h⟩:=h
   split at h
   ·rename_i s
    exact⟨_,fun m a=>⟨q,by (try simp only[u,w]);exact⟨r,by rw[if_pos s];exact⟨h.1,fun j M=>by subst M;exact a⟩⟩⟩,h.2 _ rfl⟩
   exact h.elim
  exact h.elim
 case slice t x lo hi mx=>
  obtain⟨q,h⟩:=h;obtain⟨f,r,h3⟩:=Yp h;exact⟨f,fun m a=>⟨q,r _ a⟩,h3⟩
 case binOp op t x y t'=>
  split at h
  ·rename_i u w
   split at h
   ·rename_i F
    obtain⟨c,r,h3⟩:=RV h;exact⟨_,fun m a=>by (try simp only[u,w,if_pos F]);exact r _ a,h3⟩
   exact h.elim
  ·rename_i u w
   obtain⟨q,h⟩:=h;cases op <;> simp only at h
   all_goals first
    | exact h.elim
    | exact⟨_,fun m a=>by (try simp only[u,w]);exact⟨q,fun c A=>A ▸ a⟩,h _ rfl⟩
  ·rename_i u w
   obtain⟨q,h⟩:=h;cases op <;> simp only at h
   all_goals first
    | exact h.elim
    | exact⟨_,fun m a=>by (try simp only[u,w]);exact⟨q,fun c A=>A ▸ a⟩,h _ rfl⟩
  exact h.elim
 case unOp op t x=>
  split at h
  ·rename_i u
   exact⟨_,fun m a=>by (try simp only[u]);intro c A;subst A;exact a,h _ rfl⟩
  ·rename_i u
   obtain⟨c,r,h3⟩:=RV h;exact⟨_,fun m a=>by (try simp only[u]);exact r _ a,h3⟩
  exact h.elim
 case convert src dst x=>
  obtain⟨q,h⟩:=h
  split at h
  ·rename_i u w
   exact⟨_,fun m a=>⟨q,by (try simp only[u,w]);intro c A;subst A;exact a⟩,h _ rfl⟩
  exact h.elim
 case call c=>
  cases A:c.callee with
  | builtin b=>
   simp only[A] at h ⊢
   have B:∀t l,c.args.toList.map e=[.one (.sl t l)]->l.length<=140737488355328:=by
    intro t l D
    generalize c.args.toList=L at D
    match L,D with
    | [x],D=>exact hlen x t l (by simpa using D)
    |[],D|_::_::_,D=>simp at D
   rcases Ho.1 h with h |⟨hb,h⟩
   ·obtain⟨g,q,r⟩:=Jg B h;exact⟨g,fun m a=>Ho.2 (.inl (q m a)),r⟩
   obtain⟨g,q,r⟩:=Jg B h;obtain⟨t,id,v,n,l,Q,_,_,J,H⟩:=Pe r;exact⟨_,fun m a=>Ho.2 (.inr ⟨hb,q _ (H m a)⟩),J⟩
  | value f=>
   simp only[A] at h ⊢
   split at h
   ·rename_i he
    obtain⟨f,r,h3⟩:=Ya h;exact⟨f,fun m a=>by (try simp only[he]);exact r _ a,h3⟩
   exact h.elim
  | invoke _ _=>simp only[A] at h
end
end Go.Abs
namespace Go.Abs
open Go.RowKit
section
theorem Sn {pl:List (Nat×Nat×Bool)} {e e':Operand->AV}:∀{a:List (Nat×Operand)} {cs:List AC},(∀p∈a,e p.2=e' p.2)->F9 pl e a cs=F9 pl e' a cs
 | [],_,_=>rfl
 | (i,x)::r,cs,h=>by
  have b:=h (i,x) (by simp);simp only at b;have d:∀cs,F9 pl e r cs=F9 pl e' r cs:=fun cs=>Sn fun p c=>h p (by simp[c])
  simp only[F9,b,d]
theorem Yl {E:Env} {TI:TypeId->Info} {o:Oper} {d:Nat} {e e':Operand->AV} {bk:Nat->Option AM} {K:Ba->Prop} (he:∀x∈o.op.operands,e x=e' x) (h:Bv E TI o d e bk K):Bv E TI o d e' bk K:=by
 unfold Bv at h ⊢;cases r:o.op <;> simp only[r] at h ⊢ <;> (try exact h.elim) <;> rw[r] at he <;> simp only[Op.operands] at he
 case move x=>rw[<-he x (by simp)];exact h
 case assign x=>rw[<-he x (by simp)];exact h
 case nilCheck x=>rw[<-he x (by simp)];exact h
 case pick c x y=>rw[<-he x (by simp),<-he y (by simp),<-he c (by simp)];exact h
 case alloc t=>exact h
 case box t x=>rw[<-he x (by simp)];exact h
 case extract x i=>rw[<-he x (by simp)];exact h
 case load t x=>rw[<-he x (by simp)];exact h
 case store t p x=>rw[<-he x (by simp),<-he p (by simp)];exact h
 case fieldAddr t x i=>rw[<-he x (by simp)];exact h
 case field t x i=>rw[<-he x (by simp)];exact h
 case build t ps=>
  rw[<-Sn (e:=e) (e':=e') (fun p j=>he p.2 (by simpa using ⟨p.1,Array.mem_toList_iff.1 j⟩))];exact h
 case buildSlice t n ps=>
  obtain⟨k,v,xs,h3,h⟩:=h;refine⟨k,v,xs,fun u=>?_,h⟩;obtain⟨g1,g2,q,s⟩:=h3 u;have j:∀p∈ps.toList,e p.2=e' p.2:=fun p j=>he p.2 (by simpa using ⟨p.1,Array.mem_toList_iff.1 j⟩)
  refine⟨g1,g2,?_,?_⟩
  ·rw[List.all_eq_true] at q ⊢;intro p g;rw[<-j p g];exact q p g
  rw[<-List.map_congr_left (f:=fun p=>(p.1,(e p.2).cs)) (fun p g=>by rw[j p g])];exact s
 case makeSlice t x y=>rw[<-he x (by simp),<-he y (by simp)];exact h
 case indexAddr t x i=>rw[<-he x (by simp),<-he i (by simp)];exact h
 case slice t x lo hi mx=>
  have k:∀y:Option Operand,(∀z,y=some z->e z=e' z)->y.map e=y.map e':=fun y A=>by cases y <;> simp;exact A _ rfl
  rw[<-he x (by simp),<-k lo (fun z l=>he z (by simp[l])),<-k hi (fun z l=>he z (by simp[l])),<-k mx (fun z l=>he z (by simp[l]))];exact h
 case binOp op t x y t'=>rw[<-he x (by simp),<-he y (by simp)];exact h
 case unOp op t x=>rw[<-he x (by simp)];exact h
 case convert src dst x=>rw[<-he x (by simp)];exact h
 case call c=>
  have a:c.args.toList.map e=c.args.toList.map e':=List.map_congr_left fun x w=>he x (by simp[Call.operands];exact .inr (by simpa using w))
  cases m:c.callee with
  | builtin b=>simp only[m] at h ⊢;rw[<-a];exact h
  | value f=>
   simp only[m] at h ⊢;rw[<-a,<-he f (by simp[Call.operands,m])];exact h
  | invoke _ _=>simp only[m] at h
theorem Fx {bk B3:Nat->Option AM} {id:Nat} (h:bk id=B3 id):AW bk id=AW B3 id:=by simp[AW,h]
theorem Kg {bk B3:Nat->Option AM} {c d:AC} (h:∀id∈B4 c,bk id=B3 id) (a:D4 bk c d):D4 B3 c d:=by
 cases c <;> first | exact a | skip
 case AT t id v off len=>obtain⟨l,b,f⟩:=a;exact⟨l,(h id (by simp[B4])) ▸ b,f⟩
theorem RM {bk B3:Nat->Option AM}:∀{l m:List AC},(∀id∈l.flatMap B4,bk id=B3 id)->Aw (D4 bk) l m->Aw (D4 B3) l m
 | [],[],_,h=>h
 | c::l,_::_,b,h=>⟨Kg (fun id a=>b id (by simp[a])) h.1,RM (fun id a=>b id (by rw[List.flatMap_cons];exact List.mem_append_right _ a)) h.2⟩
 |[],_::_,_,h|_::_,[],_,h=>h
theorem Jh {bk B3:Nat->Option AM}:∀{l m:List AV},(∀id∈Bw l,bk id=B3 id)->FT (D4 bk) l m->FT (D4 B3) l m
 | [],[],_,h=>h
 | .one c::l,.one _::_,b,h=>⟨Kg (fun id a=>b id (by simp[Bw,a])) h.1,Jh (fun id a=>b id (by simp[Bw,a])) h.2⟩
 | .agg cs::l,.agg _::_,b,h=>⟨RM (fun id a=>b id (by rw[Bw];exact List.mem_append_left _ a)) h.1,Jh (fun id a=>b id (by rw[Bw];exact List.mem_append_right _ a)) h.2⟩
 |.AE _::_,.AE _::_,_,h|.one _::_,.agg _::_,_,h|.one _::_,.AE _::_,_,h|.agg _::_,.one _::_,_,h|.agg _::_,.AE _::_,_,h|.AE _::_,.one _::_,_,h|.AE _::_,.agg _::_,_,h=>h.1.elim
 |[],_::_,_,h|_::_,[],_,h=>h
theorem YZ {E:Env} {g:FuncId} {args:List AV} {d:Nat} {bk B3:Nat->Option AM} {f:Ba} (hb:∀id∈f.rd,bk id=B3 id) (h:Hp E g args d bk (fun g=>g=f)):Hp E g args d B3 (fun g=>g=f):=by
 rcases h with⟨a,r,c,k,h⟩ |⟨a,r,c,k,h⟩ | h |⟨i,b,a,r,c,k,h⟩ |⟨i,b,a,r,c,k,h⟩
 rotate_left 3
 ·subst h;exact .inr (.inr (.inr (.inl ⟨i,b,a,r,fun u=>⟨(hb i (by simp)).symm.trans (c u).1,(c u).2⟩,k,rfl⟩)))
 ·subst h;refine .inr (.inr (.inr (.inr ⟨i,b,a,r,fun u=>?_,k,rfl⟩)));obtain⟨⟨g1,g2,l⟩,m⟩:=c u;refine⟨⟨g1,(hb i (by simp)).symm.trans g2,l⟩,Jh (fun id j=>hb id ?_) m⟩;have:=List.all_eq_true.1 l id j;simp at this;simp[this]
 ·subst h;exact .inl ⟨a,r,c,k,by rw[Fx (hb d (by simp))]⟩
 ·subst h;exact .inr (.inl ⟨a,r,fun u=>Jh (fun id j=>hb id (by simp[j])) (c u),k,by rw[Fx (hb d (by simp))]⟩)
 unfold Hp
 split at h
 ·split at h
  ·rename_i p
   split at h
   ·rename_i n
    split at h
    ·rename_i o
     obtain⟨a,r,b1,c,k,h⟩:=h;subst h;refine .inr (.inr (.inl ?_));have:=hb _ (List.mem_cons_self ..);rw[n] at this;simp only[<-this,if_pos o];exact⟨a,r,b1,fun u=>⟨(c u).1,Jh (fun id j=>hb id (by simp[j])) (c u).2⟩,k,rfl⟩
    exact h.elim
   exact h.elim
  exact h.elim
 exact h.elim
theorem Yo {u:T} {x:AV} {lo d mx:Option AV} {bk B3:Nat->Option AM} {f:Ba} (hb:∀id∈f.rd,bk id=B3 id) (h:G3 bk u x lo d mx (fun g=>g=f)):G3 B3 u x lo d mx (fun g=>g=f):=by
 unfold G3 at h ⊢
 split at h
 ·exact h
 ·obtain⟨i,h⟩:=h;refine⟨i,?_⟩
  split at h
  ·rename_i j
   obtain⟨a,b,c,k,h3⟩:=LL h;have h3:=h3 _ _ ⟨rfl,rfl⟩;cases c <;> subst h3 <;> rw[if_pos ((Fx (hb _ (List.mem_singleton.2 rfl))).symm.trans j)] <;> exact h
  exact h.elim
 ·exact h
 exact h.elim
theorem RC {TI:TypeId->Info} {b:Builtin} {k:List TypeId} {args:List AV} {d:Nat} {bk B3:Nat->Option AM} {f:Ba} (hb:∀id∈f.rd,bk id=B3 id) (h:D8 TI b k args d bk (fun g=>g=f)):D8 TI b k args d B3 (fun g=>g=f):=by
 unfold D8 at h ⊢
 split at h
 ·exact h
 ·obtain⟨i,h⟩:=h
  split at h
  ·rename_i j
   have h3:=h _ ⟨rfl⟩;subst h3;exact⟨i,by rw[if_pos ((Fx (hb _ (List.mem_singleton.2 rfl))).symm.trans j)];exact h⟩
  exact h.elim
 ·obtain⟨i,h⟩:=h
  split at h
  ·rename_i j
   have h3:=h _ ⟨rfl⟩;subst h3;exact⟨i,by rw[if_pos ((Fx (hb _ (List.mem_singleton.2 rfl))).symm.trans j)];exact h⟩
  exact h.elim
 ·exact h
 ·exact h
 ·exact h
 ·obtain⟨i,l2,a,h⟩:=h;have h3:=h _ rfl;subst h3;refine⟨i,l2,fun u=>⟨Kg (fun id c=>hb id (by simp[c])) (a u).1,(a u).2⟩,?_⟩;rw[<-Fx (hb d (by simp))];exact h
 ·obtain⟨i,h⟩:=h;refine⟨i,?_⟩
  split at h
  ·rename_i l
   split at h
   ·rename_i j
    obtain⟨l2,a,h⟩:=h;have h3:=h _ _ ⟨rfl,rfl⟩;subst h3;have:=hb _ (List.mem_cons_self ..);rw[l] at this;simp only[<-this,if_pos j];exact⟨l2,fun u=>⟨(a u).1,(a u).2.1,Kg (fun id c=>hb id (by simp[c])) (a u).2.2.1,(a u).2.2.2⟩,h⟩
   exact h.elim
  exact h.elim
 ·obtain⟨i,h⟩:=h;refine⟨i,?_⟩
  split at h
  ·rename_i l
   split at h
   ·rename_i j
    obtain⟨l2,a,h⟩:=h;have h3:=h _ _ ⟨rfl,rfl⟩;subst h3;have:=hb _ (List.mem_cons_self ..);rw[l] at this;simp only[<-this,if_pos j];exact⟨l2,fun u=>⟨(a u).1,(a u).2.1,Kg (fun id c=>hb id (by simp[c])) (a u).2.2.1,(a u).2.2.2⟩,h⟩
   exact h.elim
  exact h.elim
 exact h.elim
theorem Yk {E:Env} {TI:TypeId->Info} {o:Oper} {d:Nat} {e:Operand->AV} {bk B3:Nat->Option AM} {f:Ba} (hb:∀id∈f.rd,bk id=B3 id) (h:Bv E TI o d e bk (fun g=>g=f)):Bv E TI o d e B3 (fun g=>g=f):=by
 have s:∀{id v:Nat},AW bk id=v->id∈f.rd->AW B3 id=v:=fun a k=>(Fx (hb _ k)).symm.trans a
 have m:∀{id:Nat} {b:AM},bk id=some b->id∈f.rd->B3 id=some b:=fun a k=>(hb _ k).symm.trans a
 unfold Bv at h ⊢;cases J:o.op <;> simp only[J] at h ⊢ <;> (try exact h)
 case nilCheck x=>
  split at h
  ·split at h
   ·rename_i j
    rw[if_pos (s j (by rw[<-h];simp))];exact h
   exact h.elim
  ·exact h
  exact h.elim
 case alloc t=>rw[<-Fx (hb d (by rw[<-h.2];simp))];exact h
 case box t x=>
  split at h
  ·exact h.elim
  ·exact h.elim
  rw[<-Fx (hb d (by rw[<-h];simp))];exact h
 case load t x=>
  simp only[Js] at h ⊢;obtain⟨a,h⟩:=h;refine⟨a,?_⟩
  split at h
  ·split at h
   ·rename_i w
    split at h
    ·rename_i j
     simp only[m w (by rw[<-h];simp),if_pos j];exact h
    exact h.elim
   exact h.elim
  ·exact h
  ·split at h
   ·rename_i w
    split at h
    ·rename_i j
     have h':=h;obtain⟨z,k,h⟩:=h
     split at h
     ·simp only[m w (by rw[<-h];simp),if_pos j];exact h'
     exact h.elim
    exact h.elim
   exact h.elim
  exact h.elim
 case store t p x=>
  obtain⟨a,h⟩:=h;refine⟨a,?_⟩
  split at h
  ·split at h
   ·exact h.elim
   ·exact h.elim
   ·rename_i w G H
    split at h
    ·rename_i j
     rw[m w (by rw[<-h];simp)]
     split
     ·rename_i B;exact (G _ B).elim
     ·rename_i B;exact (H B).elim
     ·rename_i A _ _;cases Option.some.inj A;rw[if_pos j];exact h
     rename_i p q r;first | exact (p _ _ rfl).elim | exact (q _ _ rfl).elim | exact (r _ _ rfl).elim
    exact h.elim
   exact h.elim
  ·split at h
   ·exact h.elim
   ·exact h.elim
   ·rename_i w G H
    split at h
    ·rename_i j
     have h':=h;obtain⟨z,k,h⟩:=h;rw[m w (by rw[<-h _ rfl];simp)]
     split
     ·rename_i B;exact (G _ B).elim
     ·rename_i B;exact (H B).elim
     ·rename_i A _ _;cases Option.some.inj A;rw[if_pos j];exact h'
     rename_i p q r;first | exact (p _ _ _ rfl).elim | exact (q _ _ _ rfl).elim | exact (r _ _ _ rfl).elim
    exact h.elim
   exact h.elim
  exact h.elim
 case fieldAddr t x i=>
  obtain⟨a,h⟩:=h;refine⟨a,?_⟩
  split at h
  ·split at h
   ·rename_i j;rw[if_pos (s j (by rw[<-h];simp))];exact h
   exact h.elim
  ·exact h
  ·split at h
   ·rename_i j;rw[if_pos (s j (by rw[<-h];simp))];exact h
   exact h.elim
  exact h.elim
 case buildSlice t n ps=>
  obtain⟨a,k,xs,h3,h | h⟩:=h
  ·rw[<-Fx (hb d (by rw[<-h];simp))];exact⟨a,k,xs,h3,.inl h⟩
  exact⟨a,k,xs,h3,.inr h⟩
 case makeSlice t x y=>
  obtain⟨a,h⟩:=h;refine⟨a,?_⟩
  split at h
  ·rw[<-Fx (hb d (by rw[<-h.2 _ _ ⟨rfl,rfl⟩];simp))];exact h
  exact h.elim
 case indexAddr t x i=>
  obtain⟨a,h⟩:=h;refine⟨a,?_⟩
  split at h
  ·exact h
  ·obtain⟨k,h⟩:=h
   split at h
   ·rename_i j;exact⟨k,by rw[if_pos (s j (by rw[<-h.2 _ rfl];simp))];exact h⟩
   exact h.elim
  exact h.elim
 case slice t x lo hi mx=>exact⟨h.1,Yo hb h.2⟩
 case call c=>
  cases C:c.callee with
  | builtin b=>
   simp only[C] at h ⊢;rcases Ho.1 h with h |⟨u,h⟩
   ·exact Ho.2 (.inl (RC hb h))
   obtain⟨g,a,k⟩:=Jg (fun t l D=>absurd (Nc u h) (by rw[D];exact (by decide:¬(1=2)))) h;obtain⟨t,id,v,n,l,K,_,_,I,F⟩:=Pe k;have h3:=RC (B3:=B3) (f:=g) (fun i hi=>hb i (by rw[<-I];exact hi)) (a _ rfl);obtain⟨g2,k1,k2⟩:=Jg (fun t l D=>absurd (Nc u h) (by rw[D];exact (by decide:¬(1=2)))) h3;subst k2;exact Ho.2 (.inr ⟨u,k1 _ (F _ I)⟩)
  | value g=>
   simp only[C] at h ⊢
   split at h
   ·exact YZ hb h
   exact h.elim
  | invoke _ _=>simp only[C] at h
end
end Go.Abs
