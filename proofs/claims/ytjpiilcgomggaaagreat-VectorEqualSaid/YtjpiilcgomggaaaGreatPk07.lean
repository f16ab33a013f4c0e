/- Part 8 of a proof. Conditions: each theorem's own. -/
import Derived.Test.YtjpiilcgomggaaaGreatPk06
set_option linter.all false
set_option maxHeartbeats 8000000
namespace Go.Abs
open Go.RowKit
section
theorem O8 {op:BinOp} {k:IntKind} {a b:Int} {K:AC->Prop} (h:arith op k a b K):∃c,(∀j:AC->Prop,j c->arith op k a b j)/\K c:=by
 unfold arith at h ⊢
 split at h
 case h_1=>obtain⟨g,i⟩:=h _ rfl;exact⟨_,fun j f c d=>by subst d;exact⟨g,f⟩,i⟩
 case h_2=>obtain⟨g,i⟩:=h _ rfl;exact⟨_,fun j f c d=>by subst d;exact⟨g,f⟩,i⟩
 case h_3=>obtain⟨g,i⟩:=h _ rfl;exact⟨_,fun j f c d=>by subst d;exact⟨g,f⟩,i⟩
 case h_4=>obtain⟨g,i⟩:=h _ rfl;exact⟨_,fun j f c d=>by subst d;exact⟨g,f⟩,i⟩
 case h_5=>obtain⟨g,i⟩:=h _ rfl;exact⟨_,fun j f c d=>by subst d;exact⟨g,f⟩,i⟩
 all_goals first
  | exact⟨_,fun j f c d=>by subst d;exact f,h _ rfl⟩
  | (obtain⟨g,i⟩:=h _ rfl;exact⟨_,fun j f c d=>by subst d;exact⟨g,f⟩,i⟩)
theorem Ja {len:Nat} {lo k n:Option AV} {K:Nat->Nat->Bool->Prop} (h:F1 len lo k n K):∃a b c,(∀f:Nat->Nat->Bool->Prop,f a b c->F1 len lo k n f)/\K a b c:=by
 unfold F1 at h ⊢
 split at h
 ·exact⟨_,_,_,fun f d c o=>by subst o;exact d,h _ rfl⟩
 ·obtain⟨g,i⟩:=h;exact⟨_,_,_,fun f d=>⟨g,fun l m j=>by obtain⟨rfl,rfl⟩:=j;exact d⟩,i _ _ ⟨rfl,rfl⟩⟩
 ·obtain⟨g,i⟩:=h;exact⟨_,_,_,fun f d=>⟨g,fun l j=>by obtain rfl:=j;exact d⟩,i _ rfl⟩
 ·obtain⟨g,i⟩:=h;exact⟨_,_,_,fun f d=>⟨g,fun l m j=>by obtain⟨rfl,rfl⟩:=j;exact d⟩,i _ _ ⟨rfl,rfl⟩⟩
 ·obtain⟨g,i⟩:=h;exact⟨_,_,_,fun f d=>⟨g,fun l j=>by obtain rfl:=j;exact d⟩,i _ rfl⟩
 exact h.elim
theorem Vo {bk:Nat->Option AH} {u:T} {x:AV} {lo m p:Option AV} {K:A5->Prop} (h:F0 bk u x lo m p K):∃f,(∀i:A5->Prop,i f->F0 bk u x lo m p i)/\K f:=by
 unfold F0 at h ⊢
 split at h
 ·obtain⟨l,h⟩:=h;obtain⟨a,b,c,j,d⟩:=Ja (h _ rfl);exact⟨_,fun i k=>⟨l,fun n q=>by subst q;exact j _ fun l' g=>by subst g;exact k⟩,d _ rfl⟩
 ·obtain⟨l,h⟩:=h
  split at h
  ·rename_i r
   obtain⟨a,b,c,j,d⟩:=Ja h;have d:=d _ _ ⟨rfl,rfl⟩;cases c with
   |true|false=>exact⟨_,fun i k=>⟨l,by rw[if_pos r];exact j _ fun o n g=>by obtain⟨rfl,rfl⟩:=g;exact k⟩,d⟩
  exact h.elim
 ·obtain⟨a,b,c,j,d⟩:=Ja h;exact⟨_,fun i k=>j _ k,d⟩
 exact h.elim
theorem Va {E:Env} {g:FuncId} {args:List AV} {d:Nat} {bk:Nat->Option AH} {K:A5->Prop} (h:Gg E g args d bk K):∃f,(∀l:A5->Prop,l f->Gg E g args d bk l)/\K f:=by
 rcases h with⟨a,r,c,j,h⟩ |⟨a,r,c,j,h⟩ | h |⟨i,b,a,r,c,j,h⟩ |⟨i,b,a,r,c,j,h⟩
 ·exact⟨_,fun l k=> .inl ⟨a,r,c,j,k⟩,h⟩
 ·exact⟨_,fun l k=> .inr (.inl ⟨a,r,c,j,k⟩),h⟩
 rotate_left
 ·exact⟨_,fun l k=> .inr (.inr (.inr (.inl ⟨i,b,a,r,c,j,k⟩))),h⟩
 ·exact⟨_,fun l k=> .inr (.inr (.inr (.inr ⟨i,b,a,r,c,j,k⟩))),h⟩
 unfold Gg
 split at h
 ·split at h
  ·rename_i n
   split at h
   ·rename_i m
    split at h
    ·rename_i o
     obtain⟨a,r,b1,c,j,h⟩:=h;exact⟨_,fun l k=> .inr (.inr (.inl (by simp only[n,m,if_pos o];exact⟨a,r,b1,c,j,k⟩))),h⟩
    exact h.elim
   exact h.elim
  exact h.elim
 exact h.elim
theorem T.beq_refl:∀t:T,T.beq t t=true
 | .u8=>rfl | .u32=>rfl | .u64=>rfl | .i8=>rfl | .i64=>rfl | .bool=>rfl
 | .sl t=>T.beq_refl t
 | .pr a b=>by simp only[T.beq,T.beq_refl a,T.beq_refl b,Bool.and_self]
theorem Gf {TI:TypeId->Info} {b:Builtin} {a:List TypeId} {args:List AV} {d:Nat} {bk:Nat->Option AH} {K:A5->Prop}:
  Lg TI b a args d bk K↔DH TI b a args d bk K\/(b= .append/\DH TI b a args d bk (Hr K)):=by
 cases b <;> simp[Lg]
theorem NP {K:A5->Prop} {g:A5} (h:Hr K g):∃(t:T) (id v n:Nat) (l:List (el t)),g=⟨.one (.AL t id v 0 n),[(id,.arr v t l)],g.rd⟩/\id≠0/\n=l.length/\K ⟨.one (.sl t l),[(id,.dead v)],g.rd⟩/\
  ∀a:A5->Prop,a ⟨.one (.sl t l),[(id,.dead v)],g.rd⟩->Hr a g:=by
 obtain⟨p,q,o⟩:=g;unfold Hr at h
 split at h
 ·rename_i t id v off n i s r l c d
  split at h
  ·rename_i f
   simp only at c d;simp only[Bool.and_eq_true,bne_iff_ne,beq_iff_eq] at f;obtain⟨⟨⟨⟨c1,c2⟩,j⟩,k⟩,b⟩:=f;have b:=T.beq_eq b;subst c2 j k b c d;refine⟨t,id,v,n,l,rfl,c1,h.1 (),h.2,fun a m=>?_⟩;unfold Hr;simp only;rw[if_pos (by simp[c1,T.beq_refl])];exact⟨h.1,m⟩
  exact h.elim
 exact h.elim
theorem Ln {TI:TypeId->Info} {b:Builtin} {a:List TypeId} {args:List AV} {d:Nat} {bk:Nat->Option AH} {K:A5->Prop} (c:b= .append) (h:DH TI b a args d bk K):args.length=2:=by
 subst c;unfold DH at h
 split at h <;> first | contradiction | exact h.elim | rfl
theorem Vm {TI:TypeId->Info} {b:Builtin} {c:List TypeId} {args:List AV} {d:Nat} {bk:Nat->Option AH} {g:A5} (i:b= .append) (h:DH TI b c args d bk (fun f=>f=g)) {id:Nat} {B:AH} (hw:g.ws=[(id,B)]):
  id=d\/∃x,bk id=some x:=by
 subst i;unfold DH at h
 split at h <;> first | contradiction | skip
 ·obtain⟨_,l2,_,h⟩:=h;have:=h _ rfl;subst this;simp at hw;exact .inl hw.1.symm
 ·obtain⟨_,h⟩:=h
  split at h
  ·rename_i a
   split at h
   ·obtain⟨l2,_,h⟩:=h;have:=h _ _ ⟨rfl,rfl⟩;subst this;simp at hw;exact .inr ⟨_,hw.1 ▸ a⟩
   exact h.elim
  exact h.elim
 obtain⟨_,h⟩:=h
 split at h
 ·rename_i a
  split at h
  ·obtain⟨l2,_,h⟩:=h;have:=h _ _ ⟨rfl,rfl⟩;subst this;simp at hw;exact .inr ⟨_,hw.1 ▸ a⟩
  exact h.elim
 exact h.elim
theorem IE {TI:TypeId->Info} {b:Builtin} {o:List TypeId} {args:List AV} {d:Nat} {bk:Nat->Option AH} {K:A5->Prop} (hlen:∀t l,args=[.one (.sl t l)]->l.length<=140737488355328) (h:DH TI b o args d bk K):
  ∃f,(∀g:A5->Prop,g f->DH TI b o args d bk g)/\K f:=by
 unfold DH at h ⊢
 split at h
 ·exact⟨_,fun g a=>⟨h.1,fun n i=>by obtain⟨rfl,_⟩:=i;exact a⟩,h.2 _ ⟨rfl,hlen _ _ rfl⟩⟩
 ·obtain⟨j,h⟩:=h
  split at h
  ·rename_i k
   exact⟨_,fun g a=>⟨j,by rw[if_pos k];intro n i;obtain⟨rfl⟩:=i;exact a⟩,h _ ⟨rfl⟩⟩
  exact h.elim
 ·obtain⟨j,h⟩:=h
  split at h
  ·rename_i k
   exact⟨_,fun g a=>⟨j,by rw[if_pos k];intro n i;obtain⟨rfl⟩:=i;exact a⟩,h _ ⟨rfl⟩⟩
  exact h.elim
 ·exact⟨_,fun g a=>⟨h.1,a⟩,h.2⟩
 ·exact⟨_,fun g a=>⟨h.1,a⟩,h.2⟩
 ·exact⟨_,fun g a c q=>by subst q;exact a,h _ rfl⟩
 ·obtain⟨j,l2,m,h⟩:=h;exact⟨_,fun g a=>⟨j,l2,m,fun n i=>by subst i;exact a⟩,h _ rfl⟩
 ·obtain⟨j,h⟩:=h
  split at h
  ·rename_i p
   split at h
   ·rename_i k
    obtain⟨l2,m,h⟩:=h;exact⟨_,fun g a=>⟨j,by simp only[p,if_pos k];exact⟨l2,m,fun l' n i=>by obtain⟨rfl,rfl⟩:=i;exact a⟩⟩,h _ _ ⟨rfl,rfl⟩⟩
   exact h.elim
  exact h.elim
 ·obtain⟨j,h⟩:=h
  split at h
  ·rename_i p
   split at h
   ·rename_i k
    obtain⟨l2,m,h⟩:=h;exact⟨_,fun g a=>⟨j,by simp only[p,if_pos k];exact⟨l2,m,fun l' n i=>by obtain⟨rfl,rfl⟩:=i;exact a⟩⟩,h _ _ ⟨rfl,rfl⟩⟩
   exact h.elim
  exact h.elim
 exact h.elim
theorem Lm {E:Env} {TI:TypeId->Info} {o:Oper} {d:Nat} {e:Operand->AV} {bk:Nat->Option AH} {K:A5->Prop} (hlen:∀x t l,e x= .one (.sl t l)->l.length<=140737488355328) (h:BP E TI o d e bk K):
  ∃f,(∀m:A5->Prop,m f->BP E TI o d e bk m)/\K f:=by
 unfold BP at h ⊢;cases O:o.op <;> simp only[O] at h ⊢
 case move x=>exact⟨_,fun m a=>a,h⟩
 case assign x=>exact⟨_,fun m a=>a,h⟩
 case nilCheck x=>
  split at h
  ·rename_i he
   split at h
   ·rename_i s
    rw[he] at h;exact⟨_,fun m a=>by rw[he];rw[if_pos s];exact a,h⟩
   exact h.elim
  ·rename_i he
   exact⟨_,fun m a=>a,h⟩
  exact h.elim
 case pick c x y=>
  split at h
  ·rename_i he;exact⟨_,fun m a=>by (try simp only[he]);exact a,h⟩
  ·rename_i he;exact⟨_,fun m a=>by (try simp only[he]);exact a,h⟩
  exact h.elim
 case alloc t=>exact⟨_,fun m a=>⟨h.1,a⟩,h.2⟩
 case box t x=>
  split at h
  ·exact h.elim
  ·exact h.elim
  rename_i v q r
  exact⟨_,fun m a=>a,h⟩
 case extract x i=>
  split at h
  ·rename_i he
   split at h
   ·rename_i hx
    exact⟨_,fun m a=>by (try simp only[he,hx]);exact a,h⟩
   exact h.elim
  exact h.elim
 case load t x=>
  simp only[IP] at h ⊢;obtain⟨q,h⟩:=h
  split at h
  ·rename_i he
   split at h
   ·rename_i C
    split at h
    ·rename_i s
     exact⟨_,fun m a=>⟨q,by (try simp only[he,C,if_pos s]);exact a⟩,h⟩
    exact h.elim
   exact h.elim
  ·rename_i he
   split at h
   ·rename_i s
    exact⟨_,fun m a=>⟨q,by (try simp only[he,if_pos s]);exact a⟩,h⟩
   exact h.elim
  ·rename_i he
   split at h
   ·rename_i C
    split at h
    ·rename_i s
     obtain⟨z,r,h⟩:=h
     split at h
     ·rename_i J
      exact⟨_,fun m a=>⟨q,by (try simp only[he,C,if_pos s]);exact⟨z,r,by simp only[if_pos J];exact a⟩⟩,h⟩
     exact h.elim
    exact h.elim
   exact h.elim
  exact h.elim
 case store t p x=>
  obtain⟨q,h⟩:=h
  split at h
  ·rename_i he
   split at h
   ·exact h.elim
   ·exact h.elim
   ·rename_i P Q C
    split at h
    ·rename_i s
     refine⟨_,fun m a=>⟨q,?_⟩,h⟩;rw[if_pos s];exact a
    exact h.elim
   exact h.elim
  ·rename_i he
   split at h
   ·exact h.elim
   ·exact h.elim
   ·rename_i P Q C
    split at h
    ·rename_i s
     obtain⟨z,r,h⟩:=h;refine⟨_,fun m a=>⟨q,?_⟩,h _ rfl⟩;rw[if_pos s];exact⟨z,r,fun l' H=>by subst H;exact a⟩
    exact h.elim
   exact h.elim
  exact h.elim
 case fieldAddr t x i=>
  obtain⟨q,h⟩:=h
  split at h
  ·rename_i D he
   split at h
   ·rename_i s
    exact⟨_,fun m a=>⟨q,by (try simp only[D,he,if_pos s]);exact a⟩,h⟩
   exact h.elim
  ·rename_i D he
   exact⟨_,fun m a=>⟨q,by (try simp only[D,he]);exact a⟩,h⟩
  ·rename_i D he
   split at h
   ·rename_i s
    exact⟨_,fun m a=>⟨q,by (try simp only[D,he,if_pos s]);exact a⟩,h⟩
   exact h.elim
  exact h.elim
 case field t x i=>
  obtain⟨q,h⟩:=h
  split at h
  ·rename_i D he
   split at h
   ·rename_i s
    exact⟨_,fun m a=>⟨q,by (try simp only[D,he,if_pos s]);exact a⟩,h⟩
   exact h.elim
  exact h.elim
 case build t ps=>
  obtain⟨q,h⟩:=h
  split at h
  ·rename_i he
   exact⟨_,fun m a=>⟨q,by (try simp only[he]);exact a⟩,h⟩
  exact h.elim
 case buildSlice t n ps=>
  obtain⟨q,r,xs,w,h | h⟩:=h
  ·exact⟨_,fun m a=>⟨q,r,xs,w,.inl a⟩,h⟩
  exact⟨_,fun m a=>⟨q,r,xs,w,.inr a⟩,h⟩
 case makeSlice t x y=>
  obtain⟨q,h⟩:=h
  split at h
  ·rename_i hx u
   exact⟨_,fun m a=>⟨q,by (try simp only[hx,u]);exact⟨h.1,fun k z J=>by obtain⟨rfl,rfl⟩:=J;exact a⟩⟩,h.2 _ _ ⟨rfl,rfl⟩⟩
  exact h.elim
 case indexAddr t x i=>
  obtain⟨q,h⟩:=h
  split at h
  ·rename_i hx u
   obtain⟨r,z,w,h⟩:=h;exact⟨_,fun m a=>⟨q,by (try simp only[hx,u]);exact⟨r,z,w,a⟩⟩,h⟩
  ·rename_i hx u
   obtain⟨r,h⟩:=h
   split at h
   ·rename_i s
    exact⟨_,fun m a=>⟨q,by (try simp only[hx,u]);exact⟨r,by rw[if_pos s];exact⟨h.1,fun j N=>by subst N;exact a⟩⟩⟩,h.2 _ rfl⟩
   exact h.elim
  exact h.elim
 case slice t x lo hi mx=>
  obtain⟨q,h⟩:=h;obtain⟨f,r,w⟩:=Vo h;exact⟨f,fun m a=>⟨q,r _ a⟩,w⟩
 case binOp op t x y t'=>
  split at h
  ·rename_i hx u
   split at h
   ·rename_i G
    obtain⟨c,r,w⟩:=O8 h;exact⟨_,fun m a=>by (try simp only[hx,u,if_pos G]);exact r _ a,w⟩
   exact h.elim
  ·rename_i hx u
   obtain⟨q,h⟩:=h;cases op <;> simp only at h
   all_goals first
    | exact h.elim
    | exact⟨_,fun m a=>by (try simp only[hx,u]);exact⟨q,fun c A=>A ▸ a⟩,h _ rfl⟩
  ·rename_i hx u
   obtain⟨q,h⟩:=h;cases op <;> simp only at h
   all_goals first
    | exact h.elim
    | exact⟨_,fun m a=>by (try simp only[hx,u]);exact⟨q,fun c A=>A ▸ a⟩,h _ rfl⟩
  exact h.elim
 case unOp op t x=>
  split at h
  ·rename_i hx
   exact⟨_,fun m a=>by (try simp only[hx]);intro c A;subst A;exact a,h _ rfl⟩
  ·rename_i hx
   obtain⟨c,r,w⟩:=O8 h;exact⟨_,fun m a=>by (try simp only[hx]);exact r _ a,w⟩
  exact h.elim
 case convert src dst x=>
  obtain⟨q,h⟩:=h
  split at h
  ·rename_i hx u
   exact⟨_,fun m a=>⟨q,by (try simp only[hx,u]);intro c A;subst A;exact a⟩,h _ rfl⟩
  exact h.elim
 case call c=>
  cases A:c.callee with
  | builtin b=>
   simp only[A] at h ⊢
   have B:∀t l,c.args.toList.map e=[.one (.sl t l)]->l.length<=140737488355328:=by
    intro t l F
    generalize c.args.toList=L at F
    match L,F with
    | [x],F=>exact hlen x t l (by simpa using F)
    |[],F|_::_::_,F=>simp at F
   rcases Gf.1 h with h |⟨C,h⟩
   ·obtain⟨g,q,r⟩:=IE B h;exact⟨g,fun m a=>Gf.2 (.inl (q m a)),r⟩
   obtain⟨g,q,r⟩:=IE B h;obtain⟨t,id,v,n,l,R,_,_,M,I⟩:=NP r;exact⟨_,fun m a=>Gf.2 (.inr ⟨C,q _ (I m a)⟩),M⟩
  | value f=>
   simp only[A] at h ⊢
   split at h
   ·rename_i he
    obtain⟨f,r,w⟩:=Va h;exact⟨f,fun m a=>by (try simp only[he]);exact r _ a,w⟩
   exact h.elim
  | invoke _ _=>simp only[A] at h
end
end Go.Abs
namespace Go.Abs
open Go.RowKit
section
theorem QI {pl:List (Nat×Nat×Bool)} {e e':Operand->AV}:∀{a:List (Nat×Operand)} {cs:List AC},(∀p∈a,e p.2=e' p.2)->FB pl e a cs=FB pl e' a cs
 | [],_,_=>rfl
 | (i,x)::r,cs,h=>by
  have b:=h (i,x) (by simp);simp only at b;have d:∀cs,FB pl e r cs=FB pl e' r cs:=fun cs=>QI fun p c=>h p (by simp[c])
  simp only[FB,b,d]
theorem Vk {E:Env} {TI:TypeId->Info} {o:Oper} {d:Nat} {e e':Operand->AV} {bk:Nat->Option AH} {K:A5->Prop} (he:∀x∈o.op.operands,e x=e' x) (h:BP E TI o d e bk K):BP E TI o d e' bk K:=by
 unfold BP at h ⊢;cases r:o.op <;> simp only[r] at h ⊢ <;> (try exact h.elim) <;> rw[r] at he <;> simp only[Op.operands] at he
 case move x=>rw[<-he x (by simp)];exact h
 case assign x=>rw[<-he x (by simp)];exact h
 case nilCheck x=>rw[<-he x (by simp)];exact h
 case pick c x y=>rw[<-he x (by simp),<-he y (by simp),<-he c (by simp)];exact h
 case alloc t=>exact h
 case box t x=>rw[<-he x (by simp)];exact h
 case extract x i=>rw[<-he x (by simp)];exact h
 case load t x=>rw[<-he x (by simp)];exact h
 case store t p x=>rw[<-he x (by simp),<-he p (by simp)];exact h
 case fieldAddr t x i=>rw[<-he x (by simp)];exact h
 case field t x i=>rw[<-he x (by simp)];exact h
 case build t ps=>
  rw[<-QI (e:=e) (e':=e') (fun p j=>he p.2 (by simpa using ⟨p.1,Array.mem_toList_iff.1 j⟩))];exact h
 case buildSlice t n ps=>
  obtain⟨k,v,xs,w,h⟩:=h;refine⟨k,v,xs,fun u=>?_,h⟩;obtain⟨g1,g2,q,s⟩:=w u;have j:∀p∈ps.toList,e p.2=e' p.2:=fun p j=>he p.2 (by simpa using ⟨p.1,Array.mem_toList_iff.1 j⟩)
  refine⟨g1,g2,?_,?_⟩
  ·rw[List.all_eq_true] at q ⊢;intro p g;rw[<-j p g];exact q p g
  rw[<-List.map_congr_left (f:=fun p=>(p.1,(e p.2).cs)) (fun p g=>by rw[j p g])];exact s
 case makeSlice t x y=>rw[<-he x (by simp),<-he y (by simp)];exact h
 case indexAddr t x i=>rw[<-he x (by simp),<-he i (by simp)];exact h
 case slice t x lo hi mx=>
  have k:∀y:Option Operand,(∀z,y=some z->e z=e' z)->y.map e=y.map e':=fun y A=>by cases y <;> simp;exact A _ rfl
  rw[<-he x (by simp),<-k lo (fun z l=>he z (by simp[l])),<-k hi (fun z l=>he z (by simp[l])),<-k mx (fun z l=>he z (by simp[l]))];exact h
 case binOp op t x y t'=>rw[<-he x (by simp),<-he y (by simp)];exact h
 case unOp op t x=>rw[<-he x (by simp)];exact h
 case convert src dst x=>rw[<-he x (by simp)];exact h
 case call c=>
  have a:c.args.toList.map e=c.args.toList.map e':=List.map_congr_left fun x hx=>he x (by simp[Call.operands];exact .inr (by simpa using hx))
  cases m:c.callee with
  | builtin b=>simp only[m] at h ⊢;rw[<-a];exact h
  | value f=>
   simp only[m] at h ⊢;rw[<-a,<-he f (by simp[Call.operands,m])];exact h
  | invoke _ _=>simp only[m] at h
theorem E3 {bk BU:Nat->Option AH} {id:Nat} (h:bk id=BU id):AM bk id=AM BU id:=by simp[AM,h]
theorem I7 {bk BU:Nat->Option AH} {c d:AC} (h:∀id∈BV c,bk id=BU id) (a:DF bk c d):DF BU c d:=by
 cases c <;> first | exact a | skip
 case AL t id v off len=>obtain⟨l,b,f⟩:=a;exact⟨l,(h id (by simp[BV])) ▸ b,f⟩
theorem O0 {bk BU:Nat->Option AH}:∀{l m:List AC},(∀id∈l.flatMap BV,bk id=BU id)->Ae (DF bk) l m->Ae (DF BU) l m
 | [],[],_,h=>h
 | c::l,_::_,b,h=>⟨I7 (fun id a=>b id (by simp[a])) h.1,O0 (fun id a=>b id (by rw[List.flatMap_cons];exact List.mem_append_right _ a)) h.2⟩
 |[],_::_,_,h|_::_,[],_,h=>h
theorem IF {bk BU:Nat->Option AH}:∀{l m:List AV},(∀id∈BQ l,bk id=BU id)->Ed (DF bk) l m->Ed (DF BU) l m
 | [],[],_,h=>h
 | .one c::l,.one _::_,b,h=>⟨I7 (fun id a=>b id (by simp[BQ,a])) h.1,IF (fun id a=>b id (by simp[BQ,a])) h.2⟩
 | .agg cs::l,.agg _::_,b,h=>⟨O0 (fun id a=>b id (by rw[BQ];exact List.mem_append_left _ a)) h.1,IF (fun id a=>b id (by rw[BQ];exact List.mem_append_right _ a)) h.2⟩
 |.AG _::_,.AG _::_,_,h|.one _::_,.agg _::_,_,h|.one _::_,.AG _::_,_,h|.agg _::_,.one _::_,_,h|.agg _::_,.AG _::_,_,h|.AG _::_,.one _::_,_,h|.AG _::_,.agg _::_,_,h=>h.1.elim
 |[],_::_,_,h|_::_,[],_,h=>h
theorem VY {E:Env} {g:FuncId} {args:List AV} {d:Nat} {bk BU:Nat->Option AH} {f:A5} (l:∀id∈f.rd,bk id=BU id) (h:Gg E g args d bk (fun g=>g=f)):Gg E g args d BU (fun g=>g=f):=by
 rcases h with⟨a,r,c,k,h⟩ |⟨a,r,c,k,h⟩ | h |⟨i,b,a,r,c,k,h⟩ |⟨i,b,a,r,c,k,h⟩
 rotate_left 3
 ·subst h;exact .inr (.inr (.inr (.inl ⟨i,b,a,r,fun u=>⟨(l i (by simp)).symm.trans (c u).1,(c u).2⟩,k,rfl⟩)))
 ·subst h;refine .inr (.inr (.inr (.inr ⟨i,b,a,r,fun u=>?_,k,rfl⟩)));obtain⟨⟨g1,g2,m⟩,n⟩:=c u;refine⟨⟨g1,(l i (by simp)).symm.trans g2,m⟩,IF (fun id j=>l id ?_) n⟩;have:=List.all_eq_true.1 m id j;simp at this;simp[this]
 ·subst h;exact .inl ⟨a,r,c,k,by rw[E3 (l d (by simp))]⟩
 ·subst h;exact .inr (.inl ⟨a,r,fun u=>IF (fun id j=>l id (by simp[j])) (c u),k,by rw[E3 (l d (by simp))]⟩)
 unfold Gg
 split at h
 ·split at h
  ·rename_i q
   split at h
   ·rename_i o
    split at h
    ·rename_i p
     obtain⟨a,r,b1,c,k,h⟩:=h;subst h;refine .inr (.inr (.inl ?_));have:=l _ (List.mem_cons_self ..);rw[o] at this;simp only[<-this,if_pos p];exact⟨a,r,b1,fun u=>⟨(c u).1,IF (fun id j=>l id (by simp[j])) (c u).2⟩,k,rfl⟩
    exact h.elim
   exact h.elim
  exact h.elim
 exact h.elim
theorem Vn {u:T} {x:AV} {lo i j:Option AV} {bk BU:Nat->Option AH} {f:A5} (l:∀id∈f.rd,bk id=BU id) (h:F0 bk u x lo i j (fun g=>g=f)):F0 BU u x lo i j (fun g=>g=f):=by
 unfold F0 at h ⊢
 split at h
 ·exact h
 ·obtain⟨k,h⟩:=h;refine⟨k,?_⟩
  split at h
  ·rename_i m
   obtain⟨a,b,c,n,d⟩:=Ja h;have d:=d _ _ ⟨rfl,rfl⟩;cases c <;> subst d <;> rw[if_pos ((E3 (l _ (List.mem_singleton.2 rfl))).symm.trans m)] <;> exact h
  exact h.elim
 ·exact h
 exact h.elim
theorem Ot {TI:TypeId->Info} {b:Builtin} {m:List TypeId} {args:List AV} {d:Nat} {bk BU:Nat->Option AH} {f:A5} (k:∀id∈f.rd,bk id=BU id) (h:DH TI b m args d bk (fun g=>g=f)):DH TI b m args d BU (fun g=>g=f):=by
 unfold DH at h ⊢
 split at h
 ·exact h
 ·obtain⟨i,h⟩:=h
  split at h
  ·rename_i l
   have j:=h _ ⟨rfl⟩;subst j;exact⟨i,by rw[if_pos ((E3 (k _ (List.mem_singleton.2 rfl))).symm.trans l)];exact h⟩
  exact h.elim
 ·obtain⟨i,h⟩:=h
  split at h
  ·rename_i l
   have j:=h _ ⟨rfl⟩;subst j;exact⟨i,by rw[if_pos ((E3 (k _ (List.mem_singleton.2 rfl))).symm.trans l)];exact h⟩
  exact h.elim
 ·exact h
 ·exact h
 ·exact h
 ·obtain⟨i,l2,a,h⟩:=h;have j:=h _ rfl;subst j;refine⟨i,l2,fun u=>⟨I7 (fun id c=>k id (by simp[c])) (a u).1,(a u).2⟩,?_⟩;rw[<-E3 (k d (by simp))];exact h
 ·obtain⟨i,h⟩:=h;refine⟨i,?_⟩
  split at h
  ·rename_i n
   split at h
   ·rename_i l
    obtain⟨l2,a,h⟩:=h;have j:=h _ _ ⟨rfl,rfl⟩;subst j;have:=k _ (List.mem_cons_self ..);rw[n] at this;simp only[<-this,if_pos l];exact⟨l2,fun u=>⟨(a u).1,(a u).2.1,I7 (fun id c=>k id (by simp[c])) (a u).2.2.1,(a u).2.2.2⟩,h⟩
   exact h.elim
  exact h.elim
 ·obtain⟨i,h⟩:=h;refine⟨i,?_⟩
  split at h
  ·rename_i n
   split at h
   ·rename_i l
    obtain⟨l2,a,h⟩:=h;have j:=h _ _ ⟨rfl,rfl⟩;subst j;have:=k _ (List.mem_cons_self ..);rw[n] at this;simp only[<-this,if_pos l];exact⟨l2,fun u=>⟨(a u).1,(a u).2.1,I7 (fun id c=>k id (by simp[c])) (a u).2.2.1,(a u).2.2.2⟩,h⟩
   exact h.elim
  exact h.elim
 exact h.elim
theorem Vj {E:Env} {TI:TypeId->Info} {o:Oper} {d:Nat} {e:Operand->AV} {bk BU:Nat->Option AH} {f:A5} (m:∀id∈f.rd,bk id=BU id) (h:BP E TI o d e bk (fun g=>g=f)):BP E TI o d e BU (fun g=>g=f):=by
 have u:∀{id v:Nat},AM bk id=v->id∈f.rd->AM BU id=v:=fun a k=>(E3 (m _ k)).symm.trans a
 have s:∀{id:Nat} {b:AH},bk id=some b->id∈f.rd->BU id=some b:=fun a k=>(m _ k).symm.trans a
 unfold BP at h ⊢;cases K:o.op <;> simp only[K] at h ⊢ <;> (try exact h)
 case nilCheck x=>
  split at h
  ·split at h
   ·rename_i j
    rw[if_pos (u j (by rw[<-h];simp))];exact h
   exact h.elim
  ·exact h
  exact h.elim
 case alloc t=>rw[<-E3 (m d (by rw[<-h.2];simp))];exact h
 case box t x=>
  split at h
  ·exact h.elim
  ·exact h.elim
  rw[<-E3 (m d (by rw[<-h];simp))];exact h
 case load t x=>
  simp only[IP] at h ⊢;obtain⟨a,h⟩:=h;refine⟨a,?_⟩
  split at h
  ·split at h
   ·rename_i A
    split at h
    ·rename_i j
     simp only[s A (by rw[<-h];simp),if_pos j];exact h
    exact h.elim
   exact h.elim
  ·exact h
  ·split at h
   ·rename_i A
    split at h
    ·rename_i j
     have h':=h;obtain⟨z,k,h⟩:=h
     split at h
     ·simp only[s A (by rw[<-h];simp),if_pos j];exact h'
     exact h.elim
    exact h.elim
   exact h.elim
  exact h.elim
 case store t p x=>
  obtain⟨a,h⟩:=h;refine⟨a,?_⟩
  split at h
  ·split at h
   ·exact h.elim
   ·exact h.elim
   ·rename_i A H I
    split at h
    ·rename_i j
     rw[s A (by rw[<-h];simp)]
     split
     ·rename_i hx;exact (H _ hx).elim
     ·rename_i hx;exact (I hx).elim
     ·rename_i B _ _;cases Option.some.inj B;rw[if_pos j];exact h
     rename_i p q r;first | exact (p _ _ rfl).elim | exact (q _ _ rfl).elim | exact (r _ _ rfl).elim
    exact h.elim
   exact h.elim
  ·split at h
   ·exact h.elim
   ·exact h.elim
   ·rename_i A H I
    split at h
    ·rename_i j
     have h':=h;obtain⟨z,k,h⟩:=h;rw[s A (by rw[<-h _ rfl];simp)]
     split
     ·rename_i hx;exact (H _ hx).elim
     ·rename_i hx;exact (I hx).elim
     ·rename_i B _ _;cases Option.some.inj B;rw[if_pos j];exact h'
     rename_i p q r;first | exact (p _ _ _ rfl).elim | exact (q _ _ _ rfl).elim | exact (r _ _ _ rfl).elim
    exact h.elim
   exact h.elim
  exact h.elim
 case fieldAddr t x i=>
  obtain⟨a,h⟩:=h;refine⟨a,?_⟩
  split at h
  ·split at h
   ·rename_i j;rw[if_pos (u j (by rw[<-h];simp))];exact h
   exact h.elim
  ·exact h
  ·split at h
   ·rename_i j;rw[if_pos (u j (by rw[<-h];simp))];exact h
   exact h.elim
  exact h.elim
 case buildSlice t n ps=>
  obtain⟨a,k,xs,C,h | h⟩:=h
  ·rw[<-E3 (m d (by rw[<-h];simp))];exact⟨a,k,xs,C,.inl h⟩
  exact⟨a,k,xs,C,.inr h⟩
 case makeSlice t x y=>
  obtain⟨a,h⟩:=h;refine⟨a,?_⟩
  split at h
  ·rw[<-E3 (m d (by rw[<-h.2 _ _ ⟨rfl,rfl⟩];simp))];exact h
  exact h.elim
 case indexAddr t x i=>
  obtain⟨a,h⟩:=h;refine⟨a,?_⟩
  split at h
  ·exact h
  ·obtain⟨k,h⟩:=h
   split at h
   ·rename_i j;exact⟨k,by rw[if_pos (u j (by rw[<-h.2 _ rfl];simp))];exact h⟩
   exact h.elim
  exact h.elim
 case slice t x lo hi mx=>exact⟨h.1,Vn m h.2⟩
 case call c=>
  cases D:c.callee with
  | builtin b=>
   simp only[D] at h ⊢;rcases Gf.1 h with h |⟨w,h⟩
   ·exact Gf.2 (.inl (Ot m h))
   obtain⟨g,a,k⟩:=IE (fun t l F=>absurd (Ln w h) (by rw[F];exact (by decide:¬(1=2)))) h;obtain⟨t,id,v,n,l,L,_,_,J,G⟩:=NP k;have C:=Ot (BU:=BU) (f:=g) (fun i hi=>m i (by rw[<-J];exact hi)) (a _ rfl);obtain⟨g2,k1,k2⟩:=IE (fun t l F=>absurd (Ln w h) (by rw[F];exact (by decide:¬(1=2)))) C;subst k2;exact Gf.2 (.inr ⟨w,k1 _ (G _ J)⟩)
  | value g=>
   simp only[D] at h ⊢
   split at h
   ·exact VY m h
   exact h.elim
  | invoke _ _=>simp only[D] at h
end
end Go.Abs
