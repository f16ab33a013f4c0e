/- Part 8 of a proof. Conditions: each theorem's own. -/
import Derived.Test.YtoonaidhfikkeaaGreatPk06
set_option linter.all false
set_option maxHeartbeats 8000000
namespace Go.Abs
open Go.RowKit
section
theorem PH {op:BinOp} {k:IntKind} {a b:Int} {K:AC->Prop} (h:arith op k a b K):∃c,(∀j:AC->Prop,j c->arith op k a b j)/\K c:=by
 unfold arith at h ⊢
 split at h
 case h_1=>obtain⟨g,i⟩:=h _ rfl;exact⟨_,fun j f c d=>by subst d;exact⟨g,f⟩,i⟩
 case h_2=>obtain⟨g,i⟩:=h _ rfl;exact⟨_,fun j f c d=>by subst d;exact⟨g,f⟩,i⟩
 case h_3=>obtain⟨g,i⟩:=h _ rfl;exact⟨_,fun j f c d=>by subst d;exact⟨g,f⟩,i⟩
 case h_4=>obtain⟨g,i⟩:=h _ rfl;exact⟨_,fun j f c d=>by subst d;exact⟨g,f⟩,i⟩
 case h_5=>obtain⟨g,i⟩:=h _ rfl;exact⟨_,fun j f c d=>by subst d;exact⟨g,f⟩,i⟩
 all_goals first
  | exact⟨_,fun j f c d=>by subst d;exact f,h _ rfl⟩
  | (obtain⟨g,i⟩:=h _ rfl;exact⟨_,fun j f c d=>by subst d;exact⟨g,f⟩,i⟩)
theorem JZ {len:Nat} {lo k n:Option AV} {K:Nat->Nat->Bool->Prop} (h:F6 len lo k n K):∃a b c,(∀f:Nat->Nat->Bool->Prop,f a b c->F6 len lo k n f)/\K a b c:=by
 unfold F6 at h ⊢
 split at h
 ·exact⟨_,_,_,fun f d c o=>by subst o;exact d,h _ rfl⟩
 ·obtain⟨g,i⟩:=h;exact⟨_,_,_,fun f d=>⟨g,fun l m j=>by obtain⟨rfl,rfl⟩:=j;exact d⟩,i _ _ ⟨rfl,rfl⟩⟩
 ·obtain⟨g,i⟩:=h;exact⟨_,_,_,fun f d=>⟨g,fun l j=>by obtain rfl:=j;exact d⟩,i _ rfl⟩
 ·obtain⟨g,i⟩:=h;exact⟨_,_,_,fun f d=>⟨g,fun l m j=>by obtain⟨rfl,rfl⟩:=j;exact d⟩,i _ _ ⟨rfl,rfl⟩⟩
 ·obtain⟨g,i⟩:=h;exact⟨_,_,_,fun f d=>⟨g,fun l j=>by obtain rfl:=j;exact d⟩,i _ rfl⟩
 exact h.elim
theorem Vy {bk:Nat->Option AH} {u:T} {x:AV} {lo m p:Option AV} {K:BC->Prop} (h:F5 bk u x lo m p K):∃f,(∀i:BC->Prop,i f->F5 bk u x lo m p i)/\K f:=by
 unfold F5 at h ⊢
 split at h
 ·obtain⟨l,h⟩:=h;obtain⟨a,b,c,j,d⟩:=JZ (h _ rfl);exact⟨_,fun i k=>⟨l,fun n q=>by subst q;exact j _ fun l' g=>by subst g;exact k⟩,d _ rfl⟩
 ·obtain⟨l,h⟩:=h
  split at h
  ·rename_i r
   obtain⟨a,b,c,j,d⟩:=JZ h;have d:=d _ _ ⟨rfl,rfl⟩;cases c with
   |true|false=>exact⟨_,fun i k=>⟨l,by rw[if_pos r];exact j _ fun o n g=>by obtain⟨rfl,rfl⟩:=g;exact k⟩,d⟩
  exact h.elim
 ·obtain⟨a,b,c,j,d⟩:=JZ h;exact⟨_,fun i k=>j _ k,d⟩
 exact h.elim
theorem Vj {E:Env} {g:FuncId} {args:List AV} {d:Nat} {bk:Nat->Option AH} {K:BC->Prop} (h:Gi E g args d bk K):∃f,(∀l:BC->Prop,l f->Gi E g args d bk l)/\K f:=by
 rcases h with⟨a,r,c,j,h⟩ |⟨a,r,c,j,h⟩ | h |⟨i,b,a,r,c,j,h⟩ |⟨i,b,a,r,c,j,h⟩
 ·exact⟨_,fun l k=> .inl ⟨a,r,c,j,k⟩,h⟩
 ·exact⟨_,fun l k=> .inr (.inl ⟨a,r,c,j,k⟩),h⟩
 rotate_left
 ·exact⟨_,fun l k=> .inr (.inr (.inr (.inl ⟨i,b,a,r,c,j,k⟩))),h⟩
 ·exact⟨_,fun l k=> .inr (.inr (.inr (.inr ⟨i,b,a,r,c,j,k⟩))),h⟩
 unfold Gi
 split at h
 ·split at h
  ·rename_i m
   split at h
   ·rename_i hb
    split at h
    ·rename_i n
     obtain⟨a,r,b1,c,j,h⟩:=h;exact⟨_,fun l k=> .inr (.inr (.inl (by simp only[m,hb,if_pos n];exact⟨a,r,b1,c,j,k⟩))),h⟩
    exact h.elim
   exact h.elim
  exact h.elim
 exact h.elim
theorem T.beq_refl:∀t:T,T.beq t t=true
 | .u8=>rfl | .u32=>rfl | .u64=>rfl | .i8=>rfl | .i64=>rfl | .bool=>rfl
 | .sl t=>T.beq_refl t
 | .pr a b=>by simp only[T.beq,T.beq_refl a,T.beq_refl b,Bool.and_self]
theorem Gh {TI:TypeId->Info} {b:Builtin} {a:List TypeId} {args:List AV} {d:Nat} {bk:Nat->Option AH} {K:BC->Prop}:
  Li TI b a args d bk K↔DJ TI b a args d bk K\/(b= .append/\DJ TI b a args d bk (Hs K)):=by
 cases b <;> simp[Li]
theorem NT {K:BC->Prop} {g:BC} (h:Hs K g):∃(t:T) (id v n:Nat) (l:List (el t)),g=⟨.one (.AM t id v 0 n),[(id,.arr v t l)],g.rd⟩/\id≠0/\n=l.length/\K ⟨.one (.sl t l),[(id,.dead v)],g.rd⟩/\
  ∀a:BC->Prop,a ⟨.one (.sl t l),[(id,.dead v)],g.rd⟩->Hs a g:=by
 obtain⟨p,q,o⟩:=g;unfold Hs at h
 split at h
 ·rename_i t id v off n i s r l c d
  split at h
  ·rename_i f
   simp only at c d;simp only[Bool.and_eq_true,bne_iff_ne,beq_iff_eq] at f;obtain⟨⟨⟨⟨c1,c2⟩,j⟩,k⟩,b⟩:=f;have b:=T.beq_eq b;subst c2 j k b c d;refine⟨t,id,v,n,l,rfl,c1,h.1 (),h.2,fun a m=>?_⟩;unfold Hs;simp only;rw[if_pos (by simp[c1,T.beq_refl])];exact⟨h.1,m⟩
  exact h.elim
 exact h.elim
theorem Lp {TI:TypeId->Info} {b:Builtin} {a:List TypeId} {args:List AV} {d:Nat} {bk:Nat->Option AH} {K:BC->Prop} (hb:b= .append) (h:DJ TI b a args d bk K):args.length=2:=by
 subst hb;unfold DJ at h
 split at h <;> first | contradiction | exact h.elim | rfl
theorem Vw {TI:TypeId->Info} {b:Builtin} {c:List TypeId} {args:List AV} {d:Nat} {bk:Nat->Option AH} {g:BC} (hb:b= .append) (h:DJ TI b c args d bk (fun f=>f=g)) {id:Nat} {B:AH} (hw:g.ws=[(id,B)]):
  id=d\/∃x,bk id=some x:=by
 subst hb;unfold DJ at h
 split at h <;> first | contradiction | skip
 ·obtain⟨_,l2,_,h⟩:=h;have:=h _ rfl;subst this;simp at hw;exact .inl hw.1.symm
 ·obtain⟨_,h⟩:=h
  split at h
  ·rename_i a
   split at h
   ·obtain⟨l2,_,h⟩:=h;have:=h _ _ ⟨rfl,rfl⟩;subst this;simp at hw;exact .inr ⟨_,hw.1 ▸ a⟩
   exact h.elim
  exact h.elim
 obtain⟨_,h⟩:=h
 split at h
 ·rename_i a
  split at h
  ·obtain⟨l2,_,h⟩:=h;have:=h _ _ ⟨rfl,rfl⟩;subst this;simp at hw;exact .inr ⟨_,hw.1 ▸ a⟩
  exact h.elim
 exact h.elim
theorem ID {TI:TypeId->Info} {b:Builtin} {o:List TypeId} {args:List AV} {d:Nat} {bk:Nat->Option AH} {K:BC->Prop} (hlen:∀t l,args=[.one (.sl t l)]->l.length<=140737488355328) (h:DJ TI b o args d bk K):
  ∃f,(∀g:BC->Prop,g f->DJ TI b o args d bk g)/\K f:=by
 unfold DJ at h ⊢
 split at h
 ·exact⟨_,fun g a=>⟨h.1,fun n i=>by obtain⟨rfl,_⟩:=i;exact a⟩,h.2 _ ⟨rfl,hlen _ _ rfl⟩⟩
 ·obtain⟨j,h⟩:=h
  split at h
  ·rename_i k
   exact⟨_,fun g a=>⟨j,by rw[if_pos k];intro n i;obtain⟨rfl⟩:=i;exact a⟩,h _ ⟨rfl⟩⟩
  exact h.elim
 ·obtain⟨j,h⟩:=h
  split at h
  ·rename_i k
   exact⟨_,fun g a=>⟨j,by rw[if_pos k];intro n i;obtain⟨rfl⟩:=i;exact a⟩,h _ ⟨rfl⟩⟩
  exact h.elim
 ·exact⟨_,fun g a=>⟨h.1,a⟩,h.2⟩
 ·exact⟨_,fun g a=>⟨h.1,a⟩,h.2⟩
 ·exact⟨_,fun g a c p=>by subst p;exact a,h _ rfl⟩
 ·obtain⟨j,l2,m,h⟩:=h;exact⟨_,fun g a=>⟨j,l2,m,fun n i=>by subst i;exact a⟩,h _ rfl⟩
 ·obtain⟨j,h⟩:=h
  split at h
  ·rename_i hb
   split at h
   ·rename_i k
    obtain⟨l2,m,h⟩:=h;exact⟨_,fun g a=>⟨j,by simp only[hb,if_pos k];exact⟨l2,m,fun l' n i=>by obtain⟨rfl,rfl⟩:=i;exact a⟩⟩,h _ _ ⟨rfl,rfl⟩⟩
   exact h.elim
  exact h.elim
 ·obtain⟨j,h⟩:=h
  split at h
  ·rename_i hb
   split at h
   ·rename_i k
    obtain⟨l2,m,h⟩:=h;exact⟨_,fun g a=>⟨j,by simp only[hb,if_pos k];exact⟨l2,m,fun l' n i=>by obtain⟨rfl,rfl⟩:=i;exact a⟩⟩,h _ _ ⟨rfl,rfl⟩⟩
   exact h.elim
  exact h.elim
 exact h.elim
theorem Lo {E:Env} {TI:TypeId->Info} {o:Oper} {d:Nat} {e:Operand->AV} {bk:Nat->Option AH} {K:BC->Prop} (hlen:∀x t l,e x= .one (.sl t l)->l.length<=140737488355328) (h:BS E TI o d e bk K):
  ∃f,(∀m:BC->Prop,m f->BS E TI o d e bk m)/\K f:=by
 unfold BS at h ⊢;cases O:o.op <;> simp only[O] at h ⊢
 case move x=>exact⟨_,fun m a=>a,h⟩
 case assign x=>exact⟨_,fun m a=>a,h⟩
 case nilCheck x=>
  split at h
  ·rename_i he
   split at h
   ·rename_i s
    rw[he] at h;exact⟨_,fun m a=>by rw[he];rw[if_pos s];exact a,h⟩
   exact h.elim
  ·rename_i he
   exact⟨_,fun m a=>a,h⟩
  exact h.elim
 case pick c x y=>
  split at h
  ·rename_i he;exact⟨_,fun m a=>by (try simp only[he]);exact a,h⟩
  ·rename_i he;exact⟨_,fun m a=>by (try simp only[he]);exact a,h⟩
  exact h.elim
 case alloc t=>exact⟨_,fun m a=>⟨h.1,a⟩,h.2⟩
 case box t x=>
  split at h
  ·exact h.elim
  ·exact h.elim
  rename_i v q r
  exact⟨_,fun m a=>a,h⟩
 case extract x i=>
  split at h
  ·rename_i he
   split at h
   ·rename_i u
    exact⟨_,fun m a=>by (try simp only[he,u]);exact a,h⟩
   exact h.elim
  exact h.elim
 case load t x=>
  simp only[IP] at h ⊢;obtain⟨q,h⟩:=h
  split at h
  ·rename_i he
   split at h
   ·rename_i hb
    split at h
    ·rename_i s
     exact⟨_,fun m a=>⟨q,by (try simp only[he,hb,if_pos s]);exact a⟩,h⟩
    exact h.elim
   exact h.elim
  ·rename_i he
   split at h
   ·rename_i s
    exact⟨_,fun m a=>⟨q,by (try simp only[he,if_pos s]);exact a⟩,h⟩
   exact h.elim
  ·rename_i he
   split at h
   ·rename_i hb
    split at h
    ·rename_i s
     obtain⟨z,r,h⟩:=h
     split at h
     ·rename_i J
      exact⟨_,fun m a=>⟨q,by (try simp only[he,hb,if_pos s]);exact⟨z,r,by simp only[if_pos J];exact a⟩⟩,h⟩
     exact h.elim
    exact h.elim
   exact h.elim
  exact h.elim
 case store t p x=>
  obtain⟨q,h⟩:=h
  split at h
  ·rename_i he
   split at h
   ·exact h.elim
   ·exact h.elim
   ·rename_i P Q hb
    split at h
    ·rename_i s
     refine⟨_,fun m a=>⟨q,?_⟩,h⟩;rw[if_pos s];exact a
    exact h.elim
   exact h.elim
  ·rename_i he
   split at h
   ·exact h.elim
   ·exact h.elim
   ·rename_i P Q hb
    split at h
    ·rename_i s
     obtain⟨z,r,h⟩:=h;refine⟨_,fun m a=>⟨q,?_⟩,h _ rfl⟩;rw[if_pos s];exact⟨z,r,fun l' H=>by subst H;exact a⟩
    exact h.elim
   exact h.elim
  exact h.elim
 case fieldAddr t x i=>
  obtain⟨q,h⟩:=h
  split at h
  ·rename_i D he
   split at h
   ·rename_i s
    exact⟨_,fun m a=>⟨q,by (try simp only[D,he,if_pos s]);exact a⟩,h⟩
   exact h.elim
  ·rename_i D he
   exact⟨_,fun m a=>⟨q,by (try simp only[D,he]);exact a⟩,h⟩
  ·rename_i D he
   split at h
   ·rename_i s
    exact⟨_,fun m a=>⟨q,by (try simp only[D,he,if_pos s]);exact a⟩,h⟩
   exact h.elim
  exact h.elim
 case field t x i=>
  obtain⟨q,h⟩:=h
  split at h
  ·rename_i D he
   split at h
   ·rename_i s
    exact⟨_,fun m a=>⟨q,by (try simp only[D,he,if_pos s]);exact a⟩,h⟩
   exact h.elim
  exact h.elim
 case build t ps=>
  obtain⟨q,h⟩:=h
  split at h
  ·rename_i he
   exact⟨_,fun m a=>⟨q,by (try simp only[he]);exact a⟩,h⟩
  exact h.elim
 case buildSlice t n ps=>
  obtain⟨q,r,xs,A,h | h⟩:=h
  ·exact⟨_,fun m a=>⟨q,r,xs,A,.inl a⟩,h⟩
  exact⟨_,fun m a=>⟨q,r,xs,A,.inr a⟩,h⟩
 case makeSlice t x y=>
  obtain⟨q,h⟩:=h
  split at h
  ·rename_i u w
   exact⟨_,fun m a=>⟨q,by (try simp only[u,w]);exact⟨h.1,fun k z J=>by obtain⟨rfl,rfl⟩:=J;exact a⟩⟩,h.2 _ _ ⟨rfl,rfl⟩⟩
  exact h.elim
 case indexAddr t x i=>
  obtain⟨q,h⟩:=h
  split at h
  ·rename_i u w
   obtain⟨r,z,A,h⟩:=h;exact⟨_,fun m a=>⟨q,by (try simp only[u,w]);exact⟨r,z,A,a⟩⟩,h⟩
  ·rename_i u w
   obtain⟨r,h⟩:=h
   split at h
   ·rename_i s
    exact⟨_,fun m a=>⟨q,by (try simp only[u,w]);exact⟨r,by rw[if_pos s];exact⟨h.1,fun j N=>by subst N;exact a⟩⟩⟩,h.2 _ rfl⟩
   exact h.elim
  exact h.elim
 case slice t x lo hi mx=>
  obtain⟨q,h⟩:=h;obtain⟨f,r,A⟩:=Vy h;exact⟨f,fun m a=>⟨q,r _ a⟩,A⟩
 case binOp op t x y t'=>
  split at h
  ·rename_i u w
   split at h
   ·rename_i G
    obtain⟨c,r,A⟩:=PH h;exact⟨_,fun m a=>by (try simp only[u,w,if_pos G]);exact r _ a,A⟩
   exact h.elim
  ·rename_i u w
   obtain⟨q,h⟩:=h;cases op <;> simp only at h
   all_goals first
    | exact h.elim
    | exact⟨_,fun m a=>by (try simp only[u,w]);exact⟨q,fun c B=>B ▸ a⟩,h _ rfl⟩
  ·rename_i u w
   obtain⟨q,h⟩:=h;cases op <;> simp only at h
   all_goals first
    | exact h.elim
    | exact⟨_,fun m a=>by (try simp only[u,w]);exact⟨q,fun c B=>B ▸ a⟩,h _ rfl⟩
  exact h.elim
 case unOp op t x=>
  split at h
  ·rename_i u
   exact⟨_,fun m a=>by (try simp only[u]);intro c B;subst B;exact a,h _ rfl⟩
  ·rename_i u
   obtain⟨c,r,A⟩:=PH h;exact⟨_,fun m a=>by (try simp only[u]);exact r _ a,A⟩
  exact h.elim
 case convert src dst x=>
  obtain⟨q,h⟩:=h
  split at h
  ·rename_i u w
   exact⟨_,fun m a=>⟨q,by (try simp only[u,w]);intro c B;subst B;exact a⟩,h _ rfl⟩
  exact h.elim
 case call c=>
  cases B:c.callee with
  | builtin b=>
   simp only[B] at h ⊢
   have C:∀t l,c.args.toList.map e=[.one (.sl t l)]->l.length<=140737488355328:=by
    intro t l F
    generalize c.args.toList=L at F
    match L,F with
    | [x],F=>exact hlen x t l (by simpa using F)
    |[],F|_::_::_,F=>simp at F
   rcases Gh.1 h with h |⟨hb,h⟩
   ·obtain⟨g,q,r⟩:=ID C h;exact⟨g,fun m a=>Gh.2 (.inl (q m a)),r⟩
   obtain⟨g,q,r⟩:=ID C h;obtain⟨t,id,v,n,l,R,_,_,M,I⟩:=NT r;exact⟨_,fun m a=>Gh.2 (.inr ⟨hb,q _ (I m a)⟩),M⟩
  | value f=>
   simp only[B] at h ⊢
   split at h
   ·rename_i he
    obtain⟨f,r,A⟩:=Vj h;exact⟨f,fun m a=>by (try simp only[he]);exact r _ a,A⟩
   exact h.elim
  | invoke _ _=>simp only[B] at h
end
end Go.Abs
namespace Go.Abs
open Go.RowKit
section
theorem QL {pl:List (Nat×Nat×Bool)} {e e':Operand->AV}:∀{a:List (Nat×Operand)} {cs:List AC},(∀p∈a,e p.2=e' p.2)->FG pl e a cs=FG pl e' a cs
 | [],_,_=>rfl
 | (i,x)::r,cs,h=>by
  have b:=h (i,x) (by simp);simp only at b;have d:∀cs,FG pl e r cs=FG pl e' r cs:=fun cs=>QL fun p c=>h p (by simp[c])
  simp only[FG,b,d]
theorem Vu {E:Env} {TI:TypeId->Info} {o:Oper} {d:Nat} {e e':Operand->AV} {bk:Nat->Option AH} {K:BC->Prop} (he:∀x∈o.op.operands,e x=e' x) (h:BS E TI o d e bk K):BS E TI o d e' bk K:=by
 unfold BS at h ⊢;cases r:o.op <;> simp only[r] at h ⊢ <;> (try exact h.elim) <;> rw[r] at he <;> simp only[Op.operands] at he
 case move x=>rw[<-he x (by simp)];exact h
 case assign x=>rw[<-he x (by simp)];exact h
 case nilCheck x=>rw[<-he x (by simp)];exact h
 case pick c x y=>rw[<-he x (by simp),<-he y (by simp),<-he c (by simp)];exact h
 case alloc t=>exact h
 case box t x=>rw[<-he x (by simp)];exact h
 case extract x i=>rw[<-he x (by simp)];exact h
 case load t x=>rw[<-he x (by simp)];exact h
 case store t p x=>rw[<-he x (by simp),<-he p (by simp)];exact h
 case fieldAddr t x i=>rw[<-he x (by simp)];exact h
 case field t x i=>rw[<-he x (by simp)];exact h
 case build t ps=>
  rw[<-QL (e:=e) (e':=e') (fun p j=>he p.2 (by simpa using ⟨p.1,Array.mem_toList_iff.1 j⟩))];exact h
 case buildSlice t n ps=>
  obtain⟨k,v,xs,w,h⟩:=h;refine⟨k,v,xs,fun u=>?_,h⟩;obtain⟨g1,g2,q,s⟩:=w u;have j:∀p∈ps.toList,e p.2=e' p.2:=fun p j=>he p.2 (by simpa using ⟨p.1,Array.mem_toList_iff.1 j⟩)
  refine⟨g1,g2,?_,?_⟩
  ·rw[List.all_eq_true] at q ⊢;intro p g;rw[<-j p g];exact q p g
  rw[<-List.map_congr_left (f:=fun p=>(p.1,(e p.2).cs)) (fun p g=>by rw[j p g])];exact s
 case makeSlice t x y=>rw[<-he x (by simp),<-he y (by simp)];exact h
 case indexAddr t x i=>rw[<-he x (by simp),<-he i (by simp)];exact h
 case slice t x lo hi mx=>
  have k:∀y:Option Operand,(∀z,y=some z->e z=e' z)->y.map e=y.map e':=fun y B=>by cases y <;> simp;exact B _ rfl
  rw[<-he x (by simp),<-k lo (fun z l=>he z (by simp[l])),<-k hi (fun z l=>he z (by simp[l])),<-k mx (fun z l=>he z (by simp[l]))];exact h
 case binOp op t x y t'=>rw[<-he x (by simp),<-he y (by simp)];exact h
 case unOp op t x=>rw[<-he x (by simp)];exact h
 case convert src dst x=>rw[<-he x (by simp)];exact h
 case call c=>
  have a:c.args.toList.map e=c.args.toList.map e':=List.map_congr_left fun x A=>he x (by simp[Call.operands];exact .inr (by simpa using A))
  cases m:c.callee with
  | builtin b=>simp only[m] at h ⊢;rw[<-a];exact h
  | value f=>
   simp only[m] at h ⊢;rw[<-a,<-he f (by simp[Call.operands,m])];exact h
  | invoke _ _=>simp only[m] at h
theorem E7 {bk BX:Nat->Option AH} {id:Nat} (h:bk id=BX id):AN bk id=AN BX id:=by simp[AN,h]
theorem I7 {bk BX:Nat->Option AH} {c d:AC} (h:∀id∈BY c,bk id=BX id) (a:DG bk c d):DG BX c d:=by
 cases c <;> first | exact a | skip
 case AM t id v off len=>obtain⟨l,b,f⟩:=a;exact⟨l,(h id (by simp[BY])) ▸ b,f⟩
theorem O9 {bk BX:Nat->Option AH}:∀{l m:List AC},(∀id∈l.flatMap BY,bk id=BX id)->Ac (DG bk) l m->Ac (DG BX) l m
 | [],[],_,h=>h
 | c::l,_::_,b,h=>⟨I7 (fun id a=>b id (by simp[a])) h.1,O9 (fun id a=>b id (by rw[List.flatMap_cons];exact List.mem_append_right _ a)) h.2⟩
 |[],_::_,_,h|_::_,[],_,h=>h
theorem IE {bk BX:Nat->Option AH}:∀{l m:List AV},(∀id∈BT l,bk id=BX id)->Ed (DG bk) l m->Ed (DG BX) l m
 | [],[],_,h=>h
 | .one c::l,.one _::_,b,h=>⟨I7 (fun id a=>b id (by simp[BT,a])) h.1,IE (fun id a=>b id (by simp[BT,a])) h.2⟩
 | .agg cs::l,.agg _::_,b,h=>⟨O9 (fun id a=>b id (by rw[BT];exact List.mem_append_left _ a)) h.1,IE (fun id a=>b id (by rw[BT];exact List.mem_append_right _ a)) h.2⟩
 |.AF _::_,.AF _::_,_,h|.one _::_,.agg _::_,_,h|.one _::_,.AF _::_,_,h|.agg _::_,.one _::_,_,h|.agg _::_,.AF _::_,_,h|.AF _::_,.one _::_,_,h|.AF _::_,.agg _::_,_,h=>h.1.elim
 |[],_::_,_,h|_::_,[],_,h=>h
theorem Vh {E:Env} {g:FuncId} {args:List AV} {d:Nat} {bk BX:Nat->Option AH} {f:BC} (hb:∀id∈f.rd,bk id=BX id) (h:Gi E g args d bk (fun g=>g=f)):Gi E g args d BX (fun g=>g=f):=by
 rcases h with⟨a,r,c,k,h⟩ |⟨a,r,c,k,h⟩ | h |⟨i,b,a,r,c,k,h⟩ |⟨i,b,a,r,c,k,h⟩
 rotate_left 3
 ·subst h;exact .inr (.inr (.inr (.inl ⟨i,b,a,r,fun u=>⟨(hb i (by simp)).symm.trans (c u).1,(c u).2⟩,k,rfl⟩)))
 ·subst h;refine .inr (.inr (.inr (.inr ⟨i,b,a,r,fun u=>?_,k,rfl⟩)));obtain⟨⟨g1,g2,l⟩,m⟩:=c u;refine⟨⟨g1,(hb i (by simp)).symm.trans g2,l⟩,IE (fun id j=>hb id ?_) m⟩;have:=List.all_eq_true.1 l id j;simp at this;simp[this]
 ·subst h;exact .inl ⟨a,r,c,k,by rw[E7 (hb d (by simp))]⟩
 ·subst h;exact .inr (.inl ⟨a,r,fun u=>IE (fun id j=>hb id (by simp[j])) (c u),k,by rw[E7 (hb d (by simp))]⟩)
 unfold Gi
 split at h
 ·split at h
  ·rename_i p
   split at h
   ·rename_i n
    split at h
    ·rename_i o
     obtain⟨a,r,b1,c,k,h⟩:=h;subst h;refine .inr (.inr (.inl ?_));have:=hb _ (List.mem_cons_self ..);rw[n] at this;simp only[<-this,if_pos o];exact⟨a,r,b1,fun u=>⟨(c u).1,IE (fun id j=>hb id (by simp[j])) (c u).2⟩,k,rfl⟩
    exact h.elim
   exact h.elim
  exact h.elim
 exact h.elim
theorem Vx {u:T} {x:AV} {lo i j:Option AV} {bk BX:Nat->Option AH} {f:BC} (hb:∀id∈f.rd,bk id=BX id) (h:F5 bk u x lo i j (fun g=>g=f)):F5 BX u x lo i j (fun g=>g=f):=by
 unfold F5 at h ⊢
 split at h
 ·exact h
 ·obtain⟨k,h⟩:=h;refine⟨k,?_⟩
  split at h
  ·rename_i l
   obtain⟨a,b,c,m,d⟩:=JZ h;have d:=d _ _ ⟨rfl,rfl⟩;cases c <;> subst d <;> rw[if_pos ((E7 (hb _ (List.mem_singleton.2 rfl))).symm.trans l)] <;> exact h
  exact h.elim
 ·exact h
 exact h.elim
theorem O1 {TI:TypeId->Info} {b:Builtin} {l:List TypeId} {args:List AV} {d:Nat} {bk BX:Nat->Option AH} {f:BC} (hb:∀id∈f.rd,bk id=BX id) (h:DJ TI b l args d bk (fun g=>g=f)):DJ TI b l args d BX (fun g=>g=f):=by
 unfold DJ at h ⊢
 split at h
 ·exact h
 ·obtain⟨i,h⟩:=h
  split at h
  ·rename_i k
   have j:=h _ ⟨rfl⟩;subst j;exact⟨i,by rw[if_pos ((E7 (hb _ (List.mem_singleton.2 rfl))).symm.trans k)];exact h⟩
  exact h.elim
 ·obtain⟨i,h⟩:=h
  split at h
  ·rename_i k
   have j:=h _ ⟨rfl⟩;subst j;exact⟨i,by rw[if_pos ((E7 (hb _ (List.mem_singleton.2 rfl))).symm.trans k)];exact h⟩
  exact h.elim
 ·exact h
 ·exact h
 ·exact h
 ·obtain⟨i,l2,a,h⟩:=h;have j:=h _ rfl;subst j;refine⟨i,l2,fun u=>⟨I7 (fun id c=>hb id (by simp[c])) (a u).1,(a u).2⟩,?_⟩;rw[<-E7 (hb d (by simp))];exact h
 ·obtain⟨i,h⟩:=h;refine⟨i,?_⟩
  split at h
  ·rename_i m
   split at h
   ·rename_i k
    obtain⟨l2,a,h⟩:=h;have j:=h _ _ ⟨rfl,rfl⟩;subst j;have:=hb _ (List.mem_cons_self ..);rw[m] at this;simp only[<-this,if_pos k];exact⟨l2,fun u=>⟨(a u).1,(a u).2.1,I7 (fun id c=>hb id (by simp[c])) (a u).2.2.1,(a u).2.2.2⟩,h⟩
   exact h.elim
  exact h.elim
 ·obtain⟨i,h⟩:=h;refine⟨i,?_⟩
  split at h
  ·rename_i m
   split at h
   ·rename_i k
    obtain⟨l2,a,h⟩:=h;have j:=h _ _ ⟨rfl,rfl⟩;subst j;have:=hb _ (List.mem_cons_self ..);rw[m] at this;simp only[<-this,if_pos k];exact⟨l2,fun u=>⟨(a u).1,(a u).2.1,I7 (fun id c=>hb id (by simp[c])) (a u).2.2.1,(a u).2.2.2⟩,h⟩
   exact h.elim
  exact h.elim
 exact h.elim
theorem Vt {E:Env} {TI:TypeId->Info} {o:Oper} {d:Nat} {e:Operand->AV} {bk BX:Nat->Option AH} {f:BC} (hb:∀id∈f.rd,bk id=BX id) (h:BS E TI o d e bk (fun g=>g=f)):BS E TI o d e BX (fun g=>g=f):=by
 have s:∀{id v:Nat},AN bk id=v->id∈f.rd->AN BX id=v:=fun a k=>(E7 (hb _ k)).symm.trans a
 have m:∀{id:Nat} {b:AH},bk id=some b->id∈f.rd->BX id=some b:=fun a k=>(hb _ k).symm.trans a
 unfold BS at h ⊢;cases K:o.op <;> simp only[K] at h ⊢ <;> (try exact h)
 case nilCheck x=>
  split at h
  ·split at h
   ·rename_i j
    rw[if_pos (s j (by rw[<-h];simp))];exact h
   exact h.elim
  ·exact h
  exact h.elim
 case alloc t=>rw[<-E7 (hb d (by rw[<-h.2];simp))];exact h
 case box t x=>
  split at h
  ·exact h.elim
  ·exact h.elim
  rw[<-E7 (hb d (by rw[<-h];simp))];exact h
 case load t x=>
  simp only[IP] at h ⊢;obtain⟨a,h⟩:=h;refine⟨a,?_⟩
  split at h
  ·split at h
   ·rename_i w
    split at h
    ·rename_i j
     simp only[m w (by rw[<-h];simp),if_pos j];exact h
    exact h.elim
   exact h.elim
  ·exact h
  ·split at h
   ·rename_i w
    split at h
    ·rename_i j
     have h':=h;obtain⟨z,k,h⟩:=h
     split at h
     ·simp only[m w (by rw[<-h];simp),if_pos j];exact h'
     exact h.elim
    exact h.elim
   exact h.elim
  exact h.elim
 case store t p x=>
  obtain⟨a,h⟩:=h;refine⟨a,?_⟩
  split at h
  ·split at h
   ·exact h.elim
   ·exact h.elim
   ·rename_i w H I
    split at h
    ·rename_i j
     rw[m w (by rw[<-h];simp)]
     split
     ·rename_i B;exact (H _ B).elim
     ·rename_i B;exact (I B).elim
     ·rename_i A _ _;cases Option.some.inj A;rw[if_pos j];exact h
     rename_i p q r;first | exact (p _ _ rfl).elim | exact (q _ _ rfl).elim | exact (r _ _ rfl).elim
    exact h.elim
   exact h.elim
  ·split at h
   ·exact h.elim
   ·exact h.elim
   ·rename_i w H I
    split at h
    ·rename_i j
     have h':=h;obtain⟨z,k,h⟩:=h;rw[m w (by rw[<-h _ rfl];simp)]
     split
     ·rename_i B;exact (H _ B).elim
     ·rename_i B;exact (I B).elim
     ·rename_i A _ _;cases Option.some.inj A;rw[if_pos j];exact h'
     rename_i p q r;first | exact (p _ _ _ rfl).elim | exact (q _ _ _ rfl).elim | exact (r _ _ _ rfl).elim
    exact h.elim
   exact h.elim
  exact h.elim
 case fieldAddr t x i=>
  obtain⟨a,h⟩:=h;refine⟨a,?_⟩
  split at h
  ·split at h
   ·rename_i j;rw[if_pos (s j (by rw[<-h];simp))];exact h
   exact h.elim
  ·exact h
  ·split at h
   ·rename_i j;rw[if_pos (s j (by rw[<-h];simp))];exact h
   exact h.elim
  exact h.elim
 case buildSlice t n ps=>
  obtain⟨a,k,xs,C,h | h⟩:=h
  ·rw[<-E7 (hb d (by rw[<-h];simp))];exact⟨a,k,xs,C,.inl h⟩
  exact⟨a,k,xs,C,.inr h⟩
 case makeSlice t x y=>
  obtain⟨a,h⟩:=h;refine⟨a,?_⟩
  split at h
  ·rw[<-E7 (hb d (by rw[<-h.2 _ _ ⟨rfl,rfl⟩];simp))];exact h
  exact h.elim
 case indexAddr t x i=>
  obtain⟨a,h⟩:=h;refine⟨a,?_⟩
  split at h
  ·exact h
  ·obtain⟨k,h⟩:=h
   split at h
   ·rename_i j;exact⟨k,by rw[if_pos (s j (by rw[<-h.2 _ rfl];simp))];exact h⟩
   exact h.elim
  exact h.elim
 case slice t x lo hi mx=>exact⟨h.1,Vx hb h.2⟩
 case call c=>
  cases D:c.callee with
  | builtin b=>
   simp only[D] at h ⊢;rcases Gh.1 h with h |⟨u,h⟩
   ·exact Gh.2 (.inl (O1 hb h))
   obtain⟨g,a,k⟩:=ID (fun t l F=>absurd (Lp u h) (by rw[F];exact (by decide:¬(1=2)))) h;obtain⟨t,id,v,n,l,L,_,_,J,G⟩:=NT k;have C:=O1 (BX:=BX) (f:=g) (fun i hi=>hb i (by rw[<-J];exact hi)) (a _ rfl);obtain⟨g2,k1,k2⟩:=ID (fun t l F=>absurd (Lp u h) (by rw[F];exact (by decide:¬(1=2)))) C;subst k2;exact Gh.2 (.inr ⟨u,k1 _ (G _ J)⟩)
  | value g=>
   simp only[D] at h ⊢
   split at h
   ·exact Vh hb h
   exact h.elim
  | invoke _ _=>simp only[D] at h
end
end Go.Abs
