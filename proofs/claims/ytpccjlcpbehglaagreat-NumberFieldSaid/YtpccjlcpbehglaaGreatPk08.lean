/- Part 9 of a proof. Conditions: each theorem's own. -/
import Derived.Test.YtpccjlcpbehglaaGreatPk07
set_option linter.all false
set_option maxHeartbeats 8000000
namespace Go.Abs
open Go.RowKit
section
theorem arith_split {op:BinOp} {k:IntKind} {a b:Int} {K:AC→Prop} (h:arith op k a b K):∃c,(∀K':AC→Prop,K' c→arith op k a b K')∧K c:=by
 unfold arith at h ⊢
 split at h
 case h_1=>obtain⟨h1,h2⟩:=h _ rfl;exact⟨_,fun K' hk c hc=>by subst hc;exact⟨h1,hk⟩,h2⟩
 case h_2=>obtain⟨h1,h2⟩:=h _ rfl;exact⟨_,fun K' hk c hc=>by subst hc;exact⟨h1,hk⟩,h2⟩
 case h_3=>obtain⟨h1,h2⟩:=h _ rfl;exact⟨_,fun K' hk c hc=>by subst hc;exact⟨h1,hk⟩,h2⟩
 case h_4=>obtain⟨h1,h2⟩:=h _ rfl;exact⟨_,fun K' hk c hc=>by subst hc;exact⟨h1,hk⟩,h2⟩
 case h_5=>obtain⟨h1,h2⟩:=h _ rfl;exact⟨_,fun K' hk c hc=>by subst hc;exact⟨h1,hk⟩,h2⟩
 all_goals first
  | exact⟨_,fun K' hk c hc=>by subst hc;exact hk,h _ rfl⟩
  | (obtain⟨h1,h2⟩:=h _ rfl;exact⟨_,fun K' hk c hc=>by subst hc;exact⟨h1,hk⟩,h2⟩)
theorem asliceB_split {len:Nat} {lo hi mx:Option AV} {K:Nat→Nat→Bool→Prop} (h:asliceB len lo hi mx K):∃a b c,(∀K':Nat→Nat→Bool→Prop,K' a b c→asliceB len lo hi mx K')∧K a b c:=by
 unfold asliceB at h ⊢
 split at h
 ·exact⟨_,_,_,fun K' hk c hc=>by subst hc;exact hk,h _ rfl⟩
 ·obtain⟨h1,h2⟩:=h;exact⟨_,_,_,fun K' hk=>⟨h1,fun l m hl=>by obtain⟨rfl,rfl⟩:=hl;exact hk⟩,h2 _ _ ⟨rfl,rfl⟩⟩
 ·obtain⟨h1,h2⟩:=h;exact⟨_,_,_,fun K' hk=>⟨h1,fun l hl=>by obtain rfl:=hl;exact hk⟩,h2 _ rfl⟩
 ·obtain⟨h1,h2⟩:=h;exact⟨_,_,_,fun K' hk=>⟨h1,fun l m hl=>by obtain⟨rfl,rfl⟩:=hl;exact hk⟩,h2 _ _ ⟨rfl,rfl⟩⟩
 ·obtain⟨h1,h2⟩:=h;exact⟨_,_,_,fun K' hk=>⟨h1,fun l hl=>by obtain rfl:=hl;exact hk⟩,h2 _ rfl⟩
 ·exact h.elim
theorem aslice_split {bk:Nat→Option Blk} {u:T} {x:AV} {lo hi mx:Option AV} {K:Eff→Prop} (h:aslice bk u x lo hi mx K):∃f,(∀K':Eff→Prop,K' f→aslice bk u x lo hi mx K')∧K f:=by
 unfold aslice at h ⊢
 split at h
 ·obtain⟨h1,h⟩:=h
  obtain⟨a,b,c,h2,h3⟩:=asliceB_split (h _ rfl)
  exact⟨_,fun K' hk=>⟨h1,fun n hn=>by subst hn;exact h2 _ fun l' hl'=>by subst hl';exact hk⟩,h3 _ rfl⟩
 ·obtain⟨h1,h⟩:=h
  split at h
  ·rename_i hv
   obtain⟨a,b,c,h2,h3⟩:=asliceB_split h
   have h3:=h3 _ _ ⟨rfl,rfl⟩
   cases c with
   | true=>exact⟨_,fun K' hk=>⟨h1,by rw[if_pos hv];exact h2 _ fun o n hl'=>by obtain⟨rfl,rfl⟩:=hl';exact hk⟩,h3⟩
   | false=>exact⟨_,fun K' hk=>⟨h1,by rw[if_pos hv];exact h2 _ fun o n hl'=>by obtain⟨rfl,rfl⟩:=hl';exact hk⟩,h3⟩
  ·exact h.elim
 ·obtain⟨a,b,c,h2,h3⟩:=asliceB_split h
  exact⟨_,fun K' hk=>h2 _ hk,h3⟩
 ·exact h.elim
theorem acall_split {E:Env} {g:FuncId} {args:List AV} {d:Nat} {bk:Nat→Option Blk} {K:Eff→Prop} (h:acall E g args d bk K):∃f,(∀K':Eff→Prop,K' f→acall E g args d bk K')∧K f:=by
 rcases h with⟨a,r,h1,h2,h⟩ |⟨a,r,h1,h2,h⟩ | h |⟨i,b,a,r,h1,h2,h⟩ |⟨i,b,a,r,h1,h2,h⟩
 ·exact⟨_,fun K' hk=> .inl ⟨a,r,h1,h2,hk⟩,h⟩
 ·exact⟨_,fun K' hk=> .inr (.inl ⟨a,r,h1,h2,hk⟩),h⟩
 rotate_left
 ·exact⟨_,fun K' hk=> .inr (.inr (.inr (.inl ⟨i,b,a,r,h1,h2,hk⟩))),h⟩
 ·exact⟨_,fun K' hk=> .inr (.inr (.inr (.inr ⟨i,b,a,r,h1,h2,hk⟩))),h⟩
 ·unfold acall
  split at h
  ·split at h
   ·rename_i hr
    split at h
    ·rename_i hb
     split at h
     ·rename_i hv
      obtain⟨a,r,b1,h1,h2,h⟩:=h
      exact⟨_,fun K' hk=> .inr (.inr (.inl (by simp only[hr,hb,if_pos hv];exact⟨a,r,b1,h1,h2,hk⟩))),h⟩
     ·exact h.elim
    ·exact h.elim
   ·exact h.elim
  ·exact h.elim
theorem T.beq_refl:∀t:T,T.beq t t=true
 | .u8=>rfl | .u32=>rfl | .u64=>rfl | .i8=>rfl | .i64=>rfl | .bool=>rfl
 | .sl t=>T.beq_refl t
 | .pr a b=>by simp only[T.beq,T.beq_refl a,T.beq_refl b,Bool.and_self]
theorem abuiltinS_iff {TI:TypeId→Info} {b:Builtin} {tys:List TypeId} {args:List AV} {d:Nat} {bk:Nat→Option Blk} {K:Eff→Prop}:
  abuiltinS TI b tys args d bk K↔abuiltin TI b tys args d bk K∨(b= .append∧abuiltin TI b tys args d bk (sealE K)):=by
 cases b <;> simp[abuiltinS]
theorem sealE_out {K:Eff→Prop} {g:Eff} (h:sealE K g):∃(t:T) (id v n:Nat) (l:List (el t)),g=⟨.one (.lsl t id v 0 n),[(id,.arr v t l)],g.rd⟩∧id≠0∧n=l.length∧K ⟨.one (.sl t l),[(id,.dead v)],g.rd⟩∧
  ∀K':Eff→Prop,K' ⟨.one (.sl t l),[(id,.dead v)],g.rd⟩→sealE K' g:=by
 obtain⟨gv,gw,gr⟩:=g
 unfold sealE at h
 split at h
 ·rename_i t id v off n i v' t' l h1 h2
  split at h
  ·rename_i hc
   simp only at h1 h2
   simp only[Bool.and_eq_true,bne_iff_ne,beq_iff_eq] at hc
   obtain⟨⟨⟨⟨c1,c2⟩,c3⟩,c4⟩,c5⟩:=hc
   have c5:=T.beq_eq c5
   subst c2 c3 c4 c5 h1 h2
   refine⟨t,id,v,n,l,rfl,c1,h.1 (),h.2,fun K' hk=>?_⟩
   unfold sealE
   simp only
   rw[if_pos (by simp[c1,T.beq_refl])]
   exact⟨h.1,hk⟩
  ·exact h.elim
 ·exact h.elim
theorem append_args {TI:TypeId→Info} {b:Builtin} {tys:List TypeId} {args:List AV} {d:Nat} {bk:Nat→Option Blk} {K:Eff→Prop} (hb:b= .append) (h:abuiltin TI b tys args d bk K):args.length=2:=by
 subst hb
 unfold abuiltin at h
 split at h <;> first | contradiction | exact h.elim | rfl
theorem append_id {TI:TypeId→Info} {b:Builtin} {tys:List TypeId} {args:List AV} {d:Nat} {bk:Nat→Option Blk} {g:Eff} (hb:b= .append) (h:abuiltin TI b tys args d bk (fun f=>f=g)) {id:Nat} {B:Blk} (hw:g.ws=[(id,B)]):
  id=d∨∃x,bk id=some x:=by
 subst hb
 unfold abuiltin at h
 split at h <;> first | contradiction | skip
 ·obtain⟨_,l2,_,h⟩:=h
  have:=h _ rfl
  subst this
  simp at hw
  exact .inl hw.1.symm
 ·obtain⟨_,h⟩:=h
  split at h
  ·rename_i hk
   split at h
   ·obtain⟨l2,_,h⟩:=h
    have:=h _ _ ⟨rfl,rfl⟩
    subst this
    simp at hw
    exact .inr ⟨_,hw.1 ▸ hk⟩
   ·exact h.elim
  ·exact h.elim
 ·obtain⟨_,h⟩:=h
  split at h
  ·rename_i hk
   split at h
   ·obtain⟨l2,_,h⟩:=h
    have:=h _ _ ⟨rfl,rfl⟩
    subst this
    simp at hw
    exact .inr ⟨_,hw.1 ▸ hk⟩
   ·exact h.elim
  ·exact h.elim
theorem abuiltin_split {TI:TypeId→Info} {b:Builtin} {tys:List TypeId} {args:List AV} {d:Nat} {bk:Nat→Option Blk} {K:Eff→Prop} (hlen:∀t l,args=[.one (.sl t l)]→l.length≤140737488355328) (h:abuiltin TI b tys args d bk K):
  ∃f,(∀K':Eff→Prop,K' f→abuiltin TI b tys args d bk K')∧K f:=by
 unfold abuiltin at h ⊢
 split at h
 ·exact⟨_,fun K' hk=>⟨h.1,fun n hn=>by obtain⟨rfl,_⟩:=hn;exact hk⟩,h.2 _ ⟨rfl,hlen _ _ rfl⟩⟩
 ·obtain⟨h1,h⟩:=h
  split at h
  ·rename_i hv
   exact⟨_,fun K' hk=>⟨h1,by rw[if_pos hv];intro n hn;obtain⟨rfl⟩:=hn;exact hk⟩,h _ ⟨rfl⟩⟩
  ·exact h.elim
 ·obtain⟨h1,h⟩:=h
  split at h
  ·rename_i hv
   exact⟨_,fun K' hk=>⟨h1,by rw[if_pos hv];intro n hn;obtain⟨rfl⟩:=hn;exact hk⟩,h _ ⟨rfl⟩⟩
  ·exact h.elim
 ·exact⟨_,fun K' hk=>⟨h.1,hk⟩,h.2⟩
 ·exact⟨_,fun K' hk=>⟨h.1,hk⟩,h.2⟩
 ·exact⟨_,fun K' hk c hc=>by subst hc;exact hk,h _ rfl⟩
 ·obtain⟨h1,l2,h2,h⟩:=h
  exact⟨_,fun K' hk=>⟨h1,l2,h2,fun n hn=>by subst hn;exact hk⟩,h _ rfl⟩
 ·obtain⟨h1,h⟩:=h
  split at h
  ·rename_i hb
   split at h
   ·rename_i hv
    obtain⟨l2,h2,h⟩:=h
    exact⟨_,fun K' hk=>⟨h1,by simp only[hb,if_pos hv];exact⟨l2,h2,fun l' n hn=>by obtain⟨rfl,rfl⟩:=hn;exact hk⟩⟩,h _ _ ⟨rfl,rfl⟩⟩
   ·exact h.elim
  ·exact h.elim
 ·obtain⟨h1,h⟩:=h
  split at h
  ·rename_i hb
   split at h
   ·rename_i hv
    obtain⟨l2,h2,h⟩:=h
    exact⟨_,fun K' hk=>⟨h1,by simp only[hb,if_pos hv];exact⟨l2,h2,fun l' n hn=>by obtain⟨rfl,rfl⟩:=hn;exact hk⟩⟩,h _ _ ⟨rfl,rfl⟩⟩
   ·exact h.elim
  ·exact h.elim
 ·exact h.elim
theorem aop_split {E:Env} {TI:TypeId→Info} {o:Oper} {d:Nat} {e:Operand→AV} {bk:Nat→Option Blk} {K:Eff→Prop} (hlen:∀x t l,e x= .one (.sl t l)→l.length≤140737488355328) (h:aop E TI o d e bk K):
  ∃f,(∀K':Eff→Prop,K' f→aop E TI o d e bk K')∧K f:=by
 unfold aop at h ⊢
 cases ho:o.op <;> simp only[ho] at h ⊢
 case move x=>exact⟨_,fun K' hk=>hk,h⟩
 case assign x=>exact⟨_,fun K' hk=>hk,h⟩
 case nilCheck x=>
  split at h
  ·rename_i he
   split at h
   ·rename_i hv
    rw[he] at h;exact⟨_,fun K' hk=>by rw[he];rw[if_pos hv];exact hk,h⟩
   ·exact h.elim
  ·rename_i he
   exact⟨_,fun K' hk=>hk,h⟩
  ·exact h.elim
 case pick c x y=>
  split at h
  ·rename_i he;exact⟨_,fun K' hk=>by (try simp only[he]);exact hk,h⟩
  ·rename_i he;exact⟨_,fun K' hk=>by (try simp only[he]);exact hk,h⟩
  ·exact h.elim
 case alloc t=>exact⟨_,fun K' hk=>⟨h.1,hk⟩,h.2⟩
 case box t x=>
  split at h
  ·exact h.elim
  ·exact h.elim
  ·rename_i v h1 h2
   exact⟨_,fun K' hk=>hk,h⟩
 case extract x i=>
  split at h
  ·rename_i he
   split at h
   ·rename_i hx
    exact⟨_,fun K' hk=>by (try simp only[he,hx]);exact hk,h⟩
   ·exact h.elim
  ·exact h.elim
 case load t x=>
  simp only[cellsK_iff] at h ⊢
  obtain⟨h1,h⟩:=h
  split at h
  ·rename_i he
   split at h
   ·rename_i hb
    split at h
    ·rename_i hv
     exact⟨_,fun K' hk=>⟨h1,by (try simp only[he,hb,if_pos hv]);exact hk⟩,h⟩
    ·exact h.elim
   ·exact h.elim
  ·rename_i he
   split at h
   ·rename_i hv
    exact⟨_,fun K' hk=>⟨h1,by (try simp only[he,if_pos hv]);exact hk⟩,h⟩
   ·exact h.elim
  ·rename_i he
   split at h
   ·rename_i hb
    split at h
    ·rename_i hv
     obtain⟨z,h2,h⟩:=h
     split at h
     ·rename_i hz
      exact⟨_,fun K' hk=>⟨h1,by (try simp only[he,hb,if_pos hv]);exact⟨z,h2,by simp only[if_pos hz];exact hk⟩⟩,h⟩
     ·exact h.elim
    ·exact h.elim
   ·exact h.elim
  ·exact h.elim
 case store t p x=>
  obtain⟨h1,h⟩:=h
  split at h
  ·rename_i he
   split at h
   ·exact h.elim
   ·exact h.elim
   ·rename_i n1 n2 hb
    split at h
    ·rename_i hv
     refine⟨_,fun K' hk=>⟨h1,?_⟩,h⟩
     rw[if_pos hv];exact hk
    ·exact h.elim
   ·exact h.elim
  ·rename_i he
   split at h
   ·exact h.elim
   ·exact h.elim
   ·rename_i n1 n2 hb
    split at h
    ·rename_i hv
     obtain⟨z,h2,h⟩:=h
     refine⟨_,fun K' hk=>⟨h1,?_⟩,h _ rfl⟩
     rw[if_pos hv]
     exact⟨z,h2,fun l' hl'=>by subst hl';exact hk⟩
    ·exact h.elim
   ·exact h.elim
  ·exact h.elim
 case fieldAddr t x i=>
  obtain⟨h1,h⟩:=h
  split at h
  ·rename_i hf he
   split at h
   ·rename_i hv
    exact⟨_,fun K' hk=>⟨h1,by (try simp only[hf,he,if_pos hv]);exact hk⟩,h⟩
   ·exact h.elim
  ·rename_i hf he
   exact⟨_,fun K' hk=>⟨h1,by (try simp only[hf,he]);exact hk⟩,h⟩
  ·rename_i hf he
   split at h
   ·rename_i hv
    exact⟨_,fun K' hk=>⟨h1,by (try simp only[hf,he,if_pos hv]);exact hk⟩,h⟩
   ·exact h.elim
  ·exact h.elim
 case field t x i=>
  obtain⟨h1,h⟩:=h
  split at h
  ·rename_i hf he
   split at h
   ·rename_i hv
    exact⟨_,fun K' hk=>⟨h1,by (try simp only[hf,he,if_pos hv]);exact hk⟩,h⟩
   ·exact h.elim
  ·exact h.elim
 case build t ps=>
  obtain⟨h1,h⟩:=h
  split at h
  ·rename_i he
   exact⟨_,fun K' hk=>⟨h1,by (try simp only[he]);exact hk⟩,h⟩
  ·exact h.elim
 case buildSlice t n ps=>
  obtain⟨h1,h2,xs,h3,h | h⟩:=h
  ·exact⟨_,fun K' hk=>⟨h1,h2,xs,h3,.inl hk⟩,h⟩
  ·exact⟨_,fun K' hk=>⟨h1,h2,xs,h3,.inr hk⟩,h⟩
 case makeSlice t x y=>
  obtain⟨h1,h⟩:=h
  split at h
  ·rename_i hx hy
   exact⟨_,fun K' hk=>⟨h1,by (try simp only[hx,hy]);exact⟨h.1,fun k z hz=>by obtain⟨rfl,rfl⟩:=hz;exact hk⟩⟩,h.2 _ _ ⟨rfl,rfl⟩⟩
  ·exact h.elim
 case indexAddr t x i=>
  obtain⟨h1,h⟩:=h
  split at h
  ·rename_i hx hy
   obtain⟨h2,z,h3,h⟩:=h
   exact⟨_,fun K' hk=>⟨h1,by (try simp only[hx,hy]);exact⟨h2,z,h3,hk⟩⟩,h⟩
  ·rename_i hx hy
   obtain⟨h2,h⟩:=h
   split at h
   ·rename_i hv
    exact⟨_,fun K' hk=>⟨h1,by (try simp only[hx,hy]);exact⟨h2,by rw[if_pos hv];exact⟨h.1,fun j hj=>by subst hj;exact hk⟩⟩⟩,h.2 _ rfl⟩
   ·exact h.elim
  ·exact h.elim
 case slice t x lo hi mx=>
  obtain⟨h1,h⟩:=h
  obtain⟨f,h2,h3⟩:=aslice_split h
  exact⟨f,fun K' hk=>⟨h1,h2 _ hk⟩,h3⟩
 case binOp op t x y t'=>
  split at h
  ·rename_i hx hy
   split at h
   ·rename_i hk'
    obtain⟨c,h2,h3⟩:=arith_split h
    exact⟨_,fun K' hk=>by (try simp only[hx,hy,if_pos hk']);exact h2 _ hk,h3⟩
   ·exact h.elim
  ·rename_i hx hy
   obtain⟨h1,h⟩:=h
   cases op <;> simp only at h
   all_goals first
    | exact h.elim
    | exact⟨_,fun K' hk=>by (try simp only[hx,hy]);exact⟨h1,fun c hc=>hc ▸ hk⟩,h _ rfl⟩
  ·rename_i hx hy
   obtain⟨h1,h⟩:=h
   cases op <;> simp only at h
   all_goals first
    | exact h.elim
    | exact⟨_,fun K' hk=>by (try simp only[hx,hy]);exact⟨h1,fun c hc=>hc ▸ hk⟩,h _ rfl⟩
  ·exact h.elim
 case unOp op t x=>
  split at h
  ·rename_i hx
   exact⟨_,fun K' hk=>by (try simp only[hx]);intro c hc;subst hc;exact hk,h _ rfl⟩
  ·rename_i hx
   obtain⟨c,h2,h3⟩:=arith_split h
   exact⟨_,fun K' hk=>by (try simp only[hx]);exact h2 _ hk,h3⟩
  ·exact h.elim
 case convert src dst x=>
  obtain⟨h1,h⟩:=h
  split at h
  ·rename_i hx hy
   exact⟨_,fun K' hk=>⟨h1,by (try simp only[hx,hy]);intro c hc;subst hc;exact hk⟩,h _ rfl⟩
  ·exact h.elim
 case call c=>
  cases hc:c.callee with
  | builtin b=>
   simp only[hc] at h ⊢
   have hlen1:∀t l,c.args.toList.map e=[.one (.sl t l)]→l.length≤140737488355328:=by
    intro t l hl
    generalize c.args.toList=L at hl
    match L,hl with
    | [x],hl=>exact hlen x t l (by simpa using hl)
    | [],hl=>simp at hl
    | _::_::_,hl=>simp at hl
   rcases abuiltinS_iff.1 h with h |⟨hb,h⟩
   ·obtain⟨g,h1,h2⟩:=abuiltin_split hlen1 h
    exact⟨g,fun K' hk=>abuiltinS_iff.2 (.inl (h1 K' hk)),h2⟩
   ·obtain⟨g,h1,h2⟩:=abuiltin_split hlen1 h
    obtain⟨t,id,v,n,l,hg,_,_,hK,hmk⟩:=sealE_out h2
    exact⟨_,fun K' hk=>abuiltinS_iff.2 (.inr ⟨hb,h1 _ (hmk K' hk)⟩),hK⟩
  | value f=>
   simp only[hc] at h ⊢
   split at h
   ·rename_i he
    obtain⟨f,h2,h3⟩:=acall_split h
    exact⟨f,fun K' hk=>by (try simp only[he]);exact h2 _ hk,h3⟩
   ·exact h.elim
  | invoke _ _=>simp only[hc] at h
end
end Go.Abs
namespace Go.Abs
open Go.RowKit
section
theorem fillC_congr {pl:List (Nat×Nat×Bool)} {e e':Operand→AV}:∀{ps:List (Nat×Operand)} {cs:List AC},(∀p∈ps,e p.2=e' p.2)→fillC pl e ps cs=fillC pl e' ps cs
 | [],_,_=>rfl
 | (i,x)::r,cs,h=>by
  have h1:=h (i,x) (by simp)
  simp only at h1
  have ih:∀cs,fillC pl e r cs=fillC pl e' r cs:=fun cs=>fillC_congr fun p hp=>h p (by simp[hp])
  simp only[fillC,h1,ih]
theorem aop_e {E:Env} {TI:TypeId→Info} {o:Oper} {d:Nat} {e e':Operand→AV} {bk:Nat→Option Blk} {K:Eff→Prop} (he:∀x∈o.op.operands,e x=e' x) (h:aop E TI o d e bk K):aop E TI o d e' bk K:=by
 unfold aop at h ⊢
 cases ho:o.op <;> simp only[ho] at h ⊢ <;> (try exact h.elim) <;> rw[ho] at he <;> simp only[Op.operands] at he
 case move x=>rw[←he x (by simp)];exact h
 case assign x=>rw[←he x (by simp)];exact h
 case nilCheck x=>rw[←he x (by simp)];exact h
 case pick c x y=>rw[←he x (by simp),←he y (by simp),←he c (by simp)];exact h
 case alloc t=>exact h
 case box t x=>rw[←he x (by simp)];exact h
 case extract x i=>rw[←he x (by simp)];exact h
 case load t x=>rw[←he x (by simp)];exact h
 case store t p x=>rw[←he x (by simp),←he p (by simp)];exact h
 case fieldAddr t x i=>rw[←he x (by simp)];exact h
 case field t x i=>rw[←he x (by simp)];exact h
 case build t ps=>
  rw[←fillC_congr (e:=e) (e':=e') (fun p hp=>he p.2 (by simpa using ⟨p.1,Array.mem_toList_iff.1 hp⟩))];exact h
 case buildSlice t n ps=>
  obtain⟨h1,h2,xs,h3,h⟩:=h
  refine⟨h1,h2,xs,fun u=>?_,h⟩
  obtain⟨g1,g2,g3,g4⟩:=h3 u
  have hp:∀p∈ps.toList,e p.2=e' p.2:=fun p hp=>he p.2 (by simpa using ⟨p.1,Array.mem_toList_iff.1 hp⟩)
  refine⟨g1,g2,?_,?_⟩
  ·rw[List.all_eq_true] at g3 ⊢;intro p hp';rw[←hp p hp'];exact g3 p hp'
  ·rw[←List.map_congr_left (f:=fun p=>(p.1,(e p.2).cs)) (fun p hp'=>by rw[hp p hp'])];exact g4
 case makeSlice t x y=>rw[←he x (by simp),←he y (by simp)];exact h
 case indexAddr t x i=>rw[←he x (by simp),←he i (by simp)];exact h
 case slice t x lo hi mx=>
  have h1:∀y:Option Operand,(∀z,y=some z→e z=e' z)→y.map e=y.map e':=fun y hy=>by cases y <;> simp;exact hy _ rfl
  rw[←he x (by simp),←h1 lo (fun z hz=>he z (by simp[hz])),←h1 hi (fun z hz=>he z (by simp[hz])),←h1 mx (fun z hz=>he z (by simp[hz]))];exact h
 case binOp op t x y t'=>rw[←he x (by simp),←he y (by simp)];exact h
 case unOp op t x=>rw[←he x (by simp)];exact h
 case convert src dst x=>rw[←he x (by simp)];exact h
 case call c=>
  have hargs:c.args.toList.map e=c.args.toList.map e':=List.map_congr_left fun x hx=>he x (by simp[Call.operands];exact .inr (by simpa using hx))
  cases hc:c.callee with
  | builtin b=>simp only[hc] at h ⊢;rw[←hargs];exact h
  | value f=>
   simp only[hc] at h ⊢
   rw[←hargs,←he f (by simp[Call.operands,hc])];exact h
  | invoke _ _=>simp only[hc] at h
theorem ver_congr {bk bk':Nat→Option Blk} {id:Nat} (h:bk id=bk' id):ver bk id=ver bk' id:=by simp[ver,h]
theorem snapC_congr {bk bk':Nat→Option Blk} {c d:AC} (h:∀id∈idsC c,bk id=bk' id) (hs:snapC bk c d):snapC bk' c d:=by
 cases c <;> first | exact hs | skip
 case lsl t id v off len=>obtain⟨l,h1,h2⟩:=hs;exact⟨l,(h id (by simp[idsC])) ▸ h1,h2⟩
theorem allC_snap {bk bk':Nat→Option Blk}:∀{l m:List AC},(∀id∈l.flatMap idsC,bk id=bk' id)→allC (snapC bk) l m→allC (snapC bk') l m
 | [],[],_,h=>h
 | c::l,_::_,hi,h=>⟨snapC_congr (fun id hid=>hi id (by simp[hid])) h.1,allC_snap (fun id hid=>hi id (by rw[List.flatMap_cons];exact List.mem_append_right _ hid)) h.2⟩
 | [],_::_,_,h=>h
 | _::_,[],_,h=>h
theorem allV_snap {bk bk':Nat→Option Blk}:∀{l m:List AV},(∀id∈idsV l,bk id=bk' id)→allV (snapC bk) l m→allV (snapC bk') l m
 | [],[],_,h=>h
 | .one c::l,.one _::_,hi,h=>⟨snapC_congr (fun id hid=>hi id (by simp[idsV,hid])) h.1,allV_snap (fun id hid=>hi id (by simp[idsV,hid])) h.2⟩
 | .agg cs::l,.agg _::_,hi,h=>⟨allC_snap (fun id hid=>hi id (by rw[idsV];exact List.mem_append_left _ hid)) h.1,allV_snap (fun id hid=>hi id (by rw[idsV];exact List.mem_append_right _ hid)) h.2⟩
 | .tup _::_,.tup _::_,_,h=>h.1.elim
 | .one _::_,.agg _::_,_,h=>h.1.elim
 | .one _::_,.tup _::_,_,h=>h.1.elim
 | .agg _::_,.one _::_,_,h=>h.1.elim
 | .agg _::_,.tup _::_,_,h=>h.1.elim
 | .tup _::_,.one _::_,_,h=>h.1.elim
 | .tup _::_,.agg _::_,_,h=>h.1.elim
 | [],_::_,_,h=>h
 | _::_,[],_,h=>h
theorem acall_bk {E:Env} {g:FuncId} {args:List AV} {d:Nat} {bk bk':Nat→Option Blk} {f:Eff} (hb:∀id∈f.rd,bk id=bk' id) (h:acall E g args d bk (fun g=>g=f)):acall E g args d bk' (fun g=>g=f):=by
 rcases h with⟨a,r,h1,h2,h⟩ |⟨a,r,h1,h2,h⟩ | h |⟨i,b,a,r,h1,h2,h⟩ |⟨i,b,a,r,h1,h2,h⟩
 rotate_left 3
 ·subst h
  exact .inr (.inr (.inr (.inl ⟨i,b,a,r,fun u=>⟨(hb i (by simp)).symm.trans (h1 u).1,(h1 u).2⟩,h2,rfl⟩)))
 ·subst h
  refine .inr (.inr (.inr (.inr ⟨i,b,a,r,fun u=>?_,h2,rfl⟩)))
  obtain⟨⟨g1,g2,g3⟩,g4⟩:=h1 u
  refine⟨⟨g1,(hb i (by simp)).symm.trans g2,g3⟩,allV_snap (fun id hid=>hb id ?_) g4⟩
  have:=List.all_eq_true.1 g3 id hid
  simp at this
  simp[this]
 ·subst h
  exact .inl ⟨a,r,h1,h2,by rw[ver_congr (hb d (by simp))]⟩
 ·subst h
  exact .inr (.inl ⟨a,r,fun u=>allV_snap (fun id hid=>hb id (by simp[hid])) (h1 u),h2,by rw[ver_congr (hb d (by simp))]⟩)
 ·unfold acall
  split at h
  ·split at h
   ·rename_i hr
    split at h
    ·rename_i hk
     split at h
     ·rename_i hv
      obtain⟨a,r,b1,h1,h2,h⟩:=h
      subst h
      refine .inr (.inr (.inl ?_))
      have:=hb _ (List.mem_cons_self ..)
      rw[hk] at this
      simp only[←this,if_pos hv]
      exact⟨a,r,b1,fun u=>⟨(h1 u).1,allV_snap (fun id hid=>hb id (by simp[hid])) (h1 u).2⟩,h2,rfl⟩
     ·exact h.elim
    ·exact h.elim
   ·exact h.elim
  ·exact h.elim
theorem aslice_bk {u:T} {x:AV} {lo hi mx:Option AV} {bk bk':Nat→Option Blk} {f:Eff} (hb:∀id∈f.rd,bk id=bk' id) (h:aslice bk u x lo hi mx (fun g=>g=f)):aslice bk' u x lo hi mx (fun g=>g=f):=by
 unfold aslice at h ⊢
 split at h
 ·exact h
 ·obtain⟨h1,h⟩:=h
  refine⟨h1,?_⟩
  split at h
  ·rename_i hv
   obtain⟨a,b,c,h2,h3⟩:=asliceB_split h
   have h3:=h3 _ _ ⟨rfl,rfl⟩
   cases c <;> subst h3 <;> rw[if_pos ((ver_congr (hb _ (List.mem_singleton.2 rfl))).symm.trans hv)] <;> exact h
  ·exact h.elim
 ·exact h
 ·exact h.elim
theorem abuiltin_bk {TI:TypeId→Info} {b:Builtin} {tys:List TypeId} {args:List AV} {d:Nat} {bk bk':Nat→Option Blk} {f:Eff} (hb:∀id∈f.rd,bk id=bk' id) (h:abuiltin TI b tys args d bk (fun g=>g=f)):abuiltin TI b tys args d bk' (fun g=>g=f):=by
 unfold abuiltin at h ⊢
 split at h
 ·exact h
 ·obtain⟨h1,h⟩:=h
  split at h
  ·rename_i hv
   have h3:=h _ ⟨rfl⟩
   subst h3
   exact⟨h1,by rw[if_pos ((ver_congr (hb _ (List.mem_singleton.2 rfl))).symm.trans hv)];exact h⟩
  ·exact h.elim
 ·obtain⟨h1,h⟩:=h
  split at h
  ·rename_i hv
   have h3:=h _ ⟨rfl⟩
   subst h3
   exact⟨h1,by rw[if_pos ((ver_congr (hb _ (List.mem_singleton.2 rfl))).symm.trans hv)];exact h⟩
  ·exact h.elim
 ·exact h
 ·exact h
 ·exact h
 ·obtain⟨h1,l2,h2,h⟩:=h
  have h3:=h _ rfl
  subst h3
  refine⟨h1,l2,fun u=>⟨snapC_congr (fun id hid=>hb id (by simp[hid])) (h2 u).1,(h2 u).2⟩,?_⟩
  rw[←ver_congr (hb d (by simp))]
  exact h
 ·obtain⟨h1,h⟩:=h
  refine⟨h1,?_⟩
  split at h
  ·rename_i hk
   split at h
   ·rename_i hv
    obtain⟨l2,h2,h⟩:=h
    have h3:=h _ _ ⟨rfl,rfl⟩
    subst h3
    have:=hb _ (List.mem_cons_self ..)
    rw[hk] at this
    simp only[←this,if_pos hv]
    exact⟨l2,fun u=>⟨(h2 u).1,(h2 u).2.1,snapC_congr (fun id hid=>hb id (by simp[hid])) (h2 u).2.2.1,(h2 u).2.2.2⟩,h⟩
   ·exact h.elim
  ·exact h.elim
 ·obtain⟨h1,h⟩:=h
  refine⟨h1,?_⟩
  split at h
  ·rename_i hk
   split at h
   ·rename_i hv
    obtain⟨l2,h2,h⟩:=h
    have h3:=h _ _ ⟨rfl,rfl⟩
    subst h3
    have:=hb _ (List.mem_cons_self ..)
    rw[hk] at this
    simp only[←this,if_pos hv]
    exact⟨l2,fun u=>⟨(h2 u).1,(h2 u).2.1,snapC_congr (fun id hid=>hb id (by simp[hid])) (h2 u).2.2.1,(h2 u).2.2.2⟩,h⟩
   ·exact h.elim
  ·exact h.elim
 ·exact h.elim
theorem aop_bk {E:Env} {TI:TypeId→Info} {o:Oper} {d:Nat} {e:Operand→AV} {bk bk':Nat→Option Blk} {f:Eff} (hb:∀id∈f.rd,bk id=bk' id) (h:aop E TI o d e bk (fun g=>g=f)):aop E TI o d e bk' (fun g=>g=f):=by
 have hv1:∀{id v:Nat},ver bk id=v→id∈f.rd→ver bk' id=v:=fun h1 h2=>(ver_congr (hb _ h2)).symm.trans h1
 have hb1:∀{id:Nat} {b:Blk},bk id=some b→id∈f.rd→bk' id=some b:=fun h1 h2=>(hb _ h2).symm.trans h1
 unfold aop at h ⊢
 cases ho:o.op <;> simp only[ho] at h ⊢ <;> (try exact h)
 case nilCheck x=>
  split at h
  ·split at h
   ·rename_i hv
    rw[if_pos (hv1 hv (by rw[←h];simp))];exact h
   ·exact h.elim
  ·exact h
  ·exact h.elim
 case alloc t=>rw[←ver_congr (hb d (by rw[←h.2];simp))];exact h
 case box t x=>
  split at h
  ·exact h.elim
  ·exact h.elim
  ·rw[←ver_congr (hb d (by rw[←h];simp))];exact h
 case load t x=>
  simp only[cellsK_iff] at h ⊢
  obtain⟨h1,h⟩:=h
  refine⟨h1,?_⟩
  split at h
  ·split at h
   ·rename_i hk
    split at h
    ·rename_i hv
     simp only[hb1 hk (by rw[←h];simp),if_pos hv];exact h
    ·exact h.elim
   ·exact h.elim
  ·exact h
  ·split at h
   ·rename_i hk
    split at h
    ·rename_i hv
     have h':=h
     obtain⟨z,h2,h⟩:=h
     split at h
     ·simp only[hb1 hk (by rw[←h];simp),if_pos hv];exact h'
     ·exact h.elim
    ·exact h.elim
   ·exact h.elim
  ·exact h.elim
 case store t p x=>
  obtain⟨h1,h⟩:=h
  refine⟨h1,?_⟩
  split at h
  ·split at h
   ·exact h.elim
   ·exact h.elim
   ·rename_i hk n1 n2
    split at h
    ·rename_i hv
     rw[hb1 hk (by rw[←h];simp)]
     split
     ·rename_i hx;exact (n1 _ hx).elim
     ·rename_i hx;exact (n2 hx).elim
     ·rename_i hk' _ _;cases Option.some.inj hk';rw[if_pos hv];exact h
     ·rename_i p q r;first | exact (p _ _ rfl).elim | exact (q _ _ rfl).elim | exact (r _ _ rfl).elim
    ·exact h.elim
   ·exact h.elim
  ·split at h
   ·exact h.elim
   ·exact h.elim
   ·rename_i hk n1 n2
    split at h
    ·rename_i hv
     have h':=h
     obtain⟨z,h2,h⟩:=h
     rw[hb1 hk (by rw[←h _ rfl];simp)]
     split
     ·rename_i hx;exact (n1 _ hx).elim
     ·rename_i hx;exact (n2 hx).elim
     ·rename_i hk' _ _;cases Option.some.inj hk';rw[if_pos hv];exact h'
     ·rename_i p q r;first | exact (p _ _ _ rfl).elim | exact (q _ _ _ rfl).elim | exact (r _ _ _ rfl).elim
    ·exact h.elim
   ·exact h.elim
  ·exact h.elim
 case fieldAddr t x i=>
  obtain⟨h1,h⟩:=h
  refine⟨h1,?_⟩
  split at h
  ·split at h
   ·rename_i hv;rw[if_pos (hv1 hv (by rw[←h];simp))];exact h
   ·exact h.elim
  ·exact h
  ·split at h
   ·rename_i hv;rw[if_pos (hv1 hv (by rw[←h];simp))];exact h
   ·exact h.elim
  ·exact h.elim
 case buildSlice t n ps=>
  obtain⟨h1,h2,xs,h3,h | h⟩:=h
  ·rw[←ver_congr (hb d (by rw[←h];simp))];exact⟨h1,h2,xs,h3,.inl h⟩
  ·exact⟨h1,h2,xs,h3,.inr h⟩
 case makeSlice t x y=>
  obtain⟨h1,h⟩:=h
  refine⟨h1,?_⟩
  split at h
  ·rw[←ver_congr (hb d (by rw[←h.2 _ _ ⟨rfl,rfl⟩];simp))];exact h
  ·exact h.elim
 case indexAddr t x i=>
  obtain⟨h1,h⟩:=h
  refine⟨h1,?_⟩
  split at h
  ·exact h
  ·obtain⟨h2,h⟩:=h
   split at h
   ·rename_i hv;exact⟨h2,by rw[if_pos (hv1 hv (by rw[←h.2 _ rfl];simp))];exact h⟩
   ·exact h.elim
  ·exact h.elim
 case slice t x lo hi mx=>exact⟨h.1,aslice_bk hb h.2⟩
 case call c=>
  cases hc:c.callee with
  | builtin b=>
   simp only[hc] at h ⊢
   rcases abuiltinS_iff.1 h with h |⟨hb',h⟩
   ·exact abuiltinS_iff.2 (.inl (abuiltin_bk hb h))
   ·obtain⟨g,h1,h2⟩:=abuiltin_split (fun t l hl=>absurd (append_args hb' h) (by rw[hl];exact (by decide:¬(1=2)))) h
    obtain⟨t,id,v,n,l,hg,_,_,hK,hmk⟩:=sealE_out h2
    have h3:=abuiltin_bk (bk':=bk') (f:=g) (fun i hi=>hb i (by rw[←hK];exact hi)) (h1 _ rfl)
    obtain⟨g2,k1,k2⟩:=abuiltin_split (fun t l hl=>absurd (append_args hb' h) (by rw[hl];exact (by decide:¬(1=2)))) h3
    subst k2
    exact abuiltinS_iff.2 (.inr ⟨hb',k1 _ (hmk _ hK)⟩)
  | value g=>
   simp only[hc] at h ⊢
   split at h
   ·exact acall_bk hb h
   ·exact h.elim
  | invoke _ _=>simp only[hc] at h
end
end Go.Abs
