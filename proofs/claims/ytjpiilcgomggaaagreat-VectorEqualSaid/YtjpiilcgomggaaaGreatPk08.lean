/- Part 9 of a proof. Conditions: each theorem's own. -/
import Derived.Orders
import Derived.Test.YtjpiilcgomggaaaGreatPk07
set_option linter.all false
set_option maxHeartbeats 8000000
namespace Go.Abs
open Go.RowKit
def Jr (o:Oper):Bool:=
 match o.op with
 |.alloc _|.box _ _|.makeSlice _ _ _|.buildSlice _ _ _=>o.dst.isSome
 | .call c=>match c.callee with
  | .builtin _=>o.dst.isSome
  | _=>true
 | _=>true
section
variable {P:Program} {TI:TypeId->Info}
theorem Aw.Yx {w0:World} {X:WX} {β:Nat->Option Nat} {s:St} {a:Act} {w:World} {q id v:Nat} {t:T} {l:List (el t)} {rd J:List Nat}
  (S:Aw w0 X β (s.app (some q) ⟨.one (.AL t id v 0 l.length),[(id,.arr v t l)],rd⟩) a w) (f:id<s.bk.length) (Q:id≠0):
  Aw w0 X β (s.app (some q) ⟨.one (.sl t l),[(id,.dead v)],J⟩) a w:=by
 have r:∀k,AD (Aj s.bk id (some (.arr v t l))) k=if k=id then some (.arr v t l) else AD s.bk k:=fun k=>by
  rw[Er];by_cases h:k=id <;> simp[h,f]
 have x:∀k,AD (Aj s.bk id (some (.dead v))) k=if k=id then some (.dead v) else AD s.bk k:=fun k=>by
  rw[Er];by_cases h:k=id <;> simp[h,f]
 have n:∀k,AM (AD (Aj s.bk id (some (.dead v)))) k=AM (AD (Aj s.bk id (some (.arr v t l)))) k:=fun k=>by
  rw[Dm _ _ _ f,Dm _ _ _ f];rfl
 have g:∀k,live (AD (Aj s.bk id (some (.dead v)))) k->live (AD (Aj s.bk id (some (.arr v t l)))) k/\k≠id:=fun k d=>by
  rw[FF _ _ _ f] at d
  by_cases h:k=id
  ·rw[if_pos h] at d;simp[AH.live] at d
  rw[if_neg h] at d;exact⟨by rw[FF _ _ _ f,if_neg h];exact d,h⟩
 have z:live (AD (Aj s.bk id (some (.arr v t l)))) id:=by rw[FF _ _ _ f,if_pos rfl];rfl
 have hle:(cx X w β (AD (Aj s.bk id (some (.arr v t l))))).le (cx X w β (AD (Aj s.bk id (some (.dead v))))):=
  ⟨fun k=>Nat.le_of_eq (n k).symm,fun _ _=>rfl,fun k b arr e _ _ U=>⟨arr,U,rfl⟩,fun b p=>⟨⟨⟨p.1.1,fun k d=>p.1.2 k (g k d).1⟩,p.2⟩,rfl⟩⟩
 have D:∀b o,w.heap[b]? =some o->b<w.heap.size:=fun b o h=>by
  rcases Nat.lt_or_ge b w.heap.size with h' | h'
  ·exact h'
  simp[Array.getElem?_eq_none h'] at h
 refine⟨S.defers,by have:=S.len;simpa [St.app,Di,ET] using this,by have:=S.Fa;simpa [St.app,Bq,ET] using this,fun i=>?_,fun k b d=>?_,fun k k' b d c p B=>S.inj k k' b (g k d).1 (g k' c).1 p B,
  fun k b d p=>S.own k b (g k d).1 p,S.os,S.tape,S.output,S.size,S.block,fun k b d=>?_,S.fresh,fun V Z=>?_⟩
 ·have Y:=S.BS i
  show At _ (nth (Aj s.sl q (.one (.sl t l))) i) _
  have m:At (cx X w β (AD (Aj s.bk id (some (.arr v t l))))) (nth (Aj s.sl q (.one (.AL t id v 0 l.length))) i) (a.tmps.getD i undef):=Y;rw[Gn] at m ⊢
  by_cases h:i=q/\q<s.sl.length
  ·rw[if_pos h] at m ⊢;have R:=A0 m (by simp)
   have G:v=(cx X w β (AD (Aj s.bk id (some (.arr v t l))))).cv id:=by
    show v=AM _ id
    rw[Dm _ _ _ f,if_pos rfl];rfl
   obtain⟨base,cap,hu,g1,g2,O⟩:=KO R G;refine .inr ?_
   show rep w _ (.sl t) l [_]
   have F:l.length<=140737488355328:=S.lens id (.arr v t l) (by show AD (Aj s.bk id (some (.arr v t l))) id=_;rw[r,if_pos rfl]);refine⟨base,cap,by rw[hu],g1,F,?_⟩
   by_cases u:l=[]
   ·exact .inl u
   right
   have W:0<l.length:=List.length_pos_iff.2 u;rcases O with rfl |⟨b,arr,e,H,N,q3,q4⟩
   ·omega
   rcases S.blocks id (.arr v t l) (by show AD (Aj s.bk id (some (.arr v t l))) id=_;rw[r,if_pos rfl]) with⟨L,M⟩ |⟨b',K,e',L,M,p3⟩
   ·exact absurd M u
   obtain rfl:b'=b:=Option.some.inj (L.symm.trans H);rw[Nat.zero_mul] at N
   have hA:X.A b':=by
    rcases S.own id b' z H with h | h
    ·exact S.fresh b' h
    exact absurd h.2 Q
   refine⟨b',0,N,⟨⟨D _ _ q3,fun k d e=>(g k d).2 (S.inj k id b' (g k d).1 z e H)⟩,hA⟩,fun j y hy=>?_⟩;obtain⟨us,k1,k2⟩:=p3 j y hy;exact⟨us,Bi hle.I _ _ _ k1,by rw[Nat.zero_add];exact k2⟩
  rw[if_neg h] at m ⊢;exact At.mono hle m
 ·have c:AD (Aj s.bk id (some (.dead v))) k=some b:=d;rw[x] at c
  by_cases h:k=id
  ·rw[if_pos h] at c;cases Option.some.inj c
   trivial
  rw[if_neg h] at c;have p:AD (Aj s.bk id (some (.arr v t l))) k=some b:=by rw[r,if_neg h];exact c
  exact Bx.mono hle (n k) (fun _ _=>rfl) (S.blocks k b p)
 ·have c:AD (Aj s.bk id (some (.dead v))) k=some b:=d;rw[x] at c
  by_cases h:k=id
  ·rw[if_pos h] at c;cases Option.some.inj c
   trivial
  rw[if_neg h] at c;exact S.lens k b (by show AD (Aj s.bk id (some (.arr v t l))) k=_;rw[r,if_neg h];exact c)
 have C:=g 0 V;exact S.HV C.1 ((n 0).symm.trans Z)
theorem ZH (hT:∀t,Ce P t (TI t)) {o:Oper} {c:Call} {b:Builtin} (u:o.op= .call c) (p:c.callee= .builtin b) (r:o.dst≠none):Sound P (env P) TI o:=by
 intro w0 X β s a w S f h N Q m;simp only[BP,u,p] at h;rcases Gf.1 h with h |⟨D,h⟩
 ·exact Ss hT u p r S h m
 obtain⟨g,C,I⟩:=IE (fun t l M=>absurd (Ln D h) (by rw[M];exact (by decide:¬(1=2)))) h;obtain⟨t,id,v,n,l,F,H,O,J,_⟩:=NP I;subst O;obtain⟨q,y⟩:=Option.ne_none_iff_exists'.1 r;rw[y] at m;refine Ss hT u p r S (C _ rfl) (fun A G w' j=>m A G w' ?_);rw[y,F] at j;rw[<-J]
 by_cases i:id<s.bk.length
 ·exact j.Yx i H
 have d:s.bk.length<=id:=Nat.le_of_not_lt i;have K:Ax o=q:=by simp[Ax,y]
 rcases Vm D (C _ rfl) (by rw[F]) with e |⟨x,hx⟩
 ·have z:s.sl.length<=q:=by
   have k:=S.len;have R:=S.Fa;omega
  have k:∀(f:A5) (B:AH),f.ws=[(id,B)]->s.app (some q) f=s:=fun f B L=>by
   unfold St.app;rw[L];simp only[Di,Bq,Fo _ _ _ z,Fo _ _ _ d]
  rw[k _ _ rfl] at j;rw[k _ _ rfl];exact j
 rw[GL _ _ d] at hx;cases hx
theorem NX (hT:∀t,Ce P t (TI t)) (o:Oper) (j:Jr o=true):Sound P (env P) TI o:=by
 unfold Jr at j;have k:o.dst.isSome=true->o.dst≠none:=fun h e=>by simp[e] at h
 cases g:o.op <;> simp only[g] at j
 case move x=>(intro w0 X β s a w S f h N Q d;exact ZP g S h d)
 case assign x=>(intro w0 X β s a w S f h N Q d;exact ZC g S h d)
 case nilCheck x=>(intro w0 X β s a w S f h N Q d;exact ZQ g S h d)
 case pick c x y=>(intro w0 X β s a w S f h N Q d;exact ZR g S h d)
 case alloc t=>(intro w0 X β s a w S f h N Q d;exact ZB hT g (k j) S h d)
 case box t x=>(intro w0 X β s a w S f h N Q d;exact ZE g (k j) S h d)
 case extract x i=>(intro w0 X β s a w S f h N Q d;exact ZJ g S h d)
 case load t x=>(intro w0 X β s a w S f h N Q d;exact ZN hT g S h d)
 case store t p x=>(intro w0 X β s a w S f h N Q d;exact ZT hT g S h d)
 case fieldAddr t x i=>(intro w0 X β s a w S f h N Q d;exact ZL hT g S h d)
 case field t x i=>(intro w0 X β s a w S f h N Q d;exact ZK hT g S h d)
 case build t ps=>(intro w0 X β s a w S f h N Q d;exact ZF hT g S h d)
 case buildSlice t n ps=>(intro w0 X β s a w S f h N Q d;exact ZG hT g (k j) S h d)
 case makeSlice t x y=>(intro w0 X β s a w S f h N Q d;exact ZO hT g (k j) S h d)
 case indexAddr t x i=>(intro w0 X β s a w S f h N Q d;exact ZM hT g S h d)
 case slice t x lo hi mx=>(intro w0 X β s a w S f h N Q d;exact ZS hT g S h d)
 case binOp op t x y t'=>(intro w0 X β s a w S f h N Q d;exact ZD hT g S h d)
 case unOp op t x=>(intro w0 X β s a w S f h N Q d;exact ZU g S h d)
 case convert src dst x=>(intro w0 X β s a w S f h N Q d;exact ZI hT g S h d)
 case call c=>
  cases l:c.callee with
  | builtin b=>simp only[l] at j;(intro w0 X β s a w S f h N Q d;exact ZH hT g l (k j) S h d)
  | value f=>(intro w0 X β s a w S f h N Q d;exact ZA o g l S h d)
  | invoke _ _=>intro w0 X β s a w S f h N Q d;simp only[BP,g,l] at h
 all_goals (intro w0 X β s a w S f h N Q d;simp only[BP,g] at h)
end
section
variable {P:Program} {E:Env} {TI:TypeId->Info}
def DT (E:Env) (TI:TypeId->Info) (all:List Oper) (o:Oper) (f:A5) (s:St):Prop:=
 match o.guard with
 | none=>BP E TI o (Ax o) (ev s.sl) (AD s.bk) (fun g=>g=f)
 | some (j,w)=>∃g,KB all j=some g/\
  ((nth s.sl g= .one (.bool w)/\BP E TI o (Ax o) (ev s.sl) (AD s.bk) (fun g=>g=f))\/
    ((nth s.sl g= .one (.bool (!w))\/nth s.sl g= .AG [])/\f=⟨.AG [],[],[]⟩))
def chain (E:Env) (TI:TypeId->Info) (all:List Oper):List Oper->List A5->St->Prop
 | [],[],_=>True
 | o::r,f::fs,s=>DT E TI all o f s/\chain E TI all r fs (s.app o.dst f)
 | _,_,_=>False
def fin:List Oper->List A5->St->St
 | o::r,f::fs,s=>fin r fs (s.app o.dst f)
 | _,_,s=>s
def Hy (f:A5):List Nat×List Nat:=(f.rd,f.ws.map (·.1))
theorem aD {o:Oper} {a:Act} {w:World} {N:Act->World->Prop} (h:o.wp P a w N (fun _ _ _=>False)):∃b w',N b w':=by
 unfold Oper.wp at h
 generalize (execOp a.eval o).run P w=r at h
 unfold Oper.upon at h
 split at h
 ·exact⟨_,_,h⟩
 ·exact⟨_,_,h⟩
 ·exact⟨_,_,h⟩
 ·obtain⟨e,w',c,hR,_⟩:=h [];cases e with
  | returned v=>exact⟨_,_,hR⟩
  | panicked _=>exact hR.elim
  | outgrown=>obtain⟨_,_,h⟩:=hR;exact h.elim
 ·obtain⟨v,w',hR,_⟩:=h default [];exact⟨_,_,hR⟩
 ·exact h.elim
 exact h.elim
theorem PV {w0:World} {X:WX} {β:Nat->Option Nat} {s:St} {a:Act} {w:World} (S:Aw w0 X β s a w) {g:Nat} {b:Bool} (h:nth s.sl g= .one (.bool b)):a.tmps[g]? =some (.bool b):=by
 have f:=S.BS g;rw[h] at f;have d:a.tmps.getD g undef= .bool b:=A0 f (by simp);rcases Nat.lt_or_ge g a.tmps.size with c | c
 ·simp[Array.getD,c] at d;simp[c,d]
 simp[Array.getD,Nat.not_lt.2 c,undef] at d
theorem M3 {ops:Array Oper} {o:Oper} (t:Sound P E TI o) {w0:World} {X:WX} {β:Nat->Option Nat} {s:St} {a:Act} {w:World} (S:Aw w0 X β s a w) {f:A5} (h:DT E TI ops.toList o f s)
  {N:Act->World->Prop} {Q:Exit->Act->World->Prop} (n:∀p q w',Aw w0 X p (s.app o.dst f) q w'->N q w'):
  if Region.wanted o (yielded ops a.tmps) then o.wp P a w N Q else N (a.put o.dst undef) w:=by
 unfold DT at h
 split at h
 ·rename_i l
  simp only[Region.wanted,l,if_true];exact t S h n
 rename_i j want l
 obtain⟨g,u,m⟩:=h;have b:(ops[j]?).bind (·.dst)=some g:=by simpa [KB] using u
 rcases m with⟨c,m⟩ |⟨c,rfl⟩
 ·have d:yielded ops a.tmps j=some want:=by simp[yielded,b,PV S c]
  simp only[Region.wanted,l,d,beq_self_eq_true,if_true];exact t S m n
 have d:(yielded ops a.tmps j==some want)=false:=by
  rcases c with c | c
  ·have d:yielded ops a.tmps j=some (!want):=by simp[yielded,b,PV S c]
   rw[d];cases want <;> rfl
  have d:yielded ops a.tmps j=none:=by
   have r:=S.BS g;rw[c] at r;obtain⟨arr,i,_⟩:=r;have i:a.tmps.getD g undef= .tuple arr:=i;unfold yielded;simp only[b,Option.bind_some];rcases Nat.lt_or_ge g a.tmps.size with k | k
   ·simp[Array.getD,k] at i;simp[k,i]
   simp[k]
  rw[d];rfl
 simp only[Region.wanted,l,d,Bool.false_eq_true,if_false];exact n β _ w (S.val ⟨#[],rfl,trivial⟩)
theorem YD {ops:Array Oper} {o:Oper} (d:Sound P E TI o) {w0:World} {X:WX} {β:Nat->Option Nat} {s:St} {a:Act} {w:World} (S:Aw w0 X β s a w) {f:A5} (h:DT E TI ops.toList o f s):
  ∃b c w',Aw w0 X b (s.app o.dst f) c w':=by
 have:=M3 (N:=fun c w'=>∃b,Aw w0 X b (s.app o.dst f) c w') (Q:=fun _ _ _=>False) d S h fun b c w' h=>⟨b,h⟩
 split at this
 ·obtain⟨c,w',b,h⟩:=aD this;exact⟨b,c,w',h⟩
 obtain⟨b,h⟩:=this;exact⟨b,_,_,h⟩
theorem NV {w0:World} {X:WX} {β:Nat->Option Nat} {s:St} {a:Act} {w:World} (S:Aw w0 X β s a w) (x:Operand) (t:T) (l:List (el t)) (h:ev s.sl x= .one (.sl t l)):l.length<=140737488355328:=by
 have b:=Bm S.BS x;rw[h] at b;obtain⟨_,_,_,_,c,_⟩:=A0 b (by simp);exact c
theorem SJ {ops:Array Oper} {draw:Bool} {w0:World} {X:WX} {Q:St->Prop}:∀{r:List Oper} {m:Tr} {β:Nat->Option Nat} {s:St} {a:Act} {w:World},(∀o∈r,Sound P E TI o)->Aw w0 X β s a w->
  Eu E TI ops.toList draw r m Q s->∃c,chain E TI ops.toList r c s/\Q (fin r c s)/\(draw=true->Gp ops.toList (m.reverse++c.map Hy)=true)
 | [],m,β,s,a,w,_,_,h=>by
  refine⟨[],trivial,?_,?_⟩
  ·cases draw
   ·exact h
   exact h.2
  rintro rfl;simpa using h.1 ()
 | o::r,m,β,s,a,w,n,S,h=>by
  have go:∀f,DT E TI ops.toList o f s->Eu E TI ops.toList draw r (Hy f::m) Q (s.app o.dst f)->
    ∃c,chain E TI ops.toList (o::r) c s/\Q (fin (o::r) c s)/\(draw=true->Gp ops.toList (m.reverse++c.map Hy)=true):=by
   intro f i k;obtain⟨v,x,w',p⟩:=YD (n o (by simp)) S i;obtain⟨c,g1,g2,q⟩:=SJ (fun o u=>n o (by simp[u])) p k;exact⟨f::c,⟨i,g1⟩,g2,fun t=>by have:=q t;simpa using this⟩
  unfold Eu at h
  split at h
  ·rename_i l
   obtain⟨f,i,k⟩:=Lm (NV S) h;exact go f (by unfold DT;rw[l];exact i _ rfl) k
  rename_i j want l
  split at h
  ·exact h.elim
  rename_i g b
  split at h
  ·rename_i d
   obtain⟨f,i,k⟩:=Lm (NV S) h;exact go f (by unfold DT;rw[l];exact⟨g,b,.inl ⟨d,i _ rfl⟩⟩) k
  ·rename_i d
   obtain⟨f,i,k⟩:=Lm (NV S) h;exact go f (by unfold DT;rw[l];exact⟨g,b,.inl ⟨d,i _ rfl⟩⟩) k
  ·rename_i d
   exact go ⟨.AG [],[],[]⟩ (by unfold DT;rw[l];exact⟨g,b,.inr ⟨.inl d,rfl⟩⟩) h
  ·rename_i d
   exact go ⟨.AG [],[],[]⟩ (by unfold DT;rw[l];exact⟨g,b,.inr ⟨.inl d,rfl⟩⟩) h
  ·rename_i d
   exact go ⟨.AG [],[],[]⟩ (by unfold DT;rw[l];exact⟨g,b,.inr ⟨.inr d,rfl⟩⟩) h
  exact h.elim
theorem TZ {ops:Array Oper} {w0:World} {X:WX} {Q:Exit->Act->World->Prop}:∀{r:List Oper} {b:List A5} {k:Nat} {β:Nat->Option Nat} {s:St} {a:Act} {w:World},(∀j,ops[k+j]? =r[j]?)->(∀o∈r,Sound P E TI o)->Aw w0 X β s a w->
  chain E TI ops.toList r b s->(∀β a w,Aw w0 X β (fin r b s) a w->Q .normal a w)->wpOps P ops Q (List.range' k r.length) a w
 | [],[],k,β,s,a,w,_,_,S,_,c=>c β a w S
 | o::r,f::b,k,β,s,a,w,g,i,S,d,c=>by
  have m:ops[k]? =some o:=by simpa using g 0
  have:=M3 (Q:=Q) (N:=wpOps P ops Q (List.range' (k+1) r.length)) (i o (by simp)) S d.1 fun p q w' l=>
   TZ (fun j=>by have:=g (j+1);rw[show k+1+j=k+(j+1) by omega];simpa using this) (fun o n=>i o (by simp[n])) l d.2 c
  simp only[List.length_cons,List.range'_succ,wpOps,m]
  split
  ·rename_i hw;rw[if_pos hw] at this;exact .inl this
  rename_i hw;rw[if_neg hw] at this;exact this
 |[],_::_,_,_,_,_,_,_,_,_,h,_|_::_,[],_,_,_,_,_,_,_,_,h,_=>h.elim
end
end Go.Abs
namespace Go.Abs
open Go.RowKit
section
variable {P:Program} {E:Env} {TI:TypeId->Info}
def run (m:Nat->Bool):Nat->List Oper->List A5->St->St
 | k,o::r,f::fs,s=>run m (k+1) r fs (if m k then s.app o.dst f else s)
 | _,_,_,s=>s
theorem SK {m:Nat->Bool}:∀{r:List Oper} {a:List A5} {k:Nat} {s:St},(∀j,k<=j->j<k+r.length->m j=true)->run m k r a s=fin r a s
 | o::r,f::a,k,s,h=>by
  simp only[run,fin];rw[h k (Nat.le_refl _) (by simp),if_pos rfl];exact SK fun j b c=>h j (by omega) (by simp;omega)
 |[],_,_,_,_|_::_,[],_,_,_=>rfl
theorem RM (s:St) (d:Option Nat) (f:A5) (x:Nat) (h:d≠some x):nth (s.app d f).sl x=nth s.sl x:=by
 cases d with
 | none=>rfl
 | some q=>
  show nth (Aj s.sl q f.v) x=_
  rw[Gn,if_neg]
  rintro⟨rfl,_⟩;exact h rfl
theorem Ie (s:St) (d:Option Nat) (f:A5):(s.app d f).sl.length=s.sl.length:=by
 cases d with
 | none=>rfl
 | some q=>exact ET _ _ _
theorem Ih:∀(ws:List (Nat×AH)) (l:List (Option AH)),(Bq ws l).length=l.length
 | [],_=>rfl
 | p::ws,l=>by rw[Bq,Ih ws,ET]
theorem Ms:∀(ws:List (Nat×AH)) (l:List (Option AH)) (x:Nat),x ∉ ws.map (·.1)->AD (Bq ws l) x=AD l x
 | [],_,_,_=>rfl
 | p::ws,l,x,h=>by
  rw[Bq,Ms ws _ x (fun h'=>h (by simp at h' ⊢;exact .inr h')),Er,if_neg]
  rintro⟨rfl,_⟩;exact h (by simp)
theorem RQ:∀(ws:List (Nat×AH)) (l l':List (Option AH)) (x:Nat),l.length=l'.length->AD l x=AD l' x->AD (Bq ws l) x=AD (Bq ws l') x
 | [],_,_,_,_,h=>h
 | p::ws,l,l',x,a,h=>RQ ws _ _ x (by simp[ET,a]) (by rw[Er,Er,a,h])
theorem I4 {m1 m2:Nat->Bool} {x:Nat}:∀{r:List Oper} {l:List A5} {k:Nat} {s s':St},(∀j o,r[j]? =some o->m1 (k+j)≠m2 (k+j)->o.dst≠some x)->nth s.sl x=nth s'.sl x->s.sl.length=s'.sl.length->
  nth (run m1 k r l s).sl x=nth (run m2 k r l s').sl x
 | o::r,f::l,k,s,s',h,a,b=>by
  have m:=h 0 o rfl;simp only[Nat.add_zero] at m;have i:∀j g,r[j]? =some g->m1 (k+1+j)≠m2 (k+1+j)->g.dst≠some x:=fun j g n hm=>h (j+1) g (by simpa using n) (by rw[show k+(j+1)=k+1+j by omega];exact hm)
  simp only[run];cases c:m1 k <;> cases d:m2 k <;> simp only[Bool.false_eq_true,if_true,if_false]
  ·exact I4 i a b
  ·exact I4 i (by rw[RM _ _ _ _ (m (by simp[c,d]))];exact a) (by rw[Ie];exact b)
  ·exact I4 i (by rw[RM _ _ _ _ (m (by simp[c,d]))];exact a) (by rw[Ie];exact b)
  refine I4 i ?_ (by rw[Ie,Ie];exact b);cases p:o.dst with
  | none=>exact a
  | some q=>show nth (Aj _ _ _) _=nth (Aj _ _ _) _;rw[Gn,Gn,b,a]
 |[],_,_,_,_,_,a,_|_::_,[],_,_,_,_,a,_=>a
theorem I3 {m1 m2:Nat->Bool} {x:Nat}:∀{r:List Oper} {b:List A5} {k:Nat} {s s':St},(∀j f,b[j]? =some f->m1 (k+j)≠m2 (k+j)->x ∉ f.ws.map (·.1))->AD s.bk x=AD s'.bk x->s.bk.length=s'.bk.length->
  AD (run m1 k r b s).bk x=AD (run m2 k r b s').bk x
 | o::r,f::b,k,s,s',h,a,c=>by
  have l:=h 0 f rfl;simp only[Nat.add_zero] at l;have i:∀j m,b[j]? =some m->m1 (k+1+j)≠m2 (k+1+j)->x ∉ m.ws.map (·.1):=fun j p n hm=>h (j+1) p (by simpa using n) (by rw[show k+(j+1)=k+1+j by omega];exact hm)
  simp only[run];cases d:m1 k <;> cases g:m2 k <;> simp only[Bool.false_eq_true,if_true,if_false]
  ·exact I3 i a c
  ·exact I3 i (by show _=AD (Bq _ _) _;rw[Ms _ _ _ (l (by simp[d,g]))];exact a) (by show _=(Bq _ _).length;rw[Ih];exact c)
  ·exact I3 i (by show AD (Bq _ _) _=_;rw[Ms _ _ _ (l (by simp[d,g]))];exact a) (by show (Bq _ _).length=_;rw[Ih];exact c)
  exact I3 i (RQ _ _ _ _ c a) (by show (Bq _ _).length=(Bq _ _).length;rw[Ih,Ih];exact c)
 |[],_,_,_,_,_,a,_|_::_,[],_,_,_,_,a,_=>a
theorem NR {α:Type}:∀(l:List α) (i j:Nat) (x y:α),i≠j->Aj (Aj l i x) j y=Aj (Aj l j y) i x
 | [],_,_,_,_,_=>rfl
 | _::_,0,0,_,_,h=>(h rfl).elim
 |_::_,0,_+1,_,_,_|_::_,_+1,0,_,_,_=>rfl
 | _::l,i+1,j+1,x,y,h=>by simp[Aj,NR l i j x y (by omega)]
theorem Rs:∀(ws:List (Nat×AH)) (l:List (Option AH)) (i:Nat) (b:Option AH),i ∉ ws.map (·.1)->Bq ws (Aj l i b)=Aj (Bq ws l) i b
 | [],_,_,_,_=>rfl
 | p::ws,l,i,b,h=>by
  rw[Bq,Bq,NR _ _ _ _ _ (fun e=>h (by simp[e])),Rs ws _ i b (fun h'=>h (by simp at h' ⊢;exact .inr h'))]
theorem Rr:∀(ws a:List (Nat×AH)) (l:List (Option AH)),(∀x∈ws.map (·.1),x ∉ a.map (·.1))->Bq a (Bq ws l)=Bq ws (Bq a l)
 | [],_,_,_=>rfl
 | p::ws,a,l,h=>by
  rw[Bq,Bq,Rr ws a _ (fun x hx=>h x (by simp at hx ⊢;exact .inr hx)),Rs a l p.1 _ (h p.1 (by simp))]
theorem Vl {s:St} {d a:Option Nat} {f b:A5} (g:∀q,d=some q->a≠some q) (h:∀x∈f.ws.map (·.1),x ∉ b.ws.map (·.1)):(s.app d f).app a b=(s.app a b).app d f:=by
 have c:Di (Di s.sl d f.v) a b.v=Di (Di s.sl a b.v) d f.v:=by
  cases d with
  | none=>rfl
  | some q=>cases a with
   | none=>rfl
   | some i=>exact NR _ _ _ _ _ fun e=>g q rfl (by rw[e])
 show St.mk _ _=St.mk _ _
 rw[St.mk.injEq];exact⟨c,Rr _ _ _ h⟩
theorem NO {m m':Nat->Bool} {i:Nat} {o:Oper} {f:A5}:∀{r:List Oper} {c:List A5} {k:Nat} {s:St},i<k->(∀j,j≠i->m' j=m j)->
  (∀j h g,r[j]? =some h->c[j]? =some g->m (k+j)=true->(∀q,h.dst=some q->o.dst≠some q)/\(∀x∈g.ws.map (·.1),x ∉ f.ws.map (·.1)))->
  (run m k r c s).app o.dst f=run m' k r c (s.app o.dst f)
 | h::r,g::c,k,s,u,hm,d=>by
  simp only[run,hm k (by omega)]
  have l:∀j b a,r[j]? =some b->c[j]? =some a->m (k+1+j)=true->(∀q,b.dst=some q->o.dst≠some q)/\(∀x∈a.ws.map (·.1),x ∉ f.ws.map (·.1)):=
   fun j b a n p t=>d (j+1) b a (by simpa using n) (by simpa using p) (by rw[show k+(j+1)=k+1+j by omega];exact t)
  cases v:m k <;> simp only[Bool.false_eq_true,if_true,if_false]
  ·exact NO (by omega) hm l
  have:=d 0 h g rfl rfl (by simpa using v);rw[NO (m':=m') (by omega) hm l,Vl this.1 this.2]
 |[],_,_,_,_,_,_|_::_,[],_,_,_,_,_=>rfl
theorem SL {m m':Nat->Bool} {i:Nat} {o:Oper} {f:A5}:∀{r:List Oper} {h:List A5} {k j0:Nat} {s:St},i=k+j0->r[j0]? =some o->h[j0]? =some f->m i=false->m' i=true->(∀j,j≠i->m' j=m j)->
  (∀j t p,j0<j->r[j]? =some t->h[j]? =some p->m (k+j)=true->(∀q,t.dst=some q->o.dst≠some q)/\(∀x∈p.ws.map (·.1),x ∉ f.ws.map (·.1)))->
  (run m k r h s).app o.dst f=run m' k r h s
 | t::r,p::h,k,0,s,u,l,n,hm,d,a,c=>by
  simp at l n;subst l n;simp only[Nat.add_zero] at u;subst u;simp only[run,hm,d,Bool.false_eq_true,if_true,if_false];exact NO (Nat.lt_succ_self _) a fun j g b v w y=>c (j+1) g b (by omega) (by simpa using v) (by simpa using w) (by rw[show i+(j+1)=i+1+j by omega];exact y)
 | t::r,p::h,k,j0+1,s,u,l,n,hm,d,a,c=>by
  simp only[run,a k (by omega)];exact SL (j0:=j0) (by omega) (by simpa using l) (by simpa using n) hm d a fun j g b z v w y=>c (j+1) g b (by omega) (by simpa using v) (by simpa using w) (by rw[show k+(j+1)=k+1+j by omega];exact y)
 | [],_,_,_,_,_,l,_,_,_,_,_=>by simp at l
 | _::_,[],_,_,_,_,_,n,_,_,_,_=>by simp at n
theorem PX {all:List Oper}:∀{r:List Oper} {a:List A5} {k j:Nat} {s:St} {o:Oper},chain E TI all r a s->r[j]? =some o->∃f,a[j]? =some f/\DT E TI all o f (run (fun t=>decide (t<k+j)) k r a s)
 | d::r,b::a,k,0,s,o,c,h=>by
  simp at h;subst h;refine⟨b,rfl,?_⟩
  have:run (fun t=>decide (t<k+0)) k (d::r) (b::a) s=s:=by
   have e:∀(r:List Oper) (a:List A5) (k':Nat) (s:St),k<=k'->run (fun t=>decide (t<k+0)) k' r a s=s:=by
    intro r
    induction r with
    | nil=>intro a k' s _;cases a <;> rfl
    | cons o r l=>
     intro a k' s m;cases a with
     | nil=>rfl
     | cons f a=>simp only[run];rw[if_neg (by simp;omega)];exact l a (k'+1) s (by omega)
   exact e _ _ _ _ (Nat.le_refl _)
  rw[this];exact c.1
 | d::r,b::a,k,j+1,s,o,c,h=>by
  obtain⟨f,g,i⟩:=PX (k:=k+1) c.2 (show r[j]? =some o by simpa using h);refine⟨f,by simpa using g,?_⟩;simp only[run];rw[if_pos (by simp),show k+(j+1)=k+1+j by omega];exact i
 | [],[],_,_,_,_,_,h=>by simp at h
 |[],_::_,_,_,_,_,h,_|_::_,[],_,_,_,_,h,_=>h.elim
theorem L0 {all:List Oper}:∀{r:List Oper} {a:List A5} {s:St},chain E TI all r a s->a.length=r.length
 | [],[],_,_=>rfl
 | _::_,_::_,_,h=>by simp[L0 h.2]
 |[],_::_,_,h|_::_,[],_,h=>h.elim
theorem YC {all:List Oper} {o:Oper} {f:A5} {s s':St} (b:∀x∈FJ all o,nth s.sl x=nth s'.sl x) (i:∀x∈f.rd,AD s.bk x=AD s'.bk x) (h:DT E TI all o f s):DT E TI all o f s':=by
 have he:∀x∈o.op.operands,ev s.sl x=ev s'.sl x:=fun x hx=>by
  cases x with
  | tmp t=>exact b t (by
   unfold FJ Rf;refine List.mem_append_left _ (List.mem_append_right _ (List.mem_filterMap.2 ⟨.tmp t,by simpa using hx,rfl⟩)))
  | _=>rfl
 have a:BP E TI o (Ax o) (ev s.sl) (AD s.bk) (fun g=>g=f)->BP E TI o (Ax o) (ev s'.sl) (AD s'.bk) (fun g=>g=f):=fun h=>Vj i (Vk he h)
 unfold DT at h ⊢
 split at h
 ·rename_i c;exact a h
 rename_i j want c
 obtain⟨g,g1,d⟩:=h;refine⟨g,g1,?_⟩;rw[<-b g (by unfold FJ;rw[c];simp[g1])];exact d.imp (fun q=>⟨q.1,a q.2⟩) id
end
end Go.Abs
namespace Go.Abs
open Go.RowKit
section
variable {P:Program} {E:Env} {TI:TypeId->Info}
def Ey:List Bool->Nat
 | []=>0
 | b::l=>(if b then 0 else 1)+Ey l
theorem TN:∀(l:List Bool) (i:Nat),l[i]? =some false->Ey (l.set i true)+1=Ey l
 | [],_,h=>by simp at h
 | b::l,0,h=>by simp at h;subst h;simp[Ey];omega
 | b::l,i+1,h=>by have:=TN l i (by simpa using h);simp[Ey];omega
theorem TO:∀(l:List Bool),Ey l=0->∀j,j<l.length->l[j]? =some true
 | [],_,j,h=>by simp at h
 | b::l,h,0,_=>by cases b <;> simp[Ey] at h ⊢
 | b::l,h,j+1,a=>by have:=TO l (by simp[Ey] at h;exact h.2) j (by simpa using a);simpa using this
theorem Lv:∀(r:List Oper) (acc:List (List Nat)) (k:Nat),k<acc.length->(Dc r acc).getD k []=acc.getD k []
 | [],_,_,_=>rfl
 | o::r,acc,k,h=>by
  rw[Dc,Lv r _ k (by simp;omega)];simp[List.getD_eq_getElem?_getD,List.getElem?_append_left h]
theorem Lw:∀(r:List Oper) (acc:List (List Nat)) (j:Nat) (o:Oper),r[j]? =some o->∀i∈(Dc r acc).getD (acc.length+j) [],∃k∈EJ o,i=k\/i∈(Dc r acc).getD k []
 | [],_,_,_,h=>by simp at h
 | o::r,acc,0,b,h=>by
  simp at h;subst h;intro i a;rw[Dc,Nat.add_zero,Lv r _ acc.length (by simp)] at a;simp only[List.getD_eq_getElem?_getD,List.getElem?_concat_length,Option.getD_some] at a;obtain⟨k,c,a⟩:=List.mem_flatMap.1 a;refine⟨k,c,?_⟩;rcases List.mem_cons.1 a with rfl | a
  ·exact .inl rfl
  refine .inr ?_;rcases Nat.lt_or_ge k acc.length with h' | h'
  ·rw[Dc,Lv r _ k (by simp;omega)];simpa [List.getD_eq_getElem?_getD,List.getElem?_append_left h'] using a
  simp[List.getElem?_eq_none h'] at a
 | o::r,acc,j+1,b,h=>by
  intro i a
  have:=Lw r (acc++[(EJ o).flatMap fun j=>j::acc.getD j []]) j b (by simpa using h) i (by
   rw[List.length_append,List.length_singleton,show acc.length+1+j=acc.length+(j+1) by omega];exact a)
  exact this
theorem Mb:∀(r:List Oper) (a:List A5) (s:St),(fin r a s).sl.length=s.sl.length
 | o::r,f::a,s=>by rw[fin,Mb r a,Ie]
 |[],_,_|_::_,[],_=>rfl
theorem Jk {a b:List Nat} (h:IU a b=true):∀x∈a,x ∉ b:=fun x hx=>by
 have:=List.all_eq_true.1 h x hx;simpa using this
theorem O3 {ops:List Oper} {c d:Oper} {f a:List Nat×List Nat} (h:JZ ops c d f a=true):
  (∀q,c.dst=some q->q ∉ FJ ops d)/\(∀q,d.dst=some q->q ∉ FJ ops c)/\(∀x∈f.2,x ∉ a.1/\x ∉ a.2)/\(∀x∈a.2,x ∉ f.1):=by
 simp only[JZ,Bool.and_eq_true] at h;obtain⟨⟨⟨g,i⟩,j⟩,k⟩:=h;refine⟨fun q b=>Jk g q (by simp[b]),fun q b=>Jk i q (by simp[b]),fun x hx=>?_,Jk k⟩;have:=Jk j x hx;simpa using this
theorem P4 {ops:List Oper} {o:Oper} {q:Nat} (h:o.dst=some q):q∈FJ ops o:=by simp[FJ,h]
theorem Wa {ops:Array Oper} {fs:List A5} {s0:St} {w0:World} {X:WX} {Q:Exit->Act->World->Prop} (hc:chain E TI ops.toList ops.toList fs s0) (hok:Gp ops.toList (fs.map Hy)=true)
  (hs:∀o∈ops.toList,Sound P E TI o) (hQ:∀β a w,Aw w0 X β (fin ops.toList fs s0) a w->Q .normal a w):
  ∀(fuel:Nat) (listed:Array Bool) (β:Nat->Option Nat) (a:Act) (w:World),listed.size=ops.size->(∀j o,ops[j]? =some o->listed.getD j false=true->∀i∈EJ o,listed.getD i false=true)->
   Ey listed.toList<=fuel->Aw w0 X β (run (fun j=>listed.getD j false) 0 ops.toList fs s0) a w->wpAny P .any ops Q fuel listed a w:=by
 simp only[Gp,Bool.and_eq_true] at hok;obtain⟨hback,hpairs⟩:=hok
 have back:∀j o,ops[j]? =some o->∀i∈EJ o,i<j:=by
  intro j o ho i hi;have hj:j<ops.toList.length:=by simpa using (Array.getElem?_eq_some_iff.1 ho).1
  have:=List.all_eq_true.1 hback j (List.mem_range.2 hj);have ho':ops.toList[j]? =some o:=by simpa using ho
  rw[ho'] at this;have:=List.all_eq_true.1 this i hi;simpa using this
 have pair:∀i j oi oj fi fj,i<j->ops[i]? =some oi->ops[j]? =some oj->fs[i]? =some fi->fs[j]? =some fj->i ∉ (Dc ops.toList []).getD j []->JZ ops.toList oi oj (Hy fi) (Hy fj)=true:=by
  intro i j oi oj fi fj hij h1 h2 h3 h4 h5;have hj:j<ops.toList.length:=by simpa using (Array.getElem?_eq_some_iff.1 h2).1
  have:=List.all_eq_true.1 (List.all_eq_true.1 hpairs j (List.mem_range.2 hj)) i (List.mem_range.2 hij);rw[Bool.or_eq_true] at this;rcases this with h | h
  ·exact absurd (by simpa using h) h5
  have e1:ops.toList[i]? =some oi:=by simpa using h1
  have e2:ops.toList[j]? =some oj:=by simpa using h2
  simpa [e1,e2,h3,h4] using h
 have anyOn_mem:∀(o:Oper) (i:Nat),i∈EJ o↔∃e∈o.after,Region.binds .any e=true/\e.on=i:=by
  intro o i;simp[EJ,and_assoc]
 have closed:∀(listed:Array Bool),(∀j o,ops[j]? =some o->listed.getD j false=true->∀i∈EJ o,listed.getD i false=true)->
   ∀(n j:Nat) (o:Oper),j<=n->ops[j]? =some o->(∀i∈EJ o,listed.getD i false=true)->∀i∈(Dc ops.toList []).getD j [],listed.getD i false=true:=by
  intro listed hdc n
  induction n with
  | zero=>
   intro j o hj ho hl i hi;obtain⟨k,hk,_⟩:=Lw ops.toList [] j o (by simpa using ho) i (by simpa using hi);have:=back j o ho k hk;omega
  | succ n ih=>
   intro j o hj ho hl i hi;obtain⟨k,hk,h⟩:=Lw ops.toList [] j o (by simpa using ho) i (by simpa using hi);have hkj:=back j o ho k hk;rcases h with rfl | h
   ·exact hl _ hk
   have hk':=hl k hk
   obtain⟨ok,hok⟩:∃ok,ops[k]? =some ok:=by
    have hj:j<ops.size:=(Array.getElem?_eq_some_iff.1 ho).1;exact⟨ops[k]'(by omega),by simp⟩
   exact ih k ok (by omega) hok (hdc k ok hok hk') i h
 have all_of:∀(listed:Array Bool),listed.size=ops.size->(∀j,j<ops.size->listed.getD j false=true)->run (fun j=>listed.getD j false) 0 ops.toList fs s0=fin ops.toList fs s0:=
  fun listed hsz h=>SK fun j _ hj=>h j (by simpa using hj)
 have none_ready:∀(listed:Array Bool),listed.size=ops.size->(∀j,j<ops.size->listed.getD j false=true)->Region.ready .any ops listed=[]:=by
  intro listed hsz h;rcases hr:Region.ready .any ops listed with _ |⟨x,l⟩
  ·rfl
  have hx:x∈Region.ready .any ops listed:=by rw[hr];simp
  obtain⟨h1,o,ho,_⟩:=mem_ready.1 hx;have hlt:=(Array.getElem?_eq_some_iff.1 ho).1;have:=h x hlt;simp[hsz,hlt] at h1 this;rw[h1] at this;cases this
 have ready_none:∀(listed:Array Bool),listed.size=ops.size->Region.ready .any ops listed=[]->∀n j,j<n->j<ops.size->listed.getD j false=true:=by
  intro listed hsz hr n
  induction n with
  | zero=>intro j hj;omega
  | succ n ih=>
   intro j hjn hj;cases hl:listed.getD j false with
   | true=>rfl
   | false=>
    exfalso
    have:j∈Region.ready .any ops listed:=mem_ready.2 ⟨by simpa [hsz,hj] using hl,ops[j],by simp[hj],fun e he hb=>by
     have hlt:=back j ops[j] (by simp[hj]) e.on ((anyOn_mem _ _).2 ⟨e,he,hb,rfl⟩);exact ih e.on (by omega) (by omega)⟩
    rw[hr] at this;cases this
 intro fuel
 induction fuel with
 | zero=>
  intro listed β a w hsz _ hu S
  have hall:∀j,j<ops.size->listed.getD j false=true:=fun j hj=>by
   have:=TO _ (Nat.le_zero.1 hu) j (by simpa [hsz] using hj);simp[hsz,hj] at this;simp[hsz,hj,this]
  exact⟨none_ready listed hsz hall,hQ β a w (by rw[all_of listed hsz hall] at S;exact S)⟩
 | succ fuel ih=>
  intro listed β a w hsz hdc hu S;refine⟨fun hr=>?_,fun i hi=>?_⟩
  ·have hall:=fun j hj=>ready_none listed hsz hr (j+1) j (Nat.lt_succ_self j) hj
   exact hQ β a w (by rw[all_of listed hsz hall] at S;exact S)
  obtain⟨h1,o,ho,hdeps⟩:=mem_ready.1 hi;have hilt:=(Array.getElem?_eq_some_iff.1 ho).1;have hil:listed.getD i false=false:=by simp[hsz,hilt] at h1 ⊢;exact h1
  have hanyi:∀k∈EJ o,listed.getD k false=true:=fun k hk=>by
   obtain⟨e,he,hb,rfl⟩:=(anyOn_mem o k).1 hk;exact hdeps e he hb
  obtain⟨f,hf,hfo⟩:=PX (k:=0) hc (show ops.toList[i]? =some o by simpa using ho);simp only[Nat.zero_add] at hfo
  have apart:∀j oj fj,ops[j]? =some oj->fs[j]? =some fj->listed.getD j false≠decide (j<i)->
    (∀q,oj.dst=some q->q ∉ FJ ops.toList o)/\(∀x∈fj.ws.map (·.1),x ∉ f.rd)/\(∀q,oj.dst=some q->o.dst≠some q)/\(∀x∈fj.ws.map (·.1),x ∉ f.ws.map (·.1)):=by
   intro j oj fj hj hfj hne;have hij:j≠i:=by rintro rfl;rw[hil] at hne;simp at hne
   rcases Nat.lt_or_gt_of_ne hij with hlt | hgt
   ·have hlj:listed.getD j false=false:=by
     cases h:listed.getD j false with
     | false=>rfl
     | true=>rw[h] at hne;simp[hlt] at hne
    have hnb:j ∉ (Dc ops.toList []).getD i []:=fun hm=>by
     have:=closed listed hdc i i o (Nat.le_refl _) ho hanyi j hm;rw[hlj] at this;cases this
    obtain⟨a1,a2,a3,a4⟩:=O3 (pair j i oj o fj f hlt hj ho hfj hf hnb);exact⟨a1,fun x hx=>(a3 x hx).1,fun q hq e=>a1 q hq (P4 e),fun x hx=>(a3 x hx).2⟩
   have hlj:listed.getD j false=true:=by
    cases h:listed.getD j false with
    | true=>rfl
    | false=>rw[h] at hne;simp[Nat.not_lt.2 (Nat.le_of_lt hgt)] at hne
   have hnb:i ∉ (Dc ops.toList []).getD j []:=fun hm=>by
    have:=closed listed hdc j j oj (Nat.le_refl _) hj (hdc j oj hj hlj) i hm;rw[hil] at this;cases this
   obtain⟨a1,a2,a3,a4⟩:=O3 (pair i j o oj f fj hgt ho hj hf hfj hnb);exact⟨a2,a4,fun q hq e=>a2 q hq (P4 e),fun x hx hx'=>(a3 x hx').2 hx⟩
  have getf:∀j oj,ops[j]? =some oj->∃fj,fs[j]? =some fj:=fun j oj hj=>by
   have hlt:j<fs.length:=by rw[L0 hc];simpa using (Array.getElem?_eq_some_iff.1 hj).1
   exact⟨fs[j],List.getElem?_eq_getElem hlt⟩
  have geto:∀j (fj:A5),fs[j]? =some fj->∃oj,ops[j]? =some oj:=fun j fj hj=>by
   have hlt:j<fs.length:=(List.getElem?_eq_some_iff.1 hj).1;rw[L0 hc] at hlt;have hlt:j<ops.size:=by simpa using hlt
   exact⟨ops[j],Array.getElem?_eq_getElem hlt⟩
  have hfo':DT E TI ops.toList o f (run (fun j=>listed.getD j false) 0 ops.toList fs s0):=by
   refine YC (fun x hx=>?_) (fun x hx=>?_) hfo
   ·refine I4 (fun j oj hj hne=>?_) rfl rfl;have hne:decide (j<i)≠listed.getD j false:=by simpa using hne
    have hj':ops[j]? =some oj:=by simpa using hj
    obtain⟨fj,hfj⟩:=getf j oj hj';exact fun e=>(apart j oj fj hj' hfj (Ne.symm hne)).1 x e hx
   refine I3 (fun j fj hfj hne=>?_) rfl rfl;have hne:decide (j<i)≠listed.getD j false:=by simpa using hne
   obtain⟨oj,hj⟩:=geto j fj hfj;exact fun hm=>(apart j oj fj hj hfj (Ne.symm hne)).2.1 x hm hx
  have hget':∀j,j≠i->(listed.setIfInBounds i true).getD j false=listed.getD j false:=fun j hj=>getD_set_ne false (Ne.symm hj)
  have hgeti:(listed.setIfInBounds i true).getD i false=true:=by simp[hsz,hilt]
  have key:(run (fun j=>listed.getD j false) 0 ops.toList fs s0).app o.dst f=run (fun j=>(listed.setIfInBounds i true).getD j false) 0 ops.toList fs s0:=by
   refine SL (by omega:i=0+i) (by simpa using ho) hf hil hgeti hget' fun j oj fj hlt hj hfj hl=>?_
   simp only[Nat.zero_add] at hl;have:=apart j oj fj (by simpa using hj) hfj (by rw[hl];simp;omega);exact this.2.2
  have:=M3 (Q:=Q) (N:=wpAny P .any ops Q fuel (listed.setIfInBounds i true)) (hs o (by simpa using Array.mem_of_getElem? ho)) S hfo' fun β' a' w' S'=>by
   rw[key] at S';refine ih _ β' a' w' (by simpa using hsz) (fun j oj hj hl k hk=>?_) ?_ S'
   ·by_cases hki:k=i
    ·subst hki;exact hgeti
    rw[hget' k hki]
    by_cases hji:j=i
    ·subst hji;obtain rfl:o=oj:=Option.some.inj (ho.symm.trans hj);exact hanyi k hk
    rw[hget' j hji] at hl;exact hdc j oj hj hl k hk
   have:=TN listed.toList i (by simp[hsz,hilt] at hil;simp[hsz,hilt,hil]);simp only[Array.toList_setIfInBounds];omega
  unfold wpOp;rw[ho];simp only
  split
  ·rename_i hw;rw[if_pos hw] at this;exact .inl this
  rename_i hw;rw[if_neg hw] at this;exact this
theorem Yc (hm:P.follows .mixedOrders=true) {id:Nat} {ops:Array Oper} {draw:Bool} {s:St} {w0:World} {X:WX} {β:Nat->Option Nat} {a:Act} {w:World} {R:St->Prop} {Q:Exit->Act->World->Prop}
  (g:∀o∈ops.toList,Sound P E TI o) (S:Aw w0 X β s a w) (h:Eu E TI ops.toList draw ops.toList [] R s) (l:∀s',R s'->s'.sl.length=s.sl.length->∀β a w,Aw w0 X β s' a w->Q .normal a w):(Code.region id ops draw).wp P Q a w:=by
 obtain⟨b,m,hR,d⟩:=SJ g S h;cases draw with
 | false=>
  refine wp_region ?_;have:=TZ (Q:=Q) (k:=0) (ops:=ops) (r:=ops.toList) (fun j=>by simp) g S m (l _ hR (Mb _ _ _));rw[List.range_eq_range'];simpa using this
 | true=>
  refine wp_region_any hm ?_;have p:Aw w0 X β s a {w with drawn:=w.drawn+1}:=S.ext (dst:=none) (v:= .one .A4) (u:=undef) (rd:=[]) (fun _ _=>rfl) (Nat.le_refl _) rfl rfl rfl (GU _ _);refine Wa m (by simpa using d rfl) g (l _ hR (Mb _ _ _)) _ _ β a _ (by simp) (fun j o q t=>?_) ?_ ?_
  ·have c:=(Array.getElem?_eq_some_iff.1 q).1;simp[c] at t
  ·have:∀n,Ey (List.replicate n false)=n:=fun n=>by induction n with
    | zero=>rfl
    | succ n i=>rw[List.replicate_succ,Ey,i];simp;omega
   simp[this]
  have e:run (fun j=>(Array.replicate ops.size false).getD j false) 0 ops.toList b s=s:=by
   have:∀(r:List Oper) (b:List A5) (k:Nat) (s:St),run (fun j=>(Array.replicate ops.size false).getD j false) k r b s=s:=by
    intro r
    induction r with
    | nil=>intro b k s;cases b <;> rfl
    | cons o r i=>
     intro b k s;cases b with
     | nil=>rfl
     | cons f b=>
      simp only[run];rw[if_neg,i]
      by_cases h:k<ops.size <;> simp[h]
   exact this _ _ _ _
  rw[e];exact p
end
end Go.Abs
