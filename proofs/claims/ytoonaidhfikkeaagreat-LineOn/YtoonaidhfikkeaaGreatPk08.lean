/- Part 9 of a proof. Conditions: each theorem's own. -/
import Derived.Orders
import Derived.Test.YtoonaidhfikkeaaGreatPk07
set_option linter.all false
set_option maxHeartbeats 8000000
namespace Go.Abs
open Go.RowKit
def Jq (o:Oper):Bool:=
 match o.op with
 |.alloc _|.box _ _|.makeSlice _ _ _|.buildSlice _ _ _=>o.dst.isSome
 | .call c=>match c.callee with
  | .builtin _=>o.dst.isSome
  | _=>true
 | _=>true
section
variable {P:Program} {TI:TypeId->Info}
theorem Av.Y4 {w0:World} {X:WX} {β:Nat->Option Nat} {s:St} {a:Act} {w:World} {q id v:Nat} {t:T} {l:List (el t)} {rd H:List Nat}
  (S:Av w0 X β (s.app (some q) ⟨.one (.AM t id v 0 l.length),[(id,.arr v t l)],rd⟩) a w) (f:id<s.bk.length) (O:id≠0):
  Av w0 X β (s.app (some q) ⟨.one (.sl t l),[(id,.dead v)],H⟩) a w:=by
 have p:∀k,AD (Al s.bk id (some (.arr v t l))) k=if k=id then some (.arr v t l) else AD s.bk k:=fun k=>by
  rw[Es];by_cases h:k=id <;> simp[h,f]
 have u:∀k,AD (Al s.bk id (some (.dead v))) k=if k=id then some (.dead v) else AD s.bk k:=fun k=>by
  rw[Es];by_cases h:k=id <;> simp[h,f]
 have n:∀k,AN (AD (Al s.bk id (some (.dead v)))) k=AN (AD (Al s.bk id (some (.arr v t l)))) k:=fun k=>by
  rw[Dt _ _ _ f,Dt _ _ _ f];rfl
 have g:∀k,live (AD (Al s.bk id (some (.dead v)))) k->live (AD (Al s.bk id (some (.arr v t l)))) k/\k≠id:=fun k d=>by
  rw[FL _ _ _ f] at d
  by_cases h:k=id
  ·rw[if_pos h] at d;simp[AH.live] at d
  rw[if_neg h] at d;exact⟨by rw[FL _ _ _ f,if_neg h];exact d,h⟩
 have x:live (AD (Al s.bk id (some (.arr v t l)))) id:=by rw[FL _ _ _ f,if_pos rfl];rfl
 have hle:(cx X w β (AD (Al s.bk id (some (.arr v t l))))).le (cx X w β (AD (Al s.bk id (some (.dead v))))):=
  ⟨fun k=>Nat.le_of_eq (n k).symm,fun _ _=>rfl,fun k b arr e _ _ U=>⟨arr,U,rfl⟩,fun b hb=>⟨⟨⟨hb.1.1,fun k d=>hb.1.2 k (g k d).1⟩,hb.2⟩,rfl⟩⟩
 have C:∀b o,w.heap[b]? =some o->b<w.heap.size:=fun b o h=>by
  rcases Nat.lt_or_ge b w.heap.size with h' | h'
  ·exact h'
  simp[Array.getElem?_eq_none h'] at h
 refine⟨S.defers,by have:=S.len;simpa [St.app,Dn,EU] using this,by have:=S.Fi;simpa [St.app,By,EU] using this,fun i=>?_,fun k b d=>?_,fun k k' b d c hb z=>S.inj k k' b (g k d).1 (g k' c).1 hb z,
  fun k b d hb=>S.own k b (g k d).1 hb,S.os,S.tape,S.output,S.size,S.block,fun k b d=>?_,S.fresh,fun V Z=>?_⟩
 ·have Y:=S.BV i
  show Au _ (nth (Al s.sl q (.one (.sl t l))) i) _
  have m:Au (cx X w β (AD (Al s.bk id (some (.arr v t l))))) (nth (Al s.sl q (.one (.AM t id v 0 l.length))) i) (a.tmps.getD i undef):=Y;rw[Gq] at m ⊢
  by_cases h:i=q/\q<s.sl.length
  ·rw[if_pos h] at m ⊢;have R:=A0 m (by simp)
   have F:v=(cx X w β (AD (Al s.bk id (some (.arr v t l))))).cv id:=by
    show v=AN _ id
    rw[Dt _ _ _ f,if_pos rfl];rfl
   obtain⟨base,cap,hu,g1,g2,N⟩:=KL R F;refine .inr ?_
   show rep w _ (.sl t) l [_]
   have D:l.length<=140737488355328:=S.lens id (.arr v t l) (by show AD (Al s.bk id (some (.arr v t l))) id=_;rw[p,if_pos rfl]);refine⟨base,cap,by rw[hu],g1,D,?_⟩
   by_cases r:l=[]
   ·exact .inl r
   right
   have W:0<l.length:=List.length_pos_iff.2 r;rcases N with rfl |⟨b,arr,e,G,M,q3,q4⟩
   ·omega
   rcases S.blocks id (.arr v t l) (by show AD (Al s.bk id (some (.arr v t l))) id=_;rw[p,if_pos rfl]) with⟨K,L⟩ |⟨b',J,e',K,L,p3⟩
   ·exact absurd L r
   obtain rfl:b'=b:=Option.some.inj (K.symm.trans G);rw[Nat.zero_mul] at M
   have Q:X.A b':=by
    rcases S.own id b' x G with h | h
    ·exact S.fresh b' h
    exact absurd h.2 O
   refine⟨b',0,M,⟨⟨C _ _ q3,fun k d e=>(g k d).2 (S.inj k id b' (g k d).1 x e G)⟩,Q⟩,fun j y hy=>?_⟩;obtain⟨us,k1,k2⟩:=p3 j y hy;exact⟨us,Bo hle.I _ _ _ k1,by rw[Nat.zero_add];exact k2⟩
  rw[if_neg h] at m ⊢;exact Au.mono hle m
 ·have c:AD (Al s.bk id (some (.dead v))) k=some b:=d;rw[u] at c
  by_cases h:k=id
  ·rw[if_pos h] at c;cases Option.some.inj c
   trivial
  rw[if_neg h] at c;have hb:AD (Al s.bk id (some (.arr v t l))) k=some b:=by rw[p,if_neg h];exact c
  exact B5.mono hle (n k) (fun _ _=>rfl) (S.blocks k b hb)
 ·have c:AD (Al s.bk id (some (.dead v))) k=some b:=d;rw[u] at c
  by_cases h:k=id
  ·rw[if_pos h] at c;cases Option.some.inj c
   trivial
  rw[if_neg h] at c;exact S.lens k b (by show AD (Al s.bk id (some (.arr v t l))) k=_;rw[p,if_neg h];exact c)
 have B:=g 0 V;exact S.HV B.1 ((n 0).symm.trans Z)
theorem ZP (D:∀t,Cg P t (TI t)) {o:Oper} {c:Call} {b:Builtin} (u:o.op= .call c) (p:c.callee= .builtin b) (r:o.dst≠none):Sound P (env P) TI o:=by
 intro w0 X β s a w S f h N Q m;simp only[BS,u,p] at h;rcases Gh.1 h with h |⟨hb,h⟩
 ·exact Sv D u p r S h m
 obtain⟨g,C,J⟩:=ID (fun t l O=>absurd (Lp hb h) (by rw[O];exact (by decide:¬(1=2)))) h;obtain⟨t,id,v,n,l,F,I,R,K,_⟩:=NT J;subst R;obtain⟨q,y⟩:=Option.ne_none_iff_exists'.1 r;rw[y] at m;refine Sv D u p r S (C _ rfl) (fun A H w' j=>m A H w' ?_);rw[y,F] at j;rw[<-K]
 by_cases i:id<s.bk.length
 ·exact j.Y4 i I
 have d:s.bk.length<=id:=Nat.le_of_not_lt i;have L:Aw o=q:=by simp[Aw,y]
 rcases Vw hb (C _ rfl) (by rw[F]) with e |⟨x,G⟩
 ·have z:s.sl.length<=q:=by
   have k:=S.len;have T:=S.Fi;omega
  have k:∀(f:BC) (B:AH),f.ws=[(id,B)]->s.app (some q) f=s:=fun f B M=>by
   unfold St.app;rw[M];simp only[Dn,By,Fw _ _ _ z,Fw _ _ _ d]
  rw[k _ _ rfl] at j;rw[k _ _ rfl];exact j
 rw[GK _ _ d] at G;cases G
theorem Nb (j:∀t,Cg P t (TI t)) (o:Oper) (k:Jq o=true):Sound P (env P) TI o:=by
 unfold Jq at k;have l:o.dst.isSome=true->o.dst≠none:=fun h e=>by simp[e] at h
 cases g:o.op <;> simp only[g] at k
 case move x=>(intro w0 X β s a w S f h N Q d;exact ZX g S h d)
 case assign x=>(intro w0 X β s a w S f h N Q d;exact ZK g S h d)
 case nilCheck x=>(intro w0 X β s a w S f h N Q d;exact ZY g S h d)
 case pick c x y=>(intro w0 X β s a w S f h N Q d;exact ZZ g S h d)
 case alloc t=>(intro w0 X β s a w S f h N Q d;exact ZJ j g (l k) S h d)
 case box t x=>(intro w0 X β s a w S f h N Q d;exact ZM g (l k) S h d)
 case extract x i=>(intro w0 X β s a w S f h N Q d;exact ZR g S h d)
 case load t x=>(intro w0 X β s a w S f h N Q d;exact ZV j g S h d)
 case store t p x=>(intro w0 X β s a w S f h N Q d;exact Zb j g S h d)
 case fieldAddr t x i=>(intro w0 X β s a w S f h N Q d;exact ZT j g S h d)
 case field t x i=>(intro w0 X β s a w S f h N Q d;exact ZS j g S h d)
 case build t ps=>(intro w0 X β s a w S f h N Q d;exact ZN j g S h d)
 case buildSlice t n ps=>(intro w0 X β s a w S f h N Q d;exact ZO j g (l k) S h d)
 case makeSlice t x y=>(intro w0 X β s a w S f h N Q d;exact ZW j g (l k) S h d)
 case indexAddr t x i=>(intro w0 X β s a w S f h N Q d;exact ZU j g S h d)
 case slice t x lo hi mx=>(intro w0 X β s a w S f h N Q d;exact Za j g S h d)
 case binOp op t x y t'=>(intro w0 X β s a w S f h N Q d;exact ZL j g S h d)
 case unOp op t x=>(intro w0 X β s a w S f h N Q d;exact Zc g S h d)
 case convert src dst x=>(intro w0 X β s a w S f h N Q d;exact ZQ j g S h d)
 case call c=>
  cases m:c.callee with
  | builtin b=>simp only[m] at k;(intro w0 X β s a w S f h N Q d;exact ZP j g m (l k) S h d)
  | value f=>(intro w0 X β s a w S f h N Q d;exact ZI o g m S h d)
  | invoke _ _=>intro w0 X β s a w S f h N Q d;simp only[BS,g,m] at h
 all_goals (intro w0 X β s a w S f h N Q d;simp only[BS,g] at h)
end
section
variable {P:Program} {E:Env} {TI:TypeId->Info}
def DY (E:Env) (TI:TypeId->Info) (all:List Oper) (o:Oper) (f:BC) (s:St):Prop:=
 match o.guard with
 | none=>BS E TI o (Aw o) (ev s.sl) (AD s.bk) (fun g=>g=f)
 | some (j,w)=>∃g,J9 all j=some g/\
  ((nth s.sl g= .one (.bool w)/\BS E TI o (Aw o) (ev s.sl) (AD s.bk) (fun g=>g=f))\/
    ((nth s.sl g= .one (.bool (!w))\/nth s.sl g= .AF [])/\f=⟨.AF [],[],[]⟩))
def chain (E:Env) (TI:TypeId->Info) (all:List Oper):List Oper->List BC->St->Prop
 | [],[],_=>True
 | o::r,f::fs,s=>DY E TI all o f s/\chain E TI all r fs (s.app o.dst f)
 | _,_,_=>False
def fin:List Oper->List BC->St->St
 | o::r,f::fs,s=>fin r fs (s.app o.dst f)
 | _,_,s=>s
def Hx (f:BC):List Nat×List Nat:=(f.rd,f.ws.map (·.1))
theorem aM {o:Oper} {a:Act} {w:World} {N:Act->World->Prop} (h:o.wp P a w N (fun _ _ _=>False)):∃b w',N b w':=by
 unfold Oper.wp at h
 generalize (execOp a.eval o).run P w=r at h
 unfold Oper.upon at h
 split at h
 ·exact⟨_,_,h⟩
 ·exact⟨_,_,h⟩
 ·exact⟨_,_,h⟩
 ·obtain⟨e,w',c,hR,_⟩:=h [];cases e with
  | returned v=>exact⟨_,_,hR⟩
  | panicked _=>exact hR.elim
  | outgrown=>obtain⟨_,_,h⟩:=hR;exact h.elim
 ·obtain⟨v,w',hR,_⟩:=h default [];exact⟨_,_,hR⟩
 ·exact h.elim
 exact h.elim
theorem Pd {w0:World} {X:WX} {β:Nat->Option Nat} {s:St} {a:Act} {w:World} (S:Av w0 X β s a w) {g:Nat} {b:Bool} (h:nth s.sl g= .one (.bool b)):a.tmps[g]? =some (.bool b):=by
 have f:=S.BV g;rw[h] at f;have d:a.tmps.getD g undef= .bool b:=A0 f (by simp);rcases Nat.lt_or_ge g a.tmps.size with c | c
 ·simp[Array.getD,c] at d;simp[c,d]
 simp[Array.getD,Nat.not_lt.2 c,undef] at d
theorem M7 {ops:Array Oper} {o:Oper} (t:Sound P E TI o) {w0:World} {X:WX} {β:Nat->Option Nat} {s:St} {a:Act} {w:World} (S:Av w0 X β s a w) {f:BC} (h:DY E TI ops.toList o f s)
  {N:Act->World->Prop} {Q:Exit->Act->World->Prop} (n:∀p q w',Av w0 X p (s.app o.dst f) q w'->N q w'):
  if Region.wanted o (yielded ops a.tmps) then o.wp P a w N Q else N (a.put o.dst undef) w:=by
 unfold DY at h
 split at h
 ·rename_i l
  simp only[Region.wanted,l,if_true];exact t S h n
 rename_i j want l
 obtain⟨g,u,m⟩:=h;have b:(ops[j]?).bind (·.dst)=some g:=by simpa [J9] using u
 rcases m with⟨c,m⟩ |⟨c,rfl⟩
 ·have d:yielded ops a.tmps j=some want:=by simp[yielded,b,Pd S c]
  simp only[Region.wanted,l,d,beq_self_eq_true,if_true];exact t S m n
 have d:(yielded ops a.tmps j==some want)=false:=by
  rcases c with c | c
  ·have d:yielded ops a.tmps j=some (!want):=by simp[yielded,b,Pd S c]
   rw[d];cases want <;> rfl
  have d:yielded ops a.tmps j=none:=by
   have r:=S.BV g;rw[c] at r;obtain⟨arr,i,_⟩:=r;have i:a.tmps.getD g undef= .tuple arr:=i;unfold yielded;simp only[b,Option.bind_some];rcases Nat.lt_or_ge g a.tmps.size with k | k
   ·simp[Array.getD,k] at i;simp[k,i]
   simp[k]
  rw[d];rfl
 simp only[Region.wanted,l,d,Bool.false_eq_true,if_false];exact n β _ w (S.val ⟨#[],rfl,trivial⟩)
theorem YH {ops:Array Oper} {o:Oper} (d:Sound P E TI o) {w0:World} {X:WX} {β:Nat->Option Nat} {s:St} {a:Act} {w:World} (S:Av w0 X β s a w) {f:BC} (h:DY E TI ops.toList o f s):
  ∃b c w',Av w0 X b (s.app o.dst f) c w':=by
 have:=M7 (N:=fun c w'=>∃b,Av w0 X b (s.app o.dst f) c w') (Q:=fun _ _ _=>False) d S h fun b c w' h=>⟨b,h⟩
 split at this
 ·obtain⟨c,w',b,h⟩:=aM this;exact⟨b,c,w',h⟩
 obtain⟨b,h⟩:=this;exact⟨b,_,_,h⟩
theorem NZ {w0:World} {X:WX} {β:Nat->Option Nat} {s:St} {a:Act} {w:World} (S:Av w0 X β s a w) (x:Operand) (t:T) (l:List (el t)) (h:ev s.sl x= .one (.sl t l)):l.length<=140737488355328:=by
 have b:=Br S.BV x;rw[h] at b;obtain⟨_,_,_,_,c,_⟩:=A0 b (by simp);exact c
theorem SP {ops:Array Oper} {draw:Bool} {w0:World} {X:WX} {Q:St->Prop}:∀{r:List Oper} {l:Tr} {β:Nat->Option Nat} {s:St} {a:Act} {w:World},(∀o∈r,Sound P E TI o)->Av w0 X β s a w->
  Ey E TI ops.toList draw r l Q s->∃c,chain E TI ops.toList r c s/\Q (fin r c s)/\(draw=true->Gr ops.toList (l.reverse++c.map Hx)=true)
 | [],l,β,s,a,w,_,_,h=>by
  refine⟨[],trivial,?_,?_⟩
  ·cases draw
   ·exact h
   exact h.2
  rintro rfl;simpa using h.1 ()
 | o::r,l,β,s,a,w,m,S,h=>by
  have go:∀f,DY E TI ops.toList o f s->Ey E TI ops.toList draw r (Hx f::l) Q (s.app o.dst f)->
    ∃c,chain E TI ops.toList (o::r) c s/\Q (fin (o::r) c s)/\(draw=true->Gr ops.toList (l.reverse++c.map Hx)=true):=by
   intro f d i;obtain⟨u,v,w',n⟩:=YH (m o (by simp)) S d;obtain⟨c,g1,g2,p⟩:=SP (fun o t=>m o (by simp[t])) n i;exact⟨f::c,⟨d,g1⟩,g2,fun q=>by have:=p q;simpa using this⟩
  unfold Ey at h
  split at h
  ·rename_i k
   obtain⟨f,d,i⟩:=Lo (NZ S) h;exact go f (by unfold DY;rw[k];exact d _ rfl) i
  rename_i j want k
  split at h
  ·exact h.elim
  rename_i g b
  split at h
  ·rename_i hb
   obtain⟨f,d,i⟩:=Lo (NZ S) h;exact go f (by unfold DY;rw[k];exact⟨g,b,.inl ⟨hb,d _ rfl⟩⟩) i
  ·rename_i hb
   obtain⟨f,d,i⟩:=Lo (NZ S) h;exact go f (by unfold DY;rw[k];exact⟨g,b,.inl ⟨hb,d _ rfl⟩⟩) i
  ·rename_i hb
   exact go ⟨.AF [],[],[]⟩ (by unfold DY;rw[k];exact⟨g,b,.inr ⟨.inl hb,rfl⟩⟩) h
  ·rename_i hb
   exact go ⟨.AF [],[],[]⟩ (by unfold DY;rw[k];exact⟨g,b,.inr ⟨.inl hb,rfl⟩⟩) h
  ·rename_i hb
   exact go ⟨.AF [],[],[]⟩ (by unfold DY;rw[k];exact⟨g,b,.inr ⟨.inr hb,rfl⟩⟩) h
  exact h.elim
theorem Tc {ops:Array Oper} {w0:World} {X:WX} {Q:Exit->Act->World->Prop}:∀{r:List Oper} {b:List BC} {k:Nat} {β:Nat->Option Nat} {s:St} {a:Act} {w:World},(∀j,ops[k+j]? =r[j]?)->(∀o∈r,Sound P E TI o)->Av w0 X β s a w->
  chain E TI ops.toList r b s->(∀β a w,Av w0 X β (fin r b s) a w->Q .normal a w)->wpOps P ops Q (List.range' k r.length) a w
 | [],[],k,β,s,a,w,_,_,S,_,c=>c β a w S
 | o::r,f::b,k,β,s,a,w,g,i,S,d,c=>by
  have m:ops[k]? =some o:=by simpa using g 0
  have:=M7 (Q:=Q) (N:=wpOps P ops Q (List.range' (k+1) r.length)) (i o (by simp)) S d.1 fun p q w' l=>
   Tc (fun j=>by have:=g (j+1);rw[show k+1+j=k+(j+1) by omega];simpa using this) (fun o n=>i o (by simp[n])) l d.2 c
  simp only[List.length_cons,List.range'_succ,wpOps,m]
  split
  ·rename_i hw;rw[if_pos hw] at this;exact .inl this
  rename_i hw;rw[if_neg hw] at this;exact this
 |[],_::_,_,_,_,_,_,_,_,_,h,_|_::_,[],_,_,_,_,_,_,_,_,h,_=>h.elim
end
end Go.Abs
namespace Go.Abs
open Go.RowKit
section
variable {P:Program} {E:Env} {TI:TypeId->Info}
def run (m:Nat->Bool):Nat->List Oper->List BC->St->St
 | k,o::r,f::fs,s=>run m (k+1) r fs (if m k then s.app o.dst f else s)
 | _,_,_,s=>s
theorem SQ {m:Nat->Bool}:∀{r:List Oper} {a:List BC} {k:Nat} {s:St},(∀j,k<=j->j<k+r.length->m j=true)->run m k r a s=fin r a s
 | o::r,f::a,k,s,h=>by
  simp only[run,fin];rw[h k (Nat.le_refl _) (by simp),if_pos rfl];exact SQ fun j b c=>h j (by omega) (by simp;omega)
 |[],_,_,_,_|_::_,[],_,_,_=>rfl
theorem RI (s:St) (d:Option Nat) (f:BC) (x:Nat) (h:d≠some x):nth (s.app d f).sl x=nth s.sl x:=by
 cases d with
 | none=>rfl
 | some q=>
  show nth (Al s.sl q f.v) x=_
  rw[Gq,if_neg]
  rintro⟨rfl,_⟩;exact h rfl
theorem Ih (s:St) (d:Option Nat) (f:BC):(s.app d f).sl.length=s.sl.length:=by
 cases d with
 | none=>rfl
 | some q=>exact EU _ _ _
theorem Ij:∀(ws:List (Nat×AH)) (l:List (Option AH)),(By ws l).length=l.length
 | [],_=>rfl
 | p::ws,l=>by rw[By,Ij ws,EU]
theorem Mw:∀(ws:List (Nat×AH)) (l:List (Option AH)) (x:Nat),x ∉ ws.map (·.1)->AD (By ws l) x=AD l x
 | [],_,_,_=>rfl
 | p::ws,l,x,h=>by
  rw[By,Mw ws _ x (fun h'=>h (by simp at h' ⊢;exact .inr h')),Es,if_neg]
  rintro⟨rfl,_⟩;exact h (by simp)
theorem RN:∀(ws:List (Nat×AH)) (l l':List (Option AH)) (x:Nat),l.length=l'.length->AD l x=AD l' x->AD (By ws l) x=AD (By ws l') x
 | [],_,_,_,_,h=>h
 | p::ws,l,l',x,a,h=>RN ws _ _ x (by simp[EU,a]) (by rw[Es,Es,a,h])
theorem I4 {m1 m2:Nat->Bool} {x:Nat}:∀{r:List Oper} {l:List BC} {k:Nat} {s s':St},(∀j o,r[j]? =some o->m1 (k+j)≠m2 (k+j)->o.dst≠some x)->nth s.sl x=nth s'.sl x->s.sl.length=s'.sl.length->
  nth (run m1 k r l s).sl x=nth (run m2 k r l s').sl x
 | o::r,f::l,k,s,s',h,a,b=>by
  have m:=h 0 o rfl;simp only[Nat.add_zero] at m;have i:∀j g,r[j]? =some g->m1 (k+1+j)≠m2 (k+1+j)->g.dst≠some x:=fun j g n hm=>h (j+1) g (by simpa using n) (by rw[show k+(j+1)=k+1+j by omega];exact hm)
  simp only[run];cases c:m1 k <;> cases d:m2 k <;> simp only[Bool.false_eq_true,if_true,if_false]
  ·exact I4 i a b
  ·exact I4 i (by rw[RI _ _ _ _ (m (by simp[c,d]))];exact a) (by rw[Ih];exact b)
  ·exact I4 i (by rw[RI _ _ _ _ (m (by simp[c,d]))];exact a) (by rw[Ih];exact b)
  refine I4 i ?_ (by rw[Ih,Ih];exact b);cases p:o.dst with
  | none=>exact a
  | some q=>show nth (Al _ _ _) _=nth (Al _ _ _) _;rw[Gq,Gq,b,a]
 |[],_,_,_,_,_,a,_|_::_,[],_,_,_,_,a,_=>a
theorem I3 {m1 m2:Nat->Bool} {x:Nat}:∀{r:List Oper} {b:List BC} {k:Nat} {s s':St},(∀j f,b[j]? =some f->m1 (k+j)≠m2 (k+j)->x ∉ f.ws.map (·.1))->AD s.bk x=AD s'.bk x->s.bk.length=s'.bk.length->
  AD (run m1 k r b s).bk x=AD (run m2 k r b s').bk x
 | o::r,f::b,k,s,s',h,a,c=>by
  have l:=h 0 f rfl;simp only[Nat.add_zero] at l;have i:∀j m,b[j]? =some m->m1 (k+1+j)≠m2 (k+1+j)->x ∉ m.ws.map (·.1):=fun j p n hm=>h (j+1) p (by simpa using n) (by rw[show k+(j+1)=k+1+j by omega];exact hm)
  simp only[run];cases d:m1 k <;> cases g:m2 k <;> simp only[Bool.false_eq_true,if_true,if_false]
  ·exact I3 i a c
  ·exact I3 i (by show _=AD (By _ _) _;rw[Mw _ _ _ (l (by simp[d,g]))];exact a) (by show _=(By _ _).length;rw[Ij];exact c)
  ·exact I3 i (by show AD (By _ _) _=_;rw[Mw _ _ _ (l (by simp[d,g]))];exact a) (by show (By _ _).length=_;rw[Ij];exact c)
  exact I3 i (RN _ _ _ _ c a) (by show (By _ _).length=(By _ _).length;rw[Ij,Ij];exact c)
 |[],_,_,_,_,_,a,_|_::_,[],_,_,_,_,a,_=>a
theorem NV {α:Type}:∀(l:List α) (i j:Nat) (x y:α),i≠j->Al (Al l i x) j y=Al (Al l j y) i x
 | [],_,_,_,_,_=>rfl
 | _::_,0,0,_,_,h=>(h rfl).elim
 |_::_,0,_+1,_,_,_|_::_,_+1,0,_,_,_=>rfl
 | _::l,i+1,j+1,x,y,h=>by simp[Al,NV l i j x y (by omega)]
theorem Ru:∀(ws:List (Nat×AH)) (l:List (Option AH)) (i:Nat) (b:Option AH),i ∉ ws.map (·.1)->By ws (Al l i b)=Al (By ws l) i b
 | [],_,_,_,_=>rfl
 | p::ws,l,i,b,h=>by
  rw[By,By,NV _ _ _ _ _ (fun e=>h (by simp[e])),Ru ws _ i b (fun h'=>h (by simp at h' ⊢;exact .inr h'))]
theorem Rt:∀(ws a:List (Nat×AH)) (l:List (Option AH)),(∀x∈ws.map (·.1),x ∉ a.map (·.1))->By a (By ws l)=By ws (By a l)
 | [],_,_,_=>rfl
 | p::ws,a,l,h=>by
  rw[By,By,Rt ws a _ (fun x b=>h x (by simp at b ⊢;exact .inr b)),Ru a l p.1 _ (h p.1 (by simp))]
theorem Vv {s:St} {d a:Option Nat} {f b:BC} (g:∀q,d=some q->a≠some q) (h:∀x∈f.ws.map (·.1),x ∉ b.ws.map (·.1)):(s.app d f).app a b=(s.app a b).app d f:=by
 have c:Dn (Dn s.sl d f.v) a b.v=Dn (Dn s.sl a b.v) d f.v:=by
  cases d with
  | none=>rfl
  | some q=>cases a with
   | none=>rfl
   | some i=>exact NV _ _ _ _ _ fun e=>g q rfl (by rw[e])
 show St.mk _ _=St.mk _ _
 rw[St.mk.injEq];exact⟨c,Rt _ _ _ h⟩
theorem NS {m m':Nat->Bool} {i:Nat} {o:Oper} {f:BC}:∀{r:List Oper} {c:List BC} {k:Nat} {s:St},i<k->(∀j,j≠i->m' j=m j)->
  (∀j h g,r[j]? =some h->c[j]? =some g->m (k+j)=true->(∀q,h.dst=some q->o.dst≠some q)/\(∀x∈g.ws.map (·.1),x ∉ f.ws.map (·.1)))->
  (run m k r c s).app o.dst f=run m' k r c (s.app o.dst f)
 | h::r,g::c,k,s,u,hm,d=>by
  simp only[run,hm k (by omega)]
  have l:∀j b a,r[j]? =some b->c[j]? =some a->m (k+1+j)=true->(∀q,b.dst=some q->o.dst≠some q)/\(∀x∈a.ws.map (·.1),x ∉ f.ws.map (·.1)):=
   fun j b a n p t=>d (j+1) b a (by simpa using n) (by simpa using p) (by rw[show k+(j+1)=k+1+j by omega];exact t)
  cases v:m k <;> simp only[Bool.false_eq_true,if_true,if_false]
  ·exact NS (by omega) hm l
  have:=d 0 h g rfl rfl (by simpa using v);rw[NS (m':=m') (by omega) hm l,Vv this.1 this.2]
 |[],_,_,_,_,_,_|_::_,[],_,_,_,_,_=>rfl
theorem SR {m m':Nat->Bool} {i:Nat} {o:Oper} {f:BC}:∀{r:List Oper} {h:List BC} {k j0:Nat} {s:St},i=k+j0->r[j0]? =some o->h[j0]? =some f->m i=false->m' i=true->(∀j,j≠i->m' j=m j)->
  (∀j t p,j0<j->r[j]? =some t->h[j]? =some p->m (k+j)=true->(∀q,t.dst=some q->o.dst≠some q)/\(∀x∈p.ws.map (·.1),x ∉ f.ws.map (·.1)))->
  (run m k r h s).app o.dst f=run m' k r h s
 | t::r,p::h,k,0,s,u,l,n,hm,d,a,c=>by
  simp at l n;subst l n;simp only[Nat.add_zero] at u;subst u;simp only[run,hm,d,Bool.false_eq_true,if_true,if_false];exact NS (Nat.lt_succ_self _) a fun j g b v w y=>c (j+1) g b (by omega) (by simpa using v) (by simpa using w) (by rw[show i+(j+1)=i+1+j by omega];exact y)
 | t::r,p::h,k,j0+1,s,u,l,n,hm,d,a,c=>by
  simp only[run,a k (by omega)];exact SR (j0:=j0) (by omega) (by simpa using l) (by simpa using n) hm d a fun j g b z v w y=>c (j+1) g b (by omega) (by simpa using v) (by simpa using w) (by rw[show k+(j+1)=k+1+j by omega];exact y)
 | [],_,_,_,_,_,l,_,_,_,_,_=>by simp at l
 | _::_,[],_,_,_,_,_,n,_,_,_,_=>by simp at n
theorem Pf {all:List Oper}:∀{r:List Oper} {a:List BC} {k j:Nat} {s:St} {o:Oper},chain E TI all r a s->r[j]? =some o->∃f,a[j]? =some f/\DY E TI all o f (run (fun t=>decide (t<k+j)) k r a s)
 | d::r,b::a,k,0,s,o,c,h=>by
  simp at h;subst h;refine⟨b,rfl,?_⟩
  have:run (fun t=>decide (t<k+0)) k (d::r) (b::a) s=s:=by
   have e:∀(r:List Oper) (a:List BC) (k':Nat) (s:St),k<=k'->run (fun t=>decide (t<k+0)) k' r a s=s:=by
    intro r
    induction r with
    | nil=>intro a k' s _;cases a <;> rfl
    | cons o r l=>
     intro a k' s m;cases a with
     | nil=>rfl
     | cons f a=>simp only[run];rw[if_neg (by simp;omega)];exact l a (k'+1) s (by omega)
   exact e _ _ _ _ (Nat.le_refl _)
  rw[this];exact c.1
 | d::r,b::a,k,j+1,s,o,c,h=>by
  obtain⟨f,g,i⟩:=Pf (k:=k+1) c.2 (show r[j]? =some o by simpa using h);refine⟨f,by simpa using g,?_⟩;simp only[run];rw[if_pos (by simp),show k+(j+1)=k+1+j by omega];exact i
 | [],[],_,_,_,_,_,h=>by simp at h
 |[],_::_,_,_,_,_,h,_|_::_,[],_,_,_,_,h,_=>h.elim
theorem L2 {all:List Oper}:∀{r:List Oper} {a:List BC} {s:St},chain E TI all r a s->a.length=r.length
 | [],[],_,_=>rfl
 | _::_,_::_,_,h=>by simp[L2 h.2]
 |[],_::_,_,h|_::_,[],_,h=>h.elim
theorem YG {all:List Oper} {o:Oper} {f:BC} {s s':St} (b:∀x∈FN all o,nth s.sl x=nth s'.sl x) (i:∀x∈f.rd,AD s.bk x=AD s'.bk x) (h:DY E TI all o f s):DY E TI all o f s':=by
 have he:∀x∈o.op.operands,ev s.sl x=ev s'.sl x:=fun x k=>by
  cases x with
  | tmp t=>exact b t (by
   unfold FN Rg;refine List.mem_append_left _ (List.mem_append_right _ (List.mem_filterMap.2 ⟨.tmp t,by simpa using k,rfl⟩)))
  | _=>rfl
 have a:BS E TI o (Aw o) (ev s.sl) (AD s.bk) (fun g=>g=f)->BS E TI o (Aw o) (ev s'.sl) (AD s'.bk) (fun g=>g=f):=fun h=>Vt i (Vu he h)
 unfold DY at h ⊢
 split at h
 ·rename_i c;exact a h
 rename_i j want c
 obtain⟨g,g1,d⟩:=h;refine⟨g,g1,?_⟩;rw[<-b g (by unfold FN;rw[c];simp[g1])];exact d.imp (fun q=>⟨q.1,a q.2⟩) id
end
end Go.Abs
namespace Go.Abs
open Go.RowKit
section
variable {P:Program} {E:Env} {TI:TypeId->Info}
def E2:List Bool->Nat
 | []=>0
 | b::l=>(if b then 0 else 1)+E2 l
theorem TP:∀(l:List Bool) (i:Nat),l[i]? =some false->E2 (l.set i true)+1=E2 l
 | [],_,h=>by simp at h
 | b::l,0,h=>by simp at h;subst h;simp[E2];omega
 | b::l,i+1,h=>by have:=TP l i (by simpa using h);simp[E2];omega
theorem TR:∀(l:List Bool),E2 l=0->∀j,j<l.length->l[j]? =some true
 | [],_,j,h=>by simp at h
 | b::l,h,0,_=>by cases b <;> simp[E2] at h ⊢
 | b::l,h,j+1,a=>by have:=TR l (by simp[E2] at h;exact h.2) j (by simpa using a);simpa using this
theorem Lw:∀(r:List Oper) (acc:List (List Nat)) (k:Nat),k<acc.length->(Dg r acc).getD k []=acc.getD k []
 | [],_,_,_=>rfl
 | o::r,acc,k,h=>by
  rw[Dg,Lw r _ k (by simp;omega)];simp[List.getD_eq_getElem?_getD,List.getElem?_append_left h]
theorem Lx:∀(r:List Oper) (acc:List (List Nat)) (j:Nat) (o:Oper),r[j]? =some o->∀i∈(Dg r acc).getD (acc.length+j) [],∃k∈DB o,i=k\/i∈(Dg r acc).getD k []
 | [],_,_,_,h=>by simp at h
 | o::r,acc,0,b,h=>by
  simp at h;subst h;intro i a;rw[Dg,Nat.add_zero,Lw r _ acc.length (by simp)] at a;simp only[List.getD_eq_getElem?_getD,List.getElem?_concat_length,Option.getD_some] at a;obtain⟨k,c,a⟩:=List.mem_flatMap.1 a;refine⟨k,c,?_⟩;rcases List.mem_cons.1 a with rfl | a
  ·exact .inl rfl
  refine .inr ?_;rcases Nat.lt_or_ge k acc.length with h' | h'
  ·rw[Dg,Lw r _ k (by simp;omega)];simpa [List.getD_eq_getElem?_getD,List.getElem?_append_left h'] using a
  simp[List.getElem?_eq_none h'] at a
 | o::r,acc,j+1,b,h=>by
  intro i a
  have:=Lx r (acc++[(DB o).flatMap fun j=>j::acc.getD j []]) j b (by simpa using h) i (by
   rw[List.length_append,List.length_singleton,show acc.length+1+j=acc.length+(j+1) by omega];exact a)
  exact this
theorem Me:∀(r:List Oper) (a:List BC) (s:St),(fin r a s).sl.length=s.sl.length
 | o::r,f::a,s=>by rw[fin,Me r a,Ih]
 |[],_,_|_::_,[],_=>rfl
theorem Jj {a b:List Nat} (h:IV a b=true):∀x∈a,x ∉ b:=fun x c=>by
 have:=List.all_eq_true.1 h x c;simpa using this
theorem PC {ops:List Oper} {c d:Oper} {f a:List Nat×List Nat} (h:IF ops c d f a=true):
  (∀q,c.dst=some q->q ∉ FN ops d)/\(∀q,d.dst=some q->q ∉ FN ops c)/\(∀x∈f.2,x ∉ a.1/\x ∉ a.2)/\(∀x∈a.2,x ∉ f.1):=by
 simp only[IF,Bool.and_eq_true] at h;obtain⟨⟨⟨g,i⟩,j⟩,k⟩:=h;refine⟨fun q b=>Jj g q (by simp[b]),fun q b=>Jj i q (by simp[b]),fun x l=>?_,Jj k⟩;have:=Jj j x l;simpa using this
theorem QD {ops:List Oper} {o:Oper} {q:Nat} (h:o.dst=some q):q∈FN ops o:=by simp[FN,h]
theorem Wh {ops:Array Oper} {fs:List BC} {s0:St} {w0:World} {X:WX} {Q:Exit->Act->World->Prop} (hc:chain E TI ops.toList ops.toList fs s0) (hok:Gr ops.toList (fs.map Hx)=true)
  (hs:∀o∈ops.toList,Sound P E TI o) (hQ:∀β a w,Av w0 X β (fin ops.toList fs s0) a w->Q .normal a w):
  ∀(fuel:Nat) (listed:Array Bool) (β:Nat->Option Nat) (a:Act) (w:World),listed.size=ops.size->(∀j o,ops[j]? =some o->listed.getD j false=true->∀i∈DB o,listed.getD i false=true)->
   E2 listed.toList<=fuel->Av w0 X β (run (fun j=>listed.getD j false) 0 ops.toList fs s0) a w->wpAny P .any ops Q fuel listed a w:=by
 simp only[Gr,Bool.and_eq_true] at hok;obtain⟨hback,hpairs⟩:=hok
 have back:∀j o,ops[j]? =some o->∀i∈DB o,i<j:=by
  intro j o ho i hi;have hj:j<ops.toList.length:=by simpa using (Array.getElem?_eq_some_iff.1 ho).1
  have:=List.all_eq_true.1 hback j (List.mem_range.2 hj);have ho':ops.toList[j]? =some o:=by simpa using ho
  rw[ho'] at this;have:=List.all_eq_true.1 this i hi;simpa using this
 have pair:∀i j oi oj fi fj,i<j->ops[i]? =some oi->ops[j]? =some oj->fs[i]? =some fi->fs[j]? =some fj->i ∉ (Dg ops.toList []).getD j []->IF ops.toList oi oj (Hx fi) (Hx fj)=true:=by
  intro i j oi oj fi fj hij h1 h2 h3 h4 h5;have hj:j<ops.toList.length:=by simpa using (Array.getElem?_eq_some_iff.1 h2).1
  have:=List.all_eq_true.1 (List.all_eq_true.1 hpairs j (List.mem_range.2 hj)) i (List.mem_range.2 hij);rw[Bool.or_eq_true] at this;rcases this with h | h
  ·exact absurd (by simpa using h) h5
  have e1:ops.toList[i]? =some oi:=by simpa using h1
  have e2:ops.toList[j]? =some oj:=by simpa using h2
  simpa [e1,e2,h3,h4] using h
 have anyOn_mem:∀(o:Oper) (i:Nat),i∈DB o↔∃e∈o.after,Region.binds .any e=true/\e.on=i:=by
  intro o i;simp[DB,and_assoc]
 have closed:∀(listed:Array Bool),(∀j o,ops[j]? =some o->listed.getD j false=true->∀i∈DB o,listed.getD i false=true)->
   ∀(n j:Nat) (o:Oper),j<=n->ops[j]? =some o->(∀i∈DB o,listed.getD i false=true)->∀i∈(Dg ops.toList []).getD j [],listed.getD i false=true:=by
  intro listed hdc n
  induction n with
  | zero=>
   intro j o hj ho hl i hi;obtain⟨k,hk,_⟩:=Lx ops.toList [] j o (by simpa using ho) i (by simpa using hi);have:=back j o ho k hk;omega
  | succ n ih=>
   intro j o hj ho hl i hi;obtain⟨k,hk,h⟩:=Lx ops.toList [] j o (by simpa using ho) i (by simpa using hi);have hkj:=back j o ho k hk;rcases h with rfl | h
   ·exact hl _ hk
   have hk':=hl k hk
   obtain⟨ok,hok⟩:∃ok,ops[k]? =some ok:=by
    have hj:j<ops.size:=(Array.getElem?_eq_some_iff.1 ho).1;exact⟨ops[k]'(by omega),by simp⟩
   exact ih k ok (by omega) hok (hdc k ok hok hk') i h
 have all_of:∀(listed:Array Bool),listed.size=ops.size->(∀j,j<ops.size->listed.getD j false=true)->run (fun j=>listed.getD j false) 0 ops.toList fs s0=fin ops.toList fs s0:=
  fun listed hsz h=>SQ fun j _ hj=>h j (by simpa using hj)
 have none_ready:∀(listed:Array Bool),listed.size=ops.size->(∀j,j<ops.size->listed.getD j false=true)->Region.ready .any ops listed=[]:=by
  intro listed hsz h;rcases hr:Region.ready .any ops listed with _ |⟨x,l⟩
  ·rfl
  have hx:x∈Region.ready .any ops listed:=by rw[hr];simp
  obtain⟨h1,o,ho,_⟩:=mem_ready.1 hx;have hlt:=(Array.getElem?_eq_some_iff.1 ho).1;have:=h x hlt;simp[hsz,hlt] at h1 this;rw[h1] at this;cases this
 have ready_none:∀(listed:Array Bool),listed.size=ops.size->Region.ready .any ops listed=[]->∀n j,j<n->j<ops.size->listed.getD j false=true:=by
  intro listed hsz hr n
  induction n with
  | zero=>intro j hj;omega
  | succ n ih=>
   intro j hjn hj;cases hl:listed.getD j false with
   | true=>rfl
   | false=>
    exfalso
    have:j∈Region.ready .any ops listed:=mem_ready.2 ⟨by simpa [hsz,hj] using hl,ops[j],by simp[hj],fun e he hb=>by
     have hlt:=back j ops[j] (by simp[hj]) e.on ((anyOn_mem _ _).2 ⟨e,he,hb,rfl⟩);exact ih e.on (by omega) (by omega)⟩
    rw[hr] at this;cases this
 intro fuel
 induction fuel with
 | zero=>
  intro listed β a w hsz _ hu S
  have hall:∀j,j<ops.size->listed.getD j false=true:=fun j hj=>by
   have:=TR _ (Nat.le_zero.1 hu) j (by simpa [hsz] using hj);simp[hsz,hj] at this;simp[hsz,hj,this]
  exact⟨none_ready listed hsz hall,hQ β a w (by rw[all_of listed hsz hall] at S;exact S)⟩
 | succ fuel ih=>
  intro listed β a w hsz hdc hu S;refine⟨fun hr=>?_,fun i hi=>?_⟩
  ·have hall:=fun j hj=>ready_none listed hsz hr (j+1) j (Nat.lt_succ_self j) hj
   exact hQ β a w (by rw[all_of listed hsz hall] at S;exact S)
  obtain⟨h1,o,ho,hdeps⟩:=mem_ready.1 hi;have hilt:=(Array.getElem?_eq_some_iff.1 ho).1;have hil:listed.getD i false=false:=by simp[hsz,hilt] at h1 ⊢;exact h1
  have hanyi:∀k∈DB o,listed.getD k false=true:=fun k hk=>by
   obtain⟨e,he,hb,rfl⟩:=(anyOn_mem o k).1 hk;exact hdeps e he hb
  obtain⟨f,hf,hfo⟩:=Pf (k:=0) hc (show ops.toList[i]? =some o by simpa using ho);simp only[Nat.zero_add] at hfo
  have apart:∀j oj fj,ops[j]? =some oj->fs[j]? =some fj->listed.getD j false≠decide (j<i)->
    (∀q,oj.dst=some q->q ∉ FN ops.toList o)/\(∀x∈fj.ws.map (·.1),x ∉ f.rd)/\(∀q,oj.dst=some q->o.dst≠some q)/\(∀x∈fj.ws.map (·.1),x ∉ f.ws.map (·.1)):=by
   intro j oj fj hj hfj hne;have hij:j≠i:=by rintro rfl;rw[hil] at hne;simp at hne
   rcases Nat.lt_or_gt_of_ne hij with hlt | hgt
   ·have hlj:listed.getD j false=false:=by
     cases h:listed.getD j false with
     | false=>rfl
     | true=>rw[h] at hne;simp[hlt] at hne
    have hnb:j ∉ (Dg ops.toList []).getD i []:=fun hm=>by
     have:=closed listed hdc i i o (Nat.le_refl _) ho hanyi j hm;rw[hlj] at this;cases this
    obtain⟨a1,a2,a3,a4⟩:=PC (pair j i oj o fj f hlt hj ho hfj hf hnb);exact⟨a1,fun x hx=>(a3 x hx).1,fun q hq e=>a1 q hq (QD e),fun x hx=>(a3 x hx).2⟩
   have hlj:listed.getD j false=true:=by
    cases h:listed.getD j false with
    | true=>rfl
    | false=>rw[h] at hne;simp[Nat.not_lt.2 (Nat.le_of_lt hgt)] at hne
   have hnb:i ∉ (Dg ops.toList []).getD j []:=fun hm=>by
    have:=closed listed hdc j j oj (Nat.le_refl _) hj (hdc j oj hj hlj) i hm;rw[hil] at this;cases this
   obtain⟨a1,a2,a3,a4⟩:=PC (pair i j o oj f fj hgt ho hj hf hfj hnb);exact⟨a2,a4,fun q hq e=>a2 q hq (QD e),fun x hx hx'=>(a3 x hx').2 hx⟩
  have getf:∀j oj,ops[j]? =some oj->∃fj,fs[j]? =some fj:=fun j oj hj=>by
   have hlt:j<fs.length:=by rw[L2 hc];simpa using (Array.getElem?_eq_some_iff.1 hj).1
   exact⟨fs[j],List.getElem?_eq_getElem hlt⟩
  have geto:∀j (fj:BC),fs[j]? =some fj->∃oj,ops[j]? =some oj:=fun j fj hj=>by
   have hlt:j<fs.length:=(List.getElem?_eq_some_iff.1 hj).1;rw[L2 hc] at hlt;have hlt:j<ops.size:=by simpa using hlt
   exact⟨ops[j],Array.getElem?_eq_getElem hlt⟩
  have hfo':DY E TI ops.toList o f (run (fun j=>listed.getD j false) 0 ops.toList fs s0):=by
   refine YG (fun x hx=>?_) (fun x hx=>?_) hfo
   ·refine I4 (fun j oj hj hne=>?_) rfl rfl;have hne:decide (j<i)≠listed.getD j false:=by simpa using hne
    have hj':ops[j]? =some oj:=by simpa using hj
    obtain⟨fj,hfj⟩:=getf j oj hj';exact fun e=>(apart j oj fj hj' hfj (Ne.symm hne)).1 x e hx
   refine I3 (fun j fj hfj hne=>?_) rfl rfl;have hne:decide (j<i)≠listed.getD j false:=by simpa using hne
   obtain⟨oj,hj⟩:=geto j fj hfj;exact fun hm=>(apart j oj fj hj hfj (Ne.symm hne)).2.1 x hm hx
  have hget':∀j,j≠i->(listed.setIfInBounds i true).getD j false=listed.getD j false:=fun j hj=>getD_set_ne false (Ne.symm hj)
  have hgeti:(listed.setIfInBounds i true).getD i false=true:=by simp[hsz,hilt]
  have key:(run (fun j=>listed.getD j false) 0 ops.toList fs s0).app o.dst f=run (fun j=>(listed.setIfInBounds i true).getD j false) 0 ops.toList fs s0:=by
   refine SR (by omega:i=0+i) (by simpa using ho) hf hil hgeti hget' fun j oj fj hlt hj hfj hl=>?_
   simp only[Nat.zero_add] at hl;have:=apart j oj fj (by simpa using hj) hfj (by rw[hl];simp;omega);exact this.2.2
  have:=M7 (Q:=Q) (N:=wpAny P .any ops Q fuel (listed.setIfInBounds i true)) (hs o (by simpa using Array.mem_of_getElem? ho)) S hfo' fun β' a' w' S'=>by
   rw[key] at S';refine ih _ β' a' w' (by simpa using hsz) (fun j oj hj hl k hk=>?_) ?_ S'
   ·by_cases hki:k=i
    ·subst hki;exact hgeti
    rw[hget' k hki]
    by_cases hji:j=i
    ·subst hji;obtain rfl:o=oj:=Option.some.inj (ho.symm.trans hj);exact hanyi k hk
    rw[hget' j hji] at hl;exact hdc j oj hj hl k hk
   have:=TP listed.toList i (by simp[hsz,hilt] at hil;simp[hsz,hilt,hil]);simp only[Array.toList_setIfInBounds];omega
  unfold wpOp;rw[ho];simp only
  split
  ·rename_i hw;rw[if_pos hw] at this;exact .inl this
  rename_i hw;rw[if_neg hw] at this;exact this
theorem Yj (hm:P.follows .mixedOrders=true) {id:Nat} {ops:Array Oper} {draw:Bool} {s:St} {w0:World} {X:WX} {β:Nat->Option Nat} {a:Act} {w:World} {R:St->Prop} {Q:Exit->Act->World->Prop}
  (g:∀o∈ops.toList,Sound P E TI o) (S:Av w0 X β s a w) (h:Ey E TI ops.toList draw ops.toList [] R s) (l:∀s',R s'->s'.sl.length=s.sl.length->∀β a w,Av w0 X β s' a w->Q .normal a w):(Code.region id ops draw).wp P Q a w:=by
 obtain⟨b,m,hR,d⟩:=SP g S h;cases draw with
 | false=>
  refine wp_region ?_;have:=Tc (Q:=Q) (k:=0) (ops:=ops) (r:=ops.toList) (fun j=>by simp) g S m (l _ hR (Me _ _ _));rw[List.range_eq_range'];simpa using this
 | true=>
  refine wp_region_any hm ?_;have p:Av w0 X β s a {w with drawn:=w.drawn+1}:=S.ext (dst:=none) (v:= .one .BB) (u:=undef) (rd:=[]) (fun _ _=>rfl) (Nat.le_refl _) rfl rfl rfl (GW _ _);refine Wh m (by simpa using d rfl) g (l _ hR (Me _ _ _)) _ _ β a _ (by simp) (fun j o q t=>?_) ?_ ?_
  ·have c:=(Array.getElem?_eq_some_iff.1 q).1;simp[c] at t
  ·have:∀n,E2 (List.replicate n false)=n:=fun n=>by induction n with
    | zero=>rfl
    | succ n i=>rw[List.replicate_succ,E2,i];simp;omega
   simp[this]
  have e:run (fun j=>(Array.replicate ops.size false).getD j false) 0 ops.toList b s=s:=by
   have:∀(r:List Oper) (b:List BC) (k:Nat) (s:St),run (fun j=>(Array.replicate ops.size false).getD j false) k r b s=s:=by
    intro r
    induction r with
    | nil=>intro b k s;cases b <;> rfl
    | cons o r i=>
     intro b k s;cases b with
     | nil=>rfl
     | cons f b=>
      simp only[run];rw[if_neg,i]
      by_cases h:k<ops.size <;> simp[h]
   exact this _ _ _ _
  rw[e];exact p
end
end Go.Abs
