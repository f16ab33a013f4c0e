/- Part 6 of a proof. Conditions: each theorem's own. -/
import Derived.Orders
import Derived.Test.YtmaoeopjnhfplaaGreatPk04
set_option linter.all false
set_option maxHeartbeats 8000000
set_option maxRecDepth 20000
namespace Go.Abs
open Go.RowKit
def Qb (o:Oper):Bool:=
 match o.op with
 |.alloc _|.box _ _|.makeSlice _ _ _|.buildSlice _ _ _=>o.dst.isSome
 | .call c=>match c.callee with
  | .builtin _=>o.dst.isSome
  | _=>true
 | _=>true
section
variable {P:Program} {TI:TypeId->Info}
theorem CD.rB {w0:World} {X:WX} {β:Nat->Option Nat} {s:St} {a:Act} {w:World} {q id v:Nat} {t:T} {l:List (el t)} {rd H:List Nat}
  (S:CD w0 X β (s.app (some q) ⟨.one (.BI t id v 0 l.length),[(id,.arr v t l)],rd⟩) a w) (f:id<s.bk.length) (O:id≠0):
  CD w0 X β (s.app (some q) ⟨.one (.sl t l),[(id,.dead v)],H⟩) a w:=by
 have p:∀k,Ag (By s.bk id (some (.arr v t l))) k=if k=id then some (.arr v t l) else Ag s.bk k:=fun k=>by
  rw[I1];by_cases h:k=id <;> simp[h,f]
 have u:∀k,Ag (By s.bk id (some (.dead v))) k=if k=id then some (.dead v) else Ag s.bk k:=fun k=>by
  rw[I1];by_cases h:k=id <;> simp[h,f]
 have n:∀k,BK (Ag (By s.bk id (some (.dead v)))) k=BK (Ag (By s.bk id (some (.arr v t l)))) k:=fun k=>by
  rw[HY _ _ _ f,HY _ _ _ f];rfl
 have g:∀k,live (Ag (By s.bk id (some (.dead v)))) k->live (Ag (By s.bk id (some (.arr v t l)))) k/\k≠id:=fun k d=>by
  rw[JV _ _ _ f] at d
  by_cases h:k=id
  ·rw[if_pos h] at d;simp[BA.live] at d
  rw[if_neg h] at d;exact⟨by rw[JV _ _ _ f,if_neg h];exact d,h⟩
 have x:live (Ag (By s.bk id (some (.arr v t l)))) id:=by rw[JV _ _ _ f,if_pos rfl];rfl
 have hle:(cx X w β (Ag (By s.bk id (some (.arr v t l))))).le (cx X w β (Ag (By s.bk id (some (.dead v))))):=
  ⟨fun k=>Nat.le_of_eq (n k).symm,fun _ _=>rfl,fun k b arr e _ _ R=>⟨arr,R,rfl⟩,fun b hb=>⟨⟨⟨hb.1.1,fun k d=>hb.1.2 k (g k d).1⟩,hb.2⟩,rfl⟩⟩
 have C:∀b o,w.heap[b]? =some o->b<w.heap.size:=fun b o h=>by
  rcases Nat.lt_or_ge b w.heap.size with h' | h'
  ·exact h'
  simp[Array.getElem?_eq_none h'] at h
 refine⟨S.defers,by have:=S.len;simpa [St.app,HU,IF] using this,by have:=S.J9;simpa [St.app,EW,IF] using this,fun i=>?_,fun k b d=>?_,fun k k' b d c hb z=>S.inj k k' b (g k d).1 (g k' c).1 hb z,
  fun k b d hb=>S.own k b (g k d).1 hb,S.os,S.tape,S.output,S.size,S.block,fun k b d=>?_,S.fresh,fun U Y=>?_⟩
 ·have W:=S.DF i
  show CB _ (nth (By s.sl q (.one (.sl t l))) i) _
  have m:CB (cx X w β (Ag (By s.bk id (some (.arr v t l))))) (nth (By s.sl q (.one (.BI t id v 0 l.length))) i) (a.tmps.getD i undef):=W;rw[Lw] at m ⊢
  by_cases h:i=q/\q<s.sl.length
  ·rw[if_pos h] at m ⊢;have hc:=CP m (by simp)
   have F:v=(cx X w β (Ag (By s.bk id (some (.arr v t l))))).cv id:=by
    show v=BK _ id
    rw[HY _ _ _ f,if_pos rfl];rfl
   obtain⟨base,cap,hu,g1,g2,N⟩:=RA hc F;refine .inr ?_
   show rep w _ (.sl t) l [_]
   have D:l.length<=140737488355328:=S.lens id (.arr v t l) (by show Ag (By s.bk id (some (.arr v t l))) id=_;rw[p,if_pos rfl]);refine⟨base,cap,by rw[hu],g1,D,?_⟩
   by_cases r:l=[]
   ·exact .inl r
   right
   have V:0<l.length:=List.length_pos_iff.2 r;rcases N with rfl |⟨b,arr,e,G,M,q3,q4⟩
   ·omega
   rcases S.blocks id (.arr v t l) (by show Ag (By s.bk id (some (.arr v t l))) id=_;rw[p,if_pos rfl]) with⟨K,L⟩ |⟨b',J,e',K,L,p3⟩
   ·exact absurd L r
   obtain rfl:b'=b:=Option.some.inj (K.symm.trans G);rw[Nat.zero_mul] at M
   have Q:X.A b':=by
    rcases S.own id b' x G with h | h
    ·exact S.fresh b' h
    exact absurd h.2 O
   refine⟨b',0,M,⟨⟨C _ _ q3,fun k d e=>(g k d).2 (S.inj k id b' (g k d).1 x e G)⟩,Q⟩,fun j y Z=>?_⟩;obtain⟨us,k1,k2⟩:=p3 j y Z;exact⟨us,EN hle.I _ _ _ k1,by rw[Nat.zero_add];exact k2⟩
  rw[if_neg h] at m ⊢;exact CB.mono hle m
 ·have c:Ag (By s.bk id (some (.dead v))) k=some b:=d;rw[u] at c
  by_cases h:k=id
  ·rw[if_pos h] at c;cases Option.some.inj c
   trivial
  rw[if_neg h] at c;have hb:Ag (By s.bk id (some (.arr v t l))) k=some b:=by rw[p,if_neg h];exact c
  exact Ee.mono hle (n k) (fun _ _=>rfl) (S.blocks k b hb)
 ·have c:Ag (By s.bk id (some (.dead v))) k=some b:=d;rw[u] at c
  by_cases h:k=id
  ·rw[if_pos h] at c;cases Option.some.inj c
   trivial
  rw[if_neg h] at c;exact S.lens k b (by show Ag (By s.bk id (some (.arr v t l))) k=_;rw[p,if_neg h];exact c)
 have B:=g 0 U;exact S.Mg B.1 ((n 0).symm.trans Y)
theorem rU (A:∀t,FP P t (TI t)) {o:Oper} {c:Call} {b:Builtin} (p:o.op= .call c) (hc:c.callee= .builtin b) (m:o.dst≠none):Sound P (env P) TI o:=by
 intro w0 X β s a w S f h N Q k;simp only[DC,p,hc] at h;rcases Lf.1 h with h |⟨hb,h⟩
 ·exact eA A p hc m S h k
 obtain⟨g,z,H⟩:=Nt (fun t l L=>absurd (S6 hb h) (by rw[L];exact (by decide:¬(1=2)))) h;obtain⟨t,id,v,n,l,C,G,M,I,_⟩:=V5 H;subst M;obtain⟨q,r⟩:=Option.ne_none_iff_exists'.1 m;rw[r] at k;refine eA A p hc m S (z _ rfl) (fun y F w' j=>k y F w' ?_);rw[r,C] at j;rw[<-I]
 by_cases i:id<s.bk.length
 ·exact j.rB i G
 have d:s.bk.length<=id:=Nat.le_of_not_lt i;have J:CE o=q:=by simp[CE,r]
 rcases jw hb (z _ rfl) (by rw[C]) with e |⟨x,D⟩
 ·have u:s.sl.length<=q:=by
   have e1:=S.len;have e2:=S.J9;omega
  have e1:∀(f:CT) (B:BA),f.ws=[(id,B)]->s.app (some q) f=s:=fun f B K=>by
   unfold St.app;rw[K];simp only[HU,EW,KT _ _ _ u,KT _ _ _ d]
  rw[e1 _ _ rfl] at j;rw[e1 _ _ rfl];exact j
 rw[LA _ _ d] at D;cases D
theorem WI (j:∀t,FP P t (TI t)) (o:Oper) (k:Qb o=true):Sound P (env P) TI o:=by
 unfold Qb at k;have l:o.dst.isSome=true->o.dst≠none:=fun h e=>by simp[e] at h
 cases g:o.op <;> simp only[g] at k
 case move x=>(intro w0 X β s a w S f h N Q d;exact rf g S h d)
 case assign x=>(intro w0 X β s a w S f h N Q d;exact rP g S h d)
 case nilCheck x=>(intro w0 X β s a w S f h N Q d;exact rh g S h d)
 case pick c x y=>(intro w0 X β s a w S f h N Q d;exact ri g S h d)
 case alloc t=>(intro w0 X β s a w S f h N Q d;exact rO j g (l k) S h d)
 case box t x=>(intro w0 X β s a w S f h N Q d;exact rR g (l k) S h d)
 case extract x i=>(intro w0 X β s a w S f h N Q d;exact rW g S h d)
 case load t x=>(intro w0 X β s a w S f h N Q d;exact ra j g S h d)
 case store t p x=>(intro w0 X β s a w S f h N Q d;exact rl j g S h d)
 case fieldAddr t x i=>(intro w0 X β s a w S f h N Q d;exact rY j g S h d)
 case field t x i=>(intro w0 X β s a w S f h N Q d;exact rX j g S h d)
 case build t ps=>(intro w0 X β s a w S f h N Q d;exact rS j g S h d)
 case buildSlice t n ps=>(intro w0 X β s a w S f h N Q d;exact rT j g (l k) S h d)
 case makeSlice t x y=>(intro w0 X β s a w S f h N Q d;exact re j g (l k) S h d)
 case indexAddr t x i=>(intro w0 X β s a w S f h N Q d;exact rZ j g S h d)
 case slice t x lo hi mx=>(intro w0 X β s a w S f h N Q d;exact rj j g S h d)
 case binOp op t x y t'=>(intro w0 X β s a w S f h N Q d;exact rQ j g S h d)
 case unOp op t x=>(intro w0 X β s a w S f h N Q d;exact rm g S h d)
 case convert src dst x=>(intro w0 X β s a w S f h N Q d;exact rV j g S h d)
 case call c=>
  cases hc:c.callee with
  | builtin b=>simp only[hc] at k;(intro w0 X β s a w S f h N Q d;exact rU j g hc (l k) S h d)
  | value f=>(intro w0 X β s a w S f h N Q d;exact rN o g hc S h d)
  | invoke _ _=>intro w0 X β s a w S f h N Q d;simp only[DC,g,hc] at h
 all_goals (intro w0 X β s a w S f h N Q d;simp only[DC,g] at h)
end
section
variable {P:Program} {E:Env} {TI:TypeId->Info}
def G6 (E:Env) (TI:TypeId->Info) (all:List Oper) (o:Oper) (f:CT) (s:St):Prop:=
 match o.guard with
 | none=>DC E TI o (CE o) (ev s.sl) (Ag s.bk) (fun g=>g=f)
 | some (j,w)=>∃g,Qu all j=some g/\
  ((nth s.sl g= .one (.bool w)/\DC E TI o (CE o) (ev s.sl) (Ag s.bk) (fun g=>g=f))\/
    ((nth s.sl g= .one (.bool (!w))\/nth s.sl g= .AI [])/\f=⟨.AI [],[],[]⟩))
def chain (E:Env) (TI:TypeId->Info) (all:List Oper):List Oper->List CT->St->Prop
 | [],[],_=>True
 | o::r,f::fs,s=>G6 E TI all o f s/\chain E TI all r fs (s.app o.dst f)
 | _,_,_=>False
def fin:List Oper->List CT->St->St
 | o::r,f::fs,s=>fin r fs (s.app o.dst f)
 | _,_,s=>s
def NU (f:CT):List Nat×List Nat:=(f.rd,f.ws.map (·.1))
theorem su {o:Oper} {a:Act} {w:World} {N:Act->World->Prop} (h:o.wp P a w N (fun _ _ _=>False)):∃b w',N b w':=by
 unfold Oper.wp at h
 generalize (execOp a.eval o).run P w=r at h
 unfold Oper.upon at h
 split at h
 ·exact⟨_,_,h⟩
 ·exact⟨_,_,h⟩
 ·exact⟨_,_,h⟩
 ·obtain⟨e,w',c,hR,_⟩:=h [];cases e with
  | returned v=>exact⟨_,_,hR⟩
  | panicked _=>exact hR.elim
  | outgrown=>obtain⟨_,_,h⟩:=hR;exact h.elim
 ·obtain⟨v,w',hR,_⟩:=h default [];exact⟨_,_,hR⟩
 ·exact h.elim
 exact h.elim
theorem YR {w0:World} {X:WX} {β:Nat->Option Nat} {s:St} {a:Act} {w:World} (S:CD w0 X β s a w) {g:Nat} {b:Bool} (h:nth s.sl g= .one (.bool b)):a.tmps[g]? =some (.bool b):=by
 have d:=S.DF g;rw[h] at d;have c:a.tmps.getD g undef= .bool b:=CP d (by simp);rcases Nat.lt_or_ge g a.tmps.size with h3 | h3
 ·simp[Array.getD,h3] at c;simp[h3,c]
 simp[Array.getD,Nat.not_lt.2 h3,undef] at c
theorem VM {ops:Array Oper} {o:Oper} (r:Sound P E TI o) {w0:World} {X:WX} {β:Nat->Option Nat} {s:St} {a:Act} {w:World} (S:CD w0 X β s a w) {f:CT} (h:G6 E TI ops.toList o f s)
  {N:Act->World->Prop} {Q:Exit->Act->World->Prop} (m:∀n p w',CD w0 X n (s.app o.dst f) p w'->N p w'):
  if Region.wanted o (yielded ops a.tmps) then o.wp P a w N Q else N (a.put o.dst undef) w:=by
 unfold G6 at h
 split at h
 ·rename_i l
  simp only[Region.wanted,l,if_true];exact r S h m
 rename_i j want l
 obtain⟨g,t,h3⟩:=h;have b:(ops[j]?).bind (·.dst)=some g:=by simpa [Qu] using t
 rcases h3 with⟨c,h3⟩ |⟨c,rfl⟩
 ·have d:yielded ops a.tmps j=some want:=by simp[yielded,b,YR S c]
  simp only[Region.wanted,l,d,beq_self_eq_true,if_true];exact r S h3 m
 have d:(yielded ops a.tmps j==some want)=false:=by
  rcases c with c | c
  ·have d:yielded ops a.tmps j=some (!want):=by simp[yielded,b,YR S c]
   rw[d];cases want <;> rfl
  have d:yielded ops a.tmps j=none:=by
   have q:=S.DF g;rw[c] at q;obtain⟨arr,i,_⟩:=q;have i:a.tmps.getD g undef= .tuple arr:=i;unfold yielded;simp only[b,Option.bind_some];rcases Nat.lt_or_ge g a.tmps.size with k | k
   ·simp[Array.getD,k] at i;simp[k,i]
   simp[k]
  rw[d];rfl
 simp only[Region.wanted,l,d,Bool.false_eq_true,if_false];exact m β _ w (S.val ⟨#[],rfl,trivial⟩)
theorem pH {ops:Array Oper} {o:Oper} (d:Sound P E TI o) {w0:World} {X:WX} {β:Nat->Option Nat} {s:St} {a:Act} {w:World} (S:CD w0 X β s a w) {f:CT} (h:G6 E TI ops.toList o f s):
  ∃b c w',CD w0 X b (s.app o.dst f) c w':=by
 have:=VM (N:=fun c w'=>∃b,CD w0 X b (s.app o.dst f) c w') (Q:=fun _ _ _=>False) d S h fun b c w' h=>⟨b,h⟩
 split at this
 ·obtain⟨c,w',b,h⟩:=su this;exact⟨b,c,w',h⟩
 obtain⟨b,h⟩:=this;exact⟨b,_,_,h⟩
theorem WC {w0:World} {X:WX} {β:Nat->Option Nat} {s:St} {a:Act} {w:World} (S:CD w0 X β s a w) (x:Operand) (t:T) (l:List (el t)) (h:ev s.sl x= .one (.sl t l)):l.length<=140737488355328:=by
 have b:=EP S.DF x;rw[h] at b;obtain⟨_,_,_,_,c,_⟩:=CP b (by simp);exact c
theorem dS {ops:Array Oper} {draw:Bool} {w0:World} {X:WX} {Q:St->Prop}:∀{r:List Oper} {tr:Tr} {β:Nat->Option Nat} {s:St} {a:Act} {w:World},(∀o∈r,Sound P E TI o)->CD w0 X β s a w->
  I6 E TI ops.toList draw r tr Q s->∃fs,chain E TI ops.toList r fs s/\Q (fin r fs s)/\(draw=true->LB ops.toList (tr.reverse++fs.map NU)=true)
 | [],tr,β,s,a,w,_,_,h=>by
  refine⟨[],trivial,?_,?_⟩
  ·cases draw
   ·exact h
   exact h.2
  rintro rfl;simpa using h.1 ()
 | o::r,tr,β,s,a,w,k,S,h=>by
  have go:∀f,G6 E TI ops.toList o f s->I6 E TI ops.toList draw r (NU f::tr) Q (s.app o.dst f)->
    ∃fs,chain E TI ops.toList (o::r) fs s/\Q (fin (o::r) fs s)/\(draw=true->LB ops.toList (tr.reverse++fs.map NU)=true):=by
   intro f c d;obtain⟨q,t,w',l⟩:=pH (k o (by simp)) S c;obtain⟨fs,g1,g2,m⟩:=dS (fun o p=>k o (by simp[p])) l d;exact⟨f::fs,⟨c,g1⟩,g2,fun n=>by have:=m n;simpa using this⟩
  unfold I6 at h
  split at h
  ·rename_i i
   obtain⟨f,c,d⟩:=S4 (WC S) h;exact go f (by unfold G6;rw[i];exact c _ rfl) d
  rename_i j want i
  split at h
  ·exact h.elim
  rename_i g b
  split at h
  ·rename_i hb
   obtain⟨f,c,d⟩:=S4 (WC S) h;exact go f (by unfold G6;rw[i];exact⟨g,b,.inl ⟨hb,c _ rfl⟩⟩) d
  ·rename_i hb
   obtain⟨f,c,d⟩:=S4 (WC S) h;exact go f (by unfold G6;rw[i];exact⟨g,b,.inl ⟨hb,c _ rfl⟩⟩) d
  ·rename_i hb
   exact go ⟨.AI [],[],[]⟩ (by unfold G6;rw[i];exact⟨g,b,.inr ⟨.inl hb,rfl⟩⟩) h
  ·rename_i hb
   exact go ⟨.AI [],[],[]⟩ (by unfold G6;rw[i];exact⟨g,b,.inr ⟨.inl hb,rfl⟩⟩) h
  ·rename_i hb
   exact go ⟨.AI [],[],[]⟩ (by unfold G6;rw[i];exact⟨g,b,.inr ⟨.inr hb,rfl⟩⟩) h
  exact h.elim
theorem fM {ops:Array Oper} {w0:World} {X:WX} {Q:Exit->Act->World->Prop}:∀{r:List Oper} {fs:List CT} {k:Nat} {β:Nat->Option Nat} {s:St} {a:Act} {w:World},(∀j,ops[k+j]? =r[j]?)->(∀o∈r,Sound P E TI o)->CD w0 X β s a w->
  chain E TI ops.toList r fs s->(∀β a w,CD w0 X β (fin r fs s) a w->Q .normal a w)->wpOps P ops Q (List.range' k r.length) a w
 | [],[],k,β,s,a,w,_,_,S,_,b=>b β a w S
 | o::r,f::fs,k,β,s,a,w,c,d,S,hc,b=>by
  have i:ops[k]? =some o:=by simpa using c 0
  have:=VM (Q:=Q) (N:=wpOps P ops Q (List.range' (k+1) r.length)) (d o (by simp)) S hc.1 fun m n w' g=>
   fM (fun j=>by have:=c (j+1);rw[show k+1+j=k+(j+1) by omega];simpa using this) (fun o l=>d o (by simp[l])) g hc.2 b
  simp only[List.length_cons,List.range'_succ,wpOps,i]
  split
  ·rename_i hw;rw[if_pos hw] at this;exact .inl this
  rename_i hw;rw[if_neg hw] at this;exact this
 |[],_::_,_,_,_,_,_,_,_,_,h,_|_::_,[],_,_,_,_,_,_,_,_,h,_=>h.elim
end
section
variable {P:Program} {E:Env} {TI:TypeId->Info}
def run (m:Nat->Bool):Nat->List Oper->List CT->St->St
 | k,o::r,f::fs,s=>run m (k+1) r fs (if m k then s.app o.dst f else s)
 | _,_,_,s=>s
theorem dT {m:Nat->Bool}:∀{r:List Oper} {fs:List CT} {k:Nat} {s:St},(∀j,k<=j->j<k+r.length->m j=true)->run m k r fs s=fin r fs s
 | o::r,f::fs,k,s,h=>by
  simp only[run,fin];rw[h k (Nat.le_refl _) (by simp),if_pos rfl];exact dT fun j a b=>h j (by omega) (by simp;omega)
 |[],_,_,_,_|_::_,[],_,_,_=>rfl
theorem bG (s:St) (d:Option Nat) (f:CT) (x:Nat) (h:d≠some x):nth (s.app d f).sl x=nth s.sl x:=by
 cases d with
 | none=>rfl
 | some q=>
  show nth (By s.sl q f.v) x=_
  rw[Lw,if_neg]
  rintro⟨rfl,_⟩;exact h rfl
theorem OS (s:St) (d:Option Nat) (f:CT):(s.app d f).sl.length=s.sl.length:=by
 cases d with
 | none=>rfl
 | some q=>exact IF _ _ _
theorem OU:∀(ws:List (Nat×BA)) (l:List (Option BA)),(EW ws l).length=l.length
 | [],_=>rfl
 | p::ws,l=>by rw[EW,OU ws,IF]
theorem VB:∀(ws:List (Nat×BA)) (l:List (Option BA)) (x:Nat),x ∉ ws.map (·.1)->Ag (EW ws l) x=Ag l x
 | [],_,_,_=>rfl
 | p::ws,l,x,h=>by
  rw[EW,VB ws _ x (fun h'=>h (by simp at h' ⊢;exact .inr h')),I1,if_neg]
  rintro⟨rfl,_⟩;exact h (by simp)
theorem bK:∀(ws:List (Nat×BA)) (l l':List (Option BA)) (x:Nat),l.length=l'.length->Ag l x=Ag l' x->Ag (EW ws l) x=Ag (EW ws l') x
 | [],_,_,_,_,h=>h
 | p::ws,l,l',x,a,h=>bK ws _ _ x (by simp[IF,a]) (by rw[I1,I1,a,h])
theorem PJ {m1 m2:Nat->Bool} {x:Nat}:∀{r:List Oper} {fs:List CT} {k:Nat} {s s':St},(∀j o,r[j]? =some o->m1 (k+j)≠m2 (k+j)->o.dst≠some x)->nth s.sl x=nth s'.sl x->s.sl.length=s'.sl.length->
  nth (run m1 k r fs s).sl x=nth (run m2 k r fs s').sl x
 | o::r,f::fs,k,s,s',h,a,b=>by
  have l:=h 0 o rfl;simp only[Nat.add_zero] at l;have i:∀j g,r[j]? =some g->m1 (k+1+j)≠m2 (k+1+j)->g.dst≠some x:=fun j g m hm=>h (j+1) g (by simpa using m) (by rw[show k+(j+1)=k+1+j by omega];exact hm)
  simp only[run];cases c:m1 k <;> cases d:m2 k <;> simp only[Bool.false_eq_true,if_true,if_false]
  ·exact PJ i a b
  ·exact PJ i (by rw[bG _ _ _ _ (l (by simp[c,d]))];exact a) (by rw[OS];exact b)
  ·exact PJ i (by rw[bG _ _ _ _ (l (by simp[c,d]))];exact a) (by rw[OS];exact b)
  refine PJ i ?_ (by rw[OS,OS];exact b);cases n:o.dst with
  | none=>exact a
  | some q=>show nth (By _ _ _) _=nth (By _ _ _) _;rw[Lw,Lw,b,a]
 |[],_,_,_,_,_,a,_|_::_,[],_,_,_,_,a,_=>a
theorem PI {m1 m2:Nat->Bool} {x:Nat}:∀{r:List Oper} {fs:List CT} {k:Nat} {s s':St},(∀j f,fs[j]? =some f->m1 (k+j)≠m2 (k+j)->x ∉ f.ws.map (·.1))->Ag s.bk x=Ag s'.bk x->s.bk.length=s'.bk.length->
  Ag (run m1 k r fs s).bk x=Ag (run m2 k r fs s').bk x
 | o::r,f::fs,k,s,s',h,a,b=>by
  have i:=h 0 f rfl;simp only[Nat.add_zero] at i;have g:∀j l,fs[j]? =some l->m1 (k+1+j)≠m2 (k+1+j)->x ∉ l.ws.map (·.1):=fun j n m hm=>h (j+1) n (by simpa using m) (by rw[show k+(j+1)=k+1+j by omega];exact hm)
  simp only[run];cases c:m1 k <;> cases d:m2 k <;> simp only[Bool.false_eq_true,if_true,if_false]
  ·exact PI g a b
  ·exact PI g (by show _=Ag (EW _ _) _;rw[VB _ _ _ (i (by simp[c,d]))];exact a) (by show _=(EW _ _).length;rw[OU];exact b)
  ·exact PI g (by show Ag (EW _ _) _=_;rw[VB _ _ _ (i (by simp[c,d]))];exact a) (by show (EW _ _).length=_;rw[OU];exact b)
  exact PI g (bK _ _ _ _ b a) (by show (EW _ _).length=(EW _ _).length;rw[OU,OU];exact b)
 |[],_,_,_,_,_,a,_|_::_,[],_,_,_,_,a,_=>a
theorem V7 {α:Type}:∀(l:List α) (i j:Nat) (x y:α),i≠j->By (By l i x) j y=By (By l j y) i x
 | [],_,_,_,_,_=>rfl
 | _::_,0,0,_,_,h=>(h rfl).elim
 |_::_,0,_+1,_,_,_|_::_,_+1,0,_,_,_=>rfl
 | _::l,i+1,j+1,x,y,h=>by simp[By,V7 l i j x y (by omega)]
theorem cJ:∀(ws:List (Nat×BA)) (l:List (Option BA)) (i:Nat) (b:Option BA),i ∉ ws.map (·.1)->EW ws (By l i b)=By (EW ws l) i b
 | [],_,_,_,_=>rfl
 | p::ws,l,i,b,h=>by
  rw[EW,EW,V7 _ _ _ _ _ (fun e=>h (by simp[e])),cJ ws _ i b (fun h'=>h (by simp at h' ⊢;exact .inr h'))]
theorem cI:∀(ws a:List (Nat×BA)) (l:List (Option BA)),(∀x∈ws.map (·.1),x ∉ a.map (·.1))->EW a (EW ws l)=EW ws (EW a l)
 | [],_,_,_=>rfl
 | p::ws,a,l,h=>by
  rw[EW,EW,cI ws a _ (fun x b=>h x (by simp at b ⊢;exact .inr b)),cJ a l p.1 _ (h p.1 (by simp))]
theorem jv {s:St} {d a:Option Nat} {f b:CT} (c:∀q,d=some q->a≠some q) (g:∀x∈f.ws.map (·.1),x ∉ b.ws.map (·.1)):(s.app d f).app a b=(s.app a b).app d f:=by
 have e1:HU (HU s.sl d f.v) a b.v=HU (HU s.sl a b.v) d f.v:=by
  cases d with
  | none=>rfl
  | some q=>cases a with
   | none=>rfl
   | some h=>exact V7 _ _ _ _ _ fun e=>c q rfl (by rw[e])
 show St.mk _ _=St.mk _ _
 rw[St.mk.injEq];exact⟨e1,cI _ _ _ g⟩
theorem V4 {m m':Nat->Bool} {i:Nat} {o:Oper} {f:CT}:∀{r:List Oper} {fs:List CT} {k:Nat} {s:St},i<k->(∀j,j≠i->m' j=m j)->
  (∀j g d,r[j]? =some g->fs[j]? =some d->m (k+j)=true->(∀q,g.dst=some q->o.dst≠some q)/\(∀x∈d.ws.map (·.1),x ∉ f.ws.map (·.1)))->
  (run m k r fs s).app o.dst f=run m' k r fs (s.app o.dst f)
 | g::r,d::fs,k,s,p,hm,c=>by
  simp only[run,hm k (by omega)]
  have h:∀j b a,r[j]? =some b->fs[j]? =some a->m (k+1+j)=true->(∀q,b.dst=some q->o.dst≠some q)/\(∀x∈a.ws.map (·.1),x ∉ f.ws.map (·.1)):=
   fun j b a l n h3=>c (j+1) b a (by simpa using l) (by simpa using n) (by rw[show k+(j+1)=k+1+j by omega];exact h3)
  cases t:m k <;> simp only[Bool.false_eq_true,if_true,if_false]
  ·exact V4 (by omega) hm h
  have:=c 0 g d rfl rfl (by simpa using t);rw[V4 (m':=m') (by omega) hm h,jv this.1 this.2]
 |[],_,_,_,_,_,_|_::_,[],_,_,_,_,_=>rfl
theorem dU {m m':Nat->Bool} {i:Nat} {o:Oper} {f:CT}:∀{r:List Oper} {fs:List CT} {k j0:Nat} {s:St},i=k+j0->r[j0]? =some o->fs[j0]? =some f->m i=false->m' i=true->(∀j,j≠i->m' j=m j)->
  (∀j p n,j0<j->r[j]? =some p->fs[j]? =some n->m (k+j)=true->(∀q,p.dst=some q->o.dst≠some q)/\(∀x∈n.ws.map (·.1),x ∉ f.ws.map (·.1)))->
  (run m k r fs s).app o.dst f=run m' k r fs s
 | p::r,n::fs,k,0,s,t,h,l,hm,d,a,c=>by
  simp at h l;subst h l;simp only[Nat.add_zero] at t;subst t;simp only[run,hm,d,Bool.false_eq_true,if_true,if_false];exact V4 (Nat.lt_succ_self _) a fun j g b u v w=>c (j+1) g b (by omega) (by simpa using u) (by simpa using v) (by rw[show i+(j+1)=i+1+j by omega];exact w)
 | p::r,n::fs,k,j0+1,s,t,h,l,hm,d,a,c=>by
  simp only[run,a k (by omega)];exact dU (j0:=j0) (by omega) (by simpa using h) (by simpa using l) hm d a fun j g b q0 u v w=>c (j+1) g b (by omega) (by simpa using u) (by simpa using v) (by rw[show k+(j+1)=k+1+j by omega];exact w)
 | [],_,_,_,_,_,h,_,_,_,_,_=>by simp at h
 | _::_,[],_,_,_,_,_,l,_,_,_,_=>by simp at l
theorem YY {all:List Oper}:∀{r:List Oper} {fs:List CT} {k j:Nat} {s:St} {o:Oper},chain E TI all r fs s->r[j]? =some o->∃f,fs[j]? =some f/\G6 E TI all o f (run (fun t=>decide (t<k+j)) k r fs s)
 | b::r,a::fs,k,0,s,o,hc,h=>by
  simp at h;subst h;refine⟨a,rfl,?_⟩
  have:run (fun t=>decide (t<k+0)) k (b::r) (a::fs) s=s:=by
   have e:∀(r:List Oper) (fs:List CT) (k':Nat) (s:St),k<=k'->run (fun t=>decide (t<k+0)) k' r fs s=s:=by
    intro r
    induction r with
    | nil=>intro fs k' s _;cases fs <;> rfl
    | cons o r g=>
     intro fs k' s i;cases fs with
     | nil=>rfl
     | cons f fs=>simp only[run];rw[if_neg (by simp;omega)];exact g fs (k'+1) s (by omega)
   exact e _ _ _ _ (Nat.le_refl _)
  rw[this];exact hc.1
 | b::r,a::fs,k,j+1,s,o,hc,h=>by
  obtain⟨f,c,d⟩:=YY (k:=k+1) hc.2 (show r[j]? =some o by simpa using h);refine⟨f,by simpa using c,?_⟩;simp only[run];rw[if_pos (by simp),show k+(j+1)=k+1+j by omega];exact d
 | [],[],_,_,_,_,_,h=>by simp at h
 |[],_::_,_,_,_,_,h,_|_::_,[],_,_,_,_,h,_=>h.elim
theorem TS {all:List Oper}:∀{r:List Oper} {fs:List CT} {s:St},chain E TI all r fs s->fs.length=r.length
 | [],[],_,_=>rfl
 | _::_,_::_,_,h=>by simp[TS h.2]
 |[],_::_,_,h|_::_,[],_,h=>h.elim
theorem pG {all:List Oper} {o:Oper} {f:CT} {s s':St} (b:∀x∈Jb all o,nth s.sl x=nth s'.sl x) (i:∀x∈f.rd,Ag s.bk x=Ag s'.bk x) (h:G6 E TI all o f s):G6 E TI all o f s':=by
 have he:∀x∈o.op.operands,ev s.sl x=ev s'.sl x:=fun x k=>by
  cases x with
  | tmp t=>exact b t (by
   unfold Jb bc;refine List.mem_append_left _ (List.mem_append_right _ (List.mem_filterMap.2 ⟨.tmp t,by simpa using k,rfl⟩)))
  | _=>rfl
 have a:DC E TI o (CE o) (ev s.sl) (Ag s.bk) (fun g=>g=f)->DC E TI o (CE o) (ev s'.sl) (Ag s'.bk) (fun g=>g=f):=fun h=>jt i (ju he h)
 unfold G6 at h ⊢
 split at h
 ·rename_i c;exact a h
 rename_i j want c
 obtain⟨g,g1,d⟩:=h;refine⟨g,g1,?_⟩;rw[<-b g (by unfold Jb;rw[c];simp[g1])];exact d.imp (fun q=>⟨q.1,a q.2⟩) id
end
section
variable {P:Program} {E:Env} {TI:TypeId->Info}
def JA:List Bool->Nat
 | []=>0
 | b::l=>(if b then 0 else 1)+JA l
theorem ez:∀(l:List Bool) (i:Nat),l[i]? =some false->JA (l.set i true)+1=JA l
 | [],_,h=>by simp at h
 | b::l,0,h=>by simp at h;subst h;simp[JA];omega
 | b::l,i+1,h=>by have:=ez l i (by simpa using h);simp[JA];omega
theorem fB:∀(l:List Bool),JA l=0->∀j,j<l.length->l[j]? =some true
 | [],_,j,h=>by simp at h
 | b::l,h,0,_=>by cases b <;> simp[JA] at h ⊢
 | b::l,h,j+1,a=>by have:=fB l (by simp[JA] at h;exact h.2) j (by simpa using a);simpa using this
theorem TG:∀(r:List Oper) (acc:List (List Nat)) (k:Nat),k<acc.length->(HK r acc).getD k []=acc.getD k []
 | [],_,_,_=>rfl
 | o::r,acc,k,h=>by
  rw[HK,TG r _ k (by simp;omega)];simp[List.getD_eq_getElem?_getD,List.getElem?_append_left h]
theorem TH:∀(r:List Oper) (acc:List (List Nat)) (j:Nat) (o:Oper),r[j]? =some o->∀i∈(HK r acc).getD (acc.length+j) [],∃k∈GV o,i=k\/i∈(HK r acc).getD k []
 | [],_,_,_,h=>by simp at h
 | o::r,acc,0,b,h=>by
  simp at h;subst h;intro i a;rw[HK,Nat.add_zero,TG r _ acc.length (by simp)] at a;simp only[List.getD_eq_getElem?_getD,List.getElem?_concat_length,Option.getD_some] at a;obtain⟨k,c,a⟩:=List.mem_flatMap.1 a;refine⟨k,c,?_⟩;rcases List.mem_cons.1 a with rfl | a
  ·exact .inl rfl
  refine .inr ?_;rcases Nat.lt_or_ge k acc.length with h' | h'
  ·rw[HK,TG r _ k (by simp;omega)];simpa [List.getD_eq_getElem?_getD,List.getElem?_append_left h'] using a
  simp[List.getElem?_eq_none h'] at a
 | o::r,acc,j+1,b,h=>by
  intro i a
  have:=TH r (acc++[(GV o).flatMap fun j=>j::acc.getD j []]) j b (by simpa using h) i (by
   rw[List.length_append,List.length_singleton,show acc.length+1+j=acc.length+(j+1) by omega];exact a)
  exact this
theorem Ue:∀(r:List Oper) (fs:List CT) (s:St),(fin r fs s).sl.length=s.sl.length
 | o::r,f::fs,s=>by rw[fin,Ue r fs,OS]
 |[],_,_|_::_,[],_=>rfl
theorem QU {a b:List Nat} (h:OF a b=true):∀x∈a,x ∉ b:=fun x c=>by
 have:=List.all_eq_true.1 h x c;simpa using this
theorem X6 {ops:List Oper} {c d:Oper} {f a:List Nat×List Nat} (h:Ny ops c d f a=true):
  (∀q,c.dst=some q->q ∉ Jb ops d)/\(∀q,d.dst=some q->q ∉ Jb ops c)/\(∀x∈f.2,x ∉ a.1/\x ∉ a.2)/\(∀x∈a.2,x ∉ f.1):=by
 simp only[Ny,Bool.and_eq_true] at h;obtain⟨⟨⟨g,i⟩,h3⟩,j⟩:=h;refine⟨fun q b=>QU g q (by simp[b]),fun q b=>QU i q (by simp[b]),fun x k=>?_,QU j⟩;have:=QU h3 x k;simpa using this
theorem ZF {ops:List Oper} {o:Oper} {q:Nat} (h:o.dst=some q):q∈Jb ops o:=by simp[Jb,h]
theorem lL {ops:Array Oper} {fs:List CT} {s0:St} {w0:World} {X:WX} {Q:Exit->Act->World->Prop} (hc:chain E TI ops.toList ops.toList fs s0) (hok:LB ops.toList (fs.map NU)=true)
  (hs:∀o∈ops.toList,Sound P E TI o) (hQ:∀β a w,CD w0 X β (fin ops.toList fs s0) a w->Q .normal a w):
  ∀(fuel:Nat) (listed:Array Bool) (β:Nat->Option Nat) (a:Act) (w:World),listed.size=ops.size->(∀j o,ops[j]? =some o->listed.getD j false=true->∀i∈GV o,listed.getD i false=true)->
   JA listed.toList<=fuel->CD w0 X β (run (fun j=>listed.getD j false) 0 ops.toList fs s0) a w->wpAny P .any ops Q fuel listed a w:=by
 simp only[LB,Bool.and_eq_true] at hok;obtain⟨hback,hpairs⟩:=hok
 have back:∀j o,ops[j]? =some o->∀i∈GV o,i<j:=by
  intro j o ho i hi;have hj:j<ops.toList.length:=by simpa using (Array.getElem?_eq_some_iff.1 ho).1
  have:=List.all_eq_true.1 hback j (List.mem_range.2 hj);have ho':ops.toList[j]? =some o:=by simpa using ho
  rw[ho'] at this;have:=List.all_eq_true.1 this i hi;simpa using this
 have pair:∀i j oi oj fi fj,i<j->ops[i]? =some oi->ops[j]? =some oj->fs[i]? =some fi->fs[j]? =some fj->i ∉ (HK ops.toList []).getD j []->Ny ops.toList oi oj (NU fi) (NU fj)=true:=by
  intro i j oi oj fi fj hij h1 h2 h3 h4 h5;have hj:j<ops.toList.length:=by simpa using (Array.getElem?_eq_some_iff.1 h2).1
  have:=List.all_eq_true.1 (List.all_eq_true.1 hpairs j (List.mem_range.2 hj)) i (List.mem_range.2 hij);rw[Bool.or_eq_true] at this;rcases this with h | h
  ·exact absurd (by simpa using h) h5
  have e1:ops.toList[i]? =some oi:=by simpa using h1
  have e2:ops.toList[j]? =some oj:=by simpa using h2
  simpa [e1,e2,h3,h4] using h
 have anyOn_mem:∀(o:Oper) (i:Nat),i∈GV o↔∃e∈o.after,Region.binds .any e=true/\e.on=i:=by
  intro o i;simp[GV,and_assoc]
 have closed:∀(listed:Array Bool),(∀j o,ops[j]? =some o->listed.getD j false=true->∀i∈GV o,listed.getD i false=true)->
   ∀(n j:Nat) (o:Oper),j<=n->ops[j]? =some o->(∀i∈GV o,listed.getD i false=true)->∀i∈(HK ops.toList []).getD j [],listed.getD i false=true:=by
  intro listed hdc n
  induction n with
  | zero=>
   intro j o hj ho hl i hi;obtain⟨k,hk,_⟩:=TH ops.toList [] j o (by simpa using ho) i (by simpa using hi);have:=back j o ho k hk;omega
  | succ n ih=>
   intro j o hj ho hl i hi;obtain⟨k,hk,h⟩:=TH ops.toList [] j o (by simpa using ho) i (by simpa using hi);have hkj:=back j o ho k hk;rcases h with rfl | h
   ·exact hl _ hk
   have hk':=hl k hk
   obtain⟨ok,hok⟩:∃ok,ops[k]? =some ok:=by
    have hj:j<ops.size:=(Array.getElem?_eq_some_iff.1 ho).1;exact⟨ops[k]'(by omega),by simp⟩
   exact ih k ok (by omega) hok (hdc k ok hok hk') i h
 have all_of:∀(listed:Array Bool),listed.size=ops.size->(∀j,j<ops.size->listed.getD j false=true)->run (fun j=>listed.getD j false) 0 ops.toList fs s0=fin ops.toList fs s0:=
  fun listed hsz h=>dT fun j _ hj=>h j (by simpa using hj)
 have none_ready:∀(listed:Array Bool),listed.size=ops.size->(∀j,j<ops.size->listed.getD j false=true)->Region.ready .any ops listed=[]:=by
  intro listed hsz h;rcases hr:Region.ready .any ops listed with _ |⟨x,l⟩
  ·rfl
  have hx:x∈Region.ready .any ops listed:=by rw[hr];simp
  obtain⟨h1,o,ho,_⟩:=mem_ready.1 hx;have hlt:=(Array.getElem?_eq_some_iff.1 ho).1;have:=h x hlt;simp[hsz,hlt] at h1 this;rw[h1] at this;cases this
 have ready_none:∀(listed:Array Bool),listed.size=ops.size->Region.ready .any ops listed=[]->∀n j,j<n->j<ops.size->listed.getD j false=true:=by
  intro listed hsz hr n
  induction n with
  | zero=>intro j hj;omega
  | succ n ih=>
   intro j hjn hj;cases hl:listed.getD j false with
   | true=>rfl
   | false=>
    exfalso
    have:j∈Region.ready .any ops listed:=mem_ready.2 ⟨by simpa [hsz,hj] using hl,ops[j],by simp[hj],fun e he hb=>by
     have hlt:=back j ops[j] (by simp[hj]) e.on ((anyOn_mem _ _).2 ⟨e,he,hb,rfl⟩);exact ih e.on (by omega) (by omega)⟩
    rw[hr] at this;cases this
 intro fuel
 induction fuel with
 | zero=>
  intro listed β a w hsz _ hu S
  have hall:∀j,j<ops.size->listed.getD j false=true:=fun j hj=>by
   have:=fB _ (Nat.le_zero.1 hu) j (by simpa [hsz] using hj);simp[hsz,hj] at this;simp[hsz,hj,this]
  exact⟨none_ready listed hsz hall,hQ β a w (by rw[all_of listed hsz hall] at S;exact S)⟩
 | succ fuel ih=>
  intro listed β a w hsz hdc hu S;refine⟨fun hr=>?_,fun i hi=>?_⟩
  ·have hall:=fun j hj=>ready_none listed hsz hr (j+1) j (Nat.lt_succ_self j) hj
   exact hQ β a w (by rw[all_of listed hsz hall] at S;exact S)
  obtain⟨h1,o,ho,hdeps⟩:=mem_ready.1 hi;have hilt:=(Array.getElem?_eq_some_iff.1 ho).1;have hil:listed.getD i false=false:=by simp[hsz,hilt] at h1 ⊢;exact h1
  have hanyi:∀k∈GV o,listed.getD k false=true:=fun k hk=>by
   obtain⟨e,he,hb,rfl⟩:=(anyOn_mem o k).1 hk;exact hdeps e he hb
  obtain⟨f,hf,hfo⟩:=YY (k:=0) hc (show ops.toList[i]? =some o by simpa using ho);simp only[Nat.zero_add] at hfo
  have apart:∀j oj fj,ops[j]? =some oj->fs[j]? =some fj->listed.getD j false≠decide (j<i)->
    (∀q,oj.dst=some q->q ∉ Jb ops.toList o)/\(∀x∈fj.ws.map (·.1),x ∉ f.rd)/\(∀q,oj.dst=some q->o.dst≠some q)/\(∀x∈fj.ws.map (·.1),x ∉ f.ws.map (·.1)):=by
   intro j oj fj hj hfj hne;have hij:j≠i:=by rintro rfl;rw[hil] at hne;simp at hne
   rcases Nat.lt_or_gt_of_ne hij with hlt | hgt
   ·have hlj:listed.getD j false=false:=by
     cases h:listed.getD j false with
     | false=>rfl
     | true=>rw[h] at hne;simp[hlt] at hne
    have hnb:j ∉ (HK ops.toList []).getD i []:=fun hm=>by
     have:=closed listed hdc i i o (Nat.le_refl _) ho hanyi j hm;rw[hlj] at this;cases this
    obtain⟨a1,a2,a3,a4⟩:=X6 (pair j i oj o fj f hlt hj ho hfj hf hnb);exact⟨a1,fun x hx=>(a3 x hx).1,fun q hq e=>a1 q hq (ZF e),fun x hx=>(a3 x hx).2⟩
   have hlj:listed.getD j false=true:=by
    cases h:listed.getD j false with
    | true=>rfl
    | false=>rw[h] at hne;simp[Nat.not_lt.2 (Nat.le_of_lt hgt)] at hne
   have hnb:i ∉ (HK ops.toList []).getD j []:=fun hm=>by
    have:=closed listed hdc j j oj (Nat.le_refl _) hj (hdc j oj hj hlj) i hm;rw[hil] at this;cases this
   obtain⟨a1,a2,a3,a4⟩:=X6 (pair i j o oj f fj hgt ho hj hf hfj hnb);exact⟨a2,a4,fun q hq e=>a2 q hq (ZF e),fun x hx hx'=>(a3 x hx').2 hx⟩
  have getf:∀j oj,ops[j]? =some oj->∃fj,fs[j]? =some fj:=fun j oj hj=>by
   have hlt:j<fs.length:=by rw[TS hc];simpa using (Array.getElem?_eq_some_iff.1 hj).1
   exact⟨fs[j],List.getElem?_eq_getElem hlt⟩
  have geto:∀j (fj:CT),fs[j]? =some fj->∃oj,ops[j]? =some oj:=fun j fj hj=>by
   have hlt:j<fs.length:=(List.getElem?_eq_some_iff.1 hj).1;rw[TS hc] at hlt;have hlt:j<ops.size:=by simpa using hlt
   exact⟨ops[j],Array.getElem?_eq_getElem hlt⟩
  have hfo':G6 E TI ops.toList o f (run (fun j=>listed.getD j false) 0 ops.toList fs s0):=by
   refine pG (fun x hx=>?_) (fun x hx=>?_) hfo
   ·refine PJ (fun j oj hj hne=>?_) rfl rfl;have hne:decide (j<i)≠listed.getD j false:=by simpa using hne
    have hj':ops[j]? =some oj:=by simpa using hj
    obtain⟨fj,hfj⟩:=getf j oj hj';exact fun e=>(apart j oj fj hj' hfj (Ne.symm hne)).1 x e hx
   refine PI (fun j fj hfj hne=>?_) rfl rfl;have hne:decide (j<i)≠listed.getD j false:=by simpa using hne
   obtain⟨oj,hj⟩:=geto j fj hfj;exact fun hm=>(apart j oj fj hj hfj (Ne.symm hne)).2.1 x hm hx
  have hget':∀j,j≠i->(listed.setIfInBounds i true).getD j false=listed.getD j false:=fun j hj=>getD_set_ne false (Ne.symm hj)
  have hgeti:(listed.setIfInBounds i true).getD i false=true:=by simp[hsz,hilt]
  have key:(run (fun j=>listed.getD j false) 0 ops.toList fs s0).app o.dst f=run (fun j=>(listed.setIfInBounds i true).getD j false) 0 ops.toList fs s0:=by
   refine dU (by omega:i=0+i) (by simpa using ho) hf hil hgeti hget' fun j oj fj hlt hj hfj hl=>?_
   simp only[Nat.zero_add] at hl;have:=apart j oj fj (by simpa using hj) hfj (by rw[hl];simp;omega);exact this.2.2
  have:=VM (Q:=Q) (N:=wpAny P .any ops Q fuel (listed.setIfInBounds i true)) (hs o (by simpa using Array.mem_of_getElem? ho)) S hfo' fun β' a' w' S'=>by
   rw[key] at S';refine ih _ β' a' w' (by simpa using hsz) (fun j oj hj hl k hk=>?_) ?_ S'
   ·by_cases hki:k=i
    ·subst hki;exact hgeti
    rw[hget' k hki]
    by_cases hji:j=i
    ·subst hji;obtain rfl:o=oj:=Option.some.inj (ho.symm.trans hj);exact hanyi k hk
    rw[hget' j hji] at hl;exact hdc j oj hj hl k hk
   have:=ez listed.toList i (by simp[hsz,hilt] at hil;simp[hsz,hilt,hil]);simp only[Array.toList_setIfInBounds];omega
  unfold wpOp;rw[ho];simp only
  split
  ·rename_i hw;rw[if_pos hw] at this;exact .inl this
  rename_i hw;rw[if_neg hw] at this;exact this
theorem qe (hm:P.follows .mixedOrders=true) {id:Nat} {ops:Array Oper} {draw:Bool} {s:St} {w0:World} {X:WX} {β:Nat->Option Nat} {a:Act} {w:World} {R:St->Prop} {Q:Exit->Act->World->Prop}
  (d:∀o∈ops.toList,Sound P E TI o) (S:CD w0 X β s a w) (h:I6 E TI ops.toList draw ops.toList [] R s) (i:∀s',R s'->s'.sl.length=s.sl.length->∀β a w,CD w0 X β s' a w->Q .normal a w):(Code.region id ops draw).wp P Q a w:=by
 obtain⟨fs,hc,hR,c⟩:=dS d S h;cases draw with
 | false=>
  refine wp_region ?_;have:=fM (Q:=Q) (k:=0) (ops:=ops) (r:=ops.toList) (fun j=>by simp) d S hc (i _ hR (Ue _ _ _));rw[List.range_eq_range'];simpa using this
 | true=>
  refine wp_region_any hm ?_;have l:CD w0 X β s a {w with drawn:=w.drawn+1}:=S.ext (dst:=none) (v:= .one .CQ) (u:=undef) (rd:=[]) (fun _ _=>rfl) (Nat.le_refl _) rfl rfl rfl (LM _ _);refine lL hc (by simpa using c rfl) d (i _ hR (Ue _ _ _)) _ _ β a _ (by simp) (fun j o m p=>?_) ?_ ?_
  ·have b:=(Array.getElem?_eq_some_iff.1 m).1;simp[b] at p
  ·have:∀n,JA (List.replicate n false)=n:=fun n=>by induction n with
    | zero=>rfl
    | succ n g=>rw[List.replicate_succ,JA,g];simp;omega
   simp[this]
  have e:run (fun j=>(Array.replicate ops.size false).getD j false) 0 ops.toList fs s=s:=by
   have:∀(r:List Oper) (fs:List CT) (k:Nat) (s:St),run (fun j=>(Array.replicate ops.size false).getD j false) k r fs s=s:=by
    intro r
    induction r with
    | nil=>intro fs k s;cases fs <;> rfl
    | cons o r g=>
     intro fs k s;cases fs with
     | nil=>rfl
     | cons f fs=>
      simp only[run];rw[if_neg,g]
      by_cases h:k<ops.size <;> simp[h]
   exact this _ _ _ _
  rw[e];exact l
end
section
variable {P:Program} {E:Env} {TI:TypeId->Info}
theorem sw {c:Code} {Q:Exit->Act->World->Prop} (I:Nat->Act->World->Prop) {k:Nat} {a:Act} {w:World} (m:I k a w)
  (round:∀k a w,I k a w->c.wp P (Exit.then (fun g w'=>∃k',k'<k/\I k' g w') Q) a w):(Code.loop c).wp P Q a w:=by
 have least:∀(a:Act) (w:World) (n:Nat),I n a w->∃k,I k a w/\∀j,I j a w->k<=j:=by
  intro a w n
  induction n using Nat.strongRecOn with
  | _ n r=>
   intro l
   by_cases h:∃j,j<n/\I j a w
   ·obtain⟨j,d,b⟩:=h;exact r j d b
   exact⟨n,l,fun j q=>Nat.le_of_not_lt fun i=>h ⟨j,i,q⟩⟩
 have⟨μ,f⟩:∃μ:Act->World->Nat,∀a w,(∃n,I n a w)->I (μ a w) a w/\∀j,I j a w->μ a w<=j:=by
  have:∀p:Act×World,∃k,(∃n,I n p.1 p.2)->I k p.1 p.2/\∀j,I j p.1 p.2->k<=j:=fun p=>by
   by_cases h:∃n,I n p.1 p.2
   ·obtain⟨n,l⟩:=h;obtain⟨k,d,b⟩:=least p.1 p.2 n l;exact⟨k,fun _=>⟨d,b⟩⟩
   exact⟨0,fun h'=>absurd h' h⟩
  exact⟨fun a w=>Classical.choose (this (a,w)),fun a w=>Classical.choose_spec (this (a,w))⟩
 refine wp_loop (fun a w=>∃n,I n a w) μ ⟨k,m⟩ fun a w o=>?_
 refine wp_mono (round _ a w (f a w o).1) fun e g w' he=>?_
 cases e with
 | normal=>obtain⟨k',d,b⟩:=he;exact⟨⟨k',b⟩,Nat.lt_of_le_of_lt ((f g w' ⟨k',b⟩).2 k' b) d⟩
 | _=>exact he
def Mn (s:St) (bs:List Nat) (k:Nat):BA:=match Ag s.bk k with | some b=>if k==0&&b.BK !=0 then .dead 0 else Ol (Ag s.bk) bs b | none=> .dead 0
theorem OP (s:St) (a:List Nat) (k:Nat):Mn s a k= .dead 0\/∃b,Ag s.bk k=some b/\Mn s a k=Ol (Ag s.bk) a b/\(k=0->b.BK=0):=by
 unfold Mn
 split
 ·rename_i b hb
  split
  ·exact .inl rfl
  rename_i h
  refine .inr ⟨b,hb,rfl,fun e=>?_⟩;subst e;simpa using h
 exact .inl rfl
theorem o4 (bk:Nat->Option BA) (a:List Nat) (b:BA):(Ol bk a b).BK=0:=by cases b <;> rfl
theorem o3 (bk:Nat->Option BA) (a:List Nat) (b:BA):(Ol bk a b).live=b.live:=by cases b <;> rfl
theorem m0 (s:St) (a:List Nat) (k:Nat) (r:List Nat):FT s a (k::r)=Mn s a k::FT s a r:=rfl
theorem bJ (s:St) (a:List Nat):∀(c:List Nat) (l:List (Option BA)) (id:Nat),Ag (I2 c (FT s a c) l) id=if id∈c/\id<l.length then some (Mn s a id) else Ag l id
 | [],l,id=>by simp[I2,FT]
 | k::r,l,id=>by
  rw[m0,I2,bJ s a r,IF,I1]
  by_cases b:id<l.length
  ·by_cases d:id∈r
   ·simp[b,d]
   by_cases h3:id=k
   ·subst h3;simp[b,d]
   simp[b,d,h3]
  by_cases h3:id=k
  ·subst h3;simp[b]
  simp[b,h3]
theorem bI (s:St) (a:List Nat):∀(ks:List Nat) (l:List AV) (i:Nat),nth (Hl ks (Fi s a ks) l) i=if i∈ks/\i<l.length then U9 (Ag s.bk) a (nth s.sl i) else nth l i
 | [],l,i=>by simp[Hl,Fi]
 | k::r,l,i=>by
  rw[Fi,Hl,bI s a r,IF,Lw]
  by_cases b:i<l.length
  ·by_cases c:i∈r
   ·simp[b,c]
   by_cases h3:i=k
   ·subst h3;simp[b,c]
   simp[b,c,h3]
  by_cases h3:i=k
  ·subst h3;simp[b]
  simp[b,h3]
theorem Z9:∀(c:List Nat) (a:List BA) (l:List (Option BA)),(I2 c a l).length=l.length
 |[],_,_|_::_,[],_=>by simp[I2]
 | k::r,b::a,l=>by rw[I2,Z9 r,IF]
theorem OT:∀(ks:List Nat) (vs:List AV) (l:List AV),(Hl ks vs l).length=l.length
 |[],_,_|_::_,[],_=>by simp[Hl]
 | k::r,b::a,l=>by rw[Hl,OT r,IF]
theorem It {α:Type}:∀(n:Nat) (x:α),(I4 n x).length=n
 | 0,_=>rfl
 | n+1,x=>by simp[I4,It n x]
theorem VC:∀(n i:Nat),Ag (I4 n none) i=none
 |0,_|n+1,0=>rfl
 | n+1,i+1=>VC n i
theorem VA:∀(n i:Nat),nth (I4 n (.one .CQ)) i= .one .CQ
 |0,_|n+1,0=>rfl
 | n+1,i+1=>VA n i
theorem bD {x y:Cx} {bk:Nat->Option BA} {g:List Nat} (hw:y.w=x.w) (a:y.β=x.β) (f:x.cv=BK bk) (n:∀id,y.cv id=0) (d:∀b,x.I b->y.I b):∀{c:AC} {v:Value},Bn x c v->Bn y (K7 bk g c) v
 |.CQ,_,r|.int _ _,_,r|.bool _,_,r|.fn _,_,r|.nil,_,r=>r
 | .sl _ _,_,r=>EN (fun b hb=>⟨d b hb,by rw[hw]⟩) _ _ _ r
 | .BI t id v off len,u,r=>by
  simp only[K7]
  split
  ·rename_i h
   simp only[Bool.and_eq_true,beq_iff_eq] at h;have:=r.2 (by rw[f];exact h.2.symm);exact⟨⟨r.1.1,Nat.zero_le _⟩,fun _=>by rw[hw,a];exact this⟩
  exact r.1.1
 | .Ex _ _ _ _ _,_,r=>r.1.1
 | .BC id v off,u,r=>by
  simp only[K7]
  split
  ·rename_i h
   simp only[Bool.and_eq_true,beq_iff_eq] at h;have:=r.2 (by rw[f];exact h.2.symm);exact⟨⟨r.1.1,Nat.zero_le _⟩,fun _=>by rw[a];exact this⟩
  exact r.1.1
 | .Ea t id v i k,u,r=>by
  simp only[K7]
  split
  ·rename_i h
   simp only[Bool.and_eq_true,beq_iff_eq] at h;have:=r.2 (by rw[f];exact h.2.symm);exact⟨⟨r.1.1,Nat.zero_le _⟩,fun _=>by rw[a];exact this⟩
  exact r.1.1
 | .ub _,_,h=>h
 | .FE t z off,_,⟨b,o,us,j,l,h3,m⟩=>⟨b,o,us,j,d b l,EN (fun b hb=>⟨d b hb,by rw[hw]⟩) _ _ _ h3,by rw[hw];exact m⟩
 | .own _ _ _,_,r=>r.elim
theorem BO.norm {x y:Cx} {bk:Nat->Option BA} {g:List Nat} (hw:y.w=x.w) (a:y.β=x.β) (d:x.cv=BK bk) (f:∀id,y.cv id=0) (c:∀b,x.I b->y.I b):∀{cs:List AC} {us:List Value},BO (Bn x) cs us->BO (Bn y) (cs.map (K7 bk g)) us
 | [],[],_=>trivial
 | _::_,_::_,h=>⟨bD hw a d f c h.1,BO.norm hw a d f c h.2⟩
 |[],_::_,h|_::_,[],h=>h.elim
theorem o5 {x y:Cx} {bk:Nat->Option BA} {j:List Nat} (hw:y.w=x.w) (d:y.β=x.β) (g:x.cv=BK bk) (i:∀id,y.cv id=0) (f:∀b,x.I b->y.I b) {a:AV} {v:Value} (h:CB x a v):CB y (U9 bk j a) v:=by
 cases a with
 | one c=>
  rcases h with rfl | h
  ·exact .inl rfl
  exact .inr (bD hw d g i f h)
 | agg cs=>obtain⟨arr,e,h⟩:=h;exact⟨arr,e,BO.norm hw d g i f h⟩
 | AI _=>exact .inl rfl
theorem CD.head {w0:World} {X:WX} {β:Nat->Option Nat} {s:St} {a:Act} {w:World} (S:CD w0 X β s a w) {n:Nat} (z:s.sl.length=n) (ks c:List Nat):CD w0 X β (Iz n ks (Fi s c ks) c (FT s c c)) a w:=by
 have j:∀id b,Ag (Iz n ks (Fi s c ks) c (FT s c c)).bk id=some b->b=Mn s c id:=fun id b h=>by
  have h:Ag (I2 c (FT s c c) (I4 n none)) id=some b:=h;rw[bJ,VC] at h
  split at h
  ·exact (Option.some.inj h).symm
  cases h
 have k:∀id,BK (Ag (Iz n ks (Fi s c ks) c (FT s c c)).bk) id=0:=fun id=>by
  unfold BK
  split
  ·rename_i b hb
   rw[j id b hb];rcases OP s c id with h |⟨b',_,h,_⟩ <;> rw[h]
   ·rfl
   exact o4 _ _ _
  rfl
 have d:∀id,live (Ag (Iz n ks (Fi s c ks) c (FT s c c)).bk) id->live (Ag s.bk) id:=fun id ⟨b,hb,g⟩=>by
  have:=j id b hb;subst this;rcases OP s c id with h |⟨b',f,h,_⟩ <;> rw[h] at g
  ·cases g
  rw[o3] at g;exact⟨b',f,g⟩
 have p:∀b,(cx X w β (Ag s.bk)).I b->(cx X w β (Ag (Iz n ks (Fi s c ks) c (FT s c c)).bk)).I b:=fun b hb=>⟨⟨hb.1.1,fun id g=>hb.1.2 id (d id g)⟩,hb.2⟩
 refine⟨S.defers,?_,?_,fun i=>?_,fun id b hb=>?_,fun id v b m o=>S.inj id v b (d _ m) (d _ o),fun id b m=>S.own id b (d _ m),S.os,S.tape,S.output,S.size,S.block,fun id b hb=>?_,S.fresh,fun g _=>?_⟩
 ·show (Hl _ _ _).length=_
  rw[OT,It,<-z];exact S.len
 ·show (I2 _ _ _).length=_
  rw[Z9,It,<-z];exact S.len
 ·show CB _ (nth (Hl _ _ _) i) _
  rw[bI,VA]
  split
  ·exact o5 (x:=cx X w β (Ag s.bk)) (y:=cx X w β (Ag (Iz n ks (Fi s c ks) c (FT s c c)).bk)) rfl rfl rfl k p (S.DF i)
  exact LM _ _
 ·have:=j id b hb;subst this;rcases OP s c id with h |⟨b',f,h,_⟩ <;> rw[h]
  ·trivial
  have r:=S.blocks id b' f;cases b' with
  | dead _=>trivial
  | var _ cs=>obtain⟨b,arr,e,m,o,h3⟩:=r;exact⟨b,arr,e,m,o,BO.norm (x:=cx X w β (Ag s.bk)) (y:=cx X w β (Ag (Iz n ks (Fi s c ks) c (FT s c c)).bk)) rfl rfl rfl k p h3⟩
  | arr _ t l=>
   refine r.imp (fun q=>q) fun⟨b,arr,e,m,o,h3⟩=>⟨b,arr,e,m,o,fun i y B=>?_⟩
   obtain⟨us,C,D⟩:=h3 i y B;exact⟨us,EN (w':=w) (fun b hb=>⟨p b hb,rfl⟩) _ _ _ C,D⟩
 ·have:=j id b hb;subst this;rcases OP s c id with h |⟨b',f,h,_⟩ <;> rw[h]
  ·trivial
  have:=S.lens id b' f;cases b' <;> exact this
 have u:=d 0 g;obtain⟨b,hb,g⟩:=g;have:=j 0 b hb;subst this;rcases OP s c 0 with h |⟨b',f,h,A⟩ <;> rw[h] at g
 ·cases g
 exact S.Mg u (by unfold BK;rw[f];exact A rfl)
def Il:Code->Bool
 | .region _ ops _=>ops.toList.all Qb
 |.seq a b|.cond _ a b=>Il a&&Il b
 |.block _ c|.loop c=>Il c
 | _=>true
def sP:AX->Exit
 | .Eb=> .normal
 | .exit n=> .exit n
 | .ret=> .ret
def LW (w0:World) (X:WX) (n:Nat) (Q:AX->St->Prop) (e:Exit) (a:Act) (w:World):Prop:=
 ∃x s β,e=sP x/\Q x s/\s.sl.length=n/\CD w0 X β s a w
theorem Gy (hm:P.follows .mixedOrders=true) (p:∀o,Qb o=true->Sound P E TI o) {n:Nat} {w0:World} {X:WX}:∀{c:Code} {Q:AX->St->Prop} {β:Nat->Option Nat} {s:St} {a:Act} {w:World},Il c=true->s.sl.length=n->CD w0 X β s a w->EZ E TI n c Q s->
  c.wp P (LW w0 X n Q) a w
 | .skip,Q,β,s,a,w,_,j,S,h=>wp_skip ⟨.Eb,s,β,rfl,h,j,S⟩
 | .exit i,Q,β,s,a,w,_,j,S,h=>wp_exit ⟨.exit i,s,β,rfl,h,j,S⟩
 | .ret,Q,β,s,a,w,_,j,S,h=>wp_ret ⟨.ret,s,β,rfl,h,j,S⟩
 | .region id ops draw,Q,β,s,a,w,m,j,S,h=>
  qe hm (fun o F=>p o (List.all_eq_true.1 m o F)) S h fun s' t B d r w' l=>⟨.Eb,s',d,rfl,t,by rw[B];exact j,l⟩
 | .seq x y,Q,β,s,a,w,m,j,S,h=>by
  simp only[Il,Bool.and_eq_true] at m;refine wp_seq (wp_mono (Gy hm p m.1 j S h) fun e r w' he=>?_);obtain⟨x',s',d,rfl,g,f,l⟩:=he;cases x' with
  | Eb=>exact Gy hm p m.2 f l g
  | exit i=>exact⟨.exit i,s',d,rfl,g,f,l⟩
  | ret=>exact⟨.ret,s',d,rfl,g,f,l⟩
 | .cond c x y,Q,β,s,a,w,m,j,S,h=>by
  simp only[Il,Bool.and_eq_true] at m;have hc:=EP S.DF c
  have plain:(match ev s.sl c with | .one (.bool true)=>EZ E TI n x Q s | .one (.bool false)=>EZ E TI n y Q s | .one (.ub u)=>(u=true->EZ E TI n x Q s)/\EZ E TI n y Q s | _=>False)->(Code.cond c x y).wp P (LW w0 X n Q) a w:=by
   intro h
   split at h
   ·rename_i he
    rw[he] at hc;exact wp_cond_true (CP hc (by simp)) (Gy hm p m.1 j S h)
   ·rename_i he
    rw[he] at hc;exact wp_cond_false (CP hc (by simp)) (Gy hm p m.2 j S h)
   ·rename_i u he
    rw[he] at hc;obtain⟨b,hb,v⟩:=CP hc (by simp);cases b with
    | true=>exact wp_cond_true hb (Gy hm p m.1 j S (h.1 (v rfl)))
    | false=>exact wp_cond_false hb (Gy hm p m.2 j S h.2)
   exact h.elim
  simp only[EZ] at h
  split at h
  ·rcases h with⟨ks,q,J,z,h⟩ | h
   ·have fin:∀e r w',LW w0 X n (fun e s'=>match e with | .Eb=>J (Fi s' q ks) (FT s' q q) | .exit i=>Q (.exit i) s' | .ret=>Q .ret s') e r w'->LW w0 X n Q e r w':=by
     rintro e r w' ⟨x',s',d,rfl,g,f,l⟩;cases x' with
     | Eb=>exact⟨.Eb,_,d,rfl,z _ _ g,by show (Hl _ _ _).length=_;rw[OT,It],l.head f ks q⟩
     | exit i=>exact⟨.exit i,s',d,rfl,g,f,l⟩
     | ret=>exact⟨.ret,s',d,rfl,g,f,l⟩
    split at h
    ·rename_i he
     rw[he] at hc;exact wp_cond_true (CP hc (by simp)) (wp_mono (Gy hm p m.1 j S h) fin)
    ·rename_i he
     rw[he] at hc;exact wp_cond_false (CP hc (by simp)) (wp_mono (Gy hm p m.2 j S h) fin)
    ·rename_i u he
     rw[he] at hc;obtain⟨b,hb,v⟩:=CP hc (by simp);cases b with
     | true=>exact wp_cond_true hb (wp_mono (Gy hm p m.1 j S (h.1 (v rfl))) fin)
     | false=>exact wp_cond_false hb (wp_mono (Gy hm p m.2 j S h.2) fin)
    exact h.elim
   exact plain h
  exact plain h
 | .block id c,Q,β,s,a,w,m,j,S,h=>by
  rcases h with⟨ks,q,J,z,h⟩ | h
  ·refine wp_block (wp_mono (Gy hm p (c:=c) m j S h) fun e r w' he=>?_);obtain⟨x',s',d,rfl,g,f,l⟩:=he
   have fin:J (Fi s' q ks) (FT s' q q)->LW w0 X n Q .normal r w':=fun g=>
    ⟨.Eb,_,d,rfl,z _ _ g,by show (Hl _ _ _).length=_;rw[OT,It],l.head f ks q⟩
   cases x' with
   | Eb=>exact fin g
   | exit i=>
    show Exit.inBlock id (LW w0 X n Q) (.exit i) r w'
    simp only[Exit.inBlock];simp only at g
    split
    ·rename_i t;rw[if_pos t] at g;exact fin g
    rename_i t;rw[if_neg t] at g;exact⟨.exit i,s',d,rfl,g,f,l⟩
   | ret=>exact⟨.ret,s',d,rfl,g,f,l⟩
  refine wp_block (wp_mono (Gy hm p (c:=c) m j S h) fun e r w' he=>?_);obtain⟨x',s',d,rfl,g,f,l⟩:=he;cases x' with
  | Eb=>exact⟨.Eb,s',d,rfl,g,f,l⟩
  | exit i=>
   show Exit.inBlock id (LW w0 X n Q) (.exit i) r w'
   simp only[Exit.inBlock];simp only at g
   split
   ·rename_i t;rw[if_pos t] at g;exact⟨.Eb,s',d,rfl,g,f,l⟩
   rename_i t;rw[if_neg t] at g;exact⟨.exit i,s',d,rfl,g,f,l⟩
  | ret=>exact⟨.ret,s',d,rfl,g,f,l⟩
 | .loop c,Q,β,s,a,w,m,j,S,h=>by
  obtain⟨ks,q,J,⟨k0,C⟩,G⟩:=h;refine sw (fun k a w=>∃vs A β,J vs A k/\CD w0 X β (Iz n ks vs q A) a w) ⟨_,_,β,C,S.head j ks q⟩ fun k a w D=>?_
  obtain⟨vs,A,β,z,S⟩:=D;refine wp_mono (Gy hm p (c:=c) m (by show (Hl _ _ _).length=_;rw[OT,It]) S (G vs A k z)) fun e r w' he=>?_
  obtain⟨x',s',d,rfl,g,f,l⟩:=he;cases x' with
  | Eb=>obtain⟨k',t,B⟩:=g;exact⟨k',t,_,_,d,B,l.head f ks q⟩
  | exit i=>exact⟨.exit i,s',d,rfl,g,f,l⟩
  | ret=>exact⟨.ret,s',d,rfl,g,f,l⟩
 |.rangeFunc _ _ _ _,_,_,_,_,_,_,_,_,h|.scope _,_,_,_,_,_,_,_,_,h|.label _,_,_,_,_,_,_,_,_,h|.goto _,_,_,_,_,_,_,_,_,h|.refuse _,_,_,_,_,_,_,_,_,h=>h.elim
end
end Go.Abs
