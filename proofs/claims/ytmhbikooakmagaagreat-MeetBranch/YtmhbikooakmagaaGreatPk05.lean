/- Part 6 of a proof. Conditions: each theorem's own. -/
import Derived.Orders
import Derived.Test.YtmhbikooakmagaaGreatPk04
set_option linter.all false
set_option maxHeartbeats 8000000
set_option maxRecDepth 20000
namespace Go.Abs
open Go.RowKit
def OM (o:Oper):Bool:=
 match o.op with
 |.alloc _|.box _ _|.makeSlice _ _ _|.buildSlice _ _ _=>o.dst.isSome
 | .call c=>match c.callee with
  | .builtin _=>o.dst.isSome
  | _=>true
 | _=>true
section
variable {P:Program} {TI:TypeId->Info}
theorem Bo.mn {w0:World} {X:WX} {β:Nat->Option Nat} {s:St} {a:Act} {w:World} {q id v:Nat} {t:T} {l:List (el t)} {rd H:List Nat}
  (S:Bo w0 X β (s.app (some q) ⟨.one (.AS t id v 0 l.length),[(id,.arr v t l)],rd⟩) a w) (f:id<s.bk.length) (O:id≠0):
  Bo w0 X β (s.app (some q) ⟨.one (.sl t l),[(id,.dead v)],H⟩) a w:=by
 have p:∀k,AH (BY s.bk id (some (.arr v t l))) k=if k=id then some (.arr v t l) else AH s.bk k:=fun k=>by
  rw[Ho];by_cases h:k=id <;> simp[h,f]
 have u:∀k,AH (BY s.bk id (some (.dead v))) k=if k=id then some (.dead v) else AH s.bk k:=fun k=>by
  rw[Ho];by_cases h:k=id <;> simp[h,f]
 have n:∀k,AR (AH (BY s.bk id (some (.dead v)))) k=AR (AH (BY s.bk id (some (.arr v t l)))) k:=fun k=>by
  rw[GC _ _ _ f,GC _ _ _ f];rfl
 have g:∀k,live (AH (BY s.bk id (some (.dead v)))) k->live (AH (BY s.bk id (some (.arr v t l)))) k/\k≠id:=fun k d=>by
  rw[IH _ _ _ f] at d
  by_cases h:k=id
  ·rw[if_pos h] at d;simp[AM.live] at d
  rw[if_neg h] at d;exact⟨by rw[IH _ _ _ f,if_neg h];exact d,h⟩
 have x:live (AH (BY s.bk id (some (.arr v t l)))) id:=by rw[IH _ _ _ f,if_pos rfl];rfl
 have hle:(cx X w β (AH (BY s.bk id (some (.arr v t l))))).le (cx X w β (AH (BY s.bk id (some (.dead v))))):=
  ⟨fun k=>Nat.le_of_eq (n k).symm,fun _ _=>rfl,fun k b arr e _ _ R=>⟨arr,R,rfl⟩,fun b hb=>⟨⟨⟨hb.1.1,fun k d=>hb.1.2 k (g k d).1⟩,hb.2⟩,rfl⟩⟩
 have C:∀b o,w.heap[b]? =some o->b<w.heap.size:=fun b o h=>by
  rcases Nat.lt_or_ge b w.heap.size with h' | h'
  ·exact h'
  simp[Array.getElem?_eq_none h'] at h
 refine⟨S.defers,by have:=S.len;simpa [St.app,GS,Ge] using this,by have:=S.IG;simpa [St.app,DB,Ge] using this,fun i=>?_,fun k b d=>?_,fun k k' b d c hb z=>S.inj k k' b (g k d).1 (g k' c).1 hb z,
  fun k b d hb=>S.own k b (g k d).1 hb,S.os,S.tape,S.output,S.size,S.block,fun k b d=>?_,S.fresh,fun U Y=>?_⟩
 ·have W:=S.CW i
  show Bu _ (nth (BY s.sl q (.one (.sl t l))) i) _
  have m:Bu (cx X w β (AH (BY s.bk id (some (.arr v t l))))) (nth (BY s.sl q (.one (.AS t id v 0 l.length))) i) (a.tmps.getD i undef):=W;rw[KG] at m ⊢
  by_cases h:i=q/\q<s.sl.length
  ·rw[if_pos h] at m ⊢;have hc:=By m (by simp)
   have F:v=(cx X w β (AH (BY s.bk id (some (.arr v t l))))).cv id:=by
    show v=AR _ id
    rw[GC _ _ _ f,if_pos rfl];rfl
   obtain⟨base,cap,hu,g1,g2,N⟩:=Oj hc F;refine .inr ?_
   show rep w _ (.sl t) l [_]
   have D:l.length<=140737488355328:=S.lens id (.arr v t l) (by show AH (BY s.bk id (some (.arr v t l))) id=_;rw[p,if_pos rfl]);refine⟨base,cap,by rw[hu],g1,D,?_⟩
   by_cases r:l=[]
   ·exact .inl r
   right
   have V:0<l.length:=List.length_pos_iff.2 r;rcases N with rfl |⟨b,arr,e,G,M,q3,q4⟩
   ·omega
   rcases S.blocks id (.arr v t l) (by show AH (BY s.bk id (some (.arr v t l))) id=_;rw[p,if_pos rfl]) with⟨K,L⟩ |⟨b',J,e',K,L,p3⟩
   ·exact absurd L r
   obtain rfl:b'=b:=Option.some.inj (K.symm.trans G);rw[Nat.zero_mul] at M
   have Q:X.A b':=by
    rcases S.own id b' x G with h | h
    ·exact S.fresh b' h
    exact absurd h.2 O
   refine⟨b',0,M,⟨⟨C _ _ q3,fun k d e=>(g k d).2 (S.inj k id b' (g k d).1 x e G)⟩,Q⟩,fun j y Z=>?_⟩;obtain⟨us,k1,k2⟩:=p3 j y Z;exact⟨us,C0 hle.I _ _ _ k1,by rw[Nat.zero_add];exact k2⟩
  rw[if_neg h] at m ⊢;exact Bu.mono hle m
 ·have c:AH (BY s.bk id (some (.dead v))) k=some b:=d;rw[u] at c
  by_cases h:k=id
  ·rw[if_pos h] at c;cases Option.some.inj c
   trivial
  rw[if_neg h] at c;have hb:AH (BY s.bk id (some (.arr v t l))) k=some b:=by rw[p,if_neg h];exact c
  exact DJ.mono hle (n k) (fun _ _=>rfl) (S.blocks k b hb)
 ·have c:AH (BY s.bk id (some (.dead v))) k=some b:=d;rw[u] at c
  by_cases h:k=id
  ·rw[if_pos h] at c;cases Option.some.inj c
   trivial
  rw[if_neg h] at c;exact S.lens k b (by show AH (BY s.bk id (some (.arr v t l))) k=_;rw[p,if_neg h];exact c)
 have B:=g 0 U;exact S.Kx B.1 ((n 0).symm.trans Y)
theorem nL (A:∀t,D1 P t (TI t)) {o:Oper} {c:Call} {b:Builtin} (r:o.op= .call c) (hc:c.callee= .builtin b) (p:o.dst≠none):Sound P (env P) TI o:=by
 intro w0 X β s a w S f h N Q m;simp only[Ca,r,hc] at h;rcases Jy.1 h with h |⟨hb,h⟩
 ·exact Z5 A r hc p S h m
 obtain⟨g,z,H⟩:=L6 (fun t l L=>absurd (QK hb h) (by rw[L];exact (by decide:¬(1=2)))) h;obtain⟨t,id,v,n,l,C,G,M,I,_⟩:=Ss H;subst M;obtain⟨q,u⟩:=Option.ne_none_iff_exists'.1 p;rw[u] at m;refine Z5 A r hc p S (z _ rfl) (fun β' F w' j=>m β' F w' ?_);rw[u,C] at j;rw[<-I]
 by_cases i:id<s.bk.length
 ·exact j.mn i G
 have d:s.bk.length<=id:=Nat.le_of_not_lt i;have J:Bv o=q:=by simp[Bv,u]
 rcases fF hb (z _ rfl) (by rw[C]) with e |⟨x,D⟩
 ·have y:s.sl.length<=q:=by
   have k:=S.len;have e2:=S.IG;omega
  have k:∀(f:B3) (B:AM),f.ws=[(id,B)]->s.app (some q) f=s:=fun f B K=>by
   unfold St.app;rw[K];simp only[GS,DB,Hu _ _ _ y,Hu _ _ _ d]
  rw[k _ _ rfl] at j;rw[k _ _ rfl];exact j
 rw[JZ _ _ d] at D;cases D
theorem S8 (j:∀t,D1 P t (TI t)) (o:Oper) (k:OM o=true):Sound P (env P) TI o:=by
 unfold OM at k;have l:o.dst.isSome=true->o.dst≠none:=fun h e=>by simp[e] at h
 cases g:o.op <;> simp only[g] at k
 case move x=>(intro w0 X β s a w S f h N Q d;exact nT g S h d)
 case assign x=>(intro w0 X β s a w S f h N Q d;exact nG g S h d)
 case nilCheck x=>(intro w0 X β s a w S f h N Q d;exact nU g S h d)
 case pick c x y=>(intro w0 X β s a w S f h N Q d;exact nV g S h d)
 case alloc t=>(intro w0 X β s a w S f h N Q d;exact nF j g (l k) S h d)
 case box t x=>(intro w0 X β s a w S f h N Q d;exact nI g (l k) S h d)
 case extract x i=>(intro w0 X β s a w S f h N Q d;exact nN g S h d)
 case load t x=>(intro w0 X β s a w S f h N Q d;exact nR j g S h d)
 case store t p x=>(intro w0 X β s a w S f h N Q d;exact nX j g S h d)
 case fieldAddr t x i=>(intro w0 X β s a w S f h N Q d;exact nP j g S h d)
 case field t x i=>(intro w0 X β s a w S f h N Q d;exact nO j g S h d)
 case build t ps=>(intro w0 X β s a w S f h N Q d;exact nJ j g S h d)
 case buildSlice t n ps=>(intro w0 X β s a w S f h N Q d;exact nK j g (l k) S h d)
 case makeSlice t x y=>(intro w0 X β s a w S f h N Q d;exact nS j g (l k) S h d)
 case indexAddr t x i=>(intro w0 X β s a w S f h N Q d;exact nQ j g S h d)
 case slice t x lo hi mx=>(intro w0 X β s a w S f h N Q d;exact nW j g S h d)
 case binOp op t x y t'=>(intro w0 X β s a w S f h N Q d;exact nH j g S h d)
 case unOp op t x=>(intro w0 X β s a w S f h N Q d;exact nY g S h d)
 case convert src dst x=>(intro w0 X β s a w S f h N Q d;exact nM j g S h d)
 case call c=>
  cases hc:c.callee with
  | builtin b=>simp only[hc] at k;(intro w0 X β s a w S f h N Q d;exact nL j g hc (l k) S h d)
  | value f=>(intro w0 X β s a w S f h N Q d;exact nE o g hc S h d)
  | invoke _ _=>intro w0 X β s a w S f h N Q d;simp only[Ca,g,hc] at h
 all_goals (intro w0 X β s a w S f h N Q d;simp only[Ca,g] at h)
end
section
variable {P:Program} {E:Env} {TI:TypeId->Info}
def F8 (E:Env) (TI:TypeId->Info) (all:List Oper) (o:Oper) (f:B3) (s:St):Prop:=
 match o.guard with
 | none=>Ca E TI o (Bv o) (ev s.sl) (AH s.bk) (fun g=>g=f)
 | some (j,w)=>∃g,OY all j=some g/\
  ((nth s.sl g= .one (.bool w)/\Ca E TI o (Bv o) (ev s.sl) (AH s.bk) (fun g=>g=f))\/
    ((nth s.sl g= .one (.bool (!w))\/nth s.sl g= .AF [])/\f=⟨.AF [],[],[]⟩))
def chain (E:Env) (TI:TypeId->Info) (all:List Oper):List Oper->List B3->St->Prop
 | [],[],_=>True
 | o::r,f::fs,s=>F8 E TI all o f s/\chain E TI all r fs (s.app o.dst f)
 | _,_,_=>False
def fin:List Oper->List B3->St->St
 | o::r,f::fs,s=>fin r fs (s.app o.dst f)
 | _,_,s=>s
def Li (f:B3):List Nat×List Nat:=(f.rd,f.ws.map (·.1))
theorem oa {o:Oper} {a:Act} {w:World} {N:Act->World->Prop} (h:o.wp P a w N (fun _ _ _=>False)):∃b w',N b w':=by
 unfold Oper.wp at h
 generalize (execOp a.eval o).run P w=r at h
 unfold Oper.upon at h
 split at h
 ·exact⟨_,_,h⟩
 ·exact⟨_,_,h⟩
 ·exact⟨_,_,h⟩
 ·obtain⟨e,w',c,hR,_⟩:=h [];cases e with
  | returned v=>exact⟨_,_,hR⟩
  | panicked _=>exact hR.elim
  | outgrown=>obtain⟨_,_,h⟩:=hR;exact h.elim
 ·obtain⟨v,w',hR,_⟩:=h default [];exact⟨_,_,hR⟩
 ·exact h.elim
 exact h.elim
theorem Vp {w0:World} {X:WX} {β:Nat->Option Nat} {s:St} {a:Act} {w:World} (S:Bo w0 X β s a w) {g:Nat} {b:Bool} (h:nth s.sl g= .one (.bool b)):a.tmps[g]? =some (.bool b):=by
 have d:=S.CW g;rw[h] at d;have c:a.tmps.getD g undef= .bool b:=By d (by simp);rcases Nat.lt_or_ge g a.tmps.size with h3 | h3
 ·simp[Array.getD,h3] at c;simp[h3,c]
 simp[Array.getD,Nat.not_lt.2 h3,undef] at c
theorem SG {ops:Array Oper} {o:Oper} (q:Sound P E TI o) {w0:World} {X:WX} {β:Nat->Option Nat} {s:St} {a:Act} {w:World} (S:Bo w0 X β s a w) {f:B3} (h:F8 E TI ops.toList o f s)
  {N:Act->World->Prop} {Q:Exit->Act->World->Prop} (m:∀β' n w',Bo w0 X β' (s.app o.dst f) n w'->N n w'):
  if Region.wanted o (yielded ops a.tmps) then o.wp P a w N Q else N (a.put o.dst undef) w:=by
 unfold F8 at h
 split at h
 ·rename_i l
  simp only[Region.wanted,l,if_true];exact q S h m
 rename_i j want l
 obtain⟨g,r,h3⟩:=h;have b:(ops[j]?).bind (·.dst)=some g:=by simpa [OY] using r
 rcases h3 with⟨c,h3⟩ |⟨c,rfl⟩
 ·have d:yielded ops a.tmps j=some want:=by simp[yielded,b,Vp S c]
  simp only[Region.wanted,l,d,beq_self_eq_true,if_true];exact q S h3 m
 have d:(yielded ops a.tmps j==some want)=false:=by
  rcases c with c | c
  ·have d:yielded ops a.tmps j=some (!want):=by simp[yielded,b,Vp S c]
   rw[d];cases want <;> rfl
  have d:yielded ops a.tmps j=none:=by
   have p:=S.CW g;rw[c] at p;obtain⟨arr,i,_⟩:=p;have i:a.tmps.getD g undef= .tuple arr:=i;unfold yielded;simp only[b,Option.bind_some];rcases Nat.lt_or_ge g a.tmps.size with k | k
   ·simp[Array.getD,k] at i;simp[k,i]
   simp[k]
  rw[d];rfl
 simp only[Region.wanted,l,d,Bool.false_eq_true,if_false];exact m β _ w (S.val ⟨#[],rfl,trivial⟩)
theorem kp {ops:Array Oper} {o:Oper} (c:Sound P E TI o) {w0:World} {X:WX} {β:Nat->Option Nat} {s:St} {a:Act} {w:World} (S:Bo w0 X β s a w) {f:B3} (h:F8 E TI ops.toList o f s):
  ∃β' b w',Bo w0 X β' (s.app o.dst f) b w':=by
 have:=SG (N:=fun b w'=>∃β',Bo w0 X β' (s.app o.dst f) b w') (Q:=fun _ _ _=>False) c S h fun β' b w' h=>⟨β',h⟩
 split at this
 ·obtain⟨b,w',β',h⟩:=oa this;exact⟨β',b,w',h⟩
 obtain⟨β',h⟩:=this;exact⟨β',_,_,h⟩
theorem S3 {w0:World} {X:WX} {β:Nat->Option Nat} {s:St} {a:Act} {w:World} (S:Bo w0 X β s a w) (x:Operand) (t:T) (l:List (el t)) (h:ev s.sl x= .one (.sl t l)):l.length<=140737488355328:=by
 have b:=C1 S.CW x;rw[h] at b;obtain⟨_,_,_,_,c,_⟩:=By b (by simp);exact c
theorem Zb {ops:Array Oper} {draw:Bool} {w0:World} {X:WX} {Q:St->Prop}:∀{r:List Oper} {tr:Tr} {β:Nat->Option Nat} {s:St} {a:Act} {w:World},(∀o∈r,Sound P E TI o)->Bo w0 X β s a w->
  Ht E TI ops.toList draw r tr Q s->∃fs,chain E TI ops.toList r fs s/\Q (fin r fs s)/\(draw=true->Ja ops.toList (tr.reverse++fs.map Li)=true)
 | [],tr,β,s,a,w,_,_,h=>by
  refine⟨[],trivial,?_,?_⟩
  ·cases draw
   ·exact h
   exact h.2
  rintro rfl;simpa using h.1 ()
 | o::r,tr,β,s,a,w,k,S,h=>by
  have go:∀f,F8 E TI ops.toList o f s->Ht E TI ops.toList draw r (Li f::tr) Q (s.app o.dst f)->
    ∃fs,chain E TI ops.toList (o::r) fs s/\Q (fin (o::r) fs s)/\(draw=true->Ja ops.toList (tr.reverse++fs.map Li)=true):=by
   intro f c d;obtain⟨β',q,w',l⟩:=kp (k o (by simp)) S c;obtain⟨fs,g1,g2,m⟩:=Zb (fun o p=>k o (by simp[p])) l d;exact⟨f::fs,⟨c,g1⟩,g2,fun n=>by have:=m n;simpa using this⟩
  unfold Ht at h
  split at h
  ·rename_i i
   obtain⟨f,c,d⟩:=QJ (S3 S) h;exact go f (by unfold F8;rw[i];exact c _ rfl) d
  rename_i j want i
  split at h
  ·exact h.elim
  rename_i g b
  split at h
  ·rename_i hb
   obtain⟨f,c,d⟩:=QJ (S3 S) h;exact go f (by unfold F8;rw[i];exact⟨g,b,.inl ⟨hb,c _ rfl⟩⟩) d
  ·rename_i hb
   obtain⟨f,c,d⟩:=QJ (S3 S) h;exact go f (by unfold F8;rw[i];exact⟨g,b,.inl ⟨hb,c _ rfl⟩⟩) d
  ·rename_i hb
   exact go ⟨.AF [],[],[]⟩ (by unfold F8;rw[i];exact⟨g,b,.inr ⟨.inl hb,rfl⟩⟩) h
  ·rename_i hb
   exact go ⟨.AF [],[],[]⟩ (by unfold F8;rw[i];exact⟨g,b,.inr ⟨.inl hb,rfl⟩⟩) h
  ·rename_i hb
   exact go ⟨.AF [],[],[]⟩ (by unfold F8;rw[i];exact⟨g,b,.inr ⟨.inr hb,rfl⟩⟩) h
  exact h.elim
theorem az {ops:Array Oper} {w0:World} {X:WX} {Q:Exit->Act->World->Prop}:∀{r:List Oper} {fs:List B3} {k:Nat} {β:Nat->Option Nat} {s:St} {a:Act} {w:World},(∀j,ops[k+j]? =r[j]?)->(∀o∈r,Sound P E TI o)->Bo w0 X β s a w->
  chain E TI ops.toList r fs s->(∀β a w,Bo w0 X β (fin r fs s) a w->Q .normal a w)->wpOps P ops Q (List.range' k r.length) a w
 | [],[],k,β,s,a,w,_,_,S,_,b=>b β a w S
 | o::r,f::fs,k,β,s,a,w,c,d,S,hc,b=>by
  have i:ops[k]? =some o:=by simpa using c 0
  have:=SG (Q:=Q) (N:=wpOps P ops Q (List.range' (k+1) r.length)) (d o (by simp)) S hc.1 fun β' m w' g=>
   az (fun j=>by have:=c (j+1);rw[show k+1+j=k+(j+1) by omega];simpa using this) (fun o l=>d o (by simp[l])) g hc.2 b
  simp only[List.length_cons,List.range'_succ,wpOps,i]
  split
  ·rename_i hw;rw[if_pos hw] at this;exact .inl this
  rename_i hw;rw[if_neg hw] at this;exact this
 |[],_::_,_,_,_,_,_,_,_,_,h,_|_::_,[],_,_,_,_,_,_,_,_,h,_=>h.elim
end
section
variable {P:Program} {E:Env} {TI:TypeId->Info}
def run (m:Nat->Bool):Nat->List Oper->List B3->St->St
 | k,o::r,f::fs,s=>run m (k+1) r fs (if m k then s.app o.dst f else s)
 | _,_,_,s=>s
theorem Zc {m:Nat->Bool}:∀{r:List Oper} {fs:List B3} {k:Nat} {s:St},(∀j,k<=j->j<k+r.length->m j=true)->run m k r fs s=fin r fs s
 | o::r,f::fs,k,s,h=>by
  simp only[run,fin];rw[h k (Nat.le_refl _) (by simp),if_pos rfl];exact Zc fun j a b=>h j (by omega) (by simp;omega)
 |[],_,_,_,_|_::_,[],_,_,_=>rfl
theorem YN (s:St) (d:Option Nat) (f:B3) (x:Nat) (h:d≠some x):nth (s.app d f).sl x=nth s.sl x:=by
 cases d with
 | none=>rfl
 | some q=>
  show nth (BY s.sl q f.v) x=_
  rw[KG,if_neg]
  rintro⟨rfl,_⟩;exact h rfl
theorem Mb (s:St) (d:Option Nat) (f:B3):(s.app d f).sl.length=s.sl.length:=by
 cases d with
 | none=>rfl
 | some q=>exact Ge _ _ _
theorem Md:∀(ws:List (Nat×AM)) (l:List (Option AM)),(DB ws l).length=l.length
 | [],_=>rfl
 | p::ws,l=>by rw[DB,Md ws,Ge]
theorem Rx:∀(ws:List (Nat×AM)) (l:List (Option AM)) (x:Nat),x ∉ ws.map (·.1)->AH (DB ws l) x=AH l x
 | [],_,_,_=>rfl
 | p::ws,l,x,h=>by
  rw[DB,Rx ws _ x (fun h'=>h (by simp at h' ⊢;exact .inr h')),Ho,if_neg]
  rintro⟨rfl,_⟩;exact h (by simp)
theorem YR:∀(ws:List (Nat×AM)) (l l':List (Option AM)) (x:Nat),l.length=l'.length->AH l x=AH l' x->AH (DB ws l) x=AH (DB ws l') x
 | [],_,_,_,_,h=>h
 | p::ws,l,l',x,a,h=>YR ws _ _ x (by simp[Ge,a]) (by rw[Ho,Ho,a,h])
theorem NM {m1 m2:Nat->Bool} {x:Nat}:∀{r:List Oper} {fs:List B3} {k:Nat} {s s':St},(∀j o,r[j]? =some o->m1 (k+j)≠m2 (k+j)->o.dst≠some x)->nth s.sl x=nth s'.sl x->s.sl.length=s'.sl.length->
  nth (run m1 k r fs s).sl x=nth (run m2 k r fs s').sl x
 | o::r,f::fs,k,s,s',h,a,b=>by
  have l:=h 0 o rfl;simp only[Nat.add_zero] at l;have i:∀j g,r[j]? =some g->m1 (k+1+j)≠m2 (k+1+j)->g.dst≠some x:=fun j g m hm=>h (j+1) g (by simpa using m) (by rw[show k+(j+1)=k+1+j by omega];exact hm)
  simp only[run];cases c:m1 k <;> cases d:m2 k <;> simp only[Bool.false_eq_true,if_true,if_false]
  ·exact NM i a b
  ·exact NM i (by rw[YN _ _ _ _ (l (by simp[c,d]))];exact a) (by rw[Mb];exact b)
  ·exact NM i (by rw[YN _ _ _ _ (l (by simp[c,d]))];exact a) (by rw[Mb];exact b)
  refine NM i ?_ (by rw[Mb,Mb];exact b);cases n:o.dst with
  | none=>exact a
  | some q=>show nth (BY _ _ _) _=nth (BY _ _ _) _;rw[KG,KG,b,a]
 |[],_,_,_,_,_,a,_|_::_,[],_,_,_,_,a,_=>a
theorem NL {m1 m2:Nat->Bool} {x:Nat}:∀{r:List Oper} {fs:List B3} {k:Nat} {s s':St},(∀j f,fs[j]? =some f->m1 (k+j)≠m2 (k+j)->x ∉ f.ws.map (·.1))->AH s.bk x=AH s'.bk x->s.bk.length=s'.bk.length->
  AH (run m1 k r fs s).bk x=AH (run m2 k r fs s').bk x
 | o::r,f::fs,k,s,s',h,a,b=>by
  have i:=h 0 f rfl;simp only[Nat.add_zero] at i;have g:∀j l,fs[j]? =some l->m1 (k+1+j)≠m2 (k+1+j)->x ∉ l.ws.map (·.1):=fun j n m hm=>h (j+1) n (by simpa using m) (by rw[show k+(j+1)=k+1+j by omega];exact hm)
  simp only[run];cases c:m1 k <;> cases d:m2 k <;> simp only[Bool.false_eq_true,if_true,if_false]
  ·exact NL g a b
  ·exact NL g (by show _=AH (DB _ _) _;rw[Rx _ _ _ (i (by simp[c,d]))];exact a) (by show _=(DB _ _).length;rw[Md];exact b)
  ·exact NL g (by show AH (DB _ _) _=_;rw[Rx _ _ _ (i (by simp[c,d]))];exact a) (by show (DB _ _).length=_;rw[Md];exact b)
  exact NL g (YR _ _ _ _ b a) (by show (DB _ _).length=(DB _ _).length;rw[Md,Md];exact b)
 |[],_,_,_,_,_,a,_|_::_,[],_,_,_,_,a,_=>a
theorem Sv {α:Type}:∀(l:List α) (i j:Nat) (x y:α),i≠j->BY (BY l i x) j y=BY (BY l j y) i x
 | [],_,_,_,_,_=>rfl
 | _::_,0,0,_,_,h=>(h rfl).elim
 |_::_,0,_+1,_,_,_|_::_,_+1,0,_,_,_=>rfl
 | _::l,i+1,j+1,x,y,h=>by simp[BY,Sv l i j x y (by omega)]
theorem Yy:∀(ws:List (Nat×AM)) (l:List (Option AM)) (i:Nat) (b:Option AM),i ∉ ws.map (·.1)->DB ws (BY l i b)=BY (DB ws l) i b
 | [],_,_,_,_=>rfl
 | p::ws,l,i,b,h=>by
  rw[DB,DB,Sv _ _ _ _ _ (fun e=>h (by simp[e])),Yy ws _ i b (fun h'=>h (by simp at h' ⊢;exact .inr h'))]
theorem Yx:∀(ws a:List (Nat×AM)) (l:List (Option AM)),(∀x∈ws.map (·.1),x ∉ a.map (·.1))->DB a (DB ws l)=DB ws (DB a l)
 | [],_,_,_=>rfl
 | p::ws,a,l,h=>by
  rw[DB,DB,Yx ws a _ (fun x b=>h x (by simp at b ⊢;exact .inr b)),Yy a l p.1 _ (h p.1 (by simp))]
theorem fE {s:St} {d a:Option Nat} {f b:B3} (g:∀q,d=some q->a≠some q) (h:∀x∈f.ws.map (·.1),x ∉ b.ws.map (·.1)):(s.app d f).app a b=(s.app a b).app d f:=by
 have c:GS (GS s.sl d f.v) a b.v=GS (GS s.sl a b.v) d f.v:=by
  cases d with
  | none=>rfl
  | some q=>cases a with
   | none=>rfl
   | some i=>exact Sv _ _ _ _ _ fun e=>g q rfl (by rw[e])
 show St.mk _ _=St.mk _ _
 rw[St.mk.injEq];exact⟨c,Yx _ _ _ h⟩
theorem Sr {m m':Nat->Bool} {i:Nat} {o:Oper} {f:B3}:∀{r:List Oper} {fs:List B3} {k:Nat} {s:St},i<k->(∀j,j≠i->m' j=m j)->
  (∀j g d,r[j]? =some g->fs[j]? =some d->m (k+j)=true->(∀q,g.dst=some q->o.dst≠some q)/\(∀x∈d.ws.map (·.1),x ∉ f.ws.map (·.1)))->
  (run m k r fs s).app o.dst f=run m' k r fs (s.app o.dst f)
 | g::r,d::fs,k,s,p,hm,c=>by
  simp only[run,hm k (by omega)]
  have h:∀j b a,r[j]? =some b->fs[j]? =some a->m (k+1+j)=true->(∀q,b.dst=some q->o.dst≠some q)/\(∀x∈a.ws.map (·.1),x ∉ f.ws.map (·.1)):=
   fun j b a l n h3=>c (j+1) b a (by simpa using l) (by simpa using n) (by rw[show k+(j+1)=k+1+j by omega];exact h3)
  cases t:m k <;> simp only[Bool.false_eq_true,if_true,if_false]
  ·exact Sr (by omega) hm h
  have:=c 0 g d rfl rfl (by simpa using t);rw[Sr (m':=m') (by omega) hm h,fE this.1 this.2]
 |[],_,_,_,_,_,_|_::_,[],_,_,_,_,_=>rfl
theorem Zd {m m':Nat->Bool} {i:Nat} {o:Oper} {f:B3}:∀{r:List Oper} {fs:List B3} {k j0:Nat} {s:St},i=k+j0->r[j0]? =some o->fs[j0]? =some f->m i=false->m' i=true->(∀j,j≠i->m' j=m j)->
  (∀j p n,j0<j->r[j]? =some p->fs[j]? =some n->m (k+j)=true->(∀q,p.dst=some q->o.dst≠some q)/\(∀x∈n.ws.map (·.1),x ∉ f.ws.map (·.1)))->
  (run m k r fs s).app o.dst f=run m' k r fs s
 | p::r,n::fs,k,0,s,t,h,l,hm,d,a,c=>by
  simp at h l;subst h l;simp only[Nat.add_zero] at t;subst t;simp only[run,hm,d,Bool.false_eq_true,if_true,if_false];exact Sr (Nat.lt_succ_self _) a fun j g b u v w=>c (j+1) g b (by omega) (by simpa using u) (by simpa using v) (by rw[show i+(j+1)=i+1+j by omega];exact w)
 | p::r,n::fs,k,j0+1,s,t,h,l,hm,d,a,c=>by
  simp only[run,a k (by omega)];exact Zd (j0:=j0) (by omega) (by simpa using h) (by simpa using l) hm d a fun j g b y u v w=>c (j+1) g b (by omega) (by simpa using u) (by simpa using v) (by rw[show k+(j+1)=k+1+j by omega];exact w)
 | [],_,_,_,_,_,h,_,_,_,_,_=>by simp at h
 | _::_,[],_,_,_,_,_,l,_,_,_,_=>by simp at l
theorem V5 {all:List Oper}:∀{r:List Oper} {fs:List B3} {k j:Nat} {s:St} {o:Oper},chain E TI all r fs s->r[j]? =some o->∃f,fs[j]? =some f/\F8 E TI all o f (run (fun t=>decide (t<k+j)) k r fs s)
 | b::r,a::fs,k,0,s,o,hc,h=>by
  simp at h;subst h;refine⟨a,rfl,?_⟩
  have:run (fun t=>decide (t<k+0)) k (b::r) (a::fs) s=s:=by
   have e:∀(r:List Oper) (fs:List B3) (k':Nat) (s:St),k<=k'->run (fun t=>decide (t<k+0)) k' r fs s=s:=by
    intro r
    induction r with
    | nil=>intro fs k' s _;cases fs <;> rfl
    | cons o r g=>
     intro fs k' s i;cases fs with
     | nil=>rfl
     | cons f fs=>simp only[run];rw[if_neg (by simp;omega)];exact g fs (k'+1) s (by omega)
   exact e _ _ _ _ (Nat.le_refl _)
  rw[this];exact hc.1
 | b::r,a::fs,k,j+1,s,o,hc,h=>by
  obtain⟨f,c,d⟩:=V5 (k:=k+1) hc.2 (show r[j]? =some o by simpa using h);refine⟨f,by simpa using c,?_⟩;simp only[run];rw[if_pos (by simp),show k+(j+1)=k+1+j by omega];exact d
 | [],[],_,_,_,_,_,h=>by simp at h
 |[],_::_,_,_,_,_,h,_|_::_,[],_,_,_,_,h,_=>h.elim
theorem Qg {all:List Oper}:∀{r:List Oper} {fs:List B3} {s:St},chain E TI all r fs s->fs.length=r.length
 | [],[],_,_=>rfl
 | _::_,_::_,_,h=>by simp[Qg h.2]
 |[],_::_,_,h|_::_,[],_,h=>h.elim
theorem kl {all:List Oper} {o:Oper} {f:B3} {s s':St} (b:∀x∈IM all o,nth s.sl x=nth s'.sl x) (i:∀x∈f.rd,AH s.bk x=AH s'.bk x) (h:F8 E TI all o f s):F8 E TI all o f s':=by
 have he:∀x∈o.op.operands,ev s.sl x=ev s'.sl x:=fun x k=>by
  cases x with
  | tmp t=>exact b t (by
   unfold IM Yk;refine List.mem_append_left _ (List.mem_append_right _ (List.mem_filterMap.2 ⟨.tmp t,by simpa using k,rfl⟩)))
  | _=>rfl
 have a:Ca E TI o (Bv o) (ev s.sl) (AH s.bk) (fun g=>g=f)->Ca E TI o (Bv o) (ev s'.sl) (AH s'.bk) (fun g=>g=f):=fun h=>fC i (fD he h)
 unfold F8 at h ⊢
 split at h
 ·rename_i c;exact a h
 rename_i j want c
 obtain⟨g,g1,d⟩:=h;refine⟨g,g1,?_⟩;rw[<-b g (by unfold IM;rw[c];simp[g1])];exact d.imp (fun q=>⟨q.1,a q.2⟩) id
end
section
variable {P:Program} {E:Env} {TI:TypeId->Info}
def Hw:List Bool->Nat
 | []=>0
 | b::l=>(if b then 0 else 1)+Hw l
theorem aY:∀(l:List Bool) (i:Nat),l[i]? =some false->Hw (l.set i true)+1=Hw l
 | [],_,h=>by simp at h
 | b::l,0,h=>by simp at h;subst h;simp[Hw];omega
 | b::l,i+1,h=>by have:=aY l i (by simpa using h);simp[Hw];omega
theorem aZ:∀(l:List Bool),Hw l=0->∀j,j<l.length->l[j]? =some true
 | [],_,j,h=>by simp at h
 | b::l,h,0,_=>by cases b <;> simp[Hw] at h ⊢
 | b::l,h,j+1,a=>by have:=aZ l (by simp[Hw] at h;exact h.2) j (by simpa using a);simpa using this
theorem QU:∀(r:List Oper) (acc:List (List Nat)) (k:Nat),k<acc.length->(GM r acc).getD k []=acc.getD k []
 | [],_,_,_=>rfl
 | o::r,acc,k,h=>by
  rw[GM,QU r _ k (by simp;omega)];simp[List.getD_eq_getElem?_getD,List.getElem?_append_left h]
theorem QV:∀(r:List Oper) (acc:List (List Nat)) (j:Nat) (o:Oper),r[j]? =some o->∀i∈(GM r acc).getD (acc.length+j) [],∃k∈FW o,i=k\/i∈(GM r acc).getD k []
 | [],_,_,_,h=>by simp at h
 | o::r,acc,0,b,h=>by
  simp at h;subst h;intro i a;rw[GM,Nat.add_zero,QU r _ acc.length (by simp)] at a;simp only[List.getD_eq_getElem?_getD,List.getElem?_concat_length,Option.getD_some] at a;obtain⟨k,c,a⟩:=List.mem_flatMap.1 a;refine⟨k,c,?_⟩;rcases List.mem_cons.1 a with rfl | a
  ·exact .inl rfl
  refine .inr ?_;rcases Nat.lt_or_ge k acc.length with h' | h'
  ·rw[GM,QU r _ k (by simp;omega)];simpa [List.getD_eq_getElem?_getD,List.getElem?_append_left h'] using a
  simp[List.getElem?_eq_none h'] at a
 | o::r,acc,j+1,b,h=>by
  intro i a
  have:=QV r (acc++[(FW o).flatMap fun j=>j::acc.getD j []]) j b (by simpa using h) i (by
   rw[List.length_append,List.length_singleton,show acc.length+1+j=acc.length+(j+1) by omega];exact a)
  exact this
theorem RM:∀(r:List Oper) (fs:List B3) (s:St),(fin r fs s).sl.length=s.sl.length
 | o::r,f::fs,s=>by rw[fin,RM r fs,Mb]
 |[],_,_|_::_,[],_=>rfl
theorem OF {a b:List Nat} (h:MO a b=true):∀x∈a,x ∉ b:=fun x c=>by
 have:=List.all_eq_true.1 h x c;simpa using this
theorem VL {ops:List Oper} {c d:Oper} {f a:List Nat×List Nat} (h:L8 ops c d f a=true):
  (∀q,c.dst=some q->q ∉ IM ops d)/\(∀q,d.dst=some q->q ∉ IM ops c)/\(∀x∈f.2,x ∉ a.1/\x ∉ a.2)/\(∀x∈a.2,x ∉ f.1):=by
 simp only[L8,Bool.and_eq_true] at h;obtain⟨⟨⟨g,i⟩,h3⟩,j⟩:=h;refine⟨fun q b=>OF g q (by simp[b]),fun q b=>OF i q (by simp[b]),fun x k=>?_,OF j⟩;have:=OF h3 x k;simpa using this
theorem Wc {ops:List Oper} {o:Oper} {q:Nat} (h:o.dst=some q):q∈IM ops o:=by simp[IM,h]
theorem gS {ops:Array Oper} {fs:List B3} {s0:St} {w0:World} {X:WX} {Q:Exit->Act->World->Prop} (hc:chain E TI ops.toList ops.toList fs s0) (hok:Ja ops.toList (fs.map Li)=true)
  (hs:∀o∈ops.toList,Sound P E TI o) (hQ:∀β a w,Bo w0 X β (fin ops.toList fs s0) a w->Q .normal a w):
  ∀(fuel:Nat) (listed:Array Bool) (β:Nat->Option Nat) (a:Act) (w:World),listed.size=ops.size->(∀j o,ops[j]? =some o->listed.getD j false=true->∀i∈FW o,listed.getD i false=true)->
   Hw listed.toList<=fuel->Bo w0 X β (run (fun j=>listed.getD j false) 0 ops.toList fs s0) a w->wpAny P .any ops Q fuel listed a w:=by
 simp only[Ja,Bool.and_eq_true] at hok;obtain⟨hback,hpairs⟩:=hok
 have back:∀j o,ops[j]? =some o->∀i∈FW o,i<j:=by
  intro j o ho i hi;have hj:j<ops.toList.length:=by simpa using (Array.getElem?_eq_some_iff.1 ho).1
  have:=List.all_eq_true.1 hback j (List.mem_range.2 hj);have ho':ops.toList[j]? =some o:=by simpa using ho
  rw[ho'] at this;have:=List.all_eq_true.1 this i hi;simpa using this
 have pair:∀i j oi oj fi fj,i<j->ops[i]? =some oi->ops[j]? =some oj->fs[i]? =some fi->fs[j]? =some fj->i ∉ (GM ops.toList []).getD j []->L8 ops.toList oi oj (Li fi) (Li fj)=true:=by
  intro i j oi oj fi fj hij h1 h2 h3 h4 h5;have hj:j<ops.toList.length:=by simpa using (Array.getElem?_eq_some_iff.1 h2).1
  have:=List.all_eq_true.1 (List.all_eq_true.1 hpairs j (List.mem_range.2 hj)) i (List.mem_range.2 hij);rw[Bool.or_eq_true] at this;rcases this with h | h
  ·exact absurd (by simpa using h) h5
  have e1:ops.toList[i]? =some oi:=by simpa using h1
  have e2:ops.toList[j]? =some oj:=by simpa using h2
  simpa [e1,e2,h3,h4] using h
 have anyOn_mem:∀(o:Oper) (i:Nat),i∈FW o↔∃e∈o.after,Region.binds .any e=true/\e.on=i:=by
  intro o i;simp[FW,and_assoc]
 have closed:∀(listed:Array Bool),(∀j o,ops[j]? =some o->listed.getD j false=true->∀i∈FW o,listed.getD i false=true)->
   ∀(n j:Nat) (o:Oper),j<=n->ops[j]? =some o->(∀i∈FW o,listed.getD i false=true)->∀i∈(GM ops.toList []).getD j [],listed.getD i false=true:=by
  intro listed hdc n
  induction n with
  | zero=>
   intro j o hj ho hl i hi;obtain⟨k,hk,_⟩:=QV ops.toList [] j o (by simpa using ho) i (by simpa using hi);have:=back j o ho k hk;omega
  | succ n ih=>
   intro j o hj ho hl i hi;obtain⟨k,hk,h⟩:=QV ops.toList [] j o (by simpa using ho) i (by simpa using hi);have hkj:=back j o ho k hk;rcases h with rfl | h
   ·exact hl _ hk
   have hk':=hl k hk
   obtain⟨ok,hok⟩:∃ok,ops[k]? =some ok:=by
    have hj:j<ops.size:=(Array.getElem?_eq_some_iff.1 ho).1;exact⟨ops[k]'(by omega),by simp⟩
   exact ih k ok (by omega) hok (hdc k ok hok hk') i h
 have all_of:∀(listed:Array Bool),listed.size=ops.size->(∀j,j<ops.size->listed.getD j false=true)->run (fun j=>listed.getD j false) 0 ops.toList fs s0=fin ops.toList fs s0:=
  fun listed hsz h=>Zc fun j _ hj=>h j (by simpa using hj)
 have none_ready:∀(listed:Array Bool),listed.size=ops.size->(∀j,j<ops.size->listed.getD j false=true)->Region.ready .any ops listed=[]:=by
  intro listed hsz h;rcases hr:Region.ready .any ops listed with _ |⟨x,l⟩
  ·rfl
  have hx:x∈Region.ready .any ops listed:=by rw[hr];simp
  obtain⟨h1,o,ho,_⟩:=mem_ready.1 hx;have hlt:=(Array.getElem?_eq_some_iff.1 ho).1;have:=h x hlt;simp[hsz,hlt] at h1 this;rw[h1] at this;cases this
 have ready_none:∀(listed:Array Bool),listed.size=ops.size->Region.ready .any ops listed=[]->∀n j,j<n->j<ops.size->listed.getD j false=true:=by
  intro listed hsz hr n
  induction n with
  | zero=>intro j hj;omega
  | succ n ih=>
   intro j hjn hj;cases hl:listed.getD j false with
   | true=>rfl
   | false=>
    exfalso
    have:j∈Region.ready .any ops listed:=mem_ready.2 ⟨by simpa [hsz,hj] using hl,ops[j],by simp[hj],fun e he hb=>by
     have hlt:=back j ops[j] (by simp[hj]) e.on ((anyOn_mem _ _).2 ⟨e,he,hb,rfl⟩);exact ih e.on (by omega) (by omega)⟩
    rw[hr] at this;cases this
 intro fuel
 induction fuel with
 | zero=>
  intro listed β a w hsz _ hu S
  have hall:∀j,j<ops.size->listed.getD j false=true:=fun j hj=>by
   have:=aZ _ (Nat.le_zero.1 hu) j (by simpa [hsz] using hj);simp[hsz,hj] at this;simp[hsz,hj,this]
  exact⟨none_ready listed hsz hall,hQ β a w (by rw[all_of listed hsz hall] at S;exact S)⟩
 | succ fuel ih=>
  intro listed β a w hsz hdc hu S;refine⟨fun hr=>?_,fun i hi=>?_⟩
  ·have hall:=fun j hj=>ready_none listed hsz hr (j+1) j (Nat.lt_succ_self j) hj
   exact hQ β a w (by rw[all_of listed hsz hall] at S;exact S)
  obtain⟨h1,o,ho,hdeps⟩:=mem_ready.1 hi;have hilt:=(Array.getElem?_eq_some_iff.1 ho).1;have hil:listed.getD i false=false:=by simp[hsz,hilt] at h1 ⊢;exact h1
  have hanyi:∀k∈FW o,listed.getD k false=true:=fun k hk=>by
   obtain⟨e,he,hb,rfl⟩:=(anyOn_mem o k).1 hk;exact hdeps e he hb
  obtain⟨f,hf,hfo⟩:=V5 (k:=0) hc (show ops.toList[i]? =some o by simpa using ho);simp only[Nat.zero_add] at hfo
  have apart:∀j oj fj,ops[j]? =some oj->fs[j]? =some fj->listed.getD j false≠decide (j<i)->
    (∀q,oj.dst=some q->q ∉ IM ops.toList o)/\(∀x∈fj.ws.map (·.1),x ∉ f.rd)/\(∀q,oj.dst=some q->o.dst≠some q)/\(∀x∈fj.ws.map (·.1),x ∉ f.ws.map (·.1)):=by
   intro j oj fj hj hfj hne;have hij:j≠i:=by rintro rfl;rw[hil] at hne;simp at hne
   rcases Nat.lt_or_gt_of_ne hij with hlt | hgt
   ·have hlj:listed.getD j false=false:=by
     cases h:listed.getD j false with
     | false=>rfl
     | true=>rw[h] at hne;simp[hlt] at hne
    have hnb:j ∉ (GM ops.toList []).getD i []:=fun hm=>by
     have:=closed listed hdc i i o (Nat.le_refl _) ho hanyi j hm;rw[hlj] at this;cases this
    obtain⟨a1,a2,a3,a4⟩:=VL (pair j i oj o fj f hlt hj ho hfj hf hnb);exact⟨a1,fun x hx=>(a3 x hx).1,fun q hq e=>a1 q hq (Wc e),fun x hx=>(a3 x hx).2⟩
   have hlj:listed.getD j false=true:=by
    cases h:listed.getD j false with
    | true=>rfl
    | false=>rw[h] at hne;simp[Nat.not_lt.2 (Nat.le_of_lt hgt)] at hne
   have hnb:i ∉ (GM ops.toList []).getD j []:=fun hm=>by
    have:=closed listed hdc j j oj (Nat.le_refl _) hj (hdc j oj hj hlj) i hm;rw[hil] at this;cases this
   obtain⟨a1,a2,a3,a4⟩:=VL (pair i j o oj f fj hgt ho hj hf hfj hnb);exact⟨a2,a4,fun q hq e=>a2 q hq (Wc e),fun x hx hx'=>(a3 x hx').2 hx⟩
  have getf:∀j oj,ops[j]? =some oj->∃fj,fs[j]? =some fj:=fun j oj hj=>by
   have hlt:j<fs.length:=by rw[Qg hc];simpa using (Array.getElem?_eq_some_iff.1 hj).1
   exact⟨fs[j],List.getElem?_eq_getElem hlt⟩
  have geto:∀j (fj:B3),fs[j]? =some fj->∃oj,ops[j]? =some oj:=fun j fj hj=>by
   have hlt:j<fs.length:=(List.getElem?_eq_some_iff.1 hj).1;rw[Qg hc] at hlt;have hlt:j<ops.size:=by simpa using hlt
   exact⟨ops[j],Array.getElem?_eq_getElem hlt⟩
  have hfo':F8 E TI ops.toList o f (run (fun j=>listed.getD j false) 0 ops.toList fs s0):=by
   refine kl (fun x hx=>?_) (fun x hx=>?_) hfo
   ·refine NM (fun j oj hj hne=>?_) rfl rfl;have hne:decide (j<i)≠listed.getD j false:=by simpa using hne
    have hj':ops[j]? =some oj:=by simpa using hj
    obtain⟨fj,hfj⟩:=getf j oj hj';exact fun e=>(apart j oj fj hj' hfj (Ne.symm hne)).1 x e hx
   refine NL (fun j fj hfj hne=>?_) rfl rfl;have hne:decide (j<i)≠listed.getD j false:=by simpa using hne
   obtain⟨oj,hj⟩:=geto j fj hfj;exact fun hm=>(apart j oj fj hj hfj (Ne.symm hne)).2.1 x hm hx
  have hget':∀j,j≠i->(listed.setIfInBounds i true).getD j false=listed.getD j false:=fun j hj=>getD_set_ne false (Ne.symm hj)
  have hgeti:(listed.setIfInBounds i true).getD i false=true:=by simp[hsz,hilt]
  have key:(run (fun j=>listed.getD j false) 0 ops.toList fs s0).app o.dst f=run (fun j=>(listed.setIfInBounds i true).getD j false) 0 ops.toList fs s0:=by
   refine Zd (by omega:i=0+i) (by simpa using ho) hf hil hgeti hget' fun j oj fj hlt hj hfj hl=>?_
   simp only[Nat.zero_add] at hl;have:=apart j oj fj (by simpa using hj) hfj (by rw[hl];simp;omega);exact this.2.2
  have:=SG (Q:=Q) (N:=wpAny P .any ops Q fuel (listed.setIfInBounds i true)) (hs o (by simpa using Array.mem_of_getElem? ho)) S hfo' fun β' a' w' S'=>by
   rw[key] at S';refine ih _ β' a' w' (by simpa using hsz) (fun j oj hj hl k hk=>?_) ?_ S'
   ·by_cases hki:k=i
    ·subst hki;exact hgeti
    rw[hget' k hki]
    by_cases hji:j=i
    ·subst hji;obtain rfl:o=oj:=Option.some.inj (ho.symm.trans hj);exact hanyi k hk
    rw[hget' j hji] at hl;exact hdc j oj hj hl k hk
   have:=aY listed.toList i (by simp[hsz,hilt] at hil;simp[hsz,hilt,hil]);simp only[Array.toList_setIfInBounds];omega
  unfold wpOp;rw[ho];simp only
  split
  ·rename_i hw;rw[if_pos hw] at this;exact .inl this
  rename_i hw;rw[if_neg hw] at this;exact this
theorem mN (hm:P.follows .mixedOrders=true) {id:Nat} {ops:Array Oper} {draw:Bool} {s:St} {w0:World} {X:WX} {β:Nat->Option Nat} {a:Act} {w:World} {R:St->Prop} {Q:Exit->Act->World->Prop}
  (d:∀o∈ops.toList,Sound P E TI o) (S:Bo w0 X β s a w) (h:Ht E TI ops.toList draw ops.toList [] R s) (i:∀s',R s'->s'.sl.length=s.sl.length->∀β a w,Bo w0 X β s' a w->Q .normal a w):(Code.region id ops draw).wp P Q a w:=by
 obtain⟨fs,hc,hR,c⟩:=Zb d S h;cases draw with
 | false=>
  refine wp_region ?_;have:=az (Q:=Q) (k:=0) (ops:=ops) (r:=ops.toList) (fun j=>by simp) d S hc (i _ hR (RM _ _ _));rw[List.range_eq_range'];simpa using this
 | true=>
  refine wp_region_any hm ?_;have l:Bo w0 X β s a {w with drawn:=w.drawn+1}:=S.ext (dst:=none) (v:= .one .Bz) (u:=undef) (rd:=[]) (fun _ _=>rfl) (Nat.le_refl _) rfl rfl rfl (Jh _ _);refine gS hc (by simpa using c rfl) d (i _ hR (RM _ _ _)) _ _ β a _ (by simp) (fun j o m p=>?_) ?_ ?_
  ·have b:=(Array.getElem?_eq_some_iff.1 m).1;simp[b] at p
  ·have:∀n,Hw (List.replicate n false)=n:=fun n=>by induction n with
    | zero=>rfl
    | succ n g=>rw[List.replicate_succ,Hw,g];simp;omega
   simp[this]
  have e:run (fun j=>(Array.replicate ops.size false).getD j false) 0 ops.toList fs s=s:=by
   have:∀(r:List Oper) (fs:List B3) (k:Nat) (s:St),run (fun j=>(Array.replicate ops.size false).getD j false) k r fs s=s:=by
    intro r
    induction r with
    | nil=>intro fs k s;cases fs <;> rfl
    | cons o r g=>
     intro fs k s;cases fs with
     | nil=>rfl
     | cons f fs=>
      simp only[run];rw[if_neg,g]
      by_cases h:k<ops.size <;> simp[h]
   exact this _ _ _ _
  rw[e];exact l
end
section
variable {P:Program} {E:Env} {TI:TypeId->Info}
theorem oc {c:Code} {Q:Exit->Act->World->Prop} (I:Nat->Act->World->Prop) {k:Nat} {a:Act} {w:World} (m:I k a w)
  (round:∀k a w,I k a w->c.wp P (Exit.then (fun g w'=>∃k',k'<k/\I k' g w') Q) a w):(Code.loop c).wp P Q a w:=by
 have least:∀(a:Act) (w:World) (n:Nat),I n a w->∃k,I k a w/\∀j,I j a w->k<=j:=by
  intro a w n
  induction n using Nat.strongRecOn with
  | _ n r=>
   intro l
   by_cases h:∃j,j<n/\I j a w
   ·obtain⟨j,d,b⟩:=h;exact r j d b
   exact⟨n,l,fun j q=>Nat.le_of_not_lt fun i=>h ⟨j,i,q⟩⟩
 have⟨μ,f⟩:∃μ:Act->World->Nat,∀a w,(∃n,I n a w)->I (μ a w) a w/\∀j,I j a w->μ a w<=j:=by
  have:∀p:Act×World,∃k,(∃n,I n p.1 p.2)->I k p.1 p.2/\∀j,I j p.1 p.2->k<=j:=fun p=>by
   by_cases h:∃n,I n p.1 p.2
   ·obtain⟨n,l⟩:=h;obtain⟨k,d,b⟩:=least p.1 p.2 n l;exact⟨k,fun _=>⟨d,b⟩⟩
   exact⟨0,fun h'=>absurd h' h⟩
  exact⟨fun a w=>Classical.choose (this (a,w)),fun a w=>Classical.choose_spec (this (a,w))⟩
 refine wp_loop (fun a w=>∃n,I n a w) μ ⟨k,m⟩ fun a w o=>?_
 refine wp_mono (round _ a w (f a w o).1) fun e g w' he=>?_
 cases e with
 | normal=>obtain⟨k',d,b⟩:=he;exact⟨⟨k',b⟩,Nat.lt_of_le_of_lt ((f g w' ⟨k',b⟩).2 k' b) d⟩
 | _=>exact he
def K6 (s:St) (bs:List Nat) (k:Nat):AM:=match AH s.bk k with | some b=>if k==0&&b.AR !=0 then .dead 0 else Ms (AH s.bk) bs b | none=> .dead 0
theorem MZ (s:St) (a:List Nat) (k:Nat):K6 s a k= .dead 0\/∃b,AH s.bk k=some b/\K6 s a k=Ms (AH s.bk) a b/\(k=0->b.AR=0):=by
 unfold K6
 split
 ·rename_i b hb
  split
  ·exact .inl rfl
  rename_i h
  refine .inr ⟨b,hb,rfl,fun e=>?_⟩;subst e;simpa using h
 exact .inl rfl
theorem kT (bk:Nat->Option AM) (a:List Nat) (b:AM):(Ms bk a b).AR=0:=by cases b <;> rfl
theorem kR (bk:Nat->Option AM) (a:List Nat) (b:AM):(Ms bk a b).live=b.live:=by cases b <;> rfl
theorem iz (s:St) (a:List Nat) (k:Nat) (r:List Nat):D4 s a (k::r)=K6 s a k::D4 s a r:=rfl
theorem YQ (s:St) (a:List Nat):∀(c:List Nat) (l:List (Option AM)) (id:Nat),AH (Hq c (D4 s a c) l) id=if id∈c/\id<l.length then some (K6 s a id) else AH l id
 | [],l,id=>by simp[Hq,D4]
 | k::r,l,id=>by
  rw[iz,Hq,YQ s a r,Ge,Ho]
  by_cases b:id<l.length
  ·by_cases d:id∈r
   ·simp[b,d]
   by_cases h3:id=k
   ·subst h3;simp[b,d]
   simp[b,d,h3]
  by_cases h3:id=k
  ·subst h3;simp[b]
  simp[b,h3]
theorem YP (s:St) (a:List Nat):∀(ks:List Nat) (l:List AV) (i:Nat),nth (Gg ks (EL s a ks) l) i=if i∈ks/\i<l.length then Rv (AH s.bk) a (nth s.sl i) else nth l i
 | [],l,i=>by simp[Gg,EL]
 | k::r,l,i=>by
  rw[EL,Gg,YP s a r,Ge,KG]
  by_cases b:i<l.length
  ·by_cases c:i∈r
   ·simp[b,c]
   by_cases h3:i=k
   ·subst h3;simp[b,c]
   simp[b,c,h3]
  by_cases h3:i=k
  ·subst h3;simp[b]
  simp[b,h3]
theorem Xh:∀(c:List Nat) (a:List AM) (l:List (Option AM)),(Hq c a l).length=l.length
 |[],_,_|_::_,[],_=>by simp[Hq]
 | k::r,b::a,l=>by rw[Hq,Xh r,Ge]
theorem Mc:∀(ks:List Nat) (vs:List AV) (l:List AV),(Gg ks vs l).length=l.length
 |[],_,_|_::_,[],_=>by simp[Gg]
 | k::r,b::a,l=>by rw[Gg,Mc r,Ge]
theorem Hl {α:Type}:∀(n:Nat) (x:α),(Hs n x).length=n
 | 0,_=>rfl
 | n+1,x=>by simp[Hs,Hl n x]
theorem Ry:∀(n i:Nat),AH (Hs n none) i=none
 |0,_|n+1,0=>rfl
 | n+1,i+1=>Ry n i
theorem Rw:∀(n i:Nat),nth (Hs n (.one .Bz)) i= .one .Bz
 |0,_|n+1,0=>rfl
 | n+1,i+1=>Rw n i
theorem YK {x y:Cx} {bk:Nat->Option AM} {g:List Nat} (hw:y.w=x.w) (a:y.β=x.β) (f:x.cv=AR bk) (n:∀id,y.cv id=0) (d:∀b,x.I b->y.I b):∀{c:AC} {v:Value},BR x c v->BR y (JX bk g c) v
 |.Bz,_,r|.int _ _,_,r|.bool _,_,r|.fn _,_,r|.nil,_,r=>r
 | .sl _ _,_,r=>C0 (fun b hb=>⟨d b hb,by rw[hw]⟩) _ _ _ r
 | .AS t id v off len,u,r=>by
  simp only[JX]
  split
  ·rename_i h
   simp only[Bool.and_eq_true,beq_iff_eq] at h;have:=r.2 (by rw[f];exact h.2.symm);exact⟨⟨r.1.1,Nat.zero_le _⟩,fun _=>by rw[hw,a];exact this⟩
  exact r.1.1
 | .Df _ _ _ _ _,_,r=>r.1.1
 | .Ag id v off,u,r=>by
  simp only[JX]
  split
  ·rename_i h
   simp only[Bool.and_eq_true,beq_iff_eq] at h;have:=r.2 (by rw[f];exact h.2.symm);exact⟨⟨r.1.1,Nat.zero_le _⟩,fun _=>by rw[a];exact this⟩
  exact r.1.1
 | .DE t id v i k,u,r=>by
  simp only[JX]
  split
  ·rename_i h
   simp only[Bool.and_eq_true,beq_iff_eq] at h;have:=r.2 (by rw[f];exact h.2.symm);exact⟨⟨r.1.1,Nat.zero_le _⟩,fun _=>by rw[a];exact this⟩
  exact r.1.1
 | .ub _,_,h=>h
 | .Dp t z off,_,⟨b,o,us,j,l,h3,m⟩=>⟨b,o,us,j,d b l,C0 (fun b hb=>⟨d b hb,by rw[hw]⟩) _ _ _ h3,by rw[hw];exact m⟩
 | .own _ _ _,_,r=>r.elim
theorem Ai.norm {x y:Cx} {bk:Nat->Option AM} {g:List Nat} (hw:y.w=x.w) (a:y.β=x.β) (d:x.cv=AR bk) (f:∀id,y.cv id=0) (c:∀b,x.I b->y.I b):∀{cs:List AC} {us:List Value},Ai (BR x) cs us->Ai (BR y) (cs.map (JX bk g)) us
 | [],[],_=>trivial
 | _::_,_::_,h=>⟨YK hw a d f c h.1,Ai.norm hw a d f c h.2⟩
 |[],_::_,h|_::_,[],h=>h.elim
theorem kU {x y:Cx} {bk:Nat->Option AM} {j:List Nat} (hw:y.w=x.w) (d:y.β=x.β) (g:x.cv=AR bk) (i:∀id,y.cv id=0) (f:∀b,x.I b->y.I b) {a:AV} {v:Value} (h:Bu x a v):Bu y (Rv bk j a) v:=by
 cases a with
 | one c=>
  rcases h with rfl | h
  ·exact .inl rfl
  exact .inr (YK hw d g i f h)
 | agg cs=>obtain⟨arr,e,h⟩:=h;exact⟨arr,e,Ai.norm hw d g i f h⟩
 | AF _=>exact .inl rfl
theorem Bo.head {w0:World} {X:WX} {β:Nat->Option Nat} {s:St} {a:Act} {w:World} (S:Bo w0 X β s a w) {n:Nat} (z:s.sl.length=n) (ks c:List Nat):Bo w0 X β (Hm n ks (EL s c ks) c (D4 s c c)) a w:=by
 have j:∀id b,AH (Hm n ks (EL s c ks) c (D4 s c c)).bk id=some b->b=K6 s c id:=fun id b h=>by
  have h:AH (Hq c (D4 s c c) (Hs n none)) id=some b:=h;rw[YQ,Ry] at h
  split at h
  ·exact (Option.some.inj h).symm
  cases h
 have k:∀id,AR (AH (Hm n ks (EL s c ks) c (D4 s c c)).bk) id=0:=fun id=>by
  unfold AR
  split
  ·rename_i b hb
   rw[j id b hb];rcases MZ s c id with h |⟨b',_,h,_⟩ <;> rw[h]
   ·rfl
   exact kT _ _ _
  rfl
 have d:∀id,live (AH (Hm n ks (EL s c ks) c (D4 s c c)).bk) id->live (AH s.bk) id:=fun id ⟨b,hb,g⟩=>by
  have:=j id b hb;subst this;rcases MZ s c id with h |⟨b',f,h,_⟩ <;> rw[h] at g
  ·cases g
  rw[kR] at g;exact⟨b',f,g⟩
 have p:∀b,(cx X w β (AH s.bk)).I b->(cx X w β (AH (Hm n ks (EL s c ks) c (D4 s c c)).bk)).I b:=fun b hb=>⟨⟨hb.1.1,fun id g=>hb.1.2 id (d id g)⟩,hb.2⟩
 refine⟨S.defers,?_,?_,fun i=>?_,fun id b hb=>?_,fun id v b m o=>S.inj id v b (d _ m) (d _ o),fun id b m=>S.own id b (d _ m),S.os,S.tape,S.output,S.size,S.block,fun id b hb=>?_,S.fresh,fun g _=>?_⟩
 ·show (Gg _ _ _).length=_
  rw[Mc,Hl,<-z];exact S.len
 ·show (Hq _ _ _).length=_
  rw[Xh,Hl,<-z];exact S.len
 ·show Bu _ (nth (Gg _ _ _) i) _
  rw[YP,Rw]
  split
  ·exact kU (x:=cx X w β (AH s.bk)) (y:=cx X w β (AH (Hm n ks (EL s c ks) c (D4 s c c)).bk)) rfl rfl rfl k p (S.CW i)
  exact Jh _ _
 ·have:=j id b hb;subst this;rcases MZ s c id with h |⟨b',f,h,_⟩ <;> rw[h]
  ·trivial
  have r:=S.blocks id b' f;cases b' with
  | dead _=>trivial
  | var _ cs=>obtain⟨b,arr,e,m,o,h3⟩:=r;exact⟨b,arr,e,m,o,Ai.norm (x:=cx X w β (AH s.bk)) (y:=cx X w β (AH (Hm n ks (EL s c ks) c (D4 s c c)).bk)) rfl rfl rfl k p h3⟩
  | arr _ t l=>
   refine r.imp (fun q=>q) fun⟨b,arr,e,m,o,h3⟩=>⟨b,arr,e,m,o,fun i y B=>?_⟩
   obtain⟨us,C,D⟩:=h3 i y B;exact⟨us,C0 (w':=w) (fun b hb=>⟨p b hb,rfl⟩) _ _ _ C,D⟩
 ·have:=j id b hb;subst this;rcases MZ s c id with h |⟨b',f,h,_⟩ <;> rw[h]
  ·trivial
  have:=S.lens id b' f;cases b' <;> exact this
 have u:=d 0 g;obtain⟨b,hb,g⟩:=g;have:=j 0 b hb;subst this;rcases MZ s c 0 with h |⟨b',f,h,A⟩ <;> rw[h] at g
 ·cases g
 exact S.Kx u (by unfold AR;rw[f];exact A rfl)
theorem Yz (a:Act) (k:Nat):a.put (some k) (a.tmps.getD k undef)=a:=by
 have h:a.tmps.setIfInBounds k (a.tmps.getD k undef)=a.tmps:=by
  apply Array.ext
  ·simp
  intro i c b;rw[Array.getElem_setIfInBounds]
  split
  ·subst_vars;simp[Array.getD,b]
  rfl
 simp only[Act.put,h]
theorem Bo.conv {w0:World} {X:WX} {a:Act} {w:World} {n:Nat}:∀{s:St} {β:Nat->Option Nat},Bo w0 X β s a w->s.sl.length=n->∀(cv:List (Nat×T×Bool)),∃β',Bo w0 X β' (Kp s cv) a w/\(Kp s cv).sl.length=n
 | s,β,S,d,[]=>⟨β,S,d⟩
 | s,β,S,d,(k,t,b)::r=>by
  have q:∀{c:AC},(∀v:Value,v= .slice none 0 0->BR (cx X w β (AH s.bk)) c v)->nth s.sl k= .one .nil->Bo w0 X β ⟨BY s.sl k (.one c),s.bk⟩ a w:=fun {c} hc e=>by
   have i:=S.CW k;rw[e] at i;have f:a.tmps.getD k undef= .slice none 0 0:=i.resolve_left (by simp);have:=S.val (dst:=some k) (v:= .one c) (u:=a.tmps.getD k undef) (rd:=[]) (.inr (hc _ f));rw[Yz] at this;exact this
  unfold Kp
  split
  ·rename_i e
   exact Bo.conv (q (c:= .sl t []) (fun v f=>⟨none,0,by rw[f];rfl,Nat.le_refl _,Nat.zero_le _,.inl rfl⟩) e) (by rw[Ge];exact d) r
  ·rename_i e
   by_cases g:k<s.bk.length
   ·have i:=S.CW k;rw[e] at i;have f:a.tmps.getD k undef= .slice none 0 0:=i.resolve_left (by simp)
    have:=S.write (β':=fun j=>if j=k then none else β j) (w':=w) (dst:=some k) (v:= .one (.AS t k (AR (AH s.bk) k+1) 0 0)) (u:=a.tmps.getD k undef) (rd:=[]) (id:=k) (Bp:= .arr (AR (AH s.bk) k+1) t []) g (Nat.zero_le _)
     (fun j p=>by simp[p]) (by simp[AM.AR]) (fun e=>by simp[AM.AR] at e) (fun _ _ _=>rfl) (Nat.le_refl _) (fun b arr e o=>⟨arr,o,rfl⟩) rfl rfl rfl (fun _ b hb=>by simp at hb)
     (fun _=> .inl ⟨by show (if k=k then _ else _)=_;simp,rfl⟩)
     (fun _=> .inr ⟨⟨by rw[f];rfl,by show _<=AR _ k;rw[GC _ _ _ g,if_pos rfl];exact Nat.le_refl _⟩,fun _=>⟨none,0,f,Nat.le_refl _,Nat.zero_le _,fun h=>(by cases h),.inl rfl⟩⟩)
    rw[Yz] at this;exact Bo.conv this (by show (BY _ _ _).length=_;rw[Ge];exact d) r
   have l:BY s.sl k (.one (.AS t k (AR (AH s.bk) k+1) 0 0))=s.sl:=Hu _ _ _ (by rw[S.len,<-S.IG];omega);have m:BY s.bk k (some (AM.arr (AR (AH s.bk) k+1) t []))=s.bk:=Hu _ _ _ (by omega);rw[l,m];exact Bo.conv S d r
  exact Bo.conv S d r
def Hg:Code->Bool
 | .region _ ops _=>ops.toList.all OM
 |.seq a b|.cond _ a b=>Hg a&&Hg b
 |.block _ c|.loop c=>Hg c
 | _=>true
def oD:AX->Exit
 | .DG=> .normal
 | .exit n=> .exit n
 | .ret=> .ret
def Jr (w0:World) (X:WX) (n:Nat) (Q:AX->St->Prop) (e:Exit) (a:Act) (w:World):Prop:=
 ∃x s β,e=oD x/\Q x s/\s.sl.length=n/\Bo w0 X β s a w
theorem F3 (hm:P.follows .mixedOrders=true) (m:∀o,OM o=true->Sound P E TI o) {n:Nat} {w0:World} {X:WX}:∀{c:Code} {Q:AX->St->Prop} {β:Nat->Option Nat} {s:St} {a:Act} {w:World},Hg c=true->s.sl.length=n->Bo w0 X β s a w->DD E TI n c Q s->
  c.wp P (Jr w0 X n Q) a w
 | .skip,Q,β,s,a,w,_,g,S,h=>wp_skip ⟨.DG,s,β,rfl,h,g,S⟩
 | .exit i,Q,β,s,a,w,_,g,S,h=>wp_exit ⟨.exit i,s,β,rfl,h,g,S⟩
 | .ret,Q,β,s,a,w,_,g,S,h=>wp_ret ⟨.ret,s,β,rfl,h,g,S⟩
 | .region id ops draw,Q,β,s,a,w,l,g,S,h=>
  mN hm (fun o D=>m o (List.all_eq_true.1 l o D)) S h fun s' r A β' q w' j=>⟨.DG,s',β',rfl,r,by rw[A];exact g,j⟩
 | .seq x y,Q,β,s,a,w,l,g,S,h=>by
  simp only[Hg,Bool.and_eq_true] at l;refine wp_seq (wp_mono (F3 hm m l.1 g S h) fun e q w' he=>?_);obtain⟨x',s',β',rfl,f,d,j⟩:=he;cases x' with
  | DG=>exact F3 hm m l.2 d j f
  | exit i=>exact⟨.exit i,s',β',rfl,f,d,j⟩
  | ret=>exact⟨.ret,s',β',rfl,f,d,j⟩
 | .cond c x y,Q,β,s,a,w,l,g,S,h=>by
  simp only[Hg,Bool.and_eq_true] at l;have hc:=C1 S.CW c
  have plain:(match ev s.sl c with | .one (.bool true)=>DD E TI n x Q s | .one (.bool false)=>DD E TI n y Q s | .one (.ub u)=>(u=true->DD E TI n x Q s)/\DD E TI n y Q s | _=>False)->(Code.cond c x y).wp P (Jr w0 X n Q) a w:=by
   intro h
   split at h
   ·rename_i he
    rw[he] at hc;exact wp_cond_true (By hc (by simp)) (F3 hm m l.1 g S h)
   ·rename_i he
    rw[he] at hc;exact wp_cond_false (By hc (by simp)) (F3 hm m l.2 g S h)
   ·rename_i u he
    rw[he] at hc;obtain⟨b,hb,t⟩:=By hc (by simp);cases b with
    | true=>exact wp_cond_true hb (F3 hm m l.1 g S (h.1 (t rfl)))
    | false=>exact wp_cond_false hb (F3 hm m l.2 g S h.2)
   exact h.elim
  simp only[DD] at h
  split at h
  ·rcases h with⟨ks,p,J,v,h⟩ | h
   ·have fin:∀e q w',Jr w0 X n (fun e s'=>match e with | .DG=>J (EL s' p ks) (D4 s' p p) | .exit i=>Q (.exit i) s' | .ret=>Q .ret s') e q w'->Jr w0 X n Q e q w':=by
     rintro e q w' ⟨x',s',β',rfl,f,d,j⟩;cases x' with
     | DG=>exact⟨.DG,_,β',rfl,v _ _ f,by show (Gg _ _ _).length=_;rw[Mc,Hl],j.head d ks p⟩
     | exit i=>exact⟨.exit i,s',β',rfl,f,d,j⟩
     | ret=>exact⟨.ret,s',β',rfl,f,d,j⟩
    split at h
    ·rename_i he
     rw[he] at hc;exact wp_cond_true (By hc (by simp)) (wp_mono (F3 hm m l.1 g S h) fin)
    ·rename_i he
     rw[he] at hc;exact wp_cond_false (By hc (by simp)) (wp_mono (F3 hm m l.2 g S h) fin)
    ·rename_i u he
     rw[he] at hc;obtain⟨b,hb,t⟩:=By hc (by simp);cases b with
     | true=>exact wp_cond_true hb (wp_mono (F3 hm m l.1 g S (h.1 (t rfl))) fin)
     | false=>exact wp_cond_false hb (wp_mono (F3 hm m l.2 g S h.2) fin)
    exact h.elim
   exact plain h
  exact plain h
 | .block id c,Q,β,s,a,w,l,g,S,h=>by
  rcases h with⟨ks,p,J,v,h⟩ | h
  ·refine wp_block (wp_mono (F3 hm m (c:=c) l g S h) fun e q w' he=>?_);obtain⟨x',s',β',rfl,f,d,j⟩:=he
   have fin:J (EL s' p ks) (D4 s' p p)->Jr w0 X n Q .normal q w':=fun f=>
    ⟨.DG,_,β',rfl,v _ _ f,by show (Gg _ _ _).length=_;rw[Mc,Hl],j.head d ks p⟩
   cases x' with
   | DG=>exact fin f
   | exit i=>
    show Exit.inBlock id (Jr w0 X n Q) (.exit i) q w'
    simp only[Exit.inBlock];simp only at f
    split
    ·rename_i r;rw[if_pos r] at f;exact fin f
    rename_i r;rw[if_neg r] at f;exact⟨.exit i,s',β',rfl,f,d,j⟩
   | ret=>exact⟨.ret,s',β',rfl,f,d,j⟩
  refine wp_block (wp_mono (F3 hm m (c:=c) l g S h) fun e q w' he=>?_);obtain⟨x',s',β',rfl,f,d,j⟩:=he;cases x' with
  | DG=>exact⟨.DG,s',β',rfl,f,d,j⟩
  | exit i=>
   show Exit.inBlock id (Jr w0 X n Q) (.exit i) q w'
   simp only[Exit.inBlock];simp only at f
   split
   ·rename_i r;rw[if_pos r] at f;exact⟨.DG,s',β',rfl,f,d,j⟩
   rename_i r;rw[if_neg r] at f;exact⟨.exit i,s',β',rfl,f,d,j⟩
  | ret=>exact⟨.ret,s',β',rfl,f,d,j⟩
 | .loop c,Q,β,s,a,w,l,g,S,h=>by
  obtain⟨cv,ks,p,J,⟨k0,B⟩,F⟩:=h;obtain⟨β,S,g⟩:=S.conv g cv;refine oc (fun k a w=>∃vs z β,J vs z k/\Bo w0 X β (Hm n ks vs p z) a w) ⟨_,_,β,B,S.head g ks p⟩ fun k a w C=>?_
  obtain⟨vs,z,β,v,S⟩:=C;refine wp_mono (F3 hm m (c:=c) l (by show (Gg _ _ _).length=_;rw[Mc,Hl]) S (F vs z k v)) fun e q w' he=>?_
  obtain⟨x',s',β',rfl,f,d,j⟩:=he;cases x' with
  | DG=>obtain⟨k',r,A⟩:=f;exact⟨k',r,_,_,β',A,j.head d ks p⟩
  | exit i=>exact⟨.exit i,s',β',rfl,f,d,j⟩
  | ret=>exact⟨.ret,s',β',rfl,f,d,j⟩
 |.rangeFunc _ _ _ _,_,_,_,_,_,_,_,_,h|.scope _,_,_,_,_,_,_,_,_,h|.label _,_,_,_,_,_,_,_,_,h|.goto _,_,_,_,_,_,_,_,_,h|.refuse _,_,_,_,_,_,_,_,_,h=>h.elim
end
end Go.Abs
