/- Part 10 of a proof. Conditions: each theorem's own. -/
import Derived.Orders
import Derived.Test.YtfilemenbchajaaGreatPk08
set_option linter.all false
set_option maxHeartbeats 8000000
set_option maxRecDepth 20000
namespace Go.Abs
open Go.RowKit
def Lh (o:Oper):Bool:=
 match o.op with
 |.alloc _|.box _ _|.makeSlice _ _ _|.buildSlice _ _ _=>o.dst.isSome
 | .call c=>match c.callee with
  | .builtin _=>o.dst.isSome
  | _=>true
 | _=>true
section
variable {P:Program} {TI:TypeId->Info}
theorem BR.eW {w0:World} {X:WX} {β:Nat->Option Nat} {s:St} {a:Act} {w:World} {q id v:Nat} {t:T} {l:List (el t)} {rd H:List Nat}
  (S:BR w0 X β (s.app (some q) ⟨.one (.AT t id v 0 l.length),[(id,.arr v t l)],rd⟩) a w) (f:id<s.bk.length) (O:id≠0):
  BR w0 X β (s.app (some q) ⟨.one (.sl t l),[(id,.dead v)],H⟩) a w:=by
 have p:∀k,AF (BG s.bk id (some (.arr v t l))) k=if k=id then some (.arr v t l) else AF s.bk k:=fun k=>by
  rw[Fi];by_cases h:k=id <;> simp[h,f]
 have u:∀k,AF (BG s.bk id (some (.dead v))) k=if k=id then some (.dead v) else AF s.bk k:=fun k=>by
  rw[Fi];by_cases h:k=id <;> simp[h,f]
 have n:∀k,AW (AF (BG s.bk id (some (.dead v)))) k=AW (AF (BG s.bk id (some (.arr v t l)))) k:=fun k=>by
  rw[Eg _ _ _ f,Eg _ _ _ f];rfl
 have g:∀k,live (AF (BG s.bk id (some (.dead v)))) k->live (AF (BG s.bk id (some (.arr v t l)))) k/\k≠id:=fun k d=>by
  rw[GF _ _ _ f] at d
  by_cases h:k=id
  ·rw[if_pos h] at d;simp[AM.live] at d
  rw[if_neg h] at d;exact⟨by rw[GF _ _ _ f,if_neg h];exact d,h⟩
 have x:live (AF (BG s.bk id (some (.arr v t l)))) id:=by rw[GF _ _ _ f,if_pos rfl];rfl
 have hle:(cx X w β (AF (BG s.bk id (some (.arr v t l))))).le (cx X w β (AF (BG s.bk id (some (.dead v))))):=
  ⟨fun k=>Nat.le_of_eq (n k).symm,fun _ _=>rfl,fun k b arr e _ _ U=>⟨arr,U,rfl⟩,fun b hb=>⟨⟨⟨hb.1.1,fun k d=>hb.1.2 k (g k d).1⟩,hb.2⟩,rfl⟩⟩
 have C:∀b o,w.heap[b]? =some o->b<w.heap.size:=fun b o h=>by
  rcases Nat.lt_or_ge b w.heap.size with h' | h'
  ·exact h'
  simp[Array.getElem?_eq_none h'] at h
 refine⟨S.defers,by have:=S.len;simpa [St.app,Ed,FK] using this,by have:=S.Gf;simpa [St.app,CZ,FK] using this,fun i=>?_,fun k b d=>?_,fun k k' b d c hb z=>S.inj k k' b (g k d).1 (g k' c).1 hb z,
  fun k b d hb=>S.own k b (g k d).1 hb,S.os,S.tape,S.output,S.size,S.block,fun k b d=>?_,S.fresh,fun V Z=>?_⟩
 ·have Y:=S.Bx i
  show BQ _ (nth (BG s.sl q (.one (.sl t l))) i) _
  have m:BQ (cx X w β (AF (BG s.bk id (some (.arr v t l))))) (nth (BG s.sl q (.one (.AT t id v 0 l.length))) i) (a.tmps.getD i undef):=Y;rw[H6] at m ⊢
  by_cases h:i=q/\q<s.sl.length
  ·rw[if_pos h] at m ⊢;have R:=BX m (by simp)
   have F:v=(cx X w β (AF (BG s.bk id (some (.arr v t l))))).cv id:=by
    show v=AW _ id
    rw[Eg _ _ _ f,if_pos rfl];rfl
   obtain⟨base,cap,hu,g1,g2,N⟩:=MB R F;refine .inr ?_
   show rep w _ (.sl t) l [_]
   have D:l.length<=140737488355328:=S.lens id (.arr v t l) (by show AF (BG s.bk id (some (.arr v t l))) id=_;rw[p,if_pos rfl]);refine⟨base,cap,by rw[hu],g1,D,?_⟩
   by_cases r:l=[]
   ·exact .inl r
   right
   have W:0<l.length:=List.length_pos_iff.2 r;rcases N with rfl |⟨b,arr,e,G,M,q3,q4⟩
   ·omega
   rcases S.blocks id (.arr v t l) (by show AF (BG s.bk id (some (.arr v t l))) id=_;rw[p,if_pos rfl]) with⟨K,L⟩ |⟨b',J,e',K,L,p3⟩
   ·exact absurd L r
   obtain rfl:b'=b:=Option.some.inj (K.symm.trans G);rw[Nat.zero_mul] at M
   have Q:X.A b':=by
    rcases S.own id b' x G with h | h
    ·exact S.fresh b' h
    exact absurd h.2 O
   refine⟨b',0,M,⟨⟨C _ _ q3,fun k d e=>(g k d).2 (S.inj k id b' (g k d).1 x e G)⟩,Q⟩,fun j y hy=>?_⟩;obtain⟨us,k1,k2⟩:=p3 j y hy;exact⟨us,CR hle.I _ _ _ k1,by rw[Nat.zero_add];exact k2⟩
  rw[if_neg h] at m ⊢;exact BQ.mono hle m
 ·have c:AF (BG s.bk id (some (.dead v))) k=some b:=d;rw[u] at c
  by_cases h:k=id
  ·rw[if_pos h] at c;cases Option.some.inj c
   trivial
  rw[if_neg h] at c;have hb:AF (BG s.bk id (some (.arr v t l))) k=some b:=by rw[p,if_neg h];exact c
  exact Ci.mono hle (n k) (fun _ _=>rfl) (S.blocks k b hb)
 ·have c:AF (BG s.bk id (some (.dead v))) k=some b:=d;rw[u] at c
  by_cases h:k=id
  ·rw[if_pos h] at c;cases Option.some.inj c
   trivial
  rw[if_neg h] at c;exact S.lens k b (by show AF (BG s.bk id (some (.arr v t l))) k=_;rw[p,if_neg h];exact c)
 have B:=g 0 V;exact S.Iv B.1 ((n 0).symm.trans Z)
theorem fM (D:∀t,DI P t (TI t)) {o:Oper} {c:Call} {b:Builtin} (u:o.op= .call c) (p:c.callee= .builtin b) (r:o.dst≠none):Sound P (env P) TI o:=by
 intro w0 X β s a w S f h N Q m;simp only[Bv,u,p] at h;rcases Ho.1 h with h |⟨hb,h⟩
 ·exact Vu D u p r S h m
 obtain⟨g,C,J⟩:=Jg (fun t l O=>absurd (Nc hb h) (by rw[O];exact (by decide:¬(1=2)))) h;obtain⟨t,id,v,n,l,F,I,R,K,_⟩:=Pe J;subst R;obtain⟨q,y⟩:=Option.ne_none_iff_exists'.1 r;rw[y] at m;refine Vu D u p r S (C _ rfl) (fun A H w' j=>m A H w' ?_);rw[y,F] at j;rw[<-K]
 by_cases i:id<s.bk.length
 ·exact j.eW i I
 have d:s.bk.length<=id:=Nat.le_of_not_lt i;have L:BS o=q:=by simp[BS,y]
 rcases Yn hb (C _ rfl) (by rw[F]) with e |⟨x,G⟩
 ·have z:s.sl.length<=q:=by
   have k:=S.len;have T:=S.Gf;omega
  have k:∀(f:Ba) (B:AM),f.ws=[(id,B)]->s.app (some q) f=s:=fun f B M=>by
   unfold St.app;rw[M];simp only[Ed,CZ,Gr _ _ _ z,Gr _ _ _ d]
  rw[k _ _ rfl] at j;rw[k _ _ rfl];exact j
 rw[HN _ _ d] at G;cases G
theorem Pp (j:∀t,DI P t (TI t)) (o:Oper) (k:Lh o=true):Sound P (env P) TI o:=by
 unfold Lh at k;have l:o.dst.isSome=true->o.dst≠none:=fun h e=>by simp[e] at h
 cases g:o.op <;> simp only[g] at k
 case move x=>(intro w0 X β s a w S f h N Q d;exact fU g S h d)
 case assign x=>(intro w0 X β s a w S f h N Q d;exact fH g S h d)
 case nilCheck x=>(intro w0 X β s a w S f h N Q d;exact fV g S h d)
 case pick c x y=>(intro w0 X β s a w S f h N Q d;exact fW g S h d)
 case alloc t=>(intro w0 X β s a w S f h N Q d;exact fG j g (l k) S h d)
 case box t x=>(intro w0 X β s a w S f h N Q d;exact fJ g (l k) S h d)
 case extract x i=>(intro w0 X β s a w S f h N Q d;exact fO g S h d)
 case load t x=>(intro w0 X β s a w S f h N Q d;exact fS j g S h d)
 case store t p x=>(intro w0 X β s a w S f h N Q d;exact fY j g S h d)
 case fieldAddr t x i=>(intro w0 X β s a w S f h N Q d;exact fQ j g S h d)
 case field t x i=>(intro w0 X β s a w S f h N Q d;exact fP j g S h d)
 case build t ps=>(intro w0 X β s a w S f h N Q d;exact fK j g S h d)
 case buildSlice t n ps=>(intro w0 X β s a w S f h N Q d;exact fL j g (l k) S h d)
 case makeSlice t x y=>(intro w0 X β s a w S f h N Q d;exact fT j g (l k) S h d)
 case indexAddr t x i=>(intro w0 X β s a w S f h N Q d;exact fR j g S h d)
 case slice t x lo hi mx=>(intro w0 X β s a w S f h N Q d;exact fX j g S h d)
 case binOp op t x y t'=>(intro w0 X β s a w S f h N Q d;exact fI j g S h d)
 case unOp op t x=>(intro w0 X β s a w S f h N Q d;exact fZ g S h d)
 case convert src dst x=>(intro w0 X β s a w S f h N Q d;exact fN j g S h d)
 case call c=>
  cases m:c.callee with
  | builtin b=>simp only[m] at k;(intro w0 X β s a w S f h N Q d;exact fM j g m (l k) S h d)
  | value f=>(intro w0 X β s a w S f h N Q d;exact fF o g m S h d)
  | invoke _ _=>intro w0 X β s a w S f h N Q d;simp only[Bv,g,m] at h
 all_goals (intro w0 X β s a w S f h N Q d;simp only[Bv,g] at h)
end
section
variable {P:Program} {E:Env} {TI:TypeId->Info}
def EO (E:Env) (TI:TypeId->Info) (all:List Oper) (o:Oper) (f:Ba) (s:St):Prop:=
 match o.guard with
 | none=>Bv E TI o (BS o) (ev s.sl) (AF s.bk) (fun g=>g=f)
 | some (j,w)=>∃g,Lw all j=some g/\
  ((nth s.sl g= .one (.bool w)/\Bv E TI o (BS o) (ev s.sl) (AF s.bk) (fun g=>g=f))\/
    ((nth s.sl g= .one (.bool (!w))\/nth s.sl g= .AE [])/\f=⟨.AE [],[],[]⟩))
def chain (E:Env) (TI:TypeId->Info) (all:List Oper):List Oper->List Ba->St->Prop
 | [],[],_=>True
 | o::r,f::fs,s=>EO E TI all o f s/\chain E TI all r fs (s.app o.dst f)
 | _,_,_=>False
def fin:List Oper->List Ba->St->St
 | o::r,f::fs,s=>fin r fs (s.app o.dst f)
 | _,_,s=>s
def JL (f:Ba):List Nat×List Nat:=(f.rd,f.ws.map (·.1))
theorem gn {o:Oper} {a:Act} {w:World} {N:Act->World->Prop} (h:o.wp P a w N (fun _ _ _=>False)):∃b w',N b w':=by
 unfold Oper.wp at h
 generalize (execOp a.eval o).run P w=r at h
 unfold Oper.upon at h
 split at h
 ·exact⟨_,_,h⟩
 ·exact⟨_,_,h⟩
 ·exact⟨_,_,h⟩
 ·obtain⟨e,w',c,hR,_⟩:=h [];cases e with
  | returned v=>exact⟨_,_,hR⟩
  | panicked _=>exact hR.elim
  | outgrown=>obtain⟨_,_,h⟩:=hR;exact h.elim
 ·obtain⟨v,w',hR,_⟩:=h default [];exact⟨_,_,hR⟩
 ·exact h.elim
 exact h.elim
theorem Rv {w0:World} {X:WX} {β:Nat->Option Nat} {s:St} {a:Act} {w:World} (S:BR w0 X β s a w) {g:Nat} {b:Bool} (h:nth s.sl g= .one (.bool b)):a.tmps[g]? =some (.bool b):=by
 have d:=S.Bx g;rw[h] at d;have c:a.tmps.getD g undef= .bool b:=BX d (by simp);rcases Nat.lt_or_ge g a.tmps.size with h3 | h3
 ·simp[Array.getD,h3] at c;simp[h3,c]
 simp[Array.getD,Nat.not_lt.2 h3,undef] at c
theorem O4 {ops:Array Oper} {o:Oper} (r:Sound P E TI o) {w0:World} {X:WX} {β:Nat->Option Nat} {s:St} {a:Act} {w:World} (S:BR w0 X β s a w) {f:Ba} (h:EO E TI ops.toList o f s)
  {N:Act->World->Prop} {Q:Exit->Act->World->Prop} (m:∀n p w',BR w0 X n (s.app o.dst f) p w'->N p w'):
  if Region.wanted o (yielded ops a.tmps) then o.wp P a w N Q else N (a.put o.dst undef) w:=by
 unfold EO at h
 split at h
 ·rename_i l
  simp only[Region.wanted,l,if_true];exact r S h m
 rename_i j want l
 obtain⟨g,t,h3⟩:=h;have b:(ops[j]?).bind (·.dst)=some g:=by simpa [Lw] using t
 rcases h3 with⟨c,h3⟩ |⟨c,rfl⟩
 ·have d:yielded ops a.tmps j=some want:=by simp[yielded,b,Rv S c]
  simp only[Region.wanted,l,d,beq_self_eq_true,if_true];exact r S h3 m
 have d:(yielded ops a.tmps j==some want)=false:=by
  rcases c with c | c
  ·have d:yielded ops a.tmps j=some (!want):=by simp[yielded,b,Rv S c]
   rw[d];cases want <;> rfl
  have d:yielded ops a.tmps j=none:=by
   have q:=S.Bx g;rw[c] at q;obtain⟨arr,i,_⟩:=q;have i:a.tmps.getD g undef= .tuple arr:=i;unfold yielded;simp only[b,Option.bind_some];rcases Nat.lt_or_ge g a.tmps.size with k | k
   ·simp[Array.getD,k] at i;simp[k,i]
   simp[k]
  rw[d];rfl
 simp only[Region.wanted,l,d,Bool.false_eq_true,if_false];exact m β _ w (S.val ⟨#[],rfl,trivial⟩)
theorem cY {ops:Array Oper} {o:Oper} (d:Sound P E TI o) {w0:World} {X:WX} {β:Nat->Option Nat} {s:St} {a:Act} {w:World} (S:BR w0 X β s a w) {f:Ba} (h:EO E TI ops.toList o f s):
  ∃b c w',BR w0 X b (s.app o.dst f) c w':=by
 have:=O4 (N:=fun c w'=>∃b,BR w0 X b (s.app o.dst f) c w') (Q:=fun _ _ _=>False) d S h fun b c w' h=>⟨b,h⟩
 split at this
 ·obtain⟨c,w',b,h⟩:=gn this;exact⟨b,c,w',h⟩
 obtain⟨b,h⟩:=this;exact⟨b,_,_,h⟩
theorem Pn {w0:World} {X:WX} {β:Nat->Option Nat} {s:St} {a:Act} {w:World} (S:BR w0 X β s a w) (x:Operand) (t:T) (l:List (el t)) (h:ev s.sl x= .one (.sl t l)):l.length<=140737488355328:=by
 have b:=CU S.Bx x;rw[h] at b;obtain⟨_,_,_,_,c,_⟩:=BX b (by simp);exact c
theorem VM {ops:Array Oper} {draw:Bool} {w0:World} {X:WX} {Q:St->Prop}:∀{r:List Oper} {tr:Tr} {β:Nat->Option Nat} {s:St} {a:Act} {w:World},(∀o∈r,Sound P E TI o)->BR w0 X β s a w->
  Fp E TI ops.toList draw r tr Q s->∃fs,chain E TI ops.toList r fs s/\Q (fin r fs s)/\(draw=true->H7 ops.toList (tr.reverse++fs.map JL)=true)
 | [],tr,β,s,a,w,_,_,h=>by
  refine⟨[],trivial,?_,?_⟩
  ·cases draw
   ·exact h
   exact h.2
  rintro rfl;simpa using h.1 ()
 | o::r,tr,β,s,a,w,k,S,h=>by
  have go:∀f,EO E TI ops.toList o f s->Fp E TI ops.toList draw r (JL f::tr) Q (s.app o.dst f)->
    ∃fs,chain E TI ops.toList (o::r) fs s/\Q (fin (o::r) fs s)/\(draw=true->H7 ops.toList (tr.reverse++fs.map JL)=true):=by
   intro f c d;obtain⟨q,t,w',l⟩:=cY (k o (by simp)) S c;obtain⟨fs,g1,g2,m⟩:=VM (fun o p=>k o (by simp[p])) l d;exact⟨f::fs,⟨c,g1⟩,g2,fun n=>by have:=m n;simpa using this⟩
  unfold Fp at h
  split at h
  ·rename_i i
   obtain⟨f,c,d⟩:=Nb (Pn S) h;exact go f (by unfold EO;rw[i];exact c _ rfl) d
  rename_i j want i
  split at h
  ·exact h.elim
  rename_i g b
  split at h
  ·rename_i hb
   obtain⟨f,c,d⟩:=Nb (Pn S) h;exact go f (by unfold EO;rw[i];exact⟨g,b,.inl ⟨hb,c _ rfl⟩⟩) d
  ·rename_i hb
   obtain⟨f,c,d⟩:=Nb (Pn S) h;exact go f (by unfold EO;rw[i];exact⟨g,b,.inl ⟨hb,c _ rfl⟩⟩) d
  ·rename_i hb
   exact go ⟨.AE [],[],[]⟩ (by unfold EO;rw[i];exact⟨g,b,.inr ⟨.inl hb,rfl⟩⟩) h
  ·rename_i hb
   exact go ⟨.AE [],[],[]⟩ (by unfold EO;rw[i];exact⟨g,b,.inr ⟨.inl hb,rfl⟩⟩) h
  ·rename_i hb
   exact go ⟨.AE [],[],[]⟩ (by unfold EO;rw[i];exact⟨g,b,.inr ⟨.inr hb,rfl⟩⟩) h
  exact h.elim
theorem Wd {ops:Array Oper} {w0:World} {X:WX} {Q:Exit->Act->World->Prop}:∀{r:List Oper} {fs:List Ba} {k:Nat} {β:Nat->Option Nat} {s:St} {a:Act} {w:World},(∀j,ops[k+j]? =r[j]?)->(∀o∈r,Sound P E TI o)->BR w0 X β s a w->
  chain E TI ops.toList r fs s->(∀β a w,BR w0 X β (fin r fs s) a w->Q .normal a w)->wpOps P ops Q (List.range' k r.length) a w
 | [],[],k,β,s,a,w,_,_,S,_,b=>b β a w S
 | o::r,f::fs,k,β,s,a,w,d,g,S,c,b=>by
  have l:ops[k]? =some o:=by simpa using d 0
  have:=O4 (Q:=Q) (N:=wpOps P ops Q (List.range' (k+1) r.length)) (g o (by simp)) S c.1 fun n p w' i=>
   Wd (fun j=>by have:=d (j+1);rw[show k+1+j=k+(j+1) by omega];simpa using this) (fun o m=>g o (by simp[m])) i c.2 b
  simp only[List.length_cons,List.range'_succ,wpOps,l]
  split
  ·rename_i hw;rw[if_pos hw] at this;exact .inl this
  rename_i hw;rw[if_neg hw] at this;exact this
 |[],_::_,_,_,_,_,_,_,_,_,h,_|_::_,[],_,_,_,_,_,_,_,_,h,_=>h.elim
end
end Go.Abs
namespace Go.Abs
open Go.RowKit
section
variable {P:Program} {E:Env} {TI:TypeId->Info}
def run (m:Nat->Bool):Nat->List Oper->List Ba->St->St
 | k,o::r,f::fs,s=>run m (k+1) r fs (if m k then s.app o.dst f else s)
 | _,_,_,s=>s
theorem VN {m:Nat->Bool}:∀{r:List Oper} {fs:List Ba} {k:Nat} {s:St},(∀j,k<=j->j<k+r.length->m j=true)->run m k r fs s=fin r fs s
 | o::r,f::fs,k,s,h=>by
  simp only[run,fin];rw[h k (Nat.le_refl _) (by simp),if_pos rfl];exact VN fun j a b=>h j (by omega) (by simp;omega)
 |[],_,_,_,_|_::_,[],_,_,_=>rfl
theorem UE (s:St) (d:Option Nat) (f:Ba) (x:Nat) (h:d≠some x):nth (s.app d f).sl x=nth s.sl x:=by
 cases d with
 | none=>rfl
 | some q=>
  show nth (BG s.sl q f.v) x=_
  rw[H6,if_neg]
  rintro⟨rfl,_⟩;exact h rfl
theorem J8 (s:St) (d:Option Nat) (f:Ba):(s.app d f).sl.length=s.sl.length:=by
 cases d with
 | none=>rfl
 | some q=>exact FK _ _ _
theorem KA:∀(ws:List (Nat×AM)) (l:List (Option AM)),(CZ ws l).length=l.length
 | [],_=>rfl
 | p::ws,l=>by rw[CZ,KA ws,FK]
theorem Ot:∀(ws:List (Nat×AM)) (l:List (Option AM)) (x:Nat),x ∉ ws.map (·.1)->AF (CZ ws l) x=AF l x
 | [],_,_,_=>rfl
 | p::ws,l,x,h=>by
  rw[CZ,Ot ws _ x (fun h'=>h (by simp at h' ⊢;exact .inr h')),Fi,if_neg]
  rintro⟨rfl,_⟩;exact h (by simp)
theorem UI:∀(ws:List (Nat×AM)) (l l':List (Option AM)) (x:Nat),l.length=l'.length->AF l x=AF l' x->AF (CZ ws l) x=AF (CZ ws l') x
 | [],_,_,_,_,h=>h
 | p::ws,l,l',x,a,h=>UI ws _ _ x (by simp[FK,a]) (by rw[Fi,Fi,a,h])
theorem Ke {m1 m2:Nat->Bool} {x:Nat}:∀{r:List Oper} {fs:List Ba} {k:Nat} {s s':St},(∀j o,r[j]? =some o->m1 (k+j)≠m2 (k+j)->o.dst≠some x)->nth s.sl x=nth s'.sl x->s.sl.length=s'.sl.length->
  nth (run m1 k r fs s).sl x=nth (run m2 k r fs s').sl x
 | o::r,f::fs,k,s,s',h,a,b=>by
  have l:=h 0 o rfl;simp only[Nat.add_zero] at l;have i:∀j g,r[j]? =some g->m1 (k+1+j)≠m2 (k+1+j)->g.dst≠some x:=fun j g m hm=>h (j+1) g (by simpa using m) (by rw[show k+(j+1)=k+1+j by omega];exact hm)
  simp only[run];cases c:m1 k <;> cases d:m2 k <;> simp only[Bool.false_eq_true,if_true,if_false]
  ·exact Ke i a b
  ·exact Ke i (by rw[UE _ _ _ _ (l (by simp[c,d]))];exact a) (by rw[J8];exact b)
  ·exact Ke i (by rw[UE _ _ _ _ (l (by simp[c,d]))];exact a) (by rw[J8];exact b)
  refine Ke i ?_ (by rw[J8,J8];exact b);cases n:o.dst with
  | none=>exact a
  | some q=>show nth (BG _ _ _) _=nth (BG _ _ _) _;rw[H6,H6,b,a]
 |[],_,_,_,_,_,a,_|_::_,[],_,_,_,_,a,_=>a
theorem Kd {m1 m2:Nat->Bool} {x:Nat}:∀{r:List Oper} {fs:List Ba} {k:Nat} {s s':St},(∀j f,fs[j]? =some f->m1 (k+j)≠m2 (k+j)->x ∉ f.ws.map (·.1))->AF s.bk x=AF s'.bk x->s.bk.length=s'.bk.length->
  AF (run m1 k r fs s).bk x=AF (run m2 k r fs s').bk x
 | o::r,f::fs,k,s,s',h,a,b=>by
  have i:=h 0 f rfl;simp only[Nat.add_zero] at i;have g:∀j l,fs[j]? =some l->m1 (k+1+j)≠m2 (k+1+j)->x ∉ l.ws.map (·.1):=fun j n m hm=>h (j+1) n (by simpa using m) (by rw[show k+(j+1)=k+1+j by omega];exact hm)
  simp only[run];cases c:m1 k <;> cases d:m2 k <;> simp only[Bool.false_eq_true,if_true,if_false]
  ·exact Kd g a b
  ·exact Kd g (by show _=AF (CZ _ _) _;rw[Ot _ _ _ (i (by simp[c,d]))];exact a) (by show _=(CZ _ _).length;rw[KA];exact b)
  ·exact Kd g (by show AF (CZ _ _) _=_;rw[Ot _ _ _ (i (by simp[c,d]))];exact a) (by show (CZ _ _).length=_;rw[KA];exact b)
  exact Kd g (UI _ _ _ _ b a) (by show (CZ _ _).length=(CZ _ _).length;rw[KA,KA];exact b)
 |[],_,_,_,_,_,a,_|_::_,[],_,_,_,_,a,_=>a
theorem Pg {α:Type}:∀(l:List α) (i j:Nat) (x y:α),i≠j->BG (BG l i x) j y=BG (BG l j y) i x
 | [],_,_,_,_,_=>rfl
 | _::_,0,0,_,_,h=>(h rfl).elim
 |_::_,0,_+1,_,_,_|_::_,_+1,0,_,_,_=>rfl
 | _::l,i+1,j+1,x,y,h=>by simp[BG,Pg l i j x y (by omega)]
theorem Ul:∀(ws:List (Nat×AM)) (l:List (Option AM)) (i:Nat) (b:Option AM),i ∉ ws.map (·.1)->CZ ws (BG l i b)=BG (CZ ws l) i b
 | [],_,_,_,_=>rfl
 | p::ws,l,i,b,h=>by
  rw[CZ,CZ,Pg _ _ _ _ _ (fun e=>h (by simp[e])),Ul ws _ i b (fun h'=>h (by simp at h' ⊢;exact .inr h'))]
theorem Uk:∀(ws a:List (Nat×AM)) (l:List (Option AM)),(∀x∈ws.map (·.1),x ∉ a.map (·.1))->CZ a (CZ ws l)=CZ ws (CZ a l)
 | [],_,_,_=>rfl
 | p::ws,a,l,h=>by
  rw[CZ,CZ,Uk ws a _ (fun x b=>h x (by simp at b ⊢;exact .inr b)),Ul a l p.1 _ (h p.1 (by simp))]
theorem Ym {s:St} {d a:Option Nat} {f b:Ba} (g:∀q,d=some q->a≠some q) (h:∀x∈f.ws.map (·.1),x ∉ b.ws.map (·.1)):(s.app d f).app a b=(s.app a b).app d f:=by
 have c:Ed (Ed s.sl d f.v) a b.v=Ed (Ed s.sl a b.v) d f.v:=by
  cases d with
  | none=>rfl
  | some q=>cases a with
   | none=>rfl
   | some i=>exact Pg _ _ _ _ _ fun e=>g q rfl (by rw[e])
 show St.mk _ _=St.mk _ _
 rw[St.mk.injEq];exact⟨c,Uk _ _ _ h⟩
theorem Pd {m m':Nat->Bool} {i:Nat} {o:Oper} {f:Ba}:∀{r:List Oper} {fs:List Ba} {k:Nat} {s:St},i<k->(∀j,j≠i->m' j=m j)->
  (∀j g d,r[j]? =some g->fs[j]? =some d->m (k+j)=true->(∀q,g.dst=some q->o.dst≠some q)/\(∀x∈d.ws.map (·.1),x ∉ f.ws.map (·.1)))->
  (run m k r fs s).app o.dst f=run m' k r fs (s.app o.dst f)
 | g::r,d::fs,k,s,p,hm,c=>by
  simp only[run,hm k (by omega)]
  have h:∀j b a,r[j]? =some b->fs[j]? =some a->m (k+1+j)=true->(∀q,b.dst=some q->o.dst≠some q)/\(∀x∈a.ws.map (·.1),x ∉ f.ws.map (·.1)):=
   fun j b a l n h3=>c (j+1) b a (by simpa using l) (by simpa using n) (by rw[show k+(j+1)=k+1+j by omega];exact h3)
  cases t:m k <;> simp only[Bool.false_eq_true,if_true,if_false]
  ·exact Pd (by omega) hm h
  have:=c 0 g d rfl rfl (by simpa using t);rw[Pd (m':=m') (by omega) hm h,Ym this.1 this.2]
 |[],_,_,_,_,_,_|_::_,[],_,_,_,_,_=>rfl
theorem VO {m m':Nat->Bool} {i:Nat} {o:Oper} {f:Ba}:∀{r:List Oper} {fs:List Ba} {k j0:Nat} {s:St},i=k+j0->r[j0]? =some o->fs[j0]? =some f->m i=false->m' i=true->(∀j,j≠i->m' j=m j)->
  (∀j p n,j0<j->r[j]? =some p->fs[j]? =some n->m (k+j)=true->(∀q,p.dst=some q->o.dst≠some q)/\(∀x∈n.ws.map (·.1),x ∉ f.ws.map (·.1)))->
  (run m k r fs s).app o.dst f=run m' k r fs s
 | p::r,n::fs,k,0,s,t,h,l,hm,d,a,c=>by
  simp at h l;subst h l;simp only[Nat.add_zero] at t;subst t;simp only[run,hm,d,Bool.false_eq_true,if_true,if_false];exact Pd (Nat.lt_succ_self _) a fun j g b u v w=>c (j+1) g b (by omega) (by simpa using u) (by simpa using v) (by rw[show i+(j+1)=i+1+j by omega];exact w)
 | p::r,n::fs,k,j0+1,s,t,h,l,hm,d,a,c=>by
  simp only[run,a k (by omega)];exact VO (j0:=j0) (by omega) (by simpa using h) (by simpa using l) hm d a fun j g b q0 u v w=>c (j+1) g b (by omega) (by simpa using u) (by simpa using v) (by rw[show k+(j+1)=k+1+j by omega];exact w)
 | [],_,_,_,_,_,h,_,_,_,_,_=>by simp at h
 | _::_,[],_,_,_,_,_,l,_,_,_,_=>by simp at l
theorem R6 {all:List Oper}:∀{r:List Oper} {fs:List Ba} {k j:Nat} {s:St} {o:Oper},chain E TI all r fs s->r[j]? =some o->∃f,fs[j]? =some f/\EO E TI all o f (run (fun t=>decide (t<k+j)) k r fs s)
 | c::r,a::fs,k,0,s,o,b,h=>by
  simp at h;subst h;refine⟨a,rfl,?_⟩
  have:run (fun t=>decide (t<k+0)) k (c::r) (a::fs) s=s:=by
   have e:∀(r:List Oper) (fs:List Ba) (k':Nat) (s:St),k<=k'->run (fun t=>decide (t<k+0)) k' r fs s=s:=by
    intro r
    induction r with
    | nil=>intro fs k' s _;cases fs <;> rfl
    | cons o r i=>
     intro fs k' s l;cases fs with
     | nil=>rfl
     | cons f fs=>simp only[run];rw[if_neg (by simp;omega)];exact i fs (k'+1) s (by omega)
   exact e _ _ _ _ (Nat.le_refl _)
  rw[this];exact b.1
 | c::r,a::fs,k,j+1,s,o,b,h=>by
  obtain⟨f,d,g⟩:=R6 (k:=k+1) b.2 (show r[j]? =some o by simpa using h);refine⟨f,by simpa using d,?_⟩;simp only[run];rw[if_pos (by simp),show k+(j+1)=k+1+j by omega];exact g
 | [],[],_,_,_,_,_,h=>by simp at h
 |[],_::_,_,_,_,_,h,_|_::_,[],_,_,_,_,h,_=>h.elim
theorem Nv {all:List Oper}:∀{r:List Oper} {fs:List Ba} {s:St},chain E TI all r fs s->fs.length=r.length
 | [],[],_,_=>rfl
 | _::_,_::_,_,h=>by simp[Nv h.2]
 |[],_::_,_,h|_::_,[],_,h=>h.elim
theorem cX {all:List Oper} {o:Oper} {f:Ba} {s s':St} (b:∀x∈GK all o,nth s.sl x=nth s'.sl x) (i:∀x∈f.rd,AF s.bk x=AF s'.bk x) (h:EO E TI all o f s):EO E TI all o f s':=by
 have he:∀x∈o.op.operands,ev s.sl x=ev s'.sl x:=fun x k=>by
  cases x with
  | tmp t=>exact b t (by
   unfold GK UY;refine List.mem_append_left _ (List.mem_append_right _ (List.mem_filterMap.2 ⟨.tmp t,by simpa using k,rfl⟩)))
  | _=>rfl
 have a:Bv E TI o (BS o) (ev s.sl) (AF s.bk) (fun g=>g=f)->Bv E TI o (BS o) (ev s'.sl) (AF s'.bk) (fun g=>g=f):=fun h=>Yk i (Yl he h)
 unfold EO at h ⊢
 split at h
 ·rename_i c;exact a h
 rename_i j want c
 obtain⟨g,g1,d⟩:=h;refine⟨g,g1,?_⟩;rw[<-b g (by unfold GK;rw[c];simp[g1])];exact d.imp (fun q=>⟨q.1,a q.2⟩) id
end
end Go.Abs
namespace Go.Abs
open Go.RowKit
section
variable {P:Program} {E:Env} {TI:TypeId->Info}
def Ft:List Bool->Nat
 | []=>0
 | b::l=>(if b then 0 else 1)+Ft l
theorem WN:∀(l:List Bool) (i:Nat),l[i]? =some false->Ft (l.set i true)+1=Ft l
 | [],_,h=>by simp at h
 | b::l,0,h=>by simp at h;subst h;simp[Ft];omega
 | b::l,i+1,h=>by have:=WN l i (by simpa using h);simp[Ft];omega
theorem WO:∀(l:List Bool),Ft l=0->∀j,j<l.length->l[j]? =some true
 | [],_,j,h=>by simp at h
 | b::l,h,0,_=>by cases b <;> simp[Ft] at h ⊢
 | b::l,h,j+1,a=>by have:=WO l (by simp[Ft] at h;exact h.2) j (by simpa using a);simpa using this
theorem Nl:∀(r:List Oper) (acc:List (List Nat)) (k:Nat),k<acc.length->(EX r acc).getD k []=acc.getD k []
 | [],_,_,_=>rfl
 | o::r,acc,k,h=>by
  rw[EX,Nl r _ k (by simp;omega)];simp[List.getD_eq_getElem?_getD,List.getElem?_append_left h]
theorem Nn:∀(r:List Oper) (acc:List (List Nat)) (j:Nat) (o:Oper),r[j]? =some o->∀i∈(EX r acc).getD (acc.length+j) [],∃k∈Dy o,i=k\/i∈(EX r acc).getD k []
 | [],_,_,_,h=>by simp at h
 | o::r,acc,0,b,h=>by
  simp at h;subst h;intro i a;rw[EX,Nat.add_zero,Nl r _ acc.length (by simp)] at a;simp only[List.getD_eq_getElem?_getD,List.getElem?_concat_length,Option.getD_some] at a;obtain⟨k,c,a⟩:=List.mem_flatMap.1 a;refine⟨k,c,?_⟩;rcases List.mem_cons.1 a with rfl | a
  ·exact .inl rfl
  refine .inr ?_;rcases Nat.lt_or_ge k acc.length with h' | h'
  ·rw[EX,Nl r _ k (by simp;omega)];simpa [List.getD_eq_getElem?_getD,List.getElem?_append_left h'] using a
  simp[List.getElem?_eq_none h'] at a
 | o::r,acc,j+1,b,h=>by
  intro i a
  have:=Nn r (acc++[(Dy o).flatMap fun j=>j::acc.getD j []]) j b (by simpa using h) i (by
   rw[List.length_append,List.length_singleton,show acc.length+1+j=acc.length+(j+1) by omega];exact a)
  exact this
theorem OV:∀(r:List Oper) (fs:List Ba) (s:St),(fin r fs s).sl.length=s.sl.length
 | o::r,f::fs,s=>by rw[fin,OV r fs,J8]
 |[],_,_|_::_,[],_=>rfl
theorem La {a b:List Nat} (h:Jy a b=true):∀x∈a,x ∉ b:=fun x c=>by
 have:=List.all_eq_true.1 h x c;simpa using this
theorem RO {ops:List Oper} {c d:Oper} {f a:List Nat×List Nat} (h:Ji ops c d f a=true):
  (∀q,c.dst=some q->q ∉ GK ops d)/\(∀q,d.dst=some q->q ∉ GK ops c)/\(∀x∈f.2,x ∉ a.1/\x ∉ a.2)/\(∀x∈a.2,x ∉ f.1):=by
 simp only[Ji,Bool.and_eq_true] at h;obtain⟨⟨⟨g,i⟩,h3⟩,j⟩:=h;refine⟨fun q b=>La g q (by simp[b]),fun q b=>La i q (by simp[b]),fun x k=>?_,La j⟩;have:=La h3 x k;simpa using this
theorem Sd {ops:List Oper} {o:Oper} {q:Nat} (h:o.dst=some q):q∈GK ops o:=by simp[GK,h]
theorem Zn {ops:Array Oper} {fs:List Ba} {s0:St} {w0:World} {X:WX} {Q:Exit->Act->World->Prop} (hc:chain E TI ops.toList ops.toList fs s0) (hok:H7 ops.toList (fs.map JL)=true)
  (hs:∀o∈ops.toList,Sound P E TI o) (hQ:∀β a w,BR w0 X β (fin ops.toList fs s0) a w->Q .normal a w):
  ∀(fuel:Nat) (listed:Array Bool) (β:Nat->Option Nat) (a:Act) (w:World),listed.size=ops.size->(∀j o,ops[j]? =some o->listed.getD j false=true->∀i∈Dy o,listed.getD i false=true)->
   Ft listed.toList<=fuel->BR w0 X β (run (fun j=>listed.getD j false) 0 ops.toList fs s0) a w->wpAny P .any ops Q fuel listed a w:=by
 simp only[H7,Bool.and_eq_true] at hok;obtain⟨hback,hpairs⟩:=hok
 have back:∀j o,ops[j]? =some o->∀i∈Dy o,i<j:=by
  intro j o ho i hi;have hj:j<ops.toList.length:=by simpa using (Array.getElem?_eq_some_iff.1 ho).1
  have:=List.all_eq_true.1 hback j (List.mem_range.2 hj);have ho':ops.toList[j]? =some o:=by simpa using ho
  rw[ho'] at this;have:=List.all_eq_true.1 this i hi;simpa using this
 have pair:∀i j oi oj fi fj,i<j->ops[i]? =some oi->ops[j]? =some oj->fs[i]? =some fi->fs[j]? =some fj->i ∉ (EX ops.toList []).getD j []->Ji ops.toList oi oj (JL fi) (JL fj)=true:=by
  intro i j oi oj fi fj hij h1 h2 h3 h4 h5;have hj:j<ops.toList.length:=by simpa using (Array.getElem?_eq_some_iff.1 h2).1
  have:=List.all_eq_true.1 (List.all_eq_true.1 hpairs j (List.mem_range.2 hj)) i (List.mem_range.2 hij);rw[Bool.or_eq_true] at this;rcases this with h | h
  ·exact absurd (by simpa using h) h5
  have e1:ops.toList[i]? =some oi:=by simpa using h1
  have e2:ops.toList[j]? =some oj:=by simpa using h2
  simpa [e1,e2,h3,h4] using h
 have anyOn_mem:∀(o:Oper) (i:Nat),i∈Dy o↔∃e∈o.after,Region.binds .any e=true/\e.on=i:=by
  intro o i;simp[Dy,and_assoc]
 have closed:∀(listed:Array Bool),(∀j o,ops[j]? =some o->listed.getD j false=true->∀i∈Dy o,listed.getD i false=true)->
   ∀(n j:Nat) (o:Oper),j<=n->ops[j]? =some o->(∀i∈Dy o,listed.getD i false=true)->∀i∈(EX ops.toList []).getD j [],listed.getD i false=true:=by
  intro listed hdc n
  induction n with
  | zero=>
   intro j o hj ho hl i hi;obtain⟨k,hk,_⟩:=Nn ops.toList [] j o (by simpa using ho) i (by simpa using hi);have:=back j o ho k hk;omega
  | succ n ih=>
   intro j o hj ho hl i hi;obtain⟨k,hk,h⟩:=Nn ops.toList [] j o (by simpa using ho) i (by simpa using hi);have hkj:=back j o ho k hk;rcases h with rfl | h
   ·exact hl _ hk
   have hk':=hl k hk
   obtain⟨ok,hok⟩:∃ok,ops[k]? =some ok:=by
    have hj:j<ops.size:=(Array.getElem?_eq_some_iff.1 ho).1;exact⟨ops[k]'(by omega),by simp⟩
   exact ih k ok (by omega) hok (hdc k ok hok hk') i h
 have all_of:∀(listed:Array Bool),listed.size=ops.size->(∀j,j<ops.size->listed.getD j false=true)->run (fun j=>listed.getD j false) 0 ops.toList fs s0=fin ops.toList fs s0:=
  fun listed hsz h=>VN fun j _ hj=>h j (by simpa using hj)
 have none_ready:∀(listed:Array Bool),listed.size=ops.size->(∀j,j<ops.size->listed.getD j false=true)->Region.ready .any ops listed=[]:=by
  intro listed hsz h;rcases hr:Region.ready .any ops listed with _ |⟨x,l⟩
  ·rfl
  have hx:x∈Region.ready .any ops listed:=by rw[hr];simp
  obtain⟨h1,o,ho,_⟩:=mem_ready.1 hx;have hlt:=(Array.getElem?_eq_some_iff.1 ho).1;have:=h x hlt;simp[hsz,hlt] at h1 this;rw[h1] at this;cases this
 have ready_none:∀(listed:Array Bool),listed.size=ops.size->Region.ready .any ops listed=[]->∀n j,j<n->j<ops.size->listed.getD j false=true:=by
  intro listed hsz hr n
  induction n with
  | zero=>intro j hj;omega
  | succ n ih=>
   intro j hjn hj;cases hl:listed.getD j false with
   | true=>rfl
   | false=>
    exfalso
    have:j∈Region.ready .any ops listed:=mem_ready.2 ⟨by simpa [hsz,hj] using hl,ops[j],by simp[hj],fun e he hb=>by
     have hlt:=back j ops[j] (by simp[hj]) e.on ((anyOn_mem _ _).2 ⟨e,he,hb,rfl⟩);exact ih e.on (by omega) (by omega)⟩
    rw[hr] at this;cases this
 intro fuel
 induction fuel with
 | zero=>
  intro listed β a w hsz _ hu S
  have hall:∀j,j<ops.size->listed.getD j false=true:=fun j hj=>by
   have:=WO _ (Nat.le_zero.1 hu) j (by simpa [hsz] using hj);simp[hsz,hj] at this;simp[hsz,hj,this]
  exact⟨none_ready listed hsz hall,hQ β a w (by rw[all_of listed hsz hall] at S;exact S)⟩
 | succ fuel ih=>
  intro listed β a w hsz hdc hu S;refine⟨fun hr=>?_,fun i hi=>?_⟩
  ·have hall:=fun j hj=>ready_none listed hsz hr (j+1) j (Nat.lt_succ_self j) hj
   exact hQ β a w (by rw[all_of listed hsz hall] at S;exact S)
  obtain⟨h1,o,ho,hdeps⟩:=mem_ready.1 hi;have hilt:=(Array.getElem?_eq_some_iff.1 ho).1;have hil:listed.getD i false=false:=by simp[hsz,hilt] at h1 ⊢;exact h1
  have hanyi:∀k∈Dy o,listed.getD k false=true:=fun k hk=>by
   obtain⟨e,he,hb,rfl⟩:=(anyOn_mem o k).1 hk;exact hdeps e he hb
  obtain⟨f,hf,hfo⟩:=R6 (k:=0) hc (show ops.toList[i]? =some o by simpa using ho);simp only[Nat.zero_add] at hfo
  have apart:∀j oj fj,ops[j]? =some oj->fs[j]? =some fj->listed.getD j false≠decide (j<i)->
    (∀q,oj.dst=some q->q ∉ GK ops.toList o)/\(∀x∈fj.ws.map (·.1),x ∉ f.rd)/\(∀q,oj.dst=some q->o.dst≠some q)/\(∀x∈fj.ws.map (·.1),x ∉ f.ws.map (·.1)):=by
   intro j oj fj hj hfj hne;have hij:j≠i:=by rintro rfl;rw[hil] at hne;simp at hne
   rcases Nat.lt_or_gt_of_ne hij with hlt | hgt
   ·have hlj:listed.getD j false=false:=by
     cases h:listed.getD j false with
     | false=>rfl
     | true=>rw[h] at hne;simp[hlt] at hne
    have hnb:j ∉ (EX ops.toList []).getD i []:=fun hm=>by
     have:=closed listed hdc i i o (Nat.le_refl _) ho hanyi j hm;rw[hlj] at this;cases this
    obtain⟨a1,a2,a3,a4⟩:=RO (pair j i oj o fj f hlt hj ho hfj hf hnb);exact⟨a1,fun x hx=>(a3 x hx).1,fun q hq e=>a1 q hq (Sd e),fun x hx=>(a3 x hx).2⟩
   have hlj:listed.getD j false=true:=by
    cases h:listed.getD j false with
    | true=>rfl
    | false=>rw[h] at hne;simp[Nat.not_lt.2 (Nat.le_of_lt hgt)] at hne
   have hnb:i ∉ (EX ops.toList []).getD j []:=fun hm=>by
    have:=closed listed hdc j j oj (Nat.le_refl _) hj (hdc j oj hj hlj) i hm;rw[hil] at this;cases this
   obtain⟨a1,a2,a3,a4⟩:=RO (pair i j o oj f fj hgt ho hj hf hfj hnb);exact⟨a2,a4,fun q hq e=>a2 q hq (Sd e),fun x hx hx'=>(a3 x hx').2 hx⟩
  have getf:∀j oj,ops[j]? =some oj->∃fj,fs[j]? =some fj:=fun j oj hj=>by
   have hlt:j<fs.length:=by rw[Nv hc];simpa using (Array.getElem?_eq_some_iff.1 hj).1
   exact⟨fs[j],List.getElem?_eq_getElem hlt⟩
  have geto:∀j (fj:Ba),fs[j]? =some fj->∃oj,ops[j]? =some oj:=fun j fj hj=>by
   have hlt:j<fs.length:=(List.getElem?_eq_some_iff.1 hj).1;rw[Nv hc] at hlt;have hlt:j<ops.size:=by simpa using hlt
   exact⟨ops[j],Array.getElem?_eq_getElem hlt⟩
  have hfo':EO E TI ops.toList o f (run (fun j=>listed.getD j false) 0 ops.toList fs s0):=by
   refine cX (fun x hx=>?_) (fun x hx=>?_) hfo
   ·refine Ke (fun j oj hj hne=>?_) rfl rfl;have hne:decide (j<i)≠listed.getD j false:=by simpa using hne
    have hj':ops[j]? =some oj:=by simpa using hj
    obtain⟨fj,hfj⟩:=getf j oj hj';exact fun e=>(apart j oj fj hj' hfj (Ne.symm hne)).1 x e hx
   refine Kd (fun j fj hfj hne=>?_) rfl rfl;have hne:decide (j<i)≠listed.getD j false:=by simpa using hne
   obtain⟨oj,hj⟩:=geto j fj hfj;exact fun hm=>(apart j oj fj hj hfj (Ne.symm hne)).2.1 x hm hx
  have hget':∀j,j≠i->(listed.setIfInBounds i true).getD j false=listed.getD j false:=fun j hj=>getD_set_ne false (Ne.symm hj)
  have hgeti:(listed.setIfInBounds i true).getD i false=true:=by simp[hsz,hilt]
  have key:(run (fun j=>listed.getD j false) 0 ops.toList fs s0).app o.dst f=run (fun j=>(listed.setIfInBounds i true).getD j false) 0 ops.toList fs s0:=by
   refine VO (by omega:i=0+i) (by simpa using ho) hf hil hgeti hget' fun j oj fj hlt hj hfj hl=>?_
   simp only[Nat.zero_add] at hl;have:=apart j oj fj (by simpa using hj) hfj (by rw[hl];simp;omega);exact this.2.2
  have:=O4 (Q:=Q) (N:=wpAny P .any ops Q fuel (listed.setIfInBounds i true)) (hs o (by simpa using Array.mem_of_getElem? ho)) S hfo' fun β' a' w' S'=>by
   rw[key] at S';refine ih _ β' a' w' (by simpa using hsz) (fun j oj hj hl k hk=>?_) ?_ S'
   ·by_cases hki:k=i
    ·subst hki;exact hgeti
    rw[hget' k hki]
    by_cases hji:j=i
    ·subst hji;obtain rfl:o=oj:=Option.some.inj (ho.symm.trans hj);exact hanyi k hk
    rw[hget' j hji] at hl;exact hdc j oj hj hl k hk
   have:=WN listed.toList i (by simp[hsz,hilt] at hil;simp[hsz,hilt,hil]);simp only[Array.toList_setIfInBounds];omega
  unfold wpOp;rw[ho];simp only
  split
  ·rename_i hw;rw[if_pos hw] at this;exact .inl this
  rename_i hw;rw[if_neg hw] at this;exact this
theorem dr (hm:P.follows .mixedOrders=true) {id:Nat} {ops:Array Oper} {draw:Bool} {s:St} {w0:World} {X:WX} {β:Nat->Option Nat} {a:Act} {w:World} {R:St->Prop} {Q:Exit->Act->World->Prop}
  (d:∀o∈ops.toList,Sound P E TI o) (S:BR w0 X β s a w) (h:Fp E TI ops.toList draw ops.toList [] R s) (i:∀s',R s'->s'.sl.length=s.sl.length->∀β a w,BR w0 X β s' a w->Q .normal a w):(Code.region id ops draw).wp P Q a w:=by
 obtain⟨fs,l,hR,c⟩:=VM d S h;cases draw with
 | false=>
  refine wp_region ?_;have:=Wd (Q:=Q) (k:=0) (ops:=ops) (r:=ops.toList) (fun j=>by simp) d S l (i _ hR (OV _ _ _));rw[List.range_eq_range'];simpa using this
 | true=>
  refine wp_region_any hm ?_;have m:BR w0 X β s a {w with drawn:=w.drawn+1}:=S.ext (dst:=none) (v:= .one .BZ) (u:=undef) (rd:=[]) (fun _ _=>rfl) (Nat.le_refl _) rfl rfl rfl (HX _ _);refine Zn l (by simpa using c rfl) d (i _ hR (OV _ _ _)) _ _ β a _ (by simp) (fun j o p q=>?_) ?_ ?_
  ·have b:=(Array.getElem?_eq_some_iff.1 p).1;simp[b] at q
  ·have:∀n,Ft (List.replicate n false)=n:=fun n=>by induction n with
    | zero=>rfl
    | succ n g=>rw[List.replicate_succ,Ft,g];simp;omega
   simp[this]
  have e:run (fun j=>(Array.replicate ops.size false).getD j false) 0 ops.toList fs s=s:=by
   have:∀(r:List Oper) (fs:List Ba) (k:Nat) (s:St),run (fun j=>(Array.replicate ops.size false).getD j false) k r fs s=s:=by
    intro r
    induction r with
    | nil=>intro fs k s;cases fs <;> rfl
    | cons o r g=>
     intro fs k s;cases fs with
     | nil=>rfl
     | cons f fs=>
      simp only[run];rw[if_neg,g]
      by_cases h:k<ops.size <;> simp[h]
   exact this _ _ _ _
  rw[e];exact m
end
end Go.Abs
