/- Part 3 of a proof. Conditions: each theorem's own. -/
import Derived.Laws.Cover3
import Derived.Deep.AppendSrc
import Derived.Deep.Upon
import Derived.Test.YtmhbikooakmagaaGreatRk01
set_option linter.all false
set_option maxHeartbeats 8000000
set_option maxRecDepth 20000
namespace Go.Abs
open Go.RowKit
def DC (w:World) (I:Nat->Prop):Cx:=⟨w,fun _=>none,fun _=>0,I⟩
def OwnAt (x:Cx) (lo:Nat) (bo:Option Nat) (t:T) (l:List (el t)) (v:Value):Prop:=
 ∃base cap,v= .slice base l.length cap/\l.length<=cap/\cap<=maxLen/\l.length<=140737488355328/\
  ((bo=none/\l=[]/\cap=0)\/∃b arr e,bo=some b/\lo<=b/\base=some ⟨b,0,none⟩/\x.w.heap[b]? =some (.cells arr e (0,0))/\cap*t.size<=arr.size/\
    ∀(i:Nat) (y:el t),l[i]? =some y->∃us,rep x.w x.I t y us/\x.w.rangeAt b (i*t.size) us)
def C6 (x:Cx) (lo:Nat) (bo:Option Nat):AC->Value->Prop
 | .own t l n,v=>n=l.length/\OwnAt x lo bo t l v
 | c,v=>Ap x c v
def Fo (x:Cx) (lo:Nat) (bo:Option Nat):AV->Value->Prop
 | .one c,v=>c= .BY\/C6 x lo bo c v
 | .agg cs,v=>∃arr,v= .agg arr/\AS (C6 x lo bo) cs arr.toList
 | .AG _,_=>False
def GR (x:Cx) (lo:Nat) (bo:Option Nat):AV->Value->Prop
 | .AG xs,v=>∃arr,v= .tuple arr/\AS (fun y u=>Fo x lo bo (DI y) u) xs arr.toList
 | a,v=>Fo x lo bo a v
def CB:AC->Bool
 | .own _ _ _=>true
 | c=>BB c
def EM:AC->Bool
 |.AN _ 0 0 _ _|.Ab 0 0 _=>true
 | c=>BB c
def AV.wf:AV->Bool
 | .AG xs=>xs.all fun x=>x.1||decide (x.2.length<=1)
 | _=>true
def AL.lone:AL->Bool
 | .var v cs=>v==0&&cs.all BB
 | .arr v _ _=>v==0
 | .dead _=>false
def Callee (P : Program) (f : FuncId) : Prop := ∃ fn c, P.funcs[f]? = some fn /\ (fn.name == "runtime.NumGoroutine") = false /\ fn.body = some c
def E8 (P:Program) (fl:Bool) (f:FuncId) (args:List AV) (r:AV):Prop:=
 Callee P f/\(r.all CB=true/\r.wf=true)/\
 ∀(w:World) (I:Nat->Prop) (vs:List Value),(∀b,I b->b<w.heap.size)->AS (BK (DC w I)) args vs->
  Calls P f vs.toArray w fun e w'=>∃u bo,e= .returned u/\Below w.heap.size w w'/\
   GR (DC w' fun b=>((fl=false/\I b)\/w.heap.size<=b)/\b<w'.heap.size/\bo≠some b) w.heap.size bo r u
def β0 (ob:Option Nat):Nat->Option Nat:=fun k=>if k=0 then ob else none
def Bw (w:World) (ob:Option Nat) (I:Nat->Prop):Cx:=⟨w,β0 ob,fun _=>0,I⟩
def GN (P:Program) (f:FuncId) (c0:AC) (b0:AL) (args:List AV) (r:AV) (b1:AL):Prop:=
 Callee P f/\(r.all EM=true/\EM c0=true/\b0.lone=true/\b1.lone=true)/\
 ∀(w:World) (I:Nat->Prop) (ob:Option Nat) (v0:Value) (vs:List Value),(∀b,I b->b<w.heap.size/\ob≠some b)->
  Ap (Bw w ob I) c0 v0->Cc (Bw w ob I) 0 b0->b0.short->AS (BK (DC w I)) args vs->
  Calls P f (v0::vs).toArray w fun e w'=>∃u,e= .returned u/\
   (w'.os=w.os/\w'.tape=w.tape/\w'.output=w.output/\w.heap.size<=w'.heap.size/\∀k,k<w.heap.size->ob≠some k->w'.heap[k]? =w.heap[k]?)/\
   (∀(b:Nat) arr e,ob=some b->w.heap[b]? =some (.cells arr e (0,0))->∃arr',w'.heap[b]? =some (.cells arr' e (0,0))/\arr'.size=arr.size)/\
   BK (Bw w' ob fun k=>(I k\/w.heap.size<=k)/\k<w'.heap.size/\ob≠some k) r u/\
   Cc (Bw w' ob fun k=>(I k\/w.heap.size<=k)/\k<w'.heap.size/\ob≠some k) 0 b1/\b1.short
def Bv (P:Program) (f:FuncId) (args:List AV) (b0:AL) (r:AV):Prop:=
 Callee P f/\(r.all BB=true/\b0.lone=true)/\
 ∀(w:World) (I:Nat->Prop) (ob:Option Nat) (vs:List Value),(∀b,I b->b<w.heap.size/\ob≠some b)->
  Cc (Bw w ob I) 0 b0->b0.short->AS (BK (Bw w ob I)) args vs->
  Calls P f vs.toArray w fun e w'=>∃u,e= .returned u/\
   (w'.os=w.os/\w'.tape=w.tape/\w'.output=w.output/\w.heap.size<=w'.heap.size/\∀k,k<w.heap.size->ob≠some k->w'.heap[k]? =w.heap[k]?)/\
   (∀(b:Nat) arr e,ob=some b->w.heap[b]? =some (.cells arr e (0,0))->∃arr',w'.heap[b]? =some (.cells arr' e (0,0))/\arr'.size=arr.size)/\
   BK (Bw w' ob fun k=>(I k\/w.heap.size<=k)/\k<w'.heap.size/\ob≠some k) r u/\
   Cc (Bw w' ob fun k=>(I k\/w.heap.size<=k)/\k<w'.heap.size/\ob≠some k) 0 b0
def Mv (P:Program) (f:FuncId) (t:T) (l:List (el t)) (args:List AV) (l':List (el t)):Prop:=
 Callee P f/\
 ∀(w:World) (I J:Nat->Prop) (ob:Option Nat) (v0:Value) (vs:List Value),(∀b,I b->b<w.heap.size/\ob≠some b)->(∀b,J b->ob≠some b/\∃arr e,w.heap[b]? =some (.cells arr e (0,0)))->
  Ap (Bw w ob I) (.AN t 0 0 0 l.length) v0->Cc (Bw w ob I) 0 (.arr 0 t l)->l.length<=140737488355328->AS (BK (DC w J)) args vs->
  Calls P f (v0::vs).toArray w fun e w'=>∃u ob',e= .returned u/\
   (w'.os=w.os/\w'.tape=w.tape/\w'.output=w.output/\w.heap.size<=w'.heap.size/\∀k,k<w.heap.size->ob≠some k->w'.heap[k]? =w.heap[k]?)/\
   (∀(b:Nat) arr e,ob=some b->w.heap[b]? =some (.cells arr e (0,0))->∃arr',w'.heap[b]? =some (.cells arr' e (0,0))/\arr'.size=arr.size)/\
   (ob'=ob\/∃b,ob'=some b/\w.heap.size<=b)/\l'.length<=140737488355328/\
   Ap (Bw w' ob' fun k=>(I k\/w.heap.size<=k)/\k<w'.heap.size/\ob≠some k/\ob'≠some k) (.AN t 0 0 0 l'.length) u/\
   Cc (Bw w' ob' fun k=>(I k\/w.heap.size<=k)/\k<w'.heap.size/\ob≠some k/\ob'≠some k) 0 (.arr 0 t l')
def env (P:Program):Env:=⟨E8 P,GN P,Bv P,Mv P⟩
structure DW (P:Program) (t:TypeId) (i:Info):Prop where
 info:i.known=true->∃ti z d,P.info? t=some ti/\ti.size=i.size/\ti.zero=some z/\(∀x,AS (Ap x) i.zero z.cells.toList)/\
  P.underlying t=some d/\d.isRow=i.agg/\(i.agg=false->i.size=1)
 kind:∀k,i.kind=some k->P.underlying t=some (.int k)
 isb:i.OF=true->P.underlying t=some .bool
 sl:i.sl=true->P.underlying t=some (.slice i.Ct)/\∃ei z,P.info? i.Ct=some ei/\ei.size=i.elem.size/\ei.bytes=i.Ee/\0<ei.bytes/\ei.zero=some z/\
  ∀x,AS (Ap x) (cells i.elem i.By) z.cells.toList
 fields:i.known=true->i.fields≠[]->∃fs:Array Field,P.underlying t=some (.struct fs)/\i.fields.length=fs.size/\
  ∀(f fo n:Nat) (g:Bool),i.fields[f]? =some (fo,n,g)->∃fl d,fs[f]? =some fl/\fl.offset=fo/\(P.info? fl.type).map (·.size)=some n/\0<n/\P.underlying fl.type=some d/\d.isRow=g/\(g=false->n=1)
theorem T.beq_eq:∀{a b:T},T.beq a b=true->a=b
 |.u8,b,h|.u32,b,h|.u64,b,h|.i8,b,h|.i64,b,h|.bool,b,h=>by cases b <;> simp_all [T.beq]
 | .sl a,b,h=>by cases b <;> simp_all [T.beq];exact T.beq_eq h
 | .pr a c,b,h=>by cases b <;> simp_all [T.beq];exact⟨T.beq_eq h.1,T.beq_eq h.2⟩
section
variable {P:Program} {w:World}
theorem ZQ {t:TypeId} {d:TypeDesc} (hu:P.underlying t=some d):(isAgg t).run P w= .ok d.isRow w:=by
 unfold isAgg;rw[Sem.run_bind,run_underlying hu w];cases d <;> simp
theorem l5 {t:TypeId} {d:TypeDesc} {b o:Nat} {v:Value} (hu:P.underlying t=some d) (f:d.isRow=false) (c:w.cell? ⟨b,o,none⟩=some v):
  (Instr.loadAt t (.pointer (some ⟨b,o,none⟩))).run P w= .ok v w:=by
 simp only[Instr.loadAt,Instr.sureAddr,Sem.run_bind,Sem.run_pure,Result.andThen_ok,loadVar,ZQ hu,f];simp[load,Sem.run,c]
theorem mA {t:TypeId} {d:TypeInfo} {b o:Nat} {v:Value} (hi:P.info? t=some d) (hs:v.cells.size=d.size) (ht:w.there b o d.size) (f:∀u∈v.cells.toList,u.oneCell'=true):
  (Instr.storeAt t (.pointer (some ⟨b,o,none⟩)) v).run P w= .ok () (w.setCells b o v.cells.toList):=by
 have:=run_storeCells_cells (P:=P) b o v.cells.toList 0 w (fun j c=>by simpa using (ht j (by simpa [hs] using c)).1) (fun j c=>by simpa using (ht j (by simpa [hs] using c)).2) f;simp only[Nat.add_zero] at this;simp[Instr.storeAt,Instr.sureAddr,storeVar,sizeOf,typeInfo,hi,hs,this]
end
theorem YI {v:Value} (h:v.oneCell'=true):v.cells= #[v]:=by
 cases v <;> simp_all [Value.oneCell',Value.cells]
theorem Dg.cells {x:Cx} {av:AV} {v:Value} (h:Dg x av v) (b:av.full=true):AS (Ap x) av.cs v.cells.toList:=by
 cases av with
 | one c=>
  rcases h with rfl | h
  ·simp[AV.full] at b
  rw[YI h.one];exact⟨h,trivial⟩
 | agg cs=>obtain⟨arr,rfl,h⟩:=h;exact h
 | AG _=>exact h.elim
theorem AS.one {x:Cx}:∀{cs:List AC} {vs:List Value},AS (Ap x) cs vs->∀v∈vs,v.oneCell'=true
 | [],[],_,_,b=>by simp at b
 | _::_,_::_,h,v,b=>by
  rcases List.mem_cons.1 b with rfl | b
  ·exact h.1.one
  exact AS.one h.2 v b
 |[],_::_,h,_,_|_::_,[],h,_,_=>h.elim
theorem lV {x:Cx} {a:AV} {v:Value} (h:Dg x a v):BK x a v:=by cases a <;> first | exact h | exact h.elim
theorem MP {x:Cx} {a:AV} {v:Value} (h:BK x a v) (ha:∀xs,a≠ .AG xs):Dg x a v:=by cases a <;> first | exact h | exact absurd rfl (ha _)
theorem CY {x:Cx} {s:St} {a:Act} (h:∀i,BK x (nth s.sl i) (a.tmps.getD i undef)) (o:Operand):BK x (ev s.sl o) (a.eval o):=by
 cases o with
 | tmp t=>exact h t
 | func f=>exact Or.inr rfl
 | global g=>exact Or.inl rfl
 | const v=>
  show BK x (Qa v) v
  unfold Qa
  split <;> first | exact Or.inr rfl | exact Or.inl rfl
def valOf (g:Bool) (vs:List Value):Value:=
 match g with
 | true=> .agg vs.toArray
 | false=>vs.headD undef
theorem Yw {x:Cx} {g:Bool} {cs:List AC} {vs:List Value} (h:AS (Ap x) cs vs) (b:g=false->cs.length=1):
  BK x (DI (g,cs)) (valOf g vs):=by
 cases g with
 | true=>exact⟨_,rfl,by simpa using h⟩
 | false=>
  have:=b rfl
  match cs,vs,h with
  | [c],[v],h=>exact Or.inr h.1
section
variable {P:Program} {E:Env} {TI:TypeId->Info} {w0:World} {X:WX} {β:Nat->Option Nat} {s:St} {a:Act} {w:World}
theorem B8 {o:Oper} {u:Value} {w':World} {N:Act->World->Prop} {Q:Exit->Act->World->Prop} (c:(execOp a.eval o).run P w= .ok (.value u) w') (b:N (a.put o.dst u) w'):o.wp P a w N Q:=by
 unfold Oper.wp;rw[c];exact b
theorem oS {o:Oper} {w':World} {N:Act->World->Prop} {Q:Exit->Act->World->Prop} (c:(execOp a.eval o).run P w= .ok .skip w') (b:N (a.put o.dst undef) w'):o.wp P a w N Q:=by
 unfold Oper.wp;rw[c];exact b
def Sound (P:Program) (E:Env) (TI:TypeId->Info) (o:Oper):Prop:=
 ∀{w0:World} {X:WX} {β:Nat->Option Nat} {s:St} {a:Act} {w:World},BI w0 X β s a w->∀{f:BW},CG E TI o (BQ o) (ev s.sl) (AF s.bk) (fun g=>g=f)->
  ∀{N:Act->World->Prop} {Q:Exit->Act->World->Prop},(∀β' a' w',BI w0 X β' (s.app o.dst f) a' w'->N a' w')->o.wp P a w N Q
theorem mw {o:Oper} {x:Operand} (b:o.op= .move x):Sound P E TI o:=by
 intro w0 X β s a w S f h N Q c;simp only[CG,b] at h;subst h;exact B8 (u:=a.eval x) (w':=w) (by simp[execOp,b]) (c _ _ _ (S.val (CY S.B6 x)))
theorem mX {o:Oper} {x:Operand} (b:o.op= .assign x):Sound P E TI o:=by
 intro w0 X β s a w S f h N Q c;simp only[CG,b] at h;subst h;exact B8 (u:=a.eval x) (w':=w) (by simp[execOp,b]) (c _ _ _ (S.val (CY S.B6 x)))
theorem mz {o:Oper} {c x y:Operand} (g:o.op= .pick c x y):Sound P E TI o:=by
 intro w0 X β s a w S f h N Q i;simp only[CG,g] at h;have b:=CY S.B6 c
 split at h
 ·rename_i he
  rw[he] at b;have d:a.eval c= .bool true:=by rcases b with b | b <;> simp_all [Ap]
  subst h;exact B8 (u:=a.eval x) (w':=w) (by simp[execOp,g,d,asBool]) (i _ _ _ (S.val (CY S.B6 x)))
 ·rename_i he
  rw[he] at b;have d:a.eval c= .bool false:=by rcases b with b | b <;> simp_all [Ap]
  subst h;exact B8 (u:=a.eval y) (w':=w) (by simp[execOp,g,d,asBool]) (i _ _ _ (S.val (CY S.B6 y)))
 exact h.elim
theorem BN {x:Cx} {c:AC} {v:Value} (h:BK x (.one c) v) (b:c≠ .BY):Ap x c v:=(show c= .BY\/Ap x c v from h).resolve_left b
theorem my {o:Oper} {x:Operand} (i:o.op= .nilCheck x):Sound P E TI o:=by
 intro w0 X β s a w S f h N Q j;simp only[CG,i] at h;have d:=CY S.B6 x
 split at h
 ·rename_i id v off he
  split at h
  ·rename_i k
   subst h;have c:=d;rw[he] at d;obtain⟨b,_,hb⟩:=(BN d (by simp)).2 k.symm;exact B8 (u:=a.eval x) (w':=w) (by simp[execOp,i,hb]) (j _ _ _ (S.val c))
  exact h.elim
 ·rename_i g he
  subst h;have c:=d;rw[he] at d;have hb:a.eval x= .func (.func g) #[] #[]:=BN d (by simp);exact B8 (u:=a.eval x) (w':=w) (by simp[execOp,i,hb]) (j _ _ _ (S.val c))
 ·rename_i g l he
  subst h;have c:=d;rw[he] at d;obtain⟨us,hb,_⟩:=BN d (by simp);exact B8 (u:=a.eval x) (w':=w) (by simp[execOp,i,hb]) (j _ _ _ (S.val c))
 exact h.elim
theorem U4 {x:Cx}:∀{l:List AV} {vs:List Value} {ps:List (Nat×Nat)},Dw l=some ps->AS (BK x) l vs->AS (Ms x) ps vs
 | [],[],ps,h,_=>by obtain rfl:=Option.some.inj h;trivial
 | .one (.Ab id v 0)::r,u::vs,ps,h,b=>by
  simp only[Dw] at h
  split at h
  ·rename_i d c
   obtain rfl:=Option.some.inj h;exact⟨BN b.1 (by simp),U4 c b.2⟩
  cases h
 | .one (.Ab _ _ (_+1))::_,_::_,_,h,_=>by simp[Dw] at h
 |[],_::_,_,_,h|_::_,[],_,_,h=>h.elim
 |.agg _::_,_::_,_,h,_|.AG _::_,_::_,_,h,_|.one .BY::_,_::_,_,h,_|.one (.int _ _)::_,_::_,_,h,_|.one (.bool _)::_,_::_,_,h,_|.one (.fn _)::_,_::_,_,h,_|.one .nil::_,_::_,_,h,_|.one (.sl _ _)::_,_::_,_,h,_|.one (.AN _ _ _ _ _)::_,_::_,_,h,_|.one (.C9 _ _ _ _ _)::_,_::_,_,h,_|.one (.Ch _ _ _ _ _)::_,_::_,_,h,_|.one (.CX _ _ _)::_,_::_,_,h,_|.one (.ub _)::_,_::_,_,h,_|.one (.own _ _ _)::_,_::_,_,h,_|.one (.Cy _ _)::_,_::_,_,h,_|.one (.CZ _ _)::_,_::_,_,h,_=>by simp[Dw] at h
theorem WB {x:Cx} {s:St} {a:Act} (h:∀y:Operand,BK x (ev s.sl y) (a.eval y)):∀l:List Operand,AS (BK x) (l.map (ev s.sl)) (l.map a.eval)
 | []=>trivial
 | y::l=>⟨h y,WB h l⟩
theorem mu {o:Oper} {fn:Fn} {first cap:Array Operand} (b:o.op= .makeFunc fn first cap):Sound P E TI o:=by
 intro w0 X β s a w S f h N Q i;simp only[CG,b] at h
 split at h
 ·rename_i g ps c d
  subst h;have j:first= #[]:=by simpa using c
  subst j;refine B8 (u:= .func (.func g) #[] (cap.map a.eval)) (w':=w) ?_ (i _ _ _ (S.val (Or.inr ⟨_,rfl,?_⟩)))
  ·simp[execOp,b,Instr.makeFunc]
  rw[Array.toList_map];exact U4 d (WB (CY S.B6) cap.toList)
 exact h.elim
theorem mh {o:Oper} {x:Operand} {i:Nat} (d:o.op= .extract x i):Sound P E TI o:=by
 intro w0 X β s a w S f h N Q j;simp only[CG,d] at h;have g:=CY S.B6 x
 split at h
 ·rename_i xs he
  rw[he] at g;obtain⟨arr,l,b⟩:=g
  split at h
  ·rename_i y m
   subst h;obtain⟨u,hu,k⟩:=b.get i y m;have c:arr[i]? =some u:=by simpa using hu
   exact B8 (u:=u) (w':=w) (by simp[execOp,d,l,Instr.extract,c]) (j _ _ _ (S.val (lV k)))
  exact h.elim
 exact h.elim
theorem PJ {c:Int} (h:Hm c):IntKind.i64.wrap c=c:=IntWalk.i64_in c ⟨h.1,by have:=h.2;omega⟩
theorem eQ {op:BinOp} {k k':IntKind} {x y:Int} {c:AC} {t:TypeId} (m:k=k'\/op= .shl\/op= .shr) (h:arith op k x y (fun d=>d=c)):
  ∃u,(binOp op t (.int k x) (.int k' y)).run P w= .ok u w/\∀Γ,Ap Γ c u:=by
 have g:∀{p q:Int},0<=p->p.tdiv q=p/q:=fun h=>Int.tdiv_eq_ediv_of_nonneg h
 have i:∀{p q:Int},0<=p->p.tmod q=p%q:=fun h=>Int.tmod_eq_emod_of_nonneg h
 by_cases hs:op= .shl\/op= .shr
 ·rcases hs with rfl | rfl
  ·have h':=h _ rfl;obtain⟨b,rfl⟩:=h';have j:¬y<0:=by have:=b ();omega
   exact⟨_,by simp only[binOp,Op.shift,if_neg j];rfl,fun _=>rfl⟩
  have h':=h _ rfl;obtain⟨b,rfl⟩:=h';have j:¬y<0:=by have:=b ();omega
  exact⟨_,by simp only[binOp,Op.shift,if_neg j];rfl,fun _=>rfl⟩
 have m:k=k':=m.resolve_right hs;subst m
 have hb:∀f,f≠ .shl->f≠ .shr->binOp f t (.int k x) (.int k y)=(match f with
  | .add | .sub | .mul=>Op.intArith f k x y | .quo | .rem=>Op.intDiv f k x y | .and | .or | .xor | .andNot=>Op.intBits f k x y | _=>Op.intCmp f x y):=by
  intro f b l;cases f <;> simp_all [binOp]
 rw[hb op (fun e=>hs (.inl e)) (fun e=>hs (.inr e))];cases op
 case shl=>exact absurd (.inl rfl) hs
 case shr=>exact absurd (.inr rfl) hs
 case eql=>obtain rfl:=h _ rfl;exact⟨_,rfl,fun _=>rfl⟩
 case neq=>obtain rfl:=h _ rfl;exact⟨_,rfl,fun _=>rfl⟩
 case lss=>obtain rfl:=h _ rfl;exact⟨_,rfl,fun _=>rfl⟩
 case leq=>obtain rfl:=h _ rfl;exact⟨_,rfl,fun _=>rfl⟩
 case gtr=>obtain rfl:=h _ rfl;exact⟨_,rfl,fun _=>rfl⟩
 case geq=>obtain rfl:=h _ rfl;exact⟨_,rfl,fun _=>rfl⟩
 case and=>obtain rfl:=h _ rfl;exact⟨_,rfl,fun _=>rfl⟩
 case or=>obtain rfl:=h _ rfl;exact⟨_,rfl,fun _=>rfl⟩
 case xor=>obtain rfl:=h _ rfl;exact⟨_,rfl,fun _=>rfl⟩
 case andNot=>obtain rfl:=h _ rfl;exact⟨_,rfl,fun _=>rfl⟩
 case add=>
  cases k
  case i64=>obtain⟨b,rfl⟩:=h _ rfl;exact⟨_,rfl,fun _=>by show _=_;rw[PJ (b ())]⟩
  all_goals (obtain rfl:=h _ rfl;exact⟨_,rfl,fun _=>rfl⟩)
 case sub=>
  cases k
  case i64=>obtain⟨b,rfl⟩:=h _ rfl;exact⟨_,rfl,fun _=>by show _=_;rw[PJ (b ())]⟩
  all_goals (obtain rfl:=h _ rfl;exact⟨_,rfl,fun _=>rfl⟩)
 case mul=>
  cases k
  case i64=>obtain⟨b,rfl⟩:=h _ rfl;exact⟨_,rfl,fun _=>by show _=_;rw[PJ (b ())]⟩
  all_goals (obtain rfl:=h _ rfl;exact⟨_,rfl,fun _=>rfl⟩)
 case quo=>
  cases k
  case i64=>
   obtain⟨b,rfl⟩:=h _ rfl;obtain⟨b,l,h3⟩:=b ();exact⟨_,by simp only[Op.intDiv,if_neg (show ¬y=0 by omega)];rfl,fun _=>by show _=_;rw[g b,PJ h3]⟩
  all_goals
   obtain⟨b,rfl⟩:=h _ rfl;obtain⟨b,l⟩:=b ();exact⟨_,by simp only[Op.intDiv,if_neg (show ¬y=0 by omega)];rfl,fun _=>by show _=_;rw[g b]⟩
 case rem=>
  cases k
  all_goals
   obtain⟨b,rfl⟩:=h _ rfl;obtain⟨b,l⟩:=b ();exact⟨_,by simp only[Op.intDiv,if_neg (show ¬y=0 by omega)];rfl,fun _=>by show _=_;rw[i b]⟩
theorem gR (op:BinOp) (t:TypeId) (x y:Operand) (k k':IntKind) (m n:Int):(eqGuard op t x y (.int k m) (.int k' n)).run P w= .ok () w:=by
 unfold eqGuard;cases op <;> simp
end
section
variable {P:Program} {E:Env} {TI:TypeId->Info}
theorem mY (G:∀t,DW P t (TI t)) {o:Oper} {op:BinOp} {t t':TypeId} {x y:Operand} (z:o.op= .binOp op t x y t'):Sound P E TI o:=by
 intro w0 X β s a w S f h N Q A;simp only[CG,z] at h;have r:=CY S.B6 x;have v:=CY S.B6 y
 split at h
 ·rename_i k m k' n he g
  rw[he] at r;rw[g] at v;have i:a.eval x= .int k m:=BN r (by simp);have j:a.eval y= .int k' n:=BN v (by simp)
  split at h
  ·rename_i K
   obtain⟨c,B⟩:∃c,f=⟨.one c,[],[]⟩/\arith op k m n (fun d=>d=c):=by
    cases op <;> cases k <;> simp only[arith] at h ⊢ <;> first
     | (obtain⟨q,H⟩:=h _ rfl;exact⟨_,H.symm,fun _ e=>⟨by first | exact q | (rw[e];exact q),by rw[e]⟩⟩)
     | exact⟨_,(h _ rfl).symm,fun _ e=>by rw[e]⟩
   obtain⟨rfl,B⟩:=B;obtain⟨u,hu,F⟩:=eQ (P:=P) (w:=w) (t:=t) K B;refine B8 (u:=u) (w':=w) ?_ (A _ _ _ (S.val (Or.inr (F _))));simp only[execOp,z,i,j,Sem.run_bind,gR,Result.andThen_ok,hu,Sem.run_pure]
  exact h.elim
 ·rename_i m n he g
  rw[he] at r;rw[g] at v;have i:a.eval x= .bool m:=BN r (by simp);have j:a.eval y= .bool n:=BN v (by simp);obtain⟨q,h⟩:=h;have hu:=(G t).isb q
  have D:(Op.equal t (.bool m) (.bool n)).run P w= .ok (m==n) w:=by
   have J:∀d,(Op.equalIn (d+1) t (.bool m) (.bool n)).run P w= .ok (m==n) w:=fun d=>by
    unfold Op.equalIn;simp[run_underlying hu]
   exact J 9999
  have C:∀op:BinOp,(eqGuard op t x y (.bool m) (.bool n)).run P w= .ok () w:=by
   intro op;unfold eqGuard;cases op <;> simp
  cases op <;> simp only at h
  all_goals first
   | exact h.elim
   | (obtain rfl:=h _ rfl
      refine B8 (w':=w) ?_ (A _ _ _ (S.val (Or.inr rfl)));simp[execOp,z,i,j,Sem.run_bind,C,binOp,D,bne])
 ·rename_i ty l he g
  rw[he] at r;rw[g] at v;have F:=BN r (by simp);have j:a.eval y= .slice none 0 0:=BN v (by simp);obtain⟨q,h⟩:=h;obtain⟨base,cap,L,_,_,p⟩:=F;have i:a.eval x= .slice base l.length cap:=by simpa using L
  obtain⟨hu,_⟩:=(G t).sl q;have D:(Op.equal t (.slice base l.length cap) (.slice none 0 0)).run P w= .ok base.isNone w:=run_equal_slice_nil w t _ base l.length cap hu
  have C:∀op:BinOp,(eqGuard op t x y (.slice base l.length cap) (.slice none 0 0)).run P w= .ok () w:=by
   intro op;unfold eqGuard;cases op <;> simp
  cases op <;> simp only at h
  all_goals first
   | exact h.elim
   | (obtain rfl:=h _ rfl
      refine B8 (u:= .bool base.isNone) (w':=w) ?_ (A _ _ _ (S.val (Or.inr ⟨_,rfl,fun hb=>?_⟩)))
      ·simp[execOp,z,i,j,Sem.run_bind,C,binOp,D]
      rcases p with rfl |⟨b,off,rfl,_⟩
      ·rfl
      simp at hb)
 exact h.elim
theorem nE {o:Oper} {op:UnOp} {t:TypeId} {x:Operand} (g:o.op= .unOp op t x):Sound P E TI o:=by
 intro w0 X β s a w S f h N Q j;simp only[CG,g] at h;have d:=CY S.B6 x
 split at h
 ·rename_i b he
  rw[he] at d;have c:a.eval x= .bool b:=BN d (by simp);obtain rfl:=(h _ rfl);exact B8 (u:= .bool (!b)) (w':=w) (by simp[execOp,g,c,Op.unary]) (j _ _ _ (S.val (Or.inr rfl)))
 ·rename_i k n he
  rw[he] at d;have c:a.eval x= .int k n:=BN d (by simp);obtain rfl:=h _ rfl;have i:(Op.intArith .sub k 0 n).run P w= .ok (.int k (k.wrap (0-n))) w:=rfl;exact B8 (u:= .int k (k.wrap (0-n))) (w':=w) (by simp[execOp,g,c,Op.unary,i]) (j _ _ _ (S.val (Or.inr rfl)))
 exact h.elim
theorem mg (g:∀t,DW P t (TI t)) {o:Oper} {src dst:TypeId} {x:Operand} (i:o.op= .convert src dst x):Sound P E TI o:=by
 intro w0 X β s a w S f h N Q l;simp only[CG,i] at h;obtain⟨p,h⟩:=h;have j:=CY S.B6 x
 split at h
 ·rename_i k k' n m he
  rw[he] at j;have c:a.eval x= .int k' n:=BN j (by simp);obtain rfl:=h _ rfl;obtain⟨_,_,d,_,_,_,_,hu,_⟩:=(g src).info p;have b:=(g dst).kind k m;refine B8 (u:= .int k (k.wrap n)) (w':=w) ?_ (l _ _ _ (S.val (Or.inr rfl)));simp[execOp,i,c,convert,run_underlying hu,run_underlying b,Conv.intToInt]
 exact h.elim
theorem ml (M:∀t,DW P t (TI t)) {o:Oper} {t:TypeId} {x:Operand} {i:Nat} (A:o.op= .field t x i):Sound P E TI o:=by
 intro w0 X β s a w S f h N Q L;simp only[CG,A] at h;obtain⟨O,h⟩:=h;have B:=CY S.B6 x
 split at h
 ·rename_i b n g cs y he
  split at h
  ·rename_i z
   subst h;rw[he] at B;obtain⟨arr,R,k⟩:=B;obtain⟨fs,hu,hlen,l⟩:=(M t).fields O (by intro e;simp[e] at y);obtain⟨q,d,D,F,h3,U,G,H,v⟩:=l i b n g y;have c:AS (Ap (cx X w β (AF s.bk))) (FO cs b n) ((arr.toList.drop b).take n):=by rw[Ku];exact (k.drop b).take n
   have m:((arr.toList.drop b).take n).length=n:=by rw[<-c.length,z]
   refine B8 (u:=valOf g ((arr.toList.drop b).take n)) (w':=w) ?_
    (L _ _ _ (S.val (Yw c (fun e=>by rw[z];exact v e))))
   have j:(part q.type arr b).run P w= .ok (valOf g ((arr.toList.drop b).take n)) w:=by
    unfold part;rw[Sem.run_bind,ZQ G,Result.andThen_ok,H];cases g with
    | true=>
     cases p:P.info? q.type with
     | none=>simp[p] at h3
     | some T=>
      have hs:T.size=n:=by simpa [p] using h3
      have C:arr.extract b (b+n)=((arr.toList.drop b).take n).toArray:=by
       apply Array.ext';simp only[Array.toList_extract,List.extract_eq_take_drop];rw[show b+n-b=n by omega]
      simp[sizeOf,typeInfo,p,hs,C,valOf]
    | false=>
     have:=v rfl;subst this;have J:arr.toList.drop b≠[]:=by intro e;simp[e] at m
     obtain⟨u,r,e⟩:=List.exists_cons_of_ne_nil J
     have K:arr[b]? =some u:=by
      have:=congrArg (·[0]?) e;simpa using this
     simp[K,e,valOf]
   simp[execOp,A,R,Instr.field,run_underlying hu,D,asAgg,F,j]
  exact h.elim
 exact h.elim
theorem ga {c:Field} {b off n:Nat} {w:World} (h3:(P.info? c.type).map (·.size)=some n) (g:0<n):(fieldPlace ⟨b,off,none⟩ c).run P w= .ok ⟨b,off+c.offset,none⟩ w:=by
 cases d:P.info? c.type with
 | none=>simp[d] at h3
 | some f=>
  have hs:f.size=n:=by simpa [d] using h3
  have:¬f.size=0:=by omega
  simp[fieldPlace,sizeOf,typeInfo,d,this,Addr.add_mid]
theorem mn (H:∀t,DW P t (TI t)) {o:Oper} {t:TypeId} {x:Operand} {i:Nat} (F:o.op= .fieldAddr t x i):Sound P E TI o:=by
 intro w0 X β s a w S f h N Q C;simp only[CG,F] at h;obtain⟨J,h⟩:=h;have m:=CY S.B6 x
 have go:∀(c n:Nat) (g:Bool) (b off:Nat),(TI t).fields[i]? =some (c,n,g)->a.eval x= .pointer (some ⟨b,off,none⟩)->(execOp a.eval o).run P w= .ok (.value (.pointer (some ⟨b,off+c,none⟩))) w:=by
  intro c n g b off l z;obtain⟨fs,hu,hlen,D⟩:=(H t).fields J (by intro e;simp[e] at l);obtain⟨K,d,A,B,h3,G,L,M,O⟩:=D i c n g l;subst B;simp[execOp,F,z,Instr.fieldAt,run_underlying hu,A,Instr.sureAddr,ga h3 G]
 split at h
 ·rename_i c n g id v off l he
  split at h
  ·rename_i z
   subst h;rw[he] at m;have r:=BN m (by simp);obtain⟨b,hb,p⟩:=r.2 z.symm;exact B8 (go c n g b off l p) (C _ _ _ (S.val (Or.inr ⟨⟨rfl,r.1.2⟩,fun _=>⟨b,hb,rfl⟩⟩)))
  exact h.elim
 ·rename_i c n g u y off l he
  subst h;rw[he] at m;obtain⟨b,q,us,p,A,B,h3⟩:=BN m (by simp);exact B8 (go c n g b (q+off) l p) (C _ _ _ (S.val (Or.inr ⟨b,q,us,by rw[Nat.add_assoc],A,B,h3⟩)))
 ·rename_i c n g u id v j k l he
  split at h
  ·rename_i z
   subst h;rw[he] at m;have r:=BN m (by simp);obtain⟨b,hb,p⟩:=r.2 z.symm;exact B8 (go c n g b _ l p) (C _ _ _ (S.val (Or.inr ⟨⟨rfl,r.1.2⟩,fun _=>⟨b,hb,by rw[Nat.add_assoc]⟩⟩)))
  exact h.elim
 exact h.elim
end
section
variable {P:Program} {E:Env} {TI:TypeId->Info}
theorem R9 {w:World} {b off n:Nat} {arr:Array Value} {e:TypeId} (h:w.heap[b]? =some (.cells arr e (0,0))):w.rangeAt b off ((arr.toList.drop off).take n):=by
 intro j v c
 have:arr[off+j]? =some v:=by
  rw[List.getElem?_take] at c
  split at c
  ·simpa using c
  cases c
 simp[World.cell?,h,this]
theorem Yr {w:World} {b o off n:Nat} {us:List Value} (h:w.rangeAt b o us):w.rangeAt b (o+off) ((us.drop off).take n):=by
 intro j v c;rw[Nat.add_assoc];refine h (off+j) v ?_;rw[List.getElem?_take] at c
 split at c
 ·simpa using c
 cases c
theorem run_load {t:TypeId} {i:Info} {w:World} {b o:Nat} {us:List Value} (p:DW P t i) (q:i.known=true) (j:w.rangeAt b o us) (f:us.length=i.size):
  (Instr.loadAt t (.pointer (some ⟨b,o,none⟩))).run P w= .ok (valOf i.agg us) w:=by
 obtain⟨v,z,d,k,l,h3,r,g,h,m⟩:=p.info q;cases c:i.agg with
 | true=>exact run_loadAt_mid w b o t us d j g (h.trans c) (by simp[k,l,f])
 | false=>
  have n:=m c;rw[n] at f
  match us,f with
  | [u],_=>exact l5 g (h.trans c) (show w.cell? ⟨b,o,none⟩=some u by simpa using j 0 u (by simp))
theorem mr (F:∀t,DW P t (TI t)) {o:Oper} {t:TypeId} {x:Operand} (H:o.op= .load t x):Sound P E TI o:=by
 intro w0 X β s a w S f h N Q K;simp only[CG,H,Ld] at h;obtain⟨G,h⟩:=h;have p:=CY S.B6 x;have C:(TI t).agg=false->(TI t).size=1:=by obtain⟨_,_,_,_,_,_,_,_,_,J⟩:=(F t).info G;exact J
 have go:∀(b q:Nat) (cs:List AC) (us:List Value),a.eval x= .pointer (some ⟨b,q,none⟩)->w.rangeAt b q us->AS (Ap (cx X w β (AF s.bk))) cs us->cs.length=(TI t).size->
   ∀rd,f=⟨DI ((TI t).agg,cs),[],rd⟩->o.wp P a w N Q:=by
  intro b q cs us g A d m rd L;subst L;have:=run_load (F t) G A (d.length ▸ m);exact B8 (u:=valOf (TI t).agg us) (w':=w) (by simp[execOp,H,g,this]) (K _ _ _ (S.val (Yw d (fun e=>by rw[m];exact C e))))
 split at h
 ·rename_i id v off he
  rw[he] at p;have A:=BN p (by simp)
  split at h
  ·rename_i O cs hb
   split at h
   ·rename_i z
    obtain⟨b,arr,e,j,r,h3⟩:=S.blocks id _ hb;have D:v=AQ (AF s.bk) id:=by unfold AQ;rw[hb];exact z.1.symm
    obtain⟨b',c,g⟩:=A.2 D;obtain rfl:b=b':=Option.some.inj (j.symm.trans c);refine go b off _ _ g (R9 r (n:=(TI t).size)) ?_ z.2 _ h.symm;rw[Ku];exact (h3.drop off).take _
   exact h.elim
  exact h.elim
 ·rename_i u y off he
  rw[he] at p;obtain⟨b,q,us,g,j,r,h3⟩:=BN p (by simp)
  split at h
  ·rename_i m
   refine go b (q+off) _ _ g (Yr h3 (n:=(TI t).size)) ?_ m _ h.symm;rw[Ku];exact (((Gr _ u y us).1 r).drop off).take _
  exact h.elim
 ·rename_i u id v i k he
  rw[he] at p;have A:=BN p (by simp)
  split at h
  ·rename_i O R l hb
   split at h
   ·rename_i z
    obtain rfl:=T.beq_eq z.2;obtain⟨y,M,h⟩:=h;have D:v=AQ (AF s.bk) id:=by unfold AQ;rw[hb];exact z.1.symm
    obtain⟨b',c,g⟩:=A.2 D;have B:=S.blocks id _ hb;rcases B with⟨j,r⟩ |⟨b,arr,e,j,r,h3⟩
    ·exact absurd (j.symm.trans c) (by simp)
    obtain rfl:b=b':=Option.some.inj (j.symm.trans c);obtain⟨us,hu,ha⟩:=h3 i y (M ())
    split at h
    ·rename_i m
     refine go b (i*u.size+k) _ _ g (Yr ha (n:=(TI t).size)) ?_ m _ h.symm;rw[Ku];exact (((Gr _ u y us).1 hu).drop k).take _
    exact h.elim
   exact h.elim
  exact h.elim
 exact h.elim
theorem BI.new {w0:World} {X:WX} {β:Nat->Option Nat} {s:St} {a:Act} {w:World} (S:BI w0 X β s a w) {dst d:Nat} (z:dst=d) {av:AV} {BL:AL} {rd:List Nat} {u:Value} {w':World} {arr:Array Value} {e:TypeId}
  (hw:w'.heap=w.heap.push (.cells arr e (0,0))) (l:w'.os=w.os) (f:w'.tape=w.tape) (g:w'.output=w.output)
  (m:BL.AQ=AQ (AF s.bk) d+1) (p:BL.short)
  (x:∀y:Cx,(cx X w β (AF s.bk)).le y->y.w=w'->y.β d=some w.heap.size->Cc y d BL)
  (B:∀y:Cx,(cx X w β (AF s.bk)).le y->y.w=w'->y.β d=some w.heap.size->y.cv d=AQ (AF s.bk) d+1->BK y av u):
  ∃β',BI w0 X β' (s.app (some dst) ⟨av,[(d,BL)],rd⟩) (a.put (some dst) u) w':=by
 subst z;have c:∀b,b<w.heap.size->w'.heap[b]? =w.heap[b]? :=fun b hb=>by rw[hw,Array.getElem?_push,if_neg (by omega)]
 have n:∀b o,w.heap[b]? =some o->b<w.heap.size:=fun b o h=>by
  rcases Nat.lt_or_ge b w.heap.size with h' | h'
  ·exact h'
  simp[Array.getElem?_eq_none h'] at h
 by_cases j:dst<s.bk.length
 ·refine⟨fun k=>if k=dst then some w.heap.size else β k,S.write j p (fun k A=>by simp[A]) (by omega) (fun e=>absurd e (by omega)) (fun b hb _=>c b hb) (by rw[hw];simp)
   (fun b i e' q=>⟨i,(c b (n b _ q)).trans q,rfl⟩) l f g (fun _ b hb=> .inr ?_) (fun hle=>?_) (fun hle=>?_)⟩
  ·simp at hb;omega
  ·exact x _ hle rfl (by show (if dst=dst then _ else _)=_;simp)
  exact B _ hle rfl (by show (if dst=dst then _ else _)=_;simp) (by show AQ _ dst=_;rw[Ew _ _ _ j,if_pos rfl,m])
 have r:s.bk.length<=dst:=by omega
 have v:s.sl.length<=dst:=by have:=S.len;have:=S.HG;omega
 refine⟨β,?_⟩
 have hs:s.app (some dst) ⟨av,[(dst,BL)],rd⟩=s.app none ⟨.one .BY,[],rd⟩:=by
  simp[St.app,FK,Cq,Gu _ _ _ r,Gu _ _ _ v]
 have ha:a.put (some dst) u=a.put none undef:=by
  have:a.tmps.size<=dst:=by have:=S.len;omega
  simp[Act.put,Array.setIfInBounds_eq_of_size_le this]
 rw[hs,ha];exact S.ext c (by rw[hw];simp) l f g (Im _ _)
theorem ZR {w:World} (t:TypeId) (v:Value):(newVar t v).run P w= .ok ⟨w.heap.size,0,none⟩ {w with heap:=w.heap.push (.cells v.cells t (0,0))}:=by
 simp[newVar,newRow,newObj,Sem.run]
theorem mW (n:∀t,DW P t (TI t)) {o:Oper} {t:TypeId} (j:o.op= .alloc t) (p:o.dst≠none):Sound P E TI o:=by
 intro w0 X β s a w S f h N Q i;simp only[CG,j] at h;obtain⟨r,h⟩:=h;subst h;obtain⟨D,z,d,l,v,h3,m,x,A,B⟩:=(n t).info r
 have b:(execOp a.eval o).run P w= .ok (.value (.pointer (some ⟨w.heap.size,0,none⟩))) {w with heap:=w.heap.push (.cells z.cells t (0,0))}:=by
  simp[execOp,j,Instr.alloc,zeroValue,typeInfo,l,h3,ZR]
 obtain⟨q,g⟩:=Option.ne_none_iff_exists'.1 p;have c:BQ o=q:=by simp[BQ,g]
 rw[c,g] at i
 obtain⟨β',k⟩:=S.new (dst:=q) (d:=q) rfl (av:= .one (.Ab q (AQ (AF s.bk) q+1) 0)) (BL:= .var (AQ (AF s.bk) q+1) (TI t).zero) (rd:=[q]) (u:= .pointer (some ⟨w.heap.size,0,none⟩))
  (w':={w with heap:=w.heap.push (.cells z.cells t (0,0))}) (arr:=z.cells) (e:=t) rfl rfl rfl rfl rfl trivial
  (fun y _ hw hb=>⟨_,z.cells,t,hb,by rw[hw];simp,m y⟩) (fun y _ _ hb C=>Or.inr ⟨⟨rfl,by omega⟩,fun _=>⟨_,hb,rfl⟩⟩)
 exact B8 b (by rw[g];exact i _ _ _ k)
theorem mZ {o:Oper} {t:TypeId} {x:Operand} (p:o.op= .box t x) (v:o.dst≠none):Sound P E TI o:=by
 intro w0 X β s a w S f h N Q m;simp only[CG,p] at h;have z:=CY S.B6 x
 have b:(ev s.sl x).full=true/\f=⟨.one (.Ab (BQ o) (AQ (AF s.bk) (BQ o)+1) 0),[(BQ o,.var (AQ (AF s.bk) (BQ o)+1) (ev s.sl x).cs)],[BQ o]⟩:=by
  split at h
  ·exact h.elim
  ·exact h.elim
  rename_i A B
  refine⟨?_,h.symm⟩;cases C:ev s.sl x with
  | one c=>cases c <;> simp_all [AV.full]
  | agg cs=>rfl
  | AG xs=>simp_all
 obtain⟨j,rfl⟩:=b;have k:∀xs,ev s.sl x≠ .AG xs:=fun xs e=>by rw[e] at j;simp[AV.full] at j
 have n:=(MP z k).cells j
 have g:(execOp a.eval o).run P w= .ok (.value (.pointer (some ⟨w.heap.size,0,none⟩))) {w with heap:=w.heap.push (.cells (a.eval x).cells t (0,0))}:=by
  simp[execOp,p,Instr.box,ZR]
 obtain⟨q,l⟩:=Option.ne_none_iff_exists'.1 v;have i:BQ o=q:=by simp[BQ,l]
 rw[i,l] at m
 obtain⟨β',r⟩:=S.new (dst:=q) (d:=q) rfl (av:= .one (.Ab q (AQ (AF s.bk) q+1) 0)) (BL:= .var (AQ (AF s.bk) q+1) (ev s.sl x).cs) (rd:=[q]) (u:= .pointer (some ⟨w.heap.size,0,none⟩))
  (w':={w with heap:=w.heap.push (.cells (a.eval x).cells t (0,0))}) (arr:=(a.eval x).cells) (e:=t) rfl rfl rfl rfl rfl trivial
  (fun y hle hw hb=>⟨_,_,t,hb,by rw[hw];simp,n.mono fun _ _=>Ap.mono hle⟩) (fun y _ _ hb n=>Or.inr ⟨⟨rfl,by omega⟩,fun _=>⟨_,hb,rfl⟩⟩)
 exact B8 g (by rw[l];exact m _ _ _ r)
end
theorem R5 {α:Type} (l:List α) (o:Nat):DK l o []=l:=by
 induction l generalizing o with
 | nil=>cases o <;> rfl
 | cons c l b=>cases o with
  | zero=>rfl
  | succ o=>simp[DK,b]
theorem R6 {α:Type}:∀(l:List α) (o:Nat) (v:α) (r:List α),DK (l.set o v) (o+1) r=DK l o (v::r)
 |[],0,_,_|[],_+1,_,_=>rfl
 | c::l,0,v,r=>by simp[DK]
 | c::l,o+1,v,r=>by simp[DK,R6 l o v r]
theorem AS.DK {α γ:Type} {R:α->γ->Prop}:∀{l:List α} {m:List γ} (o:Nat) {xs:List α} {ys:List γ},AS R l m->AS R xs ys->AS R (DK l o xs) (DK m o ys)
 |[],[],0,[],[],_,_|[],[],0,_::_,_::_,_,_|[],[],_+1,_,_,_,_=>trivial
 | _::_,_::_,0,[],[],h,_=>h
 | _::_,_::_,0,_::_,_::_,h,h'=>⟨h'.1,AS.DK 0 h.2 h'.2⟩
 | _::_,_::_,o+1,_,_,h,h'=>⟨h.1,AS.DK o h.2 h'⟩
 |[],_::_,_,_,_,h,_|_::_,[],_,_,_,h,_=>h.elim
 |_,_,0,[],_::_,_,h'|_,_,0,_::_,[],_,h'=>h'.elim
theorem GM (b:Nat):∀(vs:List Value) (o:Nat) (w:World) (arr:Array Value) (e:TypeId),w.heap[b]? =some (.cells arr e (0,0))->
  ∃c,(w.setCells b o vs).heap[b]? =some (.cells c e (0,0))/\c.toList=DK arr.toList o vs/\c.size=arr.size
 | [],o,w,arr,e,h=>⟨arr,h,(R5 _ _).symm,rfl⟩
 | v::r,o,w,arr,e,h=>by
  have d:(w.setCell ⟨b,o,none⟩ v).heap[b]? =some (.cells (arr.setIfInBounds o v) e (0,0)):=by
   simp[World.setCell,Array.getElem?_modify,h]
  obtain⟨c,f,h3,g⟩:=GM b r (o+1) _ _ e d;exact⟨c,f,by rw[h3,Array.toList_setIfInBounds,R6],by simpa using g⟩
theorem HT (b:Nat):∀(vs:List Value) (o:Nat) (w:World) (k:Nat),k≠b->(w.setCells b o vs).heap[k]? =w.heap[k]?
 | [],_,_,_,_=>rfl
 | v::r,o,w,k,h=>by
  rw[World.setCells,HT b r (o+1) _ k h];simp[World.setCell,Array.getElem?_modify,Ne.symm h]
theorem Iq (b:Nat):∀(vs:List Value) (o:Nat) (w:World),(w.setCells b o vs).os=w.os/\(w.setCells b o vs).tape=w.tape/\(w.setCells b o vs).output=w.output/\(w.setCells b o vs).heap.size=w.heap.size
 | [],_,_=>⟨rfl,rfl,rfl,rfl⟩
 | v::r,o,w=>by
  obtain⟨c,d,h3,f⟩:=Iq b r (o+1) (w.setCell ⟨b,o,none⟩ v);exact⟨c,d,h3,f.trans (by simp[World.setCell])⟩
theorem Mi {w:World} {b off n:Nat} {arr:Array Value} {e:TypeId} (h:w.heap[b]? =some (.cells arr e (0,0))) (d:off+n<=arr.size):w.there b off n:=by
 intro j c;have:off+j<arr.size:=by omega
 simp[World.cell?,World.frozen?,h,this]
section
variable {P:Program} {E:Env} {TI:TypeId->Info}
theorem OI {x:Cx}:∀{c d:AC} {v:Value},BA c d->Ap x c v->Ap x d v
 |.int _ _,_,_,h,r|.bool _,_,_,h,r|.fn _,_,_,h,r|.sl _ _,_,_,h,r=>by rw[show _=_ from h];exact r
 | .nil,_,_,h,r=>by
  rcases h with rfl |⟨t,rfl⟩
  ·exact r
  rw[show _=_ from r];exact⟨none,0,rfl,Nat.le_refl _,by simp,.inl rfl⟩
 |.BY,_,_,h,_|.AN _ _ _ _ _,_,_,h,_|.C9 _ _ _ _ _,_,_,h,_|.Ab _ _ _,_,_,h,_|.Ch _ _ _ _ _,_,_,h,_=>h.elim
 |.CX _ _ _,_,_,h,r|.CZ _ _,_,_,h,r=>by rw[show _=_ from h];exact r
 |.Cy _ _,_,_,h,_|.ub _,_,_,h,_|.own _ _ _,_,_,h,_=>h.elim
theorem NQ {x:Cx} {R:AC->AC->Prop} (hR:∀c d v,R c d->Ap x c v->Ap x d v):∀{l m:List AC} {vs:List Value},Ao R l m->AS (Ap x) l vs->AS (Ap x) m vs
 | [],[],[],_,_=>trivial
 | _::_,_::_,_::_,h,r=>⟨hR _ _ _ h.1 r.1,NQ hR h.2 r.2⟩
 |[],_::_,_,h,_|_::_,[],_,h,_=>h.elim
 |[],[],_::_,_,r|_::_,_::_,[],_,r=>r.elim
theorem EB {bk:Nat->Option AL} {id:Nat} {b:AL} (h:bk id=some b):AQ bk id=b.AQ:=by unfold AQ;rw[h]
theorem nD (hT:∀t,DW P t (TI t)) {o:Oper} {t:TypeId} {p x:Operand} (ho:o.op= .store t p x):Sound P E TI o:=by
 intro w0 X β s a w S f h N Q hN;simp only[CG,ho] at h;obtain⟨hk,h⟩:=h;have hp:=CY S.B6 p;have hx:=CY S.B6 x;obtain⟨ti,z,d,h1,h2,h3,h4,h5,h6,h7⟩:=(hT t).info hk
 have go:∀(id b q:Nat) (arr:Array Value) (e:TypeId) (BL:AL) (ys:List AC),a.eval p= .pointer (some ⟨b,q,none⟩)->id<s.bk.length->live (AF s.bk) id->β id=some b->w.heap[b]? =some (.cells arr e (0,0))->
   AS (Ap (cx X w β (AF s.bk))) ys (a.eval x).cells.toList->ys.length=(TI t).size->q+(TI t).size<=arr.size->BL.AQ=AQ (AF s.bk) id->BL.short->
   (∀y:Cx,(cx X w β (AF s.bk)).le y->y.w=w.setCells b q (a.eval x).cells.toList->y.β id=some b->Cc y id BL)->∀rd,f=⟨.one .BY,[(id,BL)],rd⟩->o.wp P a w N Q:=by
  intro id b q arr e BL ys D a6 hl hb hh A hlen hq an ai hB rd hf;subst hf;have M:(a.eval x).cells.size=ti.size:=by have:=A.length;simp only[Array.length_toList] at this;omega
  have a1:=mA (P:=P) (t:=t) (b:=b) (o:=q) (v:=a.eval x) h1 M (Mi hh (by omega)) (A.one);obtain⟨c1,c2,c3,c4⟩:=Iq b (a.eval x).cells.toList q w;refine oS (w':=w.setCells b q (a.eval x).cells.toList) (by simp[execOp,ho,D,a1]) (hN β _ _ ?_);refine S.write a6 ai (fun _ _=>rfl) (by omega) (fun _=>⟨rfl,fun _=>hl⟩) (fun k _ hk=>HT b _ _ _ k (fun e=>hk hl (e ▸ hb))) (by omega) (fun k r e' Y=>?_) c1 c2 c3 (fun _ k ad=> .inl ⟨ad,hl⟩) (fun hle=>hB _ hle rfl hb) (fun _=>Im _ _)
  by_cases e1:k=b
  ·subst e1;obtain⟨V,g1,g2,H⟩:=GM k (a.eval x).cells.toList q w r e' Y;exact⟨V,g1,H⟩
  exact⟨r,(HT b _ _ _ k e1).trans Y,rfl⟩
 have C:∀{id:Nat} {b:AL},AF s.bk id=some b->id<s.bk.length:=fun {id b} hb=>by
  rcases Nat.lt_or_ge id s.bk.length with h | h
  ·exact h
  rw[HM _ _ h] at hb;cases hb
 split at h
 ·rename_i id v off he
  rw[he] at hp;have hr:=BN hp (by simp)
  split at h
  ·exact h.elim
  ·exact h.elim
  ·rename_i v' cs a8 aa ab
   have hb:AF s.bk id=some (.var v' cs):=by assumption
   split at h
   ·rename_i hc
    obtain⟨U,hlen,al⟩:=hc;subst U
    have g:(ev s.sl x).full=true:=by
     cases R:ev s.sl x with
     | one c=>cases c <;> simp_all [AV.full]
     | agg cs=>rfl
     | AG xs=>simp_all
    have L:∀xs,ev s.sl x≠ .AG xs:=fun xs e=>by rw[e] at g;simp[AV.full] at g
    have A:=(MP hx L).cells g;obtain⟨b,arr,e,g1,g2,H⟩:=S.blocks id _ hb;have R:v'=AQ (AF s.bk) id:=(EB hb).symm;obtain⟨b',F,D⟩:=hr.2 R;obtain rfl:b=b':=Option.some.inj (g1.symm.trans F);have a2:=H.length;simp only[Array.length_toList] at a2;refine go id b off arr e _ _ D (C hb) ⟨_,hb,rfl⟩ g1 g2 A hlen (by omega) (by simpa [AL.AQ] using R) (by trivial) (fun y hle hw J=>?_) _ h.symm;obtain⟨r,q1,q2,q3⟩:=GM b (a.eval x).cells.toList off w arr e g2;refine⟨b,r,e,J,by rw[hw];exact q1,?_⟩;rw[q2];exact ((H.mono fun _ _=>Ap.mono hle).DK off (A.mono fun _ _=>Ap.mono hle))
   exact h.elim
  exact h.elim
 ·rename_i u id v i k he
  rw[he] at hp;have hr:=BN hp (by simp)
  split at h
  ·exact h.elim
  ·exact h.elim
  ·rename_i v' u' l a8 aa ab
   have hb:AF s.bk id=some (.arr v' u' l):=by assumption
   split at h
   ·rename_i hc
    obtain⟨U,ae,M,aj⟩:=hc;subst U ae;obtain rfl:=T.beq_eq aj;obtain⟨z',hz,h⟩:=h;obtain⟨hi,W⟩:=hz ()
    have g:(ev s.sl x).full=true:=by
     cases R:ev s.sl x with
     | one c=>cases c <;> simp_all [AV.full]
     | agg cs=>rfl
     | AG xs=>simp_all
    have L:∀xs,ev s.sl x≠ .AG xs:=fun xs e=>by rw[e] at g;simp[AV.full] at g
    have A:=NQ (fun _ _ _=>OI) W ((MP hx L).cells g);have R:v'=AQ (AF s.bk) id:=(EB hb).symm;obtain⟨b',F,D⟩:=hr.2 R;have ah:=S.blocks id _ hb;rcases ah with⟨g1,g2⟩ |⟨b,arr,e,g1,g2,H⟩
    ·exact absurd (g1.symm.trans F) (by simp)
    obtain rfl:b=b':=Option.some.inj (g1.symm.trans F);have hn:=T.size_pos u
    have af:i*u.size+u.size<=arr.size:=by
     obtain⟨us,G,O⟩:=H i l[i] (by simp[hi]);have ak:=Io _ _ _ G;have ag:u.size-1<us.length:=by omega
     have:=O (u.size-1) us[u.size-1] (by simp[ag]);simp only[World.cell?,g2] at this
     have B:i*u.size+(u.size-1)<arr.size:=by
      rcases Nat.lt_or_ge (i*u.size+(u.size-1)) arr.size with B | B
      ·exact B
      simp[Array.getElem?_eq_none B] at this
     omega
    refine go id b (i*u.size) arr e _ _ D (C hb) ⟨_,hb,rfl⟩ g1 g2 A (by rw[GA];exact M.symm) (by omega) (by simpa [AL.AQ] using R) (by have:=S.lens id _ hb;simpa [AL.short] using this) (fun y hle hw J=>?_) _ (h _ rfl).symm;refine Or.inr ?_;obtain⟨r,q1,q2,q3⟩:=GM b (a.eval x).cells.toList (i*u.size) w arr e g2;refine⟨b,r,e,J,by rw[hw];exact q1,fun j y' hj=>?_⟩;have a5:(a.eval x).cells.toList.length=u.size:=by rw[<-A.length,GA]
    by_cases Z:j=i
    ·subst Z;have:y'=z':=by simp[List.getElem?_set,hi] at hj;exact hj.symm
     subst this;refine⟨(a.eval x).cells.toList,((Gr _ u y' _).2 (A.mono fun _ _=>Ap.mono hle)),fun m v hm=>?_⟩;rw[hw]
     have K:m<(a.eval x).cells.toList.length:=by
      rcases Nat.lt_or_ge m (a.eval x).cells.toList.length with B | B
      ·exact B
      simp[List.getElem?_eq_none B] at hm
     rw[World.cell?_setCells_in b _ (j*u.size) w (fun m hm=>(Mi g2 (n:=u.size) (by omega) m (by omega)).1) m K];simp[List.getElem?_eq_getElem K] at hm;simpa using hm
    have a7:l[j]? =some y':=by simpa [List.getElem?_set,Ne.symm Z] using hj
    obtain⟨us,G,O⟩:=H j y' a7;refine⟨us,CD hle.I u y' us G,fun m v hm=>?_⟩;have ak:=Io _ _ _ G
    have K:m<us.length:=by
     rcases Nat.lt_or_ge m us.length with B | B
     ·exact B
     simp[List.getElem?_eq_none B] at hm
    rw[hw,World.cell?_setCells_out b _ (i*u.size) w _ (fun _ _=>?_)]
    ·exact O m v hm
    show j*u.size+m<i*u.size\/i*u.size+_<=j*u.size+m
    rw[a5];rcases Nat.lt_or_ge j i with B | B
    ·left
     have:(j+1)*u.size<=i*u.size:=Nat.mul_le_mul_right _ B;rw[Nat.add_mul] at this;omega
    right
    have:(i+1)*u.size<=j*u.size:=Nat.mul_le_mul_right _ (by omega);rw[Nat.add_mul] at this;omega
   exact h.elim
  exact h.elim
 exact h.elim
end
section
variable {P:Program} {E:Env} {TI:TypeId->Info}
theorem Zk {w:World} {t:TypeId} {b:TypeInfo} (h:P.info? t=some b):(sizeOf t).run P w= .ok b.size w:=by simp[sizeOf,typeInfo,h]
theorem mo (O:∀t,DW P t (TI t)) {o:Oper} {t:TypeId} {x i:Operand} (H:o.op= .indexAddr t x i):Sound P E TI o:=by
 intro w0 X β s a w S f h N Q G;simp only[CG,H] at h;obtain⟨U,h⟩:=h;obtain⟨hu,Z,z,g1,g2,g3,g4,g5,g6⟩:=(O t).sl U;have q:=CY S.B6 x;have hi:=CY S.B6 i
 have go:∀(b off len cap:Nat) (k:IntKind) (n:Int),a.eval x= .slice (some ⟨b,off,none⟩) len cap->a.eval i= .int k n->0<=n->n<len->
   (execOp a.eval o).run P w= .ok (.value (.pointer (some ⟨b,off+n.toNat*(TI t).elem.size,none⟩))) w:=by
  intro b off len cap k n p C K r;simp[execOp,H,p,C,Instr.indexAt,asIntOf,run_underlying hu,Zk g1,g2,K,r,Addr.add_mid]
 split at h
 ·rename_i u l k n he d
  rw[he] at q;rw[d] at hi;have g:a.eval i= .int k n:=BN hi (by simp);obtain⟨base,cap,p,r,L,h3⟩:=BN q (by simp);obtain⟨c,y,Y,h⟩:=h;obtain rfl:=T.beq_eq c;obtain⟨j,m⟩:=Y ();subst h
  have B:n.toNat<l.length:=by
   rcases Nat.lt_or_ge n.toNat l.length with A | A
   ·exact A
   simp[List.getElem?_eq_none A] at m
  rcases h3 with rfl |⟨b,off,rfl,M,R⟩
  ·simp at B
  obtain⟨us,D,F⟩:=R n.toNat y m;refine B8 (go b off l.length cap k n (by simpa using p) g j (by omega)) (G _ _ _ (S.val (Or.inr ⟨b,off+n.toNat*(TI t).elem.size,us,by rw[Nat.add_zero],M,D,F⟩)))
 ·rename_i u id v off len k n he d
  rw[he] at q;rw[d] at hi;have g:a.eval i= .int k n:=BN hi (by simp);obtain⟨c,h⟩:=h;obtain rfl:=T.beq_eq c
  split at h
  ·rename_i p
   have J:=BN q (by simp);obtain⟨base,cap,hs,r,L,_,h3⟩:=J.2 p.symm;obtain⟨C,h⟩:=h;obtain⟨j,V⟩:=C ();obtain rfl:=h _ rfl;rcases h3 with rfl |⟨b,arr,e,hb,rfl,hh,W⟩
   ·omega
   refine B8 (go b (off*(TI t).elem.size) len cap k n hs g j (by omega)) (G _ _ _ (S.val (Or.inr ⟨⟨rfl,J.1.2⟩,fun _=>⟨b,hb,?_⟩⟩)));rw[Nat.add_mul,Nat.add_zero]
  exact h.elim
 exact h.elim
theorem Kr {w:World} {k:IntKind} {n:Int} {y:Nat} {c:BoundsCode} (b:0<=n) (d:n<=y):(Instr.sliceBound (.int k n) y c).run P w= .ok n.toNat w:=by
 simp[Instr.sliceBound,asIntOf,b,d]
theorem QA {w:World} {a:Act} {x:Cx} {lo hi mx:Option Operand} {s:St} (v:∀o,BK x (ev s.sl o) (a.eval o)) {len cap:Nat} (y:len<=cap) {R:Nat->Nat->Bool->Prop}
  (h:IB len (lo.map (ev s.sl)) (hi.map (ev s.sl)) (mx.map (ev s.sl)) R):
  ∃(l q m:Nat) (c:Bool),(Instr.sliceBounds true len cap (lo.map a.eval) (hi.map a.eval) (mx.map a.eval)).run P w= .ok (l,q,m) w/\l<=q/\q<=len/\q<=m/\m<=cap/\(c=true->m=q/\l=0)/\(c=false->m=cap)/\R l q c:=by
 have b:∀{o:Operand} {k:IntKind} {n:Int},ev s.sl o= .one (.int k n)->a.eval o= .int k n:=fun {o k n} e=>by
  have:=v o;rw[e] at this;exact BN this (by simp)
 unfold IB at h
 split at h
 ·rename_i f d g
  simp only[Option.map_eq_none_iff] at f d g;subst f d g;exact⟨0,len,cap,false,by simp[Instr.sliceBounds],Nat.zero_le _,Nat.le_refl _,y,Nat.le_refl _,by simp,fun _=>rfl,h _ rfl⟩
 ·rename_i k n f d g
  simp only[Option.map_eq_none_iff,Option.map_eq_some_iff] at f d g;obtain⟨p,rfl,f⟩:=f;subst d g;obtain⟨hb,h⟩:=h;obtain⟨i,j⟩:=hb ();have j:n<=(len:Int):=by omega
  exact⟨n.toNat,len,cap,false,by simp[Instr.sliceBounds,b f,Kr i j],by omega,Nat.le_refl _,y,Nat.le_refl _,by simp,fun _=>rfl,h _ _ ⟨rfl,rfl⟩⟩
 ·rename_i k n f d g
  simp only[Option.map_eq_none_iff,Option.map_eq_some_iff] at f d g;obtain⟨p,rfl,d⟩:=d;subst f g;obtain⟨hb,h⟩:=h;obtain⟨i,j⟩:=hb ();have r:n<=(cap:Int):=by omega
  exact⟨0,n.toNat,cap,false,by simp[Instr.sliceBounds,b d,Kr i r],by omega,by omega,by omega,Nat.le_refl _,by simp,fun _=>rfl,h _ rfl⟩
 ·rename_i k n k' n' f d g
  simp only[Option.map_eq_none_iff,Option.map_eq_some_iff] at f d g;obtain⟨p,rfl,f⟩:=f;obtain⟨z,rfl,d⟩:=d;subst g;obtain⟨hb,h⟩:=h;obtain⟨i,j,r⟩:=hb ();have h3:n'<=(cap:Int):=by omega
  have u:n<=(n'.toNat:Int):=by omega
  exact⟨n.toNat,n'.toNat,cap,false,by simp[Instr.sliceBounds,b f,b d,Kr (show 0<=n' by omega) h3,Kr i u],by omega,by omega,by omega,Nat.le_refl _,by simp,fun _=>rfl,h _ _ ⟨rfl,rfl⟩⟩
 ·rename_i k n k' n' f d g
  simp only[Option.map_eq_none_iff,Option.map_eq_some_iff] at f d g;obtain⟨p,rfl,d⟩:=d;obtain⟨z,rfl,g⟩:=g;subst f;obtain⟨hb,h⟩:=h;obtain⟨i,j,r⟩:=hb ();subst j;have h3:n<=(cap:Int):=by omega
  have u:n<=(n.toNat:Int):=by omega
  exact⟨0,n.toNat,n.toNat,true,by simp[Instr.sliceBounds,b d,b g,Kr i h3,Kr i u],by omega,by omega,by omega,by omega,fun _=>⟨rfl,rfl⟩,by simp,h _ rfl⟩
 exact h.elim
theorem nC (Z:∀t,DW P t (TI t)) {o:Oper} {t:TypeId} {x:Operand} {lo hi mx:Option Operand} (V:o.op= .slice t x lo hi mx):Sound P E TI o:=by
 intro w0 X β s a w S f h N Q r;simp only[CG,V] at h;obtain⟨hk,h⟩:=h;obtain⟨hu,ei,z,g1,g2,g3,g4,g5,g6⟩:=(Z t).sl hk;have k:=CY S.B6 x
 have go:∀(base:Option Addr) (len cap l q m:Nat),a.eval x= .slice base len cap->(Instr.sliceBounds true len cap (lo.map a.eval) (hi.map a.eval) (mx.map a.eval)).run P w= .ok (l,q,m) w->
   (execOp a.eval o).run P w= .ok (.value (.slice (if m=l then base else base.map (·.add (l*(TI t).elem.size))) (q-l) (m-l))) w:=by
  intro base len cap l q m n g;simp[execOp,V,n,Instr.sliceAt,run_underlying hu,Instr.slice,g,Zk g1,g2]
 unfold IA at h
 split at h
 ·rename_i u l he
  rw[he] at k;obtain⟨base,cap,n,D,W,h3⟩:=BN k (by simp);obtain⟨d,h⟩:=h;obtain rfl:=T.beq_eq d;obtain⟨p,q,m,c,g,b1,b2,b3,O,B,R,hR⟩:=QA (P:=P) (w:=w) (CY S.B6) D (h _ rfl);obtain rfl:=hR _ rfl;refine B8 (go base l.length cap p q m (by simpa using n) g) (r _ _ _ (S.val (Or.inr ?_)));have hlen:((l.take q).drop p).length=q-p:=by simp;omega
  refine⟨_,m-p,by rw[hlen],by rw[hlen];omega,by rw[hlen];omega,?_⟩
  by_cases J:q=p
  ·left;subst J;simp
  right
  rcases h3 with rfl |⟨b,off,rfl,Y,hc⟩
  ·simp at b2;omega
  refine⟨b,off+p*(TI t).elem.size,by rw[if_neg (by omega)];simp[Addr.add_mid],Y,fun j y A=>?_⟩
  have G:l[p+j]? =some y:=by
   rw[List.getElem?_drop,List.getElem?_take] at A
   split at A
   ·exact A
   cases A
  obtain⟨us,K,L⟩:=hc (p+j) y G;exact⟨us,K,by rw[show off+p*(TI t).elem.size+j*(TI t).elem.size=off+(p+j)*(TI t).elem.size by rw[Nat.add_mul];omega];exact L⟩
 ·rename_i u id v off len he
  rw[he] at k;obtain⟨d,h⟩:=h;obtain rfl:=T.beq_eq d
  split at h
  ·rename_i M
   have i:=BN k (by simp);obtain⟨base,cap,hs,D,W,_,h3⟩:=i.2 M.symm;obtain⟨p,q,m,c,g,b1,b2,b3,O,B,R,hR⟩:=QA (P:=P) (w:=w) (CY S.B6) D h;have hR:=hR _ _ ⟨rfl,rfl⟩;refine B8 (go base len cap p q m hs g) ?_
   have U:∀C,(C=true->m-p=q-p)->GQ w (β id) (TI t).elem.size (off+p) (q-p) C (.slice (if m=p then base else base.map (·.add (p*(TI t).elem.size))) (q-p) (m-p)):=by
    intro C F;refine⟨_,m-p,rfl,by omega,by omega,F,?_⟩
    by_cases H:m=p
    ·left;omega
    right
    rcases h3 with rfl |⟨b,arr,e,hb,rfl,hh,a1⟩
    ·omega
    refine⟨b,arr,e,hb,by rw[if_neg H];simp[Addr.add_mid,Nat.add_mul],hh,?_⟩;have:(off+p+(m-p))*(TI t).elem.size<=(off+cap)*(TI t).elem.size:=Nat.mul_le_mul_right _ (by omega);omega
   cases c with
   | true=>
    obtain rfl:=hR;exact r _ _ _ (S.val (Or.inr ⟨⟨rfl,i.1.2⟩,fun _=>U true (fun _=>by have:=B rfl;omega)⟩))
   | false=>
    obtain rfl:=hR;exact r _ _ _ (S.val (Or.inr ⟨⟨rfl,i.1.2⟩,fun _=>U false (by simp)⟩))
  exact h.elim
 ·rename_i he
  rw[he] at k;have n:a.eval x= .slice none 0 0:=BN k (by simp);obtain⟨p,q,m,c,g,b1,b2,b3,O,B,R,hR⟩:=QA (P:=P) (w:=w) (cap:=0) (CY S.B6) (Nat.le_refl _) h;obtain rfl:=hR;have:p=0:=by omega
  have:q=0:=by omega
  have:m=0:=by omega
  subst_vars;exact B8 (go none 0 0 0 0 0 n g) (r _ _ _ (S.val (Or.inr (by simp[Ap]))))
 exact h.elim
end
def C7 (w:World) (I:Nat->Prop) (t:T):List (el t)->List Value->Prop
 | [],fl=>fl=[]
 | x::l,fl=>∃us r,fl=us++r/\rep w I t x us/\C7 w I t l r
section
variable {w:World} {I:Nat->Prop} {t:T}
theorem R8 {b o:Nat} {us vs:List Value}:w.rangeAt b o (us++vs)↔w.rangeAt b o us/\w.rangeAt b (o+us.length) vs:=by
 constructor
 ·intro h;refine⟨fun j v c=>h j v ?_,fun j v c=>?_⟩
  ·rw[List.getElem?_append_left]
   ·exact c
   rcases Nat.lt_or_ge j us.length with d | d
   ·exact d
   simp[List.getElem?_eq_none d] at c
  rw[Nat.add_assoc];exact h (us.length+j) v (by rw[List.getElem?_append_right (by omega)];simpa using c)
 rintro⟨f,g⟩ j v c
 rcases Nat.lt_or_ge j us.length with d | d
 ·rw[List.getElem?_append_left d] at c;exact f j v c
 rw[List.getElem?_append_right d] at c;have:=g _ v c;rwa [show o+us.length+(j-us.length)=o+j by omega] at this
theorem C7.length:∀{l:List (el t)} {b:List Value},C7 w I t l b->b.length=l.length*t.size
 | [],_,h=>by rw[show _=_ from h];simp
 | _::_,_,⟨us,r,e,c,d⟩=>by rw[e,List.length_append,Io _ _ _ c,C7.length d,List.length_cons,Nat.succ_mul];omega
theorem C7.one:∀{l:List (el t)} {b:List Value},C7 w I t l b->∀u∈b,u.oneCell'=true
 | [],_,h,u,hu=>by rw[show _=_ from h] at hu;simp at hu
 | _::_,_,⟨us,r,e,c,d⟩,u,hu=>by
  rw[e] at hu;rcases List.mem_append.1 hu with h | h
  ·exact MR _ _ _ c u h
  exact C7.one d u h
theorem C7.append:∀{l l':List (el t)} {c b:List Value},C7 w I t l c->C7 w I t l' b->C7 w I t (l++l') (c++b)
 | [],_,_,_,h,h'=>by rw[show _=_ from h];exact h'
 | _::_,_,_,_,⟨us,r,e,d,f⟩,h'=>⟨us,r++_,by rw[e,List.append_assoc],d,C7.append f h'⟩
theorem C7.mono {w':World} {c:Nat->Prop} (hm:∀b,I b->c b/\w'.heap[b]? =w.heap[b]?):∀{l:List (el t)} {d:List Value},C7 w I t l d->C7 w' c t l d
 | [],_,h=>h
 | _::_,_,⟨us,r,e,f,g⟩=>⟨us,r,e,CD hm _ _ _ f,C7.mono hm g⟩
theorem SJ {b:Nat}:∀{l:List (el t)} {off:Nat},(∀(i:Nat) (x:el t),l[i]? =some x->∃us,rep w I t x us/\w.rangeAt b (off+i*t.size) us)->∃c,C7 w I t l c/\w.rangeAt b off c
 | [],_,_=>⟨[],rfl,fun j v k=>by simp at k⟩
 | x::l,off,h=>by
  obtain⟨us,d,f⟩:=h 0 x (by simp)
  obtain⟨c,h3,g⟩:=SJ (l:=l) (off:=off+t.size) fun i y m=>by
   obtain⟨us,g1,g2⟩:=h (i+1) y (by simpa using m);exact⟨us,g1,by rw[show off+t.size+i*t.size=off+(i+1)*t.size by rw[Nat.add_mul];omega];exact g2⟩
  refine⟨us++c,⟨us,c,rfl,d,h3⟩,R8.2 ⟨by simpa using f,?_⟩⟩;rw[Io _ _ _ d];exact g
theorem MY {b:Nat}:∀{l:List (el t)} {h:List Value} {off:Nat},C7 w I t l h->w.rangeAt b off h->∀(i:Nat) (x:el t),l[i]? =some x->∃us,rep w I t x us/\w.rangeAt b (off+i*t.size) us
 | [],_,_,_,_,_,_,c=>by simp at c
 | _::_,_,_,⟨us,r,e,f,_⟩,d,0,x,c=>by
  simp at c;subst c;rw[e] at d;exact⟨us,f,by simpa using (R8.1 d).1⟩
 | _::_,_,off,⟨us,r,e,f,j⟩,d,i+1,x,c=>by
  rw[e] at d;have h3:=(R8.1 d).2;rw[Io _ _ _ f] at h3;obtain⟨g,g1,g2⟩:=MY j h3 i x (by simpa using c);exact⟨g,g1,by rw[show off+(i+1)*t.size=off+t.size+i*t.size by rw[Nat.add_mul];omega];exact g2⟩
end
theorem Zs {P:Program} {w:World} {β:Nat->Option Nat} {s:St} {a:Act} {w0:World} {X:WX} (S:BI w0 X β s a w) {c:AC} {v:Value} {t:T} {l:List (el t)} {p e':TypeId} (r:P.underlying p=some (.slice e'))
  (z:Ap (cx X w β (AF s.bk)) c v) (h:Du (AF s.bk) c (.sl t l)):∃news,Src P t.size p v l.length news w/\C7 w (cx X w β (AF s.bk)).I t l news:=by
 have some:∀{b off n cap:Nat},v= .slice (some ⟨b,off,none⟩) n cap->n=l.length->(∀(i:Nat) (x:el t),l[i]? =some x->∃us,rep w (cx X w β (AF s.bk)).I t x us/\w.rangeAt b (off+i*t.size) us)->
   ∃news,Src P t.size p v l.length news w/\C7 w (cx X w β (AF s.bk)).I t l news:=by
  intro b off n cap f K q;obtain⟨D,k,g⟩:=SJ q;refine⟨D,?_,k⟩;rw[f,K];exact Src.ofSlice w r _ _ _ D k.length (fun j u hu=>by rw[Addr.add_mid];exact g j u hu) k.one
 have d:∀{base:Option Addr} {cap:Nat},v= .slice base 0 cap->l=[]->∃news,Src P t.size p v l.length news w/\C7 w (cx X w β (AF s.bk)).I t l news:=by
  intro base cap f J;subst J f;refine⟨[],?_,rfl⟩;cases base with
  | none=>exact Src.ofNil w r cap
  | some F=>exact Src.ofSlice w r F 0 cap [] (by simp) (fun j u hu=>by simp at hu) (by simp)
 cases c with
 | sl t' l'=>
  have h:AC.sl t l=AC.sl t' l':=h;simp only[AC.sl.injEq] at h;obtain⟨H,g⟩:=h;subst H;have h3:=eq_of_heq g;subst h3;obtain⟨base,cap,f,k,g,h3⟩:=z;have f:v= .slice base l.length cap:=by simpa using f
  rcases h3 with rfl |⟨b,off,rfl,O,q⟩
  ·exact d f rfl
  exact some f rfl q
 | nil=>
  rcases h with h |⟨t',h⟩
  ·cases h
  obtain⟨rfl,g⟩:t=t'/\HEq l ([]:List (el t')):=by simpa using h
  obtain rfl:=eq_of_heq g;exact d (show v= .slice none 0 0 from z) rfl
 | AN t' id vv off len=>
  obtain⟨l',hb,hle,h⟩:=h;obtain⟨rfl,g⟩:t=t'/\HEq l ((l'.drop off).take len):=by simpa using h
  obtain rfl:=eq_of_heq g;have f:vv=AQ (AF s.bk) id:=by rw[EB hb];rfl
  obtain⟨base,cap,hs,k,g,_,h3⟩:=z.2 f;have hlen:((l'.drop off).take len).length=len:=by simp;omega
  by_cases y:len=0
  ·subst y;exact d hs (by simp)
  rcases h3 with rfl |⟨b,arr,e,m,rfl,Q,L⟩
  ·omega
  have A:=S.blocks id _ hb;rcases A with⟨g1,g2⟩ |⟨b',C,e',g1,g2,G⟩
  ·exact absurd (g1.symm.trans m) (by simp)
  obtain rfl:b'=b:=Option.some.inj (g1.symm.trans m);refine some hs hlen.symm fun i x o=>?_
  have B:l'[off+i]? =Option.some x:=by
   rw[List.getElem?_take] at o
   split at o
   ·simpa using o
   cases o
  obtain⟨us,M,N⟩:=G _ x B;exact⟨us,M,by rw[<-Nat.add_mul];exact N⟩
 | _=>exact (show False by simp[Du] at h).elim
theorem UY {P:Program} {w:World} {t k ty e:TypeId} {c:TypeInfo} {z:Value} {n:Nat} (ht:P.underlying t=some (.slice e)) (hi:P.info? e=some c) (N:c.zero=some z) (i:c.size=n) (J:z.cells.size=n)
  {base:Option Addr} {len cap:Nat} (F:len<=cap) {olds:List Value} (h:olds.length=len*n)
  (hb:cap=0\/∃b off arr e',base=some ⟨b,off,none⟩/\w.heap[b]? =some (.cells arr e' (0,0))/\off+cap*n<=arr.size/\w.rangeAt b off olds)
  {x:Value} {m:Nat} {news:List Value} (hs:Src P n k x m news w) (f:(len+m)*c.bytes<=140737488355328) (p:0<c.bytes):
  (m=0/\(Builtin.append_ #[t,k] ty #[.slice base len cap,x]).run P w= .ok (.slice base len cap) w)\/
  (∃b off,len+m<=cap/\base=some ⟨b,off,none⟩/\(Builtin.append_ #[t,k] ty #[.slice base len cap,x]).run P w= .ok (.slice base (len+m) cap) (w.setCells b (off+len*n) news))\/
  (∃r arr w',len+m<=r/\r<=maxLen/\w'.heap=w.heap.push (.cells arr e (0,0))/\w'.os=w.os/\w'.tape=w.tape/\w'.output=w.output/\arr.size=r*n/\w'.rangeAt w.heap.size 0 (olds++news)/\
   (Builtin.append_ #[t,k] ty #[.slice base len cap,x]).run P w= .ok (.slice (some ⟨w.heap.size,0,none⟩) (len+m) r) w'):=by
 subst i;have o:=hs.newsLen;have G:len+m<=140737488355328:=Nat.le_trans (Nat.le_mul_of_pos_right _ p) f
 by_cases hm:m=0
 ·subst hm;have:news=[]:=by simpa using o
  subst this;exact .inl ⟨rfl,run_append_nothing (P:=P) w t k ty e c ht hi base len cap F x hs⟩
 by_cases d:len+m<=cap
 ·rcases hb with rfl |⟨b,off,arr,e',rfl,C,H,K⟩
  ·omega
  have l:∀j,j<news.length->off+len*c.size+j<arr.size:=fun j g=>by
   have:(len+m)*c.size<=cap*c.size:=Nat.mul_le_mul_right _ d;rw[Nat.add_mul] at this;omega
  exact .inr (.inl ⟨b,off,d,rfl,run_append_room_src (P:=P) w t k ty e c ht hi b off len cap x m news hs d
   (fun j g=>by simp[World.cell?,C,l j g]) (fun j g=>by simp[World.frozen?,C])⟩)
 have hold:(Builtin.firstCells c.size len (.slice base len cap)).run P w.drew= .ok olds.toArray w.drew:=by
  rcases hb with rfl |⟨b,off,arr,e',rfl,C,H,K⟩
  ·obtain rfl:len=0:=by omega
   have:olds=[]:=by simpa using h
   subst this;cases base with
   | none=>exact run_firstCells_none w.drew c.size 0 0 0
   | some L=>exact run_firstCells_some w.drew c.size 0 L 0 0 [] (by simp) (fun j u hu=>by simp at hu)
  exact run_firstCells_some w.drew c.size len _ len cap olds h fun j u hu=>by rw[Addr.add_mid];simpa using K j u hu
 have y:len+m<=maxLen:=by unfold maxLen;omega
 have q:=run_append_grow_src (P:=P) w t k ty e c z ht hi N base len cap olds hold x m news hs (by omega) (by omega) (growslice_fits (by omega) f);have B:=grownCap_ge w (len+m) cap e;refine .inr (.inr ⟨grownCap w (len+m) cap e,(olds++news).toArray++Builtin.zeroCells z.cells (grownCap w (len+m) cap e-(len+m)),(w.drew.alloc (.cells ((olds++news).toArray++Builtin.zeroCells z.cells (grownCap w (len+m) cap e-(len+m))) e)),B,grownCap_le_maxLen w (len+m) cap e y,?_,rfl,rfl,rfl,?_,?_,q⟩)
 ·rfl
 ·simp only[Array.size_append,List.size_toArray,List.length_append,size_zeroCells,J,h,o,<-Nat.add_mul]
  congr 1;omega
 intro j v g;have M:(w.drew.alloc (.cells ((olds++news).toArray++Builtin.zeroCells z.cells (grownCap w (len+m) cap e-(len+m))) e)).cell? ⟨w.heap.size,j,none⟩=_:=World.cell?_alloc_new w.drew _ _ j;rw[Nat.zero_add,M]
 have D:j<(olds++news).length:=by
  rcases Nat.lt_or_ge j (olds++news).length with A | A
  ·exact A
  rw[List.getElem?_eq_none A] at g;cases g
 rw[Array.getElem?_append_left (by simpa using D)];simpa using g
end Go.Abs
