/- Part 3 of a proof. Conditions: each theorem's own. -/
import Derived.Laws.Cover3
import Derived.Deep.AppendSrc
import Derived.Deep.Upon
import Derived.Test.YtmhbikooakmagaaGreatQk01
set_option linter.all false
set_option maxHeartbeats 8000000
set_option maxRecDepth 20000
namespace Go.Abs
open Go.RowKit
def CR (w:World) (I:Nat->Prop):Cx:=⟨w,fun _=>none,fun _=>0,I⟩
def OwnAt (x:Cx) (lo:Nat) (bo:Option Nat) (t:T) (l:List (el t)) (v:Value):Prop:=
 ∃base cap,v= .slice base l.length cap/\l.length<=cap/\cap<=maxLen/\l.length<=140737488355328/\
  ((bo=none/\l=[]/\cap=0)\/∃b arr e,bo=some b/\lo<=b/\base=some ⟨b,0,none⟩/\x.w.heap[b]? =some (.cells arr e (0,0))/\cap*t.size<=arr.size/\
    ∀(i:Nat) (y:el t),l[i]? =some y->∃us,rep x.w x.I t y us/\x.w.rangeAt b (i*t.size) us)
def CN (x:Cx) (lo:Nat) (bo:Option Nat):AC->Value->Prop
 | .own t l n,v=>n=l.length/\OwnAt x lo bo t l v
 | c,v=>Ah x c v
def Eu (x:Cx) (lo:Nat) (bo:Option Nat):AV->Value->Prop
 | .one c,v=>c= .BJ\/CN x lo bo c v
 | .agg cs,v=>∃arr,v= .agg arr/\AR (CN x lo bo) cs arr.toList
 | .AI _,_=>False
def FI (x:Cx) (lo:Nat) (bo:Option Nat):AV->Value->Prop
 | .AI xs,v=>∃arr,v= .tuple arr/\AR (fun y u=>Eu x lo bo (Ca y) u) xs arr.toList
 | a,v=>Eu x lo bo a v
def Be:AC->Bool
 | .own _ _ _=>true
 | c=>Ao c
def DT:AC->Bool
 |.AN _ 0 0 _ _|.Ak 0 0 _=>true
 | c=>Ao c
def AV.wf:AV->Bool
 | .AI xs=>xs.all fun x=>x.1||decide (x.2.length<=1)
 | _=>true
def AK.lone:AK->Bool
 | .var v cs=>v==0&&cs.all Ao
 | .arr v _ _=>v==0
 | .dead _=>false
def Callee (P : Program) (f : FuncId) : Prop := ∃ fn c, P.funcs[f]? = some fn /\ (fn.name == "runtime.NumGoroutine") = false /\ fn.body = some c
def EN (P:Program) (fl:Bool) (f:FuncId) (args:List AV) (r:AV):Prop:=
 Callee P f/\(r.all Be=true/\r.wf=true)/\
 ∀(w:World) (I:Nat->Prop) (vs:List Value),(∀b,I b->b<w.heap.size)->AR (BB (CR w I)) args vs->
  Calls P f vs.toArray w fun e w'=>∃u bo,e= .returned u/\Below w.heap.size w w'/\
   FI (CR w' fun b=>((fl=false/\I b)\/w.heap.size<=b)/\b<w'.heap.size/\bo≠some b) w.heap.size bo r u
def β0 (ob:Option Nat):Nat->Option Nat:=fun k=>if k=0 then ob else none
def BV (w:World) (ob:Option Nat) (I:Nat->Prop):Cx:=⟨w,β0 ob,fun _=>0,I⟩
def FF (P:Program) (f:FuncId) (c0:AC) (b0:AK) (args:List AV) (r:AV) (b1:AK):Prop:=
 Callee P f/\(r.all DT=true/\DT c0=true/\b0.lone=true/\b1.lone=true)/\
 ∀(w:World) (I:Nat->Prop) (ob:Option Nat) (v0:Value) (vs:List Value),(∀b,I b->b<w.heap.size/\ob≠some b)->
  Ah (BV w ob I) c0 v0->B5 (BV w ob I) 0 b0->b0.short->AR (BB (CR w I)) args vs->
  Calls P f (v0::vs).toArray w fun e w'=>∃u,e= .returned u/\
   (w'.os=w.os/\w'.tape=w.tape/\w'.output=w.output/\w.heap.size<=w'.heap.size/\∀k,k<w.heap.size->ob≠some k->w'.heap[k]? =w.heap[k]?)/\
   (∀(b:Nat) arr e,ob=some b->w.heap[b]? =some (.cells arr e (0,0))->∃arr',w'.heap[b]? =some (.cells arr' e (0,0))/\arr'.size=arr.size)/\
   BB (BV w' ob fun k=>(I k\/w.heap.size<=k)/\k<w'.heap.size/\ob≠some k) r u/\
   B5 (BV w' ob fun k=>(I k\/w.heap.size<=k)/\k<w'.heap.size/\ob≠some k) 0 b1/\b1.short
def Cy (P:Program) (f:FuncId) (args:List AV) (b0:AK) (r:AV):Prop:=
 Callee P f/\(r.all Ao=true/\b0.lone=true)/\
 ∀(w:World) (I:Nat->Prop) (ob:Option Nat) (vs:List Value),(∀b,I b->b<w.heap.size/\ob≠some b)->
  B5 (BV w ob I) 0 b0->b0.short->AR (BB (BV w ob I)) args vs->
  Calls P f vs.toArray w fun e w'=>∃u,e= .returned u/\
   (w'.os=w.os/\w'.tape=w.tape/\w'.output=w.output/\w.heap.size<=w'.heap.size/\∀k,k<w.heap.size->ob≠some k->w'.heap[k]? =w.heap[k]?)/\
   (∀(b:Nat) arr e,ob=some b->w.heap[b]? =some (.cells arr e (0,0))->∃arr',w'.heap[b]? =some (.cells arr' e (0,0))/\arr'.size=arr.size)/\
   BB (BV w' ob fun k=>(I k\/w.heap.size<=k)/\k<w'.heap.size/\ob≠some k) r u/\
   B5 (BV w' ob fun k=>(I k\/w.heap.size<=k)/\k<w'.heap.size/\ob≠some k) 0 b0
def MZ (P:Program) (f:FuncId) (t:T) (l:List (el t)) (args:List AV) (l':List (el t)):Prop:=
 Callee P f/\
 ∀(w:World) (I J:Nat->Prop) (ob:Option Nat) (v0:Value) (vs:List Value),(∀b,I b->b<w.heap.size/\ob≠some b)->(∀b,J b->ob≠some b/\∃arr e,w.heap[b]? =some (.cells arr e (0,0)))->
  Ah (BV w ob I) (.AN t 0 0 0 l.length) v0->B5 (BV w ob I) 0 (.arr 0 t l)->l.length<=140737488355328->AR (BB (CR w J)) args vs->
  Calls P f (v0::vs).toArray w fun e w'=>∃u ob',e= .returned u/\
   (w'.os=w.os/\w'.tape=w.tape/\w'.output=w.output/\w.heap.size<=w'.heap.size/\∀k,k<w.heap.size->ob≠some k->w'.heap[k]? =w.heap[k]?)/\
   (∀(b:Nat) arr e,ob=some b->w.heap[b]? =some (.cells arr e (0,0))->∃arr',w'.heap[b]? =some (.cells arr' e (0,0))/\arr'.size=arr.size)/\
   (ob'=ob\/∃b,ob'=some b/\w.heap.size<=b)/\l'.length<=140737488355328/\
   Ah (BV w' ob' fun k=>(I k\/w.heap.size<=k)/\k<w'.heap.size/\ob≠some k/\ob'≠some k) (.AN t 0 0 0 l'.length) u/\
   B5 (BV w' ob' fun k=>(I k\/w.heap.size<=k)/\k<w'.heap.size/\ob≠some k/\ob'≠some k) 0 (.arr 0 t l')
def env (P:Program):Env:=⟨EN P,FF P,Cy P,MZ P⟩
structure Ck (P:Program) (t:TypeId) (i:Info):Prop where
 info:i.known=true->∃ti z d,P.info? t=some ti/\ti.size=i.size/\ti.zero=some z/\(∀x,AR (Ah x) i.zero z.cells.toList)/\
  P.underlying t=some d/\d.isRow=i.agg/\(i.agg=false->i.size=1)
 kind:∀k,i.kind=some k->P.underlying t=some (.int k)
 isb:i.La=true->P.underlying t=some .bool
 sl:i.sl=true->P.underlying t=some (.slice i.CI)/\∃ei z,P.info? i.CI=some ei/\ei.size=i.elem.size/\ei.bytes=i.Du/\0<ei.bytes/\ei.zero=some z/\
  ∀x,AR (Ah x) (cells i.elem i.BW) z.cells.toList
 fields:i.known=true->i.fields≠[]->∃fs:Array Field,P.underlying t=some (.struct fs)/\i.fields.length=fs.size/\
  ∀(f fo n:Nat) (g:Bool),i.fields[f]? =some (fo,n,g)->∃fl d,fs[f]? =some fl/\fl.offset=fo/\(P.info? fl.type).map (·.size)=some n/\0<n/\P.underlying fl.type=some d/\d.isRow=g/\(g=false->n=1)
theorem T.beq_eq:∀{a b:T},T.beq a b=true->a=b
 |.u8,b,h|.u32,b,h|.u64,b,h|.i8,b,h|.i64,b,h|.bool,b,h=>by cases b <;> simp_all [T.beq]
 | .sl a,b,h=>by cases b <;> simp_all [T.beq];exact T.beq_eq h
 | .pr a c,b,h=>by cases b <;> simp_all [T.beq];exact⟨T.beq_eq h.1,T.beq_eq h.2⟩
section
variable {P:Program} {w:World}
theorem Uw {t:TypeId} {d:TypeDesc} (hu:P.underlying t=some d):(isAgg t).run P w= .ok d.isRow w:=by
 unfold isAgg;rw[Sem.run_bind,run_underlying hu w];cases d <;> simp
theorem dC {t:TypeId} {d:TypeDesc} {b o:Nat} {v:Value} (hu:P.underlying t=some d) (f:d.isRow=false) (c:w.cell? ⟨b,o,none⟩=some v):
  (Instr.loadAt t (.pointer (some ⟨b,o,none⟩))).run P w= .ok v w:=by
 simp only[Instr.loadAt,Instr.sureAddr,Sem.run_bind,Sem.run_pure,Result.andThen_ok,loadVar,Uw hu,f];simp[load,Sem.run,c]
theorem dD {t:TypeId} {f:TypeInfo} {b o:Nat} {v:Value} (h:P.info? t=some f) (d:v.cells.size=f.size) (ht:w.there b o f.size) (g:∀u∈v.cells.toList,u.oneCell'=true):
  (Instr.storeAt t (.pointer (some ⟨b,o,none⟩)) v).run P w= .ok () (w.setCells b o v.cells.toList):=by
 have:=run_storeCells_cells (P:=P) b o v.cells.toList 0 w (fun j c=>by simpa using (ht j (by simpa [d] using c)).1) (fun j c=>by simpa using (ht j (by simpa [d] using c)).2) g;simp only[Nat.add_zero] at this;simp[Instr.storeAt,Instr.sureAddr,storeVar,sizeOf,typeInfo,h,d,this]
end
theorem Tq {v:Value} (h:v.oneCell'=true):v.cells= #[v]:=by
 cases v <;> simp_all [Value.oneCell',Value.cells]
theorem Cz.cells {x:Cx} {av:AV} {v:Value} (h:Cz x av v) (b:av.full=true):AR (Ah x) av.cs v.cells.toList:=by
 cases av with
 | one c=>
  rcases h with rfl | h
  ·simp[AV.full] at b
  rw[Tq h.one];exact⟨h,trivial⟩
 | agg cs=>obtain⟨arr,rfl,h⟩:=h;exact h
 | AI _=>exact h.elim
theorem AR.one {x:Cx}:∀{cs:List AC} {vs:List Value},AR (Ah x) cs vs->∀v∈vs,v.oneCell'=true
 | [],[],_,_,b=>by simp at b
 | _::_,_::_,h,v,b=>by
  rcases List.mem_cons.1 b with rfl | b
  ·exact h.1.one
  exact AR.one h.2 v b
 |[],_::_,h,_,_|_::_,[],h,_,_=>h.elim
theorem cj {x:Cx} {a:AV} {v:Value} (h:Cz x a v):BB x a v:=by cases a <;> first | exact h | exact h.elim
theorem KB {x:Cx} {a:AV} {v:Value} (h:BB x a v) (ha:∀xs,a≠ .AI xs):Cz x a v:=by cases a <;> first | exact h | exact absurd rfl (ha _)
theorem B7 {x:Cx} {s:St} {a:Act} (h:∀i,BB x (nth s.sl i) (a.tmps.getD i undef)) (o:Operand):BB x (ev s.sl o) (a.eval o):=by
 cases o with
 | tmp t=>exact h t
 | func f=>exact Or.inr rfl
 | global g=>exact Or.inl rfl
 | const v=>
  show BB x (NS v) v
  unfold NS
  split <;> first | exact Or.inr rfl | exact Or.inl rfl
def valOf (g:Bool) (vs:List Value):Value:=
 match g with
 | true=> .agg vs.toArray
 | false=>vs.headD undef
theorem Ub {x:Cx} {g:Bool} {cs:List AC} {vs:List Value} (h:AR (Ah x) cs vs) (b:g=false->cs.length=1):
  BB x (Ca (g,cs)) (valOf g vs):=by
 cases g with
 | true=>exact⟨_,rfl,by simpa using h⟩
 | false=>
  have:=b rfl
  match cs,vs,h with
  | [c],[v],h=>exact Or.inr h.1
section
variable {P:Program} {E:Env} {TI:TypeId->Info} {w0:World} {X:WX} {β:Nat->Option Nat} {s:St} {a:Act} {w:World}
theorem Bj {o:Oper} {u:Value} {w':World} {N:Act->World->Prop} {Q:Exit->Act->World->Prop} (c:(execOp a.eval o).run P w= .ok (.value u) w') (b:N (a.put o.dst u) w'):o.wp P a w N Q:=by
 unfold Oper.wp;rw[c];exact b
theorem fP {o:Oper} {w':World} {N:Act->World->Prop} {Q:Exit->Act->World->Prop} (c:(execOp a.eval o).run P w= .ok .skip w') (b:N (a.put o.dst undef) w'):o.wp P a w N Q:=by
 unfold Oper.wp;rw[c];exact b
def Sound (P:Program) (E:Env) (TI:TypeId->Info) (o:Oper):Prop:=
 ∀{w0:World} {X:WX} {β:Nat->Option Nat} {s:St} {a:Act} {w:World},Av w0 X β s a w->∀{f:BG},Bp E TI o (BD o) (ev s.sl) (AF s.bk) (fun g=>g=f)->
  ∀{N:Act->World->Prop} {Q:Exit->Act->World->Prop},(∀β' a' w',Av w0 X β' (s.app o.dst f) a' w'->N a' w')->o.wp P a w N Q
theorem dr {o:Oper} {x:Operand} (b:o.op= .move x):Sound P E TI o:=by
 intro w0 X β s a w S f h N Q c;simp only[Bp,b] at h;subst h;exact Bj (u:=a.eval x) (w':=w) (by simp[execOp,b]) (c _ _ _ (S.val (B7 S.Bf x)))
theorem dZ {o:Oper} {x:Operand} (b:o.op= .assign x):Sound P E TI o:=by
 intro w0 X β s a w S f h N Q c;simp only[Bp,b] at h;subst h;exact Bj (u:=a.eval x) (w':=w) (by simp[execOp,b]) (c _ _ _ (S.val (B7 S.Bf x)))
theorem du {o:Oper} {c x y:Operand} (g:o.op= .pick c x y):Sound P E TI o:=by
 intro w0 X β s a w S f h N Q i;simp only[Bp,g] at h;have b:=B7 S.Bf c
 split at h
 ·rename_i he
  rw[he] at b;have d:a.eval c= .bool true:=by rcases b with b | b <;> simp_all [Ah]
  subst h;exact Bj (u:=a.eval x) (w':=w) (by simp[execOp,g,d,asBool]) (i _ _ _ (S.val (B7 S.Bf x)))
 ·rename_i he
  rw[he] at b;have d:a.eval c= .bool false:=by rcases b with b | b <;> simp_all [Ah]
  subst h;exact Bj (u:=a.eval y) (w':=w) (by simp[execOp,g,d,asBool]) (i _ _ _ (S.val (B7 S.Bf y)))
 exact h.elim
theorem BE {x:Cx} {c:AC} {v:Value} (h:BB x (.one c) v) (b:c≠ .BJ):Ah x c v:=(show c= .BJ\/Ah x c v from h).resolve_left b
theorem dt {o:Oper} {x:Operand} (i:o.op= .nilCheck x):Sound P E TI o:=by
 intro w0 X β s a w S f h N Q j;simp only[Bp,i] at h;have d:=B7 S.Bf x
 split at h
 ·rename_i id v off he
  split at h
  ·rename_i k
   subst h;have c:=d;rw[he] at d;obtain⟨b,_,hb⟩:=(BE d (by simp)).2 k.symm;exact Bj (u:=a.eval x) (w':=w) (by simp[execOp,i,hb]) (j _ _ _ (S.val c))
  exact h.elim
 ·rename_i g he
  subst h;have c:=d;rw[he] at d;have hb:a.eval x= .func (.func g) #[] #[]:=BE d (by simp);exact Bj (u:=a.eval x) (w':=w) (by simp[execOp,i,hb]) (j _ _ _ (S.val c))
 exact h.elim
theorem dg {o:Oper} {x:Operand} {i:Nat} (d:o.op= .extract x i):Sound P E TI o:=by
 intro w0 X β s a w S f h N Q j;simp only[Bp,d] at h;have g:=B7 S.Bf x
 split at h
 ·rename_i xs he
  rw[he] at g;obtain⟨arr,l,b⟩:=g
  split at h
  ·rename_i y m
   subst h;obtain⟨u,hu,k⟩:=b.get i y m;have c:arr[i]? =some u:=by simpa using hu
   exact Bj (u:=u) (w':=w) (by simp[execOp,d,l,Instr.extract,c]) (j _ _ _ (S.val (cj k)))
  exact h.elim
 exact h.elim
theorem MU {c:Int} (h:GW c):IntKind.i64.wrap c=c:=IntWalk.i64_in c ⟨h.1,by have:=h.2;omega⟩
theorem YT {op:BinOp} {k k':IntKind} {x y:Int} {c:AC} {t:TypeId} (n:k=k'\/op= .shl\/op= .shr) (h:arith op k x y (fun d=>d=c)):
  ∃u,(binOp op t (.int k x) (.int k' y)).run P w= .ok u w/\∀Γ,Ah Γ c u:=by
 have g:∀{p q:Int},0<=p->p.tdiv q=p/q:=fun h=>Int.tdiv_eq_ediv_of_nonneg h
 have i:∀{p q:Int},0<=p->p.tmod q=p%q:=fun h=>Int.tmod_eq_emod_of_nonneg h
 by_cases j:op= .shl\/op= .shr
 ·rcases j with rfl | rfl
  ·have h':=h _ rfl;obtain⟨b,rfl⟩:=h';have l:¬y<0:=by have:=b ();omega
   exact⟨_,by simp only[binOp,Op.shift,if_neg l];rfl,fun _=>rfl⟩
  have h':=h _ rfl;obtain⟨b,rfl⟩:=h';have l:¬y<0:=by have:=b ();omega
  exact⟨_,by simp only[binOp,Op.shift,if_neg l];rfl,fun _=>rfl⟩
 have n:k=k':=n.resolve_right j;subst n
 have hb:∀f,f≠ .shl->f≠ .shr->binOp f t (.int k x) (.int k y)=(match f with
  | .add | .sub | .mul=>Op.intArith f k x y | .quo | .rem=>Op.intDiv f k x y | .and | .or | .xor | .andNot=>Op.intBits f k x y | _=>Op.intCmp f x y):=by
  intro f b m;cases f <;> simp_all [binOp]
 rw[hb op (fun e=>j (.inl e)) (fun e=>j (.inr e))];cases op
 case shl=>exact absurd (.inl rfl) j
 case shr=>exact absurd (.inr rfl) j
 case eql=>obtain rfl:=h _ rfl;exact⟨_,rfl,fun _=>rfl⟩
 case neq=>obtain rfl:=h _ rfl;exact⟨_,rfl,fun _=>rfl⟩
 case lss=>obtain rfl:=h _ rfl;exact⟨_,rfl,fun _=>rfl⟩
 case leq=>obtain rfl:=h _ rfl;exact⟨_,rfl,fun _=>rfl⟩
 case gtr=>obtain rfl:=h _ rfl;exact⟨_,rfl,fun _=>rfl⟩
 case geq=>obtain rfl:=h _ rfl;exact⟨_,rfl,fun _=>rfl⟩
 case and=>obtain rfl:=h _ rfl;exact⟨_,rfl,fun _=>rfl⟩
 case or=>obtain rfl:=h _ rfl;exact⟨_,rfl,fun _=>rfl⟩
 case xor=>obtain rfl:=h _ rfl;exact⟨_,rfl,fun _=>rfl⟩
 case andNot=>obtain rfl:=h _ rfl;exact⟨_,rfl,fun _=>rfl⟩
 case add=>
  cases k
  case i64=>obtain⟨b,rfl⟩:=h _ rfl;exact⟨_,rfl,fun _=>by show _=_;rw[MU (b ())]⟩
  all_goals (obtain rfl:=h _ rfl;exact⟨_,rfl,fun _=>rfl⟩)
 case sub=>
  cases k
  case i64=>obtain⟨b,rfl⟩:=h _ rfl;exact⟨_,rfl,fun _=>by show _=_;rw[MU (b ())]⟩
  all_goals (obtain rfl:=h _ rfl;exact⟨_,rfl,fun _=>rfl⟩)
 case mul=>
  cases k
  case i64=>obtain⟨b,rfl⟩:=h _ rfl;exact⟨_,rfl,fun _=>by show _=_;rw[MU (b ())]⟩
  all_goals (obtain rfl:=h _ rfl;exact⟨_,rfl,fun _=>rfl⟩)
 case quo=>
  cases k
  case i64=>
   obtain⟨b,rfl⟩:=h _ rfl;obtain⟨b,m,h3⟩:=b ();exact⟨_,by simp only[Op.intDiv,if_neg (show ¬y=0 by omega)];rfl,fun _=>by show _=_;rw[g b,MU h3]⟩
  all_goals
   obtain⟨b,rfl⟩:=h _ rfl;obtain⟨b,m⟩:=b ();exact⟨_,by simp only[Op.intDiv,if_neg (show ¬y=0 by omega)];rfl,fun _=>by show _=_;rw[g b]⟩
 case rem=>
  cases k
  all_goals
   obtain⟨b,rfl⟩:=h _ rfl;obtain⟨b,m⟩:=b ();exact⟨_,by simp only[Op.intDiv,if_neg (show ¬y=0 by omega)];rfl,fun _=>by show _=_;rw[i b]⟩
theorem ZY (op:BinOp) (t:TypeId) (x y:Operand) (k k':IntKind) (m n:Int):(eqGuard op t x y (.int k m) (.int k' n)).run P w= .ok () w:=by
 unfold eqGuard;cases op <;> simp
end
section
variable {P:Program} {E:Env} {TI:TypeId->Info}
theorem da (G:∀t,Ck P t (TI t)) {o:Oper} {op:BinOp} {t M:TypeId} {x y:Operand} (z:o.op= .binOp op t x y M):Sound P E TI o:=by
 intro w0 X β s a w S f h N Q A;simp only[Bp,z] at h;have r:=B7 S.Bf x;have v:=B7 S.Bf y
 split at h
 ·rename_i k m k' n he g
  rw[he] at r;rw[g] at v;have i:a.eval x= .int k m:=BE r (by simp);have j:a.eval y= .int k' n:=BE v (by simp)
  split at h
  ·rename_i K
   obtain⟨c,B⟩:∃c,f=⟨.one c,[],[]⟩/\arith op k m n (fun d=>d=c):=by
    cases op <;> cases k <;> simp only[arith] at h ⊢ <;> first
     | (obtain⟨q,H⟩:=h _ rfl;exact⟨_,H.symm,fun _ e=>⟨by first | exact q | (rw[e];exact q),by rw[e]⟩⟩)
     | exact⟨_,(h _ rfl).symm,fun _ e=>by rw[e]⟩
   obtain⟨rfl,B⟩:=B;obtain⟨u,hu,F⟩:=YT (P:=P) (w:=w) (t:=t) K B;refine Bj (u:=u) (w':=w) ?_ (A _ _ _ (S.val (Or.inr (F _))));simp only[execOp,z,i,j,Sem.run_bind,ZY,Result.andThen_ok,hu,Sem.run_pure]
  exact h.elim
 ·rename_i m n he g
  rw[he] at r;rw[g] at v;have i:a.eval x= .bool m:=BE r (by simp);have j:a.eval y= .bool n:=BE v (by simp);obtain⟨q,h⟩:=h;have hu:=(G t).isb q
  have D:(Op.equal t (.bool m) (.bool n)).run P w= .ok (m==n) w:=by
   have J:∀d,(Op.equalIn (d+1) t (.bool m) (.bool n)).run P w= .ok (m==n) w:=fun d=>by
    unfold Op.equalIn;simp[run_underlying hu]
   exact J 9999
  have C:∀op:BinOp,(eqGuard op t x y (.bool m) (.bool n)).run P w= .ok () w:=by
   intro op;unfold eqGuard;cases op <;> simp
  cases op <;> simp only at h
  all_goals first
   | exact h.elim
   | (obtain rfl:=h _ rfl
      refine Bj (w':=w) ?_ (A _ _ _ (S.val (Or.inr rfl)));simp[execOp,z,i,j,Sem.run_bind,C,binOp,D,bne])
 ·rename_i ty l he g
  rw[he] at r;rw[g] at v;have F:=BE r (by simp);have j:a.eval y= .slice none 0 0:=BE v (by simp);obtain⟨q,h⟩:=h;obtain⟨base,cap,L,_,_,p⟩:=F;have i:a.eval x= .slice base l.length cap:=by simpa using L
  obtain⟨hu,_⟩:=(G t).sl q;have D:(Op.equal t (.slice base l.length cap) (.slice none 0 0)).run P w= .ok base.isNone w:=run_equal_slice_nil w t _ base l.length cap hu
  have C:∀op:BinOp,(eqGuard op t x y (.slice base l.length cap) (.slice none 0 0)).run P w= .ok () w:=by
   intro op;unfold eqGuard;cases op <;> simp
  cases op <;> simp only at h
  all_goals first
   | exact h.elim
   | (obtain rfl:=h _ rfl
      refine Bj (u:= .bool base.isNone) (w':=w) ?_ (A _ _ _ (S.val (Or.inr ⟨_,rfl,fun hb=>?_⟩)))
      ·simp[execOp,z,i,j,Sem.run_bind,C,binOp,D]
      rcases p with rfl |⟨b,off,rfl,_⟩
      ·rfl
      simp at hb)
 exact h.elim
theorem dx {o:Oper} {op:UnOp} {t:TypeId} {x:Operand} (g:o.op= .unOp op t x):Sound P E TI o:=by
 intro w0 X β s a w S f h N Q j;simp only[Bp,g] at h;have d:=B7 S.Bf x
 split at h
 ·rename_i b he
  rw[he] at d;have c:a.eval x= .bool b:=BE d (by simp);obtain rfl:=(h _ rfl);exact Bj (u:= .bool (!b)) (w':=w) (by simp[execOp,g,c,Op.unary]) (j _ _ _ (S.val (Or.inr rfl)))
 ·rename_i k n he
  rw[he] at d;have c:a.eval x= .int k n:=BE d (by simp);obtain rfl:=h _ rfl;have i:(Op.intArith .sub k 0 n).run P w= .ok (.int k (k.wrap (0-n))) w:=rfl;exact Bj (u:= .int k (k.wrap (0-n))) (w':=w) (by simp[execOp,g,c,Op.unary,i]) (j _ _ _ (S.val (Or.inr rfl)))
 exact h.elim
theorem df (g:∀t,Ck P t (TI t)) {o:Oper} {src dst:TypeId} {x:Operand} (i:o.op= .convert src dst x):Sound P E TI o:=by
 intro w0 X β s a w S f h N Q l;simp only[Bp,i] at h;obtain⟨p,h⟩:=h;have j:=B7 S.Bf x
 split at h
 ·rename_i k k' n m he
  rw[he] at j;have c:a.eval x= .int k' n:=BE j (by simp);obtain rfl:=h _ rfl;obtain⟨_,_,d,_,_,_,_,hu,_⟩:=(g src).info p;have b:=(g dst).kind k m;refine Bj (u:= .int k (k.wrap n)) (w':=w) ?_ (l _ _ _ (S.val (Or.inr rfl)));simp[execOp,i,c,convert,run_underlying hu,run_underlying b,Conv.intToInt]
 exact h.elim
theorem dh (M:∀t,Ck P t (TI t)) {o:Oper} {t:TypeId} {x:Operand} {i:Nat} (A:o.op= .field t x i):Sound P E TI o:=by
 intro w0 X β s a w S f h N Q L;simp only[Bp,A] at h;obtain⟨O,h⟩:=h;have B:=B7 S.Bf x
 split at h
 ·rename_i b n g cs y he
  split at h
  ·rename_i z
   subst h;rw[he] at B;obtain⟨arr,T,k⟩:=B;obtain⟨fs,hu,hlen,l⟩:=(M t).fields O (by intro e;simp[e] at y);obtain⟨q,d,D,F,h3,V,G,H,v⟩:=l i b n g y;have c:AR (Ah (cx X w β (AF s.bk))) (EZ cs b n) ((arr.toList.drop b).take n):=by rw[Iy];exact (k.drop b).take n
   have m:((arr.toList.drop b).take n).length=n:=by rw[<-c.length,z]
   refine Bj (u:=valOf g ((arr.toList.drop b).take n)) (w':=w) ?_
    (L _ _ _ (S.val (Ub c (fun e=>by rw[z];exact v e))))
   have j:(part q.type arr b).run P w= .ok (valOf g ((arr.toList.drop b).take n)) w:=by
    unfold part;rw[Sem.run_bind,Uw G,Result.andThen_ok,H];cases g with
    | true=>
     cases p:P.info? q.type with
     | none=>simp[p] at h3
     | some U=>
      have R:U.size=n:=by simpa [p] using h3
      have C:arr.extract b (b+n)=((arr.toList.drop b).take n).toArray:=by
       apply Array.ext';simp only[Array.toList_extract,List.extract_eq_take_drop];rw[show b+n-b=n by omega]
      simp[sizeOf,typeInfo,p,R,C,valOf]
    | false=>
     have:=v rfl;subst this;have J:arr.toList.drop b≠[]:=by intro e;simp[e] at m
     obtain⟨u,r,e⟩:=List.exists_cons_of_ne_nil J
     have K:arr[b]? =some u:=by
      have:=congrArg (·[0]?) e;simpa using this
     simp[K,e,valOf]
   simp[execOp,A,T,Instr.field,run_underlying hu,D,asAgg,F,j]
  exact h.elim
 exact h.elim
theorem Zd {c:Field} {b off n:Nat} {w:World} (h3:(P.info? c.type).map (·.size)=some n) (g:0<n):(fieldPlace ⟨b,off,none⟩ c).run P w= .ok ⟨b,off+c.offset,none⟩ w:=by
 cases d:P.info? c.type with
 | none=>simp[d] at h3
 | some f=>
  have h:f.size=n:=by simpa [d] using h3
  have:¬f.size=0:=by omega
  simp[fieldPlace,sizeOf,typeInfo,d,this,Addr.add_mid]
theorem di (H:∀t,Ck P t (TI t)) {o:Oper} {t:TypeId} {x:Operand} {i:Nat} (F:o.op= .fieldAddr t x i):Sound P E TI o:=by
 intro w0 X β s a w S f h N Q C;simp only[Bp,F] at h;obtain⟨J,h⟩:=h;have m:=B7 S.Bf x
 have go:∀(c n:Nat) (g:Bool) (b off:Nat),(TI t).fields[i]? =some (c,n,g)->a.eval x= .pointer (some ⟨b,off,none⟩)->(execOp a.eval o).run P w= .ok (.value (.pointer (some ⟨b,off+c,none⟩))) w:=by
  intro c n g b off l z;obtain⟨fs,hu,hlen,D⟩:=(H t).fields J (by intro e;simp[e] at l);obtain⟨K,d,A,B,h3,G,L,M,O⟩:=D i c n g l;subst B;simp[execOp,F,z,Instr.fieldAt,run_underlying hu,A,Instr.sureAddr,Zd h3 G]
 split at h
 ·rename_i c n g id v off l he
  split at h
  ·rename_i z
   subst h;rw[he] at m;have r:=BE m (by simp);obtain⟨b,hb,p⟩:=r.2 z.symm;exact Bj (go c n g b off l p) (C _ _ _ (S.val (Or.inr ⟨⟨rfl,r.1.2⟩,fun _=>⟨b,hb,rfl⟩⟩)))
  exact h.elim
 ·rename_i c n g u y off l he
  subst h;rw[he] at m;obtain⟨b,q,us,p,A,B,h3⟩:=BE m (by simp);exact Bj (go c n g b (q+off) l p) (C _ _ _ (S.val (Or.inr ⟨b,q,us,by rw[Nat.add_assoc],A,B,h3⟩)))
 ·rename_i c n g u id v j k l he
  split at h
  ·rename_i z
   subst h;rw[he] at m;have r:=BE m (by simp);obtain⟨b,hb,p⟩:=r.2 z.symm;exact Bj (go c n g b _ l p) (C _ _ _ (S.val (Or.inr ⟨⟨rfl,r.1.2⟩,fun _=>⟨b,hb,by rw[Nat.add_assoc]⟩⟩)))
  exact h.elim
 exact h.elim
end
section
variable {P:Program} {E:Env} {TI:TypeId->Info}
theorem UQ {w:World} {b off n:Nat} {arr:Array Value} {e:TypeId} (h:w.heap[b]? =some (.cells arr e (0,0))):w.rangeAt b off ((arr.toList.drop off).take n):=by
 intro j v c
 have:arr[off+j]? =some v:=by
  rw[List.getElem?_take] at c
  split at c
  ·simpa using c
  cases c
 simp[World.cell?,h,this]
theorem UR {w:World} {b o off n:Nat} {us:List Value} (h:w.rangeAt b o us):w.rangeAt b (o+off) ((us.drop off).take n):=by
 intro j v c;rw[Nat.add_assoc];refine h (off+j) v ?_;rw[List.getElem?_take] at c
 split at c
 ·simpa using c
 cases c
theorem run_load {t:TypeId} {i:Info} {w:World} {b o:Nat} {us:List Value} (p:Ck P t i) (q:i.known=true) (j:w.rangeAt b o us) (f:us.length=i.size):
  (Instr.loadAt t (.pointer (some ⟨b,o,none⟩))).run P w= .ok (valOf i.agg us) w:=by
 obtain⟨v,z,d,k,l,h3,r,g,h,m⟩:=p.info q;cases c:i.agg with
 | true=>exact run_loadAt_mid w b o t us d j g (h.trans c) (by simp[k,l,f])
 | false=>
  have n:=m c;rw[n] at f
  match us,f with
  | [u],_=>exact dC g (h.trans c) (show w.cell? ⟨b,o,none⟩=some u by simpa using j 0 u (by simp))
theorem dk (F:∀t,Ck P t (TI t)) {o:Oper} {t:TypeId} {x:Operand} (H:o.op= .load t x):Sound P E TI o:=by
 intro w0 X β s a w S f h N Q K;simp only[Bp,H,JY] at h;obtain⟨G,h⟩:=h;have p:=B7 S.Bf x;have C:(TI t).agg=false->(TI t).size=1:=by obtain⟨_,_,_,_,_,_,_,_,_,J⟩:=(F t).info G;exact J
 have go:∀(b q:Nat) (cs:List AC) (us:List Value),a.eval x= .pointer (some ⟨b,q,none⟩)->w.rangeAt b q us->AR (Ah (cx X w β (AF s.bk))) cs us->cs.length=(TI t).size->
   ∀rd,f=⟨Ca ((TI t).agg,cs),[],rd⟩->o.wp P a w N Q:=by
  intro b q cs us g A d m rd L;subst L;have:=run_load (F t) G A (d.length ▸ m);exact Bj (u:=valOf (TI t).agg us) (w':=w) (by simp[execOp,H,g,this]) (K _ _ _ (S.val (Ub d (fun e=>by rw[m];exact C e))))
 split at h
 ·rename_i id v off he
  rw[he] at p;have A:=BE p (by simp)
  split at h
  ·rename_i O cs hb
   split at h
   ·rename_i z
    obtain⟨b,arr,e,j,r,h3⟩:=S.blocks id _ hb;have D:v=AO (AF s.bk) id:=by unfold AO;rw[hb];exact z.1.symm
    obtain⟨b',c,g⟩:=A.2 D;obtain rfl:b=b':=Option.some.inj (j.symm.trans c);refine go b off _ _ g (UQ r (n:=(TI t).size)) ?_ z.2 _ h.symm;rw[Iy];exact (h3.drop off).take _
   exact h.elim
  exact h.elim
 ·rename_i u y off he
  rw[he] at p;obtain⟨b,q,us,g,j,r,h3⟩:=BE p (by simp)
  split at h
  ·rename_i m
   refine go b (q+off) _ _ g (UR h3 (n:=(TI t).size)) ?_ m _ h.symm;rw[Iy];exact (((F7 _ u y us).1 r).drop off).take _
  exact h.elim
 ·rename_i u id v i k he
  rw[he] at p;have A:=BE p (by simp)
  split at h
  ·rename_i O R l hb
   split at h
   ·rename_i z
    obtain rfl:=T.beq_eq z.2;obtain⟨y,M,h⟩:=h;have D:v=AO (AF s.bk) id:=by unfold AO;rw[hb];exact z.1.symm
    obtain⟨b',c,g⟩:=A.2 D;have B:=S.blocks id _ hb;rcases B with⟨j,r⟩ |⟨b,arr,e,j,r,h3⟩
    ·exact absurd (j.symm.trans c) (by simp)
    obtain rfl:b=b':=Option.some.inj (j.symm.trans c);obtain⟨us,hu,ha⟩:=h3 i y (M ())
    split at h
    ·rename_i m
     refine go b (i*u.size+k) _ _ g (UR ha (n:=(TI t).size)) ?_ m _ h.symm;rw[Iy];exact (((F7 _ u y us).1 hu).drop k).take _
    exact h.elim
   exact h.elim
  exact h.elim
 exact h.elim
theorem Av.new {w0:World} {X:WX} {β:Nat->Option Nat} {s:St} {a:Act} {w:World} (S:Av w0 X β s a w) {dst d:Nat} (z:dst=d) {av:AV} {Az:AK} {rd:List Nat} {u:Value} {w':World} {arr:Array Value} {e:TypeId}
  (hw:w'.heap=w.heap.push (.cells arr e (0,0))) (l:w'.os=w.os) (f:w'.tape=w.tape) (g:w'.output=w.output)
  (m:Az.AO=AO (AF s.bk) d+1) (p:Az.short)
  (x:∀y:Cx,(cx X w β (AF s.bk)).le y->y.w=w'->y.β d=some w.heap.size->B5 y d Az)
  (C:∀y:Cx,(cx X w β (AF s.bk)).le y->y.w=w'->y.β d=some w.heap.size->y.cv d=AO (AF s.bk) d+1->BB y av u):
  ∃β',Av w0 X β' (s.app (some dst) ⟨av,[(d,Az)],rd⟩) (a.put (some dst) u) w':=by
 subst z;have c:∀b,b<w.heap.size->w'.heap[b]? =w.heap[b]? :=fun b hb=>by rw[hw,Array.getElem?_push,if_neg (by omega)]
 have n:∀b o,w.heap[b]? =some o->b<w.heap.size:=fun b o h=>by
  rcases Nat.lt_or_ge b w.heap.size with h' | h'
  ·exact h'
  simp[Array.getElem?_eq_none h'] at h
 by_cases j:dst<s.bk.length
 ·refine⟨fun k=>if k=dst then some w.heap.size else β k,S.write j p (fun k A=>by simp[A]) (by omega) (fun e=>absurd e (by omega)) (fun b hb _=>c b hb) (by rw[hw];simp)
   (fun b i e' q=>⟨i,(c b (n b _ q)).trans q,rfl⟩) l f g (fun _ b hb=> .inr ?_) (fun hle=>?_) (fun hle=>?_)⟩
  ·simp at hb;omega
  ·exact x _ hle rfl (by show (if dst=dst then _ else _)=_;simp)
  exact C _ hle rfl (by show (if dst=dst then _ else _)=_;simp) (by show AO _ dst=_;rw[EC _ _ _ j,if_pos rfl,m])
 have r:s.bk.length<=dst:=by omega
 have v:s.sl.length<=dst:=by have:=S.len;have:=S.F2;omega
 refine⟨β,?_⟩
 have B:s.app (some dst) ⟨av,[(dst,Az)],rd⟩=s.app none ⟨.one .BJ,[],rd⟩:=by
  simp[St.app,EX,CD,Ff _ _ _ r,Ff _ _ _ v]
 have ha:a.put (some dst) u=a.put none undef:=by
  have:a.tmps.size<=dst:=by have:=S.len;omega
  simp[Act.put,Array.setIfInBounds_eq_of_size_le this]
 rw[B,ha];exact S.ext c (by rw[hw];simp) l f g (HD _ _)
theorem Uy {w:World} (t:TypeId) (v:Value):(newVar t v).run P w= .ok ⟨w.heap.size,0,none⟩ {w with heap:=w.heap.push (.cells v.cells t (0,0))}:=by
 simp[newVar,newRow,newObj,Sem.run]
theorem dY (n:∀t,Ck P t (TI t)) {o:Oper} {t:TypeId} (j:o.op= .alloc t) (p:o.dst≠none):Sound P E TI o:=by
 intro w0 X β s a w S f h N Q i;simp only[Bp,j] at h;obtain⟨r,h⟩:=h;subst h;obtain⟨D,z,d,l,v,h3,m,x,A,B⟩:=(n t).info r
 have b:(execOp a.eval o).run P w= .ok (.value (.pointer (some ⟨w.heap.size,0,none⟩))) {w with heap:=w.heap.push (.cells z.cells t (0,0))}:=by
  simp[execOp,j,Instr.alloc,zeroValue,typeInfo,l,h3,Uy]
 obtain⟨q,g⟩:=Option.ne_none_iff_exists'.1 p;have c:BD o=q:=by simp[BD,g]
 rw[c,g] at i
 obtain⟨β',k⟩:=S.new (dst:=q) (d:=q) rfl (av:= .one (.Ak q (AO (AF s.bk) q+1) 0)) (Az:= .var (AO (AF s.bk) q+1) (TI t).zero) (rd:=[q]) (u:= .pointer (some ⟨w.heap.size,0,none⟩))
  (w':={w with heap:=w.heap.push (.cells z.cells t (0,0))}) (arr:=z.cells) (e:=t) rfl rfl rfl rfl rfl trivial
  (fun y _ hw hb=>⟨_,z.cells,t,hb,by rw[hw];simp,m y⟩) (fun y _ _ hb C=>Or.inr ⟨⟨rfl,by omega⟩,fun _=>⟨_,hb,rfl⟩⟩)
 exact Bj b (by rw[g];exact i _ _ _ k)
theorem db {o:Oper} {t:TypeId} {x:Operand} (p:o.op= .box t x) (v:o.dst≠none):Sound P E TI o:=by
 intro w0 X β s a w S f h N Q m;simp only[Bp,p] at h;have z:=B7 S.Bf x
 have b:(ev s.sl x).full=true/\f=⟨.one (.Ak (BD o) (AO (AF s.bk) (BD o)+1) 0),[(BD o,.var (AO (AF s.bk) (BD o)+1) (ev s.sl x).cs)],[BD o]⟩:=by
  split at h
  ·exact h.elim
  ·exact h.elim
  rename_i A B
  refine⟨?_,h.symm⟩;cases C:ev s.sl x with
  | one c=>cases c <;> simp_all [AV.full]
  | agg cs=>rfl
  | AI xs=>simp_all
 obtain⟨j,rfl⟩:=b;have k:∀xs,ev s.sl x≠ .AI xs:=fun xs e=>by rw[e] at j;simp[AV.full] at j
 have n:=(KB z k).cells j
 have g:(execOp a.eval o).run P w= .ok (.value (.pointer (some ⟨w.heap.size,0,none⟩))) {w with heap:=w.heap.push (.cells (a.eval x).cells t (0,0))}:=by
  simp[execOp,p,Instr.box,Uy]
 obtain⟨q,l⟩:=Option.ne_none_iff_exists'.1 v;have i:BD o=q:=by simp[BD,l]
 rw[i,l] at m
 obtain⟨β',r⟩:=S.new (dst:=q) (d:=q) rfl (av:= .one (.Ak q (AO (AF s.bk) q+1) 0)) (Az:= .var (AO (AF s.bk) q+1) (ev s.sl x).cs) (rd:=[q]) (u:= .pointer (some ⟨w.heap.size,0,none⟩))
  (w':={w with heap:=w.heap.push (.cells (a.eval x).cells t (0,0))}) (arr:=(a.eval x).cells) (e:=t) rfl rfl rfl rfl rfl trivial
  (fun y hle hw hb=>⟨_,_,t,hb,by rw[hw];simp,n.mono fun _ _=>Ah.mono hle⟩) (fun y _ _ hb n=>Or.inr ⟨⟨rfl,by omega⟩,fun _=>⟨_,hb,rfl⟩⟩)
 exact Bj g (by rw[l];exact m _ _ _ r)
end
theorem Of {α:Type} (l:List α) (o:Nat):Cd l o []=l:=by
 induction l generalizing o with
 | nil=>cases o <;> rfl
 | cons c l b=>cases o with
  | zero=>rfl
  | succ o=>simp[Cd,b]
theorem Og {α:Type}:∀(l:List α) (o:Nat) (v:α) (r:List α),Cd (l.set o v) (o+1) r=Cd l o (v::r)
 |[],0,_,_|[],_+1,_,_=>rfl
 | c::l,0,v,r=>by simp[Cd]
 | c::l,o+1,v,r=>by simp[Cd,Og l o v r]
theorem AR.Cd {α γ:Type} {R:α->γ->Prop}:∀{l:List α} {m:List γ} (o:Nat) {xs:List α} {ys:List γ},AR R l m->AR R xs ys->AR R (Cd l o xs) (Cd m o ys)
 |[],[],0,[],[],_,_|[],[],0,_::_,_::_,_,_|[],[],_+1,_,_,_,_=>trivial
 | _::_,_::_,0,[],[],h,_=>h
 | _::_,_::_,0,_::_,_::_,h,h'=>⟨h'.1,AR.Cd 0 h.2 h'.2⟩
 | _::_,_::_,o+1,_,_,h,h'=>⟨h.1,AR.Cd o h.2 h'⟩
 |[],_::_,_,_,_,h,_|_::_,[],_,_,_,h,_=>h.elim
 |_,_,0,[],_::_,_,h'|_,_,0,_::_,[],_,h'=>h'.elim
theorem FD (b:Nat):∀(vs:List Value) (o:Nat) (w:World) (arr:Array Value) (e:TypeId),w.heap[b]? =some (.cells arr e (0,0))->
  ∃c,(w.setCells b o vs).heap[b]? =some (.cells c e (0,0))/\c.toList=Cd arr.toList o vs/\c.size=arr.size
 | [],o,w,arr,e,h=>⟨arr,h,(Of _ _).symm,rfl⟩
 | v::r,o,w,arr,e,h=>by
  have d:(w.setCell ⟨b,o,none⟩ v).heap[b]? =some (.cells (arr.setIfInBounds o v) e (0,0)):=by
   simp[World.setCell,Array.getElem?_modify,h]
  obtain⟨c,f,h3,g⟩:=FD b r (o+1) _ _ e d;exact⟨c,f,by rw[h3,Array.toList_setIfInBounds,Og],by simpa using g⟩
theorem F8 (b:Nat):∀(vs:List Value) (o:Nat) (w:World) (k:Nat),k≠b->(w.setCells b o vs).heap[k]? =w.heap[k]?
 | [],_,_,_,_=>rfl
 | v::r,o,w,k,h=>by
  rw[World.setCells,F8 b r (o+1) _ k h];simp[World.setCell,Array.getElem?_modify,Ne.symm h]
theorem HF (b:Nat):∀(vs:List Value) (o:Nat) (w:World),(w.setCells b o vs).os=w.os/\(w.setCells b o vs).tape=w.tape/\(w.setCells b o vs).output=w.output/\(w.setCells b o vs).heap.size=w.heap.size
 | [],_,_=>⟨rfl,rfl,rfl,rfl⟩
 | v::r,o,w=>by
  obtain⟨c,d,h3,f⟩:=HF b r (o+1) (w.setCell ⟨b,o,none⟩ v);exact⟨c,d,h3,f.trans (by simp[World.setCell])⟩
theorem KM {w:World} {b off n:Nat} {arr:Array Value} {e:TypeId} (h:w.heap[b]? =some (.cells arr e (0,0))) (d:off+n<=arr.size):w.there b off n:=by
 intro j c;have:off+j<arr.size:=by omega
 simp[World.cell?,World.frozen?,h,this]
section
variable {P:Program} {E:Env} {TI:TypeId->Info}
theorem Ld {x:Cx}:∀{c d:AC} {v:Value},Ar c d->Ah x c v->Ah x d v
 |.int _ _,_,_,h,r|.bool _,_,_,h,r|.fn _,_,_,h,r|.sl _ _,_,_,h,r=>by rw[show _=_ from h];exact r
 | .nil,_,_,h,r=>by
  rcases h with rfl |⟨t,rfl⟩
  ·exact r
  rw[show _=_ from r];exact⟨none,0,rfl,Nat.le_refl _,by simp,.inl rfl⟩
 |.BJ,_,_,h,_|.AN _ _ _ _ _,_,_,h,_|.CU _ _ _ _ _,_,_,h,_|.Ak _ _ _,_,_,h,_|.B8 _ _ _ _ _,_,_,h,_|.Cc _ _ _,_,_,h,_|.ub _,_,_,h,_|.own _ _ _,_,_,h,_=>h.elim
theorem Ks {x:Cx} {R:AC->AC->Prop} (hR:∀c d v,R c d->Ah x c v->Ah x d v):∀{l m:List AC} {vs:List Value},Aj R l m->AR (Ah x) l vs->AR (Ah x) m vs
 | [],[],[],_,_=>trivial
 | _::_,_::_,_::_,h,r=>⟨hR _ _ _ h.1 r.1,Ks hR h.2 r.2⟩
 |[],_::_,_,h,_|_::_,[],_,h,_=>h.elim
 |[],[],_::_,_,r|_::_,_::_,[],_,r=>r.elim
theorem DW {bk:Nat->Option AK} {id:Nat} {b:AK} (h:bk id=some b):AO bk id=b.AO:=by unfold AO;rw[h]
theorem dw (hT:∀t,Ck P t (TI t)) {o:Oper} {t:TypeId} {p x:Operand} (ho:o.op= .store t p x):Sound P E TI o:=by
 intro w0 X β s a w S f h N Q hN;simp only[Bp,ho] at h;obtain⟨hk,h⟩:=h;have hp:=B7 S.Bf p;have hx:=B7 S.Bf x;obtain⟨ti,z,d,h1,h2,h3,h4,h5,h6,h7⟩:=(hT t).info hk
 have go:∀(id b q:Nat) (arr:Array Value) (e:TypeId) (Az:AK) (ys:List AC),a.eval p= .pointer (some ⟨b,q,none⟩)->id<s.bk.length->live (AF s.bk) id->β id=some b->w.heap[b]? =some (.cells arr e (0,0))->
   AR (Ah (cx X w β (AF s.bk))) ys (a.eval x).cells.toList->ys.length=(TI t).size->q+(TI t).size<=arr.size->Az.AO=AO (AF s.bk) id->Az.short->
   (∀y:Cx,(cx X w β (AF s.bk)).le y->y.w=w.setCells b q (a.eval x).cells.toList->y.β id=some b->B5 y id Az)->∀rd,f=⟨.one .BJ,[(id,Az)],rd⟩->o.wp P a w N Q:=by
  intro id b q arr e Az ys D a6 hl hb hh A hlen hq an ai hB rd hf;subst hf;have M:(a.eval x).cells.size=ti.size:=by have:=A.length;simp only[Array.length_toList] at this;omega
  have a1:=dD (P:=P) (t:=t) (b:=b) (o:=q) (v:=a.eval x) h1 M (KM hh (by omega)) (A.one);obtain⟨c1,c2,c3,c4⟩:=HF b (a.eval x).cells.toList q w;refine fP (w':=w.setCells b q (a.eval x).cells.toList) (by simp[execOp,ho,D,a1]) (hN β _ _ ?_);refine S.write a6 ai (fun _ _=>rfl) (by omega) (fun _=>⟨rfl,fun _=>hl⟩) (fun k _ hk=>F8 b _ _ _ k (fun e=>hk hl (e ▸ hb))) (by omega) (fun k r e' Y=>?_) c1 c2 c3 (fun _ k ad=> .inl ⟨ad,hl⟩) (fun hle=>hB _ hle rfl hb) (fun _=>HD _ _)
  by_cases e1:k=b
  ·subst e1;obtain⟨V,g1,g2,H⟩:=FD k (a.eval x).cells.toList q w r e' Y;exact⟨V,g1,H⟩
  exact⟨r,(F8 b _ _ _ k e1).trans Y,rfl⟩
 have C:∀{id:Nat} {b:AK},AF s.bk id=some b->id<s.bk.length:=fun {id b} hb=>by
  rcases Nat.lt_or_ge id s.bk.length with h | h
  ·exact h
  rw[F3 _ _ h] at hb;cases hb
 split at h
 ·rename_i id v off he
  rw[he] at hp;have hr:=BE hp (by simp)
  split at h
  ·exact h.elim
  ·exact h.elim
  ·rename_i v' cs a8 aa ab
   have hb:AF s.bk id=some (.var v' cs):=by assumption
   split at h
   ·rename_i hc
    obtain⟨U,hlen,al⟩:=hc;subst U
    have g:(ev s.sl x).full=true:=by
     cases R:ev s.sl x with
     | one c=>cases c <;> simp_all [AV.full]
     | agg cs=>rfl
     | AI xs=>simp_all
    have L:∀xs,ev s.sl x≠ .AI xs:=fun xs e=>by rw[e] at g;simp[AV.full] at g
    have A:=(KB hx L).cells g;obtain⟨b,arr,e,g1,g2,H⟩:=S.blocks id _ hb;have R:v'=AO (AF s.bk) id:=(DW hb).symm;obtain⟨b',F,D⟩:=hr.2 R;obtain rfl:b=b':=Option.some.inj (g1.symm.trans F);have a2:=H.length;simp only[Array.length_toList] at a2;refine go id b off arr e _ _ D (C hb) ⟨_,hb,rfl⟩ g1 g2 A hlen (by omega) (by simpa [AK.AO] using R) (by trivial) (fun y hle hw J=>?_) _ h.symm;obtain⟨r,q1,q2,q3⟩:=FD b (a.eval x).cells.toList off w arr e g2;refine⟨b,r,e,J,by rw[hw];exact q1,?_⟩;rw[q2];exact ((H.mono fun _ _=>Ah.mono hle).Cd off (A.mono fun _ _=>Ah.mono hle))
   exact h.elim
  exact h.elim
 ·rename_i u id v i k he
  rw[he] at hp;have hr:=BE hp (by simp)
  split at h
  ·exact h.elim
  ·exact h.elim
  ·rename_i v' u' l a8 aa ab
   have hb:AF s.bk id=some (.arr v' u' l):=by assumption
   split at h
   ·rename_i hc
    obtain⟨U,ae,M,aj⟩:=hc;subst U ae;obtain rfl:=T.beq_eq aj;obtain⟨z',hz,h⟩:=h;obtain⟨hi,W⟩:=hz ()
    have g:(ev s.sl x).full=true:=by
     cases R:ev s.sl x with
     | one c=>cases c <;> simp_all [AV.full]
     | agg cs=>rfl
     | AI xs=>simp_all
    have L:∀xs,ev s.sl x≠ .AI xs:=fun xs e=>by rw[e] at g;simp[AV.full] at g
    have A:=Ks (fun _ _ _=>Ld) W ((KB hx L).cells g);have R:v'=AO (AF s.bk) id:=(DW hb).symm;obtain⟨b',F,D⟩:=hr.2 R;have ah:=S.blocks id _ hb;rcases ah with⟨g1,g2⟩ |⟨b,arr,e,g1,g2,H⟩
    ·exact absurd (g1.symm.trans F) (by simp)
    obtain rfl:b=b':=Option.some.inj (g1.symm.trans F);have hn:=T.size_pos u
    have af:i*u.size+u.size<=arr.size:=by
     obtain⟨us,G,O⟩:=H i l[i] (by simp[hi]);have ak:=HE _ _ _ G;have ag:u.size-1<us.length:=by omega
     have:=O (u.size-1) us[u.size-1] (by simp[ag]);simp only[World.cell?,g2] at this
     have B:i*u.size+(u.size-1)<arr.size:=by
      rcases Nat.lt_or_ge (i*u.size+(u.size-1)) arr.size with B | B
      ·exact B
      simp[Array.getElem?_eq_none B] at this
     omega
    refine go id b (i*u.size) arr e _ _ D (C hb) ⟨_,hb,rfl⟩ g1 g2 A (by rw[E6];exact M.symm) (by omega) (by simpa [AK.AO] using R) (by have:=S.lens id _ hb;simpa [AK.short] using this) (fun y hle hw J=>?_) _ (h _ rfl).symm;refine Or.inr ?_;obtain⟨r,q1,q2,q3⟩:=FD b (a.eval x).cells.toList (i*u.size) w arr e g2;refine⟨b,r,e,J,by rw[hw];exact q1,fun j y' hj=>?_⟩;have a5:(a.eval x).cells.toList.length=u.size:=by rw[<-A.length,E6]
    by_cases Z:j=i
    ·subst Z;have:y'=z':=by simp[List.getElem?_set,hi] at hj;exact hj.symm
     subst this;refine⟨(a.eval x).cells.toList,((F7 _ u y' _).2 (A.mono fun _ _=>Ah.mono hle)),fun m v hm=>?_⟩;rw[hw]
     have K:m<(a.eval x).cells.toList.length:=by
      rcases Nat.lt_or_ge m (a.eval x).cells.toList.length with B | B
      ·exact B
      simp[List.getElem?_eq_none B] at hm
     rw[World.cell?_setCells_in b _ (j*u.size) w (fun m hm=>(KM g2 (n:=u.size) (by omega) m (by omega)).1) m K];simp[List.getElem?_eq_getElem K] at hm;simpa using hm
    have a7:l[j]? =some y':=by simpa [List.getElem?_set,Ne.symm Z] using hj
    obtain⟨us,G,O⟩:=H j y' a7;refine⟨us,B3 hle.I u y' us G,fun m v hm=>?_⟩;have ak:=HE _ _ _ G
    have K:m<us.length:=by
     rcases Nat.lt_or_ge m us.length with B | B
     ·exact B
     simp[List.getElem?_eq_none B] at hm
    rw[hw,World.cell?_setCells_out b _ (i*u.size) w _ (fun _ _=>?_)]
    ·exact O m v hm
    show j*u.size+m<i*u.size\/i*u.size+_<=j*u.size+m
    rw[a5];rcases Nat.lt_or_ge j i with B | B
    ·left
     have:(j+1)*u.size<=i*u.size:=Nat.mul_le_mul_right _ B;rw[Nat.add_mul] at this;omega
    right
    have:(i+1)*u.size<=j*u.size:=Nat.mul_le_mul_right _ (by omega);rw[Nat.add_mul] at this;omega
   exact h.elim
  exact h.elim
 exact h.elim
end
section
variable {P:Program} {E:Env} {TI:TypeId->Info}
theorem VJ {w:World} {t:TypeId} {b:TypeInfo} (h:P.info? t=some b):(sizeOf t).run P w= .ok b.size w:=by simp[sizeOf,typeInfo,h]
theorem dj (R:∀t,Ck P t (TI t)) {o:Oper} {t:TypeId} {x i:Operand} (J:o.op= .indexAddr t x i):Sound P E TI o:=by
 intro w0 X β s a w S f h N Q H;simp only[Bp,J] at h;obtain⟨V,h⟩:=h;obtain⟨hu,ei,z,g1,g2,g3,g4,g5,g6⟩:=(R t).sl V;have r:=B7 S.Bf x;have q:=B7 S.Bf i
 have go:∀(b off len cap:Nat) (k:IntKind) (n:Int),a.eval x= .slice (some ⟨b,off,none⟩) len cap->a.eval i= .int k n->0<=n->n<len->
   (execOp a.eval o).run P w= .ok (.value (.pointer (some ⟨b,off+n.toNat*(TI t).elem.size,none⟩))) w:=by
  intro b off len cap k n p D L A;simp[execOp,J,p,D,Instr.indexAt,asIntOf,run_underlying hu,VJ g1,g2,L,A,Addr.add_mid]
 split at h
 ·rename_i u l k n he d
  rw[he] at r;rw[d] at q;have g:a.eval i= .int k n:=BE q (by simp);obtain⟨base,cap,p,A,M,h3⟩:=BE r (by simp);obtain⟨c,y,hy,h⟩:=h;obtain rfl:=T.beq_eq c;obtain⟨j,m⟩:=hy ();subst h
  have C:n.toNat<l.length:=by
   rcases Nat.lt_or_ge n.toNat l.length with B | B
   ·exact B
   simp[List.getElem?_eq_none B] at m
  rcases h3 with rfl |⟨b,off,rfl,O,U⟩
  ·simp at C
  obtain⟨us,F,G⟩:=U n.toNat y m;refine Bj (go b off l.length cap k n (by simpa using p) g j (by omega)) (H _ _ _ (S.val (Or.inr ⟨b,off+n.toNat*(TI t).elem.size,us,by rw[Nat.add_zero],O,F,G⟩)))
 ·rename_i u id v off len k n he d
  rw[he] at r;rw[d] at q;have g:a.eval i= .int k n:=BE q (by simp);obtain⟨c,h⟩:=h;obtain rfl:=T.beq_eq c
  split at h
  ·rename_i p
   have K:=BE r (by simp);obtain⟨base,cap,Y,A,M,_,h3⟩:=K.2 p.symm;obtain⟨D,h⟩:=h;obtain⟨j,W⟩:=D ();obtain rfl:=h _ rfl;rcases h3 with rfl |⟨b,arr,e,hb,rfl,hh,Z⟩
   ·omega
   refine Bj (go b (off*(TI t).elem.size) len cap k n Y g j (by omega)) (H _ _ _ (S.val (Or.inr ⟨⟨rfl,K.1.2⟩,fun _=>⟨b,hb,?_⟩⟩)));rw[Nat.add_mul,Nat.add_zero]
  exact h.elim
 exact h.elim
theorem It {w:World} {k:IntKind} {n:Int} {y:Nat} {c:BoundsCode} (b:0<=n) (d:n<=y):(Instr.sliceBound (.int k n) y c).run P w= .ok n.toNat w:=by
 simp[Instr.sliceBound,asIntOf,b,d]
theorem M5 {w:World} {a:Act} {x:Cx} {lo z mx:Option Operand} {s:St} (v:∀o,BB x (ev s.sl o) (a.eval o)) {len cap:Nat} (y:len<=cap) {R:Nat->Nat->Bool->Prop}
  (h:Gs len (lo.map (ev s.sl)) (z.map (ev s.sl)) (mx.map (ev s.sl)) R):
  ∃(l q m:Nat) (c:Bool),(Instr.sliceBounds true len cap (lo.map a.eval) (z.map a.eval) (mx.map a.eval)).run P w= .ok (l,q,m) w/\l<=q/\q<=len/\q<=m/\m<=cap/\(c=true->m=q/\l=0)/\(c=false->m=cap)/\R l q c:=by
 have b:∀{o:Operand} {k:IntKind} {n:Int},ev s.sl o= .one (.int k n)->a.eval o= .int k n:=fun {o k n} e=>by
  have:=v o;rw[e] at this;exact BE this (by simp)
 unfold Gs at h
 split at h
 ·rename_i f d g
  simp only[Option.map_eq_none_iff] at f d g;subst f d g;exact⟨0,len,cap,false,by simp[Instr.sliceBounds],Nat.zero_le _,Nat.le_refl _,y,Nat.le_refl _,by simp,fun _=>rfl,h _ rfl⟩
 ·rename_i k n f d g
  simp only[Option.map_eq_none_iff,Option.map_eq_some_iff] at f d g;obtain⟨p,rfl,f⟩:=f;subst d g;obtain⟨hb,h⟩:=h;obtain⟨i,j⟩:=hb ();have j:n<=(len:Int):=by omega
  exact⟨n.toNat,len,cap,false,by simp[Instr.sliceBounds,b f,It i j],by omega,Nat.le_refl _,y,Nat.le_refl _,by simp,fun _=>rfl,h _ _ ⟨rfl,rfl⟩⟩
 ·rename_i k n f d g
  simp only[Option.map_eq_none_iff,Option.map_eq_some_iff] at f d g;obtain⟨p,rfl,d⟩:=d;subst f g;obtain⟨hb,h⟩:=h;obtain⟨i,j⟩:=hb ();have r:n<=(cap:Int):=by omega
  exact⟨0,n.toNat,cap,false,by simp[Instr.sliceBounds,b d,It i r],by omega,by omega,by omega,Nat.le_refl _,by simp,fun _=>rfl,h _ rfl⟩
 ·rename_i k n k' n' f d g
  simp only[Option.map_eq_none_iff,Option.map_eq_some_iff] at f d g;obtain⟨p,rfl,f⟩:=f;obtain⟨A,rfl,d⟩:=d;subst g;obtain⟨hb,h⟩:=h;obtain⟨i,j,r⟩:=hb ();have h3:n'<=(cap:Int):=by omega
  have u:n<=(n'.toNat:Int):=by omega
  exact⟨n.toNat,n'.toNat,cap,false,by simp[Instr.sliceBounds,b f,b d,It (show 0<=n' by omega) h3,It i u],by omega,by omega,by omega,Nat.le_refl _,by simp,fun _=>rfl,h _ _ ⟨rfl,rfl⟩⟩
 ·rename_i k n k' n' f d g
  simp only[Option.map_eq_none_iff,Option.map_eq_some_iff] at f d g;obtain⟨p,rfl,d⟩:=d;obtain⟨A,rfl,g⟩:=g;subst f;obtain⟨hb,h⟩:=h;obtain⟨i,j,r⟩:=hb ();subst j;have h3:n<=(cap:Int):=by omega
  have u:n<=(n.toNat:Int):=by omega
  exact⟨0,n.toNat,n.toNat,true,by simp[Instr.sliceBounds,b d,b g,It i h3,It i u],by omega,by omega,by omega,by omega,fun _=>⟨rfl,rfl⟩,by simp,h _ rfl⟩
 exact h.elim
theorem dv (hT:∀t,Ck P t (TI t)) {o:Oper} {t:TypeId} {x:Operand} {lo V mx:Option Operand} (W:o.op= .slice t x lo V mx):Sound P E TI o:=by
 intro w0 X β s a w S f h N Q r;simp only[Bp,W] at h;obtain⟨hk,h⟩:=h;obtain⟨hu,ei,z,g1,g2,g3,g4,g5,g6⟩:=(hT t).sl hk;have k:=B7 S.Bf x
 have go:∀(base:Option Addr) (len cap l q m:Nat),a.eval x= .slice base len cap->(Instr.sliceBounds true len cap (lo.map a.eval) (V.map a.eval) (mx.map a.eval)).run P w= .ok (l,q,m) w->
   (execOp a.eval o).run P w= .ok (.value (.slice (if m=l then base else base.map (·.add (l*(TI t).elem.size))) (q-l) (m-l))) w:=by
  intro base len cap l q m n g;simp[execOp,W,n,Instr.sliceAt,run_underlying hu,Instr.slice,g,VJ g1,g2]
 unfold Gr at h
 split at h
 ·rename_i u l he
  rw[he] at k;obtain⟨base,cap,n,D,Y,h3⟩:=BE k (by simp);obtain⟨d,h⟩:=h;obtain rfl:=T.beq_eq d;obtain⟨p,q,m,c,g,b1,b2,b3,O,B,R,hR⟩:=M5 (P:=P) (w:=w) (B7 S.Bf) D (h _ rfl);obtain rfl:=hR _ rfl;refine Bj (go base l.length cap p q m (by simpa using n) g) (r _ _ _ (S.val (Or.inr ?_)));have hlen:((l.take q).drop p).length=q-p:=by simp;omega
  refine⟨_,m-p,by rw[hlen],by rw[hlen];omega,by rw[hlen];omega,?_⟩
  by_cases J:q=p
  ·left;subst J;simp
  right
  rcases h3 with rfl |⟨b,off,rfl,Z,hc⟩
  ·simp at b2;omega
  refine⟨b,off+p*(TI t).elem.size,by rw[if_neg (by omega)];simp[Addr.add_mid],Z,fun j y A=>?_⟩
  have G:l[p+j]? =some y:=by
   rw[List.getElem?_drop,List.getElem?_take] at A
   split at A
   ·exact A
   cases A
  obtain⟨us,K,L⟩:=hc (p+j) y G;exact⟨us,K,by rw[show off+p*(TI t).elem.size+j*(TI t).elem.size=off+(p+j)*(TI t).elem.size by rw[Nat.add_mul];omega];exact L⟩
 ·rename_i u id v off len he
  rw[he] at k;obtain⟨d,h⟩:=h;obtain rfl:=T.beq_eq d
  split at h
  ·rename_i M
   have i:=BE k (by simp);obtain⟨base,cap,hs,D,Y,_,h3⟩:=i.2 M.symm;obtain⟨p,q,m,c,g,b1,b2,b3,O,B,R,hR⟩:=M5 (P:=P) (w:=w) (B7 S.Bf) D h;have hR:=hR _ _ ⟨rfl,rfl⟩;refine Bj (go base len cap p q m hs g) ?_
   have U:∀C,(C=true->m-p=q-p)->FH w (β id) (TI t).elem.size (off+p) (q-p) C (.slice (if m=p then base else base.map (·.add (p*(TI t).elem.size))) (q-p) (m-p)):=by
    intro C F;refine⟨_,m-p,rfl,by omega,by omega,F,?_⟩
    by_cases H:m=p
    ·left;omega
    right
    rcases h3 with rfl |⟨b,arr,e,hb,rfl,hh,a1⟩
    ·omega
    refine⟨b,arr,e,hb,by rw[if_neg H];simp[Addr.add_mid,Nat.add_mul],hh,?_⟩;have:(off+p+(m-p))*(TI t).elem.size<=(off+cap)*(TI t).elem.size:=Nat.mul_le_mul_right _ (by omega);omega
   cases c with
   | true=>
    obtain rfl:=hR;exact r _ _ _ (S.val (Or.inr ⟨⟨rfl,i.1.2⟩,fun _=>U true (fun _=>by have:=B rfl;omega)⟩))
   | false=>
    obtain rfl:=hR;exact r _ _ _ (S.val (Or.inr ⟨⟨rfl,i.1.2⟩,fun _=>U false (by simp)⟩))
  exact h.elim
 ·rename_i he
  rw[he] at k;have n:a.eval x= .slice none 0 0:=BE k (by simp);obtain⟨p,q,m,c,g,b1,b2,b3,O,B,R,hR⟩:=M5 (P:=P) (w:=w) (cap:=0) (B7 S.Bf) (Nat.le_refl _) h;obtain rfl:=hR;have:p=0:=by omega
  have:q=0:=by omega
  have:m=0:=by omega
  subst_vars;exact Bj (go none 0 0 0 0 0 n g) (r _ _ _ (S.val (Or.inr (by simp[Ah]))))
 exact h.elim
end
def CO (w:World) (I:Nat->Prop) (t:T):List (el t)->List Value->Prop
 | [],fl=>fl=[]
 | x::l,fl=>∃us r,fl=us++r/\rep w I t x us/\CO w I t l r
section
variable {w:World} {I:Nat->Prop} {t:T}
theorem Oj {b o:Nat} {us vs:List Value}:w.rangeAt b o (us++vs)↔w.rangeAt b o us/\w.rangeAt b (o+us.length) vs:=by
 constructor
 ·intro h;refine⟨fun j v c=>h j v ?_,fun j v c=>?_⟩
  ·rw[List.getElem?_append_left]
   ·exact c
   rcases Nat.lt_or_ge j us.length with d | d
   ·exact d
   simp[List.getElem?_eq_none d] at c
  rw[Nat.add_assoc];exact h (us.length+j) v (by rw[List.getElem?_append_right (by omega)];simpa using c)
 rintro⟨f,g⟩ j v c
 rcases Nat.lt_or_ge j us.length with d | d
 ·rw[List.getElem?_append_left d] at c;exact f j v c
 rw[List.getElem?_append_right d] at c;have:=g _ v c;rwa [show o+us.length+(j-us.length)=o+j by omega] at this
theorem CO.length:∀{l:List (el t)} {b:List Value},CO w I t l b->b.length=l.length*t.size
 | [],_,h=>by rw[show _=_ from h];simp
 | _::_,_,⟨us,r,e,c,d⟩=>by rw[e,List.length_append,HE _ _ _ c,CO.length d,List.length_cons,Nat.succ_mul];omega
theorem CO.one:∀{l:List (el t)} {b:List Value},CO w I t l b->∀u∈b,u.oneCell'=true
 | [],_,h,u,hu=>by rw[show _=_ from h] at hu;simp at hu
 | _::_,_,⟨us,r,e,c,d⟩,u,hu=>by
  rw[e] at hu;rcases List.mem_append.1 hu with h | h
  ·exact MA _ _ _ c u h
  exact CO.one d u h
theorem CO.append:∀{l l':List (el t)} {c b:List Value},CO w I t l c->CO w I t l' b->CO w I t (l++l') (c++b)
 | [],_,_,_,h,h'=>by rw[show _=_ from h];exact h'
 | _::_,_,_,_,⟨us,r,e,d,f⟩,h'=>⟨us,r++_,by rw[e,List.append_assoc],d,CO.append f h'⟩
theorem CO.mono {w':World} {c:Nat->Prop} (hm:∀b,I b->c b/\w'.heap[b]? =w.heap[b]?):∀{l:List (el t)} {d:List Value},CO w I t l d->CO w' c t l d
 | [],_,h=>h
 | _::_,_,⟨us,r,e,f,g⟩=>⟨us,r,e,B3 hm _ _ _ f,CO.mono hm g⟩
theorem Ow {b:Nat}:∀{l:List (el t)} {off:Nat},(∀(i:Nat) (x:el t),l[i]? =some x->∃us,rep w I t x us/\w.rangeAt b (off+i*t.size) us)->∃c,CO w I t l c/\w.rangeAt b off c
 | [],_,_=>⟨[],rfl,fun j v k=>by simp at k⟩
 | x::l,off,h=>by
  obtain⟨us,d,f⟩:=h 0 x (by simp)
  obtain⟨c,h3,g⟩:=Ow (l:=l) (off:=off+t.size) fun i y m=>by
   obtain⟨us,g1,g2⟩:=h (i+1) y (by simpa using m);exact⟨us,g1,by rw[show off+t.size+i*t.size=off+(i+1)*t.size by rw[Nat.add_mul];omega];exact g2⟩
  refine⟨us++c,⟨us,c,rfl,d,h3⟩,Oj.2 ⟨by simpa using f,?_⟩⟩;rw[HE _ _ _ d];exact g
theorem KG {b:Nat}:∀{l:List (el t)} {h:List Value} {off:Nat},CO w I t l h->w.rangeAt b off h->∀(i:Nat) (x:el t),l[i]? =some x->∃us,rep w I t x us/\w.rangeAt b (off+i*t.size) us
 | [],_,_,_,_,_,_,c=>by simp at c
 | _::_,_,_,⟨us,r,e,f,_⟩,d,0,x,c=>by
  simp at c;subst c;rw[e] at d;exact⟨us,f,by simpa using (Oj.1 d).1⟩
 | _::_,_,off,⟨us,r,e,f,j⟩,d,i+1,x,c=>by
  rw[e] at d;have h3:=(Oj.1 d).2;rw[HE _ _ _ f] at h3;obtain⟨g,g1,g2⟩:=KG j h3 i x (by simpa using c);exact⟨g,g1,by rw[show off+(i+1)*t.size=off+t.size+i*t.size by rw[Nat.add_mul];omega];exact g2⟩
end
theorem VP {P:Program} {w:World} {β:Nat->Option Nat} {s:St} {a:Act} {w0:World} {X:WX} (S:Av w0 X β s a w) {c:AC} {v:Value} {t:T} {l:List (el t)} {q e':TypeId} (y:P.underlying q=some (.slice e'))
  (A:Ah (cx X w β (AF s.bk)) c v) (h:C9 (AF s.bk) c (.sl t l)):∃news,Src P t.size q v l.length news w/\CO w (cx X w β (AF s.bk)).I t l news:=by
 have some:∀{b off n cap:Nat},v= .slice (some ⟨b,off,none⟩) n cap->n=l.length->(∀(i:Nat) (x:el t),l[i]? =some x->∃us,rep w (cx X w β (AF s.bk)).I t x us/\w.rangeAt b (off+i*t.size) us)->
   ∃news,Src P t.size q v l.length news w/\CO w (cx X w β (AF s.bk)).I t l news:=by
  intro b off n cap f M r;obtain⟨F,m,g⟩:=Ow r;refine⟨F,?_,m⟩;rw[f,M];exact Src.ofSlice w y _ _ _ F m.length (fun j u hu=>by rw[Addr.add_mid];exact g j u hu) m.one
 have d:∀{base:Option Addr} {cap:Nat},v= .slice base 0 cap->l=[]->∃news,Src P t.size q v l.length news w/\CO w (cx X w β (AF s.bk)).I t l news:=by
  intro base cap f L;subst L f;refine⟨[],?_,rfl⟩;cases base with
  | none=>exact Src.ofNil w y cap
  | some H=>exact Src.ofSlice w y H 0 cap [] (by simp) (fun j u hu=>by simp at hu) (by simp)
 cases c with
 | sl k l'=>
  have h:AC.sl t l=AC.sl k l':=h;simp only[AC.sl.injEq] at h;obtain⟨K,g⟩:=h;subst K;have h3:=eq_of_heq g;subst h3;obtain⟨base,cap,f,m,g,h3⟩:=A;have f:v= .slice base l.length cap:=by simpa using f
  rcases h3 with rfl |⟨b,off,rfl,R,r⟩
  ·exact d f rfl
  exact some f rfl r
 | nil=>
  rcases h with h |⟨k,h⟩
  ·cases h
  obtain⟨rfl,g⟩:t=k/\HEq l ([]:List (el k)):=by simpa using h
  obtain rfl:=eq_of_heq g;exact d (show v= .slice none 0 0 from A) rfl
 | AN k id vv off len=>
  obtain⟨l',hb,hle,h⟩:=h;obtain⟨rfl,g⟩:t=k/\HEq l ((l'.drop off).take len):=by simpa using h
  obtain rfl:=eq_of_heq g;have f:vv=AO (AF s.bk) id:=by rw[DW hb];rfl
  obtain⟨base,cap,G,m,g,_,h3⟩:=A.2 f;have hlen:((l'.drop off).take len).length=len:=by simp;omega
  by_cases z:len=0
  ·subst z;exact d G (by simp)
  rcases h3 with rfl |⟨b,arr,e,o,rfl,U,N⟩
  ·omega
  have B:=S.blocks id _ hb;rcases B with⟨g1,g2⟩ |⟨b',D,e',g1,g2,J⟩
  ·exact absurd (g1.symm.trans o) (by simp)
  obtain rfl:b'=b:=Option.some.inj (g1.symm.trans o);refine some G hlen.symm fun i x p=>?_
  have C:l'[off+i]? =Option.some x:=by
   rw[List.getElem?_take] at p
   split at p
   ·simpa using p
   cases p
  obtain⟨us,O,Q⟩:=J _ x C;exact⟨us,O,by rw[<-Nat.add_mul];exact Q⟩
 | _=>exact (show False by simp[C9] at h).elim
theorem Qs {P:Program} {w:World} {t k ty e:TypeId} {c:TypeInfo} {z:Value} {n:Nat} (ht:P.underlying t=some (.slice e)) (F:P.info? e=some c) (Q:c.zero=some z) (i:c.size=n) (L:z.cells.size=n)
  {base:Option Addr} {len cap:Nat} (H:len<=cap) {olds:List Value} (h:olds.length=len*n)
  (hb:cap=0\/∃b off arr e',base=some ⟨b,off,none⟩/\w.heap[b]? =some (.cells arr e' (0,0))/\off+cap*n<=arr.size/\w.rangeAt b off olds)
  {x:Value} {m:Nat} {news:List Value} (y:Src P n k x m news w) (f:(len+m)*c.bytes<=140737488355328) (p:0<c.bytes):
  (m=0/\(Builtin.append_ #[t,k] ty #[.slice base len cap,x]).run P w= .ok (.slice base len cap) w)\/
  (∃b off,len+m<=cap/\base=some ⟨b,off,none⟩/\(Builtin.append_ #[t,k] ty #[.slice base len cap,x]).run P w= .ok (.slice base (len+m) cap) (w.setCells b (off+len*n) news))\/
  (∃r arr w',len+m<=r/\r<=maxLen/\w'.heap=w.heap.push (.cells arr e (0,0))/\w'.os=w.os/\w'.tape=w.tape/\w'.output=w.output/\arr.size=r*n/\w'.rangeAt w.heap.size 0 (olds++news)/\
   (Builtin.append_ #[t,k] ty #[.slice base len cap,x]).run P w= .ok (.slice (some ⟨w.heap.size,0,none⟩) (len+m) r) w'):=by
 subst i;have o:=y.newsLen;have J:len+m<=140737488355328:=Nat.le_trans (Nat.le_mul_of_pos_right _ p) f
 by_cases hm:m=0
 ·subst hm;have:news=[]:=by simpa using o
  subst this;exact .inl ⟨rfl,run_append_nothing (P:=P) w t k ty e c ht F base len cap H x y⟩
 by_cases d:len+m<=cap
 ·rcases hb with rfl |⟨b,off,arr,e',rfl,D,K,M⟩
  ·omega
  have l:∀j,j<news.length->off+len*c.size+j<arr.size:=fun j g=>by
   have:(len+m)*c.size<=cap*c.size:=Nat.mul_le_mul_right _ d;rw[Nat.add_mul] at this;omega
  exact .inr (.inl ⟨b,off,d,rfl,run_append_room_src (P:=P) w t k ty e c ht F b off len cap x m news y d
   (fun j g=>by simp[World.cell?,D,l j g]) (fun j g=>by simp[World.frozen?,D])⟩)
 have hold:(Builtin.firstCells c.size len (.slice base len cap)).run P w.drew= .ok olds.toArray w.drew:=by
  rcases hb with rfl |⟨b,off,arr,e',rfl,D,K,M⟩
  ·obtain rfl:len=0:=by omega
   have:olds=[]:=by simpa using h
   subst this;cases base with
   | none=>exact run_firstCells_none w.drew c.size 0 0 0
   | some N=>exact run_firstCells_some w.drew c.size 0 N 0 0 [] (by simp) (fun j u hu=>by simp at hu)
  exact run_firstCells_some w.drew c.size len _ len cap olds h fun j u hu=>by rw[Addr.add_mid];simpa using M j u hu
 have A:len+m<=maxLen:=by unfold maxLen;omega
 have q:=run_append_grow_src (P:=P) w t k ty e c z ht F Q base len cap olds hold x m news y (by omega) (by omega) (growslice_fits (by omega) f);have C:=grownCap_ge w (len+m) cap e;refine .inr (.inr ⟨grownCap w (len+m) cap e,(olds++news).toArray++Builtin.zeroCells z.cells (grownCap w (len+m) cap e-(len+m)),(w.drew.alloc (.cells ((olds++news).toArray++Builtin.zeroCells z.cells (grownCap w (len+m) cap e-(len+m))) e)),C,grownCap_le_maxLen w (len+m) cap e A,?_,rfl,rfl,rfl,?_,?_,q⟩)
 ·rfl
 ·simp only[Array.size_append,List.size_toArray,List.length_append,size_zeroCells,L,h,o,<-Nat.add_mul]
  congr 1;omega
 intro j v g;have O:(w.drew.alloc (.cells ((olds++news).toArray++Builtin.zeroCells z.cells (grownCap w (len+m) cap e-(len+m))) e)).cell? ⟨w.heap.size,j,none⟩=_:=World.cell?_alloc_new w.drew _ _ j;rw[Nat.zero_add,O]
 have G:j<(olds++news).length:=by
  rcases Nat.lt_or_ge j (olds++news).length with B | B
  ·exact B
  rw[List.getElem?_eq_none B] at g;cases g
 rw[Array.getElem?_append_left (by simpa using G)];simpa using g
end Go.Abs
