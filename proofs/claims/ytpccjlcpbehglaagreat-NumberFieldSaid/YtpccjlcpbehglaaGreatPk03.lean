/- Part 4 of a proof. Conditions: each theorem's own. -/
import Derived.Laws.Cover3
import Derived.Test.YtpccjlcpbehglaaGreatPk02
set_option linter.all false
set_option maxHeartbeats 8000000
namespace Go.Abs
open Go.RowKit
def nocx (w:World) (I:Nat→Prop):Cx:=⟨w,fun _=>none,fun _=>0,I⟩
def OwnAt (x:Cx) (lo:Nat) (bo:Option Nat) (t:T) (l:List (el t)) (v:Value):Prop:=
 ∃base cap,v= .slice base l.length cap∧l.length≤cap∧cap≤maxLen∧l.length≤140737488355328∧
  ((bo=none∧l=[]∧cap=0)∨∃b arr e,bo=some b∧lo≤b∧base=some ⟨b,0,none⟩∧x.w.heap[b]? =some (.cells arr e (0,0))∧cap*t.size≤arr.size∧
    ∀(i:Nat) (y:el t),l[i]? =some y→∃us,rep x.w x.I t y us∧x.w.rangeAt b (i*t.size) us)
def RepR (x:Cx) (lo:Nat) (bo:Option Nat):AC→Value→Prop
 | .own t l n,v=>n=l.length∧OwnAt x lo bo t l v
 | c,v=>RepC x c v
def RepR1 (x:Cx) (lo:Nat) (bo:Option Nat):AV→Value→Prop
 | .one c,v=>c= .junk∨RepR x lo bo c v
 | .agg cs,v=>∃arr,v= .agg arr∧All2 (RepR x lo bo) cs arr.toList
 | .tup _,_=>False
def RepRV (x:Cx) (lo:Nat) (bo:Option Nat):AV→Value→Prop
 | .tup xs,v=>∃arr,v= .tuple arr∧All2 (fun y u=>RepR1 x lo bo (mk1 y) u) xs arr.toList
 | a,v=>RepR1 x lo bo a v
def pureR:AC→Bool
 | .own _ _ _=>true
 | c=>pureC c
def lentC:AC→Bool
 | .lsl _ 0 0 _ _=>true
 | .lptr 0 0 _=>true
 | c=>pureC c
def AV.wf:AV→Bool
 | .tup xs=>xs.all fun x=>x.1||decide (x.2.length≤1)
 | _=>true
def Blk.lone:Blk→Bool
 | .var v cs=>v==0&&cs.all pureC
 | .arr v _ _=>v==0
 | .dead _=>false
def Callee (P : Program) (f : FuncId) : Prop := ∃ fn c, P.funcs[f]? = some fn ∧ (fn.name == "runtime.NumGoroutine") = false ∧ fn.body = some c
def ACall (P:Program) (fl:Bool) (f:FuncId) (args:List AV) (r:AV):Prop:=
 Callee P f∧(r.all pureR=true∧r.wf=true)∧
 ∀(w:World) (I:Nat→Prop) (vs:List Value),(∀b,I b→b<w.heap.size)→All2 (RepV (nocx w I)) args vs→
  Calls P f vs.toArray w fun e w'=>∃u bo,e= .returned u∧Below w.heap.size w w'∧
   RepRV (nocx w' fun b=>((fl=false∧I b)∨w.heap.size≤b)∧b<w'.heap.size∧bo≠some b) w.heap.size bo r u
def β0 (ob:Option Nat):Nat→Option Nat:=fun k=>if k=0 then ob else none
def lentcx (w:World) (ob:Option Nat) (I:Nat→Prop):Cx:=⟨w,β0 ob,fun _=>0,I⟩
def BCall (P:Program) (f:FuncId) (c0:AC) (b0:Blk) (args:List AV) (r:AV) (b1:Blk):Prop:=
 Callee P f∧(r.all lentC=true∧lentC c0=true∧b0.lone=true∧b1.lone=true)∧
 ∀(w:World) (I:Nat→Prop) (ob:Option Nat) (v0:Value) (vs:List Value),(∀b,I b→b<w.heap.size∧ob≠some b)→
  RepC (lentcx w ob I) c0 v0→RepB (lentcx w ob I) 0 b0→b0.short→All2 (RepV (nocx w I)) args vs→
  Calls P f (v0::vs).toArray w fun e w'=>∃u,e= .returned u∧
   (w'.os=w.os∧w'.tape=w.tape∧w'.output=w.output∧w.heap.size≤w'.heap.size∧∀k,k<w.heap.size→ob≠some k→w'.heap[k]? =w.heap[k]?)∧
   (∀(b:Nat) arr e,ob=some b→w.heap[b]? =some (.cells arr e (0,0))→∃arr',w'.heap[b]? =some (.cells arr' e (0,0))∧arr'.size=arr.size)∧
   RepV (lentcx w' ob fun k=>(I k∨w.heap.size≤k)∧k<w'.heap.size∧ob≠some k) r u∧
   RepB (lentcx w' ob fun k=>(I k∨w.heap.size≤k)∧k<w'.heap.size∧ob≠some k) 0 b1∧b1.short
def DCall (P:Program) (f:FuncId) (args:List AV) (b0:Blk) (r:AV):Prop:=
 Callee P f∧(r.all pureC=true∧b0.lone=true)∧
 ∀(w:World) (I:Nat→Prop) (ob:Option Nat) (vs:List Value),(∀b,I b→b<w.heap.size∧ob≠some b)→
  RepB (lentcx w ob I) 0 b0→b0.short→All2 (RepV (lentcx w ob I)) args vs→
  Calls P f vs.toArray w fun e w'=>∃u,e= .returned u∧
   (w'.os=w.os∧w'.tape=w.tape∧w'.output=w.output∧w.heap.size≤w'.heap.size∧∀k,k<w.heap.size→ob≠some k→w'.heap[k]? =w.heap[k]?)∧
   (∀(b:Nat) arr e,ob=some b→w.heap[b]? =some (.cells arr e (0,0))→∃arr',w'.heap[b]? =some (.cells arr' e (0,0))∧arr'.size=arr.size)∧
   RepV (lentcx w' ob fun k=>(I k∨w.heap.size≤k)∧k<w'.heap.size∧ob≠some k) r u∧
   RepB (lentcx w' ob fun k=>(I k∨w.heap.size≤k)∧k<w'.heap.size∧ob≠some k) 0 b0
def env (P:Program):Env:=⟨ACall P,BCall P,DCall P⟩
structure TyOK (P:Program) (t:TypeId) (i:Info):Prop where
 info:i.known=true→∃ti z d,P.info? t=some ti∧ti.size=i.size∧ti.zero=some z∧(∀x,All2 (RepC x) i.zero z.cells.toList)∧
  P.underlying t=some d∧d.isRow=i.agg∧(i.agg=false→i.size=1)
 kind:∀k,i.kind=some k→P.underlying t=some (.int k)
 isb:i.isB=true→P.underlying t=some .bool
 sl:i.sl=true→P.underlying t=some (.slice i.eid)∧∃ei z,P.info? i.eid=some ei∧ei.size=i.elem.size∧ei.bytes=i.ebytes∧0<ei.bytes∧ei.zero=some z∧
  ∀x,All2 (RepC x) (cells i.elem i.zel) z.cells.toList
 fields:i.known=true→i.fields≠[]→∃fs:Array Field,P.underlying t=some (.struct fs)∧i.fields.length=fs.size∧
  ∀(f fo n:Nat) (g:Bool),i.fields[f]? =some (fo,n,g)→∃fl d,fs[f]? =some fl∧fl.offset=fo∧(P.info? fl.type).map (·.size)=some n∧0<n∧P.underlying fl.type=some d∧d.isRow=g∧(g=false→n=1)
theorem T.beq_eq:∀{a b:T},T.beq a b=true→a=b
 | .u8,b,h=>by cases b <;> simp_all [T.beq]
 | .u32,b,h=>by cases b <;> simp_all [T.beq]
 | .u64,b,h=>by cases b <;> simp_all [T.beq]
 | .i8,b,h=>by cases b <;> simp_all [T.beq]
 | .i64,b,h=>by cases b <;> simp_all [T.beq]
 | .bool,b,h=>by cases b <;> simp_all [T.beq]
 | .sl a,b,h=>by cases b <;> simp_all [T.beq];exact T.beq_eq h
 | .pr a c,b,h=>by cases b <;> simp_all [T.beq];exact⟨T.beq_eq h.1,T.beq_eq h.2⟩
section
variable {P:Program} {w:World}
theorem run_isAgg {t:TypeId} {d:TypeDesc} (hu:P.underlying t=some d):(isAgg t).run P w= .ok d.isRow w:=by
 unfold isAgg
 rw[Sem.run_bind,run_underlying hu w]
 cases d <;> simp
theorem run_loadAt_one {t:TypeId} {d:TypeDesc} {b o:Nat} {v:Value} (hu:P.underlying t=some d) (hd:d.isRow=false) (hc:w.cell? ⟨b,o,none⟩=some v):
  (Instr.loadAt t (.pointer (some ⟨b,o,none⟩))).run P w= .ok v w:=by
 simp only[Instr.loadAt,Instr.sureAddr,Sem.run_bind,Sem.run_pure,Result.andThen_ok,loadVar,run_isAgg hu,hd]
 simp[load,Sem.run,hc]
theorem run_storeAt_any {t:TypeId} {ti:TypeInfo} {b o:Nat} {v:Value} (hi:P.info? t=some ti) (hs:v.cells.size=ti.size) (ht:w.there b o ti.size) (h1:∀u∈v.cells.toList,u.oneCell'=true):
  (Instr.storeAt t (.pointer (some ⟨b,o,none⟩)) v).run P w= .ok () (w.setCells b o v.cells.toList):=by
 have:=run_storeCells_cells (P:=P) b o v.cells.toList 0 w (fun j hj=>by simpa using (ht j (by simpa [hs] using hj)).1) (fun j hj=>by simpa using (ht j (by simpa [hs] using hj)).2) h1
 simp only[Nat.add_zero] at this
 simp[Instr.storeAt,Instr.sureAddr,storeVar,sizeOf,typeInfo,hi,hs,this]
end
theorem oneCell_cells {v:Value} (h:v.oneCell'=true):v.cells= #[v]:=by
 cases v <;> simp_all [Value.oneCell',Value.cells]
theorem RepV1.cells {x:Cx} {av:AV} {v:Value} (h:RepV1 x av v) (hf:av.full=true):All2 (RepC x) av.cs v.cells.toList:=by
 cases av with
 | one c=>
  rcases h with rfl | h
  ·simp[AV.full] at hf
  ·rw[oneCell_cells h.one];exact⟨h,trivial⟩
 | agg cs=>obtain⟨arr,rfl,h⟩:=h;exact h
 | tup _=>exact h.elim
theorem All2.one {x:Cx}:∀{cs:List AC} {vs:List Value},All2 (RepC x) cs vs→∀v∈vs,v.oneCell'=true
 | [],[],_,_,hv=>by simp at hv
 | _::_,_::_,h,v,hv=>by
  rcases List.mem_cons.1 hv with rfl | hv
  ·exact h.1.one
  ·exact All2.one h.2 v hv
 | [],_::_,h,_,_=>h.elim
 | _::_,[],h,_,_=>h.elim
theorem repV_of_1 {x:Cx} {a:AV} {v:Value} (h:RepV1 x a v):RepV x a v:=by cases a <;> first | exact h | exact h.elim
theorem repV1_of {x:Cx} {a:AV} {v:Value} (h:RepV x a v) (ha:∀xs,a≠ .tup xs):RepV1 x a v:=by cases a <;> first | exact h | exact absurd rfl (ha _)
theorem ev_rep {x:Cx} {s:St} {a:Act} (h:∀i,RepV x (nth s.sl i) (a.tmps.getD i undef)) (o:Operand):RepV x (ev s.sl o) (a.eval o):=by
 cases o with
 | tmp t=>exact h t
 | func f=>exact Or.inr rfl
 | global g=>exact Or.inl rfl
 | const v=>
  show RepV x (cval v) v
  unfold cval
  split <;> first | exact Or.inr rfl | exact Or.inl rfl
def valOf (g:Bool) (vs:List Value):Value:=
 match g with
 | true=> .agg vs.toArray
 | false=>vs.headD undef
theorem repV_mk1 {x:Cx} {g:Bool} {cs:List AC} {vs:List Value} (h:All2 (RepC x) cs vs) (hn:g=false→cs.length=1):
  RepV x (mk1 (g,cs)) (valOf g vs):=by
 cases g with
 | true=>exact⟨_,rfl,by simpa using h⟩
 | false=>
  have:=hn rfl
  match cs,vs,h with
  | [c],[v],h=>exact Or.inr h.1
end Go.Abs
namespace Go.Abs
open Go.RowKit
section
variable {P:Program} {E:Env} {TI:TypeId→Info} {w0:World} {X:WX} {β:Nat→Option Nat} {s:St} {a:Act} {w:World}
theorem wp_value {o:Oper} {u:Value} {w':World} {N:Act→World→Prop} {Q:Exit→Act→World→Prop} (hr:(execOp a.eval o).run P w= .ok (.value u) w') (hN:N (a.put o.dst u) w'):o.wp P a w N Q:=by
 unfold Oper.wp;rw[hr];exact hN
theorem wp_skip' {o:Oper} {w':World} {N:Act→World→Prop} {Q:Exit→Act→World→Prop} (hr:(execOp a.eval o).run P w= .ok .skip w') (hN:N (a.put o.dst undef) w'):o.wp P a w N Q:=by
 unfold Oper.wp;rw[hr];exact hN
def Sound (P:Program) (E:Env) (TI:TypeId→Info) (o:Oper):Prop:=
 ∀{w0:World} {X:WX} {β:Nat→Option Nat} {s:St} {a:Act} {w:World},SimB w0 X β s a w→∀{f:Eff},aop E TI o (dstOf o) (ev s.sl) (nthb s.bk) (fun g=>g=f)→
  ∀{N:Act→World→Prop} {Q:Exit→Act→World→Prop},(∀β' a' w',SimB w0 X β' (s.app o.dst f) a' w'→N a' w')→o.wp P a w N Q
theorem sound_move {o:Oper} {x:Operand} (ho:o.op= .move x):Sound P E TI o:=by
 intro w0 X β s a w S f h N Q hN
 simp only[aop,ho] at h
 subst h
 exact wp_value (u:=a.eval x) (w':=w) (by simp[execOp,ho]) (hN _ _ _ (S.val (ev_rep S.slots x)))
theorem sound_assign {o:Oper} {x:Operand} (ho:o.op= .assign x):Sound P E TI o:=by
 intro w0 X β s a w S f h N Q hN
 simp only[aop,ho] at h
 subst h
 exact wp_value (u:=a.eval x) (w':=w) (by simp[execOp,ho]) (hN _ _ _ (S.val (ev_rep S.slots x)))
theorem sound_pick {o:Oper} {c x y:Operand} (ho:o.op= .pick c x y):Sound P E TI o:=by
 intro w0 X β s a w S f h N Q hN
 simp only[aop,ho] at h
 have hc:=ev_rep S.slots c
 split at h
 ·rename_i he
  rw[he] at hc
  have hc':a.eval c= .bool true:=by rcases hc with hc | hc <;> simp_all [RepC]
  subst h
  exact wp_value (u:=a.eval x) (w':=w) (by simp[execOp,ho,hc',asBool]) (hN _ _ _ (S.val (ev_rep S.slots x)))
 ·rename_i he
  rw[he] at hc
  have hc':a.eval c= .bool false:=by rcases hc with hc | hc <;> simp_all [RepC]
  subst h
  exact wp_value (u:=a.eval y) (w':=w) (by simp[execOp,ho,hc',asBool]) (hN _ _ _ (S.val (ev_rep S.slots y)))
 ·exact h.elim
theorem repV_one {x:Cx} {c:AC} {v:Value} (h:RepV x (.one c) v) (hc:c≠ .junk):RepC x c v:=(show c= .junk∨RepC x c v from h).resolve_left hc
theorem sound_nilCheck {o:Oper} {x:Operand} (ho:o.op= .nilCheck x):Sound P E TI o:=by
 intro w0 X β s a w S f h N Q hN
 simp only[aop,ho] at h
 have hx:=ev_rep S.slots x
 split at h
 ·rename_i id v off he
  split at h
  ·rename_i hv
   subst h
   have hx':=hx
   rw[he] at hx
   obtain⟨b,_,hb⟩:=(repV_one hx (by simp)).2 hv.symm
   exact wp_value (u:=a.eval x) (w':=w) (by simp[execOp,ho,hb]) (hN _ _ _ (S.val hx'))
  ·exact h.elim
 ·rename_i g he
  subst h
  have hx':=hx
  rw[he] at hx
  have hb:a.eval x= .func (.func g) #[] #[]:=repV_one hx (by simp)
  exact wp_value (u:=a.eval x) (w':=w) (by simp[execOp,ho,hb]) (hN _ _ _ (S.val hx'))
 ·exact h.elim
theorem sound_extract {o:Oper} {x:Operand} {i:Nat} (ho:o.op= .extract x i):Sound P E TI o:=by
 intro w0 X β s a w S f h N Q hN
 simp only[aop,ho] at h
 have hx:=ev_rep S.slots x
 split at h
 ·rename_i xs he
  rw[he] at hx
  obtain⟨arr,hv,hall⟩:=hx
  split at h
  ·rename_i y hy
   subst h
   obtain⟨u,hu,hr⟩:=hall.get i y hy
   have hu':arr[i]? =some u:=by simpa using hu
   exact wp_value (u:=u) (w':=w) (by simp[execOp,ho,hv,Instr.extract,hu']) (hN _ _ _ (S.val (repV_of_1 hr)))
  ·exact h.elim
 ·exact h.elim
theorem wrap64_of_in {c:Int} (h:in64 c):IntKind.i64.wrap c=c:=IntWalk.i64_in c ⟨h.1,by have:=h.2;omega⟩
theorem arith_run {op:BinOp} {k k':IntKind} {x y:Int} {c:AC} {t:TypeId} (hk:k=k'∨op= .shl∨op= .shr) (h:arith op k x y (fun d=>d=c)):
  ∃u,(binOp op t (.int k x) (.int k' y)).run P w= .ok u w∧∀Γ,RepC Γ c u:=by
 have tdiv_eq:∀{p q:Int},0≤p→p.tdiv q=p/q:=fun h=>Int.tdiv_eq_ediv_of_nonneg h
 have tmod_eq:∀{p q:Int},0≤p→p.tmod q=p%q:=fun h=>Int.tmod_eq_emod_of_nonneg h
 by_cases hs:op= .shl∨op= .shr
 ·rcases hs with rfl | rfl
  ·have h':=h _ rfl
   obtain⟨h1,rfl⟩:=h'
   have h0:¬y<0:=by have:=h1 ();omega
   exact⟨_,by simp only[binOp,Op.shift,if_neg h0];rfl,fun _=>rfl⟩
  ·have h':=h _ rfl
   obtain⟨h1,rfl⟩:=h'
   have h0:¬y<0:=by have:=h1 ();omega
   exact⟨_,by simp only[binOp,Op.shift,if_neg h0];rfl,fun _=>rfl⟩
 ·have hk:k=k':=hk.resolve_right hs
  subst hk
  have hb:∀op',op'≠ .shl→op'≠ .shr→binOp op' t (.int k x) (.int k y)=(match op' with
   | .add | .sub | .mul=>Op.intArith op' k x y | .quo | .rem=>Op.intDiv op' k x y | .and | .or | .xor | .andNot=>Op.intBits op' k x y | _=>Op.intCmp op' x y):=by
   intro op' h1 h2;cases op' <;> simp_all [binOp]
  rw[hb op (fun e=>hs (.inl e)) (fun e=>hs (.inr e))]
  cases op
  case shl=>exact absurd (.inl rfl) hs
  case shr=>exact absurd (.inr rfl) hs
  case eql=>obtain rfl:=h _ rfl;exact⟨_,rfl,fun _=>rfl⟩
  case neq=>obtain rfl:=h _ rfl;exact⟨_,rfl,fun _=>rfl⟩
  case lss=>obtain rfl:=h _ rfl;exact⟨_,rfl,fun _=>rfl⟩
  case leq=>obtain rfl:=h _ rfl;exact⟨_,rfl,fun _=>rfl⟩
  case gtr=>obtain rfl:=h _ rfl;exact⟨_,rfl,fun _=>rfl⟩
  case geq=>obtain rfl:=h _ rfl;exact⟨_,rfl,fun _=>rfl⟩
  case and=>obtain rfl:=h _ rfl;exact⟨_,rfl,fun _=>rfl⟩
  case or=>obtain rfl:=h _ rfl;exact⟨_,rfl,fun _=>rfl⟩
  case xor=>obtain rfl:=h _ rfl;exact⟨_,rfl,fun _=>rfl⟩
  case andNot=>obtain rfl:=h _ rfl;exact⟨_,rfl,fun _=>rfl⟩
  case add=>
   cases k
   case i64=>obtain⟨h1,rfl⟩:=h _ rfl;exact⟨_,rfl,fun _=>by show _=_;rw[wrap64_of_in (h1 ())]⟩
   all_goals (obtain rfl:=h _ rfl;exact⟨_,rfl,fun _=>rfl⟩)
  case sub=>
   cases k
   case i64=>obtain⟨h1,rfl⟩:=h _ rfl;exact⟨_,rfl,fun _=>by show _=_;rw[wrap64_of_in (h1 ())]⟩
   all_goals (obtain rfl:=h _ rfl;exact⟨_,rfl,fun _=>rfl⟩)
  case mul=>
   cases k
   case i64=>obtain⟨h1,rfl⟩:=h _ rfl;exact⟨_,rfl,fun _=>by show _=_;rw[wrap64_of_in (h1 ())]⟩
   all_goals (obtain rfl:=h _ rfl;exact⟨_,rfl,fun _=>rfl⟩)
  case quo=>
   cases k
   case i64=>
    obtain⟨h1,rfl⟩:=h _ rfl
    obtain⟨h1,h2,h3⟩:=h1 ()
    exact⟨_,by simp only[Op.intDiv,if_neg (show ¬y=0 by omega)];rfl,fun _=>by show _=_;rw[tdiv_eq h1,wrap64_of_in h3]⟩
   all_goals
    obtain⟨h1,rfl⟩:=h _ rfl
    obtain⟨h1,h2⟩:=h1 ()
    exact⟨_,by simp only[Op.intDiv,if_neg (show ¬y=0 by omega)];rfl,fun _=>by show _=_;rw[tdiv_eq h1]⟩
  case rem=>
   cases k
   all_goals
    obtain⟨h1,rfl⟩:=h _ rfl
    obtain⟨h1,h2⟩:=h1 ()
    exact⟨_,by simp only[Op.intDiv,if_neg (show ¬y=0 by omega)];rfl,fun _=>by show _=_;rw[tmod_eq h1]⟩
theorem eqGuard_int (op:BinOp) (t:TypeId) (x y:Operand) (k k':IntKind) (m n:Int):(eqGuard op t x y (.int k m) (.int k' n)).run P w= .ok () w:=by
 unfold eqGuard
 cases op <;> simp
end
end Go.Abs
namespace Go.Abs
open Go.RowKit
section
variable {P:Program} {E:Env} {TI:TypeId→Info}
theorem sound_binOp (hT:∀t,TyOK P t (TI t)) {o:Oper} {op:BinOp} {t t':TypeId} {x y:Operand} (ho:o.op= .binOp op t x y t'):Sound P E TI o:=by
 intro w0 X β s a w S f h N Q hN
 simp only[aop,ho] at h
 have hx:=ev_rep S.slots x
 have hy:=ev_rep S.slots y
 split at h
 ·rename_i k m k' n he he'
  rw[he] at hx;rw[he'] at hy
  have hx':a.eval x= .int k m:=repV_one hx (by simp)
  have hy':a.eval y= .int k' n:=repV_one hy (by simp)
  split at h
  ·rename_i hk
   obtain⟨c,hc⟩:∃c,f=⟨.one c,[],[]⟩∧arith op k m n (fun d=>d=c):=by
    cases op <;> cases k <;> simp only[arith] at h ⊢ <;> first
     | (obtain⟨h1,h2⟩:=h _ rfl;exact⟨_,h2.symm,fun _ e=>⟨by first | exact h1 | (rw[e];exact h1),by rw[e]⟩⟩)
     | exact⟨_,(h _ rfl).symm,fun _ e=>by rw[e]⟩
   obtain⟨rfl,hc⟩:=hc
   obtain⟨u,hu,hr⟩:=arith_run (P:=P) (w:=w) (t:=t) hk hc
   refine wp_value (u:=u) (w':=w) ?_ (hN _ _ _ (S.val (Or.inr (hr _))))
   simp only[execOp,ho,hx',hy',Sem.run_bind,eqGuard_int,Result.andThen_ok,hu,Sem.run_pure]
  ·exact h.elim
 ·rename_i m n he he'
  rw[he] at hx;rw[he'] at hy
  have hx':a.eval x= .bool m:=repV_one hx (by simp)
  have hy':a.eval y= .bool n:=repV_one hy (by simp)
  obtain⟨h1,h⟩:=h
  have hu:=(hT t).isb h1
  have hq:(Op.equal t (.bool m) (.bool n)).run P w= .ok (m==n) w:=by
   have hd:∀d,(Op.equalIn (d+1) t (.bool m) (.bool n)).run P w= .ok (m==n) w:=fun d=>by
    unfold Op.equalIn
    simp[run_underlying hu]
   exact hd 9999
  have hg:∀op:BinOp,(eqGuard op t x y (.bool m) (.bool n)).run P w= .ok () w:=by
   intro op;unfold eqGuard;cases op <;> simp
  cases op <;> simp only at h
  all_goals first
   | exact h.elim
   | (obtain rfl:=h _ rfl
      refine wp_value (w':=w) ?_ (hN _ _ _ (S.val (Or.inr rfl)))
      simp[execOp,ho,hx',hy',Sem.run_bind,hg,binOp,hq,bne])
 ·rename_i ty l he he'
  rw[he] at hx;rw[he'] at hy
  have hr:=repV_one hx (by simp)
  have hy':a.eval y= .slice none 0 0:=repV_one hy (by simp)
  obtain⟨h1,h⟩:=h
  obtain⟨base,cap,hv,_,_,hrest⟩:=hr
  have hx':a.eval x= .slice base l.length cap:=by simpa using hv
  obtain⟨hu,_⟩:=(hT t).sl h1
  have hq:(Op.equal t (.slice base l.length cap) (.slice none 0 0)).run P w= .ok base.isNone w:=run_equal_slice_nil w t _ base l.length cap hu
  have hg:∀op:BinOp,(eqGuard op t x y (.slice base l.length cap) (.slice none 0 0)).run P w= .ok () w:=by
   intro op;unfold eqGuard;cases op <;> simp
  cases op <;> simp only at h
  all_goals first
   | exact h.elim
   | (obtain rfl:=h _ rfl
      refine wp_value (u:= .bool base.isNone) (w':=w) ?_ (hN _ _ _ (S.val (Or.inr ⟨_,rfl,fun hb=>?_⟩)))
      ·simp[execOp,ho,hx',hy',Sem.run_bind,hg,binOp,hq]
      ·rcases hrest with rfl |⟨b,off,rfl,_⟩
       ·rfl
       ·simp at hb)
 ·exact h.elim
theorem sound_unOp {o:Oper} {op:UnOp} {t:TypeId} {x:Operand} (ho:o.op= .unOp op t x):Sound P E TI o:=by
 intro w0 X β s a w S f h N Q hN
 simp only[aop,ho] at h
 have hx:=ev_rep S.slots x
 split at h
 ·rename_i b he
  rw[he] at hx
  have hx':a.eval x= .bool b:=repV_one hx (by simp)
  obtain rfl:=(h _ rfl)
  exact wp_value (u:= .bool (!b)) (w':=w) (by simp[execOp,ho,hx',Op.unary]) (hN _ _ _ (S.val (Or.inr rfl)))
 ·rename_i k n he
  rw[he] at hx
  have hx':a.eval x= .int k n:=repV_one hx (by simp)
  obtain⟨c,hc⟩:∃c,f=⟨.one c,[],[]⟩∧arith .sub k 0 n (fun d=>d=c):=by
   cases k <;> simp only[arith] at h ⊢ <;> first
    | (obtain⟨h1,h2⟩:=h _ rfl;exact⟨_,h2.symm,fun _ e=>⟨by first | exact h1 | (rw[e];exact h1),by rw[e]⟩⟩)
    | exact⟨_,(h _ rfl).symm,fun _ e=>by rw[e]⟩
  obtain⟨rfl,hc⟩:=hc
  obtain⟨u,hu,hr⟩:=arith_run (P:=P) (w:=w) (t:=t) (.inl rfl) hc
  have hu':(Op.intArith .sub k 0 n).run P w= .ok u w:=by simpa [binOp] using hu
  exact wp_value (u:=u) (w':=w) (by simp[execOp,ho,hx',Op.unary,hu']) (hN _ _ _ (S.val (Or.inr (hr _))))
 ·exact h.elim
theorem sound_convert (hT:∀t,TyOK P t (TI t)) {o:Oper} {src dst:TypeId} {x:Operand} (ho:o.op= .convert src dst x):Sound P E TI o:=by
 intro w0 X β s a w S f h N Q hN
 simp only[aop,ho] at h
 obtain⟨hk,h⟩:=h
 have hx:=ev_rep S.slots x
 split at h
 ·rename_i k k' n hd he
  rw[he] at hx
  have hx':a.eval x= .int k' n:=repV_one hx (by simp)
  obtain rfl:=h _ rfl
  obtain⟨_,_,d,_,_,_,_,hu,_⟩:=(hT src).info hk
  have hu2:=(hT dst).kind k hd
  refine wp_value (u:= .int k (k.wrap n)) (w':=w) ?_ (hN _ _ _ (S.val (Or.inr rfl)))
  simp[execOp,ho,hx',convert,run_underlying hu,run_underlying hu2,Conv.intToInt]
 ·exact h.elim
theorem sound_field (hT:∀t,TyOK P t (TI t)) {o:Oper} {t:TypeId} {x:Operand} {i:Nat} (ho:o.op= .field t x i):Sound P E TI o:=by
 intro w0 X β s a w S f h N Q hN
 simp only[aop,ho] at h
 obtain⟨hk,h⟩:=h
 have hx:=ev_rep S.slots x
 split at h
 ·rename_i fo n g cs hf he
  split at h
  ·rename_i hl
   subst h
   rw[he] at hx
   obtain⟨arr,hv,hall⟩:=hx
   obtain⟨fs,hu,hlen,hfs⟩:=(hT t).fields hk (by intro e;simp[e] at hf)
   obtain⟨fl,d,h1,h2,h3,h4,h5,h6,h7⟩:=hfs i fo n g hf
   have hsub:All2 (RepC (cx X w β (nthb s.bk))) (takeC cs fo n) ((arr.toList.drop fo).take n):=by rw[takeC_eq];exact (hall.drop fo).take n
   have hln:((arr.toList.drop fo).take n).length=n:=by rw[←hsub.length,hl]
   refine wp_value (u:=valOf g ((arr.toList.drop fo).take n)) (w':=w) ?_
    (hN _ _ _ (S.val (repV_mk1 hsub (fun e=>by rw[hl];exact h7 e))))
   have hpart:(part fl.type arr fo).run P w= .ok (valOf g ((arr.toList.drop fo).take n)) w:=by
    unfold part
    rw[Sem.run_bind,run_isAgg h5,Result.andThen_ok,h6]
    cases g with
    | true=>
     cases hq:P.info? fl.type with
     | none=>simp[hq] at h3
     | some ti=>
      have hs:ti.size=n:=by simpa [hq] using h3
      have e1:arr.extract fo (fo+n)=((arr.toList.drop fo).take n).toArray:=by
       apply Array.ext'
       simp only[Array.toList_extract,List.extract_eq_take_drop]
       rw[show fo+n-fo=n by omega]
      simp[sizeOf,typeInfo,hq,hs,e1,valOf]
    | false=>
     have:=h7 rfl
     subst this
     have h8:arr.toList.drop fo≠[]:=by intro e;simp[e] at hln
     obtain⟨u,r,e⟩:=List.exists_cons_of_ne_nil h8
     have h9:arr[fo]? =some u:=by
      have:=congrArg (·[0]?) e
      simpa using this
     simp[h9,e,valOf]
   simp[execOp,ho,hv,Instr.field,run_underlying hu,h1,asAgg,h2,hpart]
  ·exact h.elim
 ·exact h.elim
theorem fieldPlace_run {fl:Field} {b off n:Nat} {w:World} (h3:(P.info? fl.type).map (·.size)=some n) (h4:0<n):(fieldPlace ⟨b,off,none⟩ fl).run P w= .ok ⟨b,off+fl.offset,none⟩ w:=by
 cases hq:P.info? fl.type with
 | none=>simp[hq] at h3
 | some ti=>
  have hs:ti.size=n:=by simpa [hq] using h3
  have:¬ti.size=0:=by omega
  simp[fieldPlace,sizeOf,typeInfo,hq,this,Addr.add_mid]
theorem sound_fieldAddr (hT:∀t,TyOK P t (TI t)) {o:Oper} {t:TypeId} {x:Operand} {i:Nat} (ho:o.op= .fieldAddr t x i):Sound P E TI o:=by
 intro w0 X β s a w S f h N Q hN
 simp only[aop,ho] at h
 obtain⟨hk,h⟩:=h
 have hx:=ev_rep S.slots x
 have go:∀(fo n:Nat) (g:Bool) (b off:Nat),(TI t).fields[i]? =some (fo,n,g)→a.eval x= .pointer (some ⟨b,off,none⟩)→(execOp a.eval o).run P w= .ok (.value (.pointer (some ⟨b,off+fo,none⟩))) w:=by
  intro fo n g b off hf hv
  obtain⟨fs,hu,hlen,hfs⟩:=(hT t).fields hk (by intro e;simp[e] at hf)
  obtain⟨fl,d,h1,h2,h3,h4,h5,h6,h7⟩:=hfs i fo n g hf
  subst h2
  simp[execOp,ho,hv,Instr.fieldAt,run_underlying hu,h1,Instr.sureAddr,fieldPlace_run h3 h4]
 split at h
 ·rename_i fo n g id v off hf he
  split at h
  ·rename_i hv
   subst h
   rw[he] at hx
   have hr:=repV_one hx (by simp)
   obtain⟨b,hb,hp⟩:=hr.2 hv.symm
   exact wp_value (go fo n g b off hf hp) (hN _ _ _ (S.val (Or.inr ⟨⟨rfl,hr.1.2⟩,fun _=>⟨b,hb,rfl⟩⟩)))
  ·exact h.elim
 ·rename_i fo n g u y off hf he
  subst h
  rw[he] at hx
  obtain⟨b,q,us,hp,h1,h2,h3⟩:=repV_one hx (by simp)
  exact wp_value (go fo n g b (q+off) hf hp) (hN _ _ _ (S.val (Or.inr ⟨b,q,us,by rw[Nat.add_assoc],h1,h2,h3⟩)))
 ·rename_i fo n g u id v j k hf he
  split at h
  ·rename_i hv
   subst h
   rw[he] at hx
   have hr:=repV_one hx (by simp)
   obtain⟨b,hb,hp⟩:=hr.2 hv.symm
   exact wp_value (go fo n g b _ hf hp) (hN _ _ _ (S.val (Or.inr ⟨⟨rfl,hr.1.2⟩,fun _=>⟨b,hb,by rw[Nat.add_assoc]⟩⟩)))
  ·exact h.elim
 ·exact h.elim
end
end Go.Abs
namespace Go.Abs
open Go.RowKit
section
variable {P:Program} {E:Env} {TI:TypeId→Info}
theorem rangeAt_of_cells {w:World} {b off n:Nat} {arr:Array Value} {e:TypeId} (h:w.heap[b]? =some (.cells arr e (0,0))):w.rangeAt b off ((arr.toList.drop off).take n):=by
 intro j v hj
 have:arr[off+j]? =some v:=by
  rw[List.getElem?_take] at hj
  split at hj
  ·simpa using hj
  ·cases hj
 simp[World.cell?,h,this]
theorem rangeAt_part {w:World} {b o off n:Nat} {us:List Value} (h:w.rangeAt b o us):w.rangeAt b (o+off) ((us.drop off).take n):=by
 intro j v hj
 rw[Nat.add_assoc]
 refine h (off+j) v ?_
 rw[List.getElem?_take] at hj
 split at hj
 ·simpa using hj
 ·cases hj
theorem run_load {t:TypeId} {i:Info} {w:World} {b o:Nat} {us:List Value} (hT:TyOK P t i) (hk:i.known=true) (hr:w.rangeAt b o us) (hl:us.length=i.size):
  (Instr.loadAt t (.pointer (some ⟨b,o,none⟩))).run P w= .ok (valOf i.agg us) w:=by
 obtain⟨ti,z,d,h1,h2,h3,h4,h5,h6,h7⟩:=hT.info hk
 cases hg:i.agg with
 | true=>exact run_loadAt_mid w b o t us d hr h5 (h6.trans hg) (by simp[h1,h2,hl])
 | false=>
  have h8:=h7 hg
  rw[h8] at hl
  match us,hl with
  | [u],_=>exact run_loadAt_one h5 (h6.trans hg) (show w.cell? ⟨b,o,none⟩=some u by simpa using hr 0 u (by simp))
theorem sound_load (hT:∀t,TyOK P t (TI t)) {o:Oper} {t:TypeId} {x:Operand} (ho:o.op= .load t x):Sound P E TI o:=by
 intro w0 X β s a w S f h N Q hN
 simp only[aop,ho,cellsK_iff] at h
 obtain⟨hk,h⟩:=h
 have hx:=ev_rep S.slots x
 have hsz:(TI t).agg=false→(TI t).size=1:=by obtain⟨_,_,_,_,_,_,_,_,_,h7⟩:=(hT t).info hk;exact h7
 have go:∀(b q:Nat) (cs:List AC) (us:List Value),a.eval x= .pointer (some ⟨b,q,none⟩)→w.rangeAt b q us→All2 (RepC (cx X w β (nthb s.bk))) cs us→cs.length=(TI t).size→
   ∀rd,f=⟨mk1 ((TI t).agg,cs),[],rd⟩→o.wp P a w N Q:=by
  intro b q cs us hp hr hall hl rd hf
  subst hf
  have:=run_load (hT t) hk hr (hall.length ▸ hl)
  exact wp_value (u:=valOf (TI t).agg us) (w':=w) (by simp[execOp,ho,hp,this]) (hN _ _ _ (S.val (repV_mk1 hall (fun e=>by rw[hl];exact hsz e))))
 split at h
 ·rename_i id v off he
  rw[he] at hx
  have hr:=repV_one hx (by simp)
  split at h
  ·rename_i v' cs hb
   split at h
   ·rename_i hc
    obtain⟨b,arr,e,h1,h2,h3⟩:=S.blocks id _ hb
    have hv:v=ver (nthb s.bk) id:=by unfold ver;rw[hb];exact hc.1.symm
    obtain⟨b',hb',hp⟩:=hr.2 hv
    obtain rfl:b=b':=Option.some.inj (h1.symm.trans hb')
    refine go b off _ _ hp (rangeAt_of_cells h2 (n:=(TI t).size)) ?_ hc.2 _ h.symm
    rw[takeC_eq];exact (h3.drop off).take _
   ·exact h.elim
  ·exact h.elim
 ·rename_i u y off he
  rw[he] at hx
  obtain⟨b,q,us,hp,h1,h2,h3⟩:=repV_one hx (by simp)
  split at h
  ·rename_i hl
   refine go b (q+off) _ _ hp (rangeAt_part h3 (n:=(TI t).size)) ?_ hl _ h.symm
   rw[takeC_eq];exact (((rep_cells _ u y us).1 h2).drop off).take _
  ·exact h.elim
 ·rename_i u id v i k he
  rw[he] at hx
  have hr:=repV_one hx (by simp)
  split at h
  ·rename_i v' u' l hb
   split at h
   ·rename_i hc
    obtain rfl:=T.beq_eq hc.2
    obtain⟨y,hy,h⟩:=h
    have hv:v=ver (nthb s.bk) id:=by unfold ver;rw[hb];exact hc.1.symm
    obtain⟨b',hb',hp⟩:=hr.2 hv
    have hrb:=S.blocks id _ hb
    rcases hrb with⟨h1,h2⟩ |⟨b,arr,e,h1,h2,h3⟩
    ·exact absurd (h1.symm.trans hb') (by simp)
    obtain rfl:b=b':=Option.some.inj (h1.symm.trans hb')
    obtain⟨us,hu,ha⟩:=h3 i y (hy ())
    split at h
    ·rename_i hl
     refine go b (i*u.size+k) _ _ hp (rangeAt_part ha (n:=(TI t).size)) ?_ hl _ h.symm
     rw[takeC_eq];exact (((rep_cells _ u y us).1 hu).drop k).take _
    ·exact h.elim
   ·exact h.elim
  ·exact h.elim
 ·exact h.elim
theorem SimB.new {w0:World} {X:WX} {β:Nat→Option Nat} {s:St} {a:Act} {w:World} (S:SimB w0 X β s a w) {dst d:Nat} (hd:dst=d) {av:AV} {blk:Blk} {rd:List Nat} {u:Value} {w':World} {arr:Array Value} {e:TypeId}
  (hw:w'.heap=w.heap.push (.cells arr e (0,0))) (hos:w'.os=w.os) (htape:w'.tape=w.tape) (hout:w'.output=w.output)
  (hver:blk.ver=ver (nthb s.bk) d+1) (hsh:blk.short)
  (hB:∀y:Cx,(cx X w β (nthb s.bk)).le y→y.w=w'→y.β d=some w.heap.size→RepB y d blk)
  (hv:∀y:Cx,(cx X w β (nthb s.bk)).le y→y.w=w'→y.β d=some w.heap.size→y.cv d=ver (nthb s.bk) d+1→RepV y av u):
  ∃β',SimB w0 X β' (s.app (some dst) ⟨av,[(d,blk)],rd⟩) (a.put (some dst) u) w':=by
 subst hd
 have hget:∀b,b<w.heap.size→w'.heap[b]? =w.heap[b]? :=fun b hb=>by rw[hw,Array.getElem?_push,if_neg (by omega)]
 have hlt:∀b o,w.heap[b]? =some o→b<w.heap.size:=fun b o h=>by
  rcases Nat.lt_or_ge b w.heap.size with h' | h'
  ·exact h'
  ·simp[Array.getElem?_eq_none h'] at h
 by_cases hid:dst<s.bk.length
 ·refine⟨fun k=>if k=dst then some w.heap.size else β k,S.write hid hsh (fun k hk=>by simp[hk]) (by omega) (fun e=>absurd e (by omega)) (fun b hb _=>hget b hb) (by rw[hw];simp)
   (fun b arr' e' hh=>⟨arr',(hget b (hlt b _ hh)).trans hh,rfl⟩) hos htape hout (fun _ b hb=> .inr ?_) (fun hle=>?_) (fun hle=>?_)⟩
  ·simp at hb;omega
  ·exact hB _ hle rfl (by show (if dst=dst then _ else _)=_;simp)
  ·exact hv _ hle rfl (by show (if dst=dst then _ else _)=_;simp) (by show ver _ dst=_;rw[ver_set _ _ _ hid,if_pos rfl,hver])
 ·have h1:s.bk.length≤dst:=by omega
  have h2:s.sl.length≤dst:=by have:=S.len;have:=S.lenb;omega
  refine⟨β,?_⟩
  have hs:s.app (some dst) ⟨av,[(dst,blk)],rd⟩=s.app none ⟨.one .junk,[],rd⟩:=by
   simp[St.app,putD,putWs,setn_ge _ _ _ h1,setn_ge _ _ _ h2]
  have ha:a.put (some dst) u=a.put none undef:=by
   have:a.tmps.size≤dst:=by have:=S.len;omega
   simp[Act.put,Array.setIfInBounds_eq_of_size_le this]
  rw[hs,ha]
  exact S.ext hget (by rw[hw];simp) hos htape hout (repV_junk _ _)
theorem run_newVar {w:World} (t:TypeId) (v:Value):(newVar t v).run P w= .ok ⟨w.heap.size,0,none⟩ {w with heap:=w.heap.push (.cells v.cells t (0,0))}:=by
 simp[newVar,newRow,newObj,Sem.run]
theorem sound_alloc (hT:∀t,TyOK P t (TI t)) {o:Oper} {t:TypeId} (ho:o.op= .alloc t) (hd:o.dst≠none):Sound P E TI o:=by
 intro w0 X β s a w S f h N Q hN
 simp only[aop,ho] at h
 obtain⟨hk,h⟩:=h
 subst h
 obtain⟨ti,z,d,h1,h2,h3,h4,h5,h6,h7⟩:=(hT t).info hk
 have hrun:(execOp a.eval o).run P w= .ok (.value (.pointer (some ⟨w.heap.size,0,none⟩))) {w with heap:=w.heap.push (.cells z.cells t (0,0))}:=by
  simp[execOp,ho,Instr.alloc,zeroValue,typeInfo,h1,h3,run_newVar]
 obtain⟨q,hq⟩:=Option.ne_none_iff_exists'.1 hd
 have hdq:dstOf o=q:=by simp[dstOf,hq]
 rw[hdq,hq] at hN
 obtain⟨β',S'⟩:=S.new (dst:=q) (d:=q) rfl (av:= .one (.lptr q (ver (nthb s.bk) q+1) 0)) (blk:= .var (ver (nthb s.bk) q+1) (TI t).zero) (rd:=[q]) (u:= .pointer (some ⟨w.heap.size,0,none⟩))
  (w':={w with heap:=w.heap.push (.cells z.cells t (0,0))}) (arr:=z.cells) (e:=t) rfl rfl rfl rfl rfl trivial
  (fun y _ hw hb=>⟨_,z.cells,t,hb,by rw[hw];simp,h4 y⟩) (fun y _ _ hb hc=>Or.inr ⟨⟨rfl,by omega⟩,fun _=>⟨_,hb,rfl⟩⟩)
 exact wp_value hrun (by rw[hq];exact hN _ _ _ S')
theorem sound_box {o:Oper} {t:TypeId} {x:Operand} (ho:o.op= .box t x) (hd:o.dst≠none):Sound P E TI o:=by
 intro w0 X β s a w S f h N Q hN
 simp only[aop,ho] at h
 have hx:=ev_rep S.slots x
 have hfull:(ev s.sl x).full=true∧f=⟨.one (.lptr (dstOf o) (ver (nthb s.bk) (dstOf o)+1) 0),[(dstOf o,.var (ver (nthb s.bk) (dstOf o)+1) (ev s.sl x).cs)],[dstOf o]⟩:=by
  split at h
  ·exact h.elim
  ·exact h.elim
  ·rename_i h1 h2
   refine⟨?_,h.symm⟩
   cases hv:ev s.sl x with
   | one c=>cases c <;> simp_all [AV.full]
   | agg cs=>rfl
   | tup xs=>simp_all
 obtain⟨hf,rfl⟩:=hfull
 have hnt:∀xs,ev s.sl x≠ .tup xs:=fun xs e=>by rw[e] at hf;simp[AV.full] at hf
 have hc:=(repV1_of hx hnt).cells hf
 have hrun:(execOp a.eval o).run P w= .ok (.value (.pointer (some ⟨w.heap.size,0,none⟩))) {w with heap:=w.heap.push (.cells (a.eval x).cells t (0,0))}:=by
  simp[execOp,ho,Instr.box,run_newVar]
 obtain⟨q,hq⟩:=Option.ne_none_iff_exists'.1 hd
 have hdq:dstOf o=q:=by simp[dstOf,hq]
 rw[hdq,hq] at hN
 obtain⟨β',S'⟩:=S.new (dst:=q) (d:=q) rfl (av:= .one (.lptr q (ver (nthb s.bk) q+1) 0)) (blk:= .var (ver (nthb s.bk) q+1) (ev s.sl x).cs) (rd:=[q]) (u:= .pointer (some ⟨w.heap.size,0,none⟩))
  (w':={w with heap:=w.heap.push (.cells (a.eval x).cells t (0,0))}) (arr:=(a.eval x).cells) (e:=t) rfl rfl rfl rfl rfl trivial
  (fun y hle hw hb=>⟨_,_,t,hb,by rw[hw];simp,hc.mono fun _ _=>RepC.mono hle⟩) (fun y _ _ hb hc=>Or.inr ⟨⟨rfl,by omega⟩,fun _=>⟨_,hb,rfl⟩⟩)
 exact wp_value hrun (by rw[hq];exact hN _ _ _ S')
end
end Go.Abs
