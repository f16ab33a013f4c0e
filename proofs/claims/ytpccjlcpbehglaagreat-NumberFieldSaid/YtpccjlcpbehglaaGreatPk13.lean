/- Part 14 of a proof. Conditions: each theorem's own. -/
import Derived.Test.YtpccjlcpbehglaaGreatProg
import Derived.Deep.Slices
import Derived.ProofKit
import Derived.Test.YtpccjlcpbehglaaGreatPk12
set_option linter.all false
set_option maxHeartbeats 8000000
open Go.Proofs
namespace Go.Abs
open Go.RowKit
def zC:AC→Value→Bool
 | .int k n,.int k' n'=>k==k'&&n==n'
 | .bool b,.bool b'=>b==b'
 | .nil,.slice none 0 0=>true
 | .sl _ [],.slice none 0 0=>true
 | _,_=>false
def zCs:List AC→List Value→Bool
 | [],[]=>true
 | c::cs,v::vs=>zC c v&&zCs cs vs
 | _,_=>false
theorem zC_rep {c:AC} {v:Value} (h:zC c v=true) (x:Cx):RepC x c v:=by
 unfold zC at h
 split at h
 ·simp only[Bool.and_eq_true,beq_iff_eq] at h
  obtain⟨rfl,rfl⟩:=h
  rfl
 ·simp only[beq_iff_eq] at h
  subst h
  rfl
 ·rfl
 ·exact⟨none,0,rfl,Nat.le_refl _,by simp,.inl rfl⟩
 ·cases h
theorem zCs_rep:∀{cs:List AC} {vs:List Value},zCs cs vs=true→∀x,All2 (RepC x) cs vs
 | [],[],_,_=>trivial
 | _::_,_::_,h,x=>by simp only[zCs,Bool.and_eq_true] at h;exact⟨zC_rep h.1 x,zCs_rep h.2 x⟩
 | [],_::_,h,_=>by simp[zCs] at h
 | _::_,[],h,_=>by simp[zCs] at h
def chkKnown (P:Program) (t:TypeId) (i:Info):Bool:=
 match P.info? t with
 | some ti=>match P.underlying t with
  | some d=>match ti.zero with
   | some z=>ti.size==i.size&&zCs i.zero z.cells.toList&&d.isRow==i.agg&&(i.agg||i.size==1)
   | none=>false
  | none=>false
 | none=>false
def chkKind (P:Program) (t:TypeId) (k:IntKind):Bool:=
 match P.underlying t with
 | some (.int k')=>k'==k
 | _=>false
def chkSl (P:Program) (t:TypeId) (i:Info):Bool:=
 match P.underlying t with
 | some (.slice e)=>e==i.eid&&(match P.info? i.eid with
  | some ei=>match ei.zero with
   | some z=>ei.size==i.elem.size&&ei.bytes==i.ebytes&&decide (0<ei.bytes)&&zCs (cells i.elem i.zel) z.cells.toList
   | none=>false
  | none=>false)
 | _=>false
def chkField (P:Program) (p:Nat×Nat×Bool) (fl:Field):Bool:=
 match P.info? fl.type with
 | some ti=>match P.underlying fl.type with
  | some d=>fl.offset==p.1&&ti.size==p.2.1&&decide (0<p.2.1)&&d.isRow==p.2.2&&(p.2.2||p.2.1==1)
  | none=>false
 | none=>false
def chkFs (P:Program):List (Nat×Nat×Bool)→List Field→Bool
 | [],[]=>true
 | p::ps,f::fs=>chkField P p f&&chkFs P ps fs
 | _,_=>false
def chkFields (P:Program) (t:TypeId) (i:Info):Bool:=
 match P.underlying t with
 | some (.struct fs)=>chkFs P i.fields fs.toList
 | _=>false
def chkB (P:Program) (t:TypeId):Bool:=
 match P.underlying t with
 | some .bool=>true
 | _=>false
def chkTy (P:Program) (t:TypeId) (i:Info):Bool:=
 (!i.known||chkKnown P t i)&&(match i.kind with | some k=>chkKind P t k | none=>true)&&(!i.sl||chkSl P t i)&&(!i.isB||chkB P t)&&(!i.known||i.fields.isEmpty||chkFields P t i)
theorem chkFs_spec {P:Program}:∀{ps:List (Nat×Nat×Bool)} {fs:List Field},chkFs P ps fs=true→ps.length=fs.length∧∀(f:Nat) (p:Nat×Nat×Bool),ps[f]? =some p→∃fl,fs[f]? =some fl∧chkField P p fl=true
 | [],[],_=>⟨rfl,fun f p h=>by simp at h⟩
 | p::ps,f::fs,h=>by
  simp only[chkFs,Bool.and_eq_true] at h
  obtain⟨h1,h2⟩:=chkFs_spec h.2
  refine⟨by simp[h1],fun i q hq=>?_⟩
  cases i with
  | zero=>simp at hq;subst hq;exact⟨f,rfl,h.1⟩
  | succ i=>simpa using h2 i q (by simpa using hq)
 | [],_::_,h=>by simp[chkFs] at h
 | _::_,[],h=>by simp[chkFs] at h
theorem tyOK_of_chk {P:Program} {t:TypeId} {i:Info} (h:chkTy P t i=true):TyOK P t i:=by
 simp only[chkTy,Bool.and_eq_true] at h
 obtain⟨⟨⟨⟨h1,h2⟩,h3⟩,h5⟩,h4⟩:=h
 refine⟨fun hk=>?_,fun k hk=>?_,fun hb=>?_,fun hs=>?_,fun hk hf=>?_⟩
 ·simp only[hk,Bool.not_true,Bool.false_or] at h1
  unfold chkKnown at h1
  split at h1
  ·rename_i ti e1
   split at h1
   ·rename_i d e2
    split at h1
    ·rename_i z e3
     simp only[Bool.and_eq_true,beq_iff_eq,Bool.or_eq_true] at h1
     obtain⟨⟨⟨a1,a2⟩,a3⟩,a4⟩:=h1
     exact⟨ti,z,d,e1,a1,e3,zCs_rep a2,e2,a3,fun ha=>a4.resolve_left (by simp[ha])⟩
    ·cases h1
   ·cases h1
  ·cases h1
 ·rw[hk] at h2
  simp only at h2
  unfold chkKind at h2
  split at h2
  ·rename_i k' e;rw[e];simp only[beq_iff_eq] at h2;rw[h2]
  ·cases h2
 ·simp only[hb,Bool.not_true,Bool.false_or] at h5
  unfold chkB at h5
  split at h5
  ·assumption
  ·cases h5
 ·simp only[hs,Bool.not_true,Bool.false_or] at h3
  unfold chkSl at h3
  split at h3
  ·rename_i e e1
   simp only[Bool.and_eq_true,beq_iff_eq] at h3
   obtain⟨rfl,h3⟩:=h3
   refine⟨e1,?_⟩
   split at h3
   ·rename_i ei e2
    split at h3
    ·rename_i z e3
     simp only[Bool.and_eq_true,beq_iff_eq,decide_eq_true_eq] at h3
     obtain⟨⟨⟨a1,a2⟩,a3⟩,a4⟩:=h3
     exact⟨ei,z,e2,a1,a2,a3,e3,zCs_rep a4⟩
    ·cases h3
   ·cases h3
  ·cases h3
 ·have hf':i.fields.isEmpty=false:=by cases hh:i.fields with
   | nil=>exact absurd hh hf
   | cons _ _=>rfl
  simp only[hk,hf',Bool.not_true,Bool.false_or] at h4
  unfold chkFields at h4
  split at h4
  ·rename_i fs e1
   obtain⟨g1,g2⟩:=chkFs_spec h4
   refine⟨fs,e1,by simpa using g1,fun f fo n g hq=>?_⟩
   obtain⟨fl,q1,q2⟩:=g2 f _ hq
   unfold chkField at q2
   split at q2
   ·rename_i ti e2
    split at q2
    ·rename_i d e3
     simp only[Bool.and_eq_true,beq_iff_eq,decide_eq_true_eq,Bool.or_eq_true] at q2
     obtain⟨⟨⟨⟨b1,b2⟩,b3⟩,b4⟩,b5⟩:=q2
     exact⟨fl,d,by simpa using q1,b1,by rw[e2];exact congrArg some b2,b3,e3,b4,fun hg=>b5.resolve_left (by simp[hg])⟩
    ·cases q2
   ·cases q2
  ·cases h4
def noInfo:Info:={known:=false,zel:=false}
theorem tyOK_no (P:Program) (t:TypeId):TyOK P t noInfo:=tyOK_of_chk (by rfl)
end Go.Abs
namespace Go.Abs
open Go.RowKit
abbrev tInt:T:= .pr .bool (.sl .u32)
abbrev tRat:T:= .pr tInt tInt
abbrev tNum:T:= .pr (.sl (.sl tRat)) (.sl tRat)
abbrev tVec:T:= .pr tNum tNum
abbrev tOp:T:= .pr .u8 (.pr .u8 (.pr .u8 (.pr .i8 .u8)))
def TI:TypeId→Info
 | 2=>{size:=1,zero:=[.int .i64 0],kind:=some .i64,zel:=false}
 | 3=>{size:=1,zero:=[.int .i64 0],kind:=some .i64,zel:=false}
 | 4=>{size:=1,zero:=[.bool false],isB:=true,zel:=false}
 | 5=>{size:=1,zero:=[.int .u8 0],kind:=some .u8,zel:=false}
 | 22=>{size:=1,zero:=[.nil],sl:=true,eid:=98,elem:=tOp,zel:=((0,0,0,0,0):el tOp),ebytes:=5}
 | 23=>{size:=1,zero:=[.nil],sl:=true,eid:=98,elem:=tOp,zel:=((0,0,0,0,0):el tOp),ebytes:=5}
 | 24=>{size:=1,zero:=[.nil],sl:=true,eid:=25,elem:=(.sl tRat),zel:=([]:el (.sl tRat)),ebytes:=24}
 | 25=>{size:=1,zero:=[.nil],sl:=true,eid:=73,elem:=tRat,zel:=(((false,[]),(false,[])):el tRat),ebytes:=64}
 | 27=>{size:=2,zero:=[.nil,.nil],agg:=true,zel:=false,fields:=[(0,1,false),(1,1,false)]}
 | 31=>{size:=1,zero:=[.int .i64 0],kind:=some .i64,zel:=false}
 | 44=>{size:=1,zero:=[.nil],sl:=true,eid:=27,elem:=tNum,zel:=(([],[]):el tNum),ebytes:=48}
 | 53=>{size:=1,zero:=[.nil],sl:=true,eid:=5,elem:= .u8,zel:=(0:el .u8),ebytes:=1}
 | 55=>{size:=2,zero:=[.nil,.nil],agg:=true,zel:=false,fields:=[(0,1,false),(1,1,false)]}
 | 56=>{size:=1,zero:=[.nil],sl:=true,eid:=61,elem:=tVec,zel:=((([],[]),([],[])):el tVec),ebytes:=96}
 | 61=>{size:=4,zero:=[.nil,.nil,.nil,.nil],agg:=true,zel:=false,fields:=[(0,2,true),(2,2,true)]}
 | 69=>{size:=1,zero:=[.nil],sl:=true,eid:=144,elem:= .u32,zel:=(0:el .u32),ebytes:=4}
 | 71=>{size:=2,zero:=[.bool false,.nil],agg:=true,zel:=false,fields:=[(0,1,false),(1,1,false)]}
 | 73=>{size:=4,zero:=[.bool false,.nil,.bool false,.nil],agg:=true,zel:=false,fields:=[(0,2,true),(2,2,true)]}
 | 96=>{size:=1,zero:=[.int .i8 0],kind:=some .i8,zel:=false}
 | 98=>{size:=5,zero:=[.int .u8 0,.int .u8 0,.int .u8 0,.int .i8 0,.int .u8 0],agg:=true,zel:=false,fields:=[(0,1,false),(1,1,false),(2,1,false),(3,1,false),(4,1,false)]}
 | 104=>{size:=2,zero:=[.nil,.nil],agg:=true,zel:=false,fields:=[(0,1,false),(1,1,false)]}
 | 144=>{size:=1,zero:=[.int .u32 0],kind:=some .u32,zel:=false}
 | 150=>{size:=1,zero:=[.int .u64 0],kind:=some .u64,zel:=false}
 | 165=>{size:=1,zero:=[.int .u64 0],kind:=some .u64,zel:=false}
 | _=>noInfo
theorem tiOK (t:TypeId):TyOK Tryz.prog t (TI t):=by
 unfold TI
 split <;> first | exact tyOK_no _ _ | exact tyOK_of_chk (by kernel_rfl)
theorem mixedOK:Tryz.prog.follows .mixedOrders=true:=by kernel_rfl
end Go.Abs
namespace Go.Abs
open Go.RowKit
def bodyOK (fn : Func) : Bool := (fn.name == "runtime.NumGoroutine") == false && match fn.body with | some c => dstC c | none => false
def bodyP (E:Env) (fn:Func) (r:AV) (b1:Option Blk) (s:St):Prop:=
 match fn.body with
 | some c=>awp E TI fn.ntmps c (post TI fn.results.toList r b1) s
 | none=>False
theorem acall_fn {f:FuncId} {fn:Func} (hf:Tryz.prog.funcs[f]? =some fn) (ho:bodyOK fn=true) {args:List AV} {r:AV} (hp:(pureArgs args&&(r.all pureR&&(r.wf&&Nat.ble args.length fn.ntmps)))=true)
  (h:∀E,env Tryz.prog=E→bodyP E fn r none (st0 fn.ntmps args none)):ACall Tryz.prog false f args r:=by
 have h:=h _ rfl
 unfold bodyP at h
 unfold bodyOK at ho
 simp only[Bool.and_eq_true] at ho hp
 split at h
 ·rename_i c hc
  rw[hc] at ho
  exact acall_of_awp (TI:=TI) (n:=fn.ntmps) (c:=c) (rs:=fn.results.toList) ⟨⟨fn,hf,by simpa using ho.1,hc,rfl,rfl⟩,ho.2,tiOK,mixedOK⟩ hp.1 ⟨hp.2.1,hp.2.2.1⟩ (Nat.le_of_ble_eq_true hp.2.2.2) h
 ·exact h.elim
theorem bcall_fn {f:FuncId} {fn:Func} (hf:Tryz.prog.funcs[f]? =some fn) (ho:bodyOK fn=true) {c0:AC} {b0 b1:Blk} {args:List AV} {r:AV} (hp:(pureArgs args&&(r.all lentF&&(Nat.ble (args.length+1) fn.ntmps&&(lentC c0&&(b0.lone&&b1.lone)))))=true)
  (h:∀E,env Tryz.prog=E→bodyP E fn r (some b1) (st0 fn.ntmps (.one c0::args) (some b0))):BCall Tryz.prog f c0 b0 args r b1:=by
 have h:=h _ rfl
 unfold bodyP at h
 unfold bodyOK at ho
 simp only[Bool.and_eq_true] at ho hp
 split at h
 ·rename_i c hc
  rw[hc] at ho
  exact bcall_of_awp (TI:=TI) (n:=fn.ntmps) (c:=c) (rs:=fn.results.toList) ⟨⟨fn,hf,by simpa using ho.1,hc,rfl,rfl⟩,ho.2,tiOK,mixedOK⟩ hp.1 hp.2.1 hp.2.2.2 (Nat.le_of_ble_eq_true hp.2.2.1) h
 ·exact h.elim
def bodyD (E:Env) (fn:Func) (r:AV) (b0:Blk) (s:St):Prop:=
 match fn.body with
 | some c=>awp E TI fn.ntmps c (postD TI fn.results.toList r b0) s
 | none=>False
theorem dcall_fn {f:FuncId} {fn:Func} (hf:Tryz.prog.funcs[f]? =some fn) (ho:bodyOK fn=true) {b0:Blk} {args:List AV} {r:AV} (hp:(lentArgs args&&(r.all pureC&&(b0.lone&&(Nat.ble args.length fn.ntmps&&Nat.ble 1 fn.ntmps))))=true)
  (h:∀E,env Tryz.prog=E→bodyD E fn r b0 (st0 fn.ntmps args (some b0))):DCall Tryz.prog f args b0 r:=by
 have h:=h _ rfl
 unfold bodyD at h
 unfold bodyOK at ho
 simp only[Bool.and_eq_true] at ho hp
 split at h
 ·rename_i c hc
  rw[hc] at ho
  exact dcall_of_awp (TI:=TI) (n:=fn.ntmps) (c:=c) (rs:=fn.results.toList) ⟨⟨fn,hf,by simpa using ho.1,hc,rfl,rfl⟩,ho.2,tiOK,mixedOK⟩ hp.1 hp.2.1 hp.2.2.1 (Nat.le_of_ble_eq_true hp.2.2.2.1) (Nat.le_of_ble_eq_true hp.2.2.2.2) h
 ·exact h.elim
theorem useD {E:Env} {f:FuncId} {args:List AV} {b0:Blk} {r:AV} (hE:env Tryz.prog=E) (h:DCall Tryz.prog f args b0 r):E.D f args b0 r:=hE ▸ h
def lenS:AV→Nat
 | .one (.sl _ l)=>l.length
 | _=>0
def intS:AV→Int
 | .one (.int _ n)=>n
 | _=>0
theorem useC {E:Env} {fl:Bool} {f:FuncId} {args:List AV} {r:AV} (hE:env Tryz.prog=E) (h:ACall Tryz.prog fl f args r):E.C fl f args r:=hE ▸ h
theorem useB {E:Env} {f:FuncId} {c0:AC} {b0 b1:Blk} {args:List AV} {r:AV} (hE:env Tryz.prog=E) (h:BCall Tryz.prog f c0 b0 args r b1):E.B f c0 b0 args r b1:=hE ▸ h
end Go.Abs
namespace Go.Abs
abbrev LR:=List (el tRat)
abbrev CF:=ACall Tryz.prog false
theorem cL {E:Env} {fl:Bool} {g:FuncId} {args:List AV} {r:AV} {L:List AV→Prop} {K:AV→Prop} {X:Prop} (hE:env Tryz.prog=E) (h:ACall Tryz.prog fl g args r) (hl:L args) (hk:K r):
 (∃(a:List AV) (r:AV),(Unit→L a)∧(Unit→E.C fl g a r)∧K r)∨X:= .inl ⟨args,r,fun _=>hl,fun _=>useC hE h,hk⟩
theorem cA {E:Env} {fl:Bool} {g:FuncId} {args:List AV} {r:AV} {L:List AV→Prop} {K:AV→Prop} {X:Prop} (hE:env Tryz.prog=E) (h:ACall Tryz.prog fl g args r) (hk:K r)
 (hl:L args:=by repeat' (first | exact rfl | exact trivial | exact Or.inl rfl | refine⟨?_,?_⟩)):
 (∃(a:List AV) (r:AV),(Unit→L a)∧(Unit→E.C fl g a r)∧K r)∨X:= .inl ⟨args,r,fun _=>hl,fun _=>useC hE h,hk⟩
theorem fA {A B C:Prop} (h:A) (hb:B) (hc:C):(Unit→A∧B∧C)∧True:=⟨fun _=>⟨h,hb,hc⟩,trivial⟩
theorem i64 {c:Int} (h: -9223372036854775808≤c∧c<9223372036854775808):in64 c:=h
end Go.Abs
namespace Go.Abs
open Go.RowKit Go.ChangeShapes Go.WideShapes Go.Deep
def intT (P:Program) (k:IntKind) (t:TypeId):Bool:=match P.underlying t with | some (.int j)=>decide (j=k) | _=>false
def okF (P:Program) (ok:T→TypeId→Bool):T→List Field→Nat→Bool
 | _,[],_=>false
 | t,[f],o=>f.offset==o&&(P.cellsOf f.type==t.size&&ok t f.type)
 | .pr a b,f::fs,o=>(f.offset==o&&(P.cellsOf f.type==a.size&&ok a f.type))&&okF P ok b fs (o+a.size)
 | _,_,_=>false
def okT (P:Program):Nat→T→TypeId→Bool
 | 0,_,_=>false
 | n+1,τ,t=>match τ with
  | .u8=>intT P .u8 t
  | .u32=>intT P .u32 t
  | .u64=>intT P .u64 t
  | .i8=>intT P .i8 t
  | .i64=>intT P .i64 t
  | .bool=>match P.underlying t with | some .bool=>true | _=>false
  | .sl e=>match P.underlying t with | some (.slice u)=>okT P n e u&&(P.cellsOf u==e.size&&decide (0<P.bytesOf u)) | _=>false
  | .pr a b=>match P.underlying t with | some (.struct fs)=>okF P (okT P n) (.pr a b) fs.toList 0&&P.cellsOf t==a.size+b.size | _=>false
theorem intT_eq {P:Program} {k:IntKind} {t:TypeId} (h:intT P k t=true):P.underlying t=some (.int k):=by
 unfold intT at h
 split at h
 ·rename_i j e;rw[e,of_decide_eq_true h]
 ·simp at h
theorem wf_u {k:IntKind} {n:Int} (h:(Lit.int k n).wf=true):k.min≤n∧n≤k.max:=by
 simpa [Lit.wf] using h
theorem okF_open {H:Type} {enc:TypeId×Value→H} {P:Program} {w:World} {base:Nat} {sp:Nat→Bool} {hd:Bool} {n:Nat} {cs:List Value} {ok:T→TypeId→Bool}
  (hok:∀(T:T) (t:TypeId) (cs:List Value) (x:DataW H×List MemPlace),ok T t=true→DataW.trod enc P w base sp hd n t cs=some x→(∀k∈x.1.weights P t,k≤reachBytes)→∃y:el T,rep w (fun b=>b<w.heap.size) T y cs):
  ∀(T:T) (fs:List Field) (o:Nat),okF P ok T fs o=true→cs.length=o+T.size→
   (∀(i:Nat) (f:Field),fs[i]? =some f→∃x,DataW.trod enc P w base sp hd n f.type ((cs.drop f.offset).take (P.cellsOf f.type))=some x∧∀k∈x.1.weights P f.type,k≤reachBytes)→∃y:el T,rep w (fun b=>b<w.heap.size) T y (cs.drop o)
 | T,[],o,h,_,_=>by cases T <;> simp[okF] at h
 | T,[f],o,h,hl,hx=>by
  have h':(f.offset==o&&(P.cellsOf f.type==T.size&&ok T f.type))=true:=by cases T <;> exact h
  simp only[Bool.and_eq_true,beq_iff_eq] at h'
  obtain⟨x,hx,hw⟩:=hx 0 f rfl
  rw[h'.1,h'.2.1,List.take_of_length_le (by rw[List.length_drop];omega)] at hx
  exact hok T _ _ _ h'.2.2 hx hw
 | .pr a b,f::g::fs,o,h,hl,hx=>by
  have h':((f.offset==o&&(P.cellsOf f.type==a.size&&ok a f.type))&&okF P ok b (g::fs) (o+a.size))=true:=h
  simp only[Bool.and_eq_true,beq_iff_eq] at h'
  have hs:(T.pr a b).size=a.size+b.size:=rfl
  obtain⟨x,hx0,hw⟩:=hx 0 f rfl
  rw[h'.1.1,h'.1.2.1] at hx0
  obtain⟨y1,h1⟩:=hok a _ _ _ h'.1.2.2 hx0 hw
  obtain⟨y2,h2⟩:=okF_open hok b (g::fs) (o+a.size) h'.2 (by omega) (fun i f hf=>hx (i+1) f hf)
  refine⟨(y1,y2),_,_,?_,h1,h2⟩
  rw[←List.drop_drop,List.take_append_drop]
 | .u8,f::g::fs,o,h,_,_=>by simp[okF] at h
 | .u32,f::g::fs,o,h,_,_=>by simp[okF] at h
 | .u64,f::g::fs,o,h,_,_=>by simp[okF] at h
 | .i8,f::g::fs,o,h,_,_=>by simp[okF] at h
 | .i64,f::g::fs,o,h,_,_=>by simp[okF] at h
 | .bool,f::g::fs,o,h,_,_=>by simp[okF] at h
 | .sl _,f::g::fs,o,h,_,_=>by simp[okF] at h
theorem spot_none {w:World} {a:Addr} {v:Value} (h:w.cell? a=some v):a.spot=none∧a.block<w.heap.size:=by
 unfold World.cell? at h
 split at h
 ·rename_i c e l hc
  refine⟨?_,(Array.getElem?_eq_some_iff.1 hc).1⟩
  cases hs:a.spot with
  | none=>rfl
  | some x=>simp[hs] at h
 ·simp at h
theorem addr_add {a:Addr} (h:a.spot=none) (i:Nat):a.add i=⟨a.block,a.off+i,none⟩:=by
 unfold Addr.add
 cases a
 simp only at h
 subst h
 split <;> simp_all
theorem list_of_fn {α:Type} {p:Nat→α→Prop}:∀(n:Nat),(∀i,i<n→∃x,p i x)→∃l:List α,l.length=n∧∀i x,l[i]? =some x→p i x
 | 0,_=>⟨[],rfl,fun i x h=>by simp at h⟩
 | n+1,h=>by
  obtain⟨l,hl,hp⟩:=list_of_fn n fun i hi=>h i (by omega)
  obtain⟨x,hx⟩:=h n (by omega)
  refine⟨l++[x],by simp[hl],fun i y hy=>?_⟩
  by_cases hi:i<n
  ·rw[List.getElem?_append_left (by omega)] at hy;exact hp i y hy
  ·rw[List.getElem?_append_right (by omega)] at hy
   have:i=n:=by
    apply Classical.byContradiction;intro hne
    rw[List.getElem?_eq_none (by simp;omega)] at hy;simp at hy
   subst this
   rw[hl,Nat.sub_self] at hy
   simp at hy;subst hy;exact hx
theorem mem_weightsAll {H:Type} {P:Program} {e:TypeId} {d:DataW H} {q:Nat}:∀{l:List (DataW H)},d∈l→q∈d.weights P e→q∈DataW.weightsAll P e l
 | [],h,_=>by simp at h
 | a::l,h,hq=>by
  rw[DataW.weightsAll,List.mem_append]
  rcases List.mem_cons.1 h with rfl | h
  ·exact .inl hq
  ·exact .inr (mem_weightsAll h hq)
theorem mem_weightsEach {H:Type} {P:Program} {q:Nat}:∀{ts:List TypeId} {l:List (DataW H)} (i:Nat) (t:TypeId) (d:DataW H),ts[i]? =some t→l[i]? =some d→q∈d.weights P t→q∈DataW.weightsEach P ts l
 | [],_,i,t,d,h,_,_=>by simp at h
 | _::_,[],i,t,d,_,h,_=>by simp at h
 | u::ts,a::l,0,t,d,h,h',hq=>by
  rw[DataW.weightsEach,List.mem_append]
  simp at h h'
  subst h;subst h'
  exact .inl hq
 | u::ts,a::l,i+1,t,d,h,h',hq=>by
  rw[DataW.weightsEach,List.mem_append]
  exact .inr (mem_weightsEach i t d h h' hq)
theorem open_any {H:Type} {enc:TypeId×Value→H} {P:Program} {w:World} {base:Nat} {sp:Nat→Bool} {hd:Bool}:
  ∀(m:Nat) (T:T) (t:TypeId),okT P m T t=true→∀(n:Nat) (cs:List Value) (x:DataW H×List MemPlace),DataW.trod enc P w base sp hd n t cs=some x→(∀k∈x.1.weights P t,k≤reachBytes)→
   ∃y:el T,rep w (fun b=>b<w.heap.size) T y cs
 | 0,_,_,h,_,_,_,_,_=>by simp[okT] at h
 | m+1,.u8,t,h,n,cs,x,hx,hw=>by
  obtain⟨v,rfl,rfl,hwf⟩:=DataW.trod_int (intT_eq h) hx
  have hb:(0:Int)≤v∧v≤255:=wf_u hwf
  refine⟨UInt8.ofNat v.toNat,?_⟩
  show [Value.int .u8 v]=[Value.int .u8 _]
  rw[UInt8.toNat_ofNat'];congr 2;omega
 | m+1,.u32,t,h,n,cs,x,hx,hw=>by
  obtain⟨v,rfl,rfl,hwf⟩:=DataW.trod_int (intT_eq h) hx
  have hb:(0:Int)≤v∧v≤4294967295:=wf_u hwf
  refine⟨UInt32.ofNat v.toNat,?_⟩
  show [Value.int .u32 v]=[Value.int .u32 _]
  rw[UInt32.toNat_ofNat'];congr 2;omega
 | m+1,.u64,t,h,n,cs,x,hx,hw=>by
  obtain⟨v,rfl,rfl,hwf⟩:=DataW.trod_int (intT_eq h) hx
  have hb:(0:Int)≤v∧v≤18446744073709551615:=wf_u hwf
  refine⟨UInt64.ofNat v.toNat,?_⟩
  show [Value.int .u64 v]=[Value.int .u64 _]
  rw[UInt64.toNat_ofNat'];congr 2;omega
 | m+1,.i8,t,h,n,cs,x,hx,hw=>by
  obtain⟨v,rfl,rfl,hwf⟩:=DataW.trod_int (intT_eq h) hx
  exact⟨v,rfl⟩
 | m+1,.i64,t,h,n,cs,x,hx,hw=>by
  obtain⟨v,rfl,rfl,hwf⟩:=DataW.trod_int (intT_eq h) hx
  exact⟨v,rfl⟩
 | m+1,.bool,t,h,n,cs,x,hx,hw=>by
  have h':(match P.underlying t with | some .bool=>true | _=>false)=true:=h
  split at h'
  ·rename_i e
   obtain⟨v,rfl,rfl⟩:=DataW.trod_bool e hx
   exact⟨v,rfl⟩
  ·simp at h'
 | m+1,.sl e,t,h,n,cs,x,hx,hw=>by
  have h':(match P.underlying t with | some (.slice u)=>okT P m e u&&(P.cellsOf u==e.size&&decide (0<P.bytesOf u)) | _=>false)=true:=h
  split at h'
  ·rename_i u hu
   simp only[Bool.and_eq_true,beq_iff_eq,decide_eq_true_eq] at h'
   rcases open_slice hu hx with⟨rfl,rfl⟩ |⟨a,len,cap,k,j,D,Pl,rfl,hb,hlc,hcm,hk,hxe,hi⟩
   ·exact⟨[],none,0,rfl,Nat.le_refl _,Nat.zero_le _,.inl rfl⟩
   ·have hkl:len≤k:=by rw[hk];split <;> omega
    rw[h'.2.1] at hi
    rw[hxe] at hw
    have hws:DataW.weights P t (DataW.slice ((List.range len).map D) ((List.range (k-len)).map fun j=>D (len+j)))=(((List.range len).map D).length+((List.range (k-len)).map fun j=>D (len+j)).length)*P.bytesOf u::(DataW.weightsAll P u ((List.range len).map D)++DataW.weightsAll P u ((List.range (k-len)).map fun j=>D (len+j))):=by
     unfold DataW.weights;rw[hu]
    have hmax:len≤140737488355328:=by
     have:=hw _ (by rw[hws];exact List.mem_cons_self)
     simp only[List.length_map,List.length_range] at this
     have h3:len≤(len+(k-len))*P.bytesOf u:=Nat.le_trans (Nat.le_add_right _ _) (Nat.le_mul_of_pos_right _ h'.2.2)
     have h4:reachBytes≤140737488355328:=by decide
     omega
    have hs:=T.size_pos e
    have ha0:0<len→a.spot=none:=fun h0=>by
     obtain⟨us,hc,ht⟩:=hi 0 (by omega)
     obtain⟨_,hlen,hat⟩:=World.cells?_some hc
     have h0:=hat 0 hs
     rw[List.getElem?_eq_getElem (by omega),Nat.zero_mul] at h0
     have h1:=(spot_none h0).1
     unfold Addr.add at h1
     simpa using h1
    obtain⟨l,hl,hp⟩:=list_of_fn (α:=el e) (p:=fun i y=>∃us,rep w (fun b=>b<w.heap.size) e y us∧a.spot=none∧a.block<w.heap.size∧w.rangeAt a.block (a.off+i*e.size) us) len (fun i hil=>by
     obtain⟨us,hc,ht⟩:=hi i (by omega)
     obtain⟨y,hy⟩:=open_any m e u h'.1 _ _ _ ht (fun q hq=>hw q (by rw[hws];exact List.mem_cons_of_mem _ (List.mem_append_left _ (mem_weightsAll (List.mem_map.2 ⟨i,List.mem_range.2 hil,rfl⟩) hq))))
     obtain⟨_,hlen,hat⟩:=World.cells?_some hc
     have h0:=hat 0 hs
     rw[List.getElem?_eq_getElem (by omega)] at h0
     have h1:=spot_none h0
     have ha:a.spot=none:=ha0 (by omega)
     have hb':a.block<w.heap.size:=by
      have:=h1.2
      rw[addr_add ha,addr_add rfl] at this
      exact this
     refine⟨y,us,hy,ha,hb',fun j v hj=>?_⟩
     have hjl:j<us.length:=by
      apply Classical.byContradiction;intro hn;rw[List.getElem?_eq_none (by omega)] at hj;simp at hj
     have:=hat j (by omega)
     rw[addr_add ha,addr_add rfl] at this
     rw[this];exact hj)
    subst hl
    refine⟨l,some a,cap,rfl,hlc,hmax,?_⟩
    cases l with
    | nil=>exact .inl rfl
    | cons y l=>
     right
     obtain⟨_,_,ha,hb',_⟩:=hp 0 y rfl
     obtain⟨ab,ao,asp⟩:=a
     simp only at ha;subst ha
     exact⟨ab,ao,rfl,hb',fun i z hz=>by obtain⟨us,h1,_,_,h2⟩:=hp i z hz;exact⟨us,h1,h2⟩⟩
  ·simp at h'
 | m+1,.pr a b,t,h,n,cs,x,hx,hw=>by
  have h':(match P.underlying t with | some (.struct fs)=>okF P (okT P m) (.pr a b) fs.toList 0&&P.cellsOf t==a.size+b.size | _=>false)=true:=h
  split at h'
  ·rename_i fs hu
   simp only[Bool.and_eq_true,beq_iff_eq] at h'
   obtain⟨xs,n',_,hxe,hcl,hxl,hf⟩:=DataW.trod_struct hu hx
   have:=okF_open (w:=w) (n:=n') (cs:=cs) (ok:=okT P m) (fun T t cs x ho hx hw=>open_any m T t ho n' cs x hx hw) (.pr a b) fs.toList 0 h'.1 (by rw[hcl,h'.2,Nat.zero_add];rfl) (fun i f hf'=>by
    have hf'':fs[i]? =some f:=by rw[←Array.getElem?_toList];exact hf'
    have hi:i<fs.size:=(Array.getElem?_eq_some_iff.1 hf'').1
    rw[hf i f hf'']
    refine⟨xs[i]'(by omega),List.getElem?_eq_getElem (by omega),fun q hq=>hw q ?_⟩
    rw[hxe]
    have e:DataW.weights P t (DataW.agg (xs.map (·.1)))=DataW.weightsEach P (fs.toList.map (·.type)) (xs.map (·.1)):=by
     unfold DataW.weights;rw[hu]
    rw[e]
    exact mem_weightsEach i f.type (xs[i]'(by omega)).1 (by rw[List.getElem?_map,hf'];rfl) (by rw[List.getElem?_map,List.getElem?_eq_getElem (by omega)];rfl) hq)
   exact this
  ·simp at h'
end Go.Abs
namespace Go.Abs
open Go.RowKit Go.ChangeShapes Go.WideShapes Go.Deep
def HL:List T→Type
 | []=>PUnit
 | t::ts=>el t×HL ts
def avals:(ts:List T)→HL ts→List AV
 | [],_=>[]
 | t::ts,x=>aval t x.1::avals ts x.2
def okAll (P:Program):List T→List TypeId→Bool
 | [],[]=>true
 | τ::τs,t::ts=>(okT P 20 τ t&&(P.readableRec t&&decide (t<P.types.size)))&&okAll P τs ts
 | _,_=>false
theorem cells_of_one {v:Value} {c:Value} (h:v.cells.toList=[c]) (hv:v.oneCell'=true):v=c:=by
 rw[oneCell_cells hv] at h;simpa using h
theorem repV_any {P:Program} {w:World} {I:Nat→Prop} {r:Reach} {b:Nat} {m:Nat}:∀{τ:T} {t:TypeId} {v:Value} {y:el τ},okT P (m+1) τ t=true→Value.okWide P w r b t v→rep w I τ y v.cells.toList→RepV (nocx w I) (aval τ y) v
 | .u8,t,v,y,h,hv,hr=>by
  obtain⟨n,rfl⟩:=okWide_int (intT_eq h) hv
  exact .inr (cells_of_one hr rfl)
 | .u32,t,v,y,h,hv,hr=>by
  obtain⟨n,rfl⟩:=okWide_int (intT_eq h) hv
  exact .inr (cells_of_one hr rfl)
 | .u64,t,v,y,h,hv,hr=>by
  obtain⟨n,rfl⟩:=okWide_int (intT_eq h) hv
  exact .inr (cells_of_one hr rfl)
 | .i8,t,v,y,h,hv,hr=>by
  obtain⟨n,rfl⟩:=okWide_int (intT_eq h) hv
  exact .inr (cells_of_one hr rfl)
 | .i64,t,v,y,h,hv,hr=>by
  obtain⟨n,rfl⟩:=okWide_int (intT_eq h) hv
  exact .inr (cells_of_one hr rfl)
 | .bool,t,v,y,h,hv,hr=>by
  have h':(match P.underlying t with | some .bool=>true | _=>false)=true:=h
  split at h'
  ·rename_i e
   obtain⟨n,rfl⟩:=okWide_bool e hv
   exact .inr (cells_of_one hr rfl)
  ·simp at h'
 | .sl e,t,v,y,h,hv,hr=>by
  have h':(match P.underlying t with | some (.slice u)=>okT P m e u&&(P.cellsOf u==e.size&&decide (0<P.bytesOf u)) | _=>false)=true:=h
  split at h'
  ·rename_i u hu
   obtain⟨a,l,c,rfl⟩:=okWide_slice hu hv
   exact .inr hr
  ·simp at h'
 | .pr a b',t,v,y,h,hv,hr=>by
  have h':(match P.underlying t with | some (.struct fs)=>okF P (okT P m) (.pr a b') fs.toList 0&&P.cellsOf t==a.size+b'.size | _=>false)=true:=h
  split at h'
  ·rename_i fs hu
   obtain⟨cs,rfl,_⟩:=okWide_struct hu hv
   exact⟨cs,rfl,(rep_cells (nocx w I) _ _ _).1 hr⟩
  ·simp at h'
theorem args_any {H:Type} {enc:TypeId×Value→H} {P:Program} {w:World} {base:Nat}:∀(τs:List T) (ts:List TypeId) (vs:List Value) (ds:List (DataW H)) (ps:List MemPlace),okAll P τs ts=true→
  DataW.TrodAll enc P w 0 (fun _=>true) true ts vs ds ps→(∀(j:Nat) t v,ts[j]? =some t→vs[j]? =some v→Value.okWide P w .any base t v)→(∀k∈DataW.weightsEach P ts ds,k≤reachBytes)→
   ds.length=τs.length∧∃xs:HL τs,All2 (RepV (nocx w fun b=>b<w.heap.size)) (avals τs xs) vs
 | [],[],[],[],_,_,_,_,_=>⟨rfl,⟨⟩,trivial⟩
 | τ::τs,t::ts,v::vs,d::ds,ps,h,⟨p,q,h1,h2,_⟩,hv,hw=>by
  have h':((okT P 20 τ t&&(P.readableRec t&&decide (t<P.types.size)))&&okAll P τs ts)=true:=h
  simp only[Bool.and_eq_true] at h'
  obtain⟨e,xs,hx⟩:=args_any τs ts vs ds q h'.2 h2 (fun j u x hu hx=>hv (j+1) u x hu hx) (fun k hk=>hw k (by rw[DataW.weightsEach];exact List.mem_append_right _ hk))
  obtain⟨n,hn⟩:=h1
  obtain⟨y,hy⟩:=open_any 20 τ t h'.1.1 n _ _ hn (fun k hk=>hw k (by rw[DataW.weightsEach];exact List.mem_append_left _ hk))
  exact⟨by simp[e],(y,xs),repV_any h'.1.1 (hv 0 t v rfl rfl) hy,hx⟩
 | [],t::ts,_,_,_,h,_,_,_=>by simp[okAll] at h
 | _::_,[],_,_,_,h,_,_,_=>by simp[okAll] at h
 | [],[],[],_::_,_,_,h,_,_=>h.elim
 | [],[],_::_,_,_,_,h,_,_=>h.elim
 | _::_,_::_,[],_,_,_,h,_,_=>h.elim
 | _::_,_::_,_::_,[],_,_,h,_,_=>h.elim
theorem args_stay {H:Type} {enc:TypeId×Value→H} {P:Program} (hl:laidOutB P=true) {W W':World} (hb:Below W.heap.size W W'):∀(τs:List T) (ts:List TypeId) (vs:List Value) (ds:List (DataW H)) (ps:List MemPlace),okAll P τs ts=true→
  DataW.TrodAll enc P W 0 (fun _=>true) true ts vs ds ps→(∀p∈ps,p.block<W.heap.size)→DataW.TrodAll enc P W' 0 (fun b=>decide (b<W.heap.size)) true ts vs ds ps
 | [],[],[],[],_,_,h,_=>h
 | τ::τs,t::ts,v::vs,d::ds,ps,h,⟨p,q,h1,h2,e⟩,hlt=>by
  have h':((okT P 20 τ t&&(P.readableRec t&&decide (t<P.types.size)))&&okAll P τs ts)=true:=h
  simp only[Bool.and_eq_true,decide_eq_true_eq] at h'
  subst e
  exact⟨p,q,Below.trod hl h'.1.2.1 h'.1.2.2 h1 hb (fun x hx=>hlt x (List.mem_append_left _ hx)),args_stay hl hb τs ts vs ds q h'.2 h2 (fun x hx=>hlt x (List.mem_append_right _ hx)),rfl⟩
 | [],t::ts,_,_,_,h,_,_=>by simp[okAll] at h
 | _::_,[],_,_,_,h,_,_=>by simp[okAll] at h
 | [],[],[],_::_,_,_,h,_=>h.elim
 | [],[],_::_,_,_,_,h,_=>h.elim
 | _::_,_::_,[],_,_,_,h,_=>h.elim
 | _::_,_::_,_::_,[],_,_,h,_=>h.elim
theorem law_contract {P:Program} {f:FuncId} {fn:Func} {s:ChangeSpec} {τs:List T} {tb:TypeId} (hl:laidOutB P=true) (hts:okAll P τs fn.params.toList=true)
  (hrt:fn.resultTypes= #[tb]) (htb:P.underlying tb=some .bool) (hvars:s.vars=[])
  (hs:∀(H:Type) (ds:List (DataW H)),ds.length=τs.length→s.fn H (ds++[])={results:=[.lit (.bool true)],args:=ds})
  (hA:∀xs:HL τs,ACall P false f (avals τs xs) (.one (.bool true)))
  (H:Type) (enc:TypeId×Value→H) (W:World) (base:Nat) (args:Array Value) (ds gs:List (DataW H)) (before:List MemPlace)
  (hval:∀(j:Nat) t v,fn.params[j]? =some t→args[j]? =some v→Value.okWide P W .any base t v)
  (hW:DataW.Whole enc P fn.params.toList s.vars false W args.toList ds gs before)
  (hw:(DataW.weightsEach P (fn.params.toList++s.plain.varTypes P) (ds++gs)).all (·≤reachBytes)=true):
  Calls P f args W fun e W'=>∃v,e= .returned v∧s.post enc P fn false true false false W args v W':=by
 have hW':=hW
 obtain⟨p,q,hA0,hV,rfl,hfz,hnd⟩:=hW
 rw[hvars] at hV
 obtain⟨rfl,rfl⟩:=trodVars_none hV
 have hvt:s.plain.varTypes P=[]:=by
  unfold DataSpec.varTypes ChangeSpec.plain
  simp[hvars]
 rw[hvt,List.append_nil,List.append_nil,List.all_eq_true] at hw
 obtain⟨hlen,xs,hx⟩:=args_any τs fn.params.toList args.toList ds p hts hA0 (fun j t v ht hv=>hval j t v (by rw[←Array.getElem?_toList];exact ht) (by rw[←Array.getElem?_toList];exact hv)) (fun k hk=>by simpa using hw k hk)
 obtain⟨_,_,hc⟩:=hA xs
 have hlt:∀x∈p,x.block<W.heap.size:=fun x hx=>hW'.lt x (List.mem_append_left _ hx)
 refine (hc W (fun b=>b<W.heap.size) args.toList (fun _ h=>h) hx).mono fun e W' ⟨u,bo,he,hb,hr⟩=>?_
 have hu:u= .bool true:=by
  rcases hr with h | h
  ·cases h
  ·exact h
 subst hu
 refine⟨_,he,ds,[],p++[],[],p,[],hW',?_,?_,?_,?_,fun h=>by cases h⟩
 ·rw[hrt,hs H ds hlen]
  exact trodAll_mk1 (shut_bool htb true)
 ·rw[hs H ds hlen]
  exact args_stay hl hb τs _ _ ds p hts hA0 hlt
 ·rw[hvars,hs H ds hlen]
  rfl
 ·exact hb.frame _
end Go.Abs
