/- Part 3 of a proof. Conditions: each theorem's own. -/
import Derived.Deep.MidRow
import Derived.ArgAppend
import Derived.Test.YtpccjlcpbehglaaGreatPk01
set_option linter.all false
set_option maxHeartbeats 8000000
namespace Go.Abs
open Go.RowKit
def All2 {α β:Type} (R:α→β→Prop):List α→List β→Prop
 | [],[]=>True
 | a::l,b::m=>R a b∧All2 R l m
 | _,_=>False
theorem All2.mono {α β:Type} {R R':α→β→Prop}:∀{l:List α} {m:List β},(∀a b,R a b→R' a b)→All2 R l m→All2 R' l m
 | [],[],_,h=>h
 | _::_,_::_,hr,h=>⟨hr _ _ h.1,All2.mono hr h.2⟩
 | [],_::_,_,h=>h
 | _::_,[],_,h=>h
theorem All2.length {α β:Type} {R:α→β→Prop}:∀{l:List α} {m:List β},All2 R l m→l.length=m.length
 | [],[],_=>rfl
 | _::_,_::_,h=>by simp[All2.length h.2]
 | [],_::_,h=>h.elim
 | _::_,[],h=>h.elim
theorem All2.get {α β:Type} {R:α→β→Prop}:∀{l:List α} {m:List β},All2 R l m→∀(i:Nat) (a:α),l[i]? =some a→∃b,m[i]? =some b∧R a b
 | _::_,b::_,h,0,a,e=>by simp at e;exact⟨b,by simp,e ▸ h.1⟩
 | _::_,_::_,h,i+1,a,e=>by simpa using All2.get h.2 i a (by simpa using e)
 | [],[],_,_,_,e=>by simp at e
 | [],_::_,h,_,_,_=>h.elim
 | _::_,[],h,_,_,_=>h.elim
theorem All2.append {α β:Type} {R:α→β→Prop}:∀{l:List α} {m:List β} {l':List α} {m':List β},All2 R l m→All2 R l' m'→All2 R (l++l') (m++m')
 | [],[],_,_,_,h=>h
 | _::_,_::_,_,_,h,h'=>⟨h.1,All2.append h.2 h'⟩
 | [],_::_,_,_,h,_=>h.elim
 | _::_,[],_,_,h,_=>h.elim
theorem All2.of_append {α β:Type} {R:α→β→Prop}:∀{l l':List α} {m:List β},All2 R (l++l') m→∃m1 m2,m=m1++m2∧All2 R l m1∧All2 R l' m2
 | [],_,m,h=>⟨[],m,rfl,trivial,h⟩
 | _::_,_,[],h=>h.elim
 | _::_,_,b::_,h=>by
  obtain⟨m1,m2,e,h1,h2⟩:=All2.of_append h.2
  exact⟨b::m1,m2,by simp[e],⟨h.1,h1⟩,h2⟩
theorem All2.drop {α β:Type} {R:α→β→Prop}:∀{l:List α} {m:List β} (n:Nat),All2 R l m→All2 R (l.drop n) (m.drop n)
 | _,_,0,h=>by simpa using h
 | [],[],_+1,_=>trivial
 | _::_,_::_,n+1,h=>by simpa using All2.drop n h.2
 | [],_::_,_,h=>h.elim
 | _::_,[],_,h=>h.elim
theorem All2.take {α β:Type} {R:α→β→Prop}:∀{l:List α} {m:List β} (n:Nat),All2 R l m→All2 R (l.take n) (m.take n)
 | _,_,0,_=>by simp[All2]
 | [],[],_+1,_=>trivial
 | _::_,_::_,n+1,h=>by simpa [All2] using ⟨h.1,All2.take n h.2⟩
 | [],_::_,_,h=>h.elim
 | _::_,[],_,h=>h.elim
theorem takeC_eq:∀(cs:List AC) (off n:Nat),takeC cs off n=(cs.drop off).take n
 | _,0,_=>by simp[takeC]
 | [],_+1,_=>by simp[takeC]
 | _::cs,off+1,n=>by simpa [takeC] using takeC_eq cs off n
theorem cells_length:∀(t:T) (x:el t),(cells t x).length=t.size
 | .u8,_=>rfl
 | .u32,_=>rfl
 | .u64,_=>rfl
 | .i8,_=>rfl
 | .i64,_=>rfl
 | .bool,_=>rfl
 | .sl _,_=>rfl
 | .pr a b,x=>by simp[cells,T.size,cells_length a,cells_length b]
theorem T.size_pos:∀t:T,0<t.size
 | .pr a b=>by have:=T.size_pos a;simp[T.size];omega
 | .u8=>Nat.one_pos
 | .u32=>Nat.one_pos
 | .u64=>Nat.one_pos
 | .i8=>Nat.one_pos
 | .i64=>Nat.one_pos
 | .bool=>Nat.one_pos
 | .sl _=>Nat.one_pos
def rep (w:World) (I:Nat→Prop):(t:T)→el t→List Value→Prop
 | .u8,x,vs=>vs=[.int .u8 x.toNat]
 | .u32,x,vs=>vs=[.int .u32 x.toNat]
 | .u64,x,vs=>vs=[.int .u64 x.toNat]
 | .i8,x,vs=>vs=[.int .i8 x]
 | .i64,x,vs=>vs=[.int .i64 x]
 | .bool,x,vs=>vs=[.bool x]
 | .sl t,l,vs=>∃base cap,vs=[.slice base l.length cap]∧l.length≤cap∧l.length≤140737488355328∧
  (l=[]∨∃b off,base=some ⟨b,off,none⟩∧I b∧∀(i:Nat) (x:el t),l[i]? =some x→∃us,rep w I t x us∧w.rangeAt b (off+i*t.size) us)
 | .pr a b,x,vs=>∃v1 v2,vs=v1++v2∧rep w I a x.1 v1∧rep w I b x.2 v2
theorem rangeAt_of_block {w w':World} {b o:Nat} {vs:List Value} (h:w'.heap[b]? =w.heap[b]?) (hr:w.rangeAt b o vs):w'.rangeAt b o vs:=
 fun j v hv=>(World.cell?_of_block (w:=w) (a:=⟨b,o+j,none⟩) h).trans (hr j v hv)
theorem rep_mono {w w':World} {I I':Nat→Prop} (h:∀b,I b→I' b∧w'.heap[b]? =w.heap[b]?):∀(t:T) (x:el t) (vs:List Value),rep w I t x vs→rep w' I' t x vs
 | .u8,_,_,hr=>hr
 | .u32,_,_,hr=>hr
 | .u64,_,_,hr=>hr
 | .i8,_,_,hr=>hr
 | .i64,_,_,hr=>hr
 | .bool,_,_,hr=>hr
 | .sl t,_,_,⟨base,cap,e,h1,h2,hh⟩=>⟨base,cap,e,h1,h2,hh.imp id fun⟨b,off,hb,hI,hc⟩=>
  ⟨b,off,hb,(h b hI).1,fun i x hx=>let ⟨us,hu,hr⟩:=hc i x hx;⟨us,rep_mono h t x us hu,rangeAt_of_block (h b hI).2 hr⟩⟩⟩
 | .pr a b,x,_,⟨v1,v2,e,h1,h2⟩=>⟨v1,v2,e,rep_mono h a x.1 v1 h1,rep_mono h b x.2 v2 h2⟩
theorem rep_length {w:World} {I:Nat→Prop}:∀(t:T) (x:el t) (vs:List Value),rep w I t x vs→vs.length=t.size
 | .u8,_,_,h=>by rw[show _=_ from h];rfl
 | .u32,_,_,h=>by rw[show _=_ from h];rfl
 | .u64,_,_,h=>by rw[show _=_ from h];rfl
 | .i8,_,_,h=>by rw[show _=_ from h];rfl
 | .i64,_,_,h=>by rw[show _=_ from h];rfl
 | .bool,_,_,h=>by rw[show _=_ from h];rfl
 | .sl _,_,_,⟨_,_,e,_⟩=>by rw[e];rfl
 | .pr a b,x,_,⟨v1,v2,e,h1,h2⟩=>by rw[e,List.length_append,rep_length a x.1 v1 h1,rep_length b x.2 v2 h2];rfl
theorem rep_one {w:World} {I:Nat→Prop}:∀(t:T) (x:el t) (vs:List Value),rep w I t x vs→∀v∈vs,v.oneCell'=true
 | .u8,_,_,h,v,hv=>by rw[show _=_ from h] at hv;simp at hv;subst hv;rfl
 | .u32,_,_,h,v,hv=>by rw[show _=_ from h] at hv;simp at hv;subst hv;rfl
 | .u64,_,_,h,v,hv=>by rw[show _=_ from h] at hv;simp at hv;subst hv;rfl
 | .i8,_,_,h,v,hv=>by rw[show _=_ from h] at hv;simp at hv;subst hv;rfl
 | .i64,_,_,h,v,hv=>by rw[show _=_ from h] at hv;simp at hv;subst hv;rfl
 | .bool,_,_,h,v,hv=>by rw[show _=_ from h] at hv;simp at hv;subst hv;rfl
 | .sl _,_,_,⟨_,_,e,_⟩,v,hv=>by rw[e] at hv;simp at hv;subst hv;rfl
 | .pr a b,x,_,⟨v1,v2,e,h1,h2⟩,v,hv=>by
  rw[e] at hv
  rcases List.mem_append.1 hv with h | h
  ·exact rep_one a x.1 v1 h1 v h
  ·exact rep_one b x.2 v2 h2 v h
def LslAt (w:World) (o:Option Nat) (n off len:Nat) (full:Bool) (v:Value):Prop:=
 ∃base cap,v= .slice base len cap∧len≤cap∧cap≤maxLen∧(full=true→cap=len)∧
  (cap=0∨∃b arr e,o=some b∧base=some ⟨b,off*n,none⟩∧w.heap[b]? =some (.cells arr e (0,0))∧(off+cap)*n≤arr.size)
structure Cx where
 w:World
 β:Nat→Option Nat
 cv:Nat→Nat
 I:Nat→Prop
def RepC (x:Cx):AC→Value→Prop
 | .junk,v=>v.oneCell'=true
 | .int k n,v=>v= .int k n
 | .bool b,v=>v= .bool b
 | .fn f,v=>v= .func (.func f) #[] #[]
 | .nil,v=>v= .slice none 0 0
 | .sl t l,v=>rep x.w x.I (.sl t) l [v]
 | .lsl t id ver off len,v=>(v.oneCell'=true∧ver≤x.cv id)∧(ver=x.cv id→LslAt x.w (x.β id) t.size off len false v)
 | .csl t id ver off len,v=>(v.oneCell'=true∧ver≤x.cv id)∧(ver=x.cv id→LslAt x.w (x.β id) t.size off len true v)
 | .lptr id ver off,v=>(v.oneCell'=true∧ver≤x.cv id)∧(ver=x.cv id→∃b,x.β id=some b∧v= .pointer (some ⟨b,off,none⟩))
 | .eptr t id ver i k,v=>(v.oneCell'=true∧ver≤x.cv id)∧(ver=x.cv id→∃b,x.β id=some b∧v= .pointer (some ⟨b,i*t.size+k,none⟩))
 | .ub e,v=>∃b:Bool,v= .bool b∧(b=true→e=true)
 | .pptr t y off,v=>∃b o us,v= .pointer (some ⟨b,o+off,none⟩)∧x.I b∧rep x.w x.I t y us∧x.w.rangeAt b o us
 | .own _ _ _,_=>False
theorem RepC.one {x:Cx}:∀{c:AC} {v:Value},RepC x c v→v.oneCell'=true
 | .junk,_,h=>h
 | .int _ _,_,h=>by rw[show _=_ from h];rfl
 | .bool _,_,h=>by rw[show _=_ from h];rfl
 | .fn _,_,h=>by rw[show _=_ from h];rfl
 | .nil,_,h=>by rw[show _=_ from h];rfl
 | .sl _ _,_,h=>rep_one _ _ _ h _ (by simp)
 | .lsl _ _ _ _ _,_,h=>h.1.1
 | .csl _ _ _ _ _,_,h=>h.1.1
 | .lptr _ _ _,_,h=>h.1.1
 | .eptr _ _ _ _ _,_,h=>h.1.1
 | .pptr _ _ _,_,⟨_,_,_,e,_⟩=>by rw[e];rfl
 | .ub _,_,⟨_,e,_⟩=>by rw[e];rfl
 | .own _ _ _,_,h=>h.elim
def RepV1 (x:Cx):AV→Value→Prop
 | .one c,v=>c= .junk∨RepC x c v
 | .agg cs,v=>∃arr,v= .agg arr∧All2 (RepC x) cs arr.toList
 | .tup _,_=>False
def RepV (x:Cx):AV→Value→Prop
 | .tup xs,v=>∃arr,v= .tuple arr∧All2 (fun y u=>RepV1 x (mk1 y) u) xs arr.toList
 | a,v=>RepV1 x a v
def RepB (x:Cx) (id:Nat):Blk→Prop
 | .dead _=>True
 | .var _ cs=>∃b arr e,x.β id=some b∧x.w.heap[b]? =some (.cells arr e (0,0))∧All2 (RepC x) cs arr.toList
 | .arr _ t l=>(x.β id=none∧l=[])∨∃b arr e,x.β id=some b∧x.w.heap[b]? =some (.cells arr e (0,0))∧
  ∀(i:Nat) (y:el t),l[i]? =some y→∃us,rep x.w x.I t y us∧x.w.rangeAt b (i*t.size) us
structure Cx.le (x y:Cx):Prop where
 cv:∀id,x.cv id≤y.cv id
 β:∀id,y.cv id=x.cv id→y.β id=x.β id
 size:∀id b arr e,y.cv id=x.cv id→x.β id=some b→x.w.heap[b]? =some (.cells arr e (0,0))→∃arr',y.w.heap[b]? =some (.cells arr' e (0,0))∧arr'.size=arr.size
 I:∀b,x.I b→y.I b∧y.w.heap[b]? =x.w.heap[b]?
theorem LslAt.mono {x y:Cx} (h:x.le y) {id n off len:Nat} {f:Bool} {v:Value} (hc:y.cv id=x.cv id) (hl:LslAt x.w (x.β id) n off len f v):LslAt y.w (y.β id) n off len f v:=by
 obtain⟨base,cap,e,h1,h2,hf,h3⟩:=hl
 refine⟨base,cap,e,h1,h2,hf,h3.imp (fun q=>q) fun⟨b,arr,e',hb,hbase,hh,hs⟩=>?_⟩
 obtain⟨arr',h4,h5⟩:=h.size id b arr e' hc hb hh
 exact⟨b,arr',e',(h.β id hc).trans hb,hbase,h4,by omega⟩
theorem RepC.mono {x y:Cx} (h:x.le y):∀{c:AC} {v:Value},RepC x c v→RepC y c v
 | .junk,_,r=>r
 | .int _ _,_,r=>r
 | .bool _,_,r=>r
 | .fn _,_,r=>r
 | .nil,_,r=>r
 | .sl _ _,_,r=>rep_mono h.I _ _ _ r
 | .lsl _ id v _ _,_,r=>⟨⟨r.1.1,Nat.le_trans r.1.2 (h.cv id)⟩,fun e=>by
  have:=h.cv id
  have e1:v=x.cv id:=by have:=r.1.2;omega
  exact LslAt.mono h (e ▸ e1) (r.2 e1)⟩
 | .csl _ id v _ _,_,r=>⟨⟨r.1.1,Nat.le_trans r.1.2 (h.cv id)⟩,fun e=>by
  have:=h.cv id
  have e1:v=x.cv id:=by have:=r.1.2;omega
  exact LslAt.mono h (e ▸ e1) (r.2 e1)⟩
 | .lptr id v _,_,r=>⟨⟨r.1.1,Nat.le_trans r.1.2 (h.cv id)⟩,fun e=>by
  have:=h.cv id
  have e1:v=x.cv id:=by have:=r.1.2;omega
  obtain⟨b,hb,hv⟩:=r.2 e1
  exact⟨b,(h.β id (e ▸ e1)).trans hb,hv⟩⟩
 | .eptr _ id v _ _,_,r=>⟨⟨r.1.1,Nat.le_trans r.1.2 (h.cv id)⟩,fun e=>by
  have:=h.cv id
  have e1:v=x.cv id:=by have:=r.1.2;omega
  obtain⟨b,hb,hv⟩:=r.2 e1
  exact⟨b,(h.β id (e ▸ e1)).trans hb,hv⟩⟩
 | .ub _,_,h=>h
 | .pptr t y' _,_,⟨b,o,us,e,hI,hr,ha⟩=>⟨b,o,us,e,(h.I b hI).1,rep_mono h.I t y' us hr,rangeAt_of_block (h.I b hI).2 ha⟩
 | .own _ _ _,_,r=>r.elim
theorem RepV1.mono {x y:Cx} (h:x.le y):∀{a:AV} {v:Value},RepV1 x a v→RepV1 y a v
 | .one _,_,r=>r.imp (fun q=>q) (RepC.mono h)
 | .agg _,_,⟨arr,e,r⟩=>⟨arr,e,r.mono fun _ _=>RepC.mono h⟩
 | .tup _,_,r=>r.elim
theorem RepV.mono {x y:Cx} (h:x.le y):∀{a:AV} {v:Value},RepV x a v→RepV y a v
 | .one c,v,r=>RepV1.mono h (a:= .one c) r
 | .agg cs,v,r=>RepV1.mono h (a:= .agg cs) r
 | .tup _,_,⟨arr,e,r⟩=>⟨arr,e,r.mono fun _ _=>RepV1.mono h⟩
theorem rep_cells (x:Cx):∀(t:T) (y:el t) (vs:List Value),rep x.w x.I t y vs↔All2 (RepC x) (cells t y) vs
 | .u8,y,vs=>one x (.int .u8 y.toNat) _ vs fun _=>Iff.rfl
 | .u32,y,vs=>one x (.int .u32 y.toNat) _ vs fun _=>Iff.rfl
 | .u64,y,vs=>one x (.int .u64 y.toNat) _ vs fun _=>Iff.rfl
 | .i8,y,vs=>one x (.int .i8 y) _ vs fun _=>Iff.rfl
 | .i64,y,vs=>one x (.int .i64 y) _ vs fun _=>Iff.rfl
 | .bool,y,vs=>one x (.bool y) _ vs fun _=>Iff.rfl
 | .sl t,y,vs=>by
  match vs with
  | []=>exact⟨fun⟨_,_,e,_⟩=>by simp at e,fun h=>h.elim⟩
  | [v]=>exact⟨fun h=>⟨h,trivial⟩,fun h=>h.1⟩
  | _::_::_=>exact⟨fun⟨_,_,e,_⟩=>by simp at e,fun h=>h.2.elim⟩
 | .pr a b,y,vs=>by
  constructor
  ·rintro⟨v1,v2,rfl,h1,h2⟩
   exact ((rep_cells x a y.1 v1).1 h1).append ((rep_cells x b y.2 v2).1 h2)
  ·intro h
   obtain⟨m1,m2,e,h1,h2⟩:=All2.of_append h
   exact⟨m1,m2,e,(rep_cells x a y.1 m1).2 h1,(rep_cells x b y.2 m2).2 h2⟩
where
 one (x:Cx) (c:AC) (u:Value) (vs:List Value) (h:∀v,RepC x c v↔v=u):vs=[u]↔All2 (RepC x) [c] vs:=by
  match vs with
  | []=>exact⟨fun e=>by simp at e,fun h=>h.elim⟩
  | [v]=>exact⟨fun e=>⟨(h v).2 (by simpa using e),trivial⟩,fun hh=>by rw[(h v).1 hh.1]⟩
  | _::_::_=>exact⟨fun e=>by simp at e,fun h=>h.2.elim⟩
theorem RepB.mono {x y:Cx} (h:x.le y) {id:Nat} {b:Blk} (hc:y.cv id=x.cv id) (hb:∀k,x.β id=some k→y.w.heap[k]? =x.w.heap[k]?) (r:RepB x id b):RepB y id b:=by
 cases b with
 | dead _=>trivial
 | var _ cs=>
  obtain⟨b,arr,e,h1,h2,h3⟩:=r
  exact⟨b,arr,e,(h.β id hc).trans h1,(hb b h1).trans h2,h3.mono fun _ _=>RepC.mono h⟩
 | arr _ t l=>
  refine r.imp (fun q=>⟨(h.β id hc).trans q.1,q.2⟩) fun⟨b,arr,e,h1,h2,h3⟩=>?_
  refine⟨b,arr,e,(h.β id hc).trans h1,(hb b h1).trans h2,fun i y' hi=>?_⟩
  obtain⟨us,hu,ha⟩:=h3 i y' hi
  exact⟨us,rep_mono h.I t y' us hu,rangeAt_of_block (hb b h1) ha⟩
end Go.Abs
namespace Go.Abs
open Go.RowKit
theorem nth_setn:∀(l:List AV) (d:Nat) (v:AV) (i:Nat),nth (setn l d v) i=if i=d∧d<l.length then v else nth l i
 | [],d,v,i=>by simp[setn,nth]
 | _::_,0,v,0=>by simp[setn,nth]
 | _::_,0,v,i+1=>by simp[setn,nth]
 | _::_,d+1,v,0=>by simp[setn,nth]
 | a::l,d+1,v,i+1=>by simp[setn,nth,nth_setn l d v i]
theorem nthb_setn:∀(l:List (Option Blk)) (d:Nat) (v:Option Blk) (i:Nat),nthb (setn l d v) i=if i=d∧d<l.length then v else nthb l i
 | [],d,v,i=>by simp[setn,nthb]
 | _::_,0,v,0=>by simp[setn,nthb]
 | _::_,0,v,i+1=>by simp[setn,nthb]
 | _::_,d+1,v,0=>by simp[setn,nthb]
 | a::l,d+1,v,i+1=>by simp[setn,nthb,nthb_setn l d v i]
theorem length_setn {α:Type}:∀(l:List α) (d:Nat) (v:α),(setn l d v).length=l.length
 | [],_,_=>rfl
 | _::_,0,_=>rfl
 | _::l,d+1,v=>by simp[setn,length_setn l d v]
theorem nthb_ge:∀(l:List (Option Blk)) (i:Nat),l.length≤i→nthb l i=none
 | [],_,_=>rfl
 | _::_,0,h=>by simp at h
 | _::l,i+1,h=>by simpa [nthb] using nthb_ge l i (by simpa using h)
theorem setn_ge {α:Type}:∀(l:List α) (d:Nat) (v:α),l.length≤d→setn l d v=l
 | [],_,_,_=>rfl
 | _::_,0,_,h=>by simp at h
 | a::l,d+1,v,h=>by simp[setn,setn_ge l d v (by simpa using h)]
def Blk.live:Blk→Bool
 | .dead _=>false
 | _=>true
def Blk.short:Blk→Prop
 | .arr _ _ l=>l.length≤140737488355328
 | _=>True
def live (bk:Nat→Option Blk) (id:Nat):Prop:=∃b,bk id=some b∧b.live=true
structure WX where
 X:Nat→Prop
 A:Nat→Prop
 ob:Option Nat
def cx (X:WX) (w:World) (β:Nat→Option Nat) (bk:Nat→Option Blk):Cx:=
 ⟨w,β,ver bk,fun b=>(b<w.heap.size∧∀id,live bk id→β id≠some b)∧X.A b⟩
structure SimB (w0:World) (X:WX) (β:Nat→Option Nat) (s:St) (a:Act) (w:World):Prop where
 defers:a.defers=[]
 len:s.sl.length=a.tmps.size
 lenb:s.bk.length=a.tmps.size
 slots:∀i,RepV (cx X w β (nthb s.bk)) (nth s.sl i) (a.tmps.getD i undef)
 blocks:∀id b,nthb s.bk id=some b→RepB (cx X w β (nthb s.bk)) id b
 inj:∀id id' b,live (nthb s.bk) id→live (nthb s.bk) id'→β id=some b→β id'=some b→id=id'
 own:∀id b,live (nthb s.bk) id→β id=some b→w0.heap.size≤b∨(X.X b∧id=0)
 os:w.os=w0.os
 tape:w.tape=w0.tape
 output:w.output=w0.output
 size:w0.heap.size≤w.heap.size
 block:∀b,b<w0.heap.size→¬X.X b→w.heap[b]? =w0.heap[b]?
 lens:∀id b,nthb s.bk id=some b→b.short
 fresh:∀b,w0.heap.size≤b→X.A b
 hist:live (nthb s.bk) 0→ver (nthb s.bk) 0=0→β 0=X.ob∧∀(b:Nat) arr e,X.ob=some b→w0.heap[b]? =some (.cells arr e (0,0))→∃arr',w.heap[b]? =some (.cells arr' e (0,0))∧arr'.size=arr.size
section
variable {w0:World} {X:WX} {β:Nat→Option Nat} {s:St} {a:Act} {w:World}
theorem repV_junk (x:Cx) (v:Value):RepV x (.one .junk) v:=Or.inl rfl
theorem getD_put (a:Act) (d:Nat) (v:Value) (i:Nat):(a.put (some d) v).tmps.getD i undef=if i=d∧d<a.tmps.size then v else a.tmps.getD i undef:=by
 simp only[Act.put,Array.getD_eq_getD_getElem?,Array.getElem?_setIfInBounds]
 by_cases h:d=i
 ·subst h
  by_cases h2:d<a.tmps.size <;> simp[h2]
 ·simp[h,Ne.symm h]
theorem slots_put {x:Cx} {s:St} {a:Act} (hlen:s.sl.length=a.tmps.size) (h:∀i,RepV x (nth s.sl i) (a.tmps.getD i undef)) (dst:Option Nat) (v:AV) (u:Value) (hv:RepV x v u):
  ∀i,RepV x (nth (putD s.sl dst v) i) ((a.put dst u).tmps.getD i undef):=by
 intro i
 cases dst with
 | none=>exact h i
 | some d=>
  rw[getD_put]
  simp only[putD,nth_setn,hlen]
  split
  ·exact hv
  ·exact h i
theorem len_put {s:St} {a:Act} (hlen:s.sl.length=a.tmps.size) (dst:Option Nat) (v:AV) (u:Value):(putD s.sl dst v).length=(a.put dst u).tmps.size:=by
 cases dst <;> simp[putD,Act.put,length_setn,hlen]
theorem size_put (a:Act) (dst:Option Nat) (u:Value):(a.put dst u).tmps.size=a.tmps.size:=by cases dst <;> simp[Act.put]
theorem defers_put (a:Act) (dst:Option Nat) (u:Value):(a.put dst u).defers=a.defers:=by cases dst <;> rfl
theorem SimB.ext (S:SimB w0 X β s a w) {w':World} {dst:Option Nat} {v:AV} {u:Value} {rd:List Nat} (hw:∀b,b<w.heap.size→w'.heap[b]? =w.heap[b]?) (hsize:w.heap.size≤w'.heap.size)
  (hos:w'.os=w.os) (htape:w'.tape=w.tape) (hout:w'.output=w.output) (hv:RepV (cx X w' β (nthb s.bk)) v u):SimB w0 X β (s.app dst ⟨v,[],rd⟩) (a.put dst u) w':=by
 have hlt:∀b o,w.heap[b]? =some o→b<w.heap.size:=fun b o h=>by
  rcases Nat.lt_or_ge b w.heap.size with h' | h'
  ·exact h'
  ·simp[Array.getElem?_eq_none h'] at h
 have hle:(cx X w β (nthb s.bk)).le (cx X w' β (nthb s.bk)):=
  ⟨fun _=>Nat.le_refl _,fun _ _=>rfl,fun id b arr e _ _ hh=>⟨arr,(hw b (hlt b _ hh)).trans hh,rfl⟩,fun b hb=>⟨⟨⟨Nat.lt_of_lt_of_le hb.1.1 hsize,hb.1.2⟩,hb.2⟩,hw b hb.1.1⟩⟩
 refine⟨(defers_put _ _ _).trans S.defers,len_put S.len _ _ _,S.lenb.trans (size_put _ _ _).symm,slots_put S.len (fun i=>RepV.mono hle (S.slots i)) dst v u hv,fun id b hb=>?_,S.inj,S.own,
  hos.trans S.os,htape.trans S.tape,hout.trans S.output,Nat.le_trans S.size hsize,fun b hb hx=>(hw b (Nat.lt_of_lt_of_le hb S.size)).trans (S.block b hb hx),S.lens,S.fresh,fun hl hv=>?_⟩
 case refine_2=>
  obtain⟨h1,h2⟩:=S.hist hl hv
  refine⟨h1,fun b arr e hb he=>?_⟩
  obtain⟨arr',h3,h4⟩:=h2 b arr e hb he
  exact⟨arr',(hw b (hlt b _ h3)).trans h3,h4⟩
 have r:=S.blocks id b hb
 cases b with
 | dead _=>trivial
 | var _ cs=>
  obtain⟨b,arr,e,h1,h2,h3⟩:=r
  exact⟨b,arr,e,h1,(hw b (hlt b _ h2)).trans h2,h3.mono fun _ _=>RepC.mono hle⟩
 | arr _ t l=>
  refine r.imp (fun q=>q) fun⟨b,arr,e,h1,h2,h3⟩=>?_
  refine⟨b,arr,e,h1,(hw b (hlt b _ h2)).trans h2,fun i y' hi=>?_⟩
  obtain⟨us,hu,ha⟩:=h3 i y' hi
  exact⟨us,rep_mono hle.I t y' us hu,rangeAt_of_block (hw b (hlt b _ h2)) ha⟩
theorem SimB.val (S:SimB w0 X β s a w) {dst:Option Nat} {v:AV} {u:Value} {rd:List Nat} (hv:RepV (cx X w β (nthb s.bk)) v u):SimB w0 X β (s.app dst ⟨v,[],rd⟩) (a.put dst u) w:=
 S.ext (fun _ _=>rfl) (Nat.le_refl _) rfl rfl rfl hv
theorem ver_set (l:List (Option Blk)) (id:Nat) (b:Blk) (hid:id<l.length) (k:Nat):ver (nthb (setn l id (some b))) k=if k=id then b.ver else ver (nthb l) k:=by
 unfold ver
 rw[nthb_setn]
 by_cases h:k=id
 ·subst h;simp[hid]
 ·simp[h]
theorem live_set (l:List (Option Blk)) (id:Nat) (b:Blk) (hid:id<l.length) (k:Nat):live (nthb (setn l id (some b))) k↔if k=id then b.live=true else live (nthb l) k:=by
 unfold live
 rw[nthb_setn]
 by_cases h:k=id
 ·subst h;simp[hid]
 ·simp[h]
theorem SimB.write (S:SimB w0 X β s a w) {β':Nat→Option Nat} {w':World} {dst:Option Nat} {v:AV} {u:Value} {rd:List Nat} {id:Nat} {blk:Blk} (hid:id<s.bk.length) (hsh:blk.short)
  (hβ:∀k,k≠id→β' k=β k) (hver:ver (nthb s.bk) id≤blk.ver) (hβid:blk.ver=ver (nthb s.bk) id→β' id=β id∧(blk.live=true→live (nthb s.bk) id))
  (hheap:∀b,b<w.heap.size→(live (nthb s.bk) id→β id≠some b)→w'.heap[b]? =w.heap[b]?) (hsize:w.heap.size≤w'.heap.size)
  (hkeep:∀(b:Nat) arr e,w.heap[b]? =some (.cells arr e (0,0))→∃arr',w'.heap[b]? =some (.cells arr' e (0,0))∧arr'.size=arr.size)
  (hos:w'.os=w.os) (htape:w'.tape=w.tape) (hout:w'.output=w.output)
  (hfresh:blk.live=true→∀b,β' id=some b→(β id=some b∧live (nthb s.bk) id)∨w.heap.size≤b)
  (hB:(cx X w β (nthb s.bk)).le (cx X w' β' (nthb (setn s.bk id (some blk))))→RepB (cx X w' β' (nthb (setn s.bk id (some blk)))) id blk)
  (hv:(cx X w β (nthb s.bk)).le (cx X w' β' (nthb (setn s.bk id (some blk))))→RepV (cx X w' β' (nthb (setn s.bk id (some blk)))) v u):
  SimB w0 X β' (s.app dst ⟨v,[(id,blk)],rd⟩) (a.put dst u) w':=by
 have hlt:∀b o,w.heap[b]? =some o→b<w.heap.size:=fun b o h=>by
  rcases Nat.lt_or_ge b w.heap.size with h' | h'
  ·exact h'
  ·simp[Array.getElem?_eq_none h'] at h
 have hblt:∀k b,live (nthb s.bk) k→β k=some b→b<w.heap.size:=fun k b ⟨blk',hk,hl⟩ hb=>by
  have r:=S.blocks k blk' hk
  cases blk' with
  | dead _=>simp[Blk.live] at hl
  | var _ _=>obtain⟨b',arr,e,h1,h2,_⟩:=r;obtain rfl:b=b':=Option.some.inj (hb.symm.trans h1);exact hlt b _ h2
  | arr _ _ _=>
   rcases r with⟨h1,_⟩ |⟨b',arr,e,h1,h2,_⟩
   ·exact absurd (hb.symm.trans h1) (by simp)
   ·obtain rfl:b=b':=Option.some.inj (hb.symm.trans h1);exact hlt b _ h2
 have hle:(cx X w β (nthb s.bk)).le (cx X w' β' (nthb (setn s.bk id (some blk)))):=by
  refine⟨fun k=>?_,fun k hk=>?_,fun k b arr e _ _ hh=>hkeep b arr e hh,fun b hb=>⟨⟨⟨Nat.lt_of_lt_of_le hb.1.1 hsize,fun k hk=>?_⟩,hb.2⟩,hheap b hb.1.1 (fun hl=>hb.1.2 id hl)⟩⟩
  ·show ver _ k≤ver _ k
   rw[ver_set _ _ _ hid]
   split
   ·subst_vars;exact hver
   ·exact Nat.le_refl _
  ·by_cases h:k=id
   ·subst h
    have hk':ver (nthb (setn s.bk k (some blk))) k=ver (nthb s.bk) k:=hk
    rw[ver_set _ _ _ hid,if_pos rfl] at hk'
    exact (hβid hk').1
   ·exact hβ k h
  ·rw[live_set _ _ _ hid] at hk
   by_cases h:k=id
   ·subst h
    simp only[if_true] at hk
    intro e
    rcases hfresh hk b e with⟨h1,h2⟩ | h1
    ·exact hb.1.2 k h2 h1
    ·have:=hb.1.1
     show False
     have hb1:b<w.heap.size:=hb.1.1
     omega
   ·simp only[h,if_false] at hk
    show β' k≠some b
    rw[hβ k h]
    exact hb.1.2 k hk
 refine⟨(defers_put _ _ _).trans S.defers,len_put S.len _ _ _,?_,?_,fun k b hk=>?_,fun k k' b hk hk' hb hb'=>?_,fun k b hk hb=>?_,hos.trans S.os,htape.trans S.tape,hout.trans S.output,Nat.le_trans S.size hsize,fun b hb hx=>?_,fun k b hk=>?_,S.fresh,fun hl hv=>?_⟩
 ·show (setn s.bk id (some blk)).length=_
  rw[length_setn,size_put];exact S.lenb
 ·exact slots_put S.len (fun i=>RepV.mono hle (S.slots i)) dst v u (hv hle)
 ·have hk':nthb (setn s.bk id (some blk)) k=some b:=hk
  rw[nthb_setn] at hk'
  by_cases h:k=id
  ·subst h
   simp only[hid,and_self,if_true,Option.some.injEq] at hk'
   subst hk'
   exact hB hle
  ·simp only[h,false_and,if_false] at hk'
   have hcv:(cx X w' β' (nthb (setn s.bk id (some blk)))).cv k=(cx X w β (nthb s.bk)).cv k:=by
    show ver _ k=ver _ k
    rw[ver_set _ _ _ hid,if_neg h]
   have r:=S.blocks k b hk'
   have hβk:(cx X w' β' (nthb (setn s.bk id (some blk)))).β k=(cx X w β (nthb s.bk)).β k:=hβ k h
   cases b with
   | dead _=>trivial
   | var vv cs=>
    refine RepB.mono hle hcv (fun b' hb'=>?_) r
    have hl:live (nthb s.bk) k:=⟨_,hk',rfl⟩
    exact hheap b' (hblt k b' hl hb') fun hl2 e=>h (S.inj k id b' hl hl2 hb' e)
   | arr vv t l=>
    refine RepB.mono hle hcv (fun b' hb'=>?_) r
    have hl:live (nthb s.bk) k:=⟨_,hk',rfl⟩
    exact hheap b' (hblt k b' hl hb') fun hl2 e=>h (S.inj k id b' hl hl2 hb' e)
 ·have hk1:live (nthb (setn s.bk id (some blk))) k:=hk
  have hk1':live (nthb (setn s.bk id (some blk))) k':=hk'
  rw[live_set _ _ _ hid] at hk1 hk1'
  by_cases h:k=id <;> by_cases h':k'=id
  ·rw[h,h']
  ·subst h
   simp only[if_true,h',if_false] at hk1 hk1'
   rw[hβ k' h'] at hb'
   rcases hfresh hk1 b hb with⟨h1,h2⟩ | h1
   ·exact S.inj k k' b h2 hk1' h1 hb'
   ·have:=hblt k' b hk1' hb';omega
  ·subst h'
   simp only[if_true,h,if_false] at hk1 hk1'
   rw[hβ k h] at hb
   rcases hfresh hk1' b hb' with⟨h1,h2⟩ | h1
   ·exact S.inj k k' b hk1 h2 hb h1
   ·have:=hblt k b hk1 hb;omega
  ·simp only[h,h',if_false] at hk1 hk1'
   rw[hβ k h] at hb;rw[hβ k' h'] at hb'
   exact S.inj k k' b hk1 hk1' hb hb'
 ·have hk1:live (nthb (setn s.bk id (some blk))) k:=hk
  rw[live_set _ _ _ hid] at hk1
  by_cases h:k=id
  ·subst h
   simp only[if_true] at hk1
   rcases hfresh hk1 b hb with⟨h1,h2⟩ | h1
   ·exact S.own k b h2 h1
   ·exact Or.inl (Nat.le_trans S.size h1)
  ·simp only[h,if_false] at hk1
   rw[hβ k h] at hb
   exact S.own k b hk1 hb
 ·rw[hheap b (Nat.lt_of_lt_of_le hb S.size) fun hl e=>?_]
  ·exact S.block b hb hx
  ·rcases S.own id b hl e with h | h
   ·omega
   ·exact hx h.1
 ·have hk':nthb (setn s.bk id (some blk)) k=some b:=hk
  rw[nthb_setn] at hk'
  by_cases h:k=id
  ·subst h
   simp only[hid,and_self,if_true,Option.some.injEq] at hk'
   subst hk'
   exact hsh
  ·simp only[h,false_and,if_false] at hk'
   exact S.lens k b hk'
 ·have hl':live (nthb (setn s.bk id (some blk))) 0:=hl
  have hv':ver (nthb (setn s.bk id (some blk))) 0=0:=hv
  rw[live_set _ _ _ hid] at hl'
  rw[ver_set _ _ _ hid] at hv'
  have key:live (nthb s.bk) 0∧ver (nthb s.bk) 0=0∧β' 0=β 0:=by
   by_cases h:0=id
   ·subst h
    simp only[if_true] at hl' hv'
    have h0:ver (nthb s.bk) 0=0:=by omega
    have:=hβid (by omega)
    exact⟨this.2 hl',h0,this.1⟩
   ·simp only[h,if_false] at hl' hv'
    exact⟨hl',hv',hβ 0 h⟩
  obtain⟨h1,h2⟩:=S.hist key.1 key.2.1
  refine⟨key.2.2.trans h1,fun b arr e hb he=>?_⟩
  obtain⟨arr',h3,h4⟩:=h2 b arr e hb he
  obtain⟨arr2,h5,h6⟩:=hkeep b arr' e h3
  exact⟨arr2,h5,by omega⟩
end
end Go.Abs
