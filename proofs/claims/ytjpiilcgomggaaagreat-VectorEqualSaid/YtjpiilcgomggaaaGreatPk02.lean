/- Part 3 of a proof. Conditions: each theorem's own. -/
import Derived.Deep.MidRow
import Derived.ArgAppend
import Derived.Test.YtjpiilcgomggaaaGreatPk01
set_option linter.all false
set_option maxHeartbeats 8000000
namespace Go.Abs
open Go.RowKit
def AO {α β:Type} (R:α->β->Prop):List α->List β->Prop
 | [],[]=>True
 | a::l,b::m=>R a b/\AO R l m
 | _,_=>False
theorem AO.mono {α β:Type} {R R':α->β->Prop}:∀{l:List α} {m:List β},(∀a b,R a b->R' a b)->AO R l m->AO R' l m
 | [],[],_,h=>h
 | _::_,_::_,c,h=>⟨c _ _ h.1,AO.mono c h.2⟩
 |[],_::_,_,h|_::_,[],_,h=>h
theorem AO.length {α β:Type} {R:α->β->Prop}:∀{l:List α} {m:List β},AO R l m->l.length=m.length
 | [],[],_=>rfl
 | _::_,_::_,h=>by simp[AO.length h.2]
 |[],_::_,h|_::_,[],h=>h.elim
theorem AO.get {α β:Type} {R:α->β->Prop}:∀{l:List α} {m:List β},AO R l m->∀(i:Nat) (a:α),l[i]? =some a->∃b,m[i]? =some b/\R a b
 | _::_,b::_,h,0,a,e=>by simp at e;exact⟨b,by simp,e ▸ h.1⟩
 | _::_,_::_,h,i+1,a,e=>by simpa using AO.get h.2 i a (by simpa using e)
 | [],[],_,_,_,e=>by simp at e
 |[],_::_,h,_,_,_|_::_,[],h,_,_,_=>h.elim
theorem AO.append {α β:Type} {R:α->β->Prop}:∀{l:List α} {m:List β} {l':List α} {m':List β},AO R l m->AO R l' m'->AO R (l++l') (m++m')
 | [],[],_,_,_,h=>h
 | _::_,_::_,_,_,h,h'=>⟨h.1,AO.append h.2 h'⟩
 |[],_::_,_,_,h,_|_::_,[],_,_,h,_=>h.elim
theorem AO.Mx {α β:Type} {R:α->β->Prop}:∀{l l':List α} {m:List β},AO R (l++l') m->∃m1 m2,m=m1++m2/\AO R l m1/\AO R l' m2
 | [],_,m,h=>⟨[],m,rfl,trivial,h⟩
 | _::_,_,[],h=>h.elim
 | _::_,_,b::_,h=>by
  obtain⟨m1,m2,e,c,d⟩:=AO.Mx h.2;exact⟨b::m1,m2,by simp[e],⟨h.1,c⟩,d⟩
theorem AO.drop {α β:Type} {R:α->β->Prop}:∀{l:List α} {m:List β} (n:Nat),AO R l m->AO R (l.drop n) (m.drop n)
 | _,_,0,h=>by simpa using h
 | [],[],_+1,_=>trivial
 | _::_,_::_,n+1,h=>by simpa using AO.drop n h.2
 |[],_::_,_,h|_::_,[],_,h=>h.elim
theorem AO.take {α β:Type} {R:α->β->Prop}:∀{l:List α} {m:List β} (n:Nat),AO R l m->AO R (l.take n) (m.take n)
 | _,_,0,_=>by simp[AO]
 | [],[],_+1,_=>trivial
 | _::_,_::_,n+1,h=>by simpa [AO] using ⟨h.1,AO.take n h.2⟩
 |[],_::_,_,h|_::_,[],_,h=>h.elim
theorem Hw:∀(cs:List AC) (off n:Nat),Dk cs off n=(cs.drop off).take n
 |_,0,_|[],_+1,_=>by simp[Dk]
 | _::cs,off+1,n=>by simpa [Dk] using Hw cs off n
theorem Ef:∀(t:T) (x:el t),(cells t x).length=t.size
 |.u8,_|.u32,_|.u64,_|.i8,_|.i64,_|.bool,_|.sl _,_=>rfl
 | .pr a b,x=>by simp[cells,T.size,Ef a,Ef b]
theorem T.size_pos:∀t:T,0<t.size
 | .pr a b=>by have:=T.size_pos a;simp[T.size];omega
 |.u8|.u32|.u64|.i8|.i64|.bool|.sl _=>Nat.one_pos
def rep (w:World) (I:Nat->Prop):(t:T)->el t->List Value->Prop
 | .u8,x,vs=>vs=[.int .u8 x.toNat]
 | .u32,x,vs=>vs=[.int .u32 x.toNat]
 | .u64,x,vs=>vs=[.int .u64 x.toNat]
 | .i8,x,vs=>vs=[.int .i8 x]
 | .i64,x,vs=>vs=[.int .i64 x]
 | .bool,x,vs=>vs=[.bool x]
 | .sl t,l,vs=>∃base cap,vs=[.slice base l.length cap]/\l.length<=cap/\l.length<=140737488355328/\
  (l=[]\/∃b off,base=some ⟨b,off,none⟩/\I b/\∀(i:Nat) (x:el t),l[i]? =some x->∃us,rep w I t x us/\w.rangeAt b (off+i*t.size) us)
 | .pr a b,x,vs=>∃v1 v2,vs=v1++v2/\rep w I a x.1 v1/\rep w I b x.2 v2
theorem rangeAt_of_block {w w':World} {b o:Nat} {c:List Value} (h:w'.heap[b]? =w.heap[b]?) (d:w.rangeAt b o c):w'.rangeAt b o c:=
 fun j v f=>(World.cell?_of_block (w:=w) (a:=⟨b,o+j,none⟩) h).trans (d j v f)
theorem Bi {w w':World} {I g:Nat->Prop} (h:∀b,I b->g b/\w'.heap[b]? =w.heap[b]?):∀(t:T) (x:el t) (k:List Value),rep w I t x k->rep w' g t x k
 |.u8,_,_,c|.u32,_,_,c|.u64,_,_,c|.i8,_,_,c|.i64,_,_,c|.bool,_,_,c=>c
 | .sl t,_,_,⟨base,cap,e,d,f,n⟩=>⟨base,cap,e,d,f,n.imp id fun⟨b,off,l,j,m⟩=>
  ⟨b,off,l,(h b j).1,fun i x hx=>let ⟨us,hu,c⟩:=m i x hx;⟨us,Bi h t x us hu,rangeAt_of_block (h b j).2 c⟩⟩⟩
 | .pr a b,x,_,⟨v1,v2,e,d,f⟩=>⟨v1,v2,e,Bi h a x.1 v1 d,Bi h b x.2 v2 f⟩
theorem GV {w:World} {I:Nat->Prop}:∀(t:T) (x:el t) (c:List Value),rep w I t x c->c.length=t.size
 |.u8,_,_,h|.u32,_,_,h|.u64,_,_,h|.i8,_,_,h|.i64,_,_,h|.bool,_,_,h=>by rw[show _=_ from h];rfl
 | .sl _,_,_,⟨_,_,e,_⟩=>by rw[e];rfl
 | .pr a b,x,_,⟨v1,v2,e,d,f⟩=>by rw[e,List.length_append,GV a x.1 v1 d,GV b x.2 v2 f];rfl
theorem Ko {w:World} {I:Nat->Prop}:∀(t:T) (x:el t) (d:List Value),rep w I t x d->∀v∈d,v.oneCell'=true
 |.u8,_,_,h,v,c|.u32,_,_,h,v,c|.u64,_,_,h,v,c|.i8,_,_,h,v,c|.i64,_,_,h,v,c|.bool,_,_,h,v,c=>by rw[show _=_ from h] at c;simp at c;subst c;rfl
 | .sl _,_,_,⟨_,_,e,_⟩,v,c=>by rw[e] at c;simp at c;subst c;rfl
 | .pr a b,x,_,⟨v1,v2,e,f,g⟩,v,c=>by
  rw[e] at c;rcases List.mem_append.1 c with h | h
  ·exact Ko a x.1 v1 f v h
  exact Ko b x.2 v2 g v h
def E4 (w:World) (o:Option Nat) (n off len:Nat) (full:Bool) (v:Value):Prop:=
 ∃base cap,v= .slice base len cap/\len<=cap/\cap<=maxLen/\(full=true->cap=len)/\
  (cap=0\/∃b arr e,o=some b/\base=some ⟨b,off*n,none⟩/\w.heap[b]? =some (.cells arr e (0,0))/\(off+cap)*n<=arr.size)
structure Cx where
 w:World
 β:Nat->Option Nat
 cv:Nat->Nat
 I:Nat->Prop
def Af (x:Cx):AC->Value->Prop
 | .A4,v=>v.oneCell'=true
 | .int k n,v=>v= .int k n
 | .bool b,v=>v= .bool b
 | .fn f,v=>v= .func (.func f) #[] #[]
 | .nil,v=>v= .slice none 0 0
 | .sl t l,v=>rep x.w x.I (.sl t) l [v]
 | .AL t id AM off len,v=>(v.oneCell'=true/\AM<=x.cv id)/\(AM=x.cv id->E4 x.w (x.β id) t.size off len false v)
 | .CD t id AM off len,v=>(v.oneCell'=true/\AM<=x.cv id)/\(AM=x.cv id->E4 x.w (x.β id) t.size off len true v)
 | .An id AM off,v=>(v.oneCell'=true/\AM<=x.cv id)/\(AM=x.cv id->∃b,x.β id=some b/\v= .pointer (some ⟨b,off,none⟩))
 | .Bv t id AM i k,v=>(v.oneCell'=true/\AM<=x.cv id)/\(AM=x.cv id->∃b,x.β id=some b/\v= .pointer (some ⟨b,i*t.size+k,none⟩))
 | .ub e,v=>∃b:Bool,v= .bool b/\(b=true->e=true)
 | .CN t y off,v=>∃b o us,v= .pointer (some ⟨b,o+off,none⟩)/\x.I b/\rep x.w x.I t y us/\x.w.rangeAt b o us
 | .own _ _ _,_=>False
theorem Af.one {x:Cx}:∀{c:AC} {v:Value},Af x c v->v.oneCell'=true
 | .A4,_,h=>h
 |.int _ _,_,h|.bool _,_,h|.fn _,_,h|.nil,_,h=>by rw[show _=_ from h];rfl
 | .sl _ _,_,h=>Ko _ _ _ h _ (by simp)
 |.AL _ _ _ _ _,_,h|.CD _ _ _ _ _,_,h|.An _ _ _,_,h|.Bv _ _ _ _ _,_,h=>h.1.1
 |.CN _ _ _,_,⟨_,_,_,e,_⟩|.ub _,_,⟨_,e,_⟩=>by rw[e];rfl
 | .own _ _ _,_,h=>h.elim
def CX (x:Cx):AV->Value->Prop
 | .one c,v=>c= .A4\/Af x c v
 | .agg cs,v=>∃arr,v= .agg arr/\AO (Af x) cs arr.toList
 | .AG _,_=>False
def At (x:Cx):AV->Value->Prop
 | .AG xs,v=>∃arr,v= .tuple arr/\AO (fun y u=>CX x (CE y) u) xs arr.toList
 | a,v=>CX x a v
def Bx (x:Cx) (id:Nat):AH->Prop
 | .dead _=>True
 | .var _ cs=>∃b arr e,x.β id=some b/\x.w.heap[b]? =some (.cells arr e (0,0))/\AO (Af x) cs arr.toList
 | .arr _ t l=>(x.β id=none/\l=[])\/∃b arr e,x.β id=some b/\x.w.heap[b]? =some (.cells arr e (0,0))/\
  ∀(i:Nat) (y:el t),l[i]? =some y->∃us,rep x.w x.I t y us/\x.w.rangeAt b (i*t.size) us
structure Cx.le (x y:Cx):Prop where
 cv:∀id,x.cv id<=y.cv id
 β:∀id,y.cv id=x.cv id->y.β id=x.β id
 size:∀id b arr e,y.cv id=x.cv id->x.β id=some b->x.w.heap[b]? =some (.cells arr e (0,0))->∃arr',y.w.heap[b]? =some (.cells arr' e (0,0))/\arr'.size=arr.size
 I:∀b,x.I b->y.I b/\y.w.heap[b]? =x.w.heap[b]?
theorem E4.mono {x y:Cx} (h:x.le y) {id n off len:Nat} {f:Bool} {v:Value} (i:y.cv id=x.cv id) (r:E4 x.w (x.β id) n off len f v):E4 y.w (y.β id) n off len f v:=by
 obtain⟨base,cap,e,j,k,o,l⟩:=r;refine⟨base,cap,e,j,k,o,l.imp (fun q=>q) fun⟨b,arr,e',g,c,p,u⟩=>?_⟩;obtain⟨d,m,t⟩:=h.size id b arr e' i g p;exact⟨b,d,e',(h.β id i).trans g,c,m,by omega⟩
theorem Af.mono {x y:Cx} (h:x.le y):∀{c:AC} {v:Value},Af x c v->Af y c v
 |.A4,_,r|.int _ _,_,r|.bool _,_,r|.fn _,_,r|.nil,_,r=>r
 | .sl _ _,_,r=>Bi h.I _ _ _ r
 | .AL _ id v _ _,_,r=>⟨⟨r.1.1,Nat.le_trans r.1.2 (h.cv id)⟩,fun e=>by
  have:=h.cv id;have d:v=x.cv id:=by have:=r.1.2;omega
  exact E4.mono h (e ▸ d) (r.2 d)⟩
 | .CD _ id v _ _,_,r=>⟨⟨r.1.1,Nat.le_trans r.1.2 (h.cv id)⟩,fun e=>by
  have:=h.cv id;have d:v=x.cv id:=by have:=r.1.2;omega
  exact E4.mono h (e ▸ d) (r.2 d)⟩
 | .An id v _,_,r=>⟨⟨r.1.1,Nat.le_trans r.1.2 (h.cv id)⟩,fun e=>by
  have:=h.cv id;have d:v=x.cv id:=by have:=r.1.2;omega
  obtain⟨b,f,g⟩:=r.2 d;exact⟨b,(h.β id (e ▸ d)).trans f,g⟩⟩
 | .Bv _ id v _ _,_,r=>⟨⟨r.1.1,Nat.le_trans r.1.2 (h.cv id)⟩,fun e=>by
  have:=h.cv id;have d:v=x.cv id:=by have:=r.1.2;omega
  obtain⟨b,f,g⟩:=r.2 d;exact⟨b,(h.β id (e ▸ d)).trans f,g⟩⟩
 | .ub _,_,h=>h
 | .CN t l _,_,⟨b,o,us,e,i,k,j⟩=>⟨b,o,us,e,(h.I b i).1,Bi h.I t l us k,rangeAt_of_block (h.I b i).2 j⟩
 | .own _ _ _,_,r=>r.elim
theorem CX.mono {x y:Cx} (h:x.le y):∀{a:AV} {v:Value},CX x a v->CX y a v
 | .one _,_,r=>r.imp (fun q=>q) (Af.mono h)
 | .agg _,_,⟨arr,e,r⟩=>⟨arr,e,r.mono fun _ _=>Af.mono h⟩
 | .AG _,_,r=>r.elim
theorem At.mono {x y:Cx} (h:x.le y):∀{a:AV} {v:Value},At x a v->At y a v
 | .one c,v,r=>CX.mono h (a:= .one c) r
 | .agg cs,v,r=>CX.mono h (a:= .agg cs) r
 | .AG _,_,⟨arr,e,r⟩=>⟨arr,e,r.mono fun _ _=>CX.mono h⟩
theorem FK (x:Cx):∀(t:T) (y:el t) (d:List Value),rep x.w x.I t y d↔AO (Af x) (cells t y) d
 | .u8,y,d=>one x (.int .u8 y.toNat) _ d fun _=>Iff.rfl
 | .u32,y,d=>one x (.int .u32 y.toNat) _ d fun _=>Iff.rfl
 | .u64,y,d=>one x (.int .u64 y.toNat) _ d fun _=>Iff.rfl
 | .i8,y,d=>one x (.int .i8 y) _ d fun _=>Iff.rfl
 | .i64,y,d=>one x (.int .i64 y) _ d fun _=>Iff.rfl
 | .bool,y,d=>one x (.bool y) _ d fun _=>Iff.rfl
 | .sl t,y,d=>by
  match d with
  | []=>exact⟨fun⟨_,_,e,_⟩=>by simp at e,fun h=>h.elim⟩
  | [v]=>exact⟨fun h=>⟨h,trivial⟩,fun h=>h.1⟩
  | _::_::_=>exact⟨fun⟨_,_,e,_⟩=>by simp at e,fun h=>h.2.elim⟩
 | .pr a b,y,d=>by
  constructor
  ·rintro⟨v1,v2,rfl,f,g⟩
   exact ((FK x a y.1 v1).1 f).append ((FK x b y.2 v2).1 g)
  intro h;obtain⟨m1,m2,e,f,g⟩:=AO.Mx h;exact⟨m1,m2,e,(FK x a y.1 m1).2 f,(FK x b y.2 m2).2 g⟩
where
 one (x:Cx) (c:AC) (u:Value) (d:List Value) (h:∀v,Af x c v↔v=u):d=[u]↔AO (Af x) [c] d:=by
  match d with
  | []=>exact⟨fun e=>by simp at e,fun h=>h.elim⟩
  | [v]=>exact⟨fun e=>⟨(h v).2 (by simpa using e),trivial⟩,fun i=>by rw[(h v).1 i.1]⟩
  | _::_::_=>exact⟨fun e=>by simp at e,fun h=>h.2.elim⟩
theorem Bx.mono {x y:Cx} (h:x.le y) {id:Nat} {b:AH} (j:y.cv id=x.cv id) (g:∀k,x.β id=some k->y.w.heap[k]? =x.w.heap[k]?) (r:Bx x id b):Bx y id b:=by
 cases b with
 | dead _=>trivial
 | var _ cs=>
  obtain⟨b,arr,e,c,d,f⟩:=r;exact⟨b,arr,e,(h.β id j).trans c,(g b c).trans d,f.mono fun _ _=>Af.mono h⟩
 | arr _ t l=>
  refine r.imp (fun q=>⟨(h.β id j).trans q.1,q.2⟩) fun⟨b,arr,e,c,d,f⟩=>?_
  refine⟨b,arr,e,(h.β id j).trans c,(g b c).trans d,fun i m o=>?_⟩;obtain⟨us,hu,n⟩:=f i m o;exact⟨us,Bi h.I t m us hu,rangeAt_of_block (g b c) n⟩
end Go.Abs
namespace Go.Abs
open Go.RowKit
theorem Gn:∀(l:List AV) (d:Nat) (v:AV) (i:Nat),nth (Aj l d v) i=if i=d/\d<l.length then v else nth l i
 |[],d,v,i|_::_,0,v,0|_::_,0,v,i+1|_::_,d+1,v,0=>by simp[Aj,nth]
 | a::l,d+1,v,i+1=>by simp[Aj,nth,Gn l d v i]
theorem Er:∀(l:List (Option AH)) (d:Nat) (v:Option AH) (i:Nat),AD (Aj l d v) i=if i=d/\d<l.length then v else AD l i
 |[],d,v,i|_::_,0,v,0|_::_,0,v,i+1|_::_,d+1,v,0=>by simp[Aj,AD]
 | a::l,d+1,v,i+1=>by simp[Aj,AD,Er l d v i]
theorem ET {α:Type}:∀(l:List α) (d:Nat) (v:α),(Aj l d v).length=l.length
 |[],_,_|_::_,0,_=>rfl
 | _::l,d+1,v=>by simp[Aj,ET l d v]
theorem GL:∀(l:List (Option AH)) (i:Nat),l.length<=i->AD l i=none
 | [],_,_=>rfl
 | _::_,0,h=>by simp at h
 | _::l,i+1,h=>by simpa [AD] using GL l i (by simpa using h)
theorem Fo {α:Type}:∀(l:List α) (d:Nat) (v:α),l.length<=d->Aj l d v=l
 | [],_,_,_=>rfl
 | _::_,0,_,h=>by simp at h
 | a::l,d+1,v,h=>by simp[Aj,Fo l d v (by simpa using h)]
def AH.live:AH->Bool
 | .dead _=>false
 | _=>true
def AH.short:AH->Prop
 | .arr _ _ l=>l.length<=140737488355328
 | _=>True
def live (bk:Nat->Option AH) (id:Nat):Prop:=∃b,bk id=some b/\b.live=true
structure WX where
 X:Nat->Prop
 A:Nat->Prop
 ob:Option Nat
def cx (X:WX) (w:World) (β:Nat->Option Nat) (bk:Nat->Option AH):Cx:=
 ⟨w,β,AM bk,fun b=>(b<w.heap.size/\∀id,live bk id->β id≠some b)/\X.A b⟩
structure Aw (w0:World) (X:WX) (β:Nat->Option Nat) (s:St) (a:Act) (w:World):Prop where
 defers:a.defers=[]
 len:s.sl.length=a.tmps.size
 Fa:s.bk.length=a.tmps.size
 BS:∀i,At (cx X w β (AD s.bk)) (nth s.sl i) (a.tmps.getD i undef)
 blocks:∀id b,AD s.bk id=some b->Bx (cx X w β (AD s.bk)) id b
 inj:∀id id' b,live (AD s.bk) id->live (AD s.bk) id'->β id=some b->β id'=some b->id=id'
 own:∀id b,live (AD s.bk) id->β id=some b->w0.heap.size<=b\/(X.X b/\id=0)
 os:w.os=w0.os
 tape:w.tape=w0.tape
 output:w.output=w0.output
 size:w0.heap.size<=w.heap.size
 block:∀b,b<w0.heap.size->¬X.X b->w.heap[b]? =w0.heap[b]?
 lens:∀id b,AD s.bk id=some b->b.short
 fresh:∀b,w0.heap.size<=b->X.A b
 HV:live (AD s.bk) 0->AM (AD s.bk) 0=0->β 0=X.ob/\∀(b:Nat) arr e,X.ob=some b->w0.heap[b]? =some (.cells arr e (0,0))->∃arr',w.heap[b]? =some (.cells arr' e (0,0))/\arr'.size=arr.size
section
variable {w0:World} {X:WX} {β:Nat->Option Nat} {s:St} {a:Act} {w:World}
theorem GU (x:Cx) (v:Value):At x (.one .A4) v:=Or.inl rfl
theorem Wt (a:Act) (d:Nat) (v:Value) (i:Nat):(a.put (some d) v).tmps.getD i undef=if i=d/\d<a.tmps.size then v else a.tmps.getD i undef:=by
 simp only[Act.put,Array.getD_eq_getD_getElem?,Array.getElem?_setIfInBounds]
 by_cases h:d=i
 ·subst h
  by_cases b:d<a.tmps.size <;> simp[b]
 simp[h,Ne.symm h]
theorem So {x:Cx} {s:St} {a:Act} (hlen:s.sl.length=a.tmps.size) (h:∀i,At x (nth s.sl i) (a.tmps.getD i undef)) (dst:Option Nat) (v:AV) (u:Value) (b:At x v u):
  ∀i,At x (nth (Di s.sl dst v) i) ((a.put dst u).tmps.getD i undef):=by
 intro i;cases dst with
 | none=>exact h i
 | some d=>
  rw[Wt];simp only[Di,Gn,hlen]
  split
  ·exact b
  exact h i
theorem Qs {s:St} {a:Act} (hlen:s.sl.length=a.tmps.size) (dst:Option Nat) (v:AV) (u:Value):(Di s.sl dst v).length=(a.put dst u).tmps.size:=by
 cases dst <;> simp[Di,Act.put,ET,hlen]
theorem size_put (a:Act) (dst:Option Nat) (u:Value):(a.put dst u).tmps.size=a.tmps.size:=by cases dst <;> simp[Act.put]
theorem Pq (a:Act) (dst:Option Nat) (u:Value):(a.put dst u).defers=a.defers:=by cases dst <;> rfl
theorem Aw.ext (S:Aw w0 X β s a w) {w':World} {dst:Option Nat} {v:AV} {u:Value} {rd:List Nat} (hw:∀b,b<w.heap.size->w'.heap[b]? =w.heap[b]?) (f:w.heap.size<=w'.heap.size)
  (x:w'.os=w.os) (j:w'.tape=w.tape) (p:w'.output=w.output) (y:At (cx X w' β (AD s.bk)) v u):Aw w0 X β (s.app dst ⟨v,[],rd⟩) (a.put dst u) w':=by
 have d:∀b o,w.heap[b]? =some o->b<w.heap.size:=fun b o h=>by
  rcases Nat.lt_or_ge b w.heap.size with h' | h'
  ·exact h'
  simp[Array.getElem?_eq_none h'] at h
 have hle:(cx X w β (AD s.bk)).le (cx X w' β (AD s.bk)):=
  ⟨fun _=>Nat.le_refl _,fun _ _=>rfl,fun id b arr e _ _ z=>⟨arr,(hw b (d b _ z)).trans z,rfl⟩,fun b c=>⟨⟨⟨Nat.lt_of_lt_of_le c.1.1 f,c.1.2⟩,c.2⟩,hw b c.1.1⟩⟩
 refine⟨(Pq _ _ _).trans S.defers,Qs S.len _ _ _,S.Fa.trans (size_put _ _ _).symm,So S.len (fun i=>At.mono hle (S.BS i)) dst v u y,fun id b c=>?_,S.inj,S.own,
  x.trans S.os,j.trans S.tape,p.trans S.output,Nat.le_trans S.size f,fun b c hx=>(hw b (Nat.lt_of_lt_of_le c S.size)).trans (S.block b c hx),S.lens,S.fresh,fun F y=>?_⟩
 case refine_2=>
  obtain⟨n,g⟩:=S.HV F y;refine⟨n,fun b arr e c he=>?_⟩;obtain⟨m,k,B⟩:=g b arr e c he;exact⟨m,(hw b (d b _ k)).trans k,B⟩
 have r:=S.blocks id b c;cases b with
 | dead _=>trivial
 | var _ cs=>
  obtain⟨b,arr,e,n,g,k⟩:=r;exact⟨b,arr,e,n,(hw b (d b _ g)).trans g,k.mono fun _ _=>Af.mono hle⟩
 | arr _ t l=>
  refine r.imp (fun q=>q) fun⟨b,arr,e,n,g,k⟩=>?_
  refine⟨b,arr,e,n,(hw b (d b _ g)).trans g,fun i A D=>?_⟩;obtain⟨us,hu,C⟩:=k i A D;exact⟨us,Bi hle.I t A us hu,rangeAt_of_block (hw b (d b _ g)) C⟩
theorem Aw.val (S:Aw w0 X β s a w) {dst:Option Nat} {v:AV} {u:Value} {rd:List Nat} (b:At (cx X w β (AD s.bk)) v u):Aw w0 X β (s.app dst ⟨v,[],rd⟩) (a.put dst u) w:=
 S.ext (fun _ _=>rfl) (Nat.le_refl _) rfl rfl rfl b
theorem Dm (l:List (Option AH)) (id:Nat) (b:AH) (c:id<l.length) (k:Nat):AM (AD (Aj l id (some b))) k=if k=id then b.AM else AM (AD l) k:=by
 unfold AM;rw[Er]
 by_cases h:k=id
 ·subst h;simp[c]
 simp[h]
theorem FF (l:List (Option AH)) (id:Nat) (b:AH) (c:id<l.length) (k:Nat):live (AD (Aj l id (some b))) k↔if k=id then b.live=true else live (AD l) k:=by
 unfold live;rw[Er]
 by_cases h:k=id
 ·subst h;simp[c]
 simp[h]
theorem Aw.write (S:Aw w0 X β s a w) {g:Nat->Option Nat} {w':World} {dst:Option Nat} {v:AV} {u:Value} {rd:List Nat} {id:Nat} {As:AH} (p:id<s.bk.length) (V:As.short)
  (y:∀k,k≠id->g k=β k) (T:AM (AD s.bk) id<=As.AM) (I:As.AM=AM (AD s.bk) id->g id=β id/\(As.live=true->live (AD s.bk) id))
  (x:∀b,b<w.heap.size->(live (AD s.bk) id->β id≠some b)->w'.heap[b]? =w.heap[b]?) (H:w.heap.size<=w'.heap.size)
  (F:∀(b:Nat) arr e,w.heap[b]? =some (.cells arr e (0,0))->∃A,w'.heap[b]? =some (.cells A e (0,0))/\A.size=arr.size)
  (U:w'.os=w.os) (M:w'.tape=w.tape) (R:w'.output=w.output)
  (n:As.live=true->∀b,g id=some b->(β id=some b/\live (AD s.bk) id)\/w.heap.size<=b)
  (hB:(cx X w β (AD s.bk)).le (cx X w' g (AD (Aj s.bk id (some As))))->Bx (cx X w' g (AD (Aj s.bk id (some As)))) id As)
  (W:(cx X w β (AD s.bk)).le (cx X w' g (AD (Aj s.bk id (some As))))->At (cx X w' g (AD (Aj s.bk id (some As)))) v u):
  Aw w0 X g (s.app dst ⟨v,[(id,As)],rd⟩) (a.put dst u) w':=by
 have Q:∀b o,w.heap[b]? =some o->b<w.heap.size:=fun b o h=>by
  rcases Nat.lt_or_ge b w.heap.size with h' | h'
  ·exact h'
  simp[Array.getElem?_eq_none h'] at h
 have B:∀k b,live (AD s.bk) k->β k=some b->b<w.heap.size:=fun k b ⟨K,z,D⟩ f=>by
  have r:=S.blocks k K z;cases K with
  | dead _=>simp[AH.live] at D
  | var _ _=>obtain⟨b',arr,e,q,C,_⟩:=r;obtain rfl:b=b':=Option.some.inj (f.symm.trans q);exact Q b _ C
  | arr _ _ _=>
   rcases r with⟨q,_⟩ |⟨b',arr,e,q,C,_⟩
   ·exact absurd (f.symm.trans q) (by simp)
   obtain rfl:b=b':=Option.some.inj (f.symm.trans q);exact Q b _ C
 have hle:(cx X w β (AD s.bk)).le (cx X w' g (AD (Aj s.bk id (some As)))):=by
  refine⟨fun k=>?_,fun k z=>?_,fun k b arr e _ _ hh=>F b arr e hh,fun b f=>⟨⟨⟨Nat.lt_of_lt_of_le f.1.1 H,fun k z=>?_⟩,f.2⟩,x b f.1.1 (fun D=>f.1.2 id D)⟩⟩
  ·show AM _ k<=AM _ k
   rw[Dm _ _ _ p]
   split
   ·subst_vars;exact T
   exact Nat.le_refl _
  ·by_cases h:k=id
   ·subst h;have c:AM (AD (Aj s.bk k (some As))) k=AM (AD s.bk) k:=z;rw[Dm _ _ _ p,if_pos rfl] at c;exact (I c).1
   exact y k h
  rw[FF _ _ _ p] at z
  by_cases h:k=id
  ·subst h;simp only[if_true] at z;intro e;rcases n z b e with⟨q,C⟩ | q
   ·exact f.1.2 k C q
   have:=f.1.1
   show False
   have a1:b<w.heap.size:=f.1.1;omega
  simp only[h,if_false] at z
  show g k≠some b
  rw[y k h];exact f.1.2 k z
 refine⟨(Pq _ _ _).trans S.defers,Qs S.len _ _ _,?_,?_,fun k b z=>?_,fun k k' b z c f m=>?_,fun k b z f=>?_,U.trans S.os,M.trans S.tape,R.trans S.output,Nat.le_trans S.size H,fun b f hx=>?_,fun k b z=>?_,S.fresh,fun D W=>?_⟩
 ·show (Aj s.bk id (some As)).length=_
  rw[ET,size_put];exact S.Fa
 ·exact So S.len (fun i=>At.mono hle (S.BS i)) dst v u (W hle)
 ·have c:AD (Aj s.bk id (some As)) k=some b:=z;rw[Er] at c
  by_cases h:k=id
  ·subst h;simp only[p,and_self,if_true,Option.some.injEq] at c;subst c;exact hB hle
  simp only[h,false_and,if_false] at c
  have O:(cx X w' g (AD (Aj s.bk id (some As)))).cv k=(cx X w β (AD s.bk)).cv k:=by
   show AM _ k=AM _ k
   rw[Dm _ _ _ p,if_neg h]
  have r:=S.blocks k b c;have Y:(cx X w' g (AD (Aj s.bk id (some As)))).β k=(cx X w β (AD s.bk)).β k:=y k h;cases b with
  | dead _=>trivial
  | var vv cs=>
   refine Bx.mono hle O (fun b' m=>?_) r;have D:live (AD s.bk) k:=⟨_,c,rfl⟩;exact x b' (B k b' D m) fun L e=>h (S.inj k id b' D L m e)
  | arr vv t l=>
   refine Bx.mono hle O (fun b' m=>?_) r;have D:live (AD s.bk) k:=⟨_,c,rfl⟩;exact x b' (B k b' D m) fun L e=>h (S.inj k id b' D L m e)
 ·have d:live (AD (Aj s.bk id (some As))) k:=z;have j:live (AD (Aj s.bk id (some As))) k':=c;rw[FF _ _ _ p] at d j
  by_cases h:k=id <;> by_cases h':k'=id
  ·rw[h,h']
  ·subst h;simp only[if_true,h',if_false] at d j;rw[y k' h'] at m;rcases n d b f with⟨q,C⟩ | q
   ·exact S.inj k k' b C j q m
   have:=B k' b j m;omega
  ·subst h';simp only[if_true,h,if_false] at d j;rw[y k h] at f;rcases n j b m with⟨q,C⟩ | q
   ·exact S.inj k k' b d C f q
   have:=B k b d f;omega
  simp only[h,h',if_false] at d j;rw[y k h] at f;rw[y k' h'] at m;exact S.inj k k' b d j f m
 ·have d:live (AD (Aj s.bk id (some As))) k:=z;rw[FF _ _ _ p] at d
  by_cases h:k=id
  ·subst h;simp only[if_true] at d;rcases n d b f with⟨q,C⟩ | q
   ·exact S.own k b C q
   exact Or.inl (Nat.le_trans S.size q)
  simp only[h,if_false] at d;rw[y k h] at f;exact S.own k b d f
 ·rw[x b (Nat.lt_of_lt_of_le f S.size) fun D e=>?_]
  ·exact S.block b f hx
  rcases S.own id b D e with h | h
  ·omega
  exact hx h.1
 ·have c:AD (Aj s.bk id (some As)) k=some b:=z;rw[Er] at c
  by_cases h:k=id
  ·subst h;simp only[p,and_self,if_true,Option.some.injEq] at c;subst c;exact V
  simp only[h,false_and,if_false] at c;exact S.lens k b c
 have G:live (AD (Aj s.bk id (some As))) 0:=D;have J:AM (AD (Aj s.bk id (some As))) 0=0:=W;rw[FF _ _ _ p] at G;rw[Dm _ _ _ p] at J
 have key:live (AD s.bk) 0/\AM (AD s.bk) 0=0/\g 0=β 0:=by
  by_cases h:0=id
  ·subst h;simp only[if_true] at G J;have Z:AM (AD s.bk) 0=0:=by omega
   have:=I (by omega);exact⟨this.2 G,Z,this.1⟩
  simp only[h,if_false] at G J;exact⟨G,J,y 0 h⟩
 obtain⟨q,C⟩:=S.HV key.1 key.2.1;refine⟨key.2.2.trans q,fun b arr e f he=>?_⟩;obtain⟨A,h3,h4⟩:=C b arr e f he;obtain⟨N,h5,h6⟩:=F b A e h3;exact⟨N,h5,by omega⟩
end
end Go.Abs
namespace Go.Abs
open Go.RowKit
def CM (w:World) (I:Nat->Prop):Cx:=⟨w,fun _=>none,fun _=>0,I⟩
def OwnAt (x:Cx) (lo:Nat) (bo:Option Nat) (t:T) (l:List (el t)) (v:Value):Prop:=
 ∃base cap,v= .slice base l.length cap/\l.length<=cap/\cap<=maxLen/\l.length<=140737488355328/\
  ((bo=none/\l=[]/\cap=0)\/∃b arr e,bo=some b/\lo<=b/\base=some ⟨b,0,none⟩/\x.w.heap[b]? =some (.cells arr e (0,0))/\cap*t.size<=arr.size/\
    ∀(i:Nat) (y:el t),l[i]? =some y->∃us,rep x.w x.I t y us/\x.w.rangeAt b (i*t.size) us)
def By (x:Cx) (lo:Nat) (bo:Option Nat):AC->Value->Prop
 | .own t l n,v=>n=l.length/\OwnAt x lo bo t l v
 | c,v=>Af x c v
def D4 (x:Cx) (lo:Nat) (bo:Option Nat):AV->Value->Prop
 | .one c,v=>c= .A4\/By x lo bo c v
 | .agg cs,v=>∃arr,v= .agg arr/\AO (By x lo bo) cs arr.toList
 | .AG _,_=>False
def Ea (x:Cx) (lo:Nat) (bo:Option Nat):AV->Value->Prop
 | .AG xs,v=>∃arr,v= .tuple arr/\AO (fun y u=>D4 x lo bo (CE y) u) xs arr.toList
 | a,v=>D4 x lo bo a v
def BR:AC->Bool
 | .own _ _ _=>true
 | c=>Ah c
def C7:AC->Bool
 |.AL _ 0 0 _ _|.An 0 0 _=>true
 | c=>Ah c
def AV.wf:AV->Bool
 | .AG xs=>xs.all fun x=>x.1||decide (x.2.length<=1)
 | _=>true
def AH.lone:AH->Bool
 | .var v cs=>v==0&&cs.all Ah
 | .arr v _ _=>v==0
 | .dead _=>false
def Callee (P : Program) (f : FuncId) : Prop := ∃ fn c, P.funcs[f]? = some fn /\ (fn.name == "runtime.NumGoroutine") = false /\ fn.body = some c
def EF (P:Program) (fl:Bool) (f:FuncId) (args:List AV) (r:AV):Prop:=
 Callee P f/\(r.all BR=true/\r.wf=true)/\
 ∀(w:World) (I:Nat->Prop) (vs:List Value),(∀b,I b->b<w.heap.size)->AO (At (CM w I)) args vs->
  Calls P f vs.toArray w fun e w'=>∃u bo,e= .returned u/\Below w.heap.size w w'/\
   Ea (CM w' fun b=>((fl=false/\I b)\/w.heap.size<=b)/\b<w'.heap.size/\bo≠some b) w.heap.size bo r u
def β0 (ob:Option Nat):Nat->Option Nat:=fun k=>if k=0 then ob else none
def BW (w:World) (ob:Option Nat) (I:Nat->Prop):Cx:=⟨w,β0 ob,fun _=>0,I⟩
def FN (P:Program) (f:FuncId) (c0:AC) (b0:AH) (args:List AV) (r:AV) (b1:AH):Prop:=
 Callee P f/\(r.all C7=true/\C7 c0=true/\b0.lone=true/\b1.lone=true)/\
 ∀(w:World) (I:Nat->Prop) (ob:Option Nat) (v0:Value) (vs:List Value),(∀b,I b->b<w.heap.size/\ob≠some b)->
  Af (BW w ob I) c0 v0->Bx (BW w ob I) 0 b0->b0.short->AO (At (CM w I)) args vs->
  Calls P f (v0::vs).toArray w fun e w'=>∃u,e= .returned u/\
   (w'.os=w.os/\w'.tape=w.tape/\w'.output=w.output/\w.heap.size<=w'.heap.size/\∀k,k<w.heap.size->ob≠some k->w'.heap[k]? =w.heap[k]?)/\
   (∀(b:Nat) arr e,ob=some b->w.heap[b]? =some (.cells arr e (0,0))->∃arr',w'.heap[b]? =some (.cells arr' e (0,0))/\arr'.size=arr.size)/\
   At (BW w' ob fun k=>(I k\/w.heap.size<=k)/\k<w'.heap.size/\ob≠some k) r u/\
   Bx (BW w' ob fun k=>(I k\/w.heap.size<=k)/\k<w'.heap.size/\ob≠some k) 0 b1/\b1.short
def Da (P:Program) (f:FuncId) (args:List AV) (b0:AH) (r:AV):Prop:=
 Callee P f/\(r.all Ah=true/\b0.lone=true)/\
 ∀(w:World) (I:Nat->Prop) (ob:Option Nat) (vs:List Value),(∀b,I b->b<w.heap.size/\ob≠some b)->
  Bx (BW w ob I) 0 b0->b0.short->AO (At (BW w ob I)) args vs->
  Calls P f vs.toArray w fun e w'=>∃u,e= .returned u/\
   (w'.os=w.os/\w'.tape=w.tape/\w'.output=w.output/\w.heap.size<=w'.heap.size/\∀k,k<w.heap.size->ob≠some k->w'.heap[k]? =w.heap[k]?)/\
   (∀(b:Nat) arr e,ob=some b->w.heap[b]? =some (.cells arr e (0,0))->∃arr',w'.heap[b]? =some (.cells arr' e (0,0))/\arr'.size=arr.size)/\
   At (BW w' ob fun k=>(I k\/w.heap.size<=k)/\k<w'.heap.size/\ob≠some k) r u/\
   Bx (BW w' ob fun k=>(I k\/w.heap.size<=k)/\k<w'.heap.size/\ob≠some k) 0 b0
def env (P:Program):Env:=⟨EF P,FN P,Da P⟩
structure Ce (P:Program) (t:TypeId) (i:Info):Prop where
 info:i.known=true->∃ti z d,P.info? t=some ti/\ti.size=i.size/\ti.zero=some z/\(∀x,AO (Af x) i.zero z.cells.toList)/\
  P.underlying t=some d/\d.isRow=i.agg/\(i.agg=false->i.size=1)
 kind:∀k,i.kind=some k->P.underlying t=some (.int k)
 isb:i.KE=true->P.underlying t=some .bool
 sl:i.sl=true->P.underlying t=some (.slice i.B7)/\∃ei z,P.info? i.B7=some ei/\ei.size=i.elem.size/\ei.bytes=i.Dt/\0<ei.bytes/\ei.zero=some z/\
  ∀x,AO (Af x) (cells i.elem i.Bt) z.cells.toList
 fields:i.known=true->i.fields≠[]->∃fs:Array Field,P.underlying t=some (.struct fs)/\i.fields.length=fs.size/\
  ∀(f fo n:Nat) (g:Bool),i.fields[f]? =some (fo,n,g)->∃fl d,fs[f]? =some fl/\fl.offset=fo/\(P.info? fl.type).map (·.size)=some n/\0<n/\P.underlying fl.type=some d/\d.isRow=g/\(g=false->n=1)
theorem T.beq_eq:∀{a b:T},T.beq a b=true->a=b
 |.u8,b,h|.u32,b,h|.u64,b,h|.i8,b,h|.i64,b,h|.bool,b,h=>by cases b <;> simp_all [T.beq]
 | .sl a,b,h=>by cases b <;> simp_all [T.beq];exact T.beq_eq h
 | .pr a c,b,h=>by cases b <;> simp_all [T.beq];exact⟨T.beq_eq h.1,T.beq_eq h.2⟩
section
variable {P:Program} {w:World}
theorem SM {t:TypeId} {d:TypeDesc} (hu:P.underlying t=some d):(isAgg t).run P w= .ok d.isRow w:=by
 unfold isAgg;rw[Sem.run_bind,run_underlying hu w];cases d <;> simp
theorem Ys {t:TypeId} {d:TypeDesc} {b o:Nat} {v:Value} (hu:P.underlying t=some d) (f:d.isRow=false) (c:w.cell? ⟨b,o,none⟩=some v):
  (Instr.loadAt t (.pointer (some ⟨b,o,none⟩))).run P w= .ok v w:=by
 simp only[Instr.loadAt,Instr.sureAddr,Sem.run_bind,Sem.run_pure,Result.andThen_ok,loadVar,SM hu,f];simp[load,Sem.run,c]
theorem Yt {t:TypeId} {f:TypeInfo} {b o:Nat} {v:Value} (h:P.info? t=some f) (d:v.cells.size=f.size) (ht:w.there b o f.size) (g:∀u∈v.cells.toList,u.oneCell'=true):
  (Instr.storeAt t (.pointer (some ⟨b,o,none⟩)) v).run P w= .ok () (w.setCells b o v.cells.toList):=by
 have:=run_storeCells_cells (P:=P) b o v.cells.toList 0 w (fun j c=>by simpa using (ht j (by simpa [d] using c)).1) (fun j c=>by simpa using (ht j (by simpa [d] using c)).2) g;simp only[Nat.add_zero] at this;simp[Instr.storeAt,Instr.sureAddr,storeVar,sizeOf,typeInfo,h,d,this]
end
theorem RY {v:Value} (h:v.oneCell'=true):v.cells= #[v]:=by
 cases v <;> simp_all [Value.oneCell',Value.cells]
theorem CX.cells {x:Cx} {av:AV} {v:Value} (h:CX x av v) (b:av.full=true):AO (Af x) av.cs v.cells.toList:=by
 cases av with
 | one c=>
  rcases h with rfl | h
  ·simp[AV.full] at b
  rw[RY h.one];exact⟨h,trivial⟩
 | agg cs=>obtain⟨arr,rfl,h⟩:=h;exact h
 | AG _=>exact h.elim
theorem AO.one {x:Cx}:∀{cs:List AC} {c:List Value},AO (Af x) cs c->∀v∈c,v.oneCell'=true
 | [],[],_,_,b=>by simp at b
 | _::_,_::_,h,v,b=>by
  rcases List.mem_cons.1 b with rfl | b
  ·exact h.1.one
  exact AO.one h.2 v b
 |[],_::_,h,_,_|_::_,[],h,_,_=>h.elim
theorem Yg {x:Cx} {a:AV} {v:Value} (h:CX x a v):At x a v:=by cases a <;> first | exact h | exact h.elim
theorem Iz {x:Cx} {a:AV} {v:Value} (h:At x a v) (b:∀xs,a≠ .AG xs):CX x a v:=by cases a <;> first | exact h | exact absurd rfl (b _)
theorem Bm {x:Cx} {s:St} {a:Act} (h:∀i,At x (nth s.sl i) (a.tmps.getD i undef)) (o:Operand):At x (ev s.sl o) (a.eval o):=by
 cases o with
 | tmp t=>exact h t
 | func f=>exact Or.inr rfl
 | global g=>exact Or.inl rfl
 | const v=>
  show At x (MB v) v
  unfold MB
  split <;> first | exact Or.inr rfl | exact Or.inl rfl
def valOf (g:Bool) (vs:List Value):Value:=
 match g with
 | true=> .agg vs.toArray
 | false=>vs.headD undef
theorem Rz {x:Cx} {g:Bool} {cs:List AC} {b:List Value} (h:AO (Af x) cs b) (d:g=false->cs.length=1):
  At x (CE (g,cs)) (valOf g b):=by
 cases g with
 | true=>exact⟨_,rfl,by simpa using h⟩
 | false=>
  have:=d rfl
  match cs,b,h with
  | [c],[v],h=>exact Or.inr h.1
end Go.Abs
namespace Go.Abs
open Go.RowKit
section
variable {P:Program} {E:Env} {TI:TypeId->Info} {w0:World} {X:WX} {β:Nat->Option Nat} {s:St} {a:Act} {w:World}
theorem BT {o:Oper} {u:Value} {w':World} {N:Act->World->Prop} {Q:Exit->Act->World->Prop} (c:(execOp a.eval o).run P w= .ok (.value u) w') (b:N (a.put o.dst u) w'):o.wp P a w N Q:=by
 unfold Oper.wp;rw[c];exact b
theorem aF {o:Oper} {w':World} {N:Act->World->Prop} {Q:Exit->Act->World->Prop} (c:(execOp a.eval o).run P w= .ok .skip w') (b:N (a.put o.dst undef) w'):o.wp P a w N Q:=by
 unfold Oper.wp;rw[c];exact b
def Sound (P:Program) (E:Env) (TI:TypeId->Info) (o:Oper):Prop:=
 ∀{w0:World} {X:WX} {β:Nat->Option Nat} {s:St} {a:Act} {w:World},Aw w0 X β s a w->∀{f:A5},BP E TI o (Ax o) (ev s.sl) (AD s.bk) (fun g=>g=f)->
  ∀{N:Act->World->Prop} {Q:Exit->Act->World->Prop},(∀β' a' w',Aw w0 X β' (s.app o.dst f) a' w'->N a' w')->o.wp P a w N Q
theorem ZP {o:Oper} {x:Operand} (b:o.op= .move x):Sound P E TI o:=by
 intro w0 X β s a w S f h N Q c;simp only[BP,b] at h;subst h;exact BT (u:=a.eval x) (w':=w) (by simp[execOp,b]) (c _ _ _ (S.val (Bm S.BS x)))
theorem ZC {o:Oper} {x:Operand} (b:o.op= .assign x):Sound P E TI o:=by
 intro w0 X β s a w S f h N Q c;simp only[BP,b] at h;subst h;exact BT (u:=a.eval x) (w':=w) (by simp[execOp,b]) (c _ _ _ (S.val (Bm S.BS x)))
theorem ZR {o:Oper} {c x y:Operand} (g:o.op= .pick c x y):Sound P E TI o:=by
 intro w0 X β s a w S f h N Q i;simp only[BP,g] at h;have b:=Bm S.BS c
 split at h
 ·rename_i he
  rw[he] at b;have d:a.eval c= .bool true:=by rcases b with b | b <;> simp_all [Af]
  subst h;exact BT (u:=a.eval x) (w':=w) (by simp[execOp,g,d,asBool]) (i _ _ _ (S.val (Bm S.BS x)))
 ·rename_i he
  rw[he] at b;have d:a.eval c= .bool false:=by rcases b with b | b <;> simp_all [Af]
  subst h;exact BT (u:=a.eval y) (w':=w) (by simp[execOp,g,d,asBool]) (i _ _ _ (S.val (Bm S.BS y)))
 exact h.elim
theorem A0 {x:Cx} {c:AC} {v:Value} (h:At x (.one c) v) (b:c≠ .A4):Af x c v:=(show c= .A4\/Af x c v from h).resolve_left b
theorem ZQ {o:Oper} {x:Operand} (i:o.op= .nilCheck x):Sound P E TI o:=by
 intro w0 X β s a w S f h N Q j;simp only[BP,i] at h;have hx:=Bm S.BS x
 split at h
 ·rename_i id v off he
  split at h
  ·rename_i k
   subst h;have c:=hx;rw[he] at hx;obtain⟨b,_,d⟩:=(A0 hx (by simp)).2 k.symm;exact BT (u:=a.eval x) (w':=w) (by simp[execOp,i,d]) (j _ _ _ (S.val c))
  exact h.elim
 ·rename_i g he
  subst h;have c:=hx;rw[he] at hx;have d:a.eval x= .func (.func g) #[] #[]:=A0 hx (by simp);exact BT (u:=a.eval x) (w':=w) (by simp[execOp,i,d]) (j _ _ _ (S.val c))
 exact h.elim
theorem ZJ {o:Oper} {x:Operand} {i:Nat} (d:o.op= .extract x i):Sound P E TI o:=by
 intro w0 X β s a w S f h N Q g;simp only[BP,d] at h;have hx:=Bm S.BS x
 split at h
 ·rename_i xs he
  rw[he] at hx;obtain⟨arr,k,b⟩:=hx
  split at h
  ·rename_i y l
   subst h;obtain⟨u,hu,j⟩:=b.get i y l;have c:arr[i]? =some u:=by simpa using hu
   exact BT (u:=u) (w':=w) (by simp[execOp,d,k,Instr.extract,c]) (g _ _ _ (S.val (Yg j)))
  exact h.elim
 exact h.elim
theorem LI {c:Int} (h:Gk c):IntKind.i64.wrap c=c:=IntWalk.i64_in c ⟨h.1,by have:=h.2;omega⟩
theorem O7 {op:BinOp} {k k':IntKind} {x y:Int} {c:AC} {t:TypeId} (n:k=k'\/op= .shl\/op= .shr) (h:arith op k x y (fun d=>d=c)):
  ∃u,(binOp op t (.int k x) (.int k' y)).run P w= .ok u w/\∀Γ,Af Γ c u:=by
 have g:∀{p q:Int},0<=p->p.tdiv q=p/q:=fun h=>Int.tdiv_eq_ediv_of_nonneg h
 have i:∀{p q:Int},0<=p->p.tmod q=p%q:=fun h=>Int.tmod_eq_emod_of_nonneg h
 by_cases j:op= .shl\/op= .shr
 ·rcases j with rfl | rfl
  ·have h':=h _ rfl;obtain⟨b,rfl⟩:=h';have l:¬y<0:=by have:=b ();omega
   exact⟨_,by simp only[binOp,Op.shift,if_neg l];rfl,fun _=>rfl⟩
  have h':=h _ rfl;obtain⟨b,rfl⟩:=h';have l:¬y<0:=by have:=b ();omega
  exact⟨_,by simp only[binOp,Op.shift,if_neg l];rfl,fun _=>rfl⟩
 have n:k=k':=n.resolve_right j;subst n
 have r:∀f,f≠ .shl->f≠ .shr->binOp f t (.int k x) (.int k y)=(match f with
  | .add | .sub | .mul=>Op.intArith f k x y | .quo | .rem=>Op.intDiv f k x y | .and | .or | .xor | .andNot=>Op.intBits f k x y | _=>Op.intCmp f x y):=by
  intro f b m;cases f <;> simp_all [binOp]
 rw[r op (fun e=>j (.inl e)) (fun e=>j (.inr e))];cases op
 case shl=>exact absurd (.inl rfl) j
 case shr=>exact absurd (.inr rfl) j
 case eql=>obtain rfl:=h _ rfl;exact⟨_,rfl,fun _=>rfl⟩
 case neq=>obtain rfl:=h _ rfl;exact⟨_,rfl,fun _=>rfl⟩
 case lss=>obtain rfl:=h _ rfl;exact⟨_,rfl,fun _=>rfl⟩
 case leq=>obtain rfl:=h _ rfl;exact⟨_,rfl,fun _=>rfl⟩
 case gtr=>obtain rfl:=h _ rfl;exact⟨_,rfl,fun _=>rfl⟩
 case geq=>obtain rfl:=h _ rfl;exact⟨_,rfl,fun _=>rfl⟩
 case and=>obtain rfl:=h _ rfl;exact⟨_,rfl,fun _=>rfl⟩
 case or=>obtain rfl:=h _ rfl;exact⟨_,rfl,fun _=>rfl⟩
 case xor=>obtain rfl:=h _ rfl;exact⟨_,rfl,fun _=>rfl⟩
 case andNot=>obtain rfl:=h _ rfl;exact⟨_,rfl,fun _=>rfl⟩
 case add=>
  cases k
  case i64=>obtain⟨b,rfl⟩:=h _ rfl;exact⟨_,rfl,fun _=>by show _=_;rw[LI (b ())]⟩
  all_goals (obtain rfl:=h _ rfl;exact⟨_,rfl,fun _=>rfl⟩)
 case sub=>
  cases k
  case i64=>obtain⟨b,rfl⟩:=h _ rfl;exact⟨_,rfl,fun _=>by show _=_;rw[LI (b ())]⟩
  all_goals (obtain rfl:=h _ rfl;exact⟨_,rfl,fun _=>rfl⟩)
 case mul=>
  cases k
  case i64=>obtain⟨b,rfl⟩:=h _ rfl;exact⟨_,rfl,fun _=>by show _=_;rw[LI (b ())]⟩
  all_goals (obtain rfl:=h _ rfl;exact⟨_,rfl,fun _=>rfl⟩)
 case quo=>
  cases k
  case i64=>
   obtain⟨b,rfl⟩:=h _ rfl;obtain⟨b,m,o⟩:=b ();exact⟨_,by simp only[Op.intDiv,if_neg (show ¬y=0 by omega)];rfl,fun _=>by show _=_;rw[g b,LI o]⟩
  all_goals
   obtain⟨b,rfl⟩:=h _ rfl;obtain⟨b,m⟩:=b ();exact⟨_,by simp only[Op.intDiv,if_neg (show ¬y=0 by omega)];rfl,fun _=>by show _=_;rw[g b]⟩
 case rem=>
  cases k
  all_goals
   obtain⟨b,rfl⟩:=h _ rfl;obtain⟨b,m⟩:=b ();exact⟨_,by simp only[Op.intDiv,if_neg (show ¬y=0 by omega)];rfl,fun _=>by show _=_;rw[i b]⟩
theorem Wg (op:BinOp) (t:TypeId) (x y:Operand) (k k':IntKind) (m n:Int):(eqGuard op t x y (.int k m) (.int k' n)).run P w= .ok () w:=by
 unfold eqGuard;cases op <;> simp
end
end Go.Abs
