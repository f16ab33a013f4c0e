/- Part 3 of a proof. Conditions: each theorem's own. -/
import Derived.Deep.MidRow
import Derived.ArgAppend
import Derived.Test.YtoonaidhfikkeaaGreatPk01
set_option linter.all false
set_option maxHeartbeats 8000000
namespace Go.Abs
open Go.RowKit
def AO {α β:Type} (R:α->β->Prop):List α->List β->Prop
 | [],[]=>True
 | a::l,b::m=>R a b/\AO R l m
 | _,_=>False
theorem AO.mono {α β:Type} {R R':α->β->Prop}:∀{l:List α} {m:List β},(∀a b,R a b->R' a b)->AO R l m->AO R' l m
 | [],[],_,h=>h
 | _::_,_::_,c,h=>⟨c _ _ h.1,AO.mono c h.2⟩
 |[],_::_,_,h|_::_,[],_,h=>h
theorem AO.length {α β:Type} {R:α->β->Prop}:∀{l:List α} {m:List β},AO R l m->l.length=m.length
 | [],[],_=>rfl
 | _::_,_::_,h=>by simp[AO.length h.2]
 |[],_::_,h|_::_,[],h=>h.elim
theorem AO.get {α β:Type} {R:α->β->Prop}:∀{l:List α} {m:List β},AO R l m->∀(i:Nat) (a:α),l[i]? =some a->∃b,m[i]? =some b/\R a b
 | _::_,b::_,h,0,a,e=>by simp at e;exact⟨b,by simp,e ▸ h.1⟩
 | _::_,_::_,h,i+1,a,e=>by simpa using AO.get h.2 i a (by simpa using e)
 | [],[],_,_,_,e=>by simp at e
 |[],_::_,h,_,_,_|_::_,[],h,_,_,_=>h.elim
theorem AO.append {α β:Type} {R:α->β->Prop}:∀{l:List α} {m:List β} {l':List α} {m':List β},AO R l m->AO R l' m'->AO R (l++l') (m++m')
 | [],[],_,_,_,h=>h
 | _::_,_::_,_,_,h,h'=>⟨h.1,AO.append h.2 h'⟩
 |[],_::_,_,_,h,_|_::_,[],_,_,h,_=>h.elim
theorem AO.M3 {α β:Type} {R:α->β->Prop}:∀{l l':List α} {m:List β},AO R (l++l') m->∃m1 m2,m=m1++m2/\AO R l m1/\AO R l' m2
 | [],_,m,h=>⟨[],m,rfl,trivial,h⟩
 | _::_,_,[],h=>h.elim
 | _::_,_,b::_,h=>by
  obtain⟨m1,m2,e,c,d⟩:=AO.M3 h.2;exact⟨b::m1,m2,by simp[e],⟨h.1,c⟩,d⟩
theorem AO.drop {α β:Type} {R:α->β->Prop}:∀{l:List α} {m:List β} (n:Nat),AO R l m->AO R (l.drop n) (m.drop n)
 | _,_,0,h=>by simpa using h
 | [],[],_+1,_=>trivial
 | _::_,_::_,n+1,h=>by simpa using AO.drop n h.2
 |[],_::_,_,h|_::_,[],_,h=>h.elim
theorem AO.take {α β:Type} {R:α->β->Prop}:∀{l:List α} {m:List β} (n:Nat),AO R l m->AO R (l.take n) (m.take n)
 | _,_,0,_=>by simp[AO]
 | [],[],_+1,_=>trivial
 | _::_,_::_,n+1,h=>by simpa [AO] using ⟨h.1,AO.take n h.2⟩
 |[],_::_,_,h|_::_,[],_,h=>h.elim
theorem Hv:∀(cs:List AC) (off n:Nat),Dr cs off n=(cs.drop off).take n
 |_,0,_|[],_+1,_=>by simp[Dr]
 | _::cs,off+1,n=>by simpa [Dr] using Hv cs off n
theorem Ee:∀(t:T) (x:el t),(cells t x).length=t.size
 |.u8,_|.u32,_|.u64,_|.i8,_|.i64,_|.bool,_|.sl _,_=>rfl
 | .pr a b,x=>by simp[cells,T.size,Ee a,Ee b]
theorem T.size_pos:∀t:T,0<t.size
 | .pr a b=>by have:=T.size_pos a;simp[T.size];omega
 |.u8|.u32|.u64|.i8|.i64|.bool|.sl _=>Nat.one_pos
def rep (w:World) (I:Nat->Prop):(t:T)->el t->List Value->Prop
 | .u8,x,vs=>vs=[.int .u8 x.toNat]
 | .u32,x,vs=>vs=[.int .u32 x.toNat]
 | .u64,x,vs=>vs=[.int .u64 x.toNat]
 | .i8,x,vs=>vs=[.int .i8 x]
 | .i64,x,vs=>vs=[.int .i64 x]
 | .bool,x,vs=>vs=[.bool x]
 | .sl t,l,vs=>∃base cap,vs=[.slice base l.length cap]/\l.length<=cap/\l.length<=140737488355328/\
  (l=[]\/∃b off,base=some ⟨b,off,none⟩/\I b/\∀(i:Nat) (x:el t),l[i]? =some x->∃us,rep w I t x us/\w.rangeAt b (off+i*t.size) us)
 | .pr a b,x,vs=>∃v1 v2,vs=v1++v2/\rep w I a x.1 v1/\rep w I b x.2 v2
theorem rangeAt_of_block {w w':World} {b o:Nat} {c:List Value} (h:w'.heap[b]? =w.heap[b]?) (d:w.rangeAt b o c):w'.rangeAt b o c:=
 fun j v f=>(World.cell?_of_block (w:=w) (a:=⟨b,o+j,none⟩) h).trans (d j v f)
theorem Bo {w w':World} {I g:Nat->Prop} (h:∀b,I b->g b/\w'.heap[b]? =w.heap[b]?):∀(t:T) (x:el t) (k:List Value),rep w I t x k->rep w' g t x k
 |.u8,_,_,c|.u32,_,_,c|.u64,_,_,c|.i8,_,_,c|.i64,_,_,c|.bool,_,_,c=>c
 | .sl t,_,_,⟨base,cap,e,d,f,m⟩=>⟨base,cap,e,d,f,m.imp id fun⟨b,off,hb,j,l⟩=>
  ⟨b,off,hb,(h b j).1,fun i x n=>let ⟨us,hu,c⟩:=l i x n;⟨us,Bo h t x us hu,rangeAt_of_block (h b j).2 c⟩⟩⟩
 | .pr a b,x,_,⟨v1,v2,e,d,f⟩=>⟨v1,v2,e,Bo h a x.1 v1 d,Bo h b x.2 v2 f⟩
theorem Fu {w:World} {I:Nat->Prop}:∀(t:T) (x:el t) (c:List Value),rep w I t x c->c.length=t.size
 |.u8,_,_,h|.u32,_,_,h|.u64,_,_,h|.i8,_,_,h|.i64,_,_,h|.bool,_,_,h=>by rw[show _=_ from h];rfl
 | .sl _,_,_,⟨_,_,e,_⟩=>by rw[e];rfl
 | .pr a b,x,_,⟨v1,v2,e,d,f⟩=>by rw[e,List.length_append,Fu a x.1 v1 d,Fu b x.2 v2 f];rfl
theorem Kn {w:World} {I:Nat->Prop}:∀(t:T) (x:el t) (d:List Value),rep w I t x d->∀v∈d,v.oneCell'=true
 |.u8,_,_,h,v,c|.u32,_,_,h,v,c|.u64,_,_,h,v,c|.i8,_,_,h,v,c|.i64,_,_,h,v,c|.bool,_,_,h,v,c=>by rw[show _=_ from h] at c;simp at c;subst c;rfl
 | .sl _,_,_,⟨_,_,e,_⟩,v,c=>by rw[e] at c;simp at c;subst c;rfl
 | .pr a b,x,_,⟨v1,v2,e,f,g⟩,v,c=>by
  rw[e] at c;rcases List.mem_append.1 c with h | h
  ·exact Kn a x.1 v1 f v h
  exact Kn b x.2 v2 g v h
def E9 (w:World) (o:Option Nat) (n off len:Nat) (full:Bool) (v:Value):Prop:=
 ∃base cap,v= .slice base len cap/\len<=cap/\cap<=maxLen/\(full=true->cap=len)/\
  (cap=0\/∃b arr e,o=some b/\base=some ⟨b,off*n,none⟩/\w.heap[b]? =some (.cells arr e (0,0))/\(off+cap)*n<=arr.size)
structure Cx where
 w:World
 β:Nat->Option Nat
 cv:Nat->Nat
 I:Nat->Prop
def Ae (x:Cx):AC->Value->Prop
 | .BB,v=>v.oneCell'=true
 | .int k n,v=>v= .int k n
 | .bool b,v=>v= .bool b
 | .fn f,v=>v= .func (.func f) #[] #[]
 | .nil,v=>v= .slice none 0 0
 | .sl t l,v=>rep x.w x.I (.sl t) l [v]
 | .AM t id AN off len,v=>(v.oneCell'=true/\AN<=x.cv id)/\(AN=x.cv id->E9 x.w (x.β id) t.size off len false v)
 | .CI t id AN off len,v=>(v.oneCell'=true/\AN<=x.cv id)/\(AN=x.cv id->E9 x.w (x.β id) t.size off len true v)
 | .Am id AN off,v=>(v.oneCell'=true/\AN<=x.cv id)/\(AN=x.cv id->∃b,x.β id=some b/\v= .pointer (some ⟨b,off,none⟩))
 | .B3 t id AN i k,v=>(v.oneCell'=true/\AN<=x.cv id)/\(AN=x.cv id->∃b,x.β id=some b/\v= .pointer (some ⟨b,i*t.size+k,none⟩))
 | .ub e,v=>∃b:Bool,v= .bool b/\(b=true->e=true)
 | .CU t y off,v=>∃b o us,v= .pointer (some ⟨b,o+off,none⟩)/\x.I b/\rep x.w x.I t y us/\x.w.rangeAt b o us
 | .own _ _ _,_=>False
theorem Ae.one {x:Cx}:∀{c:AC} {v:Value},Ae x c v->v.oneCell'=true
 | .BB,_,h=>h
 |.int _ _,_,h|.bool _,_,h|.fn _,_,h|.nil,_,h=>by rw[show _=_ from h];rfl
 | .sl _ _,_,h=>Kn _ _ _ h _ (by simp)
 |.AM _ _ _ _ _,_,h|.CI _ _ _ _ _,_,h|.Am _ _ _,_,h|.B3 _ _ _ _ _,_,h=>h.1.1
 |.CU _ _ _,_,⟨_,_,_,e,_⟩|.ub _,_,⟨_,e,_⟩=>by rw[e];rfl
 | .own _ _ _,_,h=>h.elim
def Cc (x:Cx):AV->Value->Prop
 | .one c,v=>c= .BB\/Ae x c v
 | .agg cs,v=>∃arr,v= .agg arr/\AO (Ae x) cs arr.toList
 | .AF _,_=>False
def Au (x:Cx):AV->Value->Prop
 | .AF xs,v=>∃arr,v= .tuple arr/\AO (fun y u=>Cc x (CJ y) u) xs arr.toList
 | a,v=>Cc x a v
def B5 (x:Cx) (id:Nat):AH->Prop
 | .dead _=>True
 | .var _ cs=>∃b arr e,x.β id=some b/\x.w.heap[b]? =some (.cells arr e (0,0))/\AO (Ae x) cs arr.toList
 | .arr _ t l=>(x.β id=none/\l=[])\/∃b arr e,x.β id=some b/\x.w.heap[b]? =some (.cells arr e (0,0))/\
  ∀(i:Nat) (y:el t),l[i]? =some y->∃us,rep x.w x.I t y us/\x.w.rangeAt b (i*t.size) us
structure Cx.le (x y:Cx):Prop where
 cv:∀id,x.cv id<=y.cv id
 β:∀id,y.cv id=x.cv id->y.β id=x.β id
 size:∀id b arr e,y.cv id=x.cv id->x.β id=some b->x.w.heap[b]? =some (.cells arr e (0,0))->∃arr',y.w.heap[b]? =some (.cells arr' e (0,0))/\arr'.size=arr.size
 I:∀b,x.I b->y.I b/\y.w.heap[b]? =x.w.heap[b]?
theorem E9.mono {x y:Cx} (h:x.le y) {id n off len:Nat} {f:Bool} {v:Value} (g:y.cv id=x.cv id) (p:E9 x.w (x.β id) n off len f v):E9 y.w (y.β id) n off len f v:=by
 obtain⟨base,cap,e,i,j,m,k⟩:=p;refine⟨base,cap,e,i,j,m,k.imp (fun q=>q) fun⟨b,arr,e',hb,c,o,t⟩=>?_⟩;obtain⟨d,l,r⟩:=h.size id b arr e' g hb o;exact⟨b,d,e',(h.β id g).trans hb,c,l,by omega⟩
theorem Ae.mono {x y:Cx} (h:x.le y):∀{c:AC} {v:Value},Ae x c v->Ae y c v
 |.BB,_,r|.int _ _,_,r|.bool _,_,r|.fn _,_,r|.nil,_,r=>r
 | .sl _ _,_,r=>Bo h.I _ _ _ r
 | .AM _ id v _ _,_,r=>⟨⟨r.1.1,Nat.le_trans r.1.2 (h.cv id)⟩,fun e=>by
  have:=h.cv id;have d:v=x.cv id:=by have:=r.1.2;omega
  exact E9.mono h (e ▸ d) (r.2 d)⟩
 | .CI _ id v _ _,_,r=>⟨⟨r.1.1,Nat.le_trans r.1.2 (h.cv id)⟩,fun e=>by
  have:=h.cv id;have d:v=x.cv id:=by have:=r.1.2;omega
  exact E9.mono h (e ▸ d) (r.2 d)⟩
 | .Am id v _,_,r=>⟨⟨r.1.1,Nat.le_trans r.1.2 (h.cv id)⟩,fun e=>by
  have:=h.cv id;have d:v=x.cv id:=by have:=r.1.2;omega
  obtain⟨b,hb,f⟩:=r.2 d;exact⟨b,(h.β id (e ▸ d)).trans hb,f⟩⟩
 | .B3 _ id v _ _,_,r=>⟨⟨r.1.1,Nat.le_trans r.1.2 (h.cv id)⟩,fun e=>by
  have:=h.cv id;have d:v=x.cv id:=by have:=r.1.2;omega
  obtain⟨b,hb,f⟩:=r.2 d;exact⟨b,(h.β id (e ▸ d)).trans hb,f⟩⟩
 | .ub _,_,h=>h
 | .CU t y' _,_,⟨b,o,us,e,g,j,i⟩=>⟨b,o,us,e,(h.I b g).1,Bo h.I t y' us j,rangeAt_of_block (h.I b g).2 i⟩
 | .own _ _ _,_,r=>r.elim
theorem Cc.mono {x y:Cx} (h:x.le y):∀{a:AV} {v:Value},Cc x a v->Cc y a v
 | .one _,_,r=>r.imp (fun q=>q) (Ae.mono h)
 | .agg _,_,⟨arr,e,r⟩=>⟨arr,e,r.mono fun _ _=>Ae.mono h⟩
 | .AF _,_,r=>r.elim
theorem Au.mono {x y:Cx} (h:x.le y):∀{a:AV} {v:Value},Au x a v->Au y a v
 | .one c,v,r=>Cc.mono h (a:= .one c) r
 | .agg cs,v,r=>Cc.mono h (a:= .agg cs) r
 | .AF _,_,⟨arr,e,r⟩=>⟨arr,e,r.mono fun _ _=>Cc.mono h⟩
theorem FO (x:Cx):∀(t:T) (y:el t) (d:List Value),rep x.w x.I t y d↔AO (Ae x) (cells t y) d
 | .u8,y,d=>one x (.int .u8 y.toNat) _ d fun _=>Iff.rfl
 | .u32,y,d=>one x (.int .u32 y.toNat) _ d fun _=>Iff.rfl
 | .u64,y,d=>one x (.int .u64 y.toNat) _ d fun _=>Iff.rfl
 | .i8,y,d=>one x (.int .i8 y) _ d fun _=>Iff.rfl
 | .i64,y,d=>one x (.int .i64 y) _ d fun _=>Iff.rfl
 | .bool,y,d=>one x (.bool y) _ d fun _=>Iff.rfl
 | .sl t,y,d=>by
  match d with
  | []=>exact⟨fun⟨_,_,e,_⟩=>by simp at e,fun h=>h.elim⟩
  | [v]=>exact⟨fun h=>⟨h,trivial⟩,fun h=>h.1⟩
  | _::_::_=>exact⟨fun⟨_,_,e,_⟩=>by simp at e,fun h=>h.2.elim⟩
 | .pr a b,y,d=>by
  constructor
  ·rintro⟨v1,v2,rfl,f,g⟩
   exact ((FO x a y.1 v1).1 f).append ((FO x b y.2 v2).1 g)
  intro h;obtain⟨m1,m2,e,f,g⟩:=AO.M3 h;exact⟨m1,m2,e,(FO x a y.1 m1).2 f,(FO x b y.2 m2).2 g⟩
where
 one (x:Cx) (c:AC) (u:Value) (d:List Value) (h:∀v,Ae x c v↔v=u):d=[u]↔AO (Ae x) [c] d:=by
  match d with
  | []=>exact⟨fun e=>by simp at e,fun h=>h.elim⟩
  | [v]=>exact⟨fun e=>⟨(h v).2 (by simpa using e),trivial⟩,fun i=>by rw[(h v).1 i.1]⟩
  | _::_::_=>exact⟨fun e=>by simp at e,fun h=>h.2.elim⟩
theorem B5.mono {x y:Cx} (h:x.le y) {id:Nat} {b:AH} (g:y.cv id=x.cv id) (hb:∀k,x.β id=some k->y.w.heap[k]? =x.w.heap[k]?) (r:B5 x id b):B5 y id b:=by
 cases b with
 | dead _=>trivial
 | var _ cs=>
  obtain⟨b,arr,e,c,d,f⟩:=r;exact⟨b,arr,e,(h.β id g).trans c,(hb b c).trans d,f.mono fun _ _=>Ae.mono h⟩
 | arr _ t l=>
  refine r.imp (fun q=>⟨(h.β id g).trans q.1,q.2⟩) fun⟨b,arr,e,c,d,f⟩=>?_
  refine⟨b,arr,e,(h.β id g).trans c,(hb b c).trans d,fun i y' m=>?_⟩;obtain⟨us,hu,j⟩:=f i y' m;exact⟨us,Bo h.I t y' us hu,rangeAt_of_block (hb b c) j⟩
end Go.Abs
namespace Go.Abs
open Go.RowKit
theorem Gq:∀(l:List AV) (d:Nat) (v:AV) (i:Nat),nth (Al l d v) i=if i=d/\d<l.length then v else nth l i
 |[],d,v,i|_::_,0,v,0|_::_,0,v,i+1|_::_,d+1,v,0=>by simp[Al,nth]
 | a::l,d+1,v,i+1=>by simp[Al,nth,Gq l d v i]
theorem Es:∀(l:List (Option AH)) (d:Nat) (v:Option AH) (i:Nat),AD (Al l d v) i=if i=d/\d<l.length then v else AD l i
 |[],d,v,i|_::_,0,v,0|_::_,0,v,i+1|_::_,d+1,v,0=>by simp[Al,AD]
 | a::l,d+1,v,i+1=>by simp[Al,AD,Es l d v i]
theorem EU {α:Type}:∀(l:List α) (d:Nat) (v:α),(Al l d v).length=l.length
 |[],_,_|_::_,0,_=>rfl
 | _::l,d+1,v=>by simp[Al,EU l d v]
theorem GK:∀(l:List (Option AH)) (i:Nat),l.length<=i->AD l i=none
 | [],_,_=>rfl
 | _::_,0,h=>by simp at h
 | _::l,i+1,h=>by simpa [AD] using GK l i (by simpa using h)
theorem Fw {α:Type}:∀(l:List α) (d:Nat) (v:α),l.length<=d->Al l d v=l
 | [],_,_,_=>rfl
 | _::_,0,_,h=>by simp at h
 | a::l,d+1,v,h=>by simp[Al,Fw l d v (by simpa using h)]
def AH.live:AH->Bool
 | .dead _=>false
 | _=>true
def AH.short:AH->Prop
 | .arr _ _ l=>l.length<=140737488355328
 | _=>True
def live (bk:Nat->Option AH) (id:Nat):Prop:=∃b,bk id=some b/\b.live=true
structure WX where
 X:Nat->Prop
 A:Nat->Prop
 ob:Option Nat
def cx (X:WX) (w:World) (β:Nat->Option Nat) (bk:Nat->Option AH):Cx:=
 ⟨w,β,AN bk,fun b=>(b<w.heap.size/\∀id,live bk id->β id≠some b)/\X.A b⟩
structure Av (w0:World) (X:WX) (β:Nat->Option Nat) (s:St) (a:Act) (w:World):Prop where
 defers:a.defers=[]
 len:s.sl.length=a.tmps.size
 Fi:s.bk.length=a.tmps.size
 BV:∀i,Au (cx X w β (AD s.bk)) (nth s.sl i) (a.tmps.getD i undef)
 blocks:∀id b,AD s.bk id=some b->B5 (cx X w β (AD s.bk)) id b
 inj:∀id id' b,live (AD s.bk) id->live (AD s.bk) id'->β id=some b->β id'=some b->id=id'
 own:∀id b,live (AD s.bk) id->β id=some b->w0.heap.size<=b\/(X.X b/\id=0)
 os:w.os=w0.os
 tape:w.tape=w0.tape
 output:w.output=w0.output
 size:w0.heap.size<=w.heap.size
 block:∀b,b<w0.heap.size->¬X.X b->w.heap[b]? =w0.heap[b]?
 lens:∀id b,AD s.bk id=some b->b.short
 fresh:∀b,w0.heap.size<=b->X.A b
 HV:live (AD s.bk) 0->AN (AD s.bk) 0=0->β 0=X.ob/\∀(b:Nat) arr e,X.ob=some b->w0.heap[b]? =some (.cells arr e (0,0))->∃arr',w.heap[b]? =some (.cells arr' e (0,0))/\arr'.size=arr.size
section
variable {w0:World} {X:WX} {β:Nat->Option Nat} {s:St} {a:Act} {w:World}
theorem GW (x:Cx) (v:Value):Au x (.one .BB) v:=Or.inl rfl
theorem Wv (a:Act) (d:Nat) (v:Value) (i:Nat):(a.put (some d) v).tmps.getD i undef=if i=d/\d<a.tmps.size then v else a.tmps.getD i undef:=by
 simp only[Act.put,Array.getD_eq_getD_getElem?,Array.getElem?_setIfInBounds]
 by_cases h:d=i
 ·subst h
  by_cases b:d<a.tmps.size <;> simp[b]
 simp[h,Ne.symm h]
theorem Sr {x:Cx} {s:St} {a:Act} (hlen:s.sl.length=a.tmps.size) (h:∀i,Au x (nth s.sl i) (a.tmps.getD i undef)) (dst:Option Nat) (v:AV) (u:Value) (b:Au x v u):
  ∀i,Au x (nth (Dn s.sl dst v) i) ((a.put dst u).tmps.getD i undef):=by
 intro i;cases dst with
 | none=>exact h i
 | some d=>
  rw[Wv];simp only[Dn,Gq,hlen]
  split
  ·exact b
  exact h i
theorem Qr {s:St} {a:Act} (hlen:s.sl.length=a.tmps.size) (dst:Option Nat) (v:AV) (u:Value):(Dn s.sl dst v).length=(a.put dst u).tmps.size:=by
 cases dst <;> simp[Dn,Act.put,EU,hlen]
theorem size_put (a:Act) (dst:Option Nat) (u:Value):(a.put dst u).tmps.size=a.tmps.size:=by cases dst <;> simp[Act.put]
theorem Pz (a:Act) (dst:Option Nat) (u:Value):(a.put dst u).defers=a.defers:=by cases dst <;> rfl
theorem Av.ext (S:Av w0 X β s a w) {w':World} {dst:Option Nat} {v:AV} {u:Value} {rd:List Nat} (hw:∀b,b<w.heap.size->w'.heap[b]? =w.heap[b]?) (d:w.heap.size<=w'.heap.size)
  (p:w'.os=w.os) (g:w'.tape=w.tape) (n:w'.output=w.output) (x:Au (cx X w' β (AD s.bk)) v u):Av w0 X β (s.app dst ⟨v,[],rd⟩) (a.put dst u) w':=by
 have c:∀b o,w.heap[b]? =some o->b<w.heap.size:=fun b o h=>by
  rcases Nat.lt_or_ge b w.heap.size with h' | h'
  ·exact h'
  simp[Array.getElem?_eq_none h'] at h
 have hle:(cx X w β (AD s.bk)).le (cx X w' β (AD s.bk)):=
  ⟨fun _=>Nat.le_refl _,fun _ _=>rfl,fun id b arr e _ _ y=>⟨arr,(hw b (c b _ y)).trans y,rfl⟩,fun b hb=>⟨⟨⟨Nat.lt_of_lt_of_le hb.1.1 d,hb.1.2⟩,hb.2⟩,hw b hb.1.1⟩⟩
 refine⟨(Pz _ _ _).trans S.defers,Qr S.len _ _ _,S.Fi.trans (size_put _ _ _).symm,Sr S.len (fun i=>Au.mono hle (S.BV i)) dst v u x,fun id b hb=>?_,S.inj,S.own,
  p.trans S.os,g.trans S.tape,n.trans S.output,Nat.le_trans S.size d,fun b hb D=>(hw b (Nat.lt_of_lt_of_le hb S.size)).trans (S.block b hb D),S.lens,S.fresh,fun C x=>?_⟩
 case refine_2=>
  obtain⟨m,f⟩:=S.HV C x;refine⟨m,fun b arr e hb he=>?_⟩;obtain⟨k,j,z⟩:=f b arr e hb he;exact⟨k,(hw b (c b _ j)).trans j,z⟩
 have r:=S.blocks id b hb;cases b with
 | dead _=>trivial
 | var _ cs=>
  obtain⟨b,arr,e,m,f,j⟩:=r;exact⟨b,arr,e,m,(hw b (c b _ f)).trans f,j.mono fun _ _=>Ae.mono hle⟩
 | arr _ t l=>
  refine r.imp (fun q=>q) fun⟨b,arr,e,m,f,j⟩=>?_
  refine⟨b,arr,e,m,(hw b (c b _ f)).trans f,fun i y' B=>?_⟩;obtain⟨us,hu,A⟩:=j i y' B;exact⟨us,Bo hle.I t y' us hu,rangeAt_of_block (hw b (c b _ f)) A⟩
theorem Av.val (S:Av w0 X β s a w) {dst:Option Nat} {v:AV} {u:Value} {rd:List Nat} (b:Au (cx X w β (AD s.bk)) v u):Av w0 X β (s.app dst ⟨v,[],rd⟩) (a.put dst u) w:=
 S.ext (fun _ _=>rfl) (Nat.le_refl _) rfl rfl rfl b
theorem Dt (l:List (Option AH)) (id:Nat) (b:AH) (c:id<l.length) (k:Nat):AN (AD (Al l id (some b))) k=if k=id then b.AN else AN (AD l) k:=by
 unfold AN;rw[Es]
 by_cases h:k=id
 ·subst h;simp[c]
 simp[h]
theorem FL (l:List (Option AH)) (id:Nat) (b:AH) (c:id<l.length) (k:Nat):live (AD (Al l id (some b))) k↔if k=id then b.live=true else live (AD l) k:=by
 unfold live;rw[Es]
 by_cases h:k=id
 ·subst h;simp[c]
 simp[h]
theorem Av.write (S:Av w0 X β s a w) {f:Nat->Option Nat} {w':World} {dst:Option Nat} {v:AV} {u:Value} {rd:List Nat} {id:Nat} {As:AH} (n:id<s.bk.length) (U:As.short)
  (x:∀k,k≠id->f k=β k) (R:AN (AD s.bk) id<=As.AN) (H:As.AN=AN (AD s.bk) id->f id=β id/\(As.live=true->live (AD s.bk) id))
  (q:∀b,b<w.heap.size->(live (AD s.bk) id->β id≠some b)->w'.heap[b]? =w.heap[b]?) (G:w.heap.size<=w'.heap.size)
  (D:∀(b:Nat) arr e,w.heap[b]? =some (.cells arr e (0,0))->∃z,w'.heap[b]? =some (.cells z e (0,0))/\z.size=arr.size)
  (T:w'.os=w.os) (L:w'.tape=w.tape) (Q:w'.output=w.output)
  (m:As.live=true->∀b,f id=some b->(β id=some b/\live (AD s.bk) id)\/w.heap.size<=b)
  (hB:(cx X w β (AD s.bk)).le (cx X w' f (AD (Al s.bk id (some As))))->B5 (cx X w' f (AD (Al s.bk id (some As)))) id As)
  (V:(cx X w β (AD s.bk)).le (cx X w' f (AD (Al s.bk id (some As))))->Au (cx X w' f (AD (Al s.bk id (some As)))) v u):
  Av w0 X f (s.app dst ⟨v,[(id,As)],rd⟩) (a.put dst u) w':=by
 have O:∀b o,w.heap[b]? =some o->b<w.heap.size:=fun b o h=>by
  rcases Nat.lt_or_ge b w.heap.size with h' | h'
  ·exact h'
  simp[Array.getElem?_eq_none h'] at h
 have A:∀k b,live (AD s.bk) k->β k=some b->b<w.heap.size:=fun k b ⟨J,y,C⟩ hb=>by
  have r:=S.blocks k J y;cases J with
  | dead _=>simp[AH.live] at C
  | var _ _=>obtain⟨b',arr,e,p,B,_⟩:=r;obtain rfl:b=b':=Option.some.inj (hb.symm.trans p);exact O b _ B
  | arr _ _ _=>
   rcases r with⟨p,_⟩ |⟨b',arr,e,p,B,_⟩
   ·exact absurd (hb.symm.trans p) (by simp)
   obtain rfl:b=b':=Option.some.inj (hb.symm.trans p);exact O b _ B
 have hle:(cx X w β (AD s.bk)).le (cx X w' f (AD (Al s.bk id (some As)))):=by
  refine⟨fun k=>?_,fun k y=>?_,fun k b arr e _ _ hh=>D b arr e hh,fun b hb=>⟨⟨⟨Nat.lt_of_lt_of_le hb.1.1 G,fun k y=>?_⟩,hb.2⟩,q b hb.1.1 (fun C=>hb.1.2 id C)⟩⟩
  ·show AN _ k<=AN _ k
   rw[Dt _ _ _ n]
   split
   ·subst_vars;exact R
   exact Nat.le_refl _
  ·by_cases h:k=id
   ·subst h;have c:AN (AD (Al s.bk k (some As))) k=AN (AD s.bk) k:=y;rw[Dt _ _ _ n,if_pos rfl] at c;exact (H c).1
   exact x k h
  rw[FL _ _ _ n] at y
  by_cases h:k=id
  ·subst h;simp only[if_true] at y;intro e;rcases m y b e with⟨p,B⟩ | p
   ·exact hb.1.2 k B p
   have:=hb.1.1
   show False
   have a1:b<w.heap.size:=hb.1.1;omega
  simp only[h,if_false] at y
  show f k≠some b
  rw[x k h];exact hb.1.2 k y
 refine⟨(Pz _ _ _).trans S.defers,Qr S.len _ _ _,?_,?_,fun k b y=>?_,fun k k' b y c hb j=>?_,fun k b y hb=>?_,T.trans S.os,L.trans S.tape,Q.trans S.output,Nat.le_trans S.size G,fun b hb W=>?_,fun k b y=>?_,S.fresh,fun C V=>?_⟩
 ·show (Al s.bk id (some As)).length=_
  rw[EU,size_put];exact S.Fi
 ·exact Sr S.len (fun i=>Au.mono hle (S.BV i)) dst v u (V hle)
 ·have c:AD (Al s.bk id (some As)) k=some b:=y;rw[Es] at c
  by_cases h:k=id
  ·subst h;simp only[n,and_self,if_true,Option.some.injEq] at c;subst c;exact hB hle
  simp only[h,false_and,if_false] at c
  have N:(cx X w' f (AD (Al s.bk id (some As)))).cv k=(cx X w β (AD s.bk)).cv k:=by
   show AN _ k=AN _ k
   rw[Dt _ _ _ n,if_neg h]
  have r:=S.blocks k b c;have Y:(cx X w' f (AD (Al s.bk id (some As)))).β k=(cx X w β (AD s.bk)).β k:=x k h;cases b with
  | dead _=>trivial
  | var vv cs=>
   refine B5.mono hle N (fun b' j=>?_) r;have C:live (AD s.bk) k:=⟨_,c,rfl⟩;exact q b' (A k b' C j) fun K e=>h (S.inj k id b' C K j e)
  | arr vv t l=>
   refine B5.mono hle N (fun b' j=>?_) r;have C:live (AD s.bk) k:=⟨_,c,rfl⟩;exact q b' (A k b' C j) fun K e=>h (S.inj k id b' C K j e)
 ·have d:live (AD (Al s.bk id (some As))) k:=y;have g:live (AD (Al s.bk id (some As))) k':=c;rw[FL _ _ _ n] at d g
  by_cases h:k=id <;> by_cases h':k'=id
  ·rw[h,h']
  ·subst h;simp only[if_true,h',if_false] at d g;rw[x k' h'] at j;rcases m d b hb with⟨p,B⟩ | p
   ·exact S.inj k k' b B g p j
   have:=A k' b g j;omega
  ·subst h';simp only[if_true,h,if_false] at d g;rw[x k h] at hb;rcases m g b j with⟨p,B⟩ | p
   ·exact S.inj k k' b d B hb p
   have:=A k b d hb;omega
  simp only[h,h',if_false] at d g;rw[x k h] at hb;rw[x k' h'] at j;exact S.inj k k' b d g hb j
 ·have d:live (AD (Al s.bk id (some As))) k:=y;rw[FL _ _ _ n] at d
  by_cases h:k=id
  ·subst h;simp only[if_true] at d;rcases m d b hb with⟨p,B⟩ | p
   ·exact S.own k b B p
   exact Or.inl (Nat.le_trans S.size p)
  simp only[h,if_false] at d;rw[x k h] at hb;exact S.own k b d hb
 ·rw[q b (Nat.lt_of_lt_of_le hb S.size) fun C e=>?_]
  ·exact S.block b hb W
  rcases S.own id b C e with h | h
  ·omega
  exact W h.1
 ·have c:AD (Al s.bk id (some As)) k=some b:=y;rw[Es] at c
  by_cases h:k=id
  ·subst h;simp only[n,and_self,if_true,Option.some.injEq] at c;subst c;exact U
  simp only[h,false_and,if_false] at c;exact S.lens k b c
 have F:live (AD (Al s.bk id (some As))) 0:=C;have I:AN (AD (Al s.bk id (some As))) 0=0:=V;rw[FL _ _ _ n] at F;rw[Dt _ _ _ n] at I
 have key:live (AD s.bk) 0/\AN (AD s.bk) 0=0/\f 0=β 0:=by
  by_cases h:0=id
  ·subst h;simp only[if_true] at F I;have Z:AN (AD s.bk) 0=0:=by omega
   have:=H (by omega);exact⟨this.2 F,Z,this.1⟩
  simp only[h,if_false] at F I;exact⟨F,I,x 0 h⟩
 obtain⟨p,B⟩:=S.HV key.1 key.2.1;refine⟨key.2.2.trans p,fun b arr e hb he=>?_⟩;obtain⟨z,h3,h4⟩:=B b arr e hb he;obtain⟨M,h5,h6⟩:=D b z e h3;exact⟨M,h5,by omega⟩
end
end Go.Abs
namespace Go.Abs
open Go.RowKit
def CT (w:World) (I:Nat->Prop):Cx:=⟨w,fun _=>none,fun _=>0,I⟩
def OwnAt (x:Cx) (lo:Nat) (bo:Option Nat) (t:T) (l:List (el t)) (v:Value):Prop:=
 ∃base cap,v= .slice base l.length cap/\l.length<=cap/\cap<=maxLen/\l.length<=140737488355328/\
  ((bo=none/\l=[]/\cap=0)\/∃b arr e,bo=some b/\lo<=b/\base=some ⟨b,0,none⟩/\x.w.heap[b]? =some (.cells arr e (0,0))/\cap*t.size<=arr.size/\
    ∀(i:Nat) (y:el t),l[i]? =some y->∃us,rep x.w x.I t y us/\x.w.rangeAt b (i*t.size) us)
def B7 (x:Cx) (lo:Nat) (bo:Option Nat):AC->Value->Prop
 | .own t l n,v=>n=l.length/\OwnAt x lo bo t l v
 | c,v=>Ae x c v
def D8 (x:Cx) (lo:Nat) (bo:Option Nat):AV->Value->Prop
 | .one c,v=>c= .BB\/B7 x lo bo c v
 | .agg cs,v=>∃arr,v= .agg arr/\AO (B7 x lo bo) cs arr.toList
 | .AF _,_=>False
def Ea (x:Cx) (lo:Nat) (bo:Option Nat):AV->Value->Prop
 | .AF xs,v=>∃arr,v= .tuple arr/\AO (fun y u=>D8 x lo bo (CJ y) u) xs arr.toList
 | a,v=>D8 x lo bo a v
def BU:AC->Bool
 | .own _ _ _=>true
 | c=>Ai c
def C7:AC->Bool
 |.AM _ 0 0 _ _|.Am 0 0 _=>true
 | c=>Ai c
def AV.wf:AV->Bool
 | .AF xs=>xs.all fun x=>x.1||decide (x.2.length<=1)
 | _=>true
def AH.lone:AH->Bool
 | .var v cs=>v==0&&cs.all Ai
 | .arr v _ _=>v==0
 | .dead _=>false
def Callee (P : Program) (f : FuncId) : Prop := ∃ fn c, P.funcs[f]? = some fn /\ (fn.name == "runtime.NumGoroutine") = false /\ fn.body = some c
def EW (P:Program) (fl:Bool) (f:FuncId) (args:List AV) (r:AV):Prop:=
 Callee P f/\(r.all BU=true/\r.wf=true)/\
 ∀(w:World) (I:Nat->Prop) (vs:List Value),(∀b,I b->b<w.heap.size)->AO (Au (CT w I)) args vs->
  Calls P f vs.toArray w fun e w'=>∃u bo,e= .returned u/\Below w.heap.size w w'/\
   Ea (CT w' fun b=>((fl=false/\I b)\/w.heap.size<=b)/\b<w'.heap.size/\bo≠some b) w.heap.size bo r u
def β0 (ob:Option Nat):Nat->Option Nat:=fun k=>if k=0 then ob else none
def BZ (w:World) (ob:Option Nat) (I:Nat->Prop):Cx:=⟨w,β0 ob,fun _=>0,I⟩
def FU (P:Program) (f:FuncId) (c0:AC) (b0:AH) (args:List AV) (r:AV) (b1:AH):Prop:=
 Callee P f/\(r.all C7=true/\C7 c0=true/\b0.lone=true/\b1.lone=true)/\
 ∀(w:World) (I:Nat->Prop) (ob:Option Nat) (v0:Value) (vs:List Value),(∀b,I b->b<w.heap.size/\ob≠some b)->
  Ae (BZ w ob I) c0 v0->B5 (BZ w ob I) 0 b0->b0.short->AO (Au (CT w I)) args vs->
  Calls P f (v0::vs).toArray w fun e w'=>∃u,e= .returned u/\
   (w'.os=w.os/\w'.tape=w.tape/\w'.output=w.output/\w.heap.size<=w'.heap.size/\∀k,k<w.heap.size->ob≠some k->w'.heap[k]? =w.heap[k]?)/\
   (∀(b:Nat) arr e,ob=some b->w.heap[b]? =some (.cells arr e (0,0))->∃arr',w'.heap[b]? =some (.cells arr' e (0,0))/\arr'.size=arr.size)/\
   Au (BZ w' ob fun k=>(I k\/w.heap.size<=k)/\k<w'.heap.size/\ob≠some k) r u/\
   B5 (BZ w' ob fun k=>(I k\/w.heap.size<=k)/\k<w'.heap.size/\ob≠some k) 0 b1/\b1.short
def Dc (P:Program) (f:FuncId) (args:List AV) (b0:AH) (r:AV):Prop:=
 Callee P f/\(r.all Ai=true/\b0.lone=true)/\
 ∀(w:World) (I:Nat->Prop) (ob:Option Nat) (vs:List Value),(∀b,I b->b<w.heap.size/\ob≠some b)->
  B5 (BZ w ob I) 0 b0->b0.short->AO (Au (BZ w ob I)) args vs->
  Calls P f vs.toArray w fun e w'=>∃u,e= .returned u/\
   (w'.os=w.os/\w'.tape=w.tape/\w'.output=w.output/\w.heap.size<=w'.heap.size/\∀k,k<w.heap.size->ob≠some k->w'.heap[k]? =w.heap[k]?)/\
   (∀(b:Nat) arr e,ob=some b->w.heap[b]? =some (.cells arr e (0,0))->∃arr',w'.heap[b]? =some (.cells arr' e (0,0))/\arr'.size=arr.size)/\
   Au (BZ w' ob fun k=>(I k\/w.heap.size<=k)/\k<w'.heap.size/\ob≠some k) r u/\
   B5 (BZ w' ob fun k=>(I k\/w.heap.size<=k)/\k<w'.heap.size/\ob≠some k) 0 b0
def env (P:Program):Env:=⟨EW P,FU P,Dc P⟩
structure Cg (P:Program) (t:TypeId) (i:Info):Prop where
 info:i.known=true->∃ti z d,P.info? t=some ti/\ti.size=i.size/\ti.zero=some z/\(∀x,AO (Ae x) i.zero z.cells.toList)/\
  P.underlying t=some d/\d.isRow=i.agg/\(i.agg=false->i.size=1)
 kind:∀k,i.kind=some k->P.underlying t=some (.int k)
 isb:i.KC=true->P.underlying t=some .bool
 sl:i.sl=true->P.underlying t=some (.slice i.CD)/\∃ei z,P.info? i.CD=some ei/\ei.size=i.elem.size/\ei.bytes=i.Dz/\0<ei.bytes/\ei.zero=some z/\
  ∀x,AO (Ae x) (cells i.elem i.B0) z.cells.toList
 fields:i.known=true->i.fields≠[]->∃fs:Array Field,P.underlying t=some (.struct fs)/\i.fields.length=fs.size/\
  ∀(f fo n:Nat) (g:Bool),i.fields[f]? =some (fo,n,g)->∃fl d,fs[f]? =some fl/\fl.offset=fo/\(P.info? fl.type).map (·.size)=some n/\0<n/\P.underlying fl.type=some d/\d.isRow=g/\(g=false->n=1)
theorem T.beq_eq:∀{a b:T},T.beq a b=true->a=b
 |.u8,b,h|.u32,b,h|.u64,b,h|.i8,b,h|.i64,b,h|.bool,b,h=>by cases b <;> simp_all [T.beq]
 | .sl a,b,h=>by cases b <;> simp_all [T.beq];exact T.beq_eq h
 | .pr a c,b,h=>by cases b <;> simp_all [T.beq];exact⟨T.beq_eq h.1,T.beq_eq h.2⟩
section
variable {P:Program} {w:World}
theorem SU {t:TypeId} {d:TypeDesc} (hu:P.underlying t=some d):(isAgg t).run P w= .ok d.isRow w:=by
 unfold isAgg;rw[Sem.run_bind,run_underlying hu w];cases d <;> simp
theorem Yz {t:TypeId} {d:TypeDesc} {b o:Nat} {v:Value} (hu:P.underlying t=some d) (f:d.isRow=false) (c:w.cell? ⟨b,o,none⟩=some v):
  (Instr.loadAt t (.pointer (some ⟨b,o,none⟩))).run P w= .ok v w:=by
 simp only[Instr.loadAt,Instr.sureAddr,Sem.run_bind,Sem.run_pure,Result.andThen_ok,loadVar,SU hu,f];simp[load,Sem.run,c]
theorem Y0 {t:TypeId} {f:TypeInfo} {b o:Nat} {v:Value} (h:P.info? t=some f) (d:v.cells.size=f.size) (ht:w.there b o f.size) (g:∀u∈v.cells.toList,u.oneCell'=true):
  (Instr.storeAt t (.pointer (some ⟨b,o,none⟩)) v).run P w= .ok () (w.setCells b o v.cells.toList):=by
 have:=run_storeCells_cells (P:=P) b o v.cells.toList 0 w (fun j c=>by simpa using (ht j (by simpa [d] using c)).1) (fun j c=>by simpa using (ht j (by simpa [d] using c)).2) g;simp only[Nat.add_zero] at this;simp[Instr.storeAt,Instr.sureAddr,storeVar,sizeOf,typeInfo,h,d,this]
end
theorem RY {v:Value} (h:v.oneCell'=true):v.cells= #[v]:=by
 cases v <;> simp_all [Value.oneCell',Value.cells]
theorem Cc.cells {x:Cx} {av:AV} {v:Value} (h:Cc x av v) (b:av.full=true):AO (Ae x) av.cs v.cells.toList:=by
 cases av with
 | one c=>
  rcases h with rfl | h
  ·simp[AV.full] at b
  rw[RY h.one];exact⟨h,trivial⟩
 | agg cs=>obtain⟨arr,rfl,h⟩:=h;exact h
 | AF _=>exact h.elim
theorem AO.one {x:Cx}:∀{cs:List AC} {c:List Value},AO (Ae x) cs c->∀v∈c,v.oneCell'=true
 | [],[],_,_,b=>by simp at b
 | _::_,_::_,h,v,b=>by
  rcases List.mem_cons.1 b with rfl | b
  ·exact h.1.one
  exact AO.one h.2 v b
 |[],_::_,h,_,_|_::_,[],h,_,_=>h.elim
theorem Yn {x:Cx} {a:AV} {v:Value} (h:Cc x a v):Au x a v:=by cases a <;> first | exact h | exact h.elim
theorem Iz {x:Cx} {a:AV} {v:Value} (h:Au x a v) (b:∀xs,a≠ .AF xs):Cc x a v:=by cases a <;> first | exact h | exact absurd rfl (b _)
theorem Br {x:Cx} {s:St} {a:Act} (h:∀i,Au x (nth s.sl i) (a.tmps.getD i undef)) (o:Operand):Au x (ev s.sl o) (a.eval o):=by
 cases o with
 | tmp t=>exact h t
 | func f=>exact Or.inr rfl
 | global g=>exact Or.inl rfl
 | const v=>
  show Au x (MD v) v
  unfold MD
  split <;> first | exact Or.inr rfl | exact Or.inl rfl
def valOf (g:Bool) (vs:List Value):Value:=
 match g with
 | true=> .agg vs.toArray
 | false=>vs.headD undef
theorem R7 {x:Cx} {g:Bool} {cs:List AC} {b:List Value} (h:AO (Ae x) cs b) (d:g=false->cs.length=1):
  Au x (CJ (g,cs)) (valOf g b):=by
 cases g with
 | true=>exact⟨_,rfl,by simpa using h⟩
 | false=>
  have:=d rfl
  match cs,b,h with
  | [c],[v],h=>exact Or.inr h.1
end Go.Abs
namespace Go.Abs
open Go.RowKit
section
variable {P:Program} {E:Env} {TI:TypeId->Info} {w0:World} {X:WX} {β:Nat->Option Nat} {s:St} {a:Act} {w:World}
theorem BW {o:Oper} {u:Value} {w':World} {N:Act->World->Prop} {Q:Exit->Act->World->Prop} (c:(execOp a.eval o).run P w= .ok (.value u) w') (b:N (a.put o.dst u) w'):o.wp P a w N Q:=by
 unfold Oper.wp;rw[c];exact b
theorem aO {o:Oper} {w':World} {N:Act->World->Prop} {Q:Exit->Act->World->Prop} (c:(execOp a.eval o).run P w= .ok .skip w') (b:N (a.put o.dst undef) w'):o.wp P a w N Q:=by
 unfold Oper.wp;rw[c];exact b
def Sound (P:Program) (E:Env) (TI:TypeId->Info) (o:Oper):Prop:=
 ∀{w0:World} {X:WX} {β:Nat->Option Nat} {s:St} {a:Act} {w:World},Av w0 X β s a w->∀{f:BC},BS E TI o (Aw o) (ev s.sl) (AD s.bk) (fun g=>g=f)->
  ∀{N:Act->World->Prop} {Q:Exit->Act->World->Prop},(∀β' a' w',Av w0 X β' (s.app o.dst f) a' w'->N a' w')->o.wp P a w N Q
theorem ZX {o:Oper} {x:Operand} (b:o.op= .move x):Sound P E TI o:=by
 intro w0 X β s a w S f h N Q c;simp only[BS,b] at h;subst h;exact BW (u:=a.eval x) (w':=w) (by simp[execOp,b]) (c _ _ _ (S.val (Br S.BV x)))
theorem ZK {o:Oper} {x:Operand} (b:o.op= .assign x):Sound P E TI o:=by
 intro w0 X β s a w S f h N Q c;simp only[BS,b] at h;subst h;exact BW (u:=a.eval x) (w':=w) (by simp[execOp,b]) (c _ _ _ (S.val (Br S.BV x)))
theorem ZZ {o:Oper} {c x y:Operand} (g:o.op= .pick c x y):Sound P E TI o:=by
 intro w0 X β s a w S f h N Q i;simp only[BS,g] at h;have b:=Br S.BV c
 split at h
 ·rename_i he
  rw[he] at b;have d:a.eval c= .bool true:=by rcases b with b | b <;> simp_all [Ae]
  subst h;exact BW (u:=a.eval x) (w':=w) (by simp[execOp,g,d,asBool]) (i _ _ _ (S.val (Br S.BV x)))
 ·rename_i he
  rw[he] at b;have d:a.eval c= .bool false:=by rcases b with b | b <;> simp_all [Ae]
  subst h;exact BW (u:=a.eval y) (w':=w) (by simp[execOp,g,d,asBool]) (i _ _ _ (S.val (Br S.BV y)))
 exact h.elim
theorem A0 {x:Cx} {c:AC} {v:Value} (h:Au x (.one c) v) (b:c≠ .BB):Ae x c v:=(show c= .BB\/Ae x c v from h).resolve_left b
theorem ZY {o:Oper} {x:Operand} (i:o.op= .nilCheck x):Sound P E TI o:=by
 intro w0 X β s a w S f h N Q j;simp only[BS,i] at h;have d:=Br S.BV x
 split at h
 ·rename_i id v off he
  split at h
  ·rename_i k
   subst h;have c:=d;rw[he] at d;obtain⟨b,_,hb⟩:=(A0 d (by simp)).2 k.symm;exact BW (u:=a.eval x) (w':=w) (by simp[execOp,i,hb]) (j _ _ _ (S.val c))
  exact h.elim
 ·rename_i g he
  subst h;have c:=d;rw[he] at d;have hb:a.eval x= .func (.func g) #[] #[]:=A0 d (by simp);exact BW (u:=a.eval x) (w':=w) (by simp[execOp,i,hb]) (j _ _ _ (S.val c))
 exact h.elim
theorem ZR {o:Oper} {x:Operand} {i:Nat} (d:o.op= .extract x i):Sound P E TI o:=by
 intro w0 X β s a w S f h N Q j;simp only[BS,d] at h;have g:=Br S.BV x
 split at h
 ·rename_i xs he
  rw[he] at g;obtain⟨arr,l,b⟩:=g
  split at h
  ·rename_i y m
   subst h;obtain⟨u,hu,k⟩:=b.get i y m;have c:arr[i]? =some u:=by simpa using hu
   exact BW (u:=u) (w':=w) (by simp[execOp,d,l,Instr.extract,c]) (j _ _ _ (S.val (Yn k)))
  exact h.elim
 exact h.elim
theorem LF {c:Int} (h:Gm c):IntKind.i64.wrap c=c:=IntWalk.i64_in c ⟨h.1,by have:=h.2;omega⟩
theorem PG {op:BinOp} {k k':IntKind} {x y:Int} {c:AC} {t:TypeId} (n:k=k'\/op= .shl\/op= .shr) (h:arith op k x y (fun d=>d=c)):
  ∃u,(binOp op t (.int k x) (.int k' y)).run P w= .ok u w/\∀Γ,Ae Γ c u:=by
 have g:∀{p q:Int},0<=p->p.tdiv q=p/q:=fun h=>Int.tdiv_eq_ediv_of_nonneg h
 have i:∀{p q:Int},0<=p->p.tmod q=p%q:=fun h=>Int.tmod_eq_emod_of_nonneg h
 by_cases j:op= .shl\/op= .shr
 ·rcases j with rfl | rfl
  ·have h':=h _ rfl;obtain⟨b,rfl⟩:=h';have l:¬y<0:=by have:=b ();omega
   exact⟨_,by simp only[binOp,Op.shift,if_neg l];rfl,fun _=>rfl⟩
  have h':=h _ rfl;obtain⟨b,rfl⟩:=h';have l:¬y<0:=by have:=b ();omega
  exact⟨_,by simp only[binOp,Op.shift,if_neg l];rfl,fun _=>rfl⟩
 have n:k=k':=n.resolve_right j;subst n
 have hb:∀f,f≠ .shl->f≠ .shr->binOp f t (.int k x) (.int k y)=(match f with
  | .add | .sub | .mul=>Op.intArith f k x y | .quo | .rem=>Op.intDiv f k x y | .and | .or | .xor | .andNot=>Op.intBits f k x y | _=>Op.intCmp f x y):=by
  intro f b m;cases f <;> simp_all [binOp]
 rw[hb op (fun e=>j (.inl e)) (fun e=>j (.inr e))];cases op
 case shl=>exact absurd (.inl rfl) j
 case shr=>exact absurd (.inr rfl) j
 case eql=>obtain rfl:=h _ rfl;exact⟨_,rfl,fun _=>rfl⟩
 case neq=>obtain rfl:=h _ rfl;exact⟨_,rfl,fun _=>rfl⟩
 case lss=>obtain rfl:=h _ rfl;exact⟨_,rfl,fun _=>rfl⟩
 case leq=>obtain rfl:=h _ rfl;exact⟨_,rfl,fun _=>rfl⟩
 case gtr=>obtain rfl:=h _ rfl;exact⟨_,rfl,fun _=>rfl⟩
 case geq=>obtain rfl:=h _ rfl;exact⟨_,rfl,fun _=>rfl⟩
 case and=>obtain rfl:=h _ rfl;exact⟨_,rfl,fun _=>rfl⟩
 case or=>obtain rfl:=h _ rfl;exact⟨_,rfl,fun _=>rfl⟩
 case xor=>obtain rfl:=h _ rfl;exact⟨_,rfl,fun _=>rfl⟩
 case andNot=>obtain rfl:=h _ rfl;exact⟨_,rfl,fun _=>rfl⟩
 case add=>
  cases k
  case i64=>obtain⟨b,rfl⟩:=h _ rfl;exact⟨_,rfl,fun _=>by show _=_;rw[LF (b ())]⟩
  all_goals (obtain rfl:=h _ rfl;exact⟨_,rfl,fun _=>rfl⟩)
 case sub=>
  cases k
  case i64=>obtain⟨b,rfl⟩:=h _ rfl;exact⟨_,rfl,fun _=>by show _=_;rw[LF (b ())]⟩
  all_goals (obtain rfl:=h _ rfl;exact⟨_,rfl,fun _=>rfl⟩)
 case mul=>
  cases k
  case i64=>obtain⟨b,rfl⟩:=h _ rfl;exact⟨_,rfl,fun _=>by show _=_;rw[LF (b ())]⟩
  all_goals (obtain rfl:=h _ rfl;exact⟨_,rfl,fun _=>rfl⟩)
 case quo=>
  cases k
  case i64=>
   obtain⟨b,rfl⟩:=h _ rfl;obtain⟨b,m,o⟩:=b ();exact⟨_,by simp only[Op.intDiv,if_neg (show ¬y=0 by omega)];rfl,fun _=>by show _=_;rw[g b,LF o]⟩
  all_goals
   obtain⟨b,rfl⟩:=h _ rfl;obtain⟨b,m⟩:=b ();exact⟨_,by simp only[Op.intDiv,if_neg (show ¬y=0 by omega)];rfl,fun _=>by show _=_;rw[g b]⟩
 case rem=>
  cases k
  all_goals
   obtain⟨b,rfl⟩:=h _ rfl;obtain⟨b,m⟩:=b ();exact⟨_,by simp only[Op.intDiv,if_neg (show ¬y=0 by omega)];rfl,fun _=>by show _=_;rw[i b]⟩
theorem Wi (op:BinOp) (t:TypeId) (x y:Operand) (k k':IntKind) (m n:Int):(eqGuard op t x y (.int k m) (.int k' n)).run P w= .ok () w:=by
 unfold eqGuard;cases op <;> simp
end
end Go.Abs
