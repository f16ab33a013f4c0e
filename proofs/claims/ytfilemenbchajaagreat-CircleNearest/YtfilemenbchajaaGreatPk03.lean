/- Part 4 of a proof. Conditions: each theorem's own. -/
import Derived.Deep.MidRow
import Derived.ArgAppend
import Derived.Test.YtfilemenbchajaaGreatPk02
set_option linter.all false
set_option maxHeartbeats 8000000
set_option maxRecDepth 20000
namespace Go.Abs
open Go.RowKit
def AY {α β:Type} (R:α->β->Prop):List α->List β->Prop
 | [],[]=>True
 | a::l,b::m=>R a b/\AY R l m
 | _,_=>False
theorem AY.mono {α β:Type} {R R':α->β->Prop}:∀{l:List α} {m:List β},(∀a b,R a b->R' a b)->AY R l m->AY R' l m
 | [],[],_,h=>h
 | _::_,_::_,c,h=>⟨c _ _ h.1,AY.mono c h.2⟩
 |[],_::_,_,h|_::_,[],_,h=>h
theorem AY.length {α β:Type} {R:α->β->Prop}:∀{l:List α} {m:List β},AY R l m->l.length=m.length
 | [],[],_=>rfl
 | _::_,_::_,h=>by simp[AY.length h.2]
 |[],_::_,h|_::_,[],h=>h.elim
theorem AY.get {α β:Type} {R:α->β->Prop}:∀{l:List α} {m:List β},AY R l m->∀(i:Nat) (a:α),l[i]? =some a->∃b,m[i]? =some b/\R a b
 | _::_,b::_,h,0,a,e=>by simp at e;exact⟨b,by simp,e ▸ h.1⟩
 | _::_,_::_,h,i+1,a,e=>by simpa using AY.get h.2 i a (by simpa using e)
 | [],[],_,_,_,e=>by simp at e
 |[],_::_,h,_,_,_|_::_,[],h,_,_,_=>h.elim
theorem AY.append {α β:Type} {R:α->β->Prop}:∀{l:List α} {m:List β} {l':List α} {m':List β},AY R l m->AY R l' m'->AY R (l++l') (m++m')
 | [],[],_,_,_,h=>h
 | _::_,_::_,_,_,h,h'=>⟨h.1,AY.append h.2 h'⟩
 |[],_::_,_,_,h,_|_::_,[],_,_,h,_=>h.elim
theorem AY.Oz {α β:Type} {R:α->β->Prop}:∀{l l':List α} {m:List β},AY R (l++l') m->∃m1 m2,m=m1++m2/\AY R l m1/\AY R l' m2
 | [],_,m,h=>⟨[],m,rfl,trivial,h⟩
 | _::_,_,[],h=>h.elim
 | _::_,_,b::_,h=>by
  obtain⟨m1,m2,e,c,d⟩:=AY.Oz h.2;exact⟨b::m1,m2,by simp[e],⟨h.1,c⟩,d⟩
theorem AY.drop {α β:Type} {R:α->β->Prop}:∀{l:List α} {m:List β} (n:Nat),AY R l m->AY R (l.drop n) (m.drop n)
 | _,_,0,h=>by simpa using h
 | [],[],_+1,_=>trivial
 | _::_,_::_,n+1,h=>by simpa using AY.drop n h.2
 |[],_::_,_,h|_::_,[],_,h=>h.elim
theorem AY.take {α β:Type} {R:α->β->Prop}:∀{l:List α} {m:List β} (n:Nat),AY R l m->AY R (l.take n) (m.take n)
 | _,_,0,_=>by simp[AY]
 | [],[],_+1,_=>trivial
 | _::_,_::_,n+1,h=>by simpa [AY] using ⟨h.1,AY.take n h.2⟩
 |[],_::_,_,h|_::_,[],_,h=>h.elim
theorem JJ:∀(cs:List AC) (off n:Nat),Ef cs off n=(cs.drop off).take n
 |_,0,_|[],_+1,_=>by simp[Ef]
 | _::cs,off+1,n=>by simpa [Ef] using JJ cs off n
theorem FV:∀(t:T) (x:el t),(cells t x).length=t.size
 |.u8,_|.u32,_|.u64,_|.i8,_|.i64,_|.bool,_|.sl _,_=>rfl
 | .pr a b,x=>by simp[cells,T.size,FV a,FV b]
theorem T.size_pos:∀t:T,0<t.size
 | .pr a b=>by have:=T.size_pos a;simp[T.size];omega
 |.u8|.u32|.u64|.i8|.i64|.bool|.sl _=>Nat.one_pos
def rep (w:World) (I:Nat->Prop):(t:T)->el t->List Value->Prop
 | .u8,x,vs=>vs=[.int .u8 x.toNat]
 | .u32,x,vs=>vs=[.int .u32 x.toNat]
 | .u64,x,vs=>vs=[.int .u64 x.toNat]
 | .i8,x,vs=>vs=[.int .i8 x]
 | .i64,x,vs=>vs=[.int .i64 x]
 | .bool,x,vs=>vs=[.bool x]
 | .sl t,l,vs=>∃base cap,vs=[.slice base l.length cap]/\l.length<=cap/\l.length<=140737488355328/\
  (l=[]\/∃b off,base=some ⟨b,off,none⟩/\I b/\∀(i:Nat) (x:el t),l[i]? =some x->∃us,rep w I t x us/\w.rangeAt b (off+i*t.size) us)
 | .pr a b,x,vs=>∃v1 v2,vs=v1++v2/\rep w I a x.1 v1/\rep w I b x.2 v2
theorem rangeAt_of_block {w w':World} {b o:Nat} {vs:List Value} (h:w'.heap[b]? =w.heap[b]?) (c:w.rangeAt b o vs):w'.rangeAt b o vs:=
 fun j v d=>(World.cell?_of_block (w:=w) (a:=⟨b,o+j,none⟩) h).trans (c j v d)
theorem CR {w w':World} {I g:Nat->Prop} (h:∀b,I b->g b/\w'.heap[b]? =w.heap[b]?):∀(t:T) (x:el t) (vs:List Value),rep w I t x vs->rep w' g t x vs
 |.u8,_,_,c|.u32,_,_,c|.u64,_,_,c|.i8,_,_,c|.i64,_,_,c|.bool,_,_,c=>c
 | .sl t,_,_,⟨base,cap,e,d,f,l⟩=>⟨base,cap,e,d,f,l.imp id fun⟨b,off,hb,j,k⟩=>
  ⟨b,off,hb,(h b j).1,fun i x m=>let ⟨us,hu,c⟩:=k i x m;⟨us,CR h t x us hu,rangeAt_of_block (h b j).2 c⟩⟩⟩
 | .pr a b,x,_,⟨v1,v2,e,d,f⟩=>⟨v1,v2,e,CR h a x.1 v1 d,CR h b x.2 v2 f⟩
theorem HY {w:World} {I:Nat->Prop}:∀(t:T) (x:el t) (vs:List Value),rep w I t x vs->vs.length=t.size
 |.u8,_,_,h|.u32,_,_,h|.u64,_,_,h|.i8,_,_,h|.i64,_,_,h|.bool,_,_,h=>by rw[show _=_ from h];rfl
 | .sl _,_,_,⟨_,_,e,_⟩=>by rw[e];rfl
 | .pr a b,x,_,⟨v1,v2,e,c,d⟩=>by rw[e,List.length_append,HY a x.1 v1 c,HY b x.2 v2 d];rfl
theorem Me {w:World} {I:Nat->Prop}:∀(t:T) (x:el t) (vs:List Value),rep w I t x vs->∀v∈vs,v.oneCell'=true
 |.u8,_,_,h,v,c|.u32,_,_,h,v,c|.u64,_,_,h,v,c|.i8,_,_,h,v,c|.i64,_,_,h,v,c|.bool,_,_,h,v,c=>by rw[show _=_ from h] at c;simp at c;subst c;rfl
 | .sl _,_,_,⟨_,_,e,_⟩,v,c=>by rw[e] at c;simp at c;subst c;rfl
 | .pr a b,x,_,⟨v1,v2,e,d,f⟩,v,c=>by
  rw[e] at c;rcases List.mem_append.1 c with h | h
  ·exact Me a x.1 v1 d v h
  exact Me b x.2 v2 f v h
def Fy (w:World) (o:Option Nat) (n off len:Nat) (full:Bool) (v:Value):Prop:=
 ∃base cap,v= .slice base len cap/\len<=cap/\cap<=maxLen/\(full=true->cap=len)/\
  (cap=0\/∃b arr e,o=some b/\base=some ⟨b,off*n,none⟩/\w.heap[b]? =some (.cells arr e (0,0))/\(off+cap)*n<=arr.size)
structure Cx where
 w:World
 β:Nat->Option Nat
 cv:Nat->Nat
 I:Nat->Prop
def Az (x:Cx):AC->Value->Prop
 | .BZ,v=>v.oneCell'=true
 | .int k n,v=>v= .int k n
 | .bool b,v=>v= .bool b
 | .fn f,v=>v= .func (.func f) #[] #[]
 | .nil,v=>v= .slice none 0 0
 | .sl t l,v=>rep x.w x.I (.sl t) l [v]
 | .AT t id AW off len,v=>(v.oneCell'=true/\AW<=x.cv id)/\(AW=x.cv id->Fy x.w (x.β id) t.size off len false v)
 | .Cw t id AW off len,v=>(v.oneCell'=true/\AW<=x.cv id)/\(AW=x.cv id->Fy x.w (x.β id) t.size off len true v)
 | .AD id AW off,v=>(v.oneCell'=true/\AW<=x.cv id)/\(AW=x.cv id->∃b,x.β id=some b/\v= .pointer (some ⟨b,off,none⟩))
 | .Cd t id AW i k,v=>(v.oneCell'=true/\AW<=x.cv id)/\(AW=x.cv id->∃b,x.β id=some b/\v= .pointer (some ⟨b,i*t.size+k,none⟩))
 | .ub e,v=>∃b:Bool,v= .bool b/\(b=true->e=true)
 | .C8 t y off,v=>∃b o us,v= .pointer (some ⟨b,o+off,none⟩)/\x.I b/\rep x.w x.I t y us/\x.w.rangeAt b o us
 | .own _ _ _,_=>False
theorem Az.one {x:Cx}:∀{c:AC} {v:Value},Az x c v->v.oneCell'=true
 | .BZ,_,h=>h
 |.int _ _,_,h|.bool _,_,h|.fn _,_,h|.nil,_,h=>by rw[show _=_ from h];rfl
 | .sl _ _,_,h=>Me _ _ _ h _ (by simp)
 |.AT _ _ _ _ _,_,h|.Cw _ _ _ _ _,_,h|.AD _ _ _,_,h|.Cd _ _ _ _ _,_,h=>h.1.1
 |.C8 _ _ _,_,⟨_,_,_,e,_⟩|.ub _,_,⟨_,e,_⟩=>by rw[e];rfl
 | .own _ _ _,_,h=>h.elim
def DH (x:Cx):AV->Value->Prop
 | .one c,v=>c= .BZ\/Az x c v
 | .agg cs,v=>∃arr,v= .agg arr/\AY (Az x) cs arr.toList
 | .AE _,_=>False
def BQ (x:Cx):AV->Value->Prop
 | .AE xs,v=>∃arr,v= .tuple arr/\AY (fun y u=>DH x (Cz y) u) xs arr.toList
 | a,v=>DH x a v
def Ci (x:Cx) (id:Nat):AM->Prop
 | .dead _=>True
 | .var _ cs=>∃b arr e,x.β id=some b/\x.w.heap[b]? =some (.cells arr e (0,0))/\AY (Az x) cs arr.toList
 | .arr _ t l=>(x.β id=none/\l=[])\/∃b arr e,x.β id=some b/\x.w.heap[b]? =some (.cells arr e (0,0))/\
  ∀(i:Nat) (y:el t),l[i]? =some y->∃us,rep x.w x.I t y us/\x.w.rangeAt b (i*t.size) us
structure Cx.le (x y:Cx):Prop where
 cv:∀id,x.cv id<=y.cv id
 β:∀id,y.cv id=x.cv id->y.β id=x.β id
 size:∀id b arr e,y.cv id=x.cv id->x.β id=some b->x.w.heap[b]? =some (.cells arr e (0,0))->∃arr',y.w.heap[b]? =some (.cells arr' e (0,0))/\arr'.size=arr.size
 I:∀b,x.I b->y.I b/\y.w.heap[b]? =x.w.heap[b]?
theorem Fy.mono {x y:Cx} (h:x.le y) {id n off len:Nat} {f:Bool} {v:Value} (g:y.cv id=x.cv id) (o:Fy x.w (x.β id) n off len f v):Fy y.w (y.β id) n off len f v:=by
 obtain⟨base,cap,e,i,j,l,h3⟩:=o;refine⟨base,cap,e,i,j,l,h3.imp (fun q=>q) fun⟨b,arr,e',hb,c,m,r⟩=>?_⟩;obtain⟨d,k,p⟩:=h.size id b arr e' g hb m;exact⟨b,d,e',(h.β id g).trans hb,c,k,by omega⟩
theorem Az.mono {x y:Cx} (h:x.le y):∀{c:AC} {v:Value},Az x c v->Az y c v
 |.BZ,_,r|.int _ _,_,r|.bool _,_,r|.fn _,_,r|.nil,_,r=>r
 | .sl _ _,_,r=>CR h.I _ _ _ r
 | .AT _ id v _ _,_,r=>⟨⟨r.1.1,Nat.le_trans r.1.2 (h.cv id)⟩,fun e=>by
  have:=h.cv id;have d:v=x.cv id:=by have:=r.1.2;omega
  exact Fy.mono h (e ▸ d) (r.2 d)⟩
 | .Cw _ id v _ _,_,r=>⟨⟨r.1.1,Nat.le_trans r.1.2 (h.cv id)⟩,fun e=>by
  have:=h.cv id;have d:v=x.cv id:=by have:=r.1.2;omega
  exact Fy.mono h (e ▸ d) (r.2 d)⟩
 | .AD id v _,_,r=>⟨⟨r.1.1,Nat.le_trans r.1.2 (h.cv id)⟩,fun e=>by
  have:=h.cv id;have d:v=x.cv id:=by have:=r.1.2;omega
  obtain⟨b,hb,f⟩:=r.2 d;exact⟨b,(h.β id (e ▸ d)).trans hb,f⟩⟩
 | .Cd _ id v _ _,_,r=>⟨⟨r.1.1,Nat.le_trans r.1.2 (h.cv id)⟩,fun e=>by
  have:=h.cv id;have d:v=x.cv id:=by have:=r.1.2;omega
  obtain⟨b,hb,f⟩:=r.2 d;exact⟨b,(h.β id (e ▸ d)).trans hb,f⟩⟩
 | .ub _,_,h=>h
 | .C8 t y' _,_,⟨b,o,us,e,g,i,ha⟩=>⟨b,o,us,e,(h.I b g).1,CR h.I t y' us i,rangeAt_of_block (h.I b g).2 ha⟩
 | .own _ _ _,_,r=>r.elim
theorem DH.mono {x y:Cx} (h:x.le y):∀{a:AV} {v:Value},DH x a v->DH y a v
 | .one _,_,r=>r.imp (fun q=>q) (Az.mono h)
 | .agg _,_,⟨arr,e,r⟩=>⟨arr,e,r.mono fun _ _=>Az.mono h⟩
 | .AE _,_,r=>r.elim
theorem BQ.mono {x y:Cx} (h:x.le y):∀{a:AV} {v:Value},BQ x a v->BQ y a v
 | .one c,v,r=>DH.mono h (a:= .one c) r
 | .agg cs,v,r=>DH.mono h (a:= .agg cs) r
 | .AE _,_,⟨arr,e,r⟩=>⟨arr,e,r.mono fun _ _=>DH.mono h⟩
theorem GM (x:Cx):∀(t:T) (y:el t) (vs:List Value),rep x.w x.I t y vs↔AY (Az x) (cells t y) vs
 | .u8,y,vs=>one x (.int .u8 y.toNat) _ vs fun _=>Iff.rfl
 | .u32,y,vs=>one x (.int .u32 y.toNat) _ vs fun _=>Iff.rfl
 | .u64,y,vs=>one x (.int .u64 y.toNat) _ vs fun _=>Iff.rfl
 | .i8,y,vs=>one x (.int .i8 y) _ vs fun _=>Iff.rfl
 | .i64,y,vs=>one x (.int .i64 y) _ vs fun _=>Iff.rfl
 | .bool,y,vs=>one x (.bool y) _ vs fun _=>Iff.rfl
 | .sl t,y,vs=>by
  match vs with
  | []=>exact⟨fun⟨_,_,e,_⟩=>by simp at e,fun h=>h.elim⟩
  | [v]=>exact⟨fun h=>⟨h,trivial⟩,fun h=>h.1⟩
  | _::_::_=>exact⟨fun⟨_,_,e,_⟩=>by simp at e,fun h=>h.2.elim⟩
 | .pr a b,y,vs=>by
  constructor
  ·rintro⟨v1,v2,rfl,d,f⟩
   exact ((GM x a y.1 v1).1 d).append ((GM x b y.2 v2).1 f)
  intro h;obtain⟨m1,m2,e,d,f⟩:=AY.Oz h;exact⟨m1,m2,e,(GM x a y.1 m1).2 d,(GM x b y.2 m2).2 f⟩
where
 one (x:Cx) (c:AC) (u:Value) (vs:List Value) (h:∀v,Az x c v↔v=u):vs=[u]↔AY (Az x) [c] vs:=by
  match vs with
  | []=>exact⟨fun e=>by simp at e,fun h=>h.elim⟩
  | [v]=>exact⟨fun e=>⟨(h v).2 (by simpa using e),trivial⟩,fun g=>by rw[(h v).1 g.1]⟩
  | _::_::_=>exact⟨fun e=>by simp at e,fun h=>h.2.elim⟩
theorem Ci.mono {x y:Cx} (h:x.le y) {id:Nat} {b:AM} (f:y.cv id=x.cv id) (hb:∀k,x.β id=some k->y.w.heap[k]? =x.w.heap[k]?) (r:Ci x id b):Ci y id b:=by
 cases b with
 | dead _=>trivial
 | var _ cs=>
  obtain⟨b,arr,e,c,d,h3⟩:=r;exact⟨b,arr,e,(h.β id f).trans c,(hb b c).trans d,h3.mono fun _ _=>Az.mono h⟩
 | arr _ t l=>
  refine r.imp (fun q=>⟨(h.β id f).trans q.1,q.2⟩) fun⟨b,arr,e,c,d,h3⟩=>?_
  refine⟨b,arr,e,(h.β id f).trans c,(hb b c).trans d,fun i y' g=>?_⟩;obtain⟨us,hu,ha⟩:=h3 i y' g;exact⟨us,CR h.I t y' us hu,rangeAt_of_block (hb b c) ha⟩
end Go.Abs
namespace Go.Abs
open Go.RowKit
theorem H6:∀(l:List AV) (d:Nat) (v:AV) (i:Nat),nth (BG l d v) i=if i=d/\d<l.length then v else nth l i
 |[],d,v,i|_::_,0,v,0|_::_,0,v,i+1|_::_,d+1,v,0=>by simp[BG,nth]
 | a::l,d+1,v,i+1=>by simp[BG,nth,H6 l d v i]
theorem Fi:∀(l:List (Option AM)) (d:Nat) (v:Option AM) (i:Nat),AF (BG l d v) i=if i=d/\d<l.length then v else AF l i
 |[],d,v,i|_::_,0,v,0|_::_,0,v,i+1|_::_,d+1,v,0=>by simp[BG,AF]
 | a::l,d+1,v,i+1=>by simp[BG,AF,Fi l d v i]
theorem FK {α:Type}:∀(l:List α) (d:Nat) (v:α),(BG l d v).length=l.length
 |[],_,_|_::_,0,_=>rfl
 | _::l,d+1,v=>by simp[BG,FK l d v]
theorem HN:∀(l:List (Option AM)) (i:Nat),l.length<=i->AF l i=none
 | [],_,_=>rfl
 | _::_,0,h=>by simp at h
 | _::l,i+1,h=>by simpa [AF] using HN l i (by simpa using h)
theorem Gr {α:Type}:∀(l:List α) (d:Nat) (v:α),l.length<=d->BG l d v=l
 | [],_,_,_=>rfl
 | _::_,0,_,h=>by simp at h
 | a::l,d+1,v,h=>by simp[BG,Gr l d v (by simpa using h)]
def AM.live:AM->Bool
 | .dead _=>false
 | _=>true
def AM.short:AM->Prop
 | .arr _ _ l=>l.length<=140737488355328
 | _=>True
def live (bk:Nat->Option AM) (id:Nat):Prop:=∃b,bk id=some b/\b.live=true
structure WX where
 X:Nat->Prop
 A:Nat->Prop
 ob:Option Nat
def cx (X:WX) (w:World) (β:Nat->Option Nat) (bk:Nat->Option AM):Cx:=
 ⟨w,β,AW bk,fun b=>(b<w.heap.size/\∀id,live bk id->β id≠some b)/\X.A b⟩
structure BR (w0:World) (X:WX) (β:Nat->Option Nat) (s:St) (a:Act) (w:World):Prop where
 defers:a.defers=[]
 len:s.sl.length=a.tmps.size
 Gf:s.bk.length=a.tmps.size
 Bx:∀i,BQ (cx X w β (AF s.bk)) (nth s.sl i) (a.tmps.getD i undef)
 blocks:∀id b,AF s.bk id=some b->Ci (cx X w β (AF s.bk)) id b
 inj:∀id id' b,live (AF s.bk) id->live (AF s.bk) id'->β id=some b->β id'=some b->id=id'
 own:∀id b,live (AF s.bk) id->β id=some b->w0.heap.size<=b\/(X.X b/\id=0)
 os:w.os=w0.os
 tape:w.tape=w0.tape
 output:w.output=w0.output
 size:w0.heap.size<=w.heap.size
 block:∀b,b<w0.heap.size->¬X.X b->w.heap[b]? =w0.heap[b]?
 lens:∀id b,AF s.bk id=some b->b.short
 fresh:∀b,w0.heap.size<=b->X.A b
 Iv:live (AF s.bk) 0->AW (AF s.bk) 0=0->β 0=X.ob/\∀(b:Nat) arr e,X.ob=some b->w0.heap[b]? =some (.cells arr e (0,0))->∃arr',w.heap[b]? =some (.cells arr' e (0,0))/\arr'.size=arr.size
section
variable {w0:World} {X:WX} {β:Nat->Option Nat} {s:St} {a:Act} {w:World}
theorem HX (x:Cx) (v:Value):BQ x (.one .BZ) v:=Or.inl rfl
theorem Z8 (a:Act) (d:Nat) (v:Value) (i:Nat):(a.put (some d) v).tmps.getD i undef=if i=d/\d<a.tmps.size then v else a.tmps.getD i undef:=by
 simp only[Act.put,Array.getD_eq_getD_getElem?,Array.getElem?_setIfInBounds]
 by_cases h:d=i
 ·subst h
  by_cases b:d<a.tmps.size <;> simp[b]
 simp[h,Ne.symm h]
theorem Vo {x:Cx} {s:St} {a:Act} (hlen:s.sl.length=a.tmps.size) (h:∀i,BQ x (nth s.sl i) (a.tmps.getD i undef)) (dst:Option Nat) (v:AV) (u:Value) (b:BQ x v u):
  ∀i,BQ x (nth (Ed s.sl dst v) i) ((a.put dst u).tmps.getD i undef):=by
 intro i;cases dst with
 | none=>exact h i
 | some d=>
  rw[Z8];simp only[Ed,H6,hlen]
  split
  ·exact b
  exact h i
theorem TO {s:St} {a:Act} (hlen:s.sl.length=a.tmps.size) (dst:Option Nat) (v:AV) (u:Value):(Ed s.sl dst v).length=(a.put dst u).tmps.size:=by
 cases dst <;> simp[Ed,Act.put,FK,hlen]
theorem size_put (a:Act) (dst:Option Nat) (u:Value):(a.put dst u).tmps.size=a.tmps.size:=by cases dst <;> simp[Act.put]
theorem SN (a:Act) (dst:Option Nat) (u:Value):(a.put dst u).defers=a.defers:=by cases dst <;> rfl
theorem BR.ext (S:BR w0 X β s a w) {w':World} {dst:Option Nat} {v:AV} {u:Value} {rd:List Nat} (hw:∀b,b<w.heap.size->w'.heap[b]? =w.heap[b]?) (d:w.heap.size<=w'.heap.size)
  (n:w'.os=w.os) (g:w'.tape=w.tape) (m:w'.output=w.output) (p:BQ (cx X w' β (AF s.bk)) v u):BR w0 X β (s.app dst ⟨v,[],rd⟩) (a.put dst u) w':=by
 have c:∀b o,w.heap[b]? =some o->b<w.heap.size:=fun b o h=>by
  rcases Nat.lt_or_ge b w.heap.size with h' | h'
  ·exact h'
  simp[Array.getElem?_eq_none h'] at h
 have hle:(cx X w β (AF s.bk)).le (cx X w' β (AF s.bk)):=
  ⟨fun _=>Nat.le_refl _,fun _ _=>rfl,fun id b arr e _ _ x=>⟨arr,(hw b (c b _ x)).trans x,rfl⟩,fun b hb=>⟨⟨⟨Nat.lt_of_lt_of_le hb.1.1 d,hb.1.2⟩,hb.2⟩,hw b hb.1.1⟩⟩
 refine⟨(SN _ _ _).trans S.defers,TO S.len _ _ _,S.Gf.trans (size_put _ _ _).symm,Vo S.len (fun i=>BQ.mono hle (S.Bx i)) dst v u p,fun id b hb=>?_,S.inj,S.own,
  n.trans S.os,g.trans S.tape,m.trans S.output,Nat.le_trans S.size d,fun b hb B=>(hw b (Nat.lt_of_lt_of_le hb S.size)).trans (S.block b hb B),S.lens,S.fresh,fun A p=>?_⟩
 case refine_2=>
  obtain⟨k,f⟩:=S.Iv A p;refine⟨k,fun b arr e hb he=>?_⟩;obtain⟨j,h3,y⟩:=f b arr e hb he;exact⟨j,(hw b (c b _ h3)).trans h3,y⟩
 have r:=S.blocks id b hb;cases b with
 | dead _=>trivial
 | var _ cs=>
  obtain⟨b,arr,e,k,f,h3⟩:=r;exact⟨b,arr,e,k,(hw b (c b _ f)).trans f,h3.mono fun _ _=>Az.mono hle⟩
 | arr _ t l=>
  refine r.imp (fun q=>q) fun⟨b,arr,e,k,f,h3⟩=>?_
  refine⟨b,arr,e,k,(hw b (c b _ f)).trans f,fun i y' z=>?_⟩;obtain⟨us,hu,ha⟩:=h3 i y' z;exact⟨us,CR hle.I t y' us hu,rangeAt_of_block (hw b (c b _ f)) ha⟩
theorem BR.val (S:BR w0 X β s a w) {dst:Option Nat} {v:AV} {u:Value} {rd:List Nat} (b:BQ (cx X w β (AF s.bk)) v u):BR w0 X β (s.app dst ⟨v,[],rd⟩) (a.put dst u) w:=
 S.ext (fun _ _=>rfl) (Nat.le_refl _) rfl rfl rfl b
theorem Eg (l:List (Option AM)) (id:Nat) (b:AM) (c:id<l.length) (k:Nat):AW (AF (BG l id (some b))) k=if k=id then b.AW else AW (AF l) k:=by
 unfold AW;rw[Fi]
 by_cases h:k=id
 ·subst h;simp[c]
 simp[h]
theorem GF (l:List (Option AM)) (id:Nat) (b:AM) (c:id<l.length) (k:Nat):live (AF (BG l id (some b))) k↔if k=id then b.live=true else live (AF l) k:=by
 unfold live;rw[Fi]
 by_cases h:k=id
 ·subst h;simp[c]
 simp[h]
theorem BR.write (S:BR w0 X β s a w) {f:Nat->Option Nat} {w':World} {dst:Option Nat} {v:AV} {u:Value} {rd:List Nat} {id:Nat} {BO:AM} (n:id<s.bk.length) (U:BO.short)
  (x:∀k,k≠id->f k=β k) (R:AW (AF s.bk) id<=BO.AW) (H:BO.AW=AW (AF s.bk) id->f id=β id/\(BO.live=true->live (AF s.bk) id))
  (q:∀b,b<w.heap.size->(live (AF s.bk) id->β id≠some b)->w'.heap[b]? =w.heap[b]?) (G:w.heap.size<=w'.heap.size)
  (D:∀(b:Nat) arr e,w.heap[b]? =some (.cells arr e (0,0))->∃z,w'.heap[b]? =some (.cells z e (0,0))/\z.size=arr.size)
  (T:w'.os=w.os) (L:w'.tape=w.tape) (Q:w'.output=w.output)
  (m:BO.live=true->∀b,f id=some b->(β id=some b/\live (AF s.bk) id)\/w.heap.size<=b)
  (hB:(cx X w β (AF s.bk)).le (cx X w' f (AF (BG s.bk id (some BO))))->Ci (cx X w' f (AF (BG s.bk id (some BO)))) id BO)
  (V:(cx X w β (AF s.bk)).le (cx X w' f (AF (BG s.bk id (some BO))))->BQ (cx X w' f (AF (BG s.bk id (some BO)))) v u):
  BR w0 X f (s.app dst ⟨v,[(id,BO)],rd⟩) (a.put dst u) w':=by
 have O:∀b o,w.heap[b]? =some o->b<w.heap.size:=fun b o h=>by
  rcases Nat.lt_or_ge b w.heap.size with h' | h'
  ·exact h'
  simp[Array.getElem?_eq_none h'] at h
 have A:∀k b,live (AF s.bk) k->β k=some b->b<w.heap.size:=fun k b ⟨J,y,C⟩ hb=>by
  have r:=S.blocks k J y;cases J with
  | dead _=>simp[AM.live] at C
  | var _ _=>obtain⟨b',arr,e,p,B,_⟩:=r;obtain rfl:b=b':=Option.some.inj (hb.symm.trans p);exact O b _ B
  | arr _ _ _=>
   rcases r with⟨p,_⟩ |⟨b',arr,e,p,B,_⟩
   ·exact absurd (hb.symm.trans p) (by simp)
   obtain rfl:b=b':=Option.some.inj (hb.symm.trans p);exact O b _ B
 have hle:(cx X w β (AF s.bk)).le (cx X w' f (AF (BG s.bk id (some BO)))):=by
  refine⟨fun k=>?_,fun k y=>?_,fun k b arr e _ _ hh=>D b arr e hh,fun b hb=>⟨⟨⟨Nat.lt_of_lt_of_le hb.1.1 G,fun k y=>?_⟩,hb.2⟩,q b hb.1.1 (fun C=>hb.1.2 id C)⟩⟩
  ·show AW _ k<=AW _ k
   rw[Eg _ _ _ n]
   split
   ·subst_vars;exact R
   exact Nat.le_refl _
  ·by_cases h:k=id
   ·subst h;have c:AW (AF (BG s.bk k (some BO))) k=AW (AF s.bk) k:=y;rw[Eg _ _ _ n,if_pos rfl] at c;exact (H c).1
   exact x k h
  rw[GF _ _ _ n] at y
  by_cases h:k=id
  ·subst h;simp only[if_true] at y;intro e;rcases m y b e with⟨p,B⟩ | p
   ·exact hb.1.2 k B p
   have:=hb.1.1
   show False
   have a1:b<w.heap.size:=hb.1.1;omega
  simp only[h,if_false] at y
  show f k≠some b
  rw[x k h];exact hb.1.2 k y
 refine⟨(SN _ _ _).trans S.defers,TO S.len _ _ _,?_,?_,fun k b y=>?_,fun k k' b y c hb j=>?_,fun k b y hb=>?_,T.trans S.os,L.trans S.tape,Q.trans S.output,Nat.le_trans S.size G,fun b hb W=>?_,fun k b y=>?_,S.fresh,fun C V=>?_⟩
 ·show (BG s.bk id (some BO)).length=_
  rw[FK,size_put];exact S.Gf
 ·exact Vo S.len (fun i=>BQ.mono hle (S.Bx i)) dst v u (V hle)
 ·have c:AF (BG s.bk id (some BO)) k=some b:=y;rw[Fi] at c
  by_cases h:k=id
  ·subst h;simp only[n,and_self,if_true,Option.some.injEq] at c;subst c;exact hB hle
  simp only[h,false_and,if_false] at c
  have N:(cx X w' f (AF (BG s.bk id (some BO)))).cv k=(cx X w β (AF s.bk)).cv k:=by
   show AW _ k=AW _ k
   rw[Eg _ _ _ n,if_neg h]
  have r:=S.blocks k b c;have Y:(cx X w' f (AF (BG s.bk id (some BO)))).β k=(cx X w β (AF s.bk)).β k:=x k h;cases b with
  | dead _=>trivial
  | var vv cs=>
   refine Ci.mono hle N (fun b' j=>?_) r;have C:live (AF s.bk) k:=⟨_,c,rfl⟩;exact q b' (A k b' C j) fun K e=>h (S.inj k id b' C K j e)
  | arr vv t l=>
   refine Ci.mono hle N (fun b' j=>?_) r;have C:live (AF s.bk) k:=⟨_,c,rfl⟩;exact q b' (A k b' C j) fun K e=>h (S.inj k id b' C K j e)
 ·have d:live (AF (BG s.bk id (some BO))) k:=y;have g:live (AF (BG s.bk id (some BO))) k':=c;rw[GF _ _ _ n] at d g
  by_cases h:k=id <;> by_cases h':k'=id
  ·rw[h,h']
  ·subst h;simp only[if_true,h',if_false] at d g;rw[x k' h'] at j;rcases m d b hb with⟨p,B⟩ | p
   ·exact S.inj k k' b B g p j
   have:=A k' b g j;omega
  ·subst h';simp only[if_true,h,if_false] at d g;rw[x k h] at hb;rcases m g b j with⟨p,B⟩ | p
   ·exact S.inj k k' b d B hb p
   have:=A k b d hb;omega
  simp only[h,h',if_false] at d g;rw[x k h] at hb;rw[x k' h'] at j;exact S.inj k k' b d g hb j
 ·have d:live (AF (BG s.bk id (some BO))) k:=y;rw[GF _ _ _ n] at d
  by_cases h:k=id
  ·subst h;simp only[if_true] at d;rcases m d b hb with⟨p,B⟩ | p
   ·exact S.own k b B p
   exact Or.inl (Nat.le_trans S.size p)
  simp only[h,if_false] at d;rw[x k h] at hb;exact S.own k b d hb
 ·rw[q b (Nat.lt_of_lt_of_le hb S.size) fun C e=>?_]
  ·exact S.block b hb W
  rcases S.own id b C e with h | h
  ·omega
  exact W h.1
 ·have c:AF (BG s.bk id (some BO)) k=some b:=y;rw[Fi] at c
  by_cases h:k=id
  ·subst h;simp only[n,and_self,if_true,Option.some.injEq] at c;subst c;exact U
  simp only[h,false_and,if_false] at c;exact S.lens k b c
 have F:live (AF (BG s.bk id (some BO))) 0:=C;have I:AW (AF (BG s.bk id (some BO))) 0=0:=V;rw[GF _ _ _ n] at F;rw[Eg _ _ _ n] at I
 have key:live (AF s.bk) 0/\AW (AF s.bk) 0=0/\f 0=β 0:=by
  by_cases h:0=id
  ·subst h;simp only[if_true] at F I;have Z:AW (AF s.bk) 0=0:=by omega
   have:=H (by omega);exact⟨this.2 F,Z,this.1⟩
  simp only[h,if_false] at F I;exact⟨F,I,x 0 h⟩
 obtain⟨p,B⟩:=S.Iv key.1 key.2.1;refine⟨key.2.2.trans p,fun b arr e hb he=>?_⟩;obtain⟨z,h3,h4⟩:=B b arr e hb he;obtain⟨M,h5,h6⟩:=D b z e h3;exact⟨M,h5,by omega⟩
end
end Go.Abs
namespace Go.Abs
open Go.RowKit
def C7 (w:World) (I:Nat->Prop):Cx:=⟨w,fun _=>none,fun _=>0,I⟩
def OwnAt (x:Cx) (lo:Nat) (bo:Option Nat) (t:T) (l:List (el t)) (v:Value):Prop:=
 ∃base cap,v= .slice base l.length cap/\l.length<=cap/\cap<=maxLen/\l.length<=140737488355328/\
  ((bo=none/\l=[]/\cap=0)\/∃b arr e,bo=some b/\lo<=b/\base=some ⟨b,0,none⟩/\x.w.heap[b]? =some (.cells arr e (0,0))/\cap*t.size<=arr.size/\
    ∀(i:Nat) (y:el t),l[i]? =some y->∃us,rep x.w x.I t y us/\x.w.rangeAt b (i*t.size) us)
def Cj (x:Cx) (lo:Nat) (bo:Option Nat):AC->Value->Prop
 | .own t l n,v=>n=l.length/\OwnAt x lo bo t l v
 | c,v=>Az x c v
def Ey (x:Cx) (lo:Nat) (bo:Option Nat):AV->Value->Prop
 | .one c,v=>c= .BZ\/Cj x lo bo c v
 | .agg cs,v=>∃arr,v= .agg arr/\AY (Cj x lo bo) cs arr.toList
 | .AE _,_=>False
def FP (x:Cx) (lo:Nat) (bo:Option Nat):AV->Value->Prop
 | .AE xs,v=>∃arr,v= .tuple arr/\AY (fun y u=>Ey x lo bo (Cz y) u) xs arr.toList
 | a,v=>Ey x lo bo a v
def Bt:AC->Bool
 | .own _ _ _=>true
 | c=>BD c
def Dt:AC->Bool
 |.AT _ 0 0 _ _|.AD 0 0 _=>true
 | c=>BD c
def AV.wf:AV->Bool
 | .AE xs=>xs.all fun x=>x.1||decide (x.2.length<=1)
 | _=>true
def AM.lone:AM->Bool
 | .var v cs=>v==0&&cs.all BD
 | .arr v _ _=>v==0
 | .dead _=>false
def Callee (P : Program) (f : FuncId) : Prop := ∃ fn c, P.funcs[f]? = some fn /\ (fn.name == "runtime.NumGoroutine") = false /\ fn.body = some c
def FB (P:Program) (fl:Bool) (f:FuncId) (args:List AV) (r:AV):Prop:=
 Callee P f/\(r.all Bt=true/\r.wf=true)/\
 ∀(w:World) (I:Nat->Prop) (vs:List Value),(∀b,I b->b<w.heap.size)->AY (BQ (C7 w I)) args vs->
  Calls P f vs.toArray w fun e w'=>∃u bo,e= .returned u/\Below w.heap.size w w'/\
   FP (C7 w' fun b=>((fl=false/\I b)\/w.heap.size<=b)/\b<w'.heap.size/\bo≠some b) w.heap.size bo r u
def β0 (ob:Option Nat):Nat->Option Nat:=fun k=>if k=0 then ob else none
def B5 (w:World) (ob:Option Nat) (I:Nat->Prop):Cx:=⟨w,β0 ob,fun _=>0,I⟩
def GQ (P:Program) (f:FuncId) (c0:AC) (b0:AM) (args:List AV) (r:AV) (b1:AM):Prop:=
 Callee P f/\(r.all Dt=true/\Dt c0=true/\b0.lone=true/\b1.lone=true)/\
 ∀(w:World) (I:Nat->Prop) (ob:Option Nat) (v0:Value) (vs:List Value),(∀b,I b->b<w.heap.size/\ob≠some b)->
  Az (B5 w ob I) c0 v0->Ci (B5 w ob I) 0 b0->b0.short->AY (BQ (C7 w I)) args vs->
  Calls P f (v0::vs).toArray w fun e w'=>∃u,e= .returned u/\
   (w'.os=w.os/\w'.tape=w.tape/\w'.output=w.output/\w.heap.size<=w'.heap.size/\∀k,k<w.heap.size->ob≠some k->w'.heap[k]? =w.heap[k]?)/\
   (∀(b:Nat) arr e,ob=some b->w.heap[b]? =some (.cells arr e (0,0))->∃arr',w'.heap[b]? =some (.cells arr' e (0,0))/\arr'.size=arr.size)/\
   BQ (B5 w' ob fun k=>(I k\/w.heap.size<=k)/\k<w'.heap.size/\ob≠some k) r u/\
   Ci (B5 w' ob fun k=>(I k\/w.heap.size<=k)/\k<w'.heap.size/\ob≠some k) 0 b1/\b1.short
def BW (P:Program) (f:FuncId) (args:List AV) (b0:AM) (r:AV):Prop:=
 Callee P f/\(r.all BD=true/\b0.lone=true)/\
 ∀(w:World) (I:Nat->Prop) (ob:Option Nat) (vs:List Value),(∀b,I b->b<w.heap.size/\ob≠some b)->
  Ci (B5 w ob I) 0 b0->b0.short->AY (BQ (B5 w ob I)) args vs->
  Calls P f vs.toArray w fun e w'=>∃u,e= .returned u/\
   (w'.os=w.os/\w'.tape=w.tape/\w'.output=w.output/\w.heap.size<=w'.heap.size/\∀k,k<w.heap.size->ob≠some k->w'.heap[k]? =w.heap[k]?)/\
   (∀(b:Nat) arr e,ob=some b->w.heap[b]? =some (.cells arr e (0,0))->∃arr',w'.heap[b]? =some (.cells arr' e (0,0))/\arr'.size=arr.size)/\
   BQ (B5 w' ob fun k=>(I k\/w.heap.size<=k)/\k<w'.heap.size/\ob≠some k) r u/\
   Ci (B5 w' ob fun k=>(I k\/w.heap.size<=k)/\k<w'.heap.size/\ob≠some k) 0 b0
def env (P:Program):Env:=⟨FB P,GQ P,BW P⟩
structure DI (P:Program) (t:TypeId) (i:Info):Prop where
 info:i.known=true->∃ti z d,P.info? t=some ti/\ti.size=i.size/\ti.zero=some z/\(∀x,AY (Az x) i.zero z.cells.toList)/\
  P.underlying t=some d/\d.isRow=i.agg/\(i.agg=false->i.size=1)
 kind:∀k,i.kind=some k->P.underlying t=some (.int k)
 isb:i.Lz=true->P.underlying t=some .bool
 sl:i.sl=true->P.underlying t=some (.slice i.Cs)/\∃ei z,P.info? i.Cs=some ei/\ei.size=i.elem.size/\ei.bytes=i.Eo/\0<ei.bytes/\ei.zero=some z/\
  ∀x,AY (Az x) (cells i.elem i.B8) z.cells.toList
 fields:i.known=true->i.fields≠[]->∃fs:Array Field,P.underlying t=some (.struct fs)/\i.fields.length=fs.size/\
  ∀(f fo n:Nat) (g:Bool),i.fields[f]? =some (fo,n,g)->∃fl d,fs[f]? =some fl/\fl.offset=fo/\(P.info? fl.type).map (·.size)=some n/\0<n/\P.underlying fl.type=some d/\d.isRow=g/\(g=false->n=1)
theorem T.beq_eq:∀{a b:T},T.beq a b=true->a=b
 |.u8,b,h|.u32,b,h|.u64,b,h|.i8,b,h|.i64,b,h|.bool,b,h=>by cases b <;> simp_all [T.beq]
 | .sl a,b,h=>by cases b <;> simp_all [T.beq];exact T.beq_eq h
 | .pr a c,b,h=>by cases b <;> simp_all [T.beq];exact⟨T.beq_eq h.1,T.beq_eq h.2⟩
section
variable {P:Program} {w:World}
theorem VP {t:TypeId} {d:TypeDesc} (hu:P.underlying t=some d):(isAgg t).run P w= .ok d.isRow w:=by
 unfold isAgg;rw[Sem.run_bind,run_underlying hu w];cases d <;> simp
theorem eQ {t:TypeId} {d:TypeDesc} {b o:Nat} {v:Value} (hu:P.underlying t=some d) (f:d.isRow=false) (c:w.cell? ⟨b,o,none⟩=some v):
  (Instr.loadAt t (.pointer (some ⟨b,o,none⟩))).run P w= .ok v w:=by
 simp only[Instr.loadAt,Instr.sureAddr,Sem.run_bind,Sem.run_pure,Result.andThen_ok,loadVar,VP hu,f];simp[load,Sem.run,c]
theorem eR {t:TypeId} {f:TypeInfo} {b o:Nat} {v:Value} (h:P.info? t=some f) (d:v.cells.size=f.size) (ht:w.there b o f.size) (g:∀u∈v.cells.toList,u.oneCell'=true):
  (Instr.storeAt t (.pointer (some ⟨b,o,none⟩)) v).run P w= .ok () (w.setCells b o v.cells.toList):=by
 have:=run_storeCells_cells (P:=P) b o v.cells.toList 0 w (fun j c=>by simpa using (ht j (by simpa [d] using c)).1) (fun j c=>by simpa using (ht j (by simpa [d] using c)).2) g;simp only[Nat.add_zero] at this;simp[Instr.storeAt,Instr.sureAddr,storeVar,sizeOf,typeInfo,h,d,this]
end
theorem UQ {v:Value} (h:v.oneCell'=true):v.cells= #[v]:=by
 cases v <;> simp_all [Value.oneCell',Value.cells]
theorem DH.cells {x:Cx} {av:AV} {v:Value} (h:DH x av v) (b:av.full=true):AY (Az x) av.cs v.cells.toList:=by
 cases av with
 | one c=>
  rcases h with rfl | h
  ·simp[AV.full] at b
  rw[UQ h.one];exact⟨h,trivial⟩
 | agg cs=>obtain⟨arr,rfl,h⟩:=h;exact h
 | AE _=>exact h.elim
theorem AY.one {x:Cx}:∀{cs:List AC} {vs:List Value},AY (Az x) cs vs->∀v∈vs,v.oneCell'=true
 | [],[],_,_,b=>by simp at b
 | _::_,_::_,h,v,b=>by
  rcases List.mem_cons.1 b with rfl | b
  ·exact h.1.one
  exact AY.one h.2 v b
 |[],_::_,h,_,_|_::_,[],h,_,_=>h.elim
theorem dz {x:Cx} {a:AV} {v:Value} (h:DH x a v):BQ x a v:=by cases a <;> first | exact h | exact h.elim
theorem KW {x:Cx} {a:AV} {v:Value} (h:BQ x a v) (ha:∀xs,a≠ .AE xs):DH x a v:=by cases a <;> first | exact h | exact absurd rfl (ha _)
theorem CU {x:Cx} {s:St} {a:Act} (h:∀i,BQ x (nth s.sl i) (a.tmps.getD i undef)) (o:Operand):BQ x (ev s.sl o) (a.eval o):=by
 cases o with
 | tmp t=>exact h t
 | func f=>exact Or.inr rfl
 | global g=>exact Or.inl rfl
 | const v=>
  show BQ x (N7 v) v
  unfold N7
  split <;> first | exact Or.inr rfl | exact Or.inl rfl
def valOf (g:Bool) (vs:List Value):Value:=
 match g with
 | true=> .agg vs.toArray
 | false=>vs.headD undef
theorem U3 {x:Cx} {g:Bool} {cs:List AC} {vs:List Value} (h:AY (Az x) cs vs) (b:g=false->cs.length=1):
  BQ x (Cz (g,cs)) (valOf g vs):=by
 cases g with
 | true=>exact⟨_,rfl,by simpa using h⟩
 | false=>
  have:=b rfl
  match cs,vs,h with
  | [c],[v],h=>exact Or.inr h.1
end Go.Abs
namespace Go.Abs
open Go.RowKit
section
variable {P:Program} {E:Env} {TI:TypeId->Info} {w0:World} {X:WX} {β:Nat->Option Nat} {s:St} {a:Act} {w:World}
theorem By {o:Oper} {u:Value} {w':World} {N:Act->World->Prop} {Q:Exit->Act->World->Prop} (c:(execOp a.eval o).run P w= .ok (.value u) w') (b:N (a.put o.dst u) w'):o.wp P a w N Q:=by
 unfold Oper.wp;rw[c];exact b
theorem gq {o:Oper} {w':World} {N:Act->World->Prop} {Q:Exit->Act->World->Prop} (c:(execOp a.eval o).run P w= .ok .skip w') (b:N (a.put o.dst undef) w'):o.wp P a w N Q:=by
 unfold Oper.wp;rw[c];exact b
def Sound (P:Program) (E:Env) (TI:TypeId->Info) (o:Oper):Prop:=
 ∀{w0:World} {X:WX} {β:Nat->Option Nat} {s:St} {a:Act} {w:World},BR w0 X β s a w->∀{f:Ba},Bv E TI o (BS o) (ev s.sl) (AF s.bk) (fun g=>g=f)->
  ∀{N:Act->World->Prop} {Q:Exit->Act->World->Prop},(∀β' a' w',BR w0 X β' (s.app o.dst f) a' w'->N a' w')->o.wp P a w N Q
theorem fU {o:Oper} {x:Operand} (b:o.op= .move x):Sound P E TI o:=by
 intro w0 X β s a w S f h N Q c;simp only[Bv,b] at h;subst h;exact By (u:=a.eval x) (w':=w) (by simp[execOp,b]) (c _ _ _ (S.val (CU S.Bx x)))
theorem fH {o:Oper} {x:Operand} (b:o.op= .assign x):Sound P E TI o:=by
 intro w0 X β s a w S f h N Q c;simp only[Bv,b] at h;subst h;exact By (u:=a.eval x) (w':=w) (by simp[execOp,b]) (c _ _ _ (S.val (CU S.Bx x)))
theorem fW {o:Oper} {c x y:Operand} (g:o.op= .pick c x y):Sound P E TI o:=by
 intro w0 X β s a w S f h N Q i;simp only[Bv,g] at h;have b:=CU S.Bx c
 split at h
 ·rename_i he
  rw[he] at b;have d:a.eval c= .bool true:=by rcases b with b | b <;> simp_all [Az]
  subst h;exact By (u:=a.eval x) (w':=w) (by simp[execOp,g,d,asBool]) (i _ _ _ (S.val (CU S.Bx x)))
 ·rename_i he
  rw[he] at b;have d:a.eval c= .bool false:=by rcases b with b | b <;> simp_all [Az]
  subst h;exact By (u:=a.eval y) (w':=w) (by simp[execOp,g,d,asBool]) (i _ _ _ (S.val (CU S.Bx y)))
 exact h.elim
theorem BX {x:Cx} {c:AC} {v:Value} (h:BQ x (.one c) v) (b:c≠ .BZ):Az x c v:=(show c= .BZ\/Az x c v from h).resolve_left b
theorem fV {o:Oper} {x:Operand} (i:o.op= .nilCheck x):Sound P E TI o:=by
 intro w0 X β s a w S f h N Q j;simp only[Bv,i] at h;have d:=CU S.Bx x
 split at h
 ·rename_i id v off he
  split at h
  ·rename_i k
   subst h;have c:=d;rw[he] at d;obtain⟨b,_,hb⟩:=(BX d (by simp)).2 k.symm;exact By (u:=a.eval x) (w':=w) (by simp[execOp,i,hb]) (j _ _ _ (S.val c))
  exact h.elim
 ·rename_i g he
  subst h;have c:=d;rw[he] at d;have hb:a.eval x= .func (.func g) #[] #[]:=BX d (by simp);exact By (u:=a.eval x) (w':=w) (by simp[execOp,i,hb]) (j _ _ _ (S.val c))
 exact h.elim
theorem fO {o:Oper} {x:Operand} {i:Nat} (d:o.op= .extract x i):Sound P E TI o:=by
 intro w0 X β s a w S f h N Q j;simp only[Bv,d] at h;have g:=CU S.Bx x
 split at h
 ·rename_i xs he
  rw[he] at g;obtain⟨arr,l,b⟩:=g
  split at h
  ·rename_i y m
   subst h;obtain⟨u,hu,k⟩:=b.get i y m;have c:arr[i]? =some u:=by simpa using hu
   exact By (u:=u) (w':=w) (by simp[execOp,d,l,Instr.extract,c]) (j _ _ _ (S.val (dz k)))
  exact h.elim
 exact h.elim
theorem M5 {c:Int} (h:Hz c):IntKind.i64.wrap c=c:=IntWalk.i64_in c ⟨h.1,by have:=h.2;omega⟩
theorem RU {op:BinOp} {k k':IntKind} {x y:Int} {c:AC} {t:TypeId} (n:k=k'\/op= .shl\/op= .shr) (h:arith op k x y (fun d=>d=c)):
  ∃u,(binOp op t (.int k x) (.int k' y)).run P w= .ok u w/\∀Γ,Az Γ c u:=by
 have g:∀{p q:Int},0<=p->p.tdiv q=p/q:=fun h=>Int.tdiv_eq_ediv_of_nonneg h
 have i:∀{p q:Int},0<=p->p.tmod q=p%q:=fun h=>Int.tmod_eq_emod_of_nonneg h
 by_cases j:op= .shl\/op= .shr
 ·rcases j with rfl | rfl
  ·have h':=h _ rfl;obtain⟨b,rfl⟩:=h';have l:¬y<0:=by have:=b ();omega
   exact⟨_,by simp only[binOp,Op.shift,if_neg l];rfl,fun _=>rfl⟩
  have h':=h _ rfl;obtain⟨b,rfl⟩:=h';have l:¬y<0:=by have:=b ();omega
  exact⟨_,by simp only[binOp,Op.shift,if_neg l];rfl,fun _=>rfl⟩
 have n:k=k':=n.resolve_right j;subst n
 have hb:∀f,f≠ .shl->f≠ .shr->binOp f t (.int k x) (.int k y)=(match f with
  | .add | .sub | .mul=>Op.intArith f k x y | .quo | .rem=>Op.intDiv f k x y | .and | .or | .xor | .andNot=>Op.intBits f k x y | _=>Op.intCmp f x y):=by
  intro f b m;cases f <;> simp_all [binOp]
 rw[hb op (fun e=>j (.inl e)) (fun e=>j (.inr e))];cases op
 case shl=>exact absurd (.inl rfl) j
 case shr=>exact absurd (.inr rfl) j
 case eql=>obtain rfl:=h _ rfl;exact⟨_,rfl,fun _=>rfl⟩
 case neq=>obtain rfl:=h _ rfl;exact⟨_,rfl,fun _=>rfl⟩
 case lss=>obtain rfl:=h _ rfl;exact⟨_,rfl,fun _=>rfl⟩
 case leq=>obtain rfl:=h _ rfl;exact⟨_,rfl,fun _=>rfl⟩
 case gtr=>obtain rfl:=h _ rfl;exact⟨_,rfl,fun _=>rfl⟩
 case geq=>obtain rfl:=h _ rfl;exact⟨_,rfl,fun _=>rfl⟩
 case and=>obtain rfl:=h _ rfl;exact⟨_,rfl,fun _=>rfl⟩
 case or=>obtain rfl:=h _ rfl;exact⟨_,rfl,fun _=>rfl⟩
 case xor=>obtain rfl:=h _ rfl;exact⟨_,rfl,fun _=>rfl⟩
 case andNot=>obtain rfl:=h _ rfl;exact⟨_,rfl,fun _=>rfl⟩
 case add=>
  cases k
  case i64=>obtain⟨b,rfl⟩:=h _ rfl;exact⟨_,rfl,fun _=>by show _=_;rw[M5 (b ())]⟩
  all_goals (obtain rfl:=h _ rfl;exact⟨_,rfl,fun _=>rfl⟩)
 case sub=>
  cases k
  case i64=>obtain⟨b,rfl⟩:=h _ rfl;exact⟨_,rfl,fun _=>by show _=_;rw[M5 (b ())]⟩
  all_goals (obtain rfl:=h _ rfl;exact⟨_,rfl,fun _=>rfl⟩)
 case mul=>
  cases k
  case i64=>obtain⟨b,rfl⟩:=h _ rfl;exact⟨_,rfl,fun _=>by show _=_;rw[M5 (b ())]⟩
  all_goals (obtain rfl:=h _ rfl;exact⟨_,rfl,fun _=>rfl⟩)
 case quo=>
  cases k
  case i64=>
   obtain⟨b,rfl⟩:=h _ rfl;obtain⟨b,m,h3⟩:=b ();exact⟨_,by simp only[Op.intDiv,if_neg (show ¬y=0 by omega)];rfl,fun _=>by show _=_;rw[g b,M5 h3]⟩
  all_goals
   obtain⟨b,rfl⟩:=h _ rfl;obtain⟨b,m⟩:=b ();exact⟨_,by simp only[Op.intDiv,if_neg (show ¬y=0 by omega)];rfl,fun _=>by show _=_;rw[g b]⟩
 case rem=>
  cases k
  all_goals
   obtain⟨b,rfl⟩:=h _ rfl;obtain⟨b,m⟩:=b ();exact⟨_,by simp only[Op.intDiv,if_neg (show ¬y=0 by omega)];rfl,fun _=>by show _=_;rw[i b]⟩
theorem Zo (op:BinOp) (t:TypeId) (x y:Operand) (k k':IntKind) (m n:Int):(eqGuard op t x y (.int k m) (.int k' n)).run P w= .ok () w:=by
 unfold eqGuard;cases op <;> simp
end
end Go.Abs
