/- Part 3 of a proof. Conditions: each theorem's own. -/
import Derived.Laws.Cover3
import Derived.Laws.IdiomStrings
import Derived.Test.YtclgfoceefhnkaaGreatDoorLk01
set_option linter.all false
set_option maxHeartbeats 80000000
set_option maxRecDepth 20000
namespace Go.Abs
open Go.RowKit
theorem IC:∀(l:List AV) (d:Nat) (v:AV) (i:Nat),nth (Av l d v) i=if i=d/\d<l.length then v else nth l i
 |[],d,v,i|_::_,0,v,0|_::_,0,v,i+1|_::_,d+1,v,0=>by simp[Av,nth]
 | a::l,d+1,v,i+1=>by simp[Av,nth,IC l d v i]
theorem F9:∀(l:List (Option AG)) (d:Nat) (v:Option AG) (i:Nat),AF (Av l d v) i=if i=d/\d<l.length then v else AF l i
 |[],d,v,i|_::_,0,v,0|_::_,0,v,i+1|_::_,d+1,v,0=>by simp[Av,AF]
 | a::l,d+1,v,i+1=>by simp[Av,AF,F9 l d v i]
theorem E4 {α:Type}:∀(l:List α) (d:Nat) (v:α),(Av l d v).length=l.length
 |[],_,_|_::_,0,_=>rfl
 | _::l,d+1,v=>by simp[Av,E4 l d v]
theorem F8:∀(l:List (Option AG)) (i:Nat),l.length<=i->AF l i=none
 | [],_,_=>rfl
 | _::_,0,h=>by simp at h
 | _::l,i+1,h=>by simpa [AF] using F8 l i (by simpa using h)
theorem GF {α:Type}:∀(l:List α) (d:Nat) (v:α),l.length<=d->Av l d v=l
 | [],_,_,_=>rfl
 | _::_,0,_,h=>by simp at h
 | a::l,d+1,v,h=>by simp[Av,GF l d v (by simpa using h)]
def AG.live:AG->Bool
 | .dead _=>false
 | _=>true
def AG.short:AG->Prop
 | .arr _ _ l=>l.length<=140737488355328
 | _=>True
def live (bk:Nat->Option AG) (id:Nat):Prop:=∃b,bk id=some b/\b.live=true
structure WX where
 X:Nat->Prop
 A:Nat->Prop
 ob:Option Nat
def cx (X:WX) (w:World) (β:Nat->Option Nat) (bk:Nat->Option AG):Cx:=
 ⟨w,β,AK bk,fun b=>(b<w.heap.size/\∀id,live bk id->β id≠some b)/\X.A b,fun b=>b<w.heap.size/\∀id,live bk id->β id≠some b⟩
structure BB (w0:World) (X:WX) (β:Nat->Option Nat) (s:St) (a:Act) (w:World):Prop where
 defers:a.defers=[]
 len:s.sl.length=a.tmps.size
 GZ:s.bk.length=a.tmps.size
 GJ:∀i,BF (cx X w β (AF s.bk)) (nth s.sl i) (a.tmps.getD i undef)
 blocks:∀id b,AF s.bk id=some b->CM (cx X w β (AF s.bk)) id b
 inj:∀id id' b,live (AF s.bk) id->live (AF s.bk) id'->β id=some b->β id'=some b->id=id'
 own:∀id b,live (AF s.bk) id->β id=some b->w0.heap.size<=b\/(X.X b/\id=0)
 os:w.os=w0.os
 tape:w.tape=w0.tape
 output:w.output=w0.output
 size:w0.heap.size<=w.heap.size
 block:∀b,b<w0.heap.size->¬X.X b->w.heap[b]? =w0.heap[b]?
 lens:∀id b,AF s.bk id=some b->b.short
 fresh:(∀b,w0.heap.size<=b->X.A b)/\FD w0 fun b=>(X.A b/\¬X.X b)/\b<w0.heap.size
 H7:live (AF s.bk) 0->AK (AF s.bk) 0=0->β 0=X.ob/\∀(b:Nat) arr e,X.ob=some b->w0.heap[b]? =some (.cells arr e (0,0))->∃arr',w.heap[b]? =some (.cells arr' e (0,0))/\arr'.size=arr.size
section
variable {w0:World} {X:WX} {β:Nat->Option Nat} {s:St} {a:Act} {w:World}
theorem BB.G5 (S:BB w0 X β s a w):FD w (cx X w β (AF s.bk)).I:=
 FD.mono (fun b c=>⟨⟨⟨Nat.lt_of_lt_of_le c.2 S.size,fun id d e=>(S.own id b d e).elim (fun q=>by have:=c.2;omega) fun q=>c.1.2 q.1⟩,c.1.1⟩,S.block b c.2 c.1.2⟩) S.fresh.2
theorem Hi (x:Cx) (v:Value):BF x (.one .BN) v:=Or.inl rfl
theorem bJ (a:Act) (d:Nat) (v:Value) (i:Nat):(a.put (some d) v).tmps.getD i undef=if i=d/\d<a.tmps.size then v else a.tmps.getD i undef:=by
 simp only[Act.put,Array.getD_eq_getD_getElem?,Array.getElem?_setIfInBounds]
 by_cases h:d=i
 ·subst h
  by_cases b:d<a.tmps.size <;> simp[b]
 simp[h,Ne.symm h]
theorem WY {x:Cx} {s:St} {a:Act} (hlen:s.sl.length=a.tmps.size) (h:∀i,BF x (nth s.sl i) (a.tmps.getD i undef)) (dst:Option Nat) (v:AV) (u:Value) (b:BF x v u):
  ∀i,BF x (nth (Er s.sl dst v) i) ((a.put dst u).tmps.getD i undef):=by
 intro i;cases dst with
 | none=>exact h i
 | some d=>
  rw[bJ];simp only[Er,IC,hlen]
  split
  ·exact b
  exact h i
theorem UP {s:St} {a:Act} (hlen:s.sl.length=a.tmps.size) (dst:Option Nat) (v:AV) (u:Value):(Er s.sl dst v).length=(a.put dst u).tmps.size:=by
 cases dst <;> simp[Er,Act.put,E4,hlen]
theorem size_put (a:Act) (dst:Option Nat) (u:Value):(a.put dst u).tmps.size=a.tmps.size:=by cases dst <;> simp[Act.put]
theorem So (a:Act) (dst:Option Nat) (u:Value):(a.put dst u).defers=a.defers:=by cases dst <;> rfl
theorem BB.ext (S:BB w0 X β s a w) {w':World} {dst:Option Nat} {v:AV} {u:Value} {rd:List Nat} (hw:∀b,b<w.heap.size->w'.heap[b]? =w.heap[b]?) (d:w.heap.size<=w'.heap.size)
  (x:w'.os=w.os) (j:w'.tape=w.tape) (p:w'.output=w.output) (y:BF (cx X w' β (AF s.bk)) v u):BB w0 X β (s.app dst ⟨v,[],rd⟩) (a.put dst u) w':=by
 have f:∀b o,w.heap[b]? =some o->b<w.heap.size:=fun b o h=>by
  rcases Nat.lt_or_ge b w.heap.size with h' | h'
  ·exact h'
  simp[Array.getElem?_eq_none h'] at h
 have hle:(cx X w β (AF s.bk)).le (cx X w' β (AF s.bk)):=
  ⟨fun _=>Nat.le_refl _,fun _ _=>rfl,fun id b arr e _ _ z=>⟨arr,(hw b (f b _ z)).trans z,rfl⟩,fun b c=>⟨⟨⟨Nat.lt_of_lt_of_le c.1.1 d,c.1.2⟩,c.2⟩,hw b c.1.1⟩,fun b c=>⟨⟨Nat.lt_of_lt_of_le c.1 d,c.2⟩,hw b c.1⟩⟩
 refine⟨(So _ _ _).trans S.defers,UP S.len _ _ _,S.GZ.trans (size_put _ _ _).symm,WY S.len (fun i=>BF.mono hle (S.GJ i)) dst v u y,fun id b c=>?_,S.inj,S.own,
  x.trans S.os,j.trans S.tape,p.trans S.output,Nat.le_trans S.size d,fun b c G=>(hw b (Nat.lt_of_lt_of_le c S.size)).trans (S.block b c G),S.lens,S.fresh,fun F y=>?_⟩
 case refine_2=>
  obtain⟨n,g⟩:=S.H7 F y;refine⟨n,fun b arr e c he=>?_⟩;obtain⟨m,k,B⟩:=g b arr e c he;exact⟨m,(hw b (f b _ k)).trans k,B⟩
 have r:=S.blocks id b c;cases b with
 | dead _=>trivial
 | var _ cs=>
  obtain⟨b,arr,e,n,g,k⟩:=r;exact⟨b,arr,e,n,(hw b (f b _ g)).trans g,k.mono fun _ _=>Ai.mono hle⟩
 | arr _ t l=>
  refine r.imp (fun q=>q) fun⟨b,arr,e,n,g,k⟩=>?_
  refine⟨b,arr,e,n,(hw b (f b _ g)).trans g,fun i A D=>?_⟩;obtain⟨us,hu,C⟩:=k i A D;exact⟨us,By hle.I t A us hu,rangeAt_of_block (hw b (f b _ g)) C⟩
theorem BB.val (S:BB w0 X β s a w) {dst:Option Nat} {v:AV} {u:Value} {rd:List Nat} (b:BF (cx X w β (AF s.bk)) v u):BB w0 X β (s.app dst ⟨v,[],rd⟩) (a.put dst u) w:=
 S.ext (fun _ _=>rfl) (Nat.le_refl _) rfl rfl rfl b
theorem ET (l:List (Option AG)) (id:Nat) (b:AG) (c:id<l.length) (k:Nat):AK (AF (Av l id (some b))) k=if k=id then b.AK else AK (AF l) k:=by
 unfold AK;rw[F9]
 by_cases h:k=id
 ·subst h;simp[c]
 simp[h]
theorem Fe (l:List (Option AG)) (id:Nat) (b:AG) (c:id<l.length) (k:Nat):live (AF (Av l id (some b))) k↔if k=id then b.live=true else live (AF l) k:=by
 unfold live;rw[F9]
 by_cases h:k=id
 ·subst h;simp[c]
 simp[h]
theorem BB.write (S:BB w0 X β s a w) {β':Nat->Option Nat} {w':World} {dst:Option Nat} {v:AV} {u:Value} {rd:List Nat} {id:Nat} {Au:AG} (n:id<s.bk.length) (U:Au.short)
  (x:∀k,k≠id->β' k=β k) (R:AK (AF s.bk) id<=Au.AK) (H:Au.AK=AK (AF s.bk) id->β' id=β id/\(Au.live=true->live (AF s.bk) id))
  (q:∀b,b<w.heap.size->(live (AF s.bk) id->β id≠some b)->w'.heap[b]? =w.heap[b]?) (G:w.heap.size<=w'.heap.size)
  (D:∀(b:Nat) arr e,w.heap[b]? =some (.cells arr e (0,0))->∃z,w'.heap[b]? =some (.cells z e (0,0))/\z.size=arr.size)
  (T:w'.os=w.os) (L:w'.tape=w.tape) (Q:w'.output=w.output)
  (m:Au.live=true->∀b,β' id=some b->(β id=some b/\live (AF s.bk) id)\/w.heap.size<=b)
  (hB:(cx X w β (AF s.bk)).le (cx X w' β' (AF (Av s.bk id (some Au))))->CM (cx X w' β' (AF (Av s.bk id (some Au)))) id Au)
  (V:(cx X w β (AF s.bk)).le (cx X w' β' (AF (Av s.bk id (some Au))))->BF (cx X w' β' (AF (Av s.bk id (some Au)))) v u):
  BB w0 X β' (s.app dst ⟨v,[(id,Au)],rd⟩) (a.put dst u) w':=by
 have O:∀b o,w.heap[b]? =some o->b<w.heap.size:=fun b o h=>by
  rcases Nat.lt_or_ge b w.heap.size with h' | h'
  ·exact h'
  simp[Array.getElem?_eq_none h'] at h
 have A:∀k b,live (AF s.bk) k->β k=some b->b<w.heap.size:=fun k b ⟨J,y,C⟩ d=>by
  have r:=S.blocks k J y;cases J with
  | dead _=>simp[AG.live] at C
  | var _ _=>obtain⟨b',arr,e,p,B,_⟩:=r;obtain rfl:b=b':=Option.some.inj (d.symm.trans p);exact O b _ B
  | arr _ _ _=>
   rcases r with⟨p,_⟩ |⟨b',arr,e,p,B,_⟩
   ·exact absurd (d.symm.trans p) (by simp)
   obtain rfl:b=b':=Option.some.inj (d.symm.trans p);exact O b _ B
 have key:∀b,(b<w.heap.size/\∀id,live (AF s.bk) id->β id≠some b)->(b<w'.heap.size/\∀k,live (AF (Av s.bk id (some Au))) k->β' k≠some b)/\w'.heap[b]? =w.heap[b]? :=fun b d=>by
  refine⟨⟨Nat.lt_of_lt_of_le d.1 G,fun k y=>?_⟩,q b d.1 (fun C=>d.2 id C)⟩;rw[Fe _ _ _ n] at y
  by_cases h:k=id
  ·subst h;simp only[if_true] at y;intro e;rcases m y b e with⟨p,B⟩ | p
   ·exact d.2 k B p
   have:=d.1;omega
  simp only[h,if_false] at y;rw[x k h];exact d.2 k y
 have hle:(cx X w β (AF s.bk)).le (cx X w' β' (AF (Av s.bk id (some Au)))):=by
  refine⟨fun k=>?_,fun k y=>?_,fun k b arr e _ _ hh=>D b arr e hh,fun b d=>⟨⟨(key b d.1).1,d.2⟩,(key b d.1).2⟩,key⟩
  ·show AK _ k<=AK _ k
   rw[ET _ _ _ n]
   split
   ·subst_vars;exact R
   exact Nat.le_refl _
  by_cases h:k=id
  ·subst h;have c:AK (AF (Av s.bk k (some Au))) k=AK (AF s.bk) k:=y;rw[ET _ _ _ n,if_pos rfl] at c;exact (H c).1
  exact x k h
 refine⟨(So _ _ _).trans S.defers,UP S.len _ _ _,?_,?_,fun k b y=>?_,fun k k' b y c d j=>?_,fun k b y d=>?_,T.trans S.os,L.trans S.tape,Q.trans S.output,Nat.le_trans S.size G,fun b d W=>?_,fun k b y=>?_,S.fresh,fun C V=>?_⟩
 ·show (Av s.bk id (some Au)).length=_
  rw[E4,size_put];exact S.GZ
 ·exact WY S.len (fun i=>BF.mono hle (S.GJ i)) dst v u (V hle)
 ·have c:AF (Av s.bk id (some Au)) k=some b:=y;rw[F9] at c
  by_cases h:k=id
  ·subst h;simp only[n,and_self,if_true,Option.some.injEq] at c;subst c;exact hB hle
  simp only[h,false_and,if_false] at c
  have N:(cx X w' β' (AF (Av s.bk id (some Au)))).cv k=(cx X w β (AF s.bk)).cv k:=by
   show AK _ k=AK _ k
   rw[ET _ _ _ n,if_neg h]
  have r:=S.blocks k b c;have Y:(cx X w' β' (AF (Av s.bk id (some Au)))).β k=(cx X w β (AF s.bk)).β k:=x k h;cases b with
  | dead _=>trivial
  | var vv cs=>
   refine CM.mono hle N (fun b' j=>?_) r;have C:live (AF s.bk) k:=⟨_,c,rfl⟩;exact q b' (A k b' C j) fun K e=>h (S.inj k id b' C K j e)
  | arr vv t l=>
   refine CM.mono hle N (fun b' j=>?_) r;have C:live (AF s.bk) k:=⟨_,c,rfl⟩;exact q b' (A k b' C j) fun K e=>h (S.inj k id b' C K j e)
 ·have f:live (AF (Av s.bk id (some Au))) k:=y;have g:live (AF (Av s.bk id (some Au))) k':=c;rw[Fe _ _ _ n] at f g
  by_cases h:k=id <;> by_cases h':k'=id
  ·rw[h,h']
  ·subst h;simp only[if_true,h',if_false] at f g;rw[x k' h'] at j;rcases m f b d with⟨p,B⟩ | p
   ·exact S.inj k k' b B g p j
   have:=A k' b g j;omega
  ·subst h';simp only[if_true,h,if_false] at f g;rw[x k h] at d;rcases m g b j with⟨p,B⟩ | p
   ·exact S.inj k k' b f B d p
   have:=A k b f d;omega
  simp only[h,h',if_false] at f g;rw[x k h] at d;rw[x k' h'] at j;exact S.inj k k' b f g d j
 ·have f:live (AF (Av s.bk id (some Au))) k:=y;rw[Fe _ _ _ n] at f
  by_cases h:k=id
  ·subst h;simp only[if_true] at f;rcases m f b d with⟨p,B⟩ | p
   ·exact S.own k b B p
   exact Or.inl (Nat.le_trans S.size p)
  simp only[h,if_false] at f;rw[x k h] at d;exact S.own k b f d
 ·rw[q b (Nat.lt_of_lt_of_le d S.size) fun C e=>?_]
  ·exact S.block b d W
  rcases S.own id b C e with h | h
  ·omega
  exact W h.1
 ·have c:AF (Av s.bk id (some Au)) k=some b:=y;rw[F9] at c
  by_cases h:k=id
  ·subst h;simp only[n,and_self,if_true,Option.some.injEq] at c;subst c;exact U
  simp only[h,false_and,if_false] at c;exact S.lens k b c
 have F:live (AF (Av s.bk id (some Au))) 0:=C;have I:AK (AF (Av s.bk id (some Au))) 0=0:=V;rw[Fe _ _ _ n] at F;rw[ET _ _ _ n] at I
 have key:live (AF s.bk) 0/\AK (AF s.bk) 0=0/\β' 0=β 0:=by
  by_cases h:0=id
  ·subst h;simp only[if_true] at F I;have Z:AK (AF s.bk) 0=0:=by omega
   have:=H (by omega);exact⟨this.2 F,Z,this.1⟩
  simp only[h,if_false] at F I;exact⟨F,I,x 0 h⟩
 obtain⟨p,B⟩:=S.H7 key.1 key.2.1;refine⟨key.2.2.trans p,fun b arr e d he=>?_⟩;obtain⟨z,h3,h4⟩:=B b arr e d he;obtain⟨M,h5,h6⟩:=D b z e h3;exact⟨M,h5,by omega⟩
end
def Cb (w:World) (I:Nat->Prop):Cx:=⟨w,fun _=>none,fun _=>0,I,fun b=>b<w.heap.size⟩
def OwnAt (x:Cx) (lo:Nat) (bo:Option Nat) (t:T) (l:List (el t)) (v:Value):Prop:=
 ∃base cap,v= .slice base l.length cap/\l.length<=cap/\cap<=maxLen/\l.length<=140737488355328/\
  ((bo=none/\l=[]/\cap=0)\/∃b arr e,bo=some b/\lo<=b/\base=some ⟨b,0,none⟩/\x.w.heap[b]? =some (.cells arr e (0,0))/\cap*t.size<=arr.size/\
    ∀(i:Nat) (y:el t),l[i]? =some y->∃us,rep x.w x.I t y us/\x.w.rangeAt b (i*t.size) us)
def Cq (x:Cx) (lo:Nat) (bo:Option Nat):AC->Value->Prop
 | .own t l n,v=>n=l.length/\OwnAt x lo bo t l v
 | c,v=>Ai x c v
def FE (x:Cx) (lo:Nat) (bo:Option Nat):AV->Value->Prop
 | .one c,v=>c= .BN\/Cq x lo bo c v
 | .agg cs,v=>∃arr,v= .agg arr/\AT (Cq x lo bo) cs arr.toList
 | .AJ _,_=>False
def Fo (x:Cx) (lo:Nat) (bo:Option Nat):AV->Value->Prop
 | .AJ xs,v=>∃arr,v= .tuple arr/\AT (fun y u=>FE x lo bo (C2 y) u) xs arr.toList
 | a,v=>FE x lo bo a v
def Bp:AC->Bool
 | .own _ _ _=>true
 | c=>Ao c
def De:AC->Bool
 |.AQ _ 0 0 _ _|.Ae 0 0 _|.Cp (0,0,_)=>true
 | c=>Ao c
def AV.wf:AV->Bool
 | .AJ xs=>xs.all fun x=>x.1||decide (x.2.length<=1)
 | _=>true
def AG.lone:AG->Bool
 | .var v cs=>v==0&&cs.all Ao
 | .arr v _ _=>v==0
 | .dead _=>false
def Callee (P : Program) (f : FuncId) : Prop := ∃ fn c, P.funcs[f]? = some fn /\ (fn.name == "runtime.NumGoroutine") = false /\ fn.body = some c
def Eh (P:Program) (fl:Bool) (f:FuncId) (args:List AV) (r:AV):Prop:=
 Callee P f/\(r.all Bp=true/\r.wf=true)/\
 ∀(w:World) (I:Nat->Prop) (vs:List Value),(∀b,I b->b<w.heap.size)->FD w I->AT (BF (Cb w I)) args vs->
  Calls P f vs.toArray w fun e w'=>∃u bo,e= .returned u/\Below w.heap.size w w'/\
   Fo (Cb w' fun b=>((fl=false/\I b)\/w.heap.size<=b)/\b<w'.heap.size/\bo≠some b) w.heap.size bo r u
def β0 (ob:Option Nat):Nat->Option Nat:=fun k=>if k=0 then ob else none
def BU (w:World) (ob:Option Nat) (I:Nat->Prop):Cx:=⟨w,β0 ob,fun _=>0,I,fun b=>b<w.heap.size/\ob≠some b⟩
def Gk (P:Program) (f:FuncId) (c0:AC) (b0:AG) (args:List AV) (r:AV) (b1:AG):Prop:=
 Callee P f/\(r.all De=true/\De c0=true/\b0.lone=true/\b1.lone=true)/\
 ∀(w:World) (I:Nat->Prop) (ob:Option Nat) (v0:Value) (vs:List Value),(∀b,I b->b<w.heap.size/\ob≠some b)->FD w I->
  Ai (BU w ob I) c0 v0->CM (BU w ob I) 0 b0->b0.short->AT (BF (Cb w I)) args vs->
  Calls P f (v0::vs).toArray w fun e w'=>∃u,e= .returned u/\
   (w'.os=w.os/\w'.tape=w.tape/\w'.output=w.output/\w.heap.size<=w'.heap.size/\∀k,k<w.heap.size->ob≠some k->w'.heap[k]? =w.heap[k]?)/\
   (∀(b:Nat) arr e,ob=some b->w.heap[b]? =some (.cells arr e (0,0))->∃arr',w'.heap[b]? =some (.cells arr' e (0,0))/\arr'.size=arr.size)/\
   BF (BU w' ob fun k=>(I k\/w.heap.size<=k)/\k<w'.heap.size/\ob≠some k) r u/\
   CM (BU w' ob fun k=>(I k\/w.heap.size<=k)/\k<w'.heap.size/\ob≠some k) 0 b1/\b1.short
def DV (P:Program) (f:FuncId) (args:List AV) (b0:AG) (r:AV) (b1:AG):Prop:=
 Callee P f/\(r.all Ao=true/\b0.lone=true/\b1.lone=true)/\
 ∀(w:World) (I:Nat->Prop) (ob:Option Nat) (vs:List Value),(∀b,I b->b<w.heap.size/\ob≠some b)->FD w I->
  CM (BU w ob I) 0 b0->b0.short->AT (BF (BU w ob I)) args vs->
  Calls P f vs.toArray w fun e w'=>∃u,e= .returned u/\
   (w'.os=w.os/\w'.tape=w.tape/\w'.output=w.output/\w.heap.size<=w'.heap.size/\∀k,k<w.heap.size->ob≠some k->w'.heap[k]? =w.heap[k]?)/\
   (∀(b:Nat) arr e,ob=some b->w.heap[b]? =some (.cells arr e (0,0))->∃arr',w'.heap[b]? =some (.cells arr' e (0,0))/\arr'.size=arr.size)/\
   BF (BU w' ob fun k=>(I k\/w.heap.size<=k)/\k<w'.heap.size/\ob≠some k) r u/\
   CM (BU w' ob fun k=>(I k\/w.heap.size<=k)/\k<w'.heap.size/\ob≠some k) 0 b1/\b1.short
def D7 (P:Program) (f:FuncId) (args:List AV) (b0:AG) (r:AV):Prop:=
 Callee P f/\(r.all Ao=true/\b0.lone=true)/\
 ∀(w:World) (I:Nat->Prop) (ob:Option Nat) (vs:List Value),(∀b,I b->b<w.heap.size/\ob≠some b)->FD w I->
  CM (BU w ob I) 0 b0->b0.short->AT (BF (BU w ob I)) args vs->
  Calls P f vs.toArray w fun e w'=>∃u,e= .returned u/\
   (w'.os=w.os/\w'.tape=w.tape/\w'.output=w.output/\w.heap.size<=w'.heap.size/\∀k,k<w.heap.size->ob≠some k->w'.heap[k]? =w.heap[k]?)/\
   (∀(b:Nat) arr e,ob=some b->w.heap[b]? =some (.cells arr e (0,0))->∃arr',w'.heap[b]? =some (.cells arr' e (0,0))/\arr'.size=arr.size)/\
   BF (BU w' ob fun k=>(I k\/w.heap.size<=k)/\k<w'.heap.size/\ob≠some k) r u/\
   CM (BU w' ob fun k=>(I k\/w.heap.size<=k)/\k<w'.heap.size/\ob≠some k) 0 b0
def Xi (P:Program) (f:FuncId) (t:T) (l:List (el t)) (args:List AV) (l':List (el t)):Prop:=
 Callee P f/\
 ∀(w:World) (I J:Nat->Prop) (ob:Option Nat) (v0:Value) (vs:List Value),(∀b,I b->b<w.heap.size/\ob≠some b)->FD w I->(∀b,J b->ob≠some b/\∃arr e,w.heap[b]? =some (.cells arr e (0,0)))->
  Ai (BU w ob I) (.AQ t 0 0 0 l.length) v0->CM (BU w ob I) 0 (.arr 0 t l)->l.length<=140737488355328->AT (BF (Cb w J)) args vs->
  Calls P f (v0::vs).toArray w fun e w'=>∃u ob',e= .returned u/\
   (w'.os=w.os/\w'.tape=w.tape/\w'.output=w.output/\w.heap.size<=w'.heap.size/\∀k,k<w.heap.size->ob≠some k->w'.heap[k]? =w.heap[k]?)/\
   (∀(b:Nat) arr e,ob=some b->w.heap[b]? =some (.cells arr e (0,0))->∃arr',w'.heap[b]? =some (.cells arr' e (0,0))/\arr'.size=arr.size)/\
   (ob'=ob\/∃b,ob'=some b/\w.heap.size<=b)/\l'.length<=140737488355328/\
   Ai (BU w' ob' fun k=>(I k\/w.heap.size<=k)/\k<w'.heap.size/\ob≠some k/\ob'≠some k) (.AQ t 0 0 0 l'.length) u/\
   CM (BU w' ob' fun k=>(I k\/w.heap.size<=k)/\k<w'.heap.size/\ob≠some k/\ob'≠some k) 0 (.arr 0 t l')
def env (P:Program):Env:=⟨Eh P,Gk P,D7 P,Xi P,DV P⟩
structure Cw (P:Program) (t:TypeId) (i:Info):Prop where
 info:i.known=true->∃ti z d,P.info? t=some ti/\ti.size=i.size/\ti.zero=some z/\(∀x,AT (Ai x) i.zero z.cells.toList)/\
  P.underlying t=some d/\d.isRow=i.agg/\(i.agg=false->i.size=1)
 kind:∀k,i.kind=some k->P.underlying t=some (.int k)
 isb:i.ME=true->P.underlying t=some .bool
 MF:i.IA=true->P.underlying t=some .string
 sl:i.sl=true->P.underlying t=some (.slice i.Bw)/\∃ei z,P.info? i.Bw=some ei/\ei.size=i.elem.size/\ei.bytes=i.Dk/\0<ei.bytes/\ei.zero=some z/\
  ∀x,AT (Ai x) (cells i.elem i.Ba) z.cells.toList
 fields:i.known=true->i.fields≠[]->∃fs:Array Field,P.underlying t=some (.struct fs)/\i.fields.length=fs.size/\
  ∀(f fo n:Nat) (g:Bool),i.fields[f]? =some (fo,n,g)->∃fl d,fs[f]? =some fl/\fl.offset=fo/\(P.info? fl.type).map (·.size)=some n/\0<n/\P.underlying fl.type=some d/\d.isRow=g/\(g=false->n=1)
 arr:∀q,i.arr=some q->∃e ei d,P.underlying t=some (.array q.1 e)/\P.info? e=some ei/\ei.size=q.2.1/\P.underlying e=some d/\d.isRow=q.2.2/\(q.2.2=false->q.2.1=1)/\2<=q.1
 pt:i.pt=true->P.underlying t=some (.slice i.Bw)/\∃ei z,P.info? i.Bw=some ei/\ei.size=1/\ei.zero=some z/\z.cells.size=1
theorem T.beq_eq:∀{a b:T},T.beq a b=true->a=b
 |.u8,b,h|.u32,b,h|.u64,b,h|.i8,b,h|.i64,b,h|.bool,b,h|.str,b,h|.ex,b,h=>by cases b <;> simp_all [T.beq]
 |.rf a,b,h|.sl a,b,h=>by cases b <;> simp_all [T.beq];exact T.beq_eq h
 | .pr a c,b,h=>by cases b <;> simp_all [T.beq];exact⟨T.beq_eq h.1,T.beq_eq h.2⟩
section
variable {P:Program} {w:World}
theorem Pf {t:TypeId} {d:TypeDesc} (hu:P.underlying t=some d):(isAgg t).run P w= .ok d.isRow w:=by
 unfold isAgg;rw[Sem.run_bind,run_underlying hu w];cases d <;> simp
theorem eR {t:TypeId} {d:TypeDesc} {b o:Nat} {v:Value} (hu:P.underlying t=some d) (f:d.isRow=false) (c:w.cell? ⟨b,o,none⟩=some v):
  (Instr.loadAt t (.pointer (some ⟨b,o,none⟩))).run P w= .ok v w:=by
 simp only[Instr.loadAt,Instr.sureAddr,Sem.run_bind,Sem.run_pure,Result.andThen_ok,loadVar,Pf hu,f];simp[load,Sem.run,c]
theorem eS {t:TypeId} {f:TypeInfo} {b o:Nat} {v:Value} (h:P.info? t=some f) (d:v.cells.size=f.size) (ht:w.there b o f.size) (g:∀u∈v.cells.toList,u.oneCell'=true):
  (Instr.storeAt t (.pointer (some ⟨b,o,none⟩)) v).run P w= .ok () (w.setCells b o v.cells.toList):=by
 have:=run_storeCells_cells (P:=P) b o v.cells.toList 0 w (fun j c=>by simpa using (ht j (by simpa [d] using c)).1) (fun j c=>by simpa using (ht j (by simpa [d] using c)).2) g;simp only[Nat.add_zero] at this;simp[Instr.storeAt,Instr.sureAddr,storeVar,sizeOf,typeInfo,h,d,this]
end
theorem Mc {v:Value} (h:v.oneCell'=true):v.cells= #[v]:=by
 cases v <;> simp_all [Value.oneCell',Value.cells]
theorem DP.cells {x:Cx} {av:AV} {v:Value} (h:DP x av v) (b:av.full=true):AT (Ai x) av.cs v.cells.toList:=by
 cases av with
 | one c=>
  rcases h with rfl | h
  ·simp[AV.full] at b
  rw[Mc h.one];exact⟨h,trivial⟩
 | agg cs=>obtain⟨arr,rfl,h⟩:=h;exact h
 | AJ _=>exact h.elim
theorem AT.one {x:Cx}:∀{cs:List AC} {vs:List Value},AT (Ai x) cs vs->∀v∈vs,v.oneCell'=true
 | [],[],_,_,b=>by simp at b
 | _::_,_::_,h,v,b=>by
  rcases List.mem_cons.1 b with rfl | b
  ·exact h.1.one
  exact AT.one h.2 v b
 |[],_::_,h,_,_|_::_,[],h,_,_=>h.elim
theorem eA {x:Cx} {a:AV} {v:Value} (h:DP x a v):BF x a v:=by cases a <;> first | exact h | exact h.elim
theorem JM {x:Cx} {a:AV} {v:Value} (h:BF x a v) (b:∀xs,a≠ .AJ xs):DP x a v:=by cases a <;> first | exact h | exact absurd rfl (b _)
theorem Bx {w0:World} {X:WX} {β:Nat->Option Nat} {s:St} {a:Act} {w:World} (S:BB w0 X β s a w) (o:Operand):BF (cx X w β (AF s.bk)) (ev s.sl o) (a.eval o):=by
 cases o with
 | tmp t=>exact S.GJ t
 | func f=>exact Or.inr rfl
 | global g=>
  simp only[ev]
  split
  ·rename_i q h
   obtain⟨b,us,c,d⟩:=S.G5 g q h;exact Or.inr ⟨g,0,us,rfl,b,c,d⟩
  exact Or.inl rfl
 | const v=>
  show BF _ (N9 v) v
  unfold N9
  split <;> first | exact Or.inr rfl | exact Or.inl rfl
def valOf (g:Bool) (vs:List Value):Value:=
 match g with
 | true=> .agg vs.toArray
 | false=>vs.headD undef
theorem PV {x:Cx} {g:Bool} {cs:List AC} {vs:List Value} (h:AT (Ai x) cs vs) (b:g=false->cs.length=1):
  BF x (C2 (g,cs)) (valOf g vs):=by
 cases g with
 | true=>exact⟨_,rfl,by simpa using h⟩
 | false=>
  have:=b rfl
  match cs,vs,h with
  | [c],[v],h=>exact Or.inr h.1
section
variable {P:Program} {E:Env} {TI:TypeId->Info} {w0:World} {X:WX} {β:Nat->Option Nat} {s:St} {a:Act} {w:World}
theorem BX {o:Oper} {u:Value} {w':World} {N:Act->World->Prop} {Q:Exit->Act->World->Prop} (c:(execOp a.eval o).run P w= .ok (.value u) w') (b:N (a.put o.dst u) w'):o.wp P a w N Q:=by
 unfold Oper.wp;rw[c];exact b
theorem iD {o:Oper} {w':World} {N:Act->World->Prop} {Q:Exit->Act->World->Prop} (c:(execOp a.eval o).run P w= .ok .skip w') (b:N (a.put o.dst undef) w'):o.wp P a w N Q:=by
 unfold Oper.wp;rw[c];exact b
def Sound (P:Program) (E:Env) (TI:TypeId->Info) (o:Oper):Prop:=
 ∀{w0:World} {X:WX} {β:Nat->Option Nat} {s:St} {a:Act} {w:World},BB w0 X β s a w->∀{f:BR},B5 E TI o (BP o) (ev s.sl) (AF s.bk) (fun g=>g=f)->
  ∀{N:Act->World->Prop} {Q:Exit->Act->World->Prop},(∀β' a' w',BB w0 X β' (s.app o.dst f) a' w'->N a' w')->o.wp P a w N Q
theorem ft {o:Oper} {x:Operand} (b:o.op= .move x):Sound P E TI o:=by
 intro w0 X β s a w S f h N Q c;simp only[B5,b] at h;subst h;exact BX (u:=a.eval x) (w':=w) (by simp[execOp,b]) (c _ _ _ (S.val (Bx S x)))
theorem fV {o:Oper} {x:Operand} (b:o.op= .assign x):Sound P E TI o:=by
 intro w0 X β s a w S f h N Q c;simp only[B5,b] at h;subst h;exact BX (u:=a.eval x) (w':=w) (by simp[execOp,b]) (c _ _ _ (S.val (Bx S x)))
theorem fv {o:Oper} {c x y:Operand} (g:o.op= .pick c x y):Sound P E TI o:=by
 intro w0 X β s a w S f h N Q i;simp only[B5,g] at h;have b:=Bx S c
 split at h
 ·rename_i he
  rw[he] at b;have d:a.eval c= .bool true:=by rcases b with b | b <;> simp_all [Ai]
  subst h;exact BX (u:=a.eval x) (w':=w) (by simp[execOp,g,d,asBool]) (i _ _ _ (S.val (Bx S x)))
 ·rename_i he
  rw[he] at b;have d:a.eval c= .bool false:=by rcases b with b | b <;> simp_all [Ai]
  subst h;exact BX (u:=a.eval y) (w':=w) (by simp[execOp,g,d,asBool]) (i _ _ _ (S.val (Bx S y)))
 exact h.elim
theorem BA {x:Cx} {c:AC} {v:Value} (h:BF x (.one c) v) (b:c≠ .BN):Ai x c v:=(show c= .BN\/Ai x c v from h).resolve_left b
theorem fu {o:Oper} {x:Operand} (j:o.op= .nilCheck x):Sound P E TI o:=by
 intro w0 X β s a w S f h N Q k;simp only[B5,j] at h;have d:=Bx S x
 split at h
 ·rename_i id v off he
  split at h
  ·rename_i l
   subst h;have c:=d;rw[he] at d;obtain⟨b,_,i⟩:=(BA d (by simp)).2 l.symm;exact BX (u:=a.eval x) (w':=w) (by simp[execOp,j,i]) (k _ _ _ (S.val c))
  exact h.elim
 ·rename_i g he
  subst h;have c:=d;rw[he] at d;have i:a.eval x= .func (.func g) #[] #[]:=BA d (by simp);exact BX (u:=a.eval x) (w':=w) (by simp[execOp,j,i]) (k _ _ _ (S.val c))
 ·rename_i g qs he
  subst h;have c:=d;rw[he] at d;obtain⟨us,i,_⟩:=BA d (by simp);exact BX (u:=a.eval x) (w':=w) (by simp[execOp,j,i]) (k _ _ _ (S.val c))
 ·rename_i he
  subst h;have c:=d;rw[he] at d;obtain⟨b,m,us,i,_⟩:=BA d (by simp);exact BX (u:=a.eval x) (w':=w) (by simp[execOp,j,i]) (k _ _ _ (S.val c))
 exact h.elim
theorem SK {x:Cx}:∀{l:List AV} {vs:List Value} {ps:List (Nat×Nat)},DG l=some ps->AT (BF x) l vs->AT (Jh x) ps vs
 | [],[],ps,h,_=>by obtain rfl:=Option.some.inj h;trivial
 | .one (.Ae id v 0)::r,u::vs,ps,h,b=>by
  simp only[DG] at h
  split at h
  ·rename_i qs c
   obtain rfl:=Option.some.inj h;exact⟨BA b.1 (by simp),SK c b.2⟩
  cases h
 | .one (.Ae _ _ (_+1))::_,_::_,_,h,_=>by simp[DG] at h
 |[],_::_,_,_,h|_::_,[],_,_,h=>h.elim
 |.agg _::_,_::_,_,h,_|.AJ _::_,_::_,_,h,_|.one .BN::_,_::_,_,h,_|.one (.int _ _)::_,_::_,_,h,_|.one (.bool _)::_,_::_,_,h,_|.one (.fn _)::_,_::_,_,h,_|.one .nil::_,_::_,_,h,_|.one (.sl _ _)::_,_::_,_,h,_|.one (.AQ _ _ _ _ _)::_,_::_,_,h,_|.one (.Co _ _ _ _ _)::_,_::_,_,h,_|.one (.Ca _ _ _ _ _)::_,_::_,_,h,_|.one (.BW _ _ _)::_,_::_,_,h,_|.one (.ub _)::_,_::_,_,h,_|.one (.own _ _ _)::_,_::_,_,h,_|.one (.CU _ _)::_,_::_,_,h,_|.one (.Ch _)::_,_::_,_,h,_|.one (.Cp _)::_,_::_,_,h,_|.one (.CJ _ _)::_,_::_,_,h,_|.one (.str _)::_,_::_,_,h,_=>by simp[DG] at h
theorem OJ {x:Cx} {s:St} {a:Act} (h:∀y:Operand,BF x (ev s.sl y) (a.eval y)):∀l:List Operand,AT (BF x) (l.map (ev s.sl)) (l.map a.eval)
 | []=>trivial
 | y::l=>⟨h y,OJ h l⟩
theorem fp {o:Oper} {fn:Fn} {first cap:Array Operand} (b:o.op= .makeFunc fn first cap):Sound P E TI o:=by
 intro w0 X β s a w S f h N Q i;simp only[B5,b] at h
 split at h
 ·rename_i g ps c d
  subst h;have j:first= #[]:=by simpa using c
  subst j;refine BX (u:= .func (.func g) #[] (cap.map a.eval)) (w':=w) ?_ (i _ _ _ (S.val (Or.inr ⟨_,rfl,?_⟩)))
  ·simp[execOp,b,Instr.makeFunc]
  rw[Array.toList_map];exact SK d (OJ (Bx S) cap.toList)
 exact h.elim
theorem fe {o:Oper} {x:Operand} {i:Nat} (d:o.op= .extract x i):Sound P E TI o:=by
 intro w0 X β s a w S f h N Q j;simp only[B5,d] at h;have g:=Bx S x
 split at h
 ·rename_i xs he
  rw[he] at g;obtain⟨arr,l,b⟩:=g
  split at h
  ·rename_i y m
   subst h;obtain⟨u,hu,k⟩:=b.get i y m;have c:arr[i]? =some u:=by simpa using hu
   exact BX (u:=u) (w':=w) (by simp[execOp,d,l,Instr.extract,c]) (j _ _ _ (S.val (eA k)))
  exact h.elim
 exact h.elim
theorem NH {c:Int} (h:Db c):IntKind.i64.wrap c=c:=IntWalk.i64_in c ⟨h.1,by have:=h.2;omega⟩
theorem Zf {op:BinOp} {k k':IntKind} {x y:Int} {c:AC} {t:TypeId} (n:k=k'\/op= .shl\/op= .shr) (h:arith op k x y (fun d=>d=c)):
  ∃u,(binOp op t (.int k x) (.int k' y)).run P w= .ok u w/\∀Γ,Ai Γ c u:=by
 have g:∀{p q:Int},0<=p->p.tdiv q=p/q:=fun h=>Int.tdiv_eq_ediv_of_nonneg h
 have i:∀{p q:Int},0<=p->p.tmod q=p%q:=fun h=>Int.tmod_eq_emod_of_nonneg h
 by_cases j:op= .shl\/op= .shr
 ·rcases j with rfl | rfl
  ·have h':=h _ rfl;obtain⟨b,rfl⟩:=h';have l:¬y<0:=by have:=b ();omega
   exact⟨_,by simp only[binOp,Op.shift,if_neg l];rfl,fun _=>rfl⟩
  have h':=h _ rfl;obtain⟨b,rfl⟩:=h';have l:¬y<0:=by have:=b ();omega
  exact⟨_,by simp only[binOp,Op.shift,if_neg l];rfl,fun _=>rfl⟩
 have n:k=k':=n.resolve_right j;subst n
 have r:∀f,f≠ .shl->f≠ .shr->binOp f t (.int k x) (.int k y)=(match f with
  | .add | .sub | .mul=>Op.intArith f k x y | .quo | .rem=>Op.intDiv f k x y | .and | .or | .xor | .andNot=>Op.intBits f k x y | _=>Op.intCmp f x y):=by
  intro f b m;cases f <;> simp_all [binOp]
 rw[r op (fun e=>j (.inl e)) (fun e=>j (.inr e))];cases op
 case shl=>exact absurd (.inl rfl) j
 case shr=>exact absurd (.inr rfl) j
 case eql=>obtain rfl:=h _ rfl;exact⟨_,rfl,fun _=>rfl⟩
 case neq=>obtain rfl:=h _ rfl;exact⟨_,rfl,fun _=>rfl⟩
 case lss=>obtain rfl:=h _ rfl;exact⟨_,rfl,fun _=>rfl⟩
 case leq=>obtain rfl:=h _ rfl;exact⟨_,rfl,fun _=>rfl⟩
 case gtr=>obtain rfl:=h _ rfl;exact⟨_,rfl,fun _=>rfl⟩
 case geq=>obtain rfl:=h _ rfl;exact⟨_,rfl,fun _=>rfl⟩
 case and=>obtain rfl:=h _ rfl;exact⟨_,rfl,fun _=>rfl⟩
 case or=>obtain rfl:=h _ rfl;exact⟨_,rfl,fun _=>rfl⟩
 case xor=>obtain rfl:=h _ rfl;exact⟨_,rfl,fun _=>rfl⟩
 case andNot=>obtain rfl:=h _ rfl;exact⟨_,rfl,fun _=>rfl⟩
 case add=>
  cases k
  case i64=>obtain⟨b,rfl⟩:=h _ rfl;exact⟨_,rfl,fun _=>by show _=_;rw[NH (b ())]⟩
  all_goals (obtain rfl:=h _ rfl;exact⟨_,rfl,fun _=>rfl⟩)
 case sub=>
  cases k
  case i64=>obtain⟨b,rfl⟩:=h _ rfl;exact⟨_,rfl,fun _=>by show _=_;rw[NH (b ())]⟩
  all_goals (obtain rfl:=h _ rfl;exact⟨_,rfl,fun _=>rfl⟩)
 case mul=>
  cases k
  case i64=>obtain⟨b,rfl⟩:=h _ rfl;exact⟨_,rfl,fun _=>by show _=_;rw[NH (b ())]⟩
  all_goals (obtain rfl:=h _ rfl;exact⟨_,rfl,fun _=>rfl⟩)
 case quo=>
  cases k
  case i64=>
   obtain⟨b,rfl⟩:=h _ rfl;obtain⟨b,m,o⟩:=b ();exact⟨_,by simp only[Op.intDiv,if_neg (show ¬y=0 by omega)];rfl,fun _=>by show _=_;rw[g b,NH o]⟩
  all_goals
   obtain⟨b,rfl⟩:=h _ rfl;obtain⟨b,m⟩:=b ();exact⟨_,by simp only[Op.intDiv,if_neg (show ¬y=0 by omega)];rfl,fun _=>by show _=_;rw[g b]⟩
 case rem=>
  cases k
  all_goals
   obtain⟨b,rfl⟩:=h _ rfl;obtain⟨b,m⟩:=b ();exact⟨_,by simp only[Op.intDiv,if_neg (show ¬y=0 by omega)];rfl,fun _=>by show _=_;rw[i b]⟩
theorem au (op:BinOp) (t:TypeId) (x y:Operand) (k k':IntKind) (m n:Int):(eqGuard op t x y (.int k m) (.int k' n)).run P w= .ok () w:=by
 unfold eqGuard;cases op <;> simp
end
section
variable {P:Program} {E:Env} {TI:TypeId->Info}
theorem Z4 {w:World} {I:Nat->Prop} {l:List UInt8} {v:Value} {src dst e:TypeId} (g:P.underlying src=some (.slice e)) (he:P.underlying e=some (.int .u8)) (d:P.underlying dst=some .string) (h:rep w I (.sl .u8) l [v]):
  (convert src dst v).run P w= .ok (.string ⟨l.toArray⟩) w:=by
 obtain⟨base,cap,i,o,p,c⟩:=h;simp only[List.cons.injEq,and_true] at i;subst i;rcases base with _ | k
 ·have:l=[]:=c.resolve_right (fun⟨_,_,e,_⟩=>by cases e);subst this;exact run_convert_bytes_nil w src e g he _ _ dst d
 refine run_convert_bytes_back w src dst e k cap l g he d fun j f=>?_
 rcases c with rfl |⟨b,off,e,_,m⟩
 ·simp at f
 obtain rfl:=Option.some.inj e;obtain⟨us,hu,n⟩:=m j _ (List.getElem?_eq_getElem f);have hu:us=[Value.int .u8 (l[j]).toNat]:=hu;subst hu;have:=n 0 _ rfl;simp only[T.size,Nat.mul_one,Nat.add_zero] at this;have e1:(⟨b,off,none⟩:Addr).add j=⟨b,off+j,none⟩:=by unfold Addr.add;split <;> simp_all
 rw[e1];exact this
theorem fW (H:∀t,Cw P t (TI t)) {o:Oper} {op:BinOp} {t M:TypeId} {x y:Operand} (A:o.op= .binOp op t x y M):Sound P E TI o:=by
 intro w0 X β s a w S f h N Q B;simp only[B5,A] at h;have q:=Bx S x;have r:=Bx S y
 split at h
 ·rename_i k m k' n he j
  rw[he] at q;rw[j] at r;have g:a.eval x= .int k m:=BA q (by simp);have i:a.eval y= .int k' n:=BA r (by simp)
  split at h
  ·rename_i K
   obtain⟨c,D⟩:∃c,f=⟨.one c,[],[]⟩/\arith op k m n (fun d=>d=c):=by
    cases op <;> cases k <;> simp only[arith] at h ⊢ <;> first
     | (obtain⟨p,C⟩:=h _ rfl;exact⟨_,C.symm,fun _ e=>⟨by first | exact p | (rw[e];exact p),by rw[e]⟩⟩)
     | exact⟨_,(h _ rfl).symm,fun _ e=>by rw[e]⟩
   obtain⟨rfl,D⟩:=D;obtain⟨u,hu,G⟩:=Zf (P:=P) (w:=w) (t:=t) K D;refine BX (u:=u) (w':=w) ?_ (B _ _ _ (S.val (Or.inr (G _))));simp only[execOp,A,g,i,Sem.run_bind,au,Result.andThen_ok,hu,Sem.run_pure]
  exact h.elim
 ·rename_i m n he j
  rw[he] at q;rw[j] at r;have g:a.eval x= .bool m:=BA q (by simp);have i:a.eval y= .bool n:=BA r (by simp);obtain⟨p,h⟩:=h;have hu:=(H t).isb p
  have F:(Op.equal t (.bool m) (.bool n)).run P w= .ok (m==n) w:=by
   have J:∀d,(Op.equalIn (d+1) t (.bool m) (.bool n)).run P w= .ok (m==n) w:=fun d=>by
    unfold Op.equalIn;simp[run_underlying hu]
   exact J 9999
  have z:∀op:BinOp,(eqGuard op t x y (.bool m) (.bool n)).run P w= .ok () w:=by
   intro op;unfold eqGuard;cases op <;> simp
  cases op <;> simp only at h
  all_goals first
   | exact h.elim
   | (obtain rfl:=h _ rfl
      refine BX (w':=w) ?_ (B _ _ _ (S.val (Or.inr rfl)));simp[execOp,A,g,i,Sem.run_bind,z,binOp,F,bne])
 ·rename_i ty l he j
  rw[he] at q;rw[j] at r;have G:=BA q (by simp);have i:a.eval y= .slice none 0 0:=BA r (by simp);obtain⟨p,h⟩:=h;obtain⟨base,cap,L,_,_,v⟩:=G;have g:a.eval x= .slice base l.length cap:=by simpa using L
  obtain⟨hu,_⟩:=(H t).sl p;have F:(Op.equal t (.slice base l.length cap) (.slice none 0 0)).run P w= .ok base.isNone w:=run_equal_slice_nil w t _ base l.length cap hu
  have z:∀op:BinOp,(eqGuard op t x y (.slice base l.length cap) (.slice none 0 0)).run P w= .ok () w:=by
   intro op;unfold eqGuard;cases op <;> simp
  cases op <;> simp only at h
  all_goals first
   | exact h.elim
   | (obtain rfl:=h _ rfl
      refine BX (u:= .bool base.isNone) (w':=w) ?_ (B _ _ _ (S.val (Or.inr ⟨_,rfl,fun I=>?_⟩)))
      ·simp[execOp,A,g,i,Sem.run_bind,z,binOp,F]
      rcases v with rfl |⟨b,off,rfl,_⟩
      ·rfl
      simp at I)
 ·rename_i m n he j
  rw[he] at q;rw[j] at r;have g:a.eval x= .string m:=BA q (by simp);have i:a.eval y= .string n:=BA r (by simp)
  have z:∀op:BinOp,(eqGuard op t x y (.string m) (.string n)).run P w= .ok () w:=by
   intro op;unfold eqGuard;cases op <;> simp
  cases op <;> simp only at h
  all_goals first
   | exact h.elim
   | (obtain rfl:=h _ rfl
      refine BX (w':=w) ?_ (B _ _ _ (S.val (Or.inr rfl)));simp[execOp,A,g,i,Sem.run_bind,z,binOp,Op.stringOp,bne])
   | (obtain⟨p,h⟩:=h
      obtain rfl:=h _ rfl;have p:=p ();have C:¬(((m.size+n.size:Nat):Int)>IntKind.i64.max):=by have e:IntKind.i64.max=9223372036854775807:=rfl;rw[e];omega
      refine BX (w':=w) ?_ (B _ _ _ (S.val (Or.inr rfl)));simp only[execOp,A,g,i,Sem.run_bind,z,binOp,Op.stringOp,if_neg C];rfl)
 exact h.elim
theorem fy {o:Oper} {op:UnOp} {t:TypeId} {x:Operand} (g:o.op= .unOp op t x):Sound P E TI o:=by
 intro w0 X β s a w S f h N Q j;simp only[B5,g] at h;have d:=Bx S x
 split at h
 ·rename_i b he
  rw[he] at d;have c:a.eval x= .bool b:=BA d (by simp);obtain rfl:=(h _ rfl);exact BX (u:= .bool (!b)) (w':=w) (by simp[execOp,g,c,Op.unary]) (j _ _ _ (S.val (Or.inr rfl)))
 ·rename_i k n he
  rw[he] at d;have c:a.eval x= .int k n:=BA d (by simp);obtain rfl:=h _ rfl;have i:(Op.intArith .sub k 0 n).run P w= .ok (.int k (k.wrap (0-n))) w:=rfl;exact BX (u:= .int k (k.wrap (0-n))) (w':=w) (by simp[execOp,g,c,Op.unary,i]) (j _ _ _ (S.val (Or.inr rfl)))
 exact h.elim
theorem fc (b:∀t,Cw P t (TI t)) {o:Oper} {src dst:TypeId} {x:Operand} (i:o.op= .convert src dst x):Sound P E TI o:=by
 intro w0 X β s a w S f h N Q v;simp only[B5,i] at h;obtain⟨B,h⟩:=h;have g:=Bx S x
 split at h
 ·rename_i k k' n y he
  rw[he] at g;have r:a.eval x= .int k' n:=BA g (by simp);obtain rfl:=h _ rfl;obtain⟨_,_,d,_,_,_,_,hu,_⟩:=(b src).info B;have j:=(b dst).kind k y;refine BX (u:= .int k (k.wrap n)) (w':=w) ?_ (v _ _ _ (S.val (Or.inr rfl)));simp[execOp,i,r,convert,run_underlying hu,run_underlying j,Conv.intToInt]
 ·rename_i c y he
  obtain⟨g1,g2,z,l,A,h⟩:=h;obtain rfl:=A ();obtain rfl:=h _ rfl;rw[he] at g;have C:=BA g (by simp);have q:=((b src).sl g2).1;have p:=(b _).kind _ z;have m:=(b dst).MF g1;refine BX (u:= .string ⟨l.toArray⟩) (w':=w) ?_ (v _ _ _ (S.val (Or.inr rfl)));have:=Z4 q p m C;simp only[cx] at this;simp[execOp,i,this]
 exact h.elim
theorem da {w:World} {e:TypeId} {f:TypeInfo} {d:TypeDesc} {g:Bool} {n b:Nat} {arr:Array Value} (h:P.info? e=some f) (o:f.size=n) (i:P.underlying e=some d) (j:d.isRow=g) (k:g=false->n=1) (c:((arr.toList.drop b).take n).length=n):
  (part e arr b).run P w= .ok (valOf g ((arr.toList.drop b).take n)) w:=by
 unfold part;rw[Sem.run_bind,Pf i,Result.andThen_ok,j];cases g with
 | true=>
  have e1:arr.extract b (b+n)=((arr.toList.drop b).take n).toArray:=by
   apply Array.ext';simp only[Array.toList_extract,List.extract_eq_take_drop];rw[show b+n-b=n by omega]
  simp[sizeOf,typeInfo,h,o,e1,valOf]
 | false=>
  have:=k rfl;subst this;have l:arr.toList.drop b≠[]:=by intro e;simp[e] at c
  obtain⟨u,r,e⟩:=List.exists_cons_of_ne_nil l
  have m:arr[b]? =some u:=by
   have:=congrArg (·[0]?) e;simpa using this
  simp[m,e,valOf]
theorem fh (I:∀t,Cw P t (TI t)) {o:Oper} {t:TypeId} {x i:Operand} (C:o.op= .index t x i):Sound P E TI o:=by
 intro w0 X β s a w S f h N Q H;simp only[B5,C] at h;cases D:(TI t).arr with
 | some q=>
  simp only[D] at h;have m:=Bx S x;have p:=Bx S i
  split at h
  ·rename_i cs k n he g
   rw[he] at m;rw[g] at p;obtain⟨arr,V,l⟩:=m;have j:a.eval i= .int k n:=BA p (by simp);obtain⟨T,h⟩:=h;obtain⟨A,U⟩:=T ();obtain⟨e,Y,d,hu,r,K,M,O,G,_⟩:=(I t).arr q D
   split at h
   ·rename_i J
    subst h;have c:AT (Ai (cx X w β (AF s.bk))) (EH cs (n.toNat*q.2.1) q.2.1) ((arr.toList.drop (n.toNat*q.2.1)).take q.2.1):=by rw[IP];exact (l.drop _).take _
    have y:((arr.toList.drop (n.toNat*q.2.1)).take q.2.1).length=q.2.1:=by rw[<-c.length,J]
    refine BX (u:=valOf q.2.2 ((arr.toList.drop (n.toNat*q.2.1)).take q.2.1)) (w':=w) ?_ (H _ _ _ (S.val (PV c (fun e=>by rw[J];exact G e))));have B:n<(q.1:Int):=by omega
    have:=da (w:=w) r K M O G y;simp[execOp,C,V,j,Instr.index,asIntOf,run_underlying hu,A,B,sizeOf,typeInfo,r,K,this]
   exact h.elim
  exact h.elim
 | none=>
 simp only[D] at h;obtain⟨R,h⟩:=h;have m:=Bx S x;have p:=Bx S i
 split at h
 ·rename_i z k n he g
  rw[he] at m;rw[g] at p;have F:a.eval x= .string z:=BA m (by simp);have j:a.eval i= .int k n:=BA p (by simp);obtain⟨b,v,h⟩:=h;obtain⟨v,L⟩:=v ();obtain rfl:=h _ ⟨rfl⟩
  have r:z[n.toNat]? =some b:=by
   obtain⟨q,e⟩:=Array.getElem?_eq_some_iff.1 L;have W:n.toNat<z.size:=q;rw[getElem?_pos z n.toNat W];exact congrArg some e
  refine BX (u:= .int .u8 b.toNat) (w':=w) ?_ (H _ _ _ (S.val (Or.inr rfl)));simp[execOp,C,F,j,Instr.index,asIntOf,run_underlying ((I t).MF R),v,r]
 exact h.elim
theorem ff (L:∀t,Cw P t (TI t)) {o:Oper} {t:TypeId} {x:Operand} {i:Nat} (B:o.op= .field t x i):Sound P E TI o:=by
 intro w0 X β s a w S f h N Q K;simp only[B5,B] at h;obtain⟨M,h⟩:=h;have C:=Bx S x
 split at h
 ·rename_i b n g cs z he
  split at h
  ·rename_i A
   subst h;rw[he] at C;obtain⟨arr,R,k⟩:=C;obtain⟨U,hu,hlen,l⟩:=(L t).fields M (by intro e;simp[e] at z);obtain⟨q,d,D,F,v,V,G,H,y⟩:=l i b n g z;have c:AT (Ai (cx X w β (AF s.bk))) (EH cs b n) ((arr.toList.drop b).take n):=by rw[IP];exact (k.drop b).take n
   have m:((arr.toList.drop b).take n).length=n:=by rw[<-c.length,A]
   refine BX (u:=valOf g ((arr.toList.drop b).take n)) (w':=w) ?_
    (K _ _ _ (S.val (PV c (fun e=>by rw[A];exact y e))))
   have j:(part q.type arr b).run P w= .ok (valOf g ((arr.toList.drop b).take n)) w:=by
    unfold part;rw[Sem.run_bind,Pf G,Result.andThen_ok,H];cases g with
    | true=>
     cases p:P.info? q.type with
     | none=>simp[p] at v
     | some T=>
      have O:T.size=n:=by simpa [p] using v
      have e1:arr.extract b (b+n)=((arr.toList.drop b).take n).toArray:=by
       apply Array.ext';simp only[Array.toList_extract,List.extract_eq_take_drop];rw[show b+n-b=n by omega]
      simp[sizeOf,typeInfo,p,O,e1,valOf]
    | false=>
     have:=y rfl;subst this;have I:arr.toList.drop b≠[]:=by intro e;simp[e] at m
     obtain⟨u,r,e⟩:=List.exists_cons_of_ne_nil I
     have J:arr[b]? =some u:=by
      have:=congrArg (·[0]?) e;simpa using this
     simp[J,e,valOf]
   simp[execOp,B,R,Instr.field,run_underlying hu,D,asAgg,F,j]
  exact h.elim
 exact h.elim
theorem a7 {c:Field} {b off n:Nat} {w:World} (f:(P.info? c.type).map (·.size)=some n) (h:0<n):(fieldPlace ⟨b,off,none⟩ c).run P w= .ok ⟨b,off+c.offset,none⟩ w:=by
 cases d:P.info? c.type with
 | none=>simp[d] at f
 | some g=>
  have i:g.size=n:=by simpa [d] using f
  have:¬g.size=0:=by omega
  simp[fieldPlace,sizeOf,typeInfo,d,this,Addr.add_mid]
theorem fg (J:∀t,Cw P t (TI t)) {o:Oper} {t:TypeId} {x:Operand} {i:Nat} (H:o.op= .fieldAddr t x i):Sound P E TI o:=by
 intro w0 X β s a w S f h N Q D;simp only[B5,H] at h;obtain⟨K,h⟩:=h;have m:=Bx S x
 have go:∀(c n:Nat) (g:Bool) (b off:Nat),(TI t).fields[i]? =some (c,n,g)->a.eval x= .pointer (some ⟨b,off,none⟩)->(execOp a.eval o).run P w= .ok (.value (.pointer (some ⟨b,off+c,none⟩))) w:=by
  intro c n g b off l z;obtain⟨M,hu,hlen,G⟩:=(J t).fields K (by intro e;simp[e] at l);obtain⟨L,d,A,B,C,I,O,R,T⟩:=G i c n g l;subst B;simp[execOp,H,z,Instr.fieldAt,run_underlying hu,A,Instr.sureAddr,a7 C I]
 split at h
 ·rename_i c n g id v off l he
  split at h
  ·rename_i z
   subst h;rw[he] at m;have r:=BA m (by simp);obtain⟨b,F,p⟩:=r.2 z.symm;exact BX (go c n g b off l p) (D _ _ _ (S.val (Or.inr ⟨⟨rfl,r.1.2⟩,fun _=>⟨b,F,rfl⟩⟩)))
  exact h.elim
 ·rename_i c n g u y off l he
  subst h;rw[he] at m;obtain⟨b,q,us,p,A,B,C⟩:=BA m (by simp);exact BX (go c n g b (q+off) l p) (D _ _ _ (S.val (Or.inr ⟨b,q,us,by rw[Nat.add_assoc],A,B,C⟩)))
 ·rename_i c n g u id v j k l he
  split at h
  ·rename_i z
   subst h;rw[he] at m;have r:=BA m (by simp);obtain⟨b,F,p⟩:=r.2 z.symm;exact BX (go c n g b _ l p) (D _ _ _ (S.val (Or.inr ⟨⟨rfl,r.1.2⟩,fun _=>⟨b,F,by rw[Nat.add_assoc]⟩⟩)))
  exact h.elim
 exact h.elim
end
section
variable {P:Program} {E:Env} {TI:TypeId->Info}
theorem Mm {w:World} {b off n:Nat} {arr:Array Value} {e:TypeId} (h:w.heap[b]? =some (.cells arr e (0,0))):w.rangeAt b off ((arr.toList.drop off).take n):=by
 intro j v c
 have:arr[off+j]? =some v:=by
  rw[List.getElem?_take] at c
  split at c
  ·simpa using c
  cases c
 simp[World.cell?,h,this]
theorem Vd {w:World} {b o off n:Nat} {us:List Value} (h:w.rangeAt b o us):w.rangeAt b (o+off) ((us.drop off).take n):=by
 intro j v c;rw[Nat.add_assoc];refine h (off+j) v ?_;rw[List.getElem?_take] at c
 split at c
 ·simpa using c
 cases c
theorem run_load {t:TypeId} {i:Info} {w:World} {b o:Nat} {us:List Value} (p:Cw P t i) (q:i.known=true) (j:w.rangeAt b o us) (f:us.length=i.size):
  (Instr.loadAt t (.pointer (some ⟨b,o,none⟩))).run P w= .ok (valOf i.agg us) w:=by
 obtain⟨x,z,d,k,l,r,v,g,h,m⟩:=p.info q;cases c:i.agg with
 | true=>exact run_loadAt_mid w b o t us d j g (h.trans c) (by simp[k,l,f])
 | false=>
  have n:=m c;rw[n] at f
  match us,f with
  | [u],_=>exact eR g (h.trans c) (show w.cell? ⟨b,o,none⟩=some u by simpa using j 0 u (by simp))
theorem fm (J:∀t,Cw P t (TI t)) {o:Oper} {t:TypeId} {x:Operand} (M:o.op= .load t x):Sound P E TI o:=by
 intro w0 X β s a w S f h N Q R;simp only[B5,M,KD] at h;obtain⟨L,h⟩:=h;have j:=Bx S x;have F:(TI t).agg=false->(TI t).size=1:=by obtain⟨_,_,_,_,_,_,_,_,_,O⟩:=(J t).info L;exact O
 have go:∀(b q:Nat) (cs:List AC) (us:List Value),a.eval x= .pointer (some ⟨b,q,none⟩)->w.rangeAt b q us->AT (Ai (cx X w β (AF s.bk))) cs us->cs.length=(TI t).size->
   ∀rd,f=⟨C2 ((TI t).agg,cs),[],rd⟩->o.wp P a w N Q:=by
  intro b q cs us d m g z rd V;subst V;have:=run_load (J t) L m (g.length ▸ z);exact BX (u:=valOf (TI t).agg us) (w':=w) (by simp[execOp,M,d,this]) (R _ _ _ (S.val (PV g (fun e=>by rw[z];exact F e))))
 split at h
 ·rename_i id v off he
  rw[he] at j;have m:=BA j (by simp)
  split at h
  ·rename_i Y cs C
   split at h
   ·rename_i D
    obtain⟨b,arr,e,r,A,B⟩:=S.blocks id _ C;have I:v=AK (AF s.bk) id:=by unfold AK;rw[C];exact D.1.symm
    obtain⟨b',c,d⟩:=m.2 I;obtain rfl:b=b':=Option.some.inj (r.symm.trans c);refine go b off _ _ d (Mm A (n:=(TI t).size)) ?_ D.2 _ h.symm;rw[IP];exact (B.drop off).take _
   exact h.elim
  exact h.elim
 ·rename_i u y off he
  rw[he] at j;obtain⟨b,q,us,d,r,A,B⟩:=BA j (by simp)
  split at h
  ·rename_i z
   refine go b (q+off) _ _ d (Vd B (n:=(TI t).size)) ?_ z _ h.symm;rw[IP];exact (((EF _ u y us).1 A).drop off).take _
  exact h.elim
 ·rename_i p he
  rw[he] at j;obtain⟨b,q,u,d,Z,G,m⟩:=BA j (by simp);obtain⟨K,h⟩:=h;exact go b q [.Ae p.1 p.2.1 p.2.2] [u] d m ⟨G,trivial⟩ (by rw[F K];rfl) [] (by rw[<-h,K];rfl)
 ·rename_i u id v i k he
  rw[he] at j;have m:=BA j (by simp)
  split at h
  ·rename_i Y u' l C
   split at h
   ·rename_i D
    obtain rfl:=T.beq_eq D.2;obtain⟨y,W,h⟩:=h;have I:v=AK (AF s.bk) id:=by unfold AK;rw[C];exact D.1.symm
    obtain⟨b',c,d⟩:=m.2 I;have H:=S.blocks id _ C;rcases H with⟨r,A⟩ |⟨b,arr,e,r,A,B⟩
    ·exact absurd (r.symm.trans c) (by simp)
    obtain rfl:b=b':=Option.some.inj (r.symm.trans c);obtain⟨us,hu,U⟩:=B i y (W ())
    split at h
    ·rename_i z
     refine go b (i*u.size+k) _ _ d (Vd U (n:=(TI t).size)) ?_ z _ h.symm;rw[IP];exact (((EF _ u y us).1 hu).drop k).take _
    exact h.elim
   exact h.elim
  exact h.elim
 exact h.elim
theorem BB.new {w0:World} {X:WX} {β:Nat->Option Nat} {s:St} {a:Act} {w:World} (S:BB w0 X β s a w) {dst d:Nat} (A:dst=d) {av:AV} {Au:AG} {rd:List Nat} {u:Value} {w':World} {arr:Array Value} {e:TypeId}
  (hw:w'.heap=w.heap.push (.cells arr e (0,0))) (l:w'.os=w.os) (f:w'.tape=w.tape) (g:w'.output=w.output)
  (m:Au.AK=AK (AF s.bk) d+1) (q:Au.short)
  (x:∀y:Cx,(cx X w β (AF s.bk)).le y->y.w=w'->y.β d=some w.heap.size->CM y d Au)
  (D:∀y:Cx,(cx X w β (AF s.bk)).le y->y.w=w'->y.β d=some w.heap.size->y.cv d=AK (AF s.bk) d+1->BF y av u):
  ∃β',BB w0 X β' (s.app (some dst) ⟨av,[(d,Au)],rd⟩) (a.put (some dst) u) w':=by
 subst A;have c:∀b,b<w.heap.size->w'.heap[b]? =w.heap[b]? :=fun b n=>by rw[hw,Array.getElem?_push,if_neg (by omega)]
 have p:∀b o,w.heap[b]? =some o->b<w.heap.size:=fun b o h=>by
  rcases Nat.lt_or_ge b w.heap.size with h' | h'
  ·exact h'
  simp[Array.getElem?_eq_none h'] at h
 by_cases j:dst<s.bk.length
 ·refine⟨fun k=>if k=dst then some w.heap.size else β k,S.write j q (fun k B=>by simp[B]) (by omega) (fun e=>absurd e (by omega)) (fun b n _=>c b n) (by rw[hw];simp)
   (fun b i e' r=>⟨i,(c b (p b _ r)).trans r,rfl⟩) l f g (fun _ b n=> .inr ?_) (fun hle=>?_) (fun hle=>?_)⟩
  ·simp at n;omega
  ·exact x _ hle rfl (by show (if dst=dst then _ else _)=_;simp)
  exact D _ hle rfl (by show (if dst=dst then _ else _)=_;simp) (by show AK _ dst=_;rw[ET _ _ _ j,if_pos rfl,m])
 have t:s.bk.length<=dst:=by omega
 have v:s.sl.length<=dst:=by have:=S.len;have:=S.GZ;omega
 refine⟨β,?_⟩
 have C:s.app (some dst) ⟨av,[(dst,Au)],rd⟩=s.app none ⟨.one .BN,[],rd⟩:=by
  simp[St.app,Er,Ci,GF _ _ _ t,GF _ _ _ v]
 have z:a.put (some dst) u=a.put none undef:=by
  have:a.tmps.size<=dst:=by have:=S.len;omega
  simp[Act.put,Array.setIfInBounds_eq_of_size_le this]
 rw[C,z];exact S.ext c (by rw[hw];simp) l f g (Hi _ _)
theorem V8 {w:World} (t:TypeId) (v:Value):(newVar t v).run P w= .ok ⟨w.heap.size,0,none⟩ {w with heap:=w.heap.push (.cells v.cells t (0,0))}:=by
 simp[newVar,newRow,newObj,Sem.run]
theorem fU (r:∀t,Cw P t (TI t)) {o:Oper} {t:TypeId} (k:o.op= .alloc t) (v:o.dst≠none):Sound P E TI o:=by
 intro w0 X β s a w S f h N Q j;simp only[B5,k] at h;obtain⟨x,h⟩:=h;subst h;obtain⟨G,z,d,m,A,n,p,B,C,D⟩:=(r t).info x
 have b:(execOp a.eval o).run P w= .ok (.value (.pointer (some ⟨w.heap.size,0,none⟩))) {w with heap:=w.heap.push (.cells z.cells t (0,0))}:=by
  simp[execOp,k,Instr.alloc,zeroValue,typeInfo,m,n,V8]
 obtain⟨q,i⟩:=Option.ne_none_iff_exists'.1 v;have g:BP o=q:=by simp[BP,i]
 rw[g,i] at j
 obtain⟨β',l⟩:=S.new (dst:=q) (d:=q) rfl (av:= .one (.Ae q (AK (AF s.bk) q+1) 0)) (Au:= .var (AK (AF s.bk) q+1) (TI t).zero) (rd:=[q]) (u:= .pointer (some ⟨w.heap.size,0,none⟩))
  (w':={w with heap:=w.heap.push (.cells z.cells t (0,0))}) (arr:=z.cells) (e:=t) rfl rfl rfl rfl rfl trivial
  (fun y _ hw c=>⟨_,z.cells,t,c,by rw[hw];simp,p y⟩) (fun y _ _ c F=>Or.inr ⟨⟨rfl,by omega⟩,fun _=>⟨_,c,rfl⟩⟩)
 exact BX b (by rw[i];exact j _ _ _ l)
theorem fX {o:Oper} {t:TypeId} {x:Operand} (r:o.op= .box t x) (z:o.dst≠none):Sound P E TI o:=by
 intro w0 X β s a w S f h N Q n;simp only[B5,r] at h;have A:=Bx S x
 have b:(ev s.sl x).full=true/\f=⟨.one (.Ae (BP o) (AK (AF s.bk) (BP o)+1) 0),[(BP o,.var (AK (AF s.bk) (BP o)+1) (ev s.sl x).cs)],[BP o]⟩:=by
  split at h
  ·exact h.elim
  ·exact h.elim
  rename_i B C
  refine⟨?_,h.symm⟩;cases D:ev s.sl x with
  | one c=>cases c <;> simp_all [AV.full]
  | agg cs=>rfl
  | AJ xs=>simp_all
 obtain⟨k,rfl⟩:=b;have l:∀xs,ev s.sl x≠ .AJ xs:=fun xs e=>by rw[e] at k;simp[AV.full] at k
 have p:=(JM A l).cells k
 have g:(execOp a.eval o).run P w= .ok (.value (.pointer (some ⟨w.heap.size,0,none⟩))) {w with heap:=w.heap.push (.cells (a.eval x).cells t (0,0))}:=by
  simp[execOp,r,Instr.box,V8]
 obtain⟨q,m⟩:=Option.ne_none_iff_exists'.1 z;have j:BP o=q:=by simp[BP,m]
 rw[j,m] at n
 obtain⟨β',v⟩:=S.new (dst:=q) (d:=q) rfl (av:= .one (.Ae q (AK (AF s.bk) q+1) 0)) (Au:= .var (AK (AF s.bk) q+1) (ev s.sl x).cs) (rd:=[q]) (u:= .pointer (some ⟨w.heap.size,0,none⟩))
  (w':={w with heap:=w.heap.push (.cells (a.eval x).cells t (0,0))}) (arr:=(a.eval x).cells) (e:=t) rfl rfl rfl rfl rfl trivial
  (fun y hle hw i=>⟨_,_,t,i,by rw[hw];simp,p.mono fun _ _=>Ai.mono hle⟩) (fun y _ _ i p=>Or.inr ⟨⟨rfl,by omega⟩,fun _=>⟨_,i,rfl⟩⟩)
 exact BX g (by rw[m];exact n _ _ _ v)
end
end Go.Abs
