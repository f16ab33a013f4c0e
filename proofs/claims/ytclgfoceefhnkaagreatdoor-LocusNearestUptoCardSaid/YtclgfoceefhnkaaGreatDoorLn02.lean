/- Part 3 of a proof. Conditions: each theorem's own. -/
import Derived.Laws.Cover3
import Derived.Laws.IdiomStrings
import Derived.Laws.Tables
import Derived.Great.BuildSlice
import Derived.DataShut
import Derived.Test.YtclgfoceefhnkaaGreatDoorLn01
set_option linter.all false
set_option maxHeartbeats 80000000
set_option maxRecDepth 20000
namespace Go.Abs
open Go.RowKit
def FX {α:Type} (f:Nat->α) (i:Nat) (x:α) (k:Nat):α:=if k=i then x else f k
theorem H3 {α:Type} {f:Nat->α} {i:Nat} {x:α}:FX f i x i=x:=if_pos rfl
theorem JX {α:Type} {f:Nat->α} {i k:Nat} {x:α} (h:k≠i):FX f i x k=f k:=if_neg h
theorem NG:∀(l:List AV) (d:Nat) (v:AV) (i:Nat),nth (C2 l d v) i=if i=d/\d<l.length then v else nth l i
 |[],_,_,_|_::_,0,_,0|_::_,0,_,_+1|_::_,_+1,_,0=>by simp[C2,nth]
 | _::l,d+1,v,i+1=>by simp[C2,nth,NG l d v i]
theorem LU:∀(l:List (Option Af)) (d:Nat) (v:Option Af),d<l.length->AN (C2 l d v)=FX (AN l) d v
 | _::_,0,_,_=>funext fun i=>by cases i <;> simp[C2,AN,FX]
 | _::l,d+1,v,h=>funext fun i=>by cases i <;> simp[C2,AN,FX,LU l d v (Nat.lt_of_succ_lt_succ h)]
theorem Gc {α:Type}:∀(l:List α) (d:Nat) (v:α),(C2 l d v).length=l.length
 |[],_,_|_::_,0,_=>rfl
 | _::l,d+1,v=>by simp[C2,Gc l d v]
theorem KA:∀(l:List (Option Af)) (i:Nat),l.length<=i->AN l i=none
 | [],_,_=>rfl
 | _::_,0,h=>by simp at h
 | _::l,i+1,h=>by simpa [AN] using KA l i (by simpa using h)
theorem JT {α:Type}:∀(l:List α) (d:Nat) (v:α),l.length<=d->C2 l d v=l
 | [],_,_,_=>rfl
 | _::_,0,_,h=>by simp at h
 | a::l,d+1,v,h=>by simp[C2,JT l d v (by simpa using h)]
def Af.short:Af->Prop
 | .arr _ _ l=>l.length<=140737488355328
 | _=>True
def live (bk:Nat->Option Af) (id:Nat):Prop:=∃b,bk id=some b/\b.live=true
structure Dq (w w':World) (o:Option Nat):Prop where
 os:w'.os=w.os
 tape:w'.tape=w.tape
 output:w'.output=w.output
 size:w.heap.size<=w'.heap.size
 get:∀b,b<w.heap.size->o≠some b->w'.heap[b]? =w.heap[b]?
 X6:∀b arr e,o=some b->w.heap[b]? =some (.cells arr e (0,0))->∃arr',w'.heap[b]? =some (.cells arr' e (0,0))/\arr'.size=arr.size
structure WX where
 A:Nat->Prop
 ob:Option Nat
def cx (X:WX) (w:World) (β:Nat->Option Nat) (bk:Nat->Option Af):Cx:=
 ⟨w,β,BE bk,fun b=>(b<w.heap.size/\∀id,live bk id->β id≠some b)/\X.A b,fun b=>b<w.heap.size/\∀id,live bk id->β id≠some b⟩
structure Bl (w0:World) (X:WX) (β:Nat->Option Nat) (s:St) (a:Act) (w:World):Prop where
 defers:a.defers=[]
 len:s.sl.length=a.tmps.size
 PG:s.bk.length=a.tmps.size
 Hz:∀i,CX (cx X w β (AN s.bk)) (nth s.sl i) (a.tmps.getD i undef)
 blocks:∀id b,AN s.bk id=some b->C4 (cx X w β (AN s.bk)) id b/\b.short
 inj:∀id id' b,live (AN s.bk) id->live (AN s.bk) id'->β id=some b->β id'=some b->id=id'
 own:∀id b,live (AN s.bk) id->β id=some b->w0.heap.size<=b\/(X.ob=some b/\id=0)
 Fo:Dq w0 w X.ob
 fresh:(∀b,w0.heap.size<=b->X.A b)/\It w0 fun b=>(X.A b/\X.ob≠some b)/\b<w0.heap.size
 Jy:live (AN s.bk) 0->BE (AN s.bk) 0=0->β 0=X.ob
section
variable {w0 w w':World} {X:WX} {β:Nat->Option Nat} {s:St} {a:Act} {o:Option Nat} {bk:Nat->Option Af}
theorem Dq.rfl:Dq w w o:=⟨by rfl,by rfl,by rfl,Nat.le_refl _,fun _ _ _=>by rfl,fun _ arr _ _ h=>⟨arr,h,by rfl⟩⟩
theorem Dq.all (F:Dq w w' o) {b:Nat} {arr:Array Value} {e:TypeId} (h:w.heap[b]? =some (.cells arr e (0,0))):∃c,w'.heap[b]? =some (.cells c e (0,0))/\c.size=arr.size:=by
 by_cases hb:o=some b
 ·exact F.X6 b arr e hb h
 exact⟨arr,(F.get b (GA h) hb).trans h,by rfl⟩
theorem Bl.at (S:Bl w0 X β s a w) {id:Nat} (h:live (AN s.bk) id) {b:Nat} (hb:β id=some b):∃arr e,w.heap[b]? =some (.cells arr e (0,0)):=by
 obtain⟨By,f,g⟩:=h;have r:=(S.blocks id By f).1;cases By with
 | dead _=>cases g
 | var _ _=>obtain⟨b',arr,e,c,d,_⟩:=r;cases hb.symm.trans c;exact⟨arr,e,d⟩
 | arr _ _ _=>
  rcases r with⟨c,_⟩ |⟨b',arr,e,c,d,_⟩
  ·cases hb.symm.trans c
  cases hb.symm.trans c;exact⟨arr,e,d⟩
theorem Bl.lt (S:Bl w0 X β s a w) {id:Nat} (h:live (AN s.bk) id) {b:Nat} (hb:β id=some b):b<w.heap.size:=let ⟨_,_,h⟩:=S.at h hb;GA h
theorem Bl.Xc (S:Bl w0 X β s a w):It w (cx X w β (AN s.bk)).I:=
 It.mono (fun b hb=>⟨⟨⟨Nat.lt_of_lt_of_le hb.2 S.Fo.size,fun id c e=>(S.own id b c e).elim (fun q=>by have:=hb.2;omega) fun q=>hb.1.2 q.1⟩,hb.1.1⟩,S.Fo.get b hb.2 hb.1.2⟩) S.fresh.2
theorem Bl.step (S:Bl w0 X β s a w) (F:Dq w w' o) {id:Nat} (j:o=none\/o=β id/\live (AN s.bk) id):Dq w0 w' X.ob:=by
 refine⟨F.os.trans S.Fo.os,F.tape.trans S.Fo.tape,F.output.trans S.Fo.output,Nat.le_trans S.Fo.size F.size,fun b hb f=>(F.get b (Nat.lt_of_lt_of_le hb S.Fo.size) fun e=>?_).trans (S.Fo.get b hb f),fun b arr e hb he=>?_⟩
 ·rcases j with rfl |⟨rfl,i⟩
  ·cases e
  rcases S.own id b i e with h | h
  ·omega
  exact f h.1
 obtain⟨d,g,k⟩:=S.Fo.X6 b arr e hb he;obtain⟨c,h3,l⟩:=F.all g;exact⟨c,h3,by omega⟩
theorem jn (a:Act) (d:Nat) (v:Value) (i:Nat):(a.put (some d) v).tmps.getD i undef=if i=d/\d<a.tmps.size then v else a.tmps.getD i undef:=by
 simp only[Act.put,Array.getD_eq_getD_getElem?,Array.getElem?_setIfInBounds]
 by_cases h:d=i
 ·subst h
  by_cases c:d<a.tmps.size <;> simp[c]
 simp[h,Ne.symm h]
theorem aY {x:Cx} {s:St} {a:Act} (hlen:s.sl.length=a.tmps.size) (h:∀i,CX x (nth s.sl i) (a.tmps.getD i undef)) (dst:Option Nat) (v:AV) (u:Value) (c:CX x v u):
  a.defers=(a.put dst u).defers/\(FE s.sl dst v).length=(a.put dst u).tmps.size/\(a.put dst u).tmps.size=a.tmps.size/\∀i,CX x (nth (FE s.sl dst v) i) ((a.put dst u).tmps.getD i undef):=by
 cases dst with
 | none=>exact⟨rfl,hlen,rfl,h⟩
 | some d=>
  refine⟨rfl,by simp[FE,Act.put,Gc,hlen],by simp[Act.put],fun i=>?_⟩;rw[jn];simp only[FE,NG,hlen]
  split
  ·exact c
  exact h i
theorem Bl.ext (S:Bl w0 X β s a w) {dst:Option Nat} {v:AV} {u:Value} {rd:List Nat} (F:Dq w w' none) (m:(cx X w β (AN s.bk)).le (cx X w' β (AN s.bk))->CX (cx X w' β (AN s.bk)) v u):Bl w0 X β (s.app dst ⟨v,[],rd⟩) (a.put dst u) w':=by
 have hw:∀b,b<w.heap.size->w'.heap[b]? =w.heap[b]? :=fun b h=>F.get b h (by simp)
 have hle:(cx X w β (AN s.bk)).le (cx X w' β (AN s.bk)):=
  ⟨fun _=>Nat.le_refl _,fun _ _=>rfl,fun id b arr e _ _ g=>F.all g,fun b hb=>⟨⟨⟨Nat.lt_of_lt_of_le hb.1.1 F.size,hb.1.2⟩,hb.2⟩,hw b hb.1.1⟩,fun b hb=>⟨⟨Nat.lt_of_lt_of_le hb.1 F.size,hb.2⟩,hw b hb.1⟩⟩
 obtain⟨c,d,h3,f⟩:=aY S.len (fun i=>CX.mono hle (S.Hz i)) dst v u (m hle);exact⟨c ▸ S.defers,d,S.PG.trans h3.symm,f,fun id b hb=>⟨C4.mono hle rfl (fun l j k=>hw j (S.lt ⟨b,hb,l⟩ k)) (S.blocks id b hb).1,(S.blocks id b hb).2⟩,S.inj,S.own,S.step (id:=0) F (.inl rfl),S.fresh,S.Jy⟩
theorem Bl.val (S:Bl w0 X β s a w) {dst:Option Nat} {v:AV} {u:Value} {rd:List Nat} (c:CX (cx X w β (AN s.bk)) v u):Bl w0 X β (s.app dst ⟨v,[],rd⟩) (a.put dst u) w:=S.ext .rfl fun _=>c
theorem Nf {id k:Nat} {b:Af}:BE (FX bk id (some b)) k=if k=id then b.BE else BE bk k:=by unfold BE FX;by_cases h:k=id <;> simp[h]
theorem M3 {id k:Nat} {b:Af}:live (FX bk id (some b)) k↔if k=id then b.live=true else live bk k:=by unfold live FX;by_cases h:k=id <;> simp[h]
theorem mj (a:Act) (q:Nat) (u:Value) (h:a.tmps.size<=q):a.put (some q) u=a.put none undef:=by simp[Act.put,Array.setIfInBounds_eq_of_size_le h]
theorem Bl.write (S:Bl w0 X β s a w) {dst:Option Nat} {v:AV} {u:Value} {rd:List Nat} {id:Nat} {By:Af} {o':Option Nat} (D:id<s.bk.length\/dst=some id/\o=none) (H:By.short) (F:Dq w w' o) (t:o=none\/o=β id/\live (AN s.bk) id)
  (n:BE (AN s.bk) id<By.BE\/By.BE=BE (AN s.bk) id/\o'=β id/\(By.live=true->live (AN s.bk) id))
  (hf:By.live=true->∀b,o'=some b->(β id=some b/\live (AN s.bk) id)\/w.heap.size<=b)
  (z:∀y:Cx,(cx X w β (AN s.bk)).le y->y.w=w'->y.β id=o'->y.cv id=By.BE->
   (∀k,k<w'.heap.size->w.heap.size<=k\/X.A k/\(∀j,j≠id->live (AN s.bk) j->β j≠some k)->(By.live=true->o'≠some k)->y.I k)->C4 y id By/\CX y v u):
  ∃J,Bl w0 X J (s.app dst ⟨v,[(id,By)],rd⟩) (a.put dst u) w':=by
 by_cases m:id<s.bk.length
 case neg=>
  obtain⟨rfl,rfl⟩:=D.resolve_left m;have p:a.tmps.size<=id:=by have:=S.PG;omega
  have N:s.app (some id) ⟨v,[(id,By)],rd⟩=s.app none ⟨.one .B7,[],rd⟩:=by simp[St.app,FE,Ee,JT _ _ _ (show s.bk.length<=id by omega),JT s.sl id v (by have:=S.len;omega)]
  rw[N,mj _ _ _ p];exact⟨β,S.ext F fun _=> .inl rfl⟩
 refine⟨FX β id o',?_⟩
 show Bl w0 X _ ⟨FE s.sl dst v,C2 s.bk id (some By)⟩ _ _
 have C:=LU s.bk id (some By) m
 have K:∀b,(b<w.heap.size/\∀j,live (AN s.bk) j->β j≠some b)->b<w'.heap.size/\∀j,live (FX (AN s.bk) id (some By)) j->FX β id o' j≠some b:=fun b hb=>by
  refine⟨Nat.lt_of_lt_of_le hb.1 F.size,fun j d e=>?_⟩;rw[M3] at d
  by_cases h:j=id
  ·subst h;rw[if_pos rfl] at d;rw[H3] at e;rcases hf d b e with h | h
   ·exact hb.2 j h.2 h.1
   have:=hb.1;omega
  rw[if_neg h] at d;rw[JX h] at e;exact hb.2 j d e
 have hw:∀b,(b<w.heap.size/\∀j,live (AN s.bk) j->β j≠some b)->w'.heap[b]? =w.heap[b]? :=fun b hb=>F.get b hb.1 fun e=>by
  rcases t with rfl |⟨rfl,f⟩
  ·cases e
  exact hb.2 id f e
 have hle:(cx X w β (AN s.bk)).le (cx X w' (FX β id o') (FX (AN s.bk) id (some By))):=by
  refine⟨fun j=>?_,fun j (h:BE _ j=BE _ j)=>?_,fun _ b arr e _ _ M=>F.all M,fun b hb=>⟨⟨K b hb.1,hb.2⟩,hw b hb.1⟩,fun b hb=>⟨K b hb,hw b hb⟩⟩
  ·show BE _ j<=BE _ j
   rw[Nf];split
   ·subst_vars;omega
   exact Nat.le_refl _
  show FX β id o' j=β j
  by_cases d:j=id
  ·subst d;rw[Nf,if_pos rfl] at h;rw[H3];exact (n.resolve_left (by omega)).2.1
  exact JX d
 have z:=z _ hle rfl H3 (by show BE _ id=_;rw[Nf,if_pos rfl]) fun k c p r=>⟨⟨c,fun j d e=>?_⟩,p.elim (fun h=>S.fresh.1 k (Nat.le_trans S.Fo.size h)) (·.1)⟩
 obtain⟨p,r,h3,L⟩:=aY S.len (fun i=>CX.mono hle (S.Hz i)) dst v u z.2;refine⟨p ▸ S.defers,r,(Gc ..).trans (S.PG.trans h3.symm),?_,?_,?_,?_,S.step F t,S.fresh,?_⟩ <;> simp only[C]
 ·exact L
 ·intro k b c
  by_cases h:k=id
  ·subst h;rw[H3] at c;cases c;exact⟨z.1,H⟩
  rw[JX h] at c;refine⟨C4.mono hle (by show BE _ k=BE _ k;rw[Nf,if_neg h]) (fun f j d=>F.get j (S.lt ⟨b,c,f⟩ d) fun e=>?_) (S.blocks k b c).1,(S.blocks k b c).2⟩;rcases t with rfl |⟨rfl,G⟩
  ·cases e
  exact h (S.inj k id j ⟨b,c,f⟩ G d e)
 ·have key:∀{k b},k≠id->By.live=true->o'=some b->live (AN s.bk) k->β k=some b->False:=fun {k b} h f t c hb=>
   (hf f b t).elim (fun q=>h (S.inj k id b c q.2 hb q.1)) fun q=>by have:=S.lt c hb;omega
  intro k k' b c g hb l;rw[M3] at c g
  by_cases h:k=id <;> by_cases h':k'=id <;> simp only[FX,h,h',if_true,if_false] at c g hb l
  ·exact h.trans h'.symm
  ·exact (key h' c hb g l).elim
  ·exact (key h g l c hb).elim
  exact S.inj k k' b c g hb l
 ·intro k b c hb;rw[M3] at c
  by_cases h:k=id
  ·subst h;rw[if_pos rfl] at c;rw[H3] at hb;rcases hf c b hb with h | h
   ·exact S.own k b h.2 h.1
   exact .inl (Nat.le_trans S.Fo.size h)
  rw[if_neg h] at c;rw[JX h] at hb;exact S.own k b c hb
 ·intro f B;rw[M3] at f;rw[Nf] at B
  by_cases h:0=id
  ·subst h;rw[if_pos rfl] at f B;obtain⟨_,r,h3⟩:=n.resolve_left (by omega);rw[H3,r];exact S.Jy (h3 f) (by omega)
  rw[if_neg h] at f B;rw[JX h];exact S.Jy f B
 rw[M3] at d
 by_cases h:j=id
 ·subst h;rw[if_pos rfl] at d;rw[H3] at e;exact r d e
 rw[if_neg h] at d;rw[JX h] at e;exact p.elim (fun q=>by have:=S.lt d e;omega) fun q=>q.2 j h d e
end
def DM (w:World) (ob:Option Nat) (I:Nat->Prop):Cx:=⟨w,fun k=>if k=0 then ob else none,fun _=>0,I,fun b=>b<w.heap.size/\ob≠some b⟩
abbrev JG (w:World) (I:Nat->Prop):Cx:=DM w none I
def OwnAt (x:Cx) (lo:Nat) (bo:Option Nat) (t:T) (l:List (el t)) (v:Value):Prop:=
 ∃base cap,v= .slice base l.length cap/\l.length<=cap/\cap<=maxLen/\l.length<=140737488355328/\
  ((bo=none/\l=[]/\cap=0)\/∃b arr e,bo=some b/\lo<=b/\base=some ⟨b,0,none⟩/\x.w.heap[b]? =some (.cells arr e (0,0))/\cap*t.size<=arr.size/\
    ∀(i:Nat) (y:el t),l[i]? =some y->∃us,rep x.w x.I t y us/\x.w.rangeAt b (i*t.size) us)
def GN (x:Cx) (lo:Nat) (bo:Option Nat):AC->Value->Prop
 | .own t l n,v=>n=l.length/\OwnAt x lo bo t l v
 | c,v=>Bg x c v
def Ge:AC->Bool
 | .own _ _ _=>true
 | c=>DS c
def PJ:AC->Bool
 |.AZ _ 0 0 _ _|.AR 0 0 _|.KJ (0,0,_)=>true
 | c=>DS c
def AV.wf:AV->Bool
 | .AI xs=>xs.all fun x=>x.1||decide (x.2.length<=1)
 | _=>true
def Af.lone:Af->Bool
 | .var v cs=>v==0&&cs.all DS
 | .arr v _ _=>v==0
 | .dead _=>false
def Callee (P : Program) (f : FuncId) : Prop := ∃ fn c, P.funcs[f]? = some fn /\ (fn.name == "runtime.NumGoroutine") = false /\ fn.body = some c
def DW (fl:Bool) (I:Nat->Prop) (n:Nat) (w':World) (ob bo:Option Nat):Cx:=DM w' ob fun k=>((fl=false/\I k)\/n<=k)/\k<w'.heap.size/\ob≠some k/\bo≠some k
def Jg (P:Program) (fl:Bool) (f:FuncId) (args:List AV) (b0:Af) (r:AV) (b1:Af):Prop:=
 Callee P f/\∀(w:World) (I:Nat->Prop) (ob:Option Nat) (vs:List Value),(b0.live=true\/ob=none)->(∀b,I b->b<w.heap.size/\ob≠some b)->It w I->
  C4 (DM w ob I) 0 b0/\b0.short->BM (CX (DM w ob I)) args vs->
  Calls P f vs.toArray w fun e w'=>∃u bo,e= .returned u/\Dq w w' ob/\RV (GN (DW fl I w.heap.size w' ob bo) w.heap.size bo) r u/\C4 (DW fl I w.heap.size w' ob bo) 0 b1/\b1.short
def Ej (P:Program) (fl:Bool) (f:FuncId) (args:List AV) (r:AV):Prop:=(r.all Ge=true/\r.wf=true)/\Jg P fl f args (.dead 0) r (.dead 0)
theorem Ej.mk {P:Program} {fl:Bool} {f:FuncId} {args:List AV} {r:AV} (g:Callee P f) (j:r.all Ge=true/\r.wf=true)
  (h:∀(w:World) (I:Nat->Prop) (vs:List Value),(∀b,I b->b<w.heap.size)->BM (CX (JG w I)) args vs->Calls P f vs.toArray w fun e w'=>∃u c,e= .returned u/\Below w.heap.size w w'/\RV (GN (DW fl I w.heap.size w' none c) w.heap.size c) r u):Ej P fl f args r:=
 ⟨j,g,fun w I ob vs i d _ _ ha=>by
  obtain rfl:ob=none:=i.resolve_left nofun;exact (h w I vs (fun b q=>(d b q).1) ha).mono fun e w' ⟨u,c,he,B,q⟩=>⟨u,c,he,⟨B.os,B.tape,B.output,B.size,fun b hb _=>B.block b hb,nofun⟩,q,(by trivial),trivial⟩⟩
def Is (P:Program) (f:FuncId) (c0:AC) (b0:Af) (args:List AV) (r:AV) (b1:Af):Prop:=b0.lone=true/\Jg P false f (.one c0::args) b0 r b1
def D4 (P:Program) (f:FuncId) (args:List AV) (b0:Af) (r:AV) (b1:Af):Prop:=(r.all DS=true/\b0.lone=true/\b1.lone=true)/\Jg P false f args b0 r b1
def Bv (P:Program) (f:FuncId) (args:List AV) (b0:Af) (r:AV):Prop:=D4 P f args b0 r b0
def env (P:Program):Env:=⟨Ej P,Is P,Bv P,D4 P⟩
structure G9 (P:Program) (t:TypeId) (i:Info):Prop where
 info:i.known=true->∃ti z d,P.info? t=some ti/\ti.size=i.size/\ti.zero=some z/\(∀x,BM (Bg x) i.zero z.cells.toList)/\
  P.underlying t=some d/\d.isRow=i.agg/\(i.agg=false->i.size=1)
 kind:∀k,i.kind=some k->P.underlying t=some (.int k)
 isb:i.IV=true->P.underlying t=some .bool
 PC:i.Gy=true->P.underlying t=some .string
 sl:i.sl=true->P.underlying t=some (.slice i.C1)/\∃ei z,P.info? i.C1=some ei/\ei.size=i.elem.size/\ei.bytes=i.EA/\0<ei.bytes/\ei.zero=some z/\
  ∀x,BM (Bg x) (cells i.elem i.CB) z.cells.toList
 fields:i.known=true->i.fields≠[]->∃fs:Array Field,P.underlying t=some (.struct fs)/\i.fields.length=fs.size/\
  ∀(f fo n:Nat) (g:Bool),i.fields[f]? =some (fo,n,g)->∃fl d,fs[f]? =some fl/\fl.offset=fo/\(P.info? fl.type).map (·.size)=some n/\0<n/\P.underlying fl.type=some d/\d.isRow=g/\(g=false->n=1)
 arr:∀q,i.arr=some q->∃e ei d,P.underlying t=some (.array q.1 e)/\P.info? e=some ei/\ei.size=q.2.1/\P.underlying e=some d/\d.isRow=q.2.2/\(q.2.2=false->q.2.1=1)/\2<=q.1
 pt:i.pt=true->P.underlying t=some (.slice i.C1)/\∃ei z,P.info? i.C1=some ei/\ei.size=1/\ei.zero=some z/\z.cells.size=1
theorem T.beq_eq {a:T}:∀{b:T},T.beq a b=true->a=b:=by
 induction a with
 | sl _ c | rf _ c=>intro b h;cases b <;> simp_all [T.beq];exact c h
 | pr _ _ c d=>intro b h;cases b <;> simp_all [T.beq];exact⟨c h.1,d h.2⟩
 | _=>intro b h;cases b <;> simp_all [T.beq]
section
variable {P:Program} {w:World}
theorem Z0 {t:TypeId} {d:TypeDesc} (hu:P.underlying t=some d):(isAgg t).run P w= .ok d.isRow w:=by
 unfold isAgg;rw[Sem.run_bind,run_underlying hu w];cases d <;> simp
theorem n3 {t:TypeId} {f:TypeInfo} {b o:Nat} {v:Value} (h:P.info? t=some f) (d:v.cells.size=f.size) (ht:w.there b o f.size) (g:∀u∈v.cells.toList,u.oneCell'=true):
  (Instr.storeAt t (.pointer (some ⟨b,o,none⟩)) v).run P w= .ok () (w.setCells b o v.cells.toList):=by
 have:=run_storeCells_cells (P:=P) b o v.cells.toList 0 w (fun j c=>by simpa using (ht j (by simpa [d] using c)).1) (fun j c=>by simpa using (ht j (by simpa [d] using c)).2) g;simp only[Nat.add_zero] at this;simp[Instr.storeAt,Instr.sureAddr,storeVar,sizeOf,typeInfo,h,d,this]
end
theorem Pf {v:Value} (h:v.oneCell'=true):v.cells= #[v]:=by
 cases v <;> simp_all [Value.oneCell',Value.cells]
theorem Rv {v:AV} (d:∀xs,v≠ .AI xs) (f:v≠ .one .B7):v.full=true:=by
 match v with
 | .one c=>cases c <;> first | rfl | exact absurd rfl f
 | .agg _=>rfl
 | .AI _=>exact absurd rfl (d _)
theorem KM {x:Cx} {d:AV} {v:Value} (h:CX x d v) (hf:d.full=true):BM (Bg x) d.cs v.cells.toList:=by
 cases d with
 | one c=>
  rcases h with rfl | h
  ·cases hf
  rw[Pf h.one];exact .cons h .nil
 | agg cs=>obtain⟨arr,rfl,h⟩:=h;exact h
 | AI _=>cases hf
theorem EL {bk:Nat->Option Af} {id:Nat} {b:Af} (h:bk id=some b):BE bk id=b.BE:=by unfold BE;rw[h]
theorem K4 {w0:World} {X:WX} {β:Nat->Option Nat} {s:St} {a:Act} {w:World} (S:Bl w0 X β s a w) (o:Operand):CX (cx X w β (AN s.bk)) (ev s.sl o) (a.eval o):=by
 cases o with
 | tmp t=>exact S.Hz t
 | func f=>exact Or.inr rfl
 | global g=>
  simp only[ev]
  split
  ·rename_i q h
   obtain⟨c,us,d,h3⟩:=S.Xc g q h;exact Or.inr ⟨g,0,us,rfl,c,d,h3⟩
  exact Or.inl rfl
 | const v=>
  show CX _ (RZ v) v
  unfold RZ
  split <;> first | exact Or.inr rfl | exact Or.inl rfl
def valOf (g:Bool) (vs:List Value):Value:=
 match g with
 | true=> .agg vs.toArray
 | false=>vs.headD undef
theorem Pr {x:Cx} {g:Bool} {cs:List AC} {vs:List Value} (h:BM (Bg x) cs vs) (d:g=false->cs.length=1):CX x (FR (g,cs)) (valOf g vs):=by
 cases g with
 | true=>exact⟨_,rfl,by simpa using h⟩
 | false=>
  have:=d rfl
  match cs,vs,h with
  | [c],[v],.cons h _=>exact Or.inr h
section
variable {P:Program} {E:Env} {TI:TypeId->Info} {w w':World} {a:Act} {x:Cx}
theorem C4.arr {id v:Nat} {t:T} {l:List (el t)} {b:Nat} (h:C4 x id (.arr v t l)) (hb:x.β id=some b):∃arr e,x.w.heap[b]? =some (.cells arr e (0,0))/\∀(i:Nat) (y:el t),l[i]? =some y->∃us,rep x.w x.I t y us/\x.w.rangeAt b (i*t.size) us:=by
 rcases h with⟨h,_⟩ |⟨b',arr,e,c,d,h3⟩
 ·cases h.symm.trans hb
 cases c.symm.trans hb;exact⟨arr,e,d,h3⟩
theorem C4.var {id v:Nat} {cs:List AC} {b:Nat} (h:C4 x id (.var v cs)) (hb:x.β id=some b):∃arr e,x.w.heap[b]? =some (.cells arr e (0,0))/\BM (Bg x) cs arr.toList:=by
 obtain⟨b',arr,e,c,d,h3⟩:=h;cases c.symm.trans hb;exact⟨arr,e,d,h3⟩
theorem gL {op:BinOp} {k k':IntKind} {x y:Int} {c:AC} {t:TypeId} (l:k=k'\/op= .shl\/op= .shr) (h:arith op k x y (fun d=>d=c)):
  ∃u,(binOp op t (.int k x) (.int k' y)).run P w= .ok u w/\∀Γ,Bg Γ c u:=by
 have j:∀{c:Int},Du c->IntKind.i64.wrap c=c:=fun h=>IntWalk.i64_in _ ⟨h.1,by have:=h.2;omega⟩
 by_cases i:op= .shl\/op= .shr
 ·rcases i with rfl | rfl
  all_goals
   obtain⟨g,rfl⟩:=h _ rfl;exact⟨_,by simp only[binOp,Op.shift,if_neg (Int.not_lt.2 (g ()))];rfl,fun _=>rfl⟩
 have l:k=k':=l.resolve_right i;subst l
 have hb:∀f,f≠ .shl->f≠ .shr->binOp f t (.int k x) (.int k y)=(match f with
  | .add | .sub | .mul=>Op.intArith f k x y | .quo | .rem=>Op.intDiv f k x y | .and | .or | .xor | .andNot=>Op.intBits f k x y | _=>Op.intCmp f x y):=by
  intro f g m;cases f <;> simp_all [binOp]
 rw[hb op (fun e=>i (.inl e)) (fun e=>i (.inr e))]
 cases op <;> first
  | (obtain rfl:=h _ rfl;exact⟨_,rfl,fun _=>rfl⟩)
  | exact absurd (.inl rfl) i
  | exact absurd (.inr rfl) i
  | (cases k <;> first
   | (obtain rfl:=h _ rfl;exact⟨_,rfl,fun _=>rfl⟩)
   | (obtain⟨g,rfl⟩:=h _ rfl;exact⟨_,rfl,fun _=>by show _=_;rw[j (g ())]⟩)
   | (obtain⟨g,rfl⟩:=h _ rfl
      obtain⟨g,m,h3⟩:=g ();exact⟨_,by simp only[Op.intDiv,if_neg (show ¬y=0 by omega)];rfl,fun _=>by show _=_;rw[Int.tdiv_eq_ediv_of_nonneg g,j h3]⟩)
   | (obtain⟨g,rfl⟩:=h _ rfl
      obtain⟨g,m⟩:=g ();exact⟨_,by simp only[Op.intDiv,if_neg (show ¬y=0 by omega)];rfl,fun _=>by show _=_;first | rw[Int.tdiv_eq_ediv_of_nonneg g] | rw[Int.tmod_eq_emod_of_nonneg g]⟩))
theorem gh {I:Nat->Prop} {l:List UInt8} {v:Value} {src dst e:TypeId} (f:P.underlying src=some (.slice e)) (he:P.underlying e=some (.int .u8)) (c:P.underlying dst=some .string) (h:rep w I (.sl .u8) l [v]):
  (convert src dst v).run P w= .ok (.string ⟨l.toArray⟩) w:=by
 obtain⟨base,cap,m,n,p,h3⟩:=h;cases m;rcases base with _ | g
 ·obtain rfl:l=[]:=h3.resolve_right (fun⟨_,_,e,_⟩=>by cases e);exact run_convert_bytes_nil w src e f he _ _ dst c
 refine run_convert_bytes_back w src dst e g cap l f he c fun j d=>?_
 rcases h3 with rfl |⟨b,off,e,_,i⟩
 ·simp at d
 cases e;obtain⟨us,hu,k⟩:=i j _ (List.getElem?_eq_getElem d);cases (show us=_ from hu);have:=k 0 _ rfl;rw[show (⟨b,off,none⟩:Addr).add j=⟨b,off+j,none⟩ by unfold Addr.add;split <;> simp_all];simpa [T.size] using this
theorem ZC {e:TypeId} {h:TypeInfo} {d:TypeDesc} {g:Bool} {n c:Nat} {arr:Array Value} (h3:P.info? e=some h) (p:h.size=n) (i:P.underlying e=some d) (j:d.isRow=g) (k:g=false->n=1) (f:((arr.toList.drop c).take n).length=n):
  (part e arr c).run P w= .ok (valOf g ((arr.toList.drop c).take n)) w:=by
 unfold part;rw[Sem.run_bind,Z0 i,Result.andThen_ok,j];cases g with
 | true=>
  have e1:arr.extract c (c+n)=((arr.toList.drop c).take n).toArray:=by
   apply Array.ext';simp only[Array.toList_extract,List.extract_eq_take_drop];rw[show c+n-c=n by omega]
  simp[sizeOf,typeInfo,h3,p,e1,valOf]
 | false=>
  obtain rfl:=k rfl;obtain⟨u,r,e⟩:=List.exists_cons_of_ne_nil (l:=arr.toList.drop c) (by intro e;simp[e] at f);have m:arr[c]? =some u:=by have:=congrArg (·[0]?) e;simpa using this
  simp[m,e,valOf]
theorem ZZ {b off n:Nat} {arr:Array Value} {e:TypeId} (h:w.heap[b]? =some (.cells arr e (0,0))):w.rangeAt b off ((arr.toList.drop off).take n):=by
 intro j v c;rw[List.getElem?_take] at c
 split at c
 ·simpa [World.cell?,h] using c
 cases c
theorem NL {b:Nat} {arr:Array Value} {e:TypeId} (h:w.heap[b]? =some (.cells arr e (0,0))):w.rangeAt b 0 arr.toList:=fun j v c=>by simpa [World.cell?,h] using c
theorem Za {b o off n:Nat} {us:List Value} (h:w.rangeAt b o us):w.rangeAt b (o+off) ((us.drop off).take n):=by
 intro j v c;rw[Nat.add_assoc];rw[List.getElem?_take] at c
 split at c
 ·exact h (off+j) v (by simpa using c)
 cases c
theorem run_load {t:TypeId} {i:Info} {b o:Nat} {us:List Value} (n:G9 P t i) (q:i.known=true) (j:w.rangeAt b o us) (f:us.length=i.size):
  (Instr.loadAt t (.pointer (some ⟨b,o,none⟩))).run P w= .ok (valOf i.agg us) w:=by
 obtain⟨v,z,d,k,l,h3,r,g,h,m⟩:=n.info q;cases c:i.agg with
 | true=>exact run_loadAt_mid w b o t us d j g (h.trans c) (by simp[k,l,f])
 | false=>
  rw[m c] at f
  match us,f with
  | [u],_=>
   have p:w.cell? ⟨b,o,none⟩=some u:=by simpa using j 0 u (by simp)
   simp only[Instr.loadAt,Instr.sureAddr,Sem.run_bind,Sem.run_pure,Result.andThen_ok,loadVar,Z0 g,h,c];simp[load,Sem.run,p,valOf]
theorem P0 {t:TypeId} {c:TypeInfo} (h:P.info? t=some c):(sizeOf t).run P w= .ok c.size w:=by simp[sizeOf,typeInfo,h]
theorem Z2 (t:TypeId) (v:Value):(newVar t v).run P w= .ok ⟨w.heap.size,0,none⟩ (w.alloc (.cells v.cells t)):=by
 simp[newVar,newRow,newObj,Sem.run]
theorem jK {fl:Field} {b off n:Nat} (h3:(P.info? fl.type).map (·.size)=some n) (c:0<n):(fieldPlace ⟨b,off,none⟩ fl).run P w= .ok ⟨b,off+fl.offset,none⟩ w:=by
 obtain⟨f,d,rfl⟩:=Option.map_eq_some_iff.1 h3;simp[fieldPlace,sizeOf,typeInfo,d,Nat.pos_iff_ne_zero.1 c,Addr.add_mid]
theorem oc {k:IntKind} {n:Int} {y:Nat} {c:BoundsCode} (d:0<=n) (f:n<=y):(Instr.sliceBound (.int k n) y c).run P w= .ok n.toNat w:=by
 simp[Instr.sliceBound,asIntOf,d,f]
theorem ON {lo t mx:Option Operand} {s:St} (j:∀o,CX x (ev s.sl o) (a.eval o)) {len cap:Nat} (r:len<=cap) {R:Nat->Nat->Bool->Prop}
  (h:IF len (lo.map (ev s.sl)) (t.map (ev s.sl)) (mx.map (ev s.sl)) R) (fl:Bool:=true):
  ∃(l q m:Nat) (c:Bool),(Instr.sliceBounds fl len cap (lo.map a.eval) (t.map a.eval) (mx.map a.eval)).run P w= .ok (l,q,m) w/\l<=q/\q<=len/\q<=m/\m<=cap/\(c=true->m=q/\l=0)/\(c=false->m=cap)/\(mx≠none->c=true)/\R l q c:=by
 have I:∀{o:Operand} {k:IntKind} {n:Int},ev s.sl o= .one (.int k n)->a.eval o= .int k n:=fun {o k n} e=>by
  have:=j o;rw[e] at this;exact this.resolve_left nofun
 have B:= @oc P w;unfold IF at h
 split at h <;> rename_i e1 d f <;> simp only[Option.map_eq_none_iff,Option.map_eq_some_iff] at e1 d f <;> try exact h.elim
 ·subst e1 d f;exact⟨0,len,cap,false,by simp[Instr.sliceBounds],by omega,by omega,r,by omega,nofun,fun _=>rfl,fun h=>absurd rfl h,h _ rfl⟩
 ·obtain⟨p,rfl,e1⟩:=e1;subst d f;obtain⟨g,i⟩:=h.1 ();exact⟨_,len,cap,false,by simp[Instr.sliceBounds,I e1,B g (show _<=(len:Int) by omega)],by omega,by omega,r,by omega,nofun,fun _=>rfl,fun h=>absurd rfl h,h.2 _ _ ⟨rfl,rfl⟩⟩
 ·obtain⟨p,rfl,d⟩:=d;subst e1 f;obtain⟨g,i⟩:=h.1 ();exact⟨0,_,cap,false,by simp[Instr.sliceBounds,I d,B g (show _<=(cap:Int) by omega)],by omega,by omega,by omega,by omega,nofun,fun _=>rfl,fun h=>absurd rfl h,h.2 _ rfl⟩
 ·obtain⟨p,rfl,e1⟩:=e1;obtain⟨v,rfl,d⟩:=d;subst f;obtain⟨g,i,u⟩:=h.1 ()
  rename_i n _ n'
  exact⟨_,_,cap,false,by simp[Instr.sliceBounds,I e1,I d,B (show 0<=n' by omega) (show n'<=(cap:Int) by omega),B g (show n<=(n'.toNat:Int) by omega)],by omega,by omega,by omega,by omega,nofun,fun _=>rfl,fun h=>absurd rfl h,h.2 _ _ ⟨rfl,rfl⟩⟩
 obtain⟨p,rfl,d⟩:=d;obtain⟨v,rfl,f⟩:=f;subst e1;obtain⟨g,i,u⟩:=h.1 ();subst i
 rename_i n _
 exact⟨0,_,_,true,by simp[Instr.sliceBounds,I d,I f,B g (show n<=(cap:Int) by omega),B g (show n<=(n.toNat:Int) by omega)],by omega,by omega,by omega,by omega,fun _=>⟨rfl,rfl⟩,nofun,fun _=>rfl,h.2 _ rfl⟩
end
theorem NJ {α:Type} (l:List α) (o:Nat):DA l o []=l:=by
 induction l generalizing o <;> cases o <;> simp_all [DA]
theorem Sz {α:Type}:∀(l:List α) (o:Nat) (v:α) (r:List α),DA (l.set o v) (o+1) r=DA l o (v::r)
 | [],0,_,_ | [],_+1,_,_=>rfl
 | c::l,0,v,r=>by simp[DA]
 | c::l,o+1,v,r=>by simp[DA,Sz l o v r]
theorem ZS {α:Type}:∀(l m:List α),m.length=l.length->DA l 0 m=m
 | [],[],_=>rfl
 | _::l,_::m,h=>by simp[DA,ZS l m (by simpa using h)]
 | [],_::_,h | _::_,[],h=>by simp at h
theorem BM.DA {α γ:Type} {R:α->γ->Prop} {l:List α} {m:List γ} (h:BM R l m):∀(o:Nat) {xs:List α} {ys:List γ},BM R xs ys->BM R (DA l o xs) (DA m o ys):=by
 induction h with
 | nil=>intro o xs ys h;cases o <;> cases h <;> exact .nil
 | cons q h c=>
  intro o xs ys h';cases o with
  | zero=>cases h' with
   | nil=>exact .cons q h
   | cons p r=>exact .cons p (c 0 r)
  | succ o=>exact .cons q (c o h')
theorem Rx {α:Type}:∀(l:List α) (o:Nat) (xs:List α) (m:Nat),o+xs.length<=l.length->(DA l o xs)[m]? =if o<=m/\m<o+xs.length then xs[m-o]? else l[m]?
 | [],o,xs,m,h=>by
  obtain rfl:xs=[]:=List.eq_nil_of_length_eq_zero (by simp only[List.length_nil] at h;omega);rw[NJ,if_neg (by simp only[List.length_nil];omega)]
 | c::l,0,[],m,_=>by rw[NJ,if_neg (by simp)]
 | c::l,0,x::xs,m,h=>by
  cases m with
  | zero=>simp[DA]
  | succ m=>simpa [DA] using Rx l 0 xs m (by simp only[List.length_cons] at h;omega)
 | c::l,o+1,xs,m,h=>by
  have e:DA (c::l) (o+1) xs=c::DA l o xs:=by cases xs <;> rfl
  cases m with
  | zero=>rw[e,if_neg (by omega)];rfl
  | succ m=>
   rw[e,List.getElem?_cons_succ,List.getElem?_cons_succ,Rx l o xs m (by simp only[List.length_cons] at h;omega)]
   by_cases d:o<=m/\m<o+xs.length
   ·rw[if_pos d,if_pos (by omega)];congr 1;omega
   rw[if_neg d,if_neg (by omega)]
theorem SK {α:Type}:∀(l:List α) (o:Nat) (xs:List α),(DA l o xs).length=l.length
 | _,0,[]=>by rw[NJ]
 | [],0,_::_ | [],_+1,_=>rfl
 | _::cs,0,_::xs=>by simp[DA,SK cs 0 xs]
 | _::cs,o+1,xs=>by simp[DA,SK cs o xs]
section
variable {w w':World} {b o:Nat} {arr:Array Value} {e:TypeId} {vs:List Value}
theorem NV (b:Nat):∀(vs:List Value) (o:Nat) (w:World) (arr:Array Value) (e:TypeId),w.heap[b]? =some (.cells arr e (0,0))->
  ∃c,(w.setCells b o vs).heap[b]? =some (.cells c e (0,0))/\c.toList=DA arr.toList o vs/\c.size=arr.size
 | [],o,w,arr,e,h=>⟨arr,h,(NJ _ _).symm,rfl⟩
 | v::r,o,w,arr,e,h=>by
  obtain⟨c,d,h3,f⟩:=NV b r (o+1) (w.setCell ⟨b,o,none⟩ v) (arr.setIfInBounds o v) e (by simp[World.setCell,Array.getElem?_modify,h]);exact⟨c,d,by rw[h3,Array.toList_setIfInBounds,Sz],by simpa using f⟩
theorem Dq.set:∀(vs:List Value) (o:Nat) (w:World),Dq w (w.setCells b o vs) (some b)
 | [],_,_=> .rfl
 | v::r,o,w=>by
  have F:=Dq.set r (o+1) (w.setCell ⟨b,o,none⟩ v);have g:(w.setCell ⟨b,o,none⟩ v).heap.size=w.heap.size:=by simp[World.setCell]
  exact⟨F.os,F.tape,F.output,g ▸ F.size,fun k i h=>(F.get k (by omega) h).trans (by simp only[ne_eq,Option.some.injEq] at h;simp[World.setCell,Array.getElem?_modify,h]),
   fun k arr e _ h=>let ⟨c,d,_,f⟩:=NV k (v::r) o w arr e h;by cases (by assumption:some b=some k);exact⟨c,d,f⟩⟩
theorem Dq.push {x:Obj} (h:w'.heap=w.heap.push x) (c:w'.os=w.os) (d:w'.tape=w.tape) (h3:w'.output=w.output):Dq w w' none:=
 ⟨c,d,h3,by simp[h],fun b hb _=>by rw[h,Array.getElem?_push,if_neg (by omega)],nofun⟩
theorem UG {n:Nat} (h:w.heap[b]? =some (.cells arr e (0,0))) (d:o+n<=arr.size):w.there b o n:=by
 intro j c;simp[World.cell?,World.frozen?,h,show o+j<arr.size by omega]
theorem aA (h:w.heap[b]? =some (.cells arr e (0,0))) (d:o+vs.length<=arr.size):(w.setCells b o vs).rangeAt b o vs:=fun j v c=>by
 rw[World.cell?_setCells_in b vs o w (fun m hm=>(UG h d m hm).1) j (Hn c)];exact (List.getElem?_eq_getElem _).symm.trans c
theorem aB {us:List Value} {q:Nat} (h:∀m,m<us.length->q+m<o\/o+vs.length<=q+m) (d:w.rangeAt b q us):(w.setCells b o vs).rangeAt b q us:=fun m v c=>by
 rw[World.cell?_setCells_out b vs o w ⟨b,q+m,none⟩ (fun _ _=>h m (Hn c))];exact d m v c
end
theorem ku {c d:AC} (h:BV c d):DS c=true/\DS d=true:=by
 cases c <;> first
  | exact h.elim
  | (obtain rfl:d=_:=h;exact⟨rfl,rfl⟩)
  | (rcases h with rfl |⟨t,rfl⟩ <;> exact⟨rfl,rfl⟩)
theorem LQ {x:Cx} {t:T}:Bg x (.sl t []) (.slice none 0 0):=⟨none,0,rfl,Nat.le_refl _,by simp,.inl rfl⟩
theorem YA {x:Cx} {c d:AC} {v:Value} (h:BV c d) (r:Bg x c v):Bg x d v:=by
 cases c <;> first
  | exact h.elim
  | (obtain rfl:d=_:=h;exact r)
  | (obtain rfl:v=_:=r;rcases h with rfl |⟨t,rfl⟩;rfl;exact LQ)
theorem Qx {x:Cx} {l m:List AC} {vs:List Value} (a:BR BV l m) (b:BM (Bg x) l vs):BM (Bg x) m vs:=Vq (R:=Bg x) (fun _ _ _ _=>YA) a b
section
variable {P:Program} {E:Env} {TI:TypeId->Info} {x:Cx} {s:St} {a:Act}
theorem XW:∀(l:List Value) (off k:Nat) (c:Array Value),((l.zipIdx k).foldl (fun (cs:Array Value) (x:Value×Nat)=>cs.setIfInBounds (off+x.2) x.1) c).toList=DA c.toList (off+k) l
 | [],off,k,c=>by simp[NJ]
 | v::l,off,k,c=>by
  rw[List.zipIdx_cons,List.foldl_cons,XW l off (k+1),Array.toList_setIfInBounds,<-Nat.add_assoc,Sz]
theorem XQ {place:Nat->Option (Nat×Nat)} {c:Array Value} {i:Nat} {v:Value} {r:List (Nat×Value)} {off n:Nat} (g:place i=some (off,n)) (h:v.cells.size=n) (hf:off+n<=c.size):
  ∃d,d.toList=DA c.toList off v.cells.toList/\Instr.fill place c ((i,v)::r)=Instr.fill place d r:=by
 refine⟨v.cells.zipIdx.foldl (fun cs (x,j)=>cs.setIfInBounds (off+j) x) c,?_,?_⟩
 ·have:=XW v.cells.toList off 0 c;rw[Nat.add_zero] at this;rw[<-this,<-Array.foldl_toList,Array.toList_zipIdx]
 have f:¬(v.cells.size≠n\/off+v.cells.size>c.size):=by omega
 rw[Instr.fill];simp only[g];rw[if_neg (by simpa using f)]
theorem Rq (j:∀o,CX x (ev s.sl o) (a.eval o)) {d:List (Nat×Nat×Bool)} {pl:Nat->Option (Nat×Nat)} (k:∀(i o n:Nat) (g:Bool),d[i]? =some (o,n,g)->pl i=some (o,n)):
  ∀(parts:List (Nat×Operand)) (cs r:List AC) (c:Array Value),Hl d (ev s.sl) parts cs=some r->BM (Bg x) cs c.toList->
   ∃l,Instr.fill pl c (parts.map fun p=>(p.1,a.eval p.2))=some l/\BM (Bg x) r l.toList
 | [],cs,r,c,h,m=>⟨c,rfl,by cases h;exact m⟩
 | (i,o)::parts,cs,r,c,h,m=>by
  simp only[Hl] at h
  split at h
  ·rename_i off n g z
   split at h
   ·rename_i v
    obtain⟨t,u,h3⟩:=v;have f:=KM (j o) u;have y:=m.length;simp only[Array.length_toList] at y;obtain⟨l,C,D⟩:=XQ (c:=c) (r:=parts.map fun p=>(p.1,a.eval p.2)) (k i off n g z) (by have:=f.length;rw[t] at this;simpa using this.symm) (by omega);obtain⟨q,A,B⟩:=Rq j k parts _ r l h (by rw[C];exact m.DA off f);exact⟨q,by rw[List.map_cons,D];exact A,B⟩
   cases h
  cases h
theorem Ng {o:Oper} {u:Value} {w w':World} {N:Act->World->Prop} {Q:Exit->Act->World->Prop} (d:(execOp a.eval o).run P w= .ok (.value u) w') (c:N (a.put o.dst u) w'):o.wp P a w N Q:=by
 unfold Oper.wp;rw[d];exact c
def Sound (P:Program) (E:Env) (TI:TypeId->Info) (o:Oper):Prop:=
 ∀{w0:World} {X:WX} {β:Nat->Option Nat} {s:St} {a:Act} {w:World},Bl w0 X β s a w->∀{f:DD},E2 E TI o (Ci o) (ev s.sl) (AN s.bk) (fun g=>g=f)->
  ∀{N:Act->World->Prop} {Q:Exit->Act->World->Prop},(∀β' a' w',Bl w0 X β' (s.app o.dst f) a' w'->N a' w')->o.wp P a w N Q
theorem gp {l:List AV} {vs:List Value} (h:BM (CX x) l vs):∀{c:List (Nat×Nat)},OV l=some c->BM (fun p=>D3 x p.1 p.2 0) c vs:=by
 induction h with
 | nil=>intro c h;cases h;exact .nil
 | cons q _ d=>
  intro c h;unfold OV at h
  split at h <;> rename_i e <;> cases e
  ·split at h
   ·rename_i e;cases h;exact .cons (q.resolve_left nofun) (d e)
   cases h
  cases h
theorem mg {l:List AV} {vs:List Value} (h:BM (CX x) l vs):∀{c:List (Nat×Nat×Nat)},Pn l=some c->BM (fun p=>D3 x p.1 p.2.1 p.2.2) c vs:=by
 induction h with
 | nil=>intro c h;cases h;exact .nil
 | cons q _ d=>
  intro c h;unfold Pn at h
  split at h <;> rename_i e <;> cases e
  ·split at h
   ·rename_i e;cases h;exact .cons (q.resolve_left nofun) (d e)
   cases h
  cases h
theorem Mo (h:∀y:Operand,CX x (ev s.sl y) (a.eval y)):∀l:List Operand,BM (CX x) (l.map (ev s.sl)) (l.map a.eval)
 | []=> .nil
 | y::l=> .cons (h y) (Mo h l)
end
def Good (F:(Nat->Option Af)->(DD->Prop)->Prop):Prop:=∀{bk:Nat->Option Af} {K:DD->Prop},F bk K->∃f,K f/\∀(DJ:Nat->Option Af) (K':DD->Prop),(∀id∈f.rd,bk id=DJ id)->K' f->F DJ K'
theorem vv {bk DJ:Nat->Option Af} {id v:Nat} (h:bk id=DJ id) (e:BE bk id=v):BE DJ id=v:=by unfold BE;rw[<-h];exact e
theorem V3 {op:BinOp} {k:IntKind} {a b:Int} {K:AC->Prop} (h:arith op k a b K):∃c,K c/\∀d:AC->Prop,d c->arith op k a b d:=by
 unfold arith at h ⊢
 split at h <;> first
  | exact⟨_,h _ rfl,fun d g c f=>f ▸ g⟩
  | exact⟨_,(h _ rfl).2,fun d g c f=>f ▸⟨(h _ rfl).1,g⟩⟩
theorem OO {len:Nat} {lo g mx:Option AV} {K:Nat->Nat->Bool->Prop} (h:IF len lo g mx K):∃a b c,K a b c/\∀d:Nat->Nat->Bool->Prop,d a b c->IF len lo g mx d:=by
 unfold IF at h ⊢
 split at h <;> first
  | exact h.elim
  | exact⟨_,_,_,h _ rfl,fun d f c k=>k ▸ f⟩
  | exact⟨_,_,_,h.2 _ rfl,fun d f=>⟨h.1,fun l n=>n ▸ f⟩⟩
  | exact⟨_,_,_,h.2 _ _ ⟨rfl,rfl⟩,fun d f=>⟨h.1,fun l m ⟨i,j⟩=>i ▸ j ▸ f⟩⟩
theorem gM {u:T} {x:AV} {lo l mx:Option AV}:Good fun bk=>OM bk u x lo l mx:=by
 intro bk K h;unfold OM at h ⊢
 split at h
 ·obtain⟨g,h⟩:=h;obtain⟨a,b,c,h3,d⟩:=OO (h _ rfl);exact⟨_,h3 _ rfl,fun _ j _ f=>⟨g,fun n m=>m ▸ d _ fun l' i=>i ▸ f⟩⟩
 ·obtain⟨g,h⟩:=h
  split at h
  ·rename_i p
   obtain⟨a,b,c,h3,d⟩:=OO h;have h3:=h3 _ _ ⟨rfl,rfl⟩;cases c <;> exact⟨_,h3,fun _ j hb f=>⟨g,by rw[if_pos (vv (hb _ (by simp)) p)];exact d _ fun o n ⟨e1,k⟩=>by subst e1 k;exact f⟩⟩
  exact h.elim
 ·obtain⟨a,b,c,h3,d⟩:=OO h;exact⟨_,h3,fun _ j _ f=>d _ f⟩
 exact h.elim
section
variable {bk DJ:Nat->Option Af}
theorem af:∀{d:List (Nat×Nat)} {g:List ((t:T)×el t)},(∀id∈d.map (·.1),bk id=DJ id)->NX bk d g->NX DJ d g
 | [],[],_,h=>h
 | p::_,_::_,f,h=>⟨(f p.1 (by simp)).symm.trans h.1,af (fun id c=>f id (List.mem_cons_of_mem _ c)) h.2⟩
 | [],_::_,_,h | _::_,[],_,h=>h
theorem Lj {c d:AC} (h:∀id∈Cj c,bk id=DJ id) (j:Gi bk c d):Gi DJ c d:=by
 cases c <;> first | exact j | skip
 case AZ t id v off len=>obtain⟨l,g,i⟩:=j;exact⟨l,h id (by simp[Cj]) ▸ g,i⟩
 case AR id v off=>obtain⟨g,t,x,i,h3⟩:=j;exact⟨g,t,x,h id (by simp[Cj]) ▸ i,h3⟩
 case Gt f ps=>exact j.imp (fun⟨k,g,i⟩=>⟨k,af h g,i⟩) id
theorem ah {l2:List Nat} (g:∀id∈l2,bk id=DJ id):∀{d:List (Nat×Nat)} {j:List ((t:T)×el t)},(∀id∈d.map (·.1),bk id=DJ id)->NY bk l2 d j->NY DJ l2 d j
 | [],[],_,h=>h
 | p::_,⟨t,x⟩::_,i,h=>by
  refine⟨?_,ah g (fun id c=>i id (List.mem_cons_of_mem _ c)) h.2⟩;have e:=i p.1 (by simp);have f:=h.1
  cases t <;> first
   | exact e.symm.trans f
   | (obtain⟨id,v,g1,g2,k⟩:=f;exact⟨id,v,g1,e.symm.trans g2,(g id g1).symm.trans k⟩)
 | [],_::_,_,h | _::_,[],_,h=>h
theorem od {l2:List Nat} {c d:AC} (h:∀id∈Cj c,bk id=DJ id) (i:∀id∈l2,bk id=DJ id) (g:Th bk l2 c d):Th DJ l2 c d:=by
 cases c
 case Gt f ps=>obtain⟨k,h3,j⟩:=g;exact⟨k,ah i h h3,j⟩
 all_goals exact Lj (d:=d) h g
theorem lA {i v:Nat} {c d:AC} (h:∀id∈Cj c,bk id=DJ id) (f:PI bk i v c d):PI DJ i v c d:=by
 cases c <;> first | exact f | skip
 case AR j w off=>exact f.imp id fun⟨g,o,k,h3⟩=>⟨g,o,(h j (by simp[Cj])).symm.trans k,h3⟩
theorem Vo {R R':AC->AC->Prop}:∀{l m:List AC},(∀c∈l,∀d,R c d->R' c d)->BR R l m->BR R' l m
 | [],[],_,h=>h
 | c::_,_::_,f,h=>⟨f c (by simp) _ h.1,Vo (fun c g=>f c (by simp[g])) h.2⟩
 | [],_::_,_,h | _::_,[],_,h=>h
theorem Ki {R R':AC->AC->Prop}:∀{l m:List AV},(∀c d,(∀id∈Cj c,id∈Ck l)->R c d->R' c d)->En R l m->En R' l m
 | [],[],_,h=>h
 | a::l,b::_,hR,h=>by
  refine⟨?_,Ki (fun c d g=>hR c d fun i f=>?_) h.2⟩
  ·have h:=h.1;cases a <;> cases b <;> first | exact h.elim | skip
   ·exact hR _ _ (fun i f=>by simp[Ck,f]) h
   exact Vo (fun c g d=>hR c d fun i f=>List.mem_append_left _ (List.mem_flatMap.2 ⟨c,g,f⟩)) h
  have:=g i f;cases a <;> simp[Ck,this]
 | [],_::_,_,h | _::_,[],_,h=>h
end
theorem gB {E:Env} {g:FuncId} {args:List AV} {d:Nat}:Good fun bk=>MI E g args d bk:=by
 intro bk K h;rcases h with⟨a,r,f,k,h⟩ |⟨a,r,f,k,h⟩ | h |⟨i,b,a,r,f,k,h⟩ |⟨i,b,a,r,f,k,h⟩ | h |⟨i,b,a,r,b1,f,k,h⟩ |⟨l2,a,r,f,k,h⟩ |⟨i,b,a,r,b1,f,k,h⟩
 ·exact⟨_,h,fun DJ _ hb l=> .inl ⟨a,r,f,k,by rw[vv (hb d (by simp)) rfl];exact l⟩⟩
 ·exact⟨_,h,fun DJ _ hb l=> .inr (.inl ⟨a,r,fun u=>Ki (fun c _ m=>Lj fun i n=>hb i (by simp[m i n])) (f u),k,by rw[vv (hb d (by simp)) rfl];exact l⟩)⟩
 ·split at h
  ·split at h
   ·rename_i y
    split at h
    ·rename_i l
     split at h
     ·rename_i z
      obtain⟨a,r,b1,f,k,h⟩:=h;refine⟨_,h,fun DJ _ hb q=> .inr (.inr (.inl ?_))⟩;simp only[y,<-hb _ (List.mem_cons_self ..),l,if_pos z];exact⟨a,r,b1,fun u=>⟨(f u).1,Ki (fun c _ m=>Lj fun i n=>hb i (by simp[m i n])) (f u).2⟩,k,q⟩
     exact h.elim
    exact h.elim
   exact h.elim
  exact h.elim
 ·exact⟨_,h,fun _ _ hb l=> .inr (.inr (.inr (.inl ⟨i,b,a,r,fun u=>⟨(hb i (by simp)).symm.trans (f u).1,(f u).2⟩,k,l⟩)))⟩
 ·refine⟨_,h,fun _ _ hb l=> .inr (.inr (.inr (.inr (.inl ⟨i,b,a,r,fun u=>?_,k,l⟩))))⟩;obtain⟨⟨g1,g2,t⟩,v⟩:=f u;refine⟨⟨g1,(hb i (by simp)).symm.trans g2,t⟩,Ki (fun c _ m=>Lj fun j p=>hb j ?_) v⟩;have:=List.all_eq_true.1 t j (m j p);simpa using this
 ·exact h.elim
 ·exact⟨_,h,fun _ _ hb l=> .inr (.inr (.inr (.inr (.inr (.inr (.inl ⟨i,b,a,r,b1,fun u=>⟨(hb i (by simp)).symm.trans (f u).1,(f u).2⟩,k,l⟩))))))⟩
 ·exact⟨_,h,fun DJ _ hb l=> .inr (.inr (.inr (.inr (.inr (.inr (.inr (.inl ⟨l2,a,r,fun u=>Ki (fun c _ m=>od (fun i n=>hb i (by simp[m i n])) fun i n=>hb i (by simp[n])) (f u),k,by rw[vv (hb d (by simp)) rfl];exact l⟩)))))))⟩
 exact⟨_,h,fun _ _ hb l=> .inr (.inr (.inr (.inr (.inr (.inr (.inr (.inr ⟨i,b,a,r,b1,fun u=>⟨(hb i (by simp)).symm.trans (f u).1,Ki (fun c _ m=>lA fun j p=>hb j (by simp[m j p])) (f u).2⟩,k,l⟩)))))))⟩
theorem Vi {TI:TypeId->Info} {b:Builtin} {y:List TypeId} {args:List AV} {d:Nat} (hlen:∀t l,args=[.one (.sl t l)]->l.length<=140737488355328):Good fun bk=>HD TI b y args d bk:=by
 intro bk K h;unfold HD at h ⊢
 split at h <;> try exact h.elim
 ·exact⟨_,h.2 _ ⟨rfl,hlen _ _ rfl⟩,fun _ g _ f=>⟨h.1,fun n j=>j.eq ▸ f⟩⟩
 iterate 2
  obtain⟨m,h⟩:=h
  split at h
  ·rename_i v
   exact⟨_,h _ ⟨rfl⟩,fun _ g hb f=>⟨m,by rw[if_pos (vv (hb _ (by simp)) v)];exact fun n j=>j.eq ▸ f⟩⟩
  exact h.elim
 ·exact⟨_,h.2,fun _ g _ f=>⟨h.1,f⟩⟩
 ·exact⟨_,h.2 _ ⟨rfl⟩,fun _ g _ f=>⟨h.1,fun n j=>j.eq ▸ f⟩⟩
 ·exact⟨_,h.2 _ ⟨rfl⟩,fun _ g _ f=>⟨h.1,fun n j=>j.eq ▸ f⟩⟩
 ·exact⟨_,h.2,fun _ g _ f=>⟨h.1,f⟩⟩
 ·exact⟨_,h _ rfl,fun _ g _ f c p=>p ▸ f⟩
 ·exact⟨_,h _ rfl,fun _ g _ f c p=>p ▸ f⟩
 ·obtain⟨m,l2,k,h⟩:=h;exact⟨_,h _ rfl,fun DJ g hb f=>⟨m,l2,fun u=>⟨Lj (fun i q=>hb i (by simp[q])) (k u).1,(k u).2⟩,fun n j=>by rw[vv (hb d (by simp)) rfl];exact j ▸ f⟩⟩
 all_goals
  obtain⟨m,h⟩:=h
  split at h
  ·rename_i f
   split at h
   ·rename_i v
    obtain⟨l2,k,h⟩:=h;refine⟨_,h _ _ ⟨rfl,rfl⟩,fun DJ g hb r=>⟨m,?_⟩⟩;simp only[<-hb _ (List.mem_cons_self ..),f,if_pos v];exact⟨l2,fun u=>⟨(k u).1,(k u).2.1,Lj (fun i q=>hb i (by simp[q])) (k u).2.2.1,(k u).2.2.2⟩,fun l' n ⟨e1,z⟩=>by subst e1 z;exact r⟩
   exact h.elim
  exact h.elim
theorem Z5 {K:DD->Prop} {g:DD} (h:Li K g):∃(t:T) (id v:Nat) (l:List (el t)),g=⟨.one (.AZ t id v 0 l.length),[(id,.arr v t l)],g.rd⟩/\id≠0/\K ⟨.one (.sl t l),[(id,.dead v)],g.rd⟩/\
  ∀c:DD->Prop,c ⟨.one (.sl t l),[(id,.dead v)],g.rd⟩->Li c g:=by
 obtain⟨r,u,q⟩:=g;unfold Li at h
 split at h
 ·rename_i t id v off n i z y l j k
  split at h
  ·rename_i d
   simp only at j k;have f:=d;simp only[Bool.and_eq_true,bne_iff_ne,beq_iff_eq] at d;obtain⟨⟨⟨⟨c1,rfl⟩,rfl⟩,rfl⟩,m⟩:=d;obtain rfl:=T.beq_eq m;obtain rfl:=h.1 ();subst j k;exact⟨t,id,v,l,rfl,c1,h.2,fun c p=>by unfold Li;simp only;rw[if_pos f];exact⟨fun _=>trivial,p⟩⟩
  exact h.elim
 exact h.elim
theorem Qs {TI:TypeId->Info} {b:Builtin} {c:List TypeId} {args:List AV} {d:Nat} {bk:Nat->Option Af} {K:DD->Prop}:
  OB TI b c args d bk K↔HD TI b c args d bk K\/(b= .append/\HD TI b c args d bk (Li K)):=by
 cases b <;> simp[OB]
theorem gK {TI:TypeId->Info} {c:List TypeId} {args:List AV} {d:Nat} {bk:Nat->Option Af} {K:DD->Prop} (h:HD TI .append c args d bk K):args.length=2:=by
 unfold HD at h
 split at h <;> first | contradiction | exact h.elim | rfl
theorem Vv {E:Env} {TI:TypeId->Info} {o:Oper} {d:Nat} {e:Operand->AV} (hlen:∀x t l,e x= .one (.sl t l)->l.length<=140737488355328):Good fun bk=>E2 E TI o d e bk:=by
 intro bk K h;unfold E2 at h ⊢;cases T:o.op <;> simp only[T] at h ⊢ <;> (try exact h.elim)
 case move x | assign x=>exact⟨_,h,fun _ _ _ m=>m⟩
 case nilCheck x=>
  revert h;generalize e x=X;intro h
  split at h <;> first
   | exact⟨_,h,fun _ _ _ m=>m⟩
   | exact h.elim
   | (split at h
      ·rename_i A;exact⟨_,h,fun _ _ hb m=>by simp only[if_pos (vv (hb _ (List.mem_cons_self ..)) A)];exact m⟩
      exact h.elim)
 case pick c x y=>
  revert h;generalize e c=X;intro h
  split at h <;> first
   | exact⟨_,h,fun _ _ _ m=>m⟩
   | exact h.elim
 case alloc t=>exact⟨_,h.2,fun _ _ hb m=>⟨h.1,by rw[vv (hb d (by simp)) rfl];exact m⟩⟩
 case box t x=>
  revert h;generalize e x=X;intro h
  split at h <;> first
   | exact h.elim
   | exact⟨_,h,fun _ _ hb m=>by rw[vv (hb d (by simp)) rfl];exact m⟩
 case extract x i=>
  revert h;generalize e x=X;intro h
  split at h
  ·split at h
   ·exact⟨_,h,fun _ _ _ m=>m⟩
   exact h.elim
  exact h.elim
 case load t x=>
  simp only[OZ] at h ⊢;obtain⟨r,h⟩:=h
  revert h;generalize e x=X;intro h
  split at h
  ·split at h
   ·rename_i m
    split at h
    ·rename_i A;exact⟨_,h,fun _ _ hb D=>⟨r,by simp only[<-hb _ (List.mem_cons_self ..),m,if_pos A];exact D⟩⟩
    exact h.elim
   exact h.elim
  ·split at h
   ·rename_i A;exact⟨_,h,fun _ _ _ m=>⟨r,by simp only[if_pos A];exact m⟩⟩
   exact h.elim
  ·exact⟨_,h.2,fun _ _ _ m=>⟨r,h.1,m⟩⟩
  ·split at h
   ·rename_i m
    split at h
    ·rename_i A
     obtain⟨z,u,h⟩:=h
     split at h
     ·rename_i G;exact⟨_,h,fun _ _ hb D=>⟨r,by simp only[<-hb _ (List.mem_cons_self ..),m,if_pos A];exact⟨z,u,by simp only[if_pos G];exact D⟩⟩⟩
     exact h.elim
    exact h.elim
   exact h.elim
  exact h.elim
 case store t p x=>
  obtain⟨r,h⟩:=h
  revert h;generalize e p=X;generalize e x=Y;intro h
  split at h
  ·generalize H:bk _=B at h
   split at h <;> try exact h.elim
   split at h
   ·rename_i A;exact⟨_,h,fun _ _ hb m=>⟨r,by simp only[<-hb _ (List.mem_cons_self ..),H,if_pos A];exact m⟩⟩
   exact h.elim
  ·generalize H:bk _=B at h
   split at h <;> try exact h.elim
   split at h
   ·rename_i A
    obtain⟨z,u,h⟩:=h;exact⟨_,h _ rfl,fun _ _ hb m=>⟨r,by simp only[<-hb _ (List.mem_cons_self ..),H,if_pos A];exact⟨z,u,fun l' F=>F ▸ m⟩⟩⟩
   rename_i L
   split at h
   ·rename_i A
    obtain⟨U,z,u,h⟩:=h;exact⟨_,h _ rfl,fun _ _ hb m=>⟨r,by simp only[<-hb _ (List.mem_cons_self ..),H,if_neg L,if_pos A];exact⟨U,z,u,fun l' F=>F ▸ m⟩⟩⟩
   exact h.elim
  exact h.elim
 case fieldAddr t x i=>
  obtain⟨r,h⟩:=h
  revert h;generalize e x=X;generalize (TI t).fields[i]? =Y;intro h
  split at h <;> first
   | exact⟨_,h,fun _ _ _ m=>⟨r,m⟩⟩
   | exact h.elim
   | (split at h
      ·rename_i A;exact⟨_,h,fun _ _ hb m=>⟨r,by simp only[if_pos (vv (hb _ (List.mem_cons_self ..)) A)];exact m⟩⟩
      exact h.elim)
 case field t x i=>
  obtain⟨r,h⟩:=h
  revert h;generalize e x=X;generalize (TI t).fields[i]? =Y;intro h
  split at h
  ·split at h
   ·rename_i A;exact⟨_,h,fun _ _ _ m=>⟨r,by simp only[if_pos A];exact m⟩⟩
   exact h.elim
  exact h.elim
 case build t ps=>
  revert h;generalize (TI t).arr=q;intro h
  split at h <;> (obtain⟨r,h⟩:=h;split at h) <;> first
   | exact h.elim
   | exact⟨_,h,fun _ _ _ m=>⟨r,m⟩⟩
 case buildSlice t n ps=>
  revert h;generalize (TI t).pt=q;intro h
  split at h
  ·split at h
   ·exact⟨_,h.2,fun _ _ _ m=>⟨h.1,m⟩⟩
   exact h.elim
  obtain⟨r,u,xs,h3,h | h⟩:=h
  ·exact⟨_,h,fun _ _ hb m=>⟨r,u,xs,h3,.inl (by rw[vv (hb d (by simp)) rfl];exact m)⟩⟩
  exact⟨_,h,fun _ _ _ m=>⟨r,u,xs,h3,.inr m⟩⟩
 case makeSlice t x y=>
  obtain⟨r,h⟩:=h
  revert h;generalize e x=X;generalize e y=Y;intro h
  split at h
  ·exact⟨_,h.2 _ _ ⟨rfl,rfl⟩,fun _ _ hb m=>⟨r,h.1,fun k z ⟨e1,N⟩=>by subst e1 N;rw[vv (hb d (by simp)) rfl];exact m⟩⟩
  exact h.elim
 case indexAddr t x i=>
  revert h;generalize (TI t).pt=q;generalize (TI t).arr=W;generalize e x=X;generalize e i=Y;intro h
  split at h
  ·split at h
   ·obtain⟨p,u,h⟩:=h;exact⟨_,h,fun _ _ _ m=>⟨p,u,m⟩⟩
   exact h.elim
  split at h
  ·split at h
   ·split at h
    ·rename_i A;exact⟨_,h.2,fun _ _ hb m=>by simp only[if_pos (vv (hb _ (List.mem_cons_self ..)) A)];exact⟨h.1,m⟩⟩
    exact h.elim
   ·exact⟨_,h.2,fun _ _ _ m=>⟨h.1,m⟩⟩
   exact h.elim
  obtain⟨r,h⟩:=h
  split at h
  ·obtain⟨u,z,h3,h⟩:=h;exact⟨_,h,fun _ _ _ m=>⟨r,u,z,h3,m⟩⟩
  ·obtain⟨u,h⟩:=h
   split at h
   ·rename_i A;exact⟨_,h.2 _ rfl,fun _ _ hb m=>⟨r,u,by simp only[if_pos (vv (hb _ (List.mem_cons_self ..)) A)];exact⟨h.1,fun j S=>S ▸ m⟩⟩⟩
   exact h.elim
  exact h.elim
 case slice t x lo hi mx=>
  revert h;generalize e x=X;intro h
  split at h
  ·obtain⟨r,h⟩:=h;obtain⟨p,q,c,h3,u⟩:=OO (h _ rfl);exact⟨_,h3.2 _ rfl,fun _ _ _ m=>⟨r,fun n L=>L ▸ u _ ⟨h3.1,fun z G=>G ▸ m⟩⟩⟩
  obtain⟨f,u,h3⟩:=gM h.2;exact⟨f,u,fun _ _ hb m=>⟨h.1,h3 _ _ hb m⟩⟩
 case index t x i=>
  revert h;generalize (TI t).arr=q;generalize e x=X;generalize e i=Y;intro h
  split at h
  ·split at h
   ·obtain⟨r,h⟩:=h
    split at h
    ·rename_i A;exact⟨_,h,fun _ _ _ m=>by simp only[if_pos A];exact⟨r,m⟩⟩
    exact h.elim
   exact h.elim
  obtain⟨r,h⟩:=h
  split at h
  ·obtain⟨b,u,h⟩:=h;exact⟨_,h _ ⟨rfl⟩,fun _ _ _ m=>⟨r,b,u,fun z G=>G.eq ▸ m⟩⟩
  exact h.elim
 case binOp op t x y t'=>
  revert h;generalize e x=X;generalize e y=Y;intro h
  split at h
  ·split at h
   ·rename_i D
    obtain⟨c,h3,u⟩:=V3 h;exact⟨_,h3,fun _ _ _ m=>by simp only[if_pos D];exact u _ m⟩
   exact h.elim
  ·obtain⟨r,h⟩:=h;cases op <;> first | exact h.elim | exact⟨_,h _ rfl,fun _ _ _ m=>⟨r,fun c C=>C ▸ m⟩⟩
  ·obtain⟨r,h⟩:=h;cases op <;> first | exact h.elim | exact⟨_,h _ rfl,fun _ _ _ m=>⟨r,fun c C=>C ▸ m⟩⟩
  ·cases op <;> first | exact h.elim | exact⟨_,h _ rfl,fun _ _ _ m c C=>C ▸ m⟩ | exact⟨_,h.2 _ rfl,fun _ _ _ m=>⟨h.1,fun c C=>C ▸ m⟩⟩
  exact h.elim
 case unOp op t x=>
  revert h;generalize e x=X;intro h
  split at h <;> first | exact h.elim | exact⟨_,h _ rfl,fun _ _ _ m c C=>C ▸ m⟩
 case convert src dst x=>
  obtain⟨r,h⟩:=h
  revert h;generalize e x=X;generalize (TI dst).kind=Y;intro h
  split at h <;> first
   | exact h.elim
   | exact⟨_,h _ rfl,fun _ _ _ m=>⟨r,fun c C=>C ▸ m⟩⟩
   | (obtain⟨g1,g2,O,l,Q,h⟩:=h;exact⟨_,h _ rfl,fun _ _ _ m=>⟨r,g1,g2,O,l,Q,fun z G=>G ▸ m⟩⟩)
 case makeFunc fn first cap=>
  split at h
  ·exact⟨_,h,fun _ _ _ m=>m⟩
  exact h.elim
 case call c=>
  cases C:c.callee with
  | builtin b=>
   simp only[C] at h ⊢
   have I:∀t l,c.args.toList.map e=[.one (.sl t l)]->l.length<=140737488355328:=fun t l I=>by
    obtain⟨x,_,_,u,_⟩:=List.map_eq_cons_iff.1 I;exact hlen x t l u
   have M:= @Vi TI b c.argTypes.toList _ d I;rcases Qs.1 h with h |⟨rfl,h⟩
   ·obtain⟨f,r,u⟩:=M h;exact⟨f,r,fun _ _ hb m=>Qs.2 (.inl (u _ _ hb m))⟩
   obtain⟨g,r,u⟩:=M h;obtain⟨t,id,v,l,V,_,R,J⟩:=Z5 r;exact⟨_,R,fun _ _ hb m=> .inr (.inl (u _ _ hb (J _ m)))⟩
  | value y=>
   simp only[C] at h ⊢
   revert h;generalize e y=X;intro h
   split at h <;> first | exact h.elim | exact gB h
  | invoke _ _=>simp only[C] at h
end Go.Abs
