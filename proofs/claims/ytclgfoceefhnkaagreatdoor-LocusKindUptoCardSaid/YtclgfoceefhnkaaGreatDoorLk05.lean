/- Part 6 of a proof. Conditions: each theorem's own. -/
import Derived.Test.YtclgfoceefhnkaaGreatDoorLk04
set_option linter.all false
set_option maxHeartbeats 80000000
set_option maxRecDepth 20000
namespace Go.Abs
open Go.RowKit
section
variable {P:Program} {TI:TypeId->Info}
theorem J4 {w0:World} {X:WX} {β:Nat->Option Nat} {s:St} {a:Act} {w:World} (S:BB w0 X β s a w) {J:Nat->Prop} (j:∀b,(cx X w β (AF s.bk)).I b->J b):
  ∀{l m:List AV} {vs:List Value},(∀id b,id∈Be l->live (AF s.bk) id->β id=some b->b<w.heap.size->J b)->C6 (DC (AF s.bk)) l m->AT (BF (cx X w β (AF s.bk))) l vs->AT (BF (Cb w J)) m vs
 | [],[],[],_,_,_=>trivial
 | .one c::_,.one d::_,_::_,i,g,r=>⟨Or.inr (Ps S j (fun id b f=>i id b (by simp[Be,f])) g.1 (BA r.1 (by intro e;subst e;exact g.1.elim))),J4 S j (fun id b f=>i id b (by simp[Be,f])) g.2 r.2⟩
 | .agg c::_,.agg d::_,_::_,i,g,r=>by
  obtain⟨arr,e,k⟩:=r.1;refine⟨⟨arr,e,?_⟩,J4 S j (fun id b f=>i id b (by rw[Be];exact List.mem_append_right _ f)) g.2 r.2⟩;exact all (fun id b f=>i id b (by rw[Be];exact List.mem_append_left _ f)) g.1 k
 |[],_::_,_,_,g,_|_::_,[],_,_,g,_=>g.elim
 |.one _::_,.agg _::_,_,_,g,_|.one _::_,.AJ _::_,_,_,g,_|.agg _::_,.one _::_,_,_,g,_|.agg _::_,.AJ _::_,_,_,g,_|.AJ _::_,.one _::_,_,_,g,_|.AJ _::_,.agg _::_,_,_,g,_|.AJ _::_,.AJ _::_,_,_,g,_=>g.1.elim
 |[],[],_::_,_,_,r|.one _::_,.one _::_,[],_,_,r|.agg _::_,.agg _::_,[],_,_,r=>r.elim
where
 all:∀{l m:List AC} {vs:List Value},(∀id b,id∈l.flatMap Bk->live (AF s.bk) id->β id=some b->b<w.heap.size->J b)->Aq (DC (AF s.bk)) l m->AT (Ai (cx X w β (AF s.bk))) l vs->AT (Ai (Cb w J)) m vs
  | [],[],[],_,_,_=>trivial
  | _::_,_::_,_::_,i,h,r=>⟨Ps S j (fun id b f=>i id b (by rw[List.flatMap_cons];exact List.mem_append_left _ f)) h.1 r.1,all (fun id b f=>i id b (by rw[List.flatMap_cons];exact List.mem_append_right _ f)) h.2 r.2⟩
  |[],_::_,_,_,h,_|_::_,[],_,_,h,_=>h.elim
  |[],[],_::_,_,_,r|_::_,_::_,[],_,_,r=>r.elim
theorem OT {x y:Cx} {lo:Nat} {bo:Option Nat} {d v:Nat} (h:∀b,x.I b->y.I b/\y.w.heap[b]? =x.w.heap[b]?) (hw:y.w=x.w) (a:v<=y.cv d) (f:v=y.cv d->y.β d=bo):∀{c:AC} {u:Value},Bp c=true->Cq x lo bo c u->Ai y (En d v c) u
 | .own t l n,u,_,⟨m,base,cap,e,A,i,_,j⟩=>by
  subst e;refine⟨⟨rfl,a⟩,fun q=>⟨base,cap,by rw[m],by omega,i,by simp,?_⟩⟩;rcases j with⟨_,_,rfl⟩ |⟨b,arr,e,rfl,_,rfl,s,z,_⟩
  ·exact .inl rfl
  exact .inr ⟨b,arr,e,f q,by simp,by rw[hw];exact s,by simpa using z⟩
 |.BN,_,_,r|.int _ _,_,_,r|.bool _,_,_,r|.fn _,_,_,r|.nil,_,_,r=>r
 | .sl _ _,_,_,r=>By h _ _ _ r
 |.AQ _ _ _ _ _,_,e,_|.Co _ _ _ _ _,_,e,_|.Ae _ _ _,_,e,_|.Ca _ _ _ _ _,_,e,_=>by simp[Bp,Ao] at e
 | .BW t y _,_,_,⟨b,o,us,e,g,p,k⟩=>⟨b,o,us,e,(h b g).1,By h t y us p,rangeAt_of_block (h b g).2 k⟩
 | .CJ _ _,_,_,⟨us,e,r⟩=>⟨us,e,r.mono fun _ _=>EV.mono h⟩
 | .str _,_,_,r=>r
 |.CU _ _,_,e,_|.Ch _,_,e,_|.Cp _,_,e,_|.ub _,_,e,_=>by simp[Bp,Ao] at e
theorem AT.OS {x y:Cx} {lo:Nat} {bo:Option Nat} {d v:Nat} (h:∀b,x.I b->y.I b/\y.w.heap[b]? =x.w.heap[b]?) (hw:y.w=x.w) (a:v<=y.cv d) (c:v=y.cv d->y.β d=bo):
  ∀{cs:List AC} {us:List Value},cs.all Bp=true->AT (Cq x lo bo) cs us->AT (Ai y) (cs.map (En d v)) us
 | [],[],_,_=>trivial
 | _::_,_::_,e,r=>by simp only[List.all_cons,Bool.and_eq_true] at e;exact⟨OT h hw a c e.1 r.1,AT.OS h hw a c e.2 r.2⟩
 |[],_::_,_,r|_::_,[],_,r=>r.elim
theorem bL {x y:Cx} {lo:Nat} {bo:Option Nat} {d v:Nat} (h:∀b,x.I b->y.I b/\y.w.heap[b]? =x.w.heap[b]?) (hw:y.w=x.w) (a:v<=y.cv d) (i:v=y.cv d->y.β d=bo) {r:AV} {u:Value} (n:r.all Bp=true) (f:Fo x lo bo r u):
  BF y (G6 d v r) u:=by
 cases r with
 | one c=>
  rcases f with rfl | f
  ·exact Or.inl rfl
  exact Or.inr (OT h hw a i n f)
 | agg cs=>obtain⟨arr,e,f⟩:=f;exact⟨arr,e,AT.OS h hw a i n f⟩
 | AJ xs=>
  obtain⟨arr,e,f⟩:=f;refine⟨arr,e,?_⟩
  have key:∀(xs:List (Bool×List AC)) (us:List Value),(xs.all fun x=>x.2.all Bp)=true->AT (fun z q=>FE x lo bo (C2 z) q) xs us->AT (fun z q=>DP y (C2 z) q) (xs.map fun x=>(x.1,x.2.map (En d v))) us:=by
   intro xs
   induction xs with
   | nil=>intro us _ k;cases us <;> first | trivial | exact k.elim
   | cons z xs p=>
    intro us l k;cases us with
    | nil=>exact k.elim
    | cons q us=>
     simp only[List.all_cons,Bool.and_eq_true] at l;refine⟨?_,p us l.2 k.2⟩;obtain⟨g,cs⟩:=z;have m:=k.1;cases g with
     | true=>obtain⟨j,e',o⟩:=m;exact⟨j,e',AT.OS h hw a i l.1 o⟩
     | false=>
      cases cs with
      | nil=>exact Or.inl rfl
      | cons c cs=>
       simp only[List.all_cons,Bool.and_eq_true] at l;rcases m with e1 | m
       ·have e1:c= .BN:=e1;subst e1;exact Or.inl rfl
       exact Or.inr (OT h hw a i l.1.1 m)
  exact key xs arr.toList n f
theorem Kb {x:Cx} {lo:Nat} {bo:Option Nat} (d v:Nat):∀{cs:List AC} {us:List Value},AT (Cq x lo bo) cs us->DM d v cs=[]\/∃t l u,DM d v cs=[(d,.arr v t l)]/\OwnAt x lo bo t l u
 | [],[],_=> .inl rfl
 | c::cs,u::us,h=>by
  have a:=Kb d v h.2;cases c with
  | own t l n=>exact .inr ⟨t,l,u,rfl,h.1.2⟩
  | _=>exact a
 |[],_::_,h|_::_,[],h=>h.elim
theorem Mg (d v:Nat):∀(cs a:List AC),DM d v (cs++a)=match DM d v cs with | []=>DM d v a | x=>x
 | [],_=>by simp[DM]
 | c::cs,a=>by
  have:=Mg d v cs a;cases c <;> simp[DM,this]
theorem VI {x:Cx} {lo:Nat} {bo:Option Nat} (d v:Nat) {r:AV} {u:Value} (k:r.wf=true) (b:Fo x lo bo r u):Gd d v r=[]\/∃t l f,Gd d v r=[(d,.arr v t l)]/\OwnAt x lo bo t l f:=by
 cases r with
 | one c=>
  rcases b with rfl | b
  ·exact .inl rfl
  exact Kb d v (cs:=[c]) (us:=[u]) ⟨b,trivial⟩
 | agg cs=>obtain⟨arr,e,b⟩:=b;exact Kb d v b
 | AJ xs=>
  obtain⟨arr,e,b⟩:=b
  show DM d v _=[]\/_
  have key:∀(xs:List (Bool×List AC)) (us:List Value),AT (fun z q=>FE x lo bo (C2 z) q) xs us->(∀z∈xs,z.1=false->z.2.length<=1)->DM d v (xs.flatMap (·.2))=[]\/∃t l f,DM d v (xs.flatMap (·.2))=[(d,.arr v t l)]/\OwnAt x lo bo t l f:=by
   intro xs
   induction xs with
   | nil=>intro us _ _;exact .inl rfl
   | cons z xs y=>
    intro us i h;cases us with
    | nil=>exact i.elim
    | cons q us=>
     have o:=y us i.2 (fun A m=>h A (by simp[m]))
     have a:DM d v z.2=[]\/∃t l f,DM d v z.2=[(d,.arr v t l)]/\OwnAt x lo bo t l f:=by
      obtain⟨g,cs⟩:=z;have a:=i.1;cases g with
      | true=>obtain⟨n,e',j⟩:=a;exact Kb d v j
      | false=>
       have w:=h (false,cs) (by simp) rfl
       match cs,w with
       | [],_=>exact .inl rfl
       | [c],_=>
        rcases a with e1 | a
        ·have e1:c= .BN:=e1;subst e1;exact .inl rfl
        exact Kb d v (cs:=[c]) (us:=[q]) ⟨a,trivial⟩
     rw[List.flatMap_cons,Mg];rcases a with a |⟨t,l,f,a,p⟩
     ·rw[a];exact o
     rw[a];exact .inr ⟨t,l,f,rfl,p⟩
  refine key xs arr.toList b fun z h s=>?_
  have:=List.all_eq_true.1 k z h;simpa [s] using this
theorem Mh {d v:Nat}:∀{cs:List AC},DM d v cs=[]->cs.all Bp=true->cs.all Ao=true/\cs.map (En d v)=cs
 | [],_,_=>⟨rfl,rfl⟩
 | c::cs,h,a=>by
  simp only[List.all_cons,Bool.and_eq_true] at a;cases c with
  | own t l n=>simp[DM] at h
  |AQ _ _ _ _ _|Co _ _ _ _ _|Ae _ _ _|Ca _ _ _ _ _|CU _ _|Ch _|Cp _|ub _=>exact absurd a.1 (by simp[Bp,Ao])
  | _=>obtain⟨b,f⟩:=Mh (cs:=cs) h a.2;exact⟨by simp[b,Ao],by simp[En,f]⟩
theorem PU {x y:Cx} {lo:Nat} {bo:Option Nat} (h:∀b,x.I b->y.I b/\y.w.heap[b]? =x.w.heap[b]?):∀{c:AC} {u:Value},Ao c=true->Cq x lo bo c u->Ai y c u
 |.BN,_,_,r|.int _ _,_,_,r|.bool _,_,_,r|.fn _,_,_,r|.nil,_,_,r=>r
 | .sl _ _,_,_,r=>By h _ _ _ r
 |.AQ _ _ _ _ _,_,e,_|.Co _ _ _ _ _,_,e,_|.Ae _ _ _,_,e,_|.Ca _ _ _ _ _,_,e,_=>by simp[Ao] at e
 | .BW t y _,_,_,⟨b,o,us,e,a,f,d⟩=>⟨b,o,us,e,(h b a).1,By h t y us f,rangeAt_of_block (h b a).2 d⟩
 | .CJ _ _,_,_,⟨us,e,r⟩=>⟨us,e,r.mono fun _ _=>EV.mono h⟩
 | .str _,_,_,r=>r
 |.CU _ _,_,e,_|.Ch _,_,e,_|.Cp _,_,e,_|.ub _,_,e,_|.own _ _ _,_,e,_=>by simp[Ao] at e
theorem AT.PT {x y:Cx} {lo:Nat} {bo:Option Nat} (h:∀b,x.I b->y.I b/\y.w.heap[b]? =x.w.heap[b]?):∀{cs:List AC} {us:List Value},cs.all Ao=true->AT (Cq x lo bo) cs us->AT (Ai y) cs us
 | [],[],_,_=>trivial
 | _::_,_::_,e,r=>by simp only[List.all_cons,Bool.and_eq_true] at e;exact⟨PU h e.1 r.1,AT.PT h e.2 r.2⟩
 |[],_::_,_,r|_::_,[],_,r=>r.elim
theorem dX {d v:Nat} {cs a:List AC} (h:DM d v (cs++a)=[]):DM d v cs=[]/\DM d v a=[]:=by
 rw[Mg] at h
 split at h
 ·rename_i e;exact⟨e,h⟩
 rename_i e;exact absurd h e
theorem Te {x y:Cx} {lo:Nat} {bo:Option Nat} {d v:Nat} {r:AV} {u:Value} (l:Gd d v r=[]) (m:r.all Bp=true/\r.wf=true) (h:∀b,x.I b->y.I b/\y.w.heap[b]? =x.w.heap[b]?) (i:Fo x lo bo r u):BF y (G6 d v r) u:=by
 cases r with
 | one c=>
  obtain⟨f,a⟩:=Mh (cs:=[c]) l (by simpa [AV.all] using m.1);have a:En d v c=c:=by simpa using a
  show BF y (.one (En d v c)) u
  rw[a];exact i.imp (fun q=>q) (PU h (by simpa using f))
 | agg cs=>
  obtain⟨arr,e,i⟩:=i;obtain⟨f,a⟩:=Mh l m.1;refine⟨arr,e,?_⟩;rw[a];exact AT.PT h f i
 | AJ xs=>
  obtain⟨arr,e,i⟩:=i;refine⟨arr,e,?_⟩
  have key:∀(xs:List (Bool×List AC)) (us:List Value),DM d v (xs.flatMap (·.2))=[]->(xs.all fun x=>x.2.all Bp)=true->AT (fun z q=>FE x lo bo (C2 z) q) xs us->AT (fun z q=>DP y (C2 z) q) (xs.map fun x=>(x.1,x.2.map (En d v))) us:=by
   intro xs
   induction xs with
   | nil=>intro us _ _ k;cases us <;> first | trivial | exact k.elim
   | cons z xs t=>
    intro us s o k;cases us with
    | nil=>exact k.elim
    | cons q us=>
     simp only[List.all_cons,Bool.and_eq_true] at o;rw[List.flatMap_cons] at s;obtain⟨A,B⟩:=dX s;refine⟨?_,t us B o.2 k.2⟩;obtain⟨f,a⟩:=Mh A o.1;obtain⟨g,cs⟩:=z;have p:=k.1;simp only at a
     show DP y (C2 (g,cs.map (En d v))) q
     rw[a];cases g with
     | true=>obtain⟨j,e',n⟩:=p;exact⟨j,e',AT.PT h f n⟩
     | false=>
      cases cs with
      | nil=>exact Or.inl rfl
      | cons c cs=>
       simp only[List.all_cons,Bool.and_eq_true] at f;exact p.imp (fun q=>q) (PU h f.1)
  exact key xs arr.toList l m.1 i
theorem ML {X:WX} {w:World} {β:Nat->Option Nat} {bk:Nat->Option AG} {I:Nat->Prop} {id vv:Nat} (a:vv=AK bk id):∀{c:AC} {v:Value},Mn c=some (id,vv)->Ai (cx X w β bk) c v->Ai (BU w (β id) I) (HH 0 0 c) v
 | .AQ t i b off len,_,h,r=>by
  simp only[Mn,Option.some.injEq,Prod.mk.injEq] at h;obtain⟨rfl,rfl⟩:=h;exact⟨⟨r.1.1,Nat.le_refl _⟩,fun _=>r.2 a⟩
 | .Ae i b off,_,h,r=>by
  simp only[Mn,Option.some.injEq,Prod.mk.injEq] at h;obtain⟨rfl,rfl⟩:=h;exact⟨⟨r.1.1,Nat.le_refl _⟩,fun _=>r.2 a⟩
 |.BN,_,h,_|.int _ _,_,h,_|.bool _,_,h,_|.fn _,_,h,_|.nil,_,h,_|.sl _ _,_,h,_|.Co _ _ _ _ _,_,h,_|.Ca _ _ _ _ _,_,h,_|.BW _ _ _,_,h,_|.CU _ _,_,h,_|.Ch _,_,h,_|.Cp _,_,h,_|.CJ _ _,_,h,_|.str _,_,h,_|.ub _,_,h,_|.own _ _ _,_,h,_=>by cases h
theorem MJ {X:WX} {w:World} {β:Nat->Option Nat} {bk:Nat->Option AG} {id:Nat} {J:Nat->Prop} (f:∀b,(cx X w β bk).I b->J b/\w.heap[b]? =w.heap[b]?):∀{b:AG},(b.Bz 0).lone=true->CM (cx X w β bk) id b->CM (BU w (β id) J) 0 (b.Bz 0)
 | .dead _,h,_=>by simp[AG.Bz,AG.lone] at h
 | .var _ cs,h,⟨b,arr,e,a,c,d⟩=>⟨b,arr,e,a,c,AT.pure (x:=cx X w β bk) (y:=BU w (β id) J) f (by simpa [AG.Bz,AG.lone] using h) d⟩
 | .arr _ t l,_,h=>h.imp (fun q=>q) fun⟨b,arr,e,a,c,d⟩=>⟨b,arr,e,a,c,fun i y g=>by
  obtain⟨us,j,k⟩:=d i y g;exact⟨us,By (w':=w) f _ _ _ j,k⟩⟩
theorem Kj {w w':World} {I d:Nat->Prop}:∀(t:T) (x:el t) (vs:List Value),t.flat=true->rep w I t x vs->rep w' d t x vs
 |.u8,_,_,_,c|.u32,_,_,_,c|.u64,_,_,_,c|.i8,_,_,_,c|.i64,_,_,_,c|.bool,_,_,_,c|.str,_,_,_,c=>c
 |.ex,_,_,h,_|.rf _,_,_,h,_|.sl t,_,_,h,_=>by simp[T.flat] at h
 | .pr a b,x,_,h,⟨v1,v2,e,f,g⟩=>by
  simp only[T.flat,Bool.and_eq_true] at h;exact⟨v1,v2,e,Kj a x.1 v1 h.1 f,Kj b x.2 v2 h.2 g⟩
theorem dY {w0:World} {X:WX} {β:Nat->Option Nat} {s:St} {a:Act} {w:World} (S:BB w0 X β s a w) {J:Nat->Prop} {id:Nat}:∀{c d:AC} {v:Value},C7 id (.one c)=true->(∀i b,i∈Bk c->live (AF s.bk) i->β i=some b->b<w.heap.size->J b)->DC (AF s.bk) c d->Ai (cx X w β (AF s.bk)) c v->Ai (Cb w J) d v
 | .int _ _,_,_,_,_,h,r=>by rw[show _=_ from h];exact r
 | .AQ t g vv off len,d,v,f,j,⟨l,k,hle,h⟩,r=>by
  subst h;simp only[C7,Bool.and_eq_true] at f
  have p:∀b o,w.heap[b]? =some o->b<w.heap.size:=fun b o h=>by
   rcases Nat.lt_or_ge b w.heap.size with h' | h'
   ·exact h'
   simp[Array.getElem?_eq_none h'] at h
  obtain⟨base,cap,C,A,H,B⟩:=I7 r (Cv k).symm;have hlen:((l.drop off).take len).length=len:=by simp;omega
  subst C;refine⟨base,cap,by rw[hlen],by rw[hlen];exact A,?_,?_⟩
  ·have:=S.lens g _ k;simp only[AG.short] at this;omega
  by_cases z:len=0
  ·left;subst z;simp
  rcases B with rfl |⟨b,arr,e,x,rfl,G,I⟩
  ·omega
  rcases S.blocks g _ k with⟨n,D⟩ |⟨b',u,e',n,D,F⟩
  ·exact absurd (n.symm.trans x) (by simp)
  obtain rfl:b'=b:=Option.some.inj (n.symm.trans x);refine .inr ⟨b',off*t.size,rfl,j g b' (by simp[Bk]) ⟨_,k,rfl⟩ n (p _ _ G),fun i y m=>?_⟩
  have q:l[off+i]? =some y:=by
   rw[List.getElem?_take] at m
   split at m
   ·simpa using m
   cases m
  obtain⟨us,k1,k2⟩:=F _ y q;exact⟨us,Kj _ _ _ f.1 k1,by rw[<-Nat.add_mul];exact k2⟩
 |.bool _,_,_,f,_,_,_|.fn _,_,_,f,_,_,_|.sl _ _,_,_,f,_,_,_|.nil,_,_,f,_,_,_|.BN,_,_,f,_,_,_|.Co _ _ _ _ _,_,_,f,_,_,_|.Ae _ _ _,_,_,f,_,_,_|.Ca _ _ _ _ _,_,_,f,_,_,_|.BW _ _ _,_,_,f,_,_,_|.CU _ _,_,_,f,_,_,_|.Ch _,_,_,f,_,_,_|.Cp _,_,_,f,_,_,_|.CJ _ _,_,_,f,_,_,_|.str _,_,_,f,_,_,_|.ub _,_,_,f,_,_,_|.own _ _ _,_,_,f,_,_,_=>by simp[C7] at f
theorem Rt {w0:World} {X:WX} {β:Nat->Option Nat} {s:St} {a:Act} {w:World} (S:BB w0 X β s a w) {J:Nat->Prop} {id:Nat}:∀{l m:List AV} {vs:List Value},l.all (C7 id)=true->(∀i b,i∈Be l->live (AF s.bk) i->β i=some b->b<w.heap.size->J b)->C6 (DC (AF s.bk)) l m->AT (BF (cx X w β (AF s.bk))) l vs->AT (BF (Cb w J)) m vs
 | [],[],[],_,_,_,_=>trivial
 | .one c::l,.one d::m,v::vs,g,j,f,r=>by
  rw[List.all_cons,Bool.and_eq_true] at g;exact⟨Or.inr (dY S g.1 (fun i b h=>j i b (by simp[Be,h])) f.1 (BA r.1 (by intro e;subst e;exact f.1.elim))),Rt S g.2 (fun i b h=>j i b (by simp[Be,h])) f.2 r.2⟩
 |[],_::_,_,_,_,f,_|_::_,[],_,_,_,f,_=>f.elim
 |.agg _::_,_::_,_,g,_,_,_|.AJ _::_,_::_,_,g,_,_,_=>by simp[C7] at g
 |.one _::_,.agg _::_,_,_,_,f,_|.one _::_,.AJ _::_,_,_,_,f,_=>f.1.elim
 |[],[],_::_,_,_,_,r|.one _::_,.one _::_,[],_,_,_,r=>r.elim
theorem TY {id:Nat}:∀{l:List AV},l.all (C7 id)=true->∀i∈Be l,i≠id
 | [],_,i,b=>by simp[Be] at b
 | .one c::l,a,i,b=>by
  rw[List.all_cons,Bool.and_eq_true] at a;rw[Be] at b;rcases List.mem_append.1 b with h | h
  ·have d:=a.1;cases c <;> simp_all [C7,Bk]
  exact TY a.2 i h
 |.agg _::_,a,_,_|.AJ _::_,a,_,_=>by simp[C7] at a
theorem gk {X:WX} {w':World} {β:Nat->Option Nat} {Bc:Nat->Option AG} {ob:Option Nat} {J:Nat->Prop} {id vv:Nat} (a:ob=β id):∀{b:AG},L4 b=true->CM (BU w' ob J) 0 b->CM (cx X w' β Bc) id (b.Bz vv)
 |.dead _,h,_|.var v cs,h,_=>by simp[L4] at h
 | .arr _ t l,g,h=>h.imp (fun q=>⟨(show β id=none by rw[<-a];exact q.1),q.2⟩) fun⟨b,arr,e,c,d,f⟩=>⟨b,arr,e,(show β id=some b by rw[<-a];exact c),d,fun i y j=>by
  obtain⟨us,k,m⟩:=f i y j;exact⟨us,Kj _ _ _ g k,m⟩⟩
theorem P8 {X:WX} {w':World} {β:Nat->Option Nat} {Bc:Nat->Option AG} {ob:Option Nat} {J:Nat->Prop} {id vv:Nat} (a:ob=β id) (b:vv=AK Bc id):
  ∀{c:AC} {u:Value},BT c=true->Ai (BU w' ob J) c u->Ai (cx X w' β Bc) (HH id vv c) u
 | .AQ t i v off len,_,h,r=>by
  match i,v,h,r with
  | 0,0,_,r=>exact⟨⟨r.1.1,Nat.le_of_eq b⟩,fun _=>by have:=r.2 rfl;show Fm w' (β id) _ _ _ _ _;rw[<-a];exact this⟩
  |0,_+1,h,_|_+1,_,h,_=>simp[BT] at h
 |.int _ _,_,_,r|.bool _,_,_,r|.fn _,_,_,r|.nil,_,_,r=>r
 |.Co _ _ _ _ _,_,h,_|.Ae _ _ _,_,h,_|.BN,_,h,_|.sl _ _,_,h,_|.Ca _ _ _ _ _,_,h,_|.BW _ _ _,_,h,_|.CU _ _,_,h,_|.Ch _,_,h,_|.Cp _,_,h,_|.CJ _ _,_,h,_=>by simp[BT] at h
 | .str _,_,_,r=>r
 |.ub _,_,h,_|.own _ _ _,_,h,_=>by simp[BT] at h
theorem AT.P7 {X:WX} {w':World} {β:Nat->Option Nat} {Bc:Nat->Option AG} {ob:Option Nat} {J:Nat->Prop} {id vv:Nat} (a:ob=β id) (b:vv=AK Bc id):
  ∀{cs:List AC} {us:List Value},cs.all BT=true->AT (Ai (BU w' ob J)) cs us->AT (Ai (cx X w' β Bc)) (cs.map (HH id vv)) us
 | [],[],_,_=>trivial
 | _::_,_::_,e,r=>by simp only[List.all_cons,Bool.and_eq_true] at e;exact⟨P8 a b e.1 r.1,AT.P7 a b e.2 r.2⟩
 |[],_::_,_,r|_::_,[],_,r=>r.elim
theorem gl {X:WX} {w':World} {β:Nat->Option Nat} {Bc:Nat->Option AG} {ob:Option Nat} {J:Nat->Prop} {id vv:Nat} (b:ob=β id) (k:vv=AK Bc id) {r:AV} {u:Value}
  (h:r.all BT=true) (a:BF (BU w' ob J) r u):BF (cx X w' β Bc) (Vj id vv r) u:=by
 cases r with
 | one c=>
  rcases a with rfl | a
  ·exact Or.inl rfl
  exact Or.inr (P8 b k h a)
 | agg cs=>obtain⟨arr,e,a⟩:=a;exact⟨arr,e,AT.P7 b k h a⟩
 | AJ xs=>
  obtain⟨arr,e,a⟩:=a;refine⟨arr,e,?_⟩
  have key:∀(xs:List (Bool×List AC)) (us:List Value),(xs.all fun x=>x.2.all BT)=true->AT (fun z q=>DP (BU w' ob J) (C2 z) q) xs us->AT (fun z q=>DP (cx X w' β Bc) (C2 z) q) (xs.map fun x=>(x.1,x.2.map (HH id vv))) us:=by
   intro xs
   induction xs with
   | nil=>intro us _ f;cases us <;> first | trivial | exact f.elim
   | cons z xs m=>
    intro us i f;cases us with
    | nil=>exact f.elim
    | cons q us=>
     simp only[List.all_cons,Bool.and_eq_true] at i;refine⟨?_,m us i.2 f.2⟩;obtain⟨g,cs⟩:=z;have j:=f.1;cases g with
     | true=>obtain⟨d,e',l⟩:=j;exact⟨d,e',AT.P7 b k i.1 l⟩
     | false=>
      cases cs with
      | nil=>exact Or.inl rfl
      | cons c cs=>
       simp only[List.all_cons,Bool.and_eq_true] at i;rcases j with e1 | j
       ·have e1:c= .BN:=e1;subst e1;exact Or.inl rfl
       exact Or.inr (P8 b k i.1.1 j)
  exact key xs arr.toList h a
theorem dH {X:WX} {w:World} {β:Nat->Option Nat} {s:St} {d b k:Nat} {bo:Option Nat} {Au:AG} {i:Bool} {J:Nat->Prop} (g:d<s.bk.length) (l:(i=false/\J b)\/w.heap.size<=b) (m:bo≠some b)
  (n:∀b,J b->i=false->(cx X w β (AF s.bk)).I b) (c:∀k b,live (AF s.bk) k->β k=some b->b<w.heap.size) (f:live (AF (Av s.bk d (some Au))) k) (a:(if k=d then bo else β k)=some b):False:=by
 rw[Fe _ _ _ g] at f
 by_cases h:k=d
 ·simp[h] at a;exact m a
 simp only[h,if_false] at f a;rcases l with⟨e1,j⟩ | e1
 ·exact (n b j e1).1.2 k f a
 have:=c k b f a;omega
theorem WE:∀(l:List (Option AG)) (id:Nat) (b:AG),AF l id=some b->Av l id (some b)=l
 | [],_,_,h=>by simp[AF] at h
 | a::l,0,b,h=>by rw[Av,show a=some b from h]
 | a::l,n+1,b,h=>by rw[Av,WE l n b h]
theorem MI {X:WX} {w:World} {β:Nat->Option Nat} {bk:Nat->Option AG} {id v:Nat} (m:v=AK bk id):∀{c d:AC} {u:Value},Fc id v c d->Ai (cx X w β bk) c u->Ai (BU w (β id) (cx X w β bk).I) d u
 |.AQ t i j off len,_,_,⟨⟨a,f⟩,g⟩,r|.Ae i j off,_,_,⟨⟨a,f⟩,g⟩,r=>by subst a f g;exact ML (vv:=j) m rfl r
 |.int _ _,_,_,h,r|.bool _,_,_,h,r|.fn _,_,_,h,r=>by rw[show _=_ from h];exact r
 | .sl t l,_,u,h,r=>by
  rw[show _=_ from h];exact By (w':=w) (fun b k=>⟨k,rfl⟩) (.sl t) l [u] r
 | .nil,_,_,h,r=>by
  rcases h with rfl |⟨t,rfl⟩
  ·exact r
  rw[show _=_ from r];exact⟨none,0,rfl,Nat.le_refl _,by simp,.inl rfl⟩
 |.BN,_,_,h,_|.Co _ _ _ _ _,_,_,h,_|.Ca _ _ _ _ _,_,_,h,_|.BW _ _ _,_,_,h,_|.CU _ _,_,_,h,_|.Ch _,_,_,h,_|.Cp _,_,_,h,_|.CJ _ _,_,_,h,_=>h.elim
 | .str _,_,_,h,r=>by rw[show _=_ from h];exact r
 |.ub _,_,_,h,_|.own _ _ _,_,_,h,_=>h.elim
theorem Rh {X:WX} {w:World} {β:Nat->Option Nat} {bk:Nat->Option AG} {id v:Nat} (a:v=AK bk id):∀{l m:List AC} {vs:List Value},Aq (Fc id v) l m->AT (Ai (cx X w β bk)) l vs->AT (Ai (BU w (β id) (cx X w β bk).I)) m vs
 | [],[],[],_,_=>trivial
 | _::_,_::_,_::_,h,r=>⟨MI a h.1 r.1,Rh a h.2 r.2⟩
 |[],_::_,_,h,_|_::_,[],_,h,_=>h.elim
 |[],[],_::_,_,r|_::_,_::_,[],_,r=>r.elim
theorem No {X:WX} {w:World} {β:Nat->Option Nat} {bk:Nat->Option AG} {id v:Nat} (a:v=AK bk id):∀{l m:List AV} {vs:List Value},C6 (Fc id v) l m->AT (BF (cx X w β bk)) l vs->AT (BF (BU w (β id) (cx X w β bk).I)) m vs
 | [],[],[],_,_=>trivial
 | .one c::_,.one d::_,_::_,h,r=>⟨.inr (MI a h.1 (BA r.1 (by intro e;subst e;exact h.1.elim))),No a h.2 r.2⟩
 | .agg c::_,.agg d::_,_::_,h,r=>by
  obtain⟨arr,e,b⟩:=r.1;exact⟨⟨arr,e,Rh a h.1 b⟩,No a h.2 r.2⟩
 |[],_::_,_,h,_|_::_,[],_,h,_=>h.elim
 |.one _::_,.agg _::_,_,h,_|.one _::_,.AJ _::_,_,h,_|.agg _::_,.one _::_,_,h,_|.agg _::_,.AJ _::_,_,h,_|.AJ _::_,.one _::_,_,h,_|.AJ _::_,.agg _::_,_,h,_|.AJ _::_,.AJ _::_,_,h,_=>h.1.elim
 |[],[],_::_,_,r|.one _::_,.one _::_,[],_,r|.agg _::_,.agg _::_,[],_,r=>r.elim
theorem W8 {y:Cx} {w':World} {ob:Option Nat} {J:Nat->Prop} {id:Nat} (j:∀k,J k->y.I k) (hw:y.w=w') (a:y.β id=ob):∀{b:AG},(b.Bz 0).lone=true->CM (BU w' ob J) 0 (b.Bz 0)->CM y id b
 | .dead _,h,_=>by simp[AG.Bz,AG.lone] at h
 | .var _ cs,h,⟨b,arr,e,c,d,f⟩=>⟨b,arr,e,a.trans c,by rw[hw];exact d,AT.pure (x:=BU w' ob J) (y:=y) (fun k g=>⟨j k g,by rw[hw];rfl⟩) (by simpa [AG.Bz,AG.lone] using h) f⟩
 | .arr _ t l,_,h=>h.imp (fun q=>⟨a.trans q.1,q.2⟩) fun⟨b,arr,e,c,d,f⟩=>⟨b,arr,e,a.trans c,by rw[hw];exact d,fun i z m=>by
  obtain⟨us,n,o⟩:=f i z m;exact⟨us,By (w':=y.w) (fun k g=>⟨j k g,by rw[hw];rfl⟩) _ _ _ n,by rw[hw];exact o⟩⟩
theorem VZ {x y:Cx} (h:∀b,x.I b->y.I b/\y.w.heap[b]? =x.w.heap[b]?) {r:AV} {u:Value} (j:r.all Ao=true) (a:BF x r u):BF y r u:=by
 cases r with
 | one c=>exact a.imp (fun q=>q) (Kd h j)
 | agg cs=>obtain⟨arr,e,a⟩:=a;exact⟨arr,e,AT.pure h j a⟩
 | AJ xs=>
  obtain⟨arr,e,a⟩:=a;refine⟨arr,e,?_⟩
  have key:∀(xs:List (Bool×List AC)) (us:List Value),(xs.all fun x=>x.2.all Ao)=true->AT (fun z q=>DP x (C2 z) q) xs us->AT (fun z q=>DP y (C2 z) q) xs us:=by
   intro xs
   induction xs with
   | nil=>intro us _ f;cases us <;> first | trivial | exact f.elim
   | cons z xs m=>
    intro us i f;cases us with
    | nil=>exact f.elim
    | cons q us=>
     simp only[List.all_cons,Bool.and_eq_true] at i;refine⟨?_,m us i.2 f.2⟩;obtain⟨g,cs⟩:=z;have l:=f.1;cases g with
     | true=>obtain⟨d,e',k⟩:=l;exact⟨d,e',AT.pure h i.1 k⟩
     | false=>
      cases cs with
      | nil=>exact Or.inl rfl
      | cons c cs=>
       simp only[List.all_cons,Bool.and_eq_true] at i;exact l.imp (fun q=>q) (Kd h i.1.1)
  exact key xs arr.toList j a
theorem TZ {d v:Nat}:∀{c:AC},Ao c=true->En d v c=c
 | .own _ _ _,h=>by simp[Ao] at h
 |.BN,_|.int _ _,_|.bool _,_|.fn _,_|.nil,_|.sl _ _,_|.AQ _ _ _ _ _,_|.Co _ _ _ _ _,_|.Ae _ _ _,_|.Ca _ _ _ _ _,_|.BW _ _ _,_|.CU _ _,_|.Ch _,_|.Cp _,_|.CJ _ _,_|.str _,_|.ub _,_=>rfl
theorem KM {d v:Nat}:∀{cs:List AC},cs.all Ao=true->cs.map (En d v)=cs/\DM d v cs=[]
 | [],_=>⟨rfl,rfl⟩
 | c::cs,h=>by
  simp only[List.all_cons,Bool.and_eq_true] at h;obtain⟨a,b⟩:=KM (d:=d) (v:=v) h.2;refine⟨by rw[List.map_cons,TZ h.1,a],?_⟩;cases c <;> first | exact b | simp[Ao] at h
theorem OU {d v:Nat}:∀{xs:List (Bool×List AC)},(xs.all fun x=>x.2.all Ao)=true->(xs.map fun x=>(x.1,x.2.map (En d v)))=xs/\DM d v (xs.flatMap (·.2))=[]
 | [],_=>⟨rfl,rfl⟩
 | x::xs,h=>by
  simp only[List.all_cons,Bool.and_eq_true] at h;obtain⟨a,b⟩:=OU (d:=d) (v:=v) h.2;obtain⟨c,f⟩:=KM (d:=d) (v:=v) h.1;exact⟨by rw[List.map_cons,c,a],by rw[List.flatMap_cons,Mg,f];exact b⟩
theorem Tg {d v:Nat} {r:AV} (h:r.all Ao=true):G6 d v r=r/\Gd d v r=[]:=by
 cases r with
 | one c=>exact⟨congrArg AV.one (TZ h),(KM (cs:=[c]) (by simpa [AV.all] using h)).2⟩
 | agg cs=>exact⟨congrArg AV.agg (KM h).1,(KM h).2⟩
 | AJ xs=>exact⟨congrArg AV.AJ (OU h).1,(OU h).2⟩
theorem SL {x:Cx}:∀{qs:List ((t:T)×el t)} {us:List Value},AT (EV x.w x.I) qs us->AT (BF x) (qs.map fun q=>AV.one (.BW q.1 q.2 0)) us
 | [],[],_=>trivial
 | _::_,_::_,h=>⟨Or.inr h.1,SL h.2⟩
 |[],_::_,h|_::_,[],h=>h.elim
theorem SJ {x:Cx}:∀{ps:List (Nat×Nat)} {us:List Value},AT (Jh x) ps us->AT (BF x) (ps.map fun p=>AV.one (.Ae p.1 p.2 0)) us
 | [],[],_=>trivial
 | _::_,_::_,h=>⟨Or.inr h.1,SJ h.2⟩
 |[],_::_,h|_::_,[],h=>h.elim
theorem Rg {R R':AC->AC->Prop} (hR:∀c d,R c d->R' c d):∀{l m:List AC},Aq R l m->Aq R' l m
 | [],[],h=>h
 | _::_,_::_,h=>⟨hR _ _ h.1,Rg hR h.2⟩
 |[],_::_,h|_::_,[],h=>h
theorem Ro {R R':AC->AC->Prop} (hR:∀c d,R c d->R' c d):∀{l m:List AV},C6 R l m->C6 R' l m
 | [],[],h=>h
 | a::_,b::_,h=>⟨by
  have f:=h.1;cases a <;> cases b <;> first | exact hR _ _ f | exact Rg hR f | exact f.elim,Ro hR h.2⟩
 |[],_::_,h|_::_,[],h=>h
theorem cS {bk:Nat->Option AG} {i v:Nat} {c d:AC} (h:Fc i v c d):I3 bk i v c d:=by
 cases c <;> first | exact .inl h | exact h
theorem Rl {x y:Cx} {R:AC->AC->Prop} (hR:∀c d v,R c d->Ai x c v->Ai y d v):∀{l m:List AC} {vs:List Value},Aq R l m->AT (Ai x) l vs->AT (Ai y) m vs
 | [],[],[],_,_=>trivial
 | _::_,_::_,_::_,h,r=>⟨hR _ _ _ h.1 r.1,Rl hR h.2 r.2⟩
 |[],_::_,_,h,_|_::_,[],_,h,_=>h.elim
 |[],[],_::_,_,r|_::_,_::_,[],_,r=>r.elim
theorem LY {x y:Cx} {R:AC->AC->Prop} (hR:∀c d v,R c d->Ai x c v->Ai y d v) (a:∀d,¬R .BN d):∀{l m:List AV} {vs:List Value},C6 R l m->AT (BF x) l vs->AT (BF y) m vs
 | [],[],[],_,_=>trivial
 | .one c::_,.one d::_,_::_,h,r=>⟨.inr (hR _ _ _ h.1 (BA r.1 (by intro e;subst e;exact a _ h.1))),LY hR a h.2 r.2⟩
 | .agg c::_,.agg d::_,_::_,h,r=>by
  obtain⟨arr,e,b⟩:=r.1;exact⟨⟨arr,e,Rl hR h.1 b⟩,LY hR a h.2 r.2⟩
 |[],_::_,_,h,_|_::_,[],_,h,_=>h.elim
 |.one _::_,.agg _::_,_,h,_|.one _::_,.AJ _::_,_,h,_|.agg _::_,.one _::_,_,h,_|.agg _::_,.AJ _::_,_,h,_|.AJ _::_,.one _::_,_,h,_|.AJ _::_,.agg _::_,_,h,_|.AJ _::_,.AJ _::_,_,h,_=>h.1.elim
 |[],[],_::_,_,r|.one _::_,.one _::_,[],_,r|.agg _::_,.agg _::_,[],_,r=>r.elim
theorem NC {w0:World} {X:WX} {β:Nat->Option Nat} {s:St} {a:Act} {w:World} (S:BB w0 X β s a w) {id v:Nat} {cs:List AC} (h:AF s.bk id=some (.var v cs)):
  ∃b us,β id=some b/\b<w.heap.size/\AT (Ai (cx X w β (AF s.bk))) cs us/\w.rangeAt b 0 us:=by
 obtain⟨b,arr,e,i,g,j⟩:=S.blocks id _ h
 have c:b<w.heap.size:=by
  rcases Nat.lt_or_ge b w.heap.size with h' | h'
  ·exact h'
  have d:w.heap[b]? =_:=g;simp[Array.getElem?_eq_none h'] at d
 have f:=Mm (off:=0) (n:=arr.size) g;rw[List.drop_zero,List.take_of_length_le (by simp)] at f;exact⟨b,arr.toList,i,c,j,f⟩
theorem Rd {x:Cx} {c:AC}:∀{us:List Value},AT (Ai x) [c] us->∃u,us=[u]/\Ai x c u
 | [u],h=>⟨u,rfl,h.1⟩
 | [],h=>h.elim
 | _::_::_,h=>h.2.elim
theorem Wc {w0:World} {X:WX} {β:Nat->Option Nat} {s:St} {a:Act} {w:World} (S:BB w0 X β s a w) {l2:List Nat}:∀{ps:List (Nat×Nat)} {qs:List ((t:T)×el t)} {us:List Value},
  Kx (AF s.bk) l2 ps qs->AT (Jh (cx X w β (AF s.bk))) ps us->AT (EV w fun b=>b<w.heap.size) qs us
 | [],[],[],_,_=>trivial
 | p::ps,⟨t,y⟩::qs,u::us,h,r=>by
  refine⟨?_,Wc S h.2 r.2⟩;have l:=h.1
  have i:∀{t:T} {y:el t},AF s.bk p.1=some (.var p.2 (cells t y))->EV w (fun b=>b<w.heap.size) ⟨t,y⟩ u:=fun {t y} c=>by
   obtain⟨b,d,hu⟩:=r.1.2 (Cv c).symm;obtain⟨b',vs,k1,k2,j,k⟩:=NC S c;obtain rfl:b'=b:=Option.some.inj (k1.symm.trans d);exact⟨b',0,vs,hu,k2,By (w':=w) (fun b c=>⟨c.1.1,rfl⟩) _ _ _ ((EF (cx X w β (AF s.bk)) t y vs).2 j),k⟩
  cases t
  case rf t=>
   obtain⟨id,v,_,c,f⟩:=l;obtain⟨b,d,hu⟩:=r.1.2 (Cv c).symm;obtain⟨b',vs,k1,k2,j,k⟩:=NC S c;obtain rfl:b'=b:=Option.some.inj (k1.symm.trans d);obtain⟨z,rfl,m⟩:=Rd j;obtain⟨b2,g,m1,m2,n,o⟩:=NC S f;obtain⟨b3,q,x⟩:=m.2 (Cv f).symm;obtain rfl:b2=b3:=Option.some.inj (m1.symm.trans q);exact⟨b',0,[z],hu,k2,⟨b2,0,g,by rw[x],m2,By (w':=w) (fun b c=>⟨c.1.1,rfl⟩) _ _ _ ((EF (cx X w β (AF s.bk)) t y g).2 n),o⟩,k⟩
  all_goals exact i l
 |[],_::_,_,h,_|_::_,[],_,h,_=>h.elim
 |[],[],_::_,_,r|_::_,_::_,[],_,r=>r.elim
theorem fR {w0:World} {X:WX} {β:Nat->Option Nat} {s:St} {a:Act} {w:World} (S:BB w0 X β s a w) {l2:List Nat} {c d:AC} {v:Value} (h:Kv (AF s.bk) l2 c d) (r:Ai (cx X w β (AF s.bk)) c v):Ai (Cb w fun b=>b<w.heap.size) d v:=by
 have go:∀{c d:AC} {v:Value},DC (AF s.bk) c d->Ai (cx X w β (AF s.bk)) c v->Ai (Cb w fun b=>b<w.heap.size) d v:=fun h r=>Ps S (J:=fun b=>b<w.heap.size) (fun b j=>j.1.1) (fun _ _ _ _ _ h=>h) h r
 cases c
 case CU f ps=>
  obtain⟨qs,g,i⟩:=h;subst i;obtain⟨us,e,k⟩:=r;exact⟨us,e,Wc S g k⟩
 all_goals (refine go ?_ r;exact h)
theorem cT {w0:World} {X:WX} {β:Nat->Option Nat} {s:St} {a:Act} {w:World} (S:BB w0 X β s a w) {id v:Nat} (k:v=AK (AF s.bk) id) (f:live (AF s.bk) id) {c d:AC} {u:Value} (h:I3 (AF s.bk) id v c d) (r:Ai (cx X w β (AF s.bk)) c u):
  Ai (BU w (β id) (cx X w β (AF s.bk)).I) d u:=by
 cases c
 case Ae i w' off=>
  rcases h with h |⟨⟨j,n⟩,o,g,p⟩
  ·exact MI k h r
  subst n p;obtain⟨b,l,hu⟩:=r.2 (Cv g).symm;obtain⟨b',vs,k1,k2,q,t⟩:=NC S g;obtain rfl:b'=b:=Option.some.inj (k1.symm.trans l);obtain⟨x,rfl,m⟩:=Rd q;exact⟨b',0,x,hu,⟨k2,fun e=>j (S.inj i id b' ⟨_,g,rfl⟩ f k1 e)⟩,⟨⟨m.1.1,Nat.le_refl _⟩,fun _=>m.2 k⟩,t⟩
 all_goals (refine MI k ?_ r;exact h)
theorem fS (o:Oper) {c:Call} {x:Operand} (ho:o.op= .call c) (hc:c.callee= .value x):Sound P (env P) TI o:=by
 intro w0 X β s a w S f h N Q hN;simp only[B5,ho,hc] at h;have hx:=Bx S x;have ax:∀b,(cx X w β (AF s.bk)).I b->b<w.heap.size:=fun b p=>p.1.1
 have a8:∀b o,w.heap[b]? =some o->b<w.heap.size:=fun b o h=>by
  rcases Nat.lt_or_ge b w.heap.size with h' | h'
  ·exact h'
  simp[Array.getElem?_eq_none h'] at h
 have U:∀k b,live (AF s.bk) k->β k=some b->b<w.heap.size:=fun k b ⟨ao,F,hl⟩ p=>by
  have r:=S.blocks k ao F;cases ao with
  | dead _=>simp[AG.live] at hl
  | var _ _=>obtain⟨b',arr,e,K,R,_⟩:=r;obtain rfl:b=b':=Option.some.inj (p.symm.trans K);exact a8 b _ R
  | arr _ _ _=>
   rcases r with⟨K,_⟩ |⟨b',arr,e,K,R,_⟩
   ·exact absurd (p.symm.trans K) (by simp)
   obtain rfl:b=b':=Option.some.inj (p.symm.trans K);exact a8 b _ R
 obtain⟨g,A,V,cap,ae,D,hU,h⟩:∃(g:FuncId) (A:List AV) (V:List Value) (cap:Array Value),a.eval x= .func (.func g) #[] cap/\AT (BF (cx X w β (AF s.bk))) A V/\c.args.map a.eval++cap=V.toArray/\FQ (env P) g A (BP o) (AF s.bk) (fun g=>g=f):=by
  have D:=LZ (Bx S) c.args.toList
  split at h
  ·rename_i g he
   rw[he] at hx;exact⟨g,_,_,#[],BA hx (by simp),D,Array.ext' (by simp),h⟩
  ·rename_i g qs he
   rw[he] at hx;obtain⟨us,e,r⟩:=BA hx (by simp);exact⟨g,_,_,us,e,D.append (SL r),Array.ext' (by simp),h⟩
  ·rename_i g ps he
   rw[he] at hx;obtain⟨us,e,r⟩:=BA hx (by simp);exact⟨g,_,_,us,e,D.append (SJ r),Array.ext' (by simp),h⟩
  exact h.elim
 have after:∀(fl:Bool) (r:AV) (rd:List Nat) (J:Nat->Prop),(∀b,J b->fl=false->(cx X w β (AF s.bk)).I b)->Callee P g->(r.all Bp=true/\r.wf=true)->
   Calls P g (c.args.map a.eval++cap) w (fun e w'=>∃u bo,e= .returned u/\Below w.heap.size w w'/\Fo (Cb w' fun b=>((fl=false/\J b)\/w.heap.size<=b)/\b<w'.heap.size/\bo≠some b) w.heap.size bo r u)->
   f=⟨G6 (BP o) (AK (AF s.bk) (BP o)+1) r,Gd (BP o) (AK (AF s.bk) (BP o)+1) r,rd⟩->o.wp P a w N Q:=by
  intro fl r rd J hJ C Y z hf;have hA:∀b,((fl=false/\J b)\/w.heap.size<=b)->X.A b:=fun b p=>p.elim (fun q=>(hJ b q.2 q.1).2) fun q=>S.fresh.1 b (Nat.le_trans S.size q)
  subst hf;refine Jf ho hc ae C z fun e w' ⟨u,bo,he,p,hr⟩=>⟨u,he,?_⟩
  have a1:∀b,b<w.heap.size->w'.heap[b]? =w.heap[b]? :=p.block
  by_cases G:BP o<s.bk.length
  ·rcases VI (BP o) (AK (AF s.bk) (BP o)+1) Y.2 hr with h0 |⟨t,l,u',h0,K⟩
   ·rw[h0] at hN
    have aJ:∀{y:Cx},y.w=w'->(∀b,(Cb w' fun b=>((fl=false/\J b)\/w.heap.size<=b)/\b<w'.heap.size/\bo≠some b).I b->y.I b)->BF y (G6 (BP o) (AK (AF s.bk) (BP o)+1) r) u:=by
     intro y hw hI;exact Te h0 Y (fun b p=>⟨hI b p,by rw[hw];rfl⟩) hr
    refine hN β _ w' (S.ext a1 p.size p.os p.tape p.output (aJ rfl fun b m=>⟨⟨m.2.1,fun k F aj=>?_⟩,hA b m.1⟩));rcases m.1 with⟨e1,e2⟩ | e1
    ·exact (hJ b e2 e1).1.2 k F aj
    have:=U k b F aj;omega
   rw[h0] at hN;obtain⟨base,cap,e,k1,k2,aH,k3⟩:=K
   have aw:∀b,(((fl=false/\J b)\/w.heap.size<=b)/\b<w'.heap.size/\bo≠some b)->
     (cx X w' (fun k=>if k=BP o then bo else β k) (AF (Av s.bk (BP o) (some (.arr (AK (AF s.bk) (BP o)+1) t l))))).I b/\w'.heap[b]? =w'.heap[b]? :=
    fun b m=>⟨⟨⟨m.2.1,fun k F aj=>dH G m.1 m.2.2 hJ U F aj⟩,hA b m.1⟩,rfl⟩
   refine hN (fun k=>if k=BP o then bo else β k) _ w' (S.write G aH (fun k F=>by simp[F]) (by simp[AG.AK]) (fun e=>by simp[AG.AK] at e) (fun b m _=>a1 b m) p.size
    (fun b arr e M=>⟨arr,(a1 b (a8 b _ M)).trans M,rfl⟩) p.os p.tape p.output (fun _ b m=> .inr ?_) (fun hle=>?_) (fun hle=>?_))
   ·simp at m;rcases k3 with⟨q1,_⟩ |⟨b',arr,e',q1,q2,_⟩
    ·rw[q1] at m;cases m
    rw[q1] at m;obtain rfl:=Option.some.inj m;exact q2
   ·rcases k3 with⟨q1,q2,_⟩ |⟨b',arr,e',q1,q2,q3,q4,q5,q6⟩
    ·exact Or.inl ⟨by show (if BP o=BP o then _ else _)=_;simp[q1],q2⟩
    refine Or.inr ⟨b',arr,e',by show (if BP o=BP o then _ else _)=_;simp[q1],q4,fun i y hy=>?_⟩;obtain⟨us,p1,p2⟩:=q6 i y hy;exact⟨us,By (w':=w') aw _ _ _ p1,p2⟩
   refine bL (x:=Cb w' fun b=>((fl=false/\J b)\/w.heap.size<=b)/\b<w'.heap.size/\bo≠some b) (lo:=w.heap.size) (bo:=bo) aw rfl ?_ ?_ Y.1 hr
   ·show _<=AK _ (BP o);rw[ET _ _ _ G,if_pos rfl];simp[AG.AK]
   intro _;show (if BP o=BP o then _ else _)=_;simp
  have O:s.bk.length<=BP o:=Nat.le_of_not_lt G
  have aK:s.app o.dst ⟨G6 (BP o) (AK (AF s.bk) (BP o)+1) r,Gd (BP o) (AK (AF s.bk) (BP o)+1) r,rd⟩=s.app none ⟨.one .BN,[],rd⟩:=by
   have e1:∀v,Er s.sl o.dst v=s.sl:=fun v=>by
    cases hd:o.dst with
    | none=>rfl
    | some q=>simp[BP,hd] at O;simp[Er,GF s.sl q v (by rw[S.len,<-S.GZ];exact O)]
   have e2:Ci (Gd (BP o) (AK (AF s.bk) (BP o)+1) r) s.bk=s.bk:=by
    rcases VI (BP o) (AK (AF s.bk) (BP o)+1) Y.2 hr with h0 |⟨t,l,u',h0,_⟩
    ·rw[h0];rfl
    rw[h0];simp[Ci,GF _ _ _ O]
   simp only[St.app,e1,e2];rfl
  have ha:a.put o.dst u=a.put none undef:=by
   cases hd:o.dst with
   | none=>rfl
   | some q=>
    simp[BP,hd] at O;have:a.tmps.size<=q:=by rw[<-S.GZ];exact O
    simp[Act.put,Array.setIfInBounds_eq_of_size_le this]
  rw[ha];exact hN β _ w' (by rw[aK];exact S.ext a1 p.size p.os p.tape p.output (Hi _ _))
 have wv:∀(id:Nat) (Au:AG) (B:List AV) (r:AV) (b1:AG) (rd:List Nat),AF s.bk id=some Au->C6 (I3 (AF s.bk) id Au.AK) A B->(env P).W g B (Au.Bz 0) r b1->(⟨r,[(id,b1.Bz Au.AK)],rd⟩:BR)=f->o.wp P a w N Q:=by
  intro id Au B r b1 rd p hle R h;obtain⟨C,⟨hp,a6,al⟩,L⟩:=R
  have G:id<s.bk.length:=by
   rcases Nat.lt_or_ge id s.bk.length with O | O
   ·exact O
   rw[F8 _ _ O] at p;cases p
  have n:live (AF s.bk) id:=by
   refine⟨Au,p,?_⟩;cases Au <;> simp_all [AG.live,AG.lone,AG.Bz]
  have ab:Au.AK=AK (AF s.bk) id:=(Cv p).symm;have a5:∀b,(cx X w β (AF s.bk)).I b->(cx X w β (AF s.bk)).I b/\w.heap[b]? =w.heap[b]? :=fun b p=>⟨p,rfl⟩
  have aa:CM (BU w (β id) (cx X w β (AF s.bk)).I) 0 (Au.Bz 0):=MJ a5 a6 (S.blocks id Au p)
  have z:=L w (cx X w β (AF s.bk)).I (β id) V (fun b p=>⟨p.1.1,fun e=>p.1.2 id n e⟩) S.G5 aa
   (by have:=S.lens id Au p;cases Au <;> simpa [AG.short,AG.Bz] using this) (LY (fun c d v h r=>cT S ab n h r) (fun d h=>h.elim) hle D)
  subst h;rw[<-hU] at z;refine Jf ho hc ae C z fun e w' M=>?_
  obtain⟨u,he,⟨p1,p2,p3,p4,p5⟩,p6,p7,p8,p9⟩:=M;have ad:(b1.Bz Au.AK).AK=Au.AK:=by cases b1 <;> rfl
  refine⟨u,he,?_⟩
  have hJ:∀k,(((cx X w β (AF s.bk)).I k\/w.heap.size<=k)/\k<w'.heap.size/\β id≠some k)->(cx X w' β (AF (Av s.bk id (some (b1.Bz Au.AK))))).I k:=fun k F=>by
   have H:∀j,live (AF (Av s.bk id (some (b1.Bz Au.AK)))) j->live (AF s.bk) j:=fun j hj=>by
    rw[Fe _ _ _ G] at hj
    by_cases h:j=id
    ·subst h;exact n
    rw[if_neg h] at hj;exact hj
   rcases F.1 with h | h
   ·exact⟨⟨F.2.1,fun j hj=>h.1.2 j (H j hj)⟩,h.2⟩
   refine⟨⟨F.2.1,fun j hj e=>?_⟩,S.fresh.1 k (Nat.le_trans S.size h)⟩;have:=U j k (H j hj) e;omega
  refine hN β _ w' (S.write G (by cases b1 <;> simpa [AG.short,AG.Bz] using p9) (fun _ _=>rfl) (by rw[ad];exact Nat.le_of_eq ab.symm) (fun _=>⟨rfl,fun _=>n⟩) (fun b m a2=>p5 b m (a2 n)) p4 (fun b arr e M=>?_) p1 p2 p3 (fun _ b m=> .inl ⟨m,n⟩) (fun _=>?_) (fun _=>?_))
  ·by_cases Z:β id=some b
   ·exact p6 b arr e Z M
   exact⟨arr,(p5 b (a8 b _ M) Z).trans M,rfl⟩
  ·have e0:b1.Bz 0=b1:=by cases b1 <;> simp_all [AG.lone,AG.Bz]
   refine W8 (b:=b1.Bz Au.AK) hJ rfl rfl ?_ ?_
   ·show ((b1.Bz Au.AK).Bz 0).lone=true;rw[show (b1.Bz Au.AK).Bz 0=b1.Bz 0 by cases b1 <;> rfl,e0];exact al
   rw[show (b1.Bz Au.AK).Bz 0=b1.Bz 0 by cases b1 <;> rfl,e0];exact p8
  exact VZ (x:=BU w' (β id) fun k=>((cx X w β (AF s.bk)).I k\/w.heap.size<=k)/\k<w'.heap.size/\β id≠some k) (y:=cx X w' β (AF (Av s.bk id (some (b1.Bz Au.AK))))) (fun k F=>⟨hJ k F,rfl⟩) hp p7
 rcases h with⟨B,r,K,R,h⟩ |⟨B,r,K,R,h⟩ | h |⟨id,Au,B,r,K,R,h⟩ |⟨id,Au,B,r,K,R,h⟩ | h |⟨id,Au,B,r,b1,K,R,h⟩ |⟨l2,B,r,K,R,h⟩ |⟨id,Au,B,r,b1,K,R,h⟩
 ·obtain⟨C,Y,L⟩:=R ();have:=L w (cx X w β (AF s.bk)).I V ax S.G5 (Nn (x:=cx X w β (AF s.bk)) (y:=Cb w (cx X w β (AF s.bk)).I) (fun b p=>⟨p,rfl⟩) (K ()) D);exact after false r _ _ (fun b p _=>p) C Y (by rw[hU];exact this) h.symm
 ·obtain⟨C,Y,L⟩:=R ();have:=L w (fun b=>b<w.heap.size) V (fun b p=>p) (S.G5.mono fun b p=>⟨p.1.1,rfl⟩) (J4 S (fun b p=>p.1.1) (fun _ _ _ _ _ h=>h) (K ()) D);exact after true r _ (fun b=>b<w.heap.size) (fun b _ e=>by cases e) C Y (by rw[hU];exact this) h.symm
 ·skip
  split at h
  case h_2=>exact h.elim
  rename_i c0 rest
  split at h
  case h_2=>exact h.elim
  rename_i id vv aC
  split at h
  case h_2=>exact h.elim
  rename_i Au p
  split at h
  case isFalse=>exact h.elim
  rename_i aD
  obtain⟨B,r,b1,K,R,h⟩:=h;obtain⟨aI,K⟩:=K ();obtain⟨R,aE,aG⟩:=R ();obtain⟨C,⟨aQ,aR,aF,aS⟩,L⟩:=R
  match V,D with
  | v0::vs,⟨ar,au⟩=>
  have av:vv=AK (AF s.bk) id:=by rw[Cv p];exact aD.symm
  have G:id<s.bk.length:=by
   rcases Nat.lt_or_ge id s.bk.length with O | O
   ·exact O
   rw[F8 _ _ O] at p;cases p
  have n:live (AF s.bk) id:=by
   refine⟨Au,p,?_⟩;cases Au <;> simp_all [AG.live,AG.lone,AG.Bz]
  have a5:∀b,(cx X w β (AF s.bk)).I b->(b<w.heap.size/\β id≠some b)/\w.heap[b]? =w.heap[b]? :=fun b p=>⟨⟨p.1.1,p.1.2 id n⟩,rfl⟩
  have aq:Ai (BU w (β id) fun b=>b<w.heap.size/\β id≠some b) (HH 0 0 c0) v0:=ML av aC (BA ar (by intro e;subst e;cases aC));have aa:CM (BU w (β id) fun b=>b<w.heap.size/\β id≠some b) 0 (Au.Bz 0):=MJ a5 aF (S.blocks id Au p)
  have z:=L w (fun b=>b<w.heap.size/\β id≠some b) (β id) v0 vs (fun b p=>p) (S.G5.mono a5) aq aa (by have:=S.lens id Au p;cases Au <;> simpa [AG.short,AG.Bz] using this)
   (J4 S (fun b p=>(a5 b p).1) (fun af b ag ak m ah=>⟨ah,fun e=>aI (S.inj af id b ak n m e ▸ ag)⟩) K au)
  subst h;rw[<-hU] at z;refine Jf ho hc ae C z fun e w' M=>?_
  obtain⟨u,he,⟨p1,p2,p3,p4,p5⟩,p6,p7,p8,p9⟩:=M;refine⟨u,he,?_⟩;have ad:(b1.Bz vv).AK=vv:=by cases b1 <;> rfl
  refine hN β _ w' (S.write G (by cases b1 <;> simpa [AG.short,AG.Bz] using p9) (fun _ _=>rfl) (by rw[ad];omega) (fun _=>⟨rfl,fun _=>n⟩) (fun b m a2=>p5 b m (a2 n)) p4 (fun b arr e M=>?_) p1 p2 p3 (fun _ b m=> .inl ⟨m,n⟩) (fun _=>?_) (fun _=>?_))
  ·by_cases Z:β id=some b
   ·exact p6 b arr e Z M
   exact⟨arr,(p5 b (a8 b _ M) Z).trans M,rfl⟩
  ·exact gk rfl aE p8
  refine gl rfl ?_ aG p7
  show vv=AK _ id
  rw[ET _ _ _ G,if_pos rfl,ad]
 ·obtain⟨p,hle⟩:=K ();obtain⟨C,⟨hp,a6⟩,L⟩:=R ()
  have G:id<s.bk.length:=by
   rcases Nat.lt_or_ge id s.bk.length with O | O
   ·exact O
   rw[F8 _ _ O] at p;cases p
  have n:live (AF s.bk) id:=by
   refine⟨Au,p,?_⟩;cases Au <;> simp_all [AG.live,AG.lone,AG.Bz]
  have ab:Au.AK=AK (AF s.bk) id:=(Cv p).symm;have a5:∀b,(cx X w β (AF s.bk)).I b->(cx X w β (AF s.bk)).I b/\w.heap[b]? =w.heap[b]? :=fun b p=>⟨p,rfl⟩
  have aa:CM (BU w (β id) (cx X w β (AF s.bk)).I) 0 (Au.Bz 0):=MJ a5 a6 (S.blocks id Au p)
  have z:=L w (cx X w β (AF s.bk)).I (β id) V (fun b p=>⟨p.1.1,fun e=>p.1.2 id n e⟩) S.G5 aa
   (by have:=S.lens id Au p;cases Au <;> simpa [AG.short,AG.Bz] using this) (No ab hle D)
  subst h
  have heq:s.app o.dst ⟨r,[],[id]⟩=s.app o.dst ⟨r,[(id,Au)],[id]⟩:=by
   unfold St.app;simp only[Ci,WE _ _ _ p]
  rw[heq] at hN;rw[<-hU] at z;refine Jf ho hc ae C z fun e w' M=>?_
  obtain⟨u,he,⟨p1,p2,p3,p4,p5⟩,p6,p7,p8⟩:=M;refine⟨u,he,?_⟩
  have hJ:∀k,(((cx X w β (AF s.bk)).I k\/w.heap.size<=k)/\k<w'.heap.size/\β id≠some k)->(cx X w' β (AF (Av s.bk id (some Au)))).I k:=fun k F=>by
   have H:∀j,live (AF (Av s.bk id (some Au))) j->live (AF s.bk) j:=fun j hj=>by
    rw[Fe _ _ _ G] at hj
    by_cases h:j=id
    ·subst h;exact n
    rw[if_neg h] at hj;exact hj
   rcases F.1 with h | h
   ·exact⟨⟨F.2.1,fun j hj=>h.1.2 j (H j hj)⟩,h.2⟩
   refine⟨⟨F.2.1,fun j hj e=>?_⟩,S.fresh.1 k (Nat.le_trans S.size h)⟩;have:=U j k (H j hj) e;omega
  refine hN β _ w' (S.write G (S.lens id Au p) (fun _ _=>rfl) (Nat.le_of_eq ab.symm) (fun _=>⟨rfl,fun _=>n⟩) (fun b m a2=>p5 b m (a2 n)) p4 (fun b arr e M=>?_) p1 p2 p3 (fun _ b m=> .inl ⟨m,n⟩) (fun _=>?_) (fun _=>?_))
  ·by_cases Z:β id=some b
   ·exact p6 b arr e Z M
   exact⟨arr,(p5 b (a8 b _ M) Z).trans M,rfl⟩
  ·exact W8 hJ rfl rfl a6 p8
  exact VZ (x:=BU w' (β id) fun k=>((cx X w β (AF s.bk)).I k\/w.heap.size<=k)/\k<w'.heap.size/\β id≠some k) (y:=cx X w' β (AF (Av s.bk id (some Au)))) (fun k F=>⟨hJ k F,rfl⟩) hp p7
 ·obtain⟨⟨h0,p,ay⟩,aL⟩:=K ();obtain⟨⟨C,Y,L⟩,aB⟩:=R ()
  have G:id<s.bk.length:=by
   rcases Nat.lt_or_ge id s.bk.length with O | O
   ·exact O
   rw[F8 _ _ O] at p;cases p
  have ab:Au.AK=AK (AF s.bk) id:=(Cv p).symm
  have ai:∀k,live (AF (Av s.bk id (some (.dead Au.AK)))) k->k≠id/\live (AF s.bk) k:=fun k F=>by
   rw[Fe _ _ _ G] at F
   by_cases h:k=id
   ·rw[if_pos h] at F;cases F
   rw[if_neg h] at F;exact⟨h,F⟩
  have z:=L w (cx X w β (AF (Av s.bk id (some (.dead Au.AK))))).I V (fun b m=>m.1.1) (S.G5.mono fun b m=>⟨⟨⟨m.1.1,fun k F=>m.1.2 k (ai k F).2⟩,m.2⟩,rfl⟩)
   (J4 S (fun b m=>⟨⟨m.1.1,fun k F=>m.1.2 k (ai k F).2⟩,m.2⟩) (fun af b ag ak m ah=>by
    have e:af=id:=by simpa using List.all_eq_true.1 ay af ag
    subst e;refine⟨⟨ah,fun k F e=>(ai k F).1 (S.inj k af b (ai k F).2 ak e m)⟩,?_⟩;rcases S.own af b ak m with O | O
    ·exact S.fresh.1 b O
    exact absurd O.2 h0) aL D)
  subst h;rw[<-hU] at z;refine Jf ho hc ae C z fun e w' M=>?_
  obtain⟨u,bo,he,a7,hr⟩:=M;refine⟨u,he,?_⟩;have a1:∀b,b<w.heap.size->w'.heap[b]? =w.heap[b]? :=a7.block
  refine hN β _ w' (S.write G trivial (fun _ _=>rfl) (Nat.le_of_eq ab.symm) (fun _=>⟨rfl,fun e=>by cases e⟩) (fun b m _=>a1 b m) a7.size (fun b arr e M=>⟨arr,(a1 b (a8 b _ M)).trans M,rfl⟩) a7.os a7.tape a7.output
   (fun e=>by cases e) (fun _=>trivial) (fun _=>?_))
  have hJ:∀b,(((false=false/\(cx X w β (AF (Av s.bk id (some (.dead Au.AK))))).I b)\/w.heap.size<=b)/\b<w'.heap.size/\bo≠some b)->(cx X w' β (AF (Av s.bk id (some (.dead Au.AK))))).I b/\w'.heap[b]? =w'.heap[b]? :=fun b m=>by
   obtain⟨q1,q2,_⟩:=m;rcases q1 with⟨_,q1⟩ | q1
   ·exact⟨⟨⟨q2,q1.1.2⟩,q1.2⟩,rfl⟩
   refine⟨⟨⟨q2,fun k F e=>?_⟩,S.fresh.1 b (Nat.le_trans S.size q1)⟩,rfl⟩;have:=U k b (ai k F).2 e;omega
  have hg:=Te (x:=Cb w' fun b=>((false=false/\(cx X w β (AF (Av s.bk id (some (.dead Au.AK))))).I b)\/w.heap.size<=b)/\b<w'.heap.size/\bo≠some b) (y:=cx X w' β (AF (Av s.bk id (some (.dead Au.AK))))) (Tg (d:=0) (v:=0) aB).2 Y hJ hr;rw[(Tg (d:=0) (v:=0) aB).1] at hg;exact hg
 ·skip
  split at h
  case h_2=>exact h.elim
  rename_i t id v off len rest
  split at h
  case h_2=>exact h.elim
  rename_i v' t' l p
  split at h
  case isFalse=>exact h.elim
  rename_i aN
  obtain⟨rfl,aM⟩:=aN;obtain rfl:=T.beq_eq aM;obtain⟨B,l',K,R,h⟩:=h;have h:=h _ rfl;obtain⟨⟨rfl,rfl⟩,az,K⟩:=K ();obtain⟨C,L⟩:=R ()
  match V,D with
  | v0::vs,⟨ar,au⟩=>
  have av:v'=AK (AF s.bk) id:=by rw[Cv p];rfl
  have G:id<s.bk.length:=by
   rcases Nat.lt_or_ge id s.bk.length with O | O
   ·exact O
   rw[F8 _ _ O] at p;cases p
  have n:live (AF s.bk) id:=⟨_,p,rfl⟩;have a5:∀b,(cx X w β (AF s.bk)).I b->(cx X w β (AF s.bk)).I b/\w.heap[b]? =w.heap[b]? :=fun b p=>⟨p,rfl⟩
  have aq:Ai (BU w (β id) (cx X w β (AF s.bk)).I) (.AQ t' 0 0 0 l.length) v0:=ML av rfl (BA ar (by simp));have aa:CM (BU w (β id) (cx X w β (AF s.bk)).I) 0 (.arr 0 t' l):=MJ a5 rfl (S.blocks id _ p)
  have aA:∀i b,live (AF s.bk) i->β i=some b->∃arr e,w.heap[b]? =some (.cells arr e (0,0)):=fun i b ⟨bl,q1,q2⟩ q3=>by
   have:=S.blocks i bl q1;cases bl with
   | dead _=>cases q2
   | var _ cs=>obtain⟨b',arr,e,g1,g2,_⟩:=this;exact⟨arr,e,by rw[<-Option.some.inj (g1.symm.trans q3)];exact g2⟩
   | arr _ t1 l1=>
    rcases this with⟨g1,_⟩ |⟨b',arr,e,g1,g2,_⟩
    ·exact absurd (g1.symm.trans q3) (by simp)
    exact⟨arr,e,by rw[<-Option.some.inj (g1.symm.trans q3)];exact g2⟩
  have z:=L w (cx X w β (AF s.bk)).I (fun b=>∃i,i∈Be rest/\live (AF s.bk) i/\β i=some b) (β id) v0 vs (fun b p=>⟨p.1.1,fun e=>p.1.2 id n e⟩) S.G5
   (fun b ⟨i,q1,q2,q3⟩=>⟨fun e=>TY az i q1 (S.inj i id b q2 n q3 e),aA i b q2 q3⟩) aq aa (S.lens id _ p)
   (Rt S az (fun i b q1 q2 q3 _=>⟨i,q1,q2,q3⟩) K au)
  subst h;rw[<-hU] at z;refine Jf ho hc ae C z fun e w' M=>?_
  obtain⟨u,an,he,⟨p1,p2,p3,p4,p5⟩,p6,p7,p8,p9,aO⟩:=M;refine⟨u,he,?_⟩
  have hJ:∀k,(((cx X w β (AF s.bk)).I k\/w.heap.size<=k)/\k<w'.heap.size/\β id≠some k/\an≠some k)->(cx X w' (fun k=>if k=id then an else β k) (AF (Av s.bk id (some (.arr (v'+1) t' l'))))).I k:=fun k F=>by
   have H:∀j,j≠id->live (AF (Av s.bk id (some (.arr (v'+1) t' l')))) j->live (AF s.bk) j:=fun j hn hj=>by
    rw[Fe _ _ _ G,if_neg hn] at hj;exact hj
   have a2:∀j,live (AF (Av s.bk id (some (.arr (v'+1) t' l')))) j->(if j=id then an else β j)≠some k:=fun j hj=>by
    by_cases hn:j=id
    ·rw[if_pos hn];exact F.2.2.2
    rw[if_neg hn];rcases F.1 with h | h
    ·exact h.1.2 j (H j hn hj)
    intro e;have:=U j k (H j hn hj) e;omega
   rcases F.1 with h | h
   ·exact⟨⟨F.2.1,a2⟩,h.2⟩
   exact⟨⟨F.2.1,a2⟩,S.fresh.1 k (Nat.le_trans S.size h)⟩
  refine hN (fun k=>if k=id then an else β k) _ w' (S.write G p8 (fun k F=>by simp[F]) (by simp only[AG.AK];omega) (fun e=>by simp only[AG.AK] at e;omega) (fun b m a2=>p5 b m (a2 n)) p4 (fun b arr e M=>?_) p1 p2 p3 (fun _ b m=>?_) (fun _=>?_) (fun _=>?_))
  ·by_cases Z:β id=some b
   ·exact p6 b arr e Z M
   exact⟨arr,(p5 b (a8 b _ M) Z).trans M,rfl⟩
  ·simp at m;rcases p7 with p7 |⟨b2,p7,aP⟩
   ·exact .inl ⟨by rw[<-p7,m],n⟩
   rw[p7] at m;obtain rfl:=Option.some.inj m;exact .inr aP
  ·refine aO.imp (fun q=>⟨?_,q.2⟩) fun⟨b,arr,e,K,R,h3⟩=>⟨b,arr,e,?_,R,fun i y hy=>?_⟩
   ·show (if id=id then _ else _)=_;rw[if_pos rfl];exact q.1
   ·show (if id=id then _ else _)=_;rw[if_pos rfl];exact K
   obtain⟨us,q1,q2⟩:=h3 i y hy;exact⟨us,By (w':=w') (fun k F=>⟨hJ k F,rfl⟩) _ _ _ q1,q2⟩
  refine .inr ⟨⟨p9.1.1,?_⟩,fun _=>?_⟩
  ·show v'+1<=AK _ id;rw[ET _ _ _ G,if_pos rfl];exact Nat.le_refl _
  have:=p9.2 rfl
  show Fm w' (if id=id then _ else _) _ _ _ _ _;rw[if_pos rfl];exact this
 ·exact wv id Au B r b1 [id] (K ()).1 (Ro (fun _ _=>cS) (K ()).2) (R ()) h
 ·obtain⟨C,Y,L⟩:=R ();have:=L w (fun b=>b<w.heap.size) V (fun b p=>p) (S.G5.mono fun b p=>⟨p.1.1,rfl⟩) (LY (fun c d v h r=>fR S h r) (fun d h=>h.elim) (K ()) D);exact after true r _ (fun b=>b<w.heap.size) (fun b _ e=>by cases e) C Y (by rw[hU];exact this) h.symm
 exact wv id Au B r b1 _ (K ()).1 (K ()).2 (R ()) h
end
end Go.Abs
