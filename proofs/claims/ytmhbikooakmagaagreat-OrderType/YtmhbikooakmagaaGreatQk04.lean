/- Part 5 of a proof. Conditions: each theorem's own. -/
import Derived.Test.YtmhbikooakmagaaGreatQk03
set_option linter.all false
set_option maxHeartbeats 8000000
set_option maxRecDepth 20000
namespace Go.Abs
open Go.RowKit
section
variable {P:Program} {TI:TypeId->Info}
theorem JM {w0:World} {X:WX} {β:Nat->Option Nat} {s:St} {a:Act} {w:World} (S:Av w0 X β s a w) {J:Nat->Prop} (j:∀b,(cx X w β (AF s.bk)).I b->J b):
  ∀{l m:List AV} {vs:List Value},(∀id b,id∈BR l->live (AF s.bk) id->β id=some b->b<w.heap.size->J b)->D3 (C9 (AF s.bk)) l m->AR (BB (cx X w β (AF s.bk))) l vs->AR (BB (CR w J)) m vs
 | [],[],[],_,_,_=>trivial
 | .one c::_,.one d::_,_::_,i,g,r=>⟨Or.inr (VO S j (fun id b f=>i id b (by simp[BR,f])) g.1 (BE r.1 (by intro e;subst e;exact g.1.elim))),JM S j (fun id b f=>i id b (by simp[BR,f])) g.2 r.2⟩
 | .agg c::_,.agg d::_,_::_,i,g,r=>by
  obtain⟨arr,e,k⟩:=r.1;refine⟨⟨arr,e,?_⟩,JM S j (fun id b f=>i id b (by rw[BR];exact List.mem_append_right _ f)) g.2 r.2⟩;exact all (fun id b f=>i id b (by rw[BR];exact List.mem_append_left _ f)) g.1 k
 |[],_::_,_,_,g,_|_::_,[],_,_,g,_=>g.elim
 |.one _::_,.agg _::_,_,_,g,_|.one _::_,.AI _::_,_,_,g,_|.agg _::_,.one _::_,_,_,g,_|.agg _::_,.AI _::_,_,_,g,_|.AI _::_,.one _::_,_,_,g,_|.AI _::_,.agg _::_,_,_,g,_|.AI _::_,.AI _::_,_,_,g,_=>g.1.elim
 |[],[],_::_,_,_,r|.one _::_,.one _::_,[],_,_,r|.agg _::_,.agg _::_,[],_,_,r=>r.elim
where
 all:∀{l m:List AC} {vs:List Value},(∀id b,id∈l.flatMap BY->live (AF s.bk) id->β id=some b->b<w.heap.size->J b)->Aj (C9 (AF s.bk)) l m->AR (Ah (cx X w β (AF s.bk))) l vs->AR (Ah (CR w J)) m vs
  | [],[],[],_,_,_=>trivial
  | _::_,_::_,_::_,i,h,r=>⟨VO S j (fun id b f=>i id b (by rw[List.flatMap_cons];exact List.mem_append_left _ f)) h.1 r.1,all (fun id b f=>i id b (by rw[List.flatMap_cons];exact List.mem_append_right _ f)) h.2 r.2⟩
  |[],_::_,_,_,h,_|_::_,[],_,_,h,_=>h.elim
  |[],[],_::_,_,_,r|_::_,_::_,[],_,_,r=>r.elim
theorem Nk {x y:Cx} {lo:Nat} {bo:Option Nat} {d v:Nat} (h:∀b,x.I b->y.I b/\y.w.heap[b]? =x.w.heap[b]?) (hw:y.w=x.w) (a:v<=y.cv d) (f:v=y.cv d->y.β d=bo):∀{c:AC} {u:Value},Be c=true->CN x lo bo c u->Ah y (EV d v c) u
 | .own t l n,u,_,⟨i,base,cap,e,o,g,_,h3⟩=>by
  subst e;refine⟨⟨rfl,a⟩,fun j=>⟨base,cap,by rw[i],by omega,g,by simp,?_⟩⟩;rcases h3 with⟨_,_,rfl⟩ |⟨b,arr,e,rfl,_,rfl,k,m,_⟩
  ·exact .inl rfl
  exact .inr ⟨b,arr,e,f j,by simp,by rw[hw];exact k,by simpa using m⟩
 |.BJ,_,_,r|.int _ _,_,_,r|.bool _,_,_,r|.fn _,_,_,r|.nil,_,_,r=>r
 | .sl _ _,_,_,r=>B3 h _ _ _ r
 |.AN _ _ _ _ _,_,e,_|.CU _ _ _ _ _,_,e,_|.Ak _ _ _,_,e,_|.B8 _ _ _ _ _,_,e,_|.Cc _ _ _,_,e,_|.ub _,_,e,_=>by simp[Be,Ao] at e
theorem AR.Nj {x y:Cx} {lo:Nat} {bo:Option Nat} {d v:Nat} (h:∀b,x.I b->y.I b/\y.w.heap[b]? =x.w.heap[b]?) (hw:y.w=x.w) (a:v<=y.cv d) (c:v=y.cv d->y.β d=bo):
  ∀{cs:List AC} {us:List Value},cs.all Be=true->AR (CN x lo bo) cs us->AR (Ah y) (cs.map (EV d v)) us
 | [],[],_,_=>trivial
 | _::_,_::_,e,r=>by simp only[List.all_cons,Bool.and_eq_true] at e;exact⟨Nk h hw a c e.1 r.1,AR.Nj h hw a c e.2 r.2⟩
 |[],_::_,_,r|_::_,[],_,r=>r.elim
theorem Zr {x y:Cx} {lo:Nat} {bo:Option Nat} {d v:Nat} (h:∀b,x.I b->y.I b/\y.w.heap[b]? =x.w.heap[b]?) (hw:y.w=x.w) (a:v<=y.cv d) (i:v=y.cv d->y.β d=bo) {r:AV} {u:Value} (o:r.all Be=true) (f:FI x lo bo r u):
  BB y (Gv d v r) u:=by
 cases r with
 | one c=>
  rcases f with rfl | f
  ·exact Or.inl rfl
  exact Or.inr (Nk h hw a i o f)
 | agg cs=>obtain⟨arr,e,f⟩:=f;exact⟨arr,e,AR.Nj h hw a i o f⟩
 | AI xs=>
  obtain⟨arr,e,f⟩:=f;refine⟨arr,e,?_⟩
  have key:∀(xs:List (Bool×List AC)) (us:List Value),(xs.all fun x=>x.2.all Be)=true->AR (fun z q=>Eu x lo bo (Ca z) q) xs us->AR (fun z q=>Cz y (Ca z) q) (xs.map fun x=>(x.1,x.2.map (EV d v))) us:=by
   intro xs
   induction xs with
   | nil=>intro us _ k;cases us <;> first | trivial | exact k.elim
   | cons z xs s=>
    intro us l k;cases us with
    | nil=>exact k.elim
    | cons q us=>
     simp only[List.all_cons,Bool.and_eq_true] at l;refine⟨?_,s us l.2 k.2⟩;obtain⟨g,cs⟩:=z;have m:=k.1;cases g with
     | true=>obtain⟨j,e',p⟩:=m;exact⟨j,e',AR.Nj h hw a i l.1 p⟩
     | false=>
      cases cs with
      | nil=>exact Or.inl rfl
      | cons c cs=>
       simp only[List.all_cons,Bool.and_eq_true] at l;rcases m with n | m
       ·have n:c= .BJ:=n;subst n;exact Or.inl rfl
       exact Or.inr (Nk h hw a i l.1.1 m)
  exact key xs arr.toList o f
theorem J3 {x:Cx} {lo:Nat} {bo:Option Nat} (d v:Nat):∀{cs:List AC} {us:List Value},AR (CN x lo bo) cs us->Ct d v cs=[]\/∃t l u,Ct d v cs=[(d,.arr v t l)]/\OwnAt x lo bo t l u
 | [],[],_=> .inl rfl
 | c::cs,u::us,h=>by
  have a:=J3 d v h.2;cases c with
  | own t l n=>exact .inr ⟨t,l,u,rfl,h.1.2⟩
  | _=>exact a
 |[],_::_,h|_::_,[],h=>h.elim
theorem L0 (d v:Nat):∀(cs a:List AC),Ct d v (cs++a)=match Ct d v cs with | []=>Ct d v a | x=>x
 | [],_=>by simp[Ct]
 | c::cs,a=>by
  have:=L0 d v cs a;cases c <;> simp[Ct,this]
theorem UA {x:Cx} {lo:Nat} {bo:Option Nat} (d v:Nat) {r:AV} {u:Value} (m:r.wf=true) (b:FI x lo bo r u):Gc d v r=[]\/∃t l f,Gc d v r=[(d,.arr v t l)]/\OwnAt x lo bo t l f:=by
 cases r with
 | one c=>
  rcases b with rfl | b
  ·exact .inl rfl
  exact J3 d v (cs:=[c]) (us:=[u]) ⟨b,trivial⟩
 | agg cs=>obtain⟨arr,e,b⟩:=b;exact J3 d v b
 | AI xs=>
  obtain⟨arr,e,b⟩:=b
  show Ct d v _=[]\/_
  have key:∀(xs:List (Bool×List AC)) (us:List Value),AR (fun z q=>Eu x lo bo (Ca z) q) xs us->(∀z∈xs,z.1=false->z.2.length<=1)->Ct d v (xs.flatMap (·.2))=[]\/∃t l f,Ct d v (xs.flatMap (·.2))=[(d,.arr v t l)]/\OwnAt x lo bo t l f:=by
   intro xs
   induction xs with
   | nil=>intro us _ _;exact .inl rfl
   | cons z xs y=>
    intro us j h;cases us with
    | nil=>exact j.elim
    | cons q us=>
     have p:=y us j.2 (fun z' n=>h z' (by simp[n]))
     have a:Ct d v z.2=[]\/∃t l f,Ct d v z.2=[(d,.arr v t l)]/\OwnAt x lo bo t l f:=by
      obtain⟨g,cs⟩:=z;have a:=j.1;cases g with
      | true=>obtain⟨o,e',k⟩:=a;exact J3 d v k
      | false=>
       have w:=h (false,cs) (by simp) rfl
       match cs,w with
       | [],_=>exact .inl rfl
       | [c],_=>
        rcases a with i | a
        ·have i:c= .BJ:=i;subst i;exact .inl rfl
        exact J3 d v (cs:=[c]) (us:=[q]) ⟨a,trivial⟩
     rw[List.flatMap_cons,L0];rcases a with a |⟨t,l,f,a,h3⟩
     ·rw[a];exact p
     rw[a];exact .inr ⟨t,l,f,rfl,h3⟩
  refine key xs arr.toList b fun z h s=>?_
  have:=List.all_eq_true.1 m z h;simpa [s] using this
theorem L2 {d v:Nat}:∀{cs:List AC},Ct d v cs=[]->cs.all Be=true->cs.all Ao=true/\cs.map (EV d v)=cs
 | [],_,_=>⟨rfl,rfl⟩
 | c::cs,h,a=>by
  simp only[List.all_cons,Bool.and_eq_true] at a;cases c with
  | own t l n=>simp[Ct] at h
  |AN _ _ _ _ _|CU _ _ _ _ _|Ak _ _ _|B8 _ _ _ _ _|Cc _ _ _|ub _=>exact absurd a.1 (by simp[Be,Ao])
  | _=>obtain⟨b,f⟩:=L2 (cs:=cs) h a.2;exact⟨by simp[b,Ao],by simp[EV,f]⟩
theorem Oo {x y:Cx} {lo:Nat} {bo:Option Nat} (h:∀b,x.I b->y.I b/\y.w.heap[b]? =x.w.heap[b]?):∀{c:AC} {u:Value},Ao c=true->CN x lo bo c u->Ah y c u
 |.BJ,_,_,r|.int _ _,_,_,r|.bool _,_,_,r|.fn _,_,_,r|.nil,_,_,r=>r
 | .sl _ _,_,_,r=>B3 h _ _ _ r
 |.AN _ _ _ _ _,_,e,_|.CU _ _ _ _ _,_,e,_|.Ak _ _ _,_,e,_|.B8 _ _ _ _ _,_,e,_|.Cc _ _ _,_,e,_|.ub _,_,e,_|.own _ _ _,_,e,_=>by simp[Ao] at e
theorem AR.On {x y:Cx} {lo:Nat} {bo:Option Nat} (h:∀b,x.I b->y.I b/\y.w.heap[b]? =x.w.heap[b]?):∀{cs:List AC} {us:List Value},cs.all Ao=true->AR (CN x lo bo) cs us->AR (Ah y) cs us
 | [],[],_,_=>trivial
 | _::_,_::_,e,r=>by simp only[List.all_cons,Bool.and_eq_true] at e;exact⟨Oo h e.1 r.1,AR.On h e.2 r.2⟩
 |[],_::_,_,r|_::_,[],_,r=>r.elim
theorem cB {d v:Nat} {cs a:List AC} (h:Ct d v (cs++a)=[]):Ct d v cs=[]/\Ct d v a=[]:=by
 rw[L0] at h
 split at h
 ·rename_i e;exact⟨e,h⟩
 rename_i e;exact absurd h e
theorem SR {x y:Cx} {lo:Nat} {bo:Option Nat} {d v:Nat} {r:AV} {u:Value} (l:Gc d v r=[]) (m:r.all Be=true/\r.wf=true) (h:∀b,x.I b->y.I b/\y.w.heap[b]? =x.w.heap[b]?) (i:FI x lo bo r u):BB y (Gv d v r) u:=by
 cases r with
 | one c=>
  obtain⟨f,a⟩:=L2 (cs:=[c]) l (by simpa [AV.all] using m.1);have a:EV d v c=c:=by simpa using a
  show BB y (.one (EV d v c)) u
  rw[a];exact i.imp (fun q=>q) (Oo h (by simpa using f))
 | agg cs=>
  obtain⟨arr,e,i⟩:=i;obtain⟨f,a⟩:=L2 l m.1;refine⟨arr,e,?_⟩;rw[a];exact AR.On h f i
 | AI xs=>
  obtain⟨arr,e,i⟩:=i;refine⟨arr,e,?_⟩
  have key:∀(xs:List (Bool×List AC)) (us:List Value),Ct d v (xs.flatMap (·.2))=[]->(xs.all fun x=>x.2.all Be)=true->AR (fun z q=>Eu x lo bo (Ca z) q) xs us->AR (fun z q=>Cz y (Ca z) q) (xs.map fun x=>(x.1,x.2.map (EV d v))) us:=by
   intro xs
   induction xs with
   | nil=>intro us _ _ k;cases us <;> first | trivial | exact k.elim
   | cons z xs s=>
    intro us p o k;cases us with
    | nil=>exact k.elim
    | cons q us=>
     simp only[List.all_cons,Bool.and_eq_true] at o;rw[List.flatMap_cons] at p;obtain⟨t,A⟩:=cB p;refine⟨?_,s us A o.2 k.2⟩;obtain⟨f,a⟩:=L2 t o.1;obtain⟨g,cs⟩:=z;have h3:=k.1;simp only at a
     show Cz y (Ca (g,cs.map (EV d v))) q
     rw[a];cases g with
     | true=>obtain⟨j,e',n⟩:=h3;exact⟨j,e',AR.On h f n⟩
     | false=>
      cases cs with
      | nil=>exact Or.inl rfl
      | cons c cs=>
       simp only[List.all_cons,Bool.and_eq_true] at f;exact h3.imp (fun q=>q) (Oo h f.1)
  exact key xs arr.toList l m.1 i
theorem Le {X:WX} {w:World} {β:Nat->Option Nat} {bk:Nat->Option AK} {I:Nat->Prop} {id vv:Nat} (a:vv=AO bk id):∀{c:AC} {v:Value},L6 c=some (id,vv)->Ah (cx X w β bk) c v->Ah (BV w (β id) I) (Gf 0 0 c) v
 | .AN t i b off len,_,h,r=>by
  simp only[L6,Option.some.injEq,Prod.mk.injEq] at h;obtain⟨rfl,rfl⟩:=h;exact⟨⟨r.1.1,Nat.le_refl _⟩,fun _=>r.2 a⟩
 | .Ak i b off,_,h,r=>by
  simp only[L6,Option.some.injEq,Prod.mk.injEq] at h;obtain⟨rfl,rfl⟩:=h;exact⟨⟨r.1.1,Nat.le_refl _⟩,fun _=>r.2 a⟩
 |.BJ,_,h,_|.int _ _,_,h,_|.bool _,_,h,_|.fn _,_,h,_|.nil,_,h,_|.sl _ _,_,h,_|.CU _ _ _ _ _,_,h,_|.B8 _ _ _ _ _,_,h,_|.Cc _ _ _,_,h,_|.ub _,_,h,_|.own _ _ _,_,h,_=>by cases h
theorem N5 {X:WX} {w:World} {β:Nat->Option Nat} {bk:Nat->Option AK} {id:Nat} {J:Nat->Prop} (d:∀b,(cx X w β bk).I b->J b/\w.heap[b]? =w.heap[b]?):∀{b:AK},(b.DL 0).lone=true->B5 (cx X w β bk) id b->B5 (BV w (β id) J) 0 (b.DL 0)
 | .dead _,h,_=>by simp[AK.DL,AK.lone] at h
 | .var _ cs,h,⟨b,arr,e,a,c,h3⟩=>⟨b,arr,e,a,c,AR.pure (x:=cx X w β bk) (y:=BV w (β id) J) d (by simpa [AK.DL,AK.lone] using h) h3⟩
 | .arr _ t l,_,h=>h.imp (fun q=>q) fun⟨b,arr,e,a,c,h3⟩=>⟨b,arr,e,a,c,fun i y f=>by
  obtain⟨us,g,j⟩:=h3 i y f;exact⟨us,B3 (w':=w) d _ _ _ g,j⟩⟩
theorem KC {w w':World} {I d:Nat->Prop}:∀(t:T) (x:el t) (vs:List Value),t.flat=true->rep w I t x vs->rep w' d t x vs
 |.u8,_,_,_,c|.u32,_,_,_,c|.u64,_,_,_,c|.i8,_,_,_,c|.i64,_,_,_,c|.bool,_,_,_,c=>c
 | .sl t,_,_,h,_=>by simp[T.flat] at h
 | .pr a b,x,_,h,⟨v1,v2,e,f,g⟩=>by
  simp only[T.flat,Bool.and_eq_true] at h;exact⟨v1,v2,e,KC a x.1 v1 h.1 f,KC b x.2 v2 h.2 g⟩
theorem cC {w0:World} {X:WX} {β:Nat->Option Nat} {s:St} {a:Act} {w:World} (S:Av w0 X β s a w) {J:Nat->Prop} {id:Nat}:∀{c d:AC} {v:Value},DE id (.one c)=true->(∀i b,i∈BY c->live (AF s.bk) i->β i=some b->b<w.heap.size->J b)->C9 (AF s.bk) c d->Ah (cx X w β (AF s.bk)) c v->Ah (CR w J) d v
 | .int _ _,_,_,_,_,h,r=>by rw[show _=_ from h];exact r
 | .AN t g vv off len,d,v,f,j,⟨l,hb,hle,h⟩,r=>by
  subst h;simp only[DE,Bool.and_eq_true] at f
  have n:∀b o,w.heap[b]? =some o->b<w.heap.size:=fun b o h=>by
   rcases Nat.lt_or_ge b w.heap.size with h' | h'
   ·exact h'
   simp[Array.getElem?_eq_none h'] at h
  obtain⟨base,cap,A,z,F,h3⟩:=IZ r (DW hb).symm;have hlen:((l.drop off).take len).length=len:=by simp;omega
  subst A;refine⟨base,cap,by rw[hlen],by rw[hlen];exact z,?_,?_⟩
  ·have:=S.lens g _ hb;simp only[AK.short] at this;omega
  by_cases x:len=0
  ·left;subst x;simp
  rcases h3 with rfl |⟨b,arr,e,u,rfl,D,G⟩
  ·omega
  rcases S.blocks g _ hb with⟨m,B⟩ |⟨b',q,e',m,B,C⟩
  ·exact absurd (m.symm.trans u) (by simp)
  obtain rfl:b'=b:=Option.some.inj (m.symm.trans u);refine .inr ⟨b',off*t.size,rfl,j g b' (by simp[BY]) ⟨_,hb,rfl⟩ m (n _ _ D),fun i y k=>?_⟩
  have p:l[off+i]? =some y:=by
   rw[List.getElem?_take] at k
   split at k
   ·simpa using k
   cases k
  obtain⟨us,k1,k2⟩:=C _ y p;exact⟨us,KC _ _ _ f.1 k1,by rw[<-Nat.add_mul];exact k2⟩
 |.bool _,_,_,f,_,_,_|.fn _,_,_,f,_,_,_|.sl _ _,_,_,f,_,_,_|.nil,_,_,f,_,_,_|.BJ,_,_,f,_,_,_|.CU _ _ _ _ _,_,_,f,_,_,_|.Ak _ _ _,_,_,f,_,_,_|.B8 _ _ _ _ _,_,_,f,_,_,_|.Cc _ _ _,_,_,f,_,_,_|.ub _,_,_,f,_,_,_|.own _ _ _,_,_,f,_,_,_=>by simp[DE] at f
theorem Qu {w0:World} {X:WX} {β:Nat->Option Nat} {s:St} {a:Act} {w:World} (S:Av w0 X β s a w) {J:Nat->Prop} {id:Nat}:∀{l m:List AV} {vs:List Value},l.all (DE id)=true->(∀i b,i∈BR l->live (AF s.bk) i->β i=some b->b<w.heap.size->J b)->D3 (C9 (AF s.bk)) l m->AR (BB (cx X w β (AF s.bk))) l vs->AR (BB (CR w J)) m vs
 | [],[],[],_,_,_,_=>trivial
 | .one c::l,.one d::m,v::vs,g,j,f,r=>by
  rw[List.all_cons,Bool.and_eq_true] at g;exact⟨Or.inr (cC S g.1 (fun i b h=>j i b (by simp[BR,h])) f.1 (BE r.1 (by intro e;subst e;exact f.1.elim))),Qu S g.2 (fun i b h=>j i b (by simp[BR,h])) f.2 r.2⟩
 |[],_::_,_,_,_,f,_|_::_,[],_,_,_,f,_=>f.elim
 |.agg _::_,_::_,_,g,_,_,_|.AI _::_,_::_,_,g,_,_,_=>by simp[DE] at g
 |.one _::_,.agg _::_,_,_,_,f,_|.one _::_,.AI _::_,_,_,_,f,_=>f.1.elim
 |[],[],_::_,_,_,_,r|.one _::_,.one _::_,[],_,_,_,r=>r.elim
theorem SO {id:Nat}:∀{l:List AV},l.all (DE id)=true->∀i∈BR l,i≠id
 | [],_,i,b=>by simp[BR] at b
 | .one c::l,a,i,b=>by
  rw[List.all_cons,Bool.and_eq_true] at a;rw[BR] at b;rcases List.mem_append.1 b with h | h
  ·have d:=a.1;cases c <;> simp_all [DE,BY]
  exact SO a.2 i h
 |.agg _::_,a,_,_|.AI _::_,a,_,_=>by simp[DE] at a
theorem fC {X:WX} {w':World} {β:Nat->Option Nat} {Bg:Nat->Option AK} {ob:Option Nat} {J:Nat->Prop} {id vv:Nat} (a:ob=β id):∀{b:AK},LO b=true->B5 (BV w' ob J) 0 b->B5 (cx X w' β Bg) id (b.DL vv)
 |.dead _,h,_|.var v cs,h,_=>by simp[LO] at h
 | .arr _ t l,f,h=>h.imp (fun q=>⟨(show β id=none by rw[<-a];exact q.1),q.2⟩) fun⟨b,arr,e,c,d,h3⟩=>⟨b,arr,e,(show β id=some b by rw[<-a];exact c),d,fun i y g=>by
  obtain⟨us,j,k⟩:=h3 i y g;exact⟨us,KC _ _ _ f j,k⟩⟩
theorem PM {X:WX} {w':World} {β:Nat->Option Nat} {Bg:Nat->Option AK} {ob:Option Nat} {J:Nat->Prop} {id vv:Nat} (a:ob=β id) (b:vv=AO Bg id):
  ∀{c:AC} {u:Value},BS c=true->Ah (BV w' ob J) c u->Ah (cx X w' β Bg) (Gf id vv c) u
 | .AN t i v off len,_,h,r=>by
  match i,v,h,r with
  | 0,0,_,r=>exact⟨⟨r.1.1,Nat.le_of_eq b⟩,fun _=>by have:=r.2 rfl;show FH w' (β id) _ _ _ _ _;rw[<-a];exact this⟩
  |0,_+1,h,_|_+1,_,h,_=>simp[BS] at h
 |.int _ _,_,_,r|.bool _,_,_,r|.fn _,_,_,r|.nil,_,_,r=>r
 |.CU _ _ _ _ _,_,h,_|.Ak _ _ _,_,h,_|.BJ,_,h,_|.sl _ _,_,h,_|.B8 _ _ _ _ _,_,h,_|.Cc _ _ _,_,h,_|.ub _,_,h,_|.own _ _ _,_,h,_=>by simp[BS] at h
theorem AR.PL {X:WX} {w':World} {β:Nat->Option Nat} {Bg:Nat->Option AK} {ob:Option Nat} {J:Nat->Prop} {id vv:Nat} (a:ob=β id) (b:vv=AO Bg id):
  ∀{cs:List AC} {us:List Value},cs.all BS=true->AR (Ah (BV w' ob J)) cs us->AR (Ah (cx X w' β Bg)) (cs.map (Gf id vv)) us
 | [],[],_,_=>trivial
 | _::_,_::_,e,r=>by simp only[List.all_cons,Bool.and_eq_true] at e;exact⟨PM a b e.1 r.1,AR.PL a b e.2 r.2⟩
 |[],_::_,_,r|_::_,[],_,r=>r.elim
theorem fD {X:WX} {w':World} {β:Nat->Option Nat} {Bg:Nat->Option AK} {ob:Option Nat} {J:Nat->Prop} {id vv:Nat} (b:ob=β id) (j:vv=AO Bg id) {r:AV} {u:Value}
  (h:r.all BS=true) (a:BB (BV w' ob J) r u):BB (cx X w' β Bg) (Ua id vv r) u:=by
 cases r with
 | one c=>
  rcases a with rfl | a
  ·exact Or.inl rfl
  exact Or.inr (PM b j h a)
 | agg cs=>obtain⟨arr,e,a⟩:=a;exact⟨arr,e,AR.PL b j h a⟩
 | AI xs=>
  obtain⟨arr,e,a⟩:=a;refine⟨arr,e,?_⟩
  have key:∀(xs:List (Bool×List AC)) (us:List Value),(xs.all fun x=>x.2.all BS)=true->AR (fun z q=>Cz (BV w' ob J) (Ca z) q) xs us->AR (fun z q=>Cz (cx X w' β Bg) (Ca z) q) (xs.map fun x=>(x.1,x.2.map (Gf id vv))) us:=by
   intro xs
   induction xs with
   | nil=>intro us _ f;cases us <;> first | trivial | exact f.elim
   | cons z xs m=>
    intro us i f;cases us with
    | nil=>exact f.elim
    | cons q us=>
     simp only[List.all_cons,Bool.and_eq_true] at i;refine⟨?_,m us i.2 f.2⟩;obtain⟨g,cs⟩:=z;have h3:=f.1;cases g with
     | true=>obtain⟨d,e',l⟩:=h3;exact⟨d,e',AR.PL b j i.1 l⟩
     | false=>
      cases cs with
      | nil=>exact Or.inl rfl
      | cons c cs=>
       simp only[List.all_cons,Bool.and_eq_true] at i;rcases h3 with k | h3
       ·have k:c= .BJ:=k;subst k;exact Or.inl rfl
       exact Or.inr (PM b j i.1.1 h3)
  exact key xs arr.toList h a
theorem bR {X:WX} {w:World} {β:Nat->Option Nat} {s:St} {d b k:Nat} {bo:Option Nat} {Az:AK} {j:Bool} {J:Nat->Prop} (g:d<s.bk.length) (m:(j=false/\J b)\/w.heap.size<=b) (n:bo≠some b)
  (o:∀b,J b->j=false->(cx X w β (AF s.bk)).I b) (c:∀k b,live (AF s.bk) k->β k=some b->b<w.heap.size) (f:live (AF (Al s.bk d (some Az))) k) (a:(if k=d then bo else β k)=some b):False:=by
 rw[FW _ _ _ g] at f
 by_cases h:k=d
 ·simp[h] at a;exact n a
 simp only[h,if_false] at f a;rcases m with⟨i,l⟩ | i
 ·exact (o b l i).1.2 k f a
 have:=c k b f a;omega
theorem U6:∀(l:List (Option AK)) (id:Nat) (b:AK),AF l id=some b->Al l id (some b)=l
 | [],_,_,h=>by simp[AF] at h
 | a::l,0,b,h=>by rw[Al,show a=some b from h]
 | a::l,n+1,b,h=>by rw[Al,U6 l n b h]
theorem S6 {X:WX} {w:World} {β:Nat->Option Nat} {bk:Nat->Option AK} {id v:Nat} (j:v=AO bk id):∀{c d:AC} {u:Value},Gz id v c d->Ah (cx X w β bk) c u->Ah (BV w (β id) (cx X w β bk).I) d u
 |.AN t i g off len,_,_,⟨⟨a,f⟩,h3⟩,r|.Ak i g off,_,_,⟨⟨a,f⟩,h3⟩,r=>by subst a f h3;exact Le (vv:=g) j rfl r
 |.int _ _,_,_,h,r|.bool _,_,_,h,r|.fn _,_,_,h,r=>by rw[show _=_ from h];exact r
 | .sl t l,_,u,h,r=>by
  rw[show _=_ from h];exact B3 (w':=w) (fun b hb=>⟨hb,rfl⟩) (.sl t) l [u] r
 | .nil,_,_,h,r=>by
  rcases h with rfl |⟨t,rfl⟩
  ·exact r
  rw[show _=_ from r];exact⟨none,0,rfl,Nat.le_refl _,by simp,.inl rfl⟩
 |.BJ,_,_,h,_|.CU _ _ _ _ _,_,_,h,_|.B8 _ _ _ _ _,_,_,h,_|.Cc _ _ _,_,_,h,_|.ub _,_,_,h,_|.own _ _ _,_,_,h,_=>h.elim
theorem Ql {X:WX} {w:World} {β:Nat->Option Nat} {bk:Nat->Option AK} {id v:Nat} (a:v=AO bk id):∀{l m:List AC} {vs:List Value},Aj (Gz id v) l m->AR (Ah (cx X w β bk)) l vs->AR (Ah (BV w (β id) (cx X w β bk).I)) m vs
 | [],[],[],_,_=>trivial
 | _::_,_::_,_::_,h,r=>⟨S6 a h.1 r.1,Ql a h.2 r.2⟩
 |[],_::_,_,h,_|_::_,[],_,h,_=>h.elim
 |[],[],_::_,_,r|_::_,_::_,[],_,r=>r.elim
theorem M4 {X:WX} {w:World} {β:Nat->Option Nat} {bk:Nat->Option AK} {id v:Nat} (a:v=AO bk id):∀{l m:List AV} {vs:List Value},D3 (Gz id v) l m->AR (BB (cx X w β bk)) l vs->AR (BB (BV w (β id) (cx X w β bk).I)) m vs
 | [],[],[],_,_=>trivial
 | .one c::_,.one d::_,_::_,h,r=>⟨.inr (S6 a h.1 (BE r.1 (by intro e;subst e;exact h.1.elim))),M4 a h.2 r.2⟩
 | .agg c::_,.agg d::_,_::_,h,r=>by
  obtain⟨arr,e,b⟩:=r.1;exact⟨⟨arr,e,Ql a h.1 b⟩,M4 a h.2 r.2⟩
 |[],_::_,_,h,_|_::_,[],_,h,_=>h.elim
 |.one _::_,.agg _::_,_,h,_|.one _::_,.AI _::_,_,h,_|.agg _::_,.one _::_,_,h,_|.agg _::_,.AI _::_,_,h,_|.AI _::_,.one _::_,_,h,_|.AI _::_,.agg _::_,_,h,_|.AI _::_,.AI _::_,_,h,_=>h.1.elim
 |[],[],_::_,_,r|.one _::_,.one _::_,[],_,r|.agg _::_,.agg _::_,[],_,r=>r.elim
theorem fB {y:Cx} {w':World} {ob:Option Nat} {J:Nat->Prop} {id:Nat} (g:∀k,J k->y.I k) (hw:y.w=w') (a:y.β id=ob):∀{b:AK},(b.DL 0).lone=true->B5 (BV w' ob J) 0 (b.DL 0)->B5 y id b
 | .dead _,h,_=>by simp[AK.DL,AK.lone] at h
 | .var _ cs,h,⟨b,arr,e,c,d,h3⟩=>⟨b,arr,e,a.trans c,by rw[hw];exact d,AR.pure (x:=BV w' ob J) (y:=y) (fun k f=>⟨g k f,by rw[hw];rfl⟩) (by simpa [AK.DL,AK.lone] using h) h3⟩
 | .arr _ t l,_,h=>h.imp (fun q=>⟨a.trans q.1,q.2⟩) fun⟨b,arr,e,c,d,h3⟩=>⟨b,arr,e,a.trans c,by rw[hw];exact d,fun i z j=>by
  obtain⟨us,m,n⟩:=h3 i z j;exact⟨us,B3 (w':=y.w) (fun k f=>⟨g k f,by rw[hw];rfl⟩) _ _ _ m,by rw[hw];exact n⟩⟩
theorem cX {x y:Cx} (h:∀b,x.I b->y.I b/\y.w.heap[b]? =x.w.heap[b]?) {r:AV} {u:Value} (j:r.all Ao=true) (a:BB x r u):BB y r u:=by
 cases r with
 | one c=>exact a.imp (fun q=>q) (J6 h j)
 | agg cs=>obtain⟨arr,e,a⟩:=a;exact⟨arr,e,AR.pure h j a⟩
 | AI xs=>
  obtain⟨arr,e,a⟩:=a;refine⟨arr,e,?_⟩
  have key:∀(xs:List (Bool×List AC)) (us:List Value),(xs.all fun x=>x.2.all Ao)=true->AR (fun z q=>Cz x (Ca z) q) xs us->AR (fun z q=>Cz y (Ca z) q) xs us:=by
   intro xs
   induction xs with
   | nil=>intro us _ f;cases us <;> first | trivial | exact f.elim
   | cons z xs l=>
    intro us i f;cases us with
    | nil=>exact f.elim
    | cons q us=>
     simp only[List.all_cons,Bool.and_eq_true] at i;refine⟨?_,l us i.2 f.2⟩;obtain⟨g,cs⟩:=z;have h3:=f.1;cases g with
     | true=>obtain⟨d,e',k⟩:=h3;exact⟨d,e',AR.pure h i.1 k⟩
     | false=>
      cases cs with
      | nil=>exact Or.inl rfl
      | cons c cs=>
       simp only[List.all_cons,Bool.and_eq_true] at i;exact h3.imp (fun q=>q) (J6 h i.1.1)
  exact key xs arr.toList j a
theorem SQ {d v:Nat}:∀{c:AC},Ao c=true->EV d v c=c
 | .own _ _ _,h=>by simp[Ao] at h
 |.BJ,_|.int _ _,_|.bool _,_|.fn _,_|.nil,_|.sl _ _,_|.AN _ _ _ _ _,_|.CU _ _ _ _ _,_|.Ak _ _ _,_|.B8 _ _ _ _ _,_|.Cc _ _ _,_|.ub _,_=>rfl
theorem Ji {d v:Nat}:∀{cs:List AC},cs.all Ao=true->cs.map (EV d v)=cs/\Ct d v cs=[]
 | [],_=>⟨rfl,rfl⟩
 | c::cs,h=>by
  simp only[List.all_cons,Bool.and_eq_true] at h;obtain⟨a,b⟩:=Ji (d:=d) (v:=v) h.2;refine⟨by rw[List.map_cons,SQ h.1,a],?_⟩;cases c <;> first | exact b | simp[Ao] at h
theorem Nl {d v:Nat}:∀{xs:List (Bool×List AC)},(xs.all fun x=>x.2.all Ao)=true->(xs.map fun x=>(x.1,x.2.map (EV d v)))=xs/\Ct d v (xs.flatMap (·.2))=[]
 | [],_=>⟨rfl,rfl⟩
 | x::xs,h=>by
  simp only[List.all_cons,Bool.and_eq_true] at h;obtain⟨a,b⟩:=Nl (d:=d) (v:=v) h.2;obtain⟨h3,c⟩:=Ji (d:=d) (v:=v) h.1;exact⟨by rw[List.map_cons,h3,a],by rw[List.flatMap_cons,L0,c];exact b⟩
theorem SU {d v:Nat} {r:AV} (h:r.all Ao=true):Gv d v r=r/\Gc d v r=[]:=by
 cases r with
 | one c=>exact⟨congrArg AV.one (SQ h),(Ji (cs:=[c]) (by simpa [AV.all] using h)).2⟩
 | agg cs=>exact⟨congrArg AV.agg (Ji h).1,(Ji h).2⟩
 | AI xs=>exact⟨congrArg AV.AI (Nl h).1,(Nl h).2⟩
theorem dW (o:Oper) {c:Call} {x:Operand} (ho:o.op= .call c) (hc:c.callee= .value x):Sound P (env P) TI o:=by
 intro w0 X β s a w S f h N Q hN;simp only[Bp,ho,hc] at h;have hx:=B7 S.Bf x;have z:=Kt (B7 S.Bf) c.args.toList;have hU:c.args.map a.eval=(c.args.toList.map a.eval).toArray:=Array.ext' (by simp);have av:∀b,(cx X w β (AF s.bk)).I b->b<w.heap.size:=fun b hb=>hb.1.1
 have a5:∀b o,w.heap[b]? =some o->b<w.heap.size:=fun b o h=>by
  rcases Nat.lt_or_ge b w.heap.size with h' | h'
  ·exact h'
  simp[Array.getElem?_eq_none h'] at h
 have R:∀k b,live (AF s.bk) k->β k=some b->b<w.heap.size:=fun k b ⟨ak,C,hl⟩ hb=>by
  have r:=S.blocks k ak C;cases ak with
  | dead _=>simp[AK.live] at hl
  | var _ _=>obtain⟨b',arr,e,F,Y,_⟩:=r;obtain rfl:b=b':=Option.some.inj (hb.symm.trans F);exact a5 b _ Y
  | arr _ _ _=>
   rcases r with⟨F,_⟩ |⟨b',arr,e,F,Y,_⟩
   ·exact absurd (hb.symm.trans F) (by simp)
   obtain rfl:b=b':=Option.some.inj (hb.symm.trans F);exact a5 b _ Y
 split at h
 case h_2=>exact h.elim
 rename_i g he
 rw[he] at hx;have ae:a.eval x= .func (.func g) #[] #[]:=BE hx (by simp)
 have after:∀(fl:Bool) (r:AV) (rd:List Nat) (J:Nat->Prop),(∀b,J b->fl=false->(cx X w β (AF s.bk)).I b)->Callee P g->(r.all Be=true/\r.wf=true)->
   Calls P g (c.args.map a.eval) w (fun e w'=>∃u bo,e= .returned u/\Below w.heap.size w w'/\FI (CR w' fun b=>((fl=false/\J b)\/w.heap.size<=b)/\b<w'.heap.size/\bo≠some b) w.heap.size bo r u)->
   f=⟨Gv (BD o) (AO (AF s.bk) (BD o)+1) r,Gc (BD o) (AO (AF s.bk) (BD o)+1) r,rd⟩->o.wp P a w N Q:=by
  intro fl r rd J hJ B W n hf;have hA:∀b,((fl=false/\J b)\/w.heap.size<=b)->X.A b:=fun b hb=>hb.elim (fun q=>(hJ b q.2 q.1).2) fun q=>S.fresh b (Nat.le_trans S.size q)
  subst hf;refine KR ho hc ae B n fun e w' ⟨u,bo,he,hb,hr⟩=>⟨u,he,?_⟩
  have M:∀b,b<w.heap.size->w'.heap[b]? =w.heap[b]? :=hb.block
  by_cases D:BD o<s.bk.length
  ·rcases UA (BD o) (AO (AF s.bk) (BD o)+1) W.2 hr with h0 |⟨t,l,u',h0,F⟩
   ·rw[h0] at hN
    have aH:∀{y:Cx},y.w=w'->(∀b,(CR w' fun b=>((fl=false/\J b)\/w.heap.size<=b)/\b<w'.heap.size/\bo≠some b).I b->y.I b)->BB y (Gv (BD o) (AO (AF s.bk) (BD o)+1) r) u:=by
     intro y hw hI;exact SR h0 W (fun b hb=>⟨hI b hb,by rw[hw];rfl⟩) hr
    refine hN β _ w' (S.ext M hb.size hb.os hb.tape hb.output (aH rfl fun b m=>⟨⟨m.2.1,fun k C af=>?_⟩,hA b m.1⟩));rcases m.1 with⟨e1,e2⟩ | e1
    ·exact (hJ b e2 e1).1.2 k C af
    have:=R k b C af;omega
   rw[h0] at hN;obtain⟨base,cap,e,k1,k2,aF,k3⟩:=F
   have au:∀b,(((fl=false/\J b)\/w.heap.size<=b)/\b<w'.heap.size/\bo≠some b)->
     (cx X w' (fun k=>if k=BD o then bo else β k) (AF (Al s.bk (BD o) (some (.arr (AO (AF s.bk) (BD o)+1) t l))))).I b/\w'.heap[b]? =w'.heap[b]? :=
    fun b m=>⟨⟨⟨m.2.1,fun k C af=>bR D m.1 m.2.2 hJ R C af⟩,hA b m.1⟩,rfl⟩
   refine hN (fun k=>if k=BD o then bo else β k) _ w' (S.write D aF (fun k C=>by simp[C]) (by simp[AK.AO]) (fun e=>by simp[AK.AO] at e) (fun b m _=>M b m) hb.size
    (fun b arr e H=>⟨arr,(M b (a5 b _ H)).trans H,rfl⟩) hb.os hb.tape hb.output (fun _ b m=> .inr ?_) (fun hle=>?_) (fun hle=>?_))
   ·simp at m;rcases k3 with⟨U,_⟩ |⟨b',arr,e',U,q2,_⟩
    ·rw[U] at m;cases m
    rw[U] at m;obtain rfl:=Option.some.inj m;exact q2
   ·rcases k3 with⟨U,q2,_⟩ |⟨b',arr,e',U,q2,q3,q4,q5,q6⟩
    ·exact Or.inl ⟨by show (if BD o=BD o then _ else _)=_;simp[U],q2⟩
    refine Or.inr ⟨b',arr,e',by show (if BD o=BD o then _ else _)=_;simp[U],q4,fun i y hy=>?_⟩;obtain⟨us,p1,p2⟩:=q6 i y hy;exact⟨us,B3 (w':=w') au _ _ _ p1,p2⟩
   refine Zr (x:=CR w' fun b=>((fl=false/\J b)\/w.heap.size<=b)/\b<w'.heap.size/\bo≠some b) (lo:=w.heap.size) (bo:=bo) au rfl ?_ ?_ W.1 hr
   ·show _<=AO _ (BD o);rw[EC _ _ _ D,if_pos rfl];simp[AK.AO]
   intro _;show (if BD o=BD o then _ else _)=_;simp
  have G:s.bk.length<=BD o:=Nat.le_of_not_lt D
  have aI:s.app o.dst ⟨Gv (BD o) (AO (AF s.bk) (BD o)+1) r,Gc (BD o) (AO (AF s.bk) (BD o)+1) r,rd⟩=s.app none ⟨.one .BJ,[],rd⟩:=by
   have e1:∀v,EX s.sl o.dst v=s.sl:=fun v=>by
    cases hd:o.dst with
    | none=>rfl
    | some q=>simp[BD,hd] at G;simp[EX,Ff s.sl q v (by rw[S.len,<-S.F2];exact G)]
   have e2:CD (Gc (BD o) (AO (AF s.bk) (BD o)+1) r) s.bk=s.bk:=by
    rcases UA (BD o) (AO (AF s.bk) (BD o)+1) W.2 hr with h0 |⟨t,l,u',h0,_⟩
    ·rw[h0];rfl
    rw[h0];simp[CD,Ff _ _ _ G]
   simp only[St.app,e1,e2];rfl
  have ha:a.put o.dst u=a.put none undef:=by
   cases hd:o.dst with
   | none=>rfl
   | some q=>
    simp[BD,hd] at G;have:a.tmps.size<=q:=by rw[<-S.F2];exact G
    simp[Act.put,Array.setIfInBounds_eq_of_size_le this]
  rw[ha];exact hN β _ w' (by rw[aI];exact S.ext M hb.size hb.os hb.tape hb.output (HD _ _))
 rcases h with⟨K,r,F,Y,h⟩ |⟨K,r,F,Y,h⟩ | h |⟨id,Az,K,r,F,Y,h⟩ |⟨id,Az,K,r,F,Y,h⟩ | h
 ·obtain⟨B,W,L⟩:=Y ();have:=L w (cx X w β (AF s.bk)).I (c.args.toList.map a.eval) av (M3 (x:=cx X w β (AF s.bk)) (y:=CR w (cx X w β (AF s.bk)).I) (fun b hb=>⟨hb,rfl⟩) (F ()) z);exact after false r _ _ (fun b hb _=>hb) B W (by rw[hU];exact this) h.symm
 ·obtain⟨B,W,L⟩:=Y ();have:=L w (fun b=>b<w.heap.size) (c.args.toList.map a.eval) (fun b hb=>hb) (JM S (fun b hb=>hb.1.1) (fun _ _ _ _ _ h=>h) (F ()) z);exact after true r _ (fun b=>b<w.heap.size) (fun b _ e=>by cases e) B W (by rw[hU];exact this) h.symm
 ·generalize hA:c.args.toList.map (ev s.sl)=A at h z
  generalize hV:c.args.toList.map a.eval=V at z hU
  split at h
  case h_2=>exact h.elim
  rename_i c0 rest
  split at h
  case h_2=>exact h.elim
  rename_i id vv aA
  split at h
  case h_2=>exact h.elim
  rename_i Az hb
  split at h
  case isFalse=>exact h.elim
  rename_i aB
  obtain⟨K,r,b1,F,Y,h⟩:=h;obtain⟨aG,F⟩:=F ();obtain⟨Y,aC,aE⟩:=Y ();obtain⟨B,⟨aO,aP,aD,aQ⟩,L⟩:=Y
  match V,z with
  | v0::vs,⟨ao,aq⟩=>
  have ar:vv=AO (AF s.bk) id:=by rw[DW hb];exact aB.symm
  have D:id<s.bk.length:=by
   rcases Nat.lt_or_ge id s.bk.length with G | G
   ·exact G
   rw[F3 _ _ G] at hb;cases hb
  have p:live (AF s.bk) id:=by
   refine⟨Az,hb,?_⟩;cases Az <;> simp_all [AK.live,AK.lone,AK.DL]
  have a6:∀b,(cx X w β (AF s.bk)).I b->(b<w.heap.size/\β id≠some b)/\w.heap[b]? =w.heap[b]? :=fun b hb=>⟨⟨hb.1.1,hb.1.2 id p⟩,rfl⟩
  have an:Ah (BV w (β id) fun b=>b<w.heap.size/\β id≠some b) (Gf 0 0 c0) v0:=Le ar aA (BE ao (by intro e;subst e;cases aA));have a8:B5 (BV w (β id) fun b=>b<w.heap.size/\β id≠some b) 0 (Az.DL 0):=N5 a6 aD (S.blocks id Az hb)
  have n:=L w (fun b=>b<w.heap.size/\β id≠some b) (β id) v0 vs (fun b hb=>hb) an a8 (by have:=S.lens id Az hb;cases Az <;> simpa [AK.short,AK.DL] using this)
   (JM S (fun b hb=>(a6 b hb).1) (fun a7 b aa ag m ad=>⟨ad,fun e=>aG (S.inj a7 id b ag p m e ▸ aa)⟩) F aq)
  subst h;rw[<-hU] at n;refine KR ho hc ae B n fun e w' H=>?_
  obtain⟨u,he,⟨p1,p2,p3,p4,p5⟩,p6,p7,p8,p9⟩:=H;refine⟨u,he,?_⟩;have al:(b1.DL vv).AO=vv:=by cases b1 <;> rfl
  refine hN β _ w' (S.write D (by cases b1 <;> simpa [AK.short,AK.DL] using p9) (fun _ _=>rfl) (by rw[al];omega) (fun _=>⟨rfl,fun _=>p⟩) (fun b m a2=>p5 b m (a2 p)) p4 (fun b arr e H=>?_) p1 p2 p3 (fun _ b m=> .inl ⟨m,p⟩) (fun _=>?_) (fun _=>?_))
  ·by_cases Z:β id=some b
   ·exact p6 b arr e Z H
   exact⟨arr,(p5 b (a5 b _ H) Z).trans H,rfl⟩
  ·exact fC rfl aC p8
  refine fD rfl ?_ aE p7
  show vv=AO _ id
  rw[EC _ _ _ D,if_pos rfl,al]
 ·obtain⟨hb,hle⟩:=F ();obtain⟨B,⟨hp,ab⟩,L⟩:=Y ()
  have D:id<s.bk.length:=by
   rcases Nat.lt_or_ge id s.bk.length with G | G
   ·exact G
   rw[F3 _ _ G] at hb;cases hb
  have p:live (AF s.bk) id:=by
   refine⟨Az,hb,?_⟩;cases Az <;> simp_all [AK.live,AK.lone,AK.DL]
  have ai:Az.AO=AO (AF s.bk) id:=(DW hb).symm;have a6:∀b,(cx X w β (AF s.bk)).I b->(cx X w β (AF s.bk)).I b/\w.heap[b]? =w.heap[b]? :=fun b hb=>⟨hb,rfl⟩
  have a8:B5 (BV w (β id) (cx X w β (AF s.bk)).I) 0 (Az.DL 0):=N5 a6 ab (S.blocks id Az hb)
  have n:=L w (cx X w β (AF s.bk)).I (β id) (c.args.toList.map a.eval) (fun b hb=>⟨hb.1.1,fun e=>hb.1.2 id p e⟩) a8
   (by have:=S.lens id Az hb;cases Az <;> simpa [AK.short,AK.DL] using this) (M4 ai hle z)
  subst h
  have heq:s.app o.dst ⟨r,[],[id]⟩=s.app o.dst ⟨r,[(id,Az)],[id]⟩:=by
   unfold St.app;simp only[CD,U6 _ _ _ hb]
  rw[heq] at hN;rw[<-hU] at n;refine KR ho hc ae B n fun e w' H=>?_
  obtain⟨u,he,⟨p1,p2,p3,p4,p5⟩,p6,p7,p8⟩:=H;refine⟨u,he,?_⟩
  have hJ:∀k,(((cx X w β (AF s.bk)).I k\/w.heap.size<=k)/\k<w'.heap.size/\β id≠some k)->(cx X w' β (AF (Al s.bk id (some Az)))).I k:=fun k C=>by
   have O:∀j,live (AF (Al s.bk id (some Az))) j->live (AF s.bk) j:=fun j hj=>by
    rw[FW _ _ _ D] at hj
    by_cases h:j=id
    ·subst h;exact p
    rw[if_neg h] at hj;exact hj
   rcases C.1 with h | h
   ·exact⟨⟨C.2.1,fun j hj=>h.1.2 j (O j hj)⟩,h.2⟩
   refine⟨⟨C.2.1,fun j hj e=>?_⟩,S.fresh k (Nat.le_trans S.size h)⟩;have:=R j k (O j hj) e;omega
  refine hN β _ w' (S.write D (S.lens id Az hb) (fun _ _=>rfl) (Nat.le_of_eq ai.symm) (fun _=>⟨rfl,fun _=>p⟩) (fun b m a2=>p5 b m (a2 p)) p4 (fun b arr e H=>?_) p1 p2 p3 (fun _ b m=> .inl ⟨m,p⟩) (fun _=>?_) (fun _=>?_))
  ·by_cases Z:β id=some b
   ·exact p6 b arr e Z H
   exact⟨arr,(p5 b (a5 b _ H) Z).trans H,rfl⟩
  ·exact fB hJ rfl rfl ab p8
  exact cX (x:=BV w' (β id) fun k=>((cx X w β (AF s.bk)).I k\/w.heap.size<=k)/\k<w'.heap.size/\β id≠some k) (y:=cx X w' β (AF (Al s.bk id (some Az)))) (fun k C=>⟨hJ k C,rfl⟩) hp p7
 ·obtain⟨⟨h0,hb,aw⟩,aJ⟩:=F ();obtain⟨⟨B,W,L⟩,az⟩:=Y ()
  have D:id<s.bk.length:=by
   rcases Nat.lt_or_ge id s.bk.length with G | G
   ·exact G
   rw[F3 _ _ G] at hb;cases hb
  have ai:Az.AO=AO (AF s.bk) id:=(DW hb).symm
  have ah:∀k,live (AF (Al s.bk id (some (.dead Az.AO)))) k->k≠id/\live (AF s.bk) k:=fun k C=>by
   rw[FW _ _ _ D] at C
   by_cases h:k=id
   ·rw[if_pos h] at C;cases C
   rw[if_neg h] at C;exact⟨h,C⟩
  have n:=L w (cx X w β (AF (Al s.bk id (some (.dead Az.AO))))).I (c.args.toList.map a.eval) (fun b m=>m.1.1)
   (JM S (fun b m=>⟨⟨m.1.1,fun k C=>m.1.2 k (ah k C).2⟩,m.2⟩) (fun a7 b aa ag m ad=>by
    have e:a7=id:=by simpa using List.all_eq_true.1 aw a7 aa
    subst e;refine⟨⟨ad,fun k C e=>(ah k C).1 (S.inj k a7 b (ah k C).2 ag e m)⟩,?_⟩;rcases S.own a7 b ag m with G | G
    ·exact S.fresh b G
    exact absurd G.2 h0) aJ z)
  subst h;rw[<-hU] at n;refine KR ho hc ae B n fun e w' H=>?_
  obtain⟨u,bo,he,a1,hr⟩:=H;refine⟨u,he,?_⟩;have M:∀b,b<w.heap.size->w'.heap[b]? =w.heap[b]? :=a1.block
  refine hN β _ w' (S.write D trivial (fun _ _=>rfl) (Nat.le_of_eq ai.symm) (fun _=>⟨rfl,fun e=>by cases e⟩) (fun b m _=>M b m) a1.size (fun b arr e H=>⟨arr,(M b (a5 b _ H)).trans H,rfl⟩) a1.os a1.tape a1.output
   (fun e=>by cases e) (fun _=>trivial) (fun _=>?_))
  have hJ:∀b,(((false=false/\(cx X w β (AF (Al s.bk id (some (.dead Az.AO))))).I b)\/w.heap.size<=b)/\b<w'.heap.size/\bo≠some b)->(cx X w' β (AF (Al s.bk id (some (.dead Az.AO))))).I b/\w'.heap[b]? =w'.heap[b]? :=fun b m=>by
   obtain⟨U,q2,_⟩:=m;rcases U with⟨_,U⟩ | U
   ·exact⟨⟨⟨q2,U.1.2⟩,U.2⟩,rfl⟩
   refine⟨⟨⟨q2,fun k C e=>?_⟩,S.fresh b (Nat.le_trans S.size U)⟩,rfl⟩;have:=R k b (ah k C).2 e;omega
  have hg:=SR (x:=CR w' fun b=>((false=false/\(cx X w β (AF (Al s.bk id (some (.dead Az.AO))))).I b)\/w.heap.size<=b)/\b<w'.heap.size/\bo≠some b) (y:=cx X w' β (AF (Al s.bk id (some (.dead Az.AO))))) (SU (d:=0) (v:=0) az).2 W hJ hr;rw[(SU (d:=0) (v:=0) az).1] at hg;exact hg
 generalize hA:c.args.toList.map (ev s.sl)=A at h z
 generalize hV:c.args.toList.map a.eval=V at z hU
 split at h
 case h_2=>exact h.elim
 rename_i t id v off len rest
 split at h
 case h_2=>exact h.elim
 rename_i v' t' l hb
 split at h
 case isFalse=>exact h.elim
 rename_i aL
 obtain⟨rfl,aK⟩:=aL;obtain rfl:=T.beq_eq aK;obtain⟨K,l',F,Y,h⟩:=h;have h:=h _ rfl;obtain⟨⟨rfl,rfl⟩,ax,F⟩:=F ();obtain⟨B,L⟩:=Y ()
 match V,z with
 | v0::vs,⟨ao,aq⟩=>
 have ar:v'=AO (AF s.bk) id:=by rw[DW hb];rfl
 have D:id<s.bk.length:=by
  rcases Nat.lt_or_ge id s.bk.length with G | G
  ·exact G
  rw[F3 _ _ G] at hb;cases hb
 have p:live (AF s.bk) id:=⟨_,hb,rfl⟩;have a6:∀b,(cx X w β (AF s.bk)).I b->(cx X w β (AF s.bk)).I b/\w.heap[b]? =w.heap[b]? :=fun b hb=>⟨hb,rfl⟩
 have an:Ah (BV w (β id) (cx X w β (AF s.bk)).I) (.AN t' 0 0 0 l.length) v0:=Le ar rfl (BE ao (by simp));have a8:B5 (BV w (β id) (cx X w β (AF s.bk)).I) 0 (.arr 0 t' l):=N5 a6 rfl (S.blocks id _ hb)
 have ay:∀i b,live (AF s.bk) i->β i=some b->∃arr e,w.heap[b]? =some (.cells arr e (0,0)):=fun i b ⟨bl,U,q2⟩ q3=>by
  have:=S.blocks i bl U;cases bl with
  | dead _=>cases q2
  | var _ cs=>obtain⟨b',arr,e,g1,g2,_⟩:=this;exact⟨arr,e,by rw[<-Option.some.inj (g1.symm.trans q3)];exact g2⟩
  | arr _ t1 l1=>
   rcases this with⟨g1,_⟩ |⟨b',arr,e,g1,g2,_⟩
   ·exact absurd (g1.symm.trans q3) (by simp)
   exact⟨arr,e,by rw[<-Option.some.inj (g1.symm.trans q3)];exact g2⟩
 have n:=L w (cx X w β (AF s.bk)).I (fun b=>∃i,i∈BR rest/\live (AF s.bk) i/\β i=some b) (β id) v0 vs (fun b hb=>⟨hb.1.1,fun e=>hb.1.2 id p e⟩)
  (fun b ⟨i,U,q2,q3⟩=>⟨fun e=>SO ax i U (S.inj i id b q2 p q3 e),ay i b q2 q3⟩) an a8 (S.lens id _ hb)
  (Qu S ax (fun i b U q2 q3 _=>⟨i,U,q2,q3⟩) F aq)
 subst h;rw[<-hU] at n;refine KR ho hc ae B n fun e w' H=>?_
 obtain⟨u,aj,he,⟨p1,p2,p3,p4,p5⟩,p6,p7,p8,p9,aM⟩:=H;refine⟨u,he,?_⟩
 have hJ:∀k,(((cx X w β (AF s.bk)).I k\/w.heap.size<=k)/\k<w'.heap.size/\β id≠some k/\aj≠some k)->(cx X w' (fun k=>if k=id then aj else β k) (AF (Al s.bk id (some (.arr (v'+1) t' l'))))).I k:=fun k C=>by
  have O:∀j,j≠id->live (AF (Al s.bk id (some (.arr (v'+1) t' l')))) j->live (AF s.bk) j:=fun j hn hj=>by
   rw[FW _ _ _ D,if_neg hn] at hj;exact hj
  have a2:∀j,live (AF (Al s.bk id (some (.arr (v'+1) t' l')))) j->(if j=id then aj else β j)≠some k:=fun j hj=>by
   by_cases hn:j=id
   ·rw[if_pos hn];exact C.2.2.2
   rw[if_neg hn];rcases C.1 with h | h
   ·exact h.1.2 j (O j hn hj)
   intro e;have:=R j k (O j hn hj) e;omega
  rcases C.1 with h | h
  ·exact⟨⟨C.2.1,a2⟩,h.2⟩
  exact⟨⟨C.2.1,a2⟩,S.fresh k (Nat.le_trans S.size h)⟩
 refine hN (fun k=>if k=id then aj else β k) _ w' (S.write D p8 (fun k C=>by simp[C]) (by simp only[AK.AO];omega) (fun e=>by simp only[AK.AO] at e;omega) (fun b m a2=>p5 b m (a2 p)) p4 (fun b arr e H=>?_) p1 p2 p3 (fun _ b m=>?_) (fun _=>?_) (fun _=>?_))
 ·by_cases Z:β id=some b
  ·exact p6 b arr e Z H
  exact⟨arr,(p5 b (a5 b _ H) Z).trans H,rfl⟩
 ·simp at m;rcases p7 with p7 |⟨b2,p7,aN⟩
  ·exact .inl ⟨by rw[<-p7,m],p⟩
  rw[p7] at m;obtain rfl:=Option.some.inj m;exact .inr aN
 ·refine aM.imp (fun q=>⟨?_,q.2⟩) fun⟨b,arr,e,F,Y,h3⟩=>⟨b,arr,e,?_,Y,fun i y hy=>?_⟩
  ·show (if id=id then _ else _)=_;rw[if_pos rfl];exact q.1
  ·show (if id=id then _ else _)=_;rw[if_pos rfl];exact F
  obtain⟨us,U,q2⟩:=h3 i y hy;exact⟨us,B3 (w':=w') (fun k C=>⟨hJ k C,rfl⟩) _ _ _ U,q2⟩
 refine .inr ⟨⟨p9.1.1,?_⟩,fun _=>?_⟩
 ·show v'+1<=AO _ id;rw[EC _ _ _ D,if_pos rfl];exact Nat.le_refl _
 have:=p9.2 rfl
 show FH w' (if id=id then _ else _) _ _ _ _ _;rw[if_pos rfl];exact this
end
section
theorem YU {op:BinOp} {k:IntKind} {a b:Int} {K:AC->Prop} (h:arith op k a b K):∃c,(∀j:AC->Prop,j c->arith op k a b j)/\K c:=by
 unfold arith at h ⊢
 split at h
 case h_1=>obtain⟨g,i⟩:=h _ rfl;exact⟨_,fun j f c d=>by subst d;exact⟨g,f⟩,i⟩
 case h_2=>obtain⟨g,i⟩:=h _ rfl;exact⟨_,fun j f c d=>by subst d;exact⟨g,f⟩,i⟩
 case h_3=>obtain⟨g,i⟩:=h _ rfl;exact⟨_,fun j f c d=>by subst d;exact⟨g,f⟩,i⟩
 case h_4=>obtain⟨g,i⟩:=h _ rfl;exact⟨_,fun j f c d=>by subst d;exact⟨g,f⟩,i⟩
 case h_5=>obtain⟨g,i⟩:=h _ rfl;exact⟨_,fun j f c d=>by subst d;exact⟨g,f⟩,i⟩
 all_goals first
  | exact⟨_,fun j f c d=>by subst d;exact f,h _ rfl⟩
  | (obtain⟨g,i⟩:=h _ rfl;exact⟨_,fun j f c d=>by subst d;exact⟨g,f⟩,i⟩)
theorem Ku {len:Nat} {lo k mx:Option AV} {K:Nat->Nat->Bool->Prop} (h:Gs len lo k mx K):∃a b c,(∀f:Nat->Nat->Bool->Prop,f a b c->Gs len lo k mx f)/\K a b c:=by
 unfold Gs at h ⊢
 split at h
 ·exact⟨_,_,_,fun f d c n=>by subst n;exact d,h _ rfl⟩
 ·obtain⟨g,i⟩:=h;exact⟨_,_,_,fun f d=>⟨g,fun l m j=>by obtain⟨rfl,rfl⟩:=j;exact d⟩,i _ _ ⟨rfl,rfl⟩⟩
 ·obtain⟨g,i⟩:=h;exact⟨_,_,_,fun f d=>⟨g,fun l j=>by obtain rfl:=j;exact d⟩,i _ rfl⟩
 ·obtain⟨g,i⟩:=h;exact⟨_,_,_,fun f d=>⟨g,fun l m j=>by obtain⟨rfl,rfl⟩:=j;exact d⟩,i _ _ ⟨rfl,rfl⟩⟩
 ·obtain⟨g,i⟩:=h;exact⟨_,_,_,fun f d=>⟨g,fun l j=>by obtain rfl:=j;exact d⟩,i _ rfl⟩
 exact h.elim
theorem YW {bk:Nat->Option AK} {u:T} {x:AV} {lo l mx:Option AV} {K:BG->Prop} (h:Gr bk u x lo l mx K):∃f,(∀g:BG->Prop,g f->Gr bk u x lo l mx g)/\K f:=by
 unfold Gr at h ⊢
 split at h
 ·obtain⟨k,h⟩:=h;obtain⟨a,b,c,i,h3⟩:=Ku (h _ rfl);exact⟨_,fun g j=>⟨k,fun n m=>by subst m;exact i _ fun l' d=>by subst d;exact j⟩,h3 _ rfl⟩
 ·obtain⟨k,h⟩:=h
  split at h
  ·rename_i p
   obtain⟨a,b,c,i,h3⟩:=Ku h;have h3:=h3 _ _ ⟨rfl,rfl⟩;cases c with
   |true|false=>exact⟨_,fun g j=>⟨k,by rw[if_pos p];exact i _ fun o n d=>by obtain⟨rfl,rfl⟩:=d;exact j⟩,h3⟩
  exact h.elim
 ·obtain⟨a,b,c,i,h3⟩:=Ku h;exact⟨_,fun g j=>i _ j,h3⟩
 exact h.elim
theorem YF {E:Env} {g:FuncId} {args:List AV} {d:Nat} {bk:Nat->Option AK} {K:BG->Prop} (h:GO E g args d bk K):∃f,(∀l:BG->Prop,l f->GO E g args d bk l)/\K f:=by
 rcases h with⟨a,r,c,j,h⟩ |⟨a,r,c,j,h⟩ | h |⟨i,b,a,r,c,j,h⟩ |⟨i,b,a,r,c,j,h⟩ | h
 ·exact⟨_,fun l k=> .inl ⟨a,r,c,j,k⟩,h⟩
 ·exact⟨_,fun l k=> .inr (.inl ⟨a,r,c,j,k⟩),h⟩
 rotate_left
 ·exact⟨_,fun l k=> .inr (.inr (.inr (.inl ⟨i,b,a,r,c,j,k⟩))),h⟩
 ·exact⟨_,fun l k=> .inr (.inr (.inr (.inr (.inl ⟨i,b,a,r,c,j,k⟩)))),h⟩
 ·unfold GO
  split at h
  ·split at h
   ·rename_i hb
    split at h
    ·rename_i m
     obtain⟨a,l',c,j,h⟩:=h;exact⟨_,fun l k=> .inr (.inr (.inr (.inr (.inr (by simp only[hb,if_pos m];exact⟨a,l',c,j,fun n o=>by subst o;exact k⟩))))),h _ rfl⟩
    exact h.elim
   exact h.elim
  exact h.elim
 unfold GO
 split at h
 ·split at h
  ·rename_i p
   split at h
   ·rename_i hb
    split at h
    ·rename_i m
     obtain⟨a,r,b1,c,j,h⟩:=h;exact⟨_,fun l k=> .inr (.inr (.inl (by simp only[p,hb,if_pos m];exact⟨a,r,b1,c,j,k⟩))),h⟩
    exact h.elim
   exact h.elim
  exact h.elim
 exact h.elim
theorem T.beq_refl:∀t:T,T.beq t t=true
 | .u8=>rfl | .u32=>rfl | .u64=>rfl | .i8=>rfl | .i64=>rfl | .bool=>rfl
 | .sl t=>T.beq_refl t
 | .pr a b=>by simp only[T.beq,T.beq_refl a,T.beq_refl b,Bool.and_self]
theorem GN {TI:TypeId->Info} {b:Builtin} {a:List TypeId} {args:List AV} {d:Nat} {bk:Nat->Option AK} {K:BG->Prop}:
  Mv TI b a args d bk K↔D2 TI b a args d bk K\/(b= .append/\D2 TI b a args d bk (Is K))\/(b= .append/\FL TI a args bk K):=by
 cases b <;> simp[Mv]
theorem YH {TI:TypeId->Info} {a:List TypeId} {args:List AV} {bk:Nat->Option AK} {K:BG->Prop} (h:FL TI a args bk K):∃g,(∀b:BG->Prop,b g->FL TI a args bk b)/\K g:=by
 unfold FL at h
 split at h
 ·obtain⟨d,h⟩:=h
  split at h
  ·rename_i i
   split at h
   ·rename_i k
    obtain⟨l2,f,h⟩:=h;exact⟨_,fun b c=>by unfold FL;refine⟨d,?_⟩;simp only[i,if_pos k];exact⟨l2,f,fun l' n j=>by obtain⟨rfl,rfl⟩:=j;exact c⟩,h _ _ ⟨rfl,rfl⟩⟩
   exact h.elim
  exact h.elim
 exact h.elim
theorem O0 {K:BG->Prop} {g:BG} (h:Is K g):∃(t:T) (id v n:Nat) (l:List (el t)),g=⟨.one (.AN t id v 0 n),[(id,.arr v t l)],g.rd⟩/\id≠0/\n=l.length/\K ⟨.one (.sl t l),[(id,.dead v)],g.rd⟩/\
  ∀a:BG->Prop,a ⟨.one (.sl t l),[(id,.dead v)],g.rd⟩->Is a g:=by
 obtain⟨p,q,o⟩:=g;unfold Is at h
 split at h
 ·rename_i t id v off n i s r l c d
  split at h
  ·rename_i f
   simp only at c d;simp only[Bool.and_eq_true,bne_iff_ne,beq_iff_eq] at f;obtain⟨⟨⟨⟨c1,c2⟩,j⟩,k⟩,b⟩:=f;have b:=T.beq_eq b;subst c2 j k b c d;refine⟨t,id,v,n,l,rfl,c1,h.1 (),h.2,fun a m=>?_⟩;unfold Is;simp only;rw[if_pos (by simp[c1,T.beq_refl])];exact⟨h.1,m⟩
  exact h.elim
 exact h.elim
theorem M1 {TI:TypeId->Info} {b:Builtin} {a:List TypeId} {args:List AV} {d:Nat} {bk:Nat->Option AK} {K:BG->Prop} (hb:b= .append) (h:D2 TI b a args d bk K):args.length=2:=by
 subst hb;unfold D2 at h
 split at h <;> first | contradiction | exact h.elim | rfl
theorem YS {TI:TypeId->Info} {b:Builtin} {c:List TypeId} {args:List AV} {d:Nat} {bk:Nat->Option AK} {g:BG} (hb:b= .append) (h:D2 TI b c args d bk (fun f=>f=g)) {id:Nat} {B:AK} (hw:g.ws=[(id,B)]):
  id=d\/∃x,bk id=some x:=by
 subst hb;unfold D2 at h
 split at h <;> first | contradiction | skip
 ·obtain⟨_,l2,_,h⟩:=h;have:=h _ rfl;subst this;simp at hw;exact .inl hw.1.symm
 ·obtain⟨_,h⟩:=h
  split at h
  ·rename_i a
   split at h
   ·obtain⟨l2,_,h⟩:=h;have:=h _ _ ⟨rfl,rfl⟩;subst this;simp at hw;exact .inr ⟨_,hw.1 ▸ a⟩
   exact h.elim
  exact h.elim
 obtain⟨_,h⟩:=h
 split at h
 ·rename_i a
  split at h
  ·obtain⟨l2,_,h⟩:=h;have:=h _ _ ⟨rfl,rfl⟩;subst this;simp at hw;exact .inr ⟨_,hw.1 ▸ a⟩
  exact h.elim
 exact h.elim
theorem JJ {TI:TypeId->Info} {b:Builtin} {o:List TypeId} {args:List AV} {d:Nat} {bk:Nat->Option AK} {K:BG->Prop} (hlen:∀t l,args=[.one (.sl t l)]->l.length<=140737488355328) (h:D2 TI b o args d bk K):
  ∃f,(∀g:BG->Prop,g f->D2 TI b o args d bk g)/\K f:=by
 unfold D2 at h ⊢
 split at h
 ·exact⟨_,fun g a=>⟨h.1,fun n i=>by obtain⟨rfl,_⟩:=i;exact a⟩,h.2 _ ⟨rfl,hlen _ _ rfl⟩⟩
 ·obtain⟨j,h⟩:=h
  split at h
  ·rename_i k
   exact⟨_,fun g a=>⟨j,by rw[if_pos k];intro n i;obtain⟨rfl⟩:=i;exact a⟩,h _ ⟨rfl⟩⟩
  exact h.elim
 ·obtain⟨j,h⟩:=h
  split at h
  ·rename_i k
   exact⟨_,fun g a=>⟨j,by rw[if_pos k];intro n i;obtain⟨rfl⟩:=i;exact a⟩,h _ ⟨rfl⟩⟩
  exact h.elim
 ·exact⟨_,fun g a=>⟨h.1,a⟩,h.2⟩
 ·exact⟨_,fun g a=>⟨h.1,a⟩,h.2⟩
 ·exact⟨_,fun g a c p=>by subst p;exact a,h _ rfl⟩
 ·exact⟨_,fun g a c p=>by subst p;exact a,h _ rfl⟩
 ·obtain⟨j,l2,m,h⟩:=h;exact⟨_,fun g a=>⟨j,l2,m,fun n i=>by subst i;exact a⟩,h _ rfl⟩
 ·obtain⟨j,h⟩:=h
  split at h
  ·rename_i hb
   split at h
   ·rename_i k
    obtain⟨l2,m,h⟩:=h;exact⟨_,fun g a=>⟨j,by simp only[hb,if_pos k];exact⟨l2,m,fun l' n i=>by obtain⟨rfl,rfl⟩:=i;exact a⟩⟩,h _ _ ⟨rfl,rfl⟩⟩
   exact h.elim
  exact h.elim
 ·obtain⟨j,h⟩:=h
  split at h
  ·rename_i hb
   split at h
   ·rename_i k
    obtain⟨l2,m,h⟩:=h;exact⟨_,fun g a=>⟨j,by simp only[hb,if_pos k];exact⟨l2,m,fun l' n i=>by obtain⟨rfl,rfl⟩:=i;exact a⟩⟩,h _ _ ⟨rfl,rfl⟩⟩
   exact h.elim
  exact h.elim
 exact h.elim
theorem M0 {E:Env} {TI:TypeId->Info} {o:Oper} {d:Nat} {e:Operand->AV} {bk:Nat->Option AK} {K:BG->Prop} (hlen:∀x t l,e x= .one (.sl t l)->l.length<=140737488355328) (h:Bp E TI o d e bk K):
  ∃f,(∀m:BG->Prop,m f->Bp E TI o d e bk m)/\K f:=by
 unfold Bp at h ⊢;cases N:o.op <;> simp only[N] at h ⊢
 case move x=>exact⟨_,fun m a=>a,h⟩
 case assign x=>exact⟨_,fun m a=>a,h⟩
 case nilCheck x=>
  split at h
  ·rename_i he
   split at h
   ·rename_i s
    rw[he] at h;exact⟨_,fun m a=>by rw[he];rw[if_pos s];exact a,h⟩
   exact h.elim
  ·rename_i he
   exact⟨_,fun m a=>a,h⟩
  exact h.elim
 case pick c x y=>
  split at h
  ·rename_i he;exact⟨_,fun m a=>by (try simp only[he]);exact a,h⟩
  ·rename_i he;exact⟨_,fun m a=>by (try simp only[he]);exact a,h⟩
  exact h.elim
 case alloc t=>exact⟨_,fun m a=>⟨h.1,a⟩,h.2⟩
 case box t x=>
  split at h
  ·exact h.elim
  ·exact h.elim
  rename_i v q r
  exact⟨_,fun m a=>a,h⟩
 case extract x i=>
  split at h
  ·rename_i he
   split at h
   ·rename_i u
    exact⟨_,fun m a=>by (try simp only[he,u]);exact a,h⟩
   exact h.elim
  exact h.elim
 case load t x=>
  simp only[JY] at h ⊢;obtain⟨q,h⟩:=h
  split at h
  ·rename_i he
   split at h
   ·rename_i hb
    split at h
    ·rename_i s
     exact⟨_,fun m a=>⟨q,by (try simp only[he,hb,if_pos s]);exact a⟩,h⟩
    exact h.elim
   exact h.elim
  ·rename_i he
   split at h
   ·rename_i s
    exact⟨_,fun m a=>⟨q,by (try simp only[he,if_pos s]);exact a⟩,h⟩
   exact h.elim
  ·rename_i he
   split at h
   ·rename_i hb
    split at h
    ·rename_i s
     obtain⟨z,r,h⟩:=h
     split at h
     ·rename_i I
      exact⟨_,fun m a=>⟨q,by (try simp only[he,hb,if_pos s]);exact⟨z,r,by simp only[if_pos I];exact a⟩⟩,h⟩
     exact h.elim
    exact h.elim
   exact h.elim
  exact h.elim
 case store t p x=>
  obtain⟨q,h⟩:=h
  split at h
  ·rename_i he
   split at h
   ·exact h.elim
   ·exact h.elim
   ·rename_i O Q hb
    split at h
    ·rename_i s
     refine⟨_,fun m a=>⟨q,?_⟩,h⟩;rw[if_pos s];exact a
    exact h.elim
   exact h.elim
  ·rename_i he
   split at h
   ·exact h.elim
   ·exact h.elim
   ·rename_i O Q hb
    split at h
    ·rename_i s
     obtain⟨z,r,h⟩:=h;refine⟨_,fun m a=>⟨q,?_⟩,h _ rfl⟩;rw[if_pos s];exact⟨z,r,fun l' G=>by subst G;exact a⟩
    exact h.elim
   exact h.elim
  exact h.elim
 case fieldAddr t x i=>
  obtain⟨q,h⟩:=h
  split at h
  ·rename_i C he
   split at h
   ·rename_i s
    exact⟨_,fun m a=>⟨q,by (try simp only[C,he,if_pos s]);exact a⟩,h⟩
   exact h.elim
  ·rename_i C he
   exact⟨_,fun m a=>⟨q,by (try simp only[C,he]);exact a⟩,h⟩
  ·rename_i C he
   split at h
   ·rename_i s
    exact⟨_,fun m a=>⟨q,by (try simp only[C,he,if_pos s]);exact a⟩,h⟩
   exact h.elim
  exact h.elim
 case field t x i=>
  obtain⟨q,h⟩:=h
  split at h
  ·rename_i C he
   split at h
   ·rename_i s
    exact⟨_,fun m a=>⟨q,by (try simp only[C,he,if_pos s]);exact a⟩,h⟩
   exact h.elim
  exact h.elim
 case build t ps=>
  obtain⟨q,h⟩:=h
  split at h
  ·rename_i he
   exact⟨_,fun m a=>⟨q,by (try simp only[he]);exact a⟩,h⟩
  exact h.elim
 case buildSlice t n ps=>
  obtain⟨q,r,xs,h3,h | h⟩:=h
  ·exact⟨_,fun m a=>⟨q,r,xs,h3,.inl a⟩,h⟩
  exact⟨_,fun m a=>⟨q,r,xs,h3,.inr a⟩,h⟩
 case makeSlice t x y=>
  obtain⟨q,h⟩:=h
  split at h
  ·rename_i u A
   exact⟨_,fun m a=>⟨q,by (try simp only[u,A]);exact⟨h.1,fun k z I=>by obtain⟨rfl,rfl⟩:=I;exact a⟩⟩,h.2 _ _ ⟨rfl,rfl⟩⟩
  exact h.elim
 case indexAddr t x i=>
  obtain⟨q,h⟩:=h
  split at h
  ·rename_i u A
   obtain⟨r,z,h3,h⟩:=h;exact⟨_,fun m a=>⟨q,by (try simp only[u,A]);exact⟨r,z,h3,a⟩⟩,h⟩
  ·rename_i u A
   obtain⟨r,h⟩:=h
   split at h
   ·rename_i s
    exact⟨_,fun m a=>⟨q,by (try simp only[u,A]);exact⟨r,by rw[if_pos s];exact⟨h.1,fun j M=>by subst M;exact a⟩⟩⟩,h.2 _ rfl⟩
   exact h.elim
  exact h.elim
 case slice t x lo hi mx=>
  obtain⟨q,h⟩:=h;obtain⟨f,r,h3⟩:=YW h;exact⟨f,fun m a=>⟨q,r _ a⟩,h3⟩
 case binOp op t x y t'=>
  split at h
  ·rename_i u A
   split at h
   ·rename_i F
    obtain⟨c,r,h3⟩:=YU h;exact⟨_,fun m a=>by (try simp only[u,A,if_pos F]);exact r _ a,h3⟩
   exact h.elim
  ·rename_i u A
   obtain⟨q,h⟩:=h;cases op <;> simp only at h
   all_goals first
    | exact h.elim
    | exact⟨_,fun m a=>by (try simp only[u,A]);exact⟨q,fun c w=>w ▸ a⟩,h _ rfl⟩
  ·rename_i u A
   obtain⟨q,h⟩:=h;cases op <;> simp only at h
   all_goals first
    | exact h.elim
    | exact⟨_,fun m a=>by (try simp only[u,A]);exact⟨q,fun c w=>w ▸ a⟩,h _ rfl⟩
  exact h.elim
 case unOp op t x=>
  split at h
  ·rename_i u
   exact⟨_,fun m a=>by (try simp only[u]);intro c w;subst w;exact a,h _ rfl⟩
  ·rename_i u
   exact⟨_,fun m a=>by (try simp only[u]);intro c w;subst w;exact a,h _ rfl⟩
  exact h.elim
 case convert src dst x=>
  obtain⟨q,h⟩:=h
  split at h
  ·rename_i u A
   exact⟨_,fun m a=>⟨q,by (try simp only[u,A]);intro c w;subst w;exact a⟩,h _ rfl⟩
  exact h.elim
 case call c=>
  cases w:c.callee with
  | builtin b=>
   simp only[w] at h ⊢
   have B:∀t l,c.args.toList.map e=[.one (.sl t l)]->l.length<=140737488355328:=by
    intro t l D
    generalize c.args.toList=L at D
    match L,D with
    | [x],D=>exact hlen x t l (by simpa using D)
    |[],D|_::_::_,D=>simp at D
   rcases GN.1 h with h |⟨hb,h⟩ |⟨hb,h⟩
   ·obtain⟨g,q,r⟩:=JJ B h;exact⟨g,fun m a=>GN.2 (.inl (q m a)),r⟩
   ·obtain⟨g,q,r⟩:=JJ B h;obtain⟨t,id,v,n,l,R,_,_,J,H⟩:=O0 r;exact⟨_,fun m a=>GN.2 (.inr (.inl ⟨hb,q _ (H m a)⟩)),J⟩
   obtain⟨g,q,r⟩:=YH h;exact⟨g,fun m a=>GN.2 (.inr (.inr ⟨hb,q m a⟩)),r⟩
  | value f=>
   simp only[w] at h ⊢
   split at h
   ·rename_i he
    obtain⟨f,r,h3⟩:=YF h;exact⟨f,fun m a=>by (try simp only[he]);exact r _ a,h3⟩
   exact h.elim
  | invoke _ _=>simp only[w] at h
end
end Go.Abs
