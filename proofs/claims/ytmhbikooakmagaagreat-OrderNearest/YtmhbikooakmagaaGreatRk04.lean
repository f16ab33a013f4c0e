/- Part 5 of a proof. Conditions: each theorem's own. -/
import Derived.Test.YtmhbikooakmagaaGreatRk03
set_option linter.all false
set_option maxHeartbeats 8000000
set_option maxRecDepth 20000
namespace Go.Abs
open Go.RowKit
section
variable {P:Program} {TI:TypeId->Info}
theorem LO {w0:World} {X:WX} {β:Nat->Option Nat} {s:St} {a:Act} {w:World} (S:BI w0 X β s a w) {J:Nat->Prop} (i:∀b,(cx X w β (AF s.bk)).I b->J b):
  ∀{l m:List AV} {vs:List Value},(∀id b,id∈Bt l->live (AF s.bk) id->β id=some b->b<w.heap.size->J b)->Em (Du (AF s.bk)) l m->AS (BK (cx X w β (AF s.bk))) l vs->AS (BK (DC w J)) m vs
 | [],[],[],_,_,_=>trivial
 | .one c::_,.one d::_,_::_,hi,g,r=>⟨Or.inr (Zp S i (fun id b f=>hi id b (by simp[Bt,f])) g.1 (BN r.1 (by intro e;subst e;exact g.1.elim))),LO S i (fun id b f=>hi id b (by simp[Bt,f])) g.2 r.2⟩
 | .agg c::_,.agg d::_,_::_,hi,g,r=>by
  obtain⟨arr,e,j⟩:=r.1;refine⟨⟨arr,e,?_⟩,LO S i (fun id b f=>hi id b (by rw[Bt];exact List.mem_append_right _ f)) g.2 r.2⟩;exact all (fun id b f=>hi id b (by rw[Bt];exact List.mem_append_left _ f)) g.1 j
 |[],_::_,_,_,g,_|_::_,[],_,_,g,_=>g.elim
 |.one _::_,.agg _::_,_,_,g,_|.one _::_,.AG _::_,_,_,g,_|.agg _::_,.one _::_,_,_,g,_|.agg _::_,.AG _::_,_,_,g,_|.AG _::_,.one _::_,_,_,g,_|.AG _::_,.agg _::_,_,_,g,_|.AG _::_,.AG _::_,_,_,g,_=>g.1.elim
 |[],[],_::_,_,_,r|.one _::_,.one _::_,[],_,_,r|.agg _::_,.agg _::_,[],_,_,r=>r.elim
where
 all:∀{l m:List AC} {vs:List Value},(∀id b,id∈l.flatMap B3->live (AF s.bk) id->β id=some b->b<w.heap.size->J b)->Ao (Du (AF s.bk)) l m->AS (Ap (cx X w β (AF s.bk))) l vs->AS (Ap (DC w J)) m vs
  | [],[],[],_,_,_=>trivial
  | _::_,_::_,_::_,hi,h,r=>⟨Zp S i (fun id b f=>hi id b (by rw[List.flatMap_cons];exact List.mem_append_left _ f)) h.1 r.1,all (fun id b f=>hi id b (by rw[List.flatMap_cons];exact List.mem_append_right _ f)) h.2 r.2⟩
  |[],_::_,_,_,h,_|_::_,[],_,_,h,_=>h.elim
  |[],[],_::_,_,_,r|_::_,_::_,[],_,_,r=>r.elim
theorem Qq {x y:Cx} {lo:Nat} {bo:Option Nat} {d v:Nat} (h:∀b,x.I b->y.I b/\y.w.heap[b]? =x.w.heap[b]?) (hw:y.w=x.w) (a:v<=y.cv d) (f:v=y.cv d->y.β d=bo):∀{c:AC} {u:Value},CB c=true->C6 x lo bo c u->Ap y (FE d v c) u
 | .own t l n,u,_,⟨j,base,cap,e,s,i,_,h3⟩=>by
  subst e;refine⟨⟨rfl,a⟩,fun m=>⟨base,cap,by rw[j],by omega,i,by simp,?_⟩⟩;rcases h3 with⟨_,_,rfl⟩ |⟨b,arr,e,rfl,_,rfl,p,q,_⟩
  ·exact .inl rfl
  exact .inr ⟨b,arr,e,f m,by simp,by rw[hw];exact p,by simpa using q⟩
 |.BY,_,_,r|.int _ _,_,_,r|.bool _,_,_,r|.fn _,_,_,r|.nil,_,_,r=>r
 | .sl _ _,_,_,r=>CD h _ _ _ r
 |.AN _ _ _ _ _,_,e,_|.C9 _ _ _ _ _,_,e,_|.Ab _ _ _,_,e,_|.Ch _ _ _ _ _,_,e,_=>by simp[CB,BB] at e
 | .CX t y _,_,_,⟨b,o,us,e,g,k,ha⟩=>⟨b,o,us,e,(h b g).1,CD h t y us k,rangeAt_of_block (h b g).2 ha⟩
 | .CZ _ _,_,_,⟨us,e,r⟩=>⟨us,e,r.mono fun _ _=>FR.mono h⟩
 |.Cy _ _,_,e,_|.ub _,_,e,_=>by simp[CB,BB] at e
theorem AS.Qp {x y:Cx} {lo:Nat} {bo:Option Nat} {d v:Nat} (h:∀b,x.I b->y.I b/\y.w.heap[b]? =x.w.heap[b]?) (hw:y.w=x.w) (a:v<=y.cv d) (c:v=y.cv d->y.β d=bo):
  ∀{cs:List AC} {us:List Value},cs.all CB=true->AS (C6 x lo bo) cs us->AS (Ap y) (cs.map (FE d v)) us
 | [],[],_,_=>trivial
 | _::_,_::_,e,r=>by simp only[List.all_cons,Bool.and_eq_true] at e;exact⟨Qq h hw a c e.1 r.1,AS.Qp h hw a c e.2 r.2⟩
 |[],_::_,_,r|_::_,[],_,r=>r.elim
theorem g8 {x y:Cx} {lo:Nat} {bo:Option Nat} {d v:Nat} (h:∀b,x.I b->y.I b/\y.w.heap[b]? =x.w.heap[b]?) (hw:y.w=x.w) (a:v<=y.cv d) (i:v=y.cv d->y.β d=bo) {r:AV} {u:Value} (o:r.all CB=true) (f:GR x lo bo r u):
  BK y (IL d v r) u:=by
 cases r with
 | one c=>
  rcases f with rfl | f
  ·exact Or.inl rfl
  exact Or.inr (Qq h hw a i o f)
 | agg cs=>obtain⟨arr,e,f⟩:=f;exact⟨arr,e,AS.Qp h hw a i o f⟩
 | AG xs=>
  obtain⟨arr,e,f⟩:=f;refine⟨arr,e,?_⟩
  have key:∀(xs:List (Bool×List AC)) (us:List Value),(xs.all fun x=>x.2.all CB)=true->AS (fun z q=>Fo x lo bo (DI z) q) xs us->AS (fun z q=>Dg y (DI z) q) (xs.map fun x=>(x.1,x.2.map (FE d v))) us:=by
   intro xs
   induction xs with
   | nil=>intro us _ k;cases us <;> first | trivial | exact k.elim
   | cons z xs s=>
    intro us l k;cases us with
    | nil=>exact k.elim
    | cons q us=>
     simp only[List.all_cons,Bool.and_eq_true] at l;refine⟨?_,s us l.2 k.2⟩;obtain⟨g,cs⟩:=z;have m:=k.1;cases g with
     | true=>obtain⟨j,e',p⟩:=m;exact⟨j,e',AS.Qp h hw a i l.1 p⟩
     | false=>
      cases cs with
      | nil=>exact Or.inl rfl
      | cons c cs=>
       simp only[List.all_cons,Bool.and_eq_true] at l;rcases m with n | m
       ·have n:c= .BY:=n;subst n;exact Or.inl rfl
       exact Or.inr (Qq h hw a i l.1.1 m)
  exact key xs arr.toList o f
theorem MD {x:Cx} {lo:Nat} {bo:Option Nat} (d v:Nat):∀{cs:List AC} {us:List Value},AS (C6 x lo bo) cs us->Db d v cs=[]\/∃t l u,Db d v cs=[(d,.arr v t l)]/\OwnAt x lo bo t l u
 | [],[],_=> .inl rfl
 | c::cs,u::us,h=>by
  have a:=MD d v h.2;cases c with
  | own t l n=>exact .inr ⟨t,l,u,rfl,h.1.2⟩
  | _=>exact a
 |[],_::_,h|_::_,[],h=>h.elim
theorem Oe (d v:Nat):∀(cs a:List AC),Db d v (cs++a)=match Db d v cs with | []=>Db d v a | x=>x
 | [],_=>by simp[Db]
 | c::cs,a=>by
  have:=Oe d v cs a;cases c <;> simp[Db,this]
theorem YU {x:Cx} {lo:Nat} {bo:Option Nat} (d v:Nat) {r:AV} {u:Value} (m:r.wf=true) (b:GR x lo bo r u):Hr d v r=[]\/∃t l f,Hr d v r=[(d,.arr v t l)]/\OwnAt x lo bo t l f:=by
 cases r with
 | one c=>
  rcases b with rfl | b
  ·exact .inl rfl
  exact MD d v (cs:=[c]) (us:=[u]) ⟨b,trivial⟩
 | agg cs=>obtain⟨arr,e,b⟩:=b;exact MD d v b
 | AG xs=>
  obtain⟨arr,e,b⟩:=b
  show Db d v _=[]\/_
  have key:∀(xs:List (Bool×List AC)) (us:List Value),AS (fun z q=>Fo x lo bo (DI z) q) xs us->(∀z∈xs,z.1=false->z.2.length<=1)->Db d v (xs.flatMap (·.2))=[]\/∃t l f,Db d v (xs.flatMap (·.2))=[(d,.arr v t l)]/\OwnAt x lo bo t l f:=by
   intro xs
   induction xs with
   | nil=>intro us _ _;exact .inl rfl
   | cons z xs y=>
    intro us j h;cases us with
    | nil=>exact j.elim
    | cons q us=>
     have p:=y us j.2 (fun z' n=>h z' (by simp[n]))
     have a:Db d v z.2=[]\/∃t l f,Db d v z.2=[(d,.arr v t l)]/\OwnAt x lo bo t l f:=by
      obtain⟨g,cs⟩:=z;have a:=j.1;cases g with
      | true=>obtain⟨o,e',k⟩:=a;exact MD d v k
      | false=>
       have w:=h (false,cs) (by simp) rfl
       match cs,w with
       | [],_=>exact .inl rfl
       | [c],_=>
        rcases a with i | a
        ·have i:c= .BY:=i;subst i;exact .inl rfl
        exact MD d v (cs:=[c]) (us:=[q]) ⟨a,trivial⟩
     rw[List.flatMap_cons,Oe];rcases a with a |⟨t,l,f,a,h3⟩
     ·rw[a];exact p
     rw[a];exact .inr ⟨t,l,f,rfl,h3⟩
  refine key xs arr.toList b fun z h s=>?_
  have:=List.all_eq_true.1 m z h;simpa [s] using this
theorem Of {d v:Nat}:∀{cs:List AC},Db d v cs=[]->cs.all CB=true->cs.all BB=true/\cs.map (FE d v)=cs
 | [],_,_=>⟨rfl,rfl⟩
 | c::cs,h,a=>by
  simp only[List.all_cons,Bool.and_eq_true] at a;cases c with
  | own t l n=>simp[Db] at h
  |AN _ _ _ _ _|C9 _ _ _ _ _|Ab _ _ _|Ch _ _ _ _ _|Cy _ _|ub _=>exact absurd a.1 (by simp[CB,BB])
  | _=>obtain⟨b,f⟩:=Of (cs:=cs) h a.2;exact⟨by simp[b,BB],by simp[FE,f]⟩
theorem SE {x y:Cx} {lo:Nat} {bo:Option Nat} (h:∀b,x.I b->y.I b/\y.w.heap[b]? =x.w.heap[b]?):∀{c:AC} {u:Value},BB c=true->C6 x lo bo c u->Ap y c u
 |.BY,_,_,r|.int _ _,_,_,r|.bool _,_,_,r|.fn _,_,_,r|.nil,_,_,r=>r
 | .sl _ _,_,_,r=>CD h _ _ _ r
 |.AN _ _ _ _ _,_,e,_|.C9 _ _ _ _ _,_,e,_|.Ab _ _ _,_,e,_|.Ch _ _ _ _ _,_,e,_=>by simp[BB] at e
 | .CX t y _,_,_,⟨b,o,us,e,a,d,ha⟩=>⟨b,o,us,e,(h b a).1,CD h t y us d,rangeAt_of_block (h b a).2 ha⟩
 | .CZ _ _,_,_,⟨us,e,r⟩=>⟨us,e,r.mono fun _ _=>FR.mono h⟩
 |.Cy _ _,_,e,_|.ub _,_,e,_|.own _ _ _,_,e,_=>by simp[BB] at e
theorem AS.SD {x y:Cx} {lo:Nat} {bo:Option Nat} (h:∀b,x.I b->y.I b/\y.w.heap[b]? =x.w.heap[b]?):∀{cs:List AC} {us:List Value},cs.all BB=true->AS (C6 x lo bo) cs us->AS (Ap y) cs us
 | [],[],_,_=>trivial
 | _::_,_::_,e,r=>by simp only[List.all_cons,Bool.and_eq_true] at e;exact⟨SE h e.1 r.1,AS.SD h e.2 r.2⟩
 |[],_::_,_,r|_::_,[],_,r=>r.elim
theorem kQ {d v:Nat} {cs a:List AC} (h:Db d v (cs++a)=[]):Db d v cs=[]/\Db d v a=[]:=by
 rw[Oe] at h
 split at h
 ·rename_i e;exact⟨e,h⟩
 rename_i e;exact absurd h e
theorem WU {x y:Cx} {lo:Nat} {bo:Option Nat} {d v:Nat} {r:AV} {u:Value} (l:Hr d v r=[]) (m:r.all CB=true/\r.wf=true) (h:∀b,x.I b->y.I b/\y.w.heap[b]? =x.w.heap[b]?) (i:GR x lo bo r u):BK y (IL d v r) u:=by
 cases r with
 | one c=>
  obtain⟨f,a⟩:=Of (cs:=[c]) l (by simpa [AV.all] using m.1);have a:FE d v c=c:=by simpa using a
  show BK y (.one (FE d v c)) u
  rw[a];exact i.imp (fun q=>q) (SE h (by simpa using f))
 | agg cs=>
  obtain⟨arr,e,i⟩:=i;obtain⟨f,a⟩:=Of l m.1;refine⟨arr,e,?_⟩;rw[a];exact AS.SD h f i
 | AG xs=>
  obtain⟨arr,e,i⟩:=i;refine⟨arr,e,?_⟩
  have key:∀(xs:List (Bool×List AC)) (us:List Value),Db d v (xs.flatMap (·.2))=[]->(xs.all fun x=>x.2.all CB)=true->AS (fun z q=>Fo x lo bo (DI z) q) xs us->AS (fun z q=>Dg y (DI z) q) (xs.map fun x=>(x.1,x.2.map (FE d v))) us:=by
   intro xs
   induction xs with
   | nil=>intro us _ _ k;cases us <;> first | trivial | exact k.elim
   | cons z xs s=>
    intro us p o k;cases us with
    | nil=>exact k.elim
    | cons q us=>
     simp only[List.all_cons,Bool.and_eq_true] at o;rw[List.flatMap_cons] at p;obtain⟨t,A⟩:=kQ p;refine⟨?_,s us A o.2 k.2⟩;obtain⟨f,a⟩:=Of t o.1;obtain⟨g,cs⟩:=z;have h3:=k.1;simp only at a
     show Dg y (DI (g,cs.map (FE d v))) q
     rw[a];cases g with
     | true=>obtain⟨j,e',n⟩:=h3;exact⟨j,e',AS.SD h f n⟩
     | false=>
      cases cs with
      | nil=>exact Or.inl rfl
      | cons c cs=>
       simp only[List.all_cons,Bool.and_eq_true] at f;exact h3.imp (fun q=>q) (SE h f.1)
  exact key xs arr.toList l m.1 i
theorem OJ {X:WX} {w:World} {β:Nat->Option Nat} {bk:Nat->Option AL} {I:Nat->Prop} {id vv:Nat} (a:vv=AQ bk id):∀{c:AC} {v:Value},Oj c=some (id,vv)->Ap (cx X w β bk) c v->Ap (Bw w (β id) I) (Hs 0 0 c) v
 | .AN t i b off len,_,h,r=>by
  simp only[Oj,Option.some.injEq,Prod.mk.injEq] at h;obtain⟨rfl,rfl⟩:=h;exact⟨⟨r.1.1,Nat.le_refl _⟩,fun _=>r.2 a⟩
 | .Ab i b off,_,h,r=>by
  simp only[Oj,Option.some.injEq,Prod.mk.injEq] at h;obtain⟨rfl,rfl⟩:=h;exact⟨⟨r.1.1,Nat.le_refl _⟩,fun _=>r.2 a⟩
 |.BY,_,h,_|.int _ _,_,h,_|.bool _,_,h,_|.fn _,_,h,_|.nil,_,h,_|.sl _ _,_,h,_|.C9 _ _ _ _ _,_,h,_|.Ch _ _ _ _ _,_,h,_|.CX _ _ _,_,h,_|.Cy _ _,_,h,_|.CZ _ _,_,h,_|.ub _,_,h,_|.own _ _ _,_,h,_=>by cases h
theorem RB {X:WX} {w:World} {β:Nat->Option Nat} {bk:Nat->Option AL} {id:Nat} {J:Nat->Prop} (d:∀b,(cx X w β bk).I b->J b/\w.heap[b]? =w.heap[b]?):∀{b:AL},(b.D7 0).lone=true->Cc (cx X w β bk) id b->Cc (Bw w (β id) J) 0 (b.D7 0)
 | .dead _,h,_=>by simp[AL.D7,AL.lone] at h
 | .var _ cs,h,⟨b,arr,e,a,c,h3⟩=>⟨b,arr,e,a,c,AS.pure (x:=cx X w β bk) (y:=Bw w (β id) J) d (by simpa [AL.D7,AL.lone] using h) h3⟩
 | .arr _ t l,_,h=>h.imp (fun q=>q) fun⟨b,arr,e,a,c,h3⟩=>⟨b,arr,e,a,c,fun i y f=>by
  obtain⟨us,g,j⟩:=h3 i y f;exact⟨us,CD (w':=w) d _ _ _ g,j⟩⟩
theorem MQ {w w':World} {I d:Nat->Prop}:∀(t:T) (x:el t) (vs:List Value),t.flat=true->rep w I t x vs->rep w' d t x vs
 |.u8,_,_,_,c|.u32,_,_,_,c|.u64,_,_,_,c|.i8,_,_,_,c|.i64,_,_,_,c|.bool,_,_,_,c=>c
 | .sl t,_,_,h,_=>by simp[T.flat] at h
 | .pr a b,x,_,h,⟨v1,v2,e,f,g⟩=>by
  simp only[T.flat,Bool.and_eq_true] at h;exact⟨v1,v2,e,MQ a x.1 v1 h.1 f,MQ b x.2 v2 h.2 g⟩
theorem kR {w0:World} {X:WX} {β:Nat->Option Nat} {s:St} {a:Act} {w:World} (S:BI w0 X β s a w) {J:Nat->Prop} {id:Nat}:∀{c d:AC} {v:Value},Di id (.one c)=true->(∀i b,i∈B3 c->live (AF s.bk) i->β i=some b->b<w.heap.size->J b)->Du (AF s.bk) c d->Ap (cx X w β (AF s.bk)) c v->Ap (DC w J) d v
 | .int _ _,_,_,_,_,h,r=>by rw[show _=_ from h];exact r
 | .AN t g vv off len,d,v,f,j,⟨l,hb,hle,h⟩,r=>by
  subst h;simp only[Di,Bool.and_eq_true] at f
  have n:∀b o,w.heap[b]? =some o->b<w.heap.size:=fun b o h=>by
   rcases Nat.lt_or_ge b w.heap.size with h' | h'
   ·exact h'
   simp[Array.getElem?_eq_none h'] at h
  obtain⟨base,cap,hs,z,D,h3⟩:=KW r (EB hb).symm;have hlen:((l.drop off).take len).length=len:=by simp;omega
  subst hs;refine⟨base,cap,by rw[hlen],by rw[hlen];exact z,?_,?_⟩
  ·have:=S.lens g _ hb;simp only[AL.short] at this;omega
  by_cases x:len=0
  ·left;subst x;simp
  rcases h3 with rfl |⟨b,arr,e,u,rfl,C,F⟩
  ·omega
  rcases S.blocks g _ hb with⟨m,A⟩ |⟨b',q,e',m,A,B⟩
  ·exact absurd (m.symm.trans u) (by simp)
  obtain rfl:b'=b:=Option.some.inj (m.symm.trans u);refine .inr ⟨b',off*t.size,rfl,j g b' (by simp[B3]) ⟨_,hb,rfl⟩ m (n _ _ C),fun i y k=>?_⟩
  have p:l[off+i]? =some y:=by
   rw[List.getElem?_take] at k
   split at k
   ·simpa using k
   cases k
  obtain⟨us,k1,k2⟩:=B _ y p;exact⟨us,MQ _ _ _ f.1 k1,by rw[<-Nat.add_mul];exact k2⟩
 |.bool _,_,_,f,_,_,_|.fn _,_,_,f,_,_,_|.sl _ _,_,_,f,_,_,_|.nil,_,_,f,_,_,_|.BY,_,_,f,_,_,_|.C9 _ _ _ _ _,_,_,f,_,_,_|.Ab _ _ _,_,_,f,_,_,_|.Ch _ _ _ _ _,_,_,f,_,_,_|.CX _ _ _,_,_,f,_,_,_|.Cy _ _,_,_,f,_,_,_|.CZ _ _,_,_,f,_,_,_|.ub _,_,_,f,_,_,_|.own _ _ _,_,_,f,_,_,_=>by simp[Di] at f
theorem Ua {w0:World} {X:WX} {β:Nat->Option Nat} {s:St} {a:Act} {w:World} (S:BI w0 X β s a w) {J:Nat->Prop} {id:Nat}:∀{l m:List AV} {vs:List Value},l.all (Di id)=true->(∀i b,i∈Bt l->live (AF s.bk) i->β i=some b->b<w.heap.size->J b)->Em (Du (AF s.bk)) l m->AS (BK (cx X w β (AF s.bk))) l vs->AS (BK (DC w J)) m vs
 | [],[],[],_,_,_,_=>trivial
 | .one c::l,.one d::m,v::vs,g,hi,f,r=>by
  rw[List.all_cons,Bool.and_eq_true] at g;exact⟨Or.inr (kR S g.1 (fun i b h=>hi i b (by simp[Bt,h])) f.1 (BN r.1 (by intro e;subst e;exact f.1.elim))),Ua S g.2 (fun i b h=>hi i b (by simp[Bt,h])) f.2 r.2⟩
 |[],_::_,_,_,_,f,_|_::_,[],_,_,_,f,_=>f.elim
 |.agg _::_,_::_,_,g,_,_,_|.AG _::_,_::_,_,g,_,_,_=>by simp[Di] at g
 |.one _::_,.agg _::_,_,_,_,f,_|.one _::_,.AG _::_,_,_,_,f,_=>f.1.elim
 |[],[],_::_,_,_,_,r|.one _::_,.one _::_,[],_,_,_,r=>r.elim
theorem WQ {id:Nat}:∀{l:List AV},l.all (Di id)=true->∀i∈Bt l,i≠id
 | [],_,i,hi=>by simp[Bt] at hi
 | .one c::l,a,i,hi=>by
  rw[List.all_cons,Bool.and_eq_true] at a;rw[Bt] at hi;rcases List.mem_append.1 hi with h | h
  ·have b:=a.1;cases c <;> simp_all [Di,B3]
  exact WQ a.2 i h
 |.agg _::_,a,_,_|.AG _::_,a,_,_=>by simp[Di] at a
theorem oH {X:WX} {w':World} {β:Nat->Option Nat} {Bz:Nat->Option AL} {ob:Option Nat} {J:Nat->Prop} {id vv:Nat} (a:ob=β id):∀{b:AL},N4 b=true->Cc (Bw w' ob J) 0 b->Cc (cx X w' β Bz) id (b.D7 vv)
 |.dead _,h,_|.var v cs,h,_=>by simp[N4] at h
 | .arr _ t l,f,h=>h.imp (fun q=>⟨(show β id=none by rw[<-a];exact q.1),q.2⟩) fun⟨b,arr,e,c,d,h3⟩=>⟨b,arr,e,(show β id=some b by rw[<-a];exact c),d,fun i y g=>by
  obtain⟨us,j,k⟩:=h3 i y g;exact⟨us,MQ _ _ _ f j,k⟩⟩
theorem Su {X:WX} {w':World} {β:Nat->Option Nat} {Bz:Nat->Option AL} {ob:Option Nat} {J:Nat->Prop} {id vv:Nat} (a:ob=β id) (b:vv=AQ Bz id):
  ∀{c:AC} {u:Value},Bg c=true->Ap (Bw w' ob J) c u->Ap (cx X w' β Bz) (Hs id vv c) u
 | .AN t i v off len,_,h,r=>by
  match i,v,h,r with
  | 0,0,_,r=>exact⟨⟨r.1.1,Nat.le_of_eq b⟩,fun _=>by have:=r.2 rfl;show GQ w' (β id) _ _ _ _ _;rw[<-a];exact this⟩
  |0,_+1,h,_|_+1,_,h,_=>simp[Bg] at h
 |.int _ _,_,_,r|.bool _,_,_,r|.fn _,_,_,r|.nil,_,_,r=>r
 |.C9 _ _ _ _ _,_,h,_|.Ab _ _ _,_,h,_|.BY,_,h,_|.sl _ _,_,h,_|.Ch _ _ _ _ _,_,h,_|.CX _ _ _,_,h,_|.Cy _ _,_,h,_|.CZ _ _,_,h,_|.ub _,_,h,_|.own _ _ _,_,h,_=>by simp[Bg] at h
theorem AS.Ss {X:WX} {w':World} {β:Nat->Option Nat} {Bz:Nat->Option AL} {ob:Option Nat} {J:Nat->Prop} {id vv:Nat} (a:ob=β id) (b:vv=AQ Bz id):
  ∀{cs:List AC} {us:List Value},cs.all Bg=true->AS (Ap (Bw w' ob J)) cs us->AS (Ap (cx X w' β Bz)) (cs.map (Hs id vv)) us
 | [],[],_,_=>trivial
 | _::_,_::_,e,r=>by simp only[List.all_cons,Bool.and_eq_true] at e;exact⟨Su a b e.1 r.1,AS.Ss a b e.2 r.2⟩
 |[],_::_,_,r|_::_,[],_,r=>r.elim
theorem oI {X:WX} {w':World} {β:Nat->Option Nat} {Bz:Nat->Option AL} {ob:Option Nat} {J:Nat->Prop} {id vv:Nat} (b:ob=β id) (j:vv=AQ Bz id) {r:AV} {u:Value}
  (h:r.all Bg=true) (a:BK (Bw w' ob J) r u):BK (cx X w' β Bz) (Yv id vv r) u:=by
 cases r with
 | one c=>
  rcases a with rfl | a
  ·exact Or.inl rfl
  exact Or.inr (Su b j h a)
 | agg cs=>obtain⟨arr,e,a⟩:=a;exact⟨arr,e,AS.Ss b j h a⟩
 | AG xs=>
  obtain⟨arr,e,a⟩:=a;refine⟨arr,e,?_⟩
  have key:∀(xs:List (Bool×List AC)) (us:List Value),(xs.all fun x=>x.2.all Bg)=true->AS (fun z q=>Dg (Bw w' ob J) (DI z) q) xs us->AS (fun z q=>Dg (cx X w' β Bz) (DI z) q) (xs.map fun x=>(x.1,x.2.map (Hs id vv))) us:=by
   intro xs
   induction xs with
   | nil=>intro us _ f;cases us <;> first | trivial | exact f.elim
   | cons z xs m=>
    intro us i f;cases us with
    | nil=>exact f.elim
    | cons q us=>
     simp only[List.all_cons,Bool.and_eq_true] at i;refine⟨?_,m us i.2 f.2⟩;obtain⟨g,cs⟩:=z;have h3:=f.1;cases g with
     | true=>obtain⟨d,e',l⟩:=h3;exact⟨d,e',AS.Ss b j i.1 l⟩
     | false=>
      cases cs with
      | nil=>exact Or.inl rfl
      | cons c cs=>
       simp only[List.all_cons,Bool.and_eq_true] at i;rcases h3 with k | h3
       ·have k:c= .BY:=k;subst k;exact Or.inl rfl
       exact Or.inr (Su b j i.1.1 h3)
  exact key xs arr.toList h a
theorem jv {X:WX} {w:World} {β:Nat->Option Nat} {s:St} {d b k:Nat} {bo:Option Nat} {BL:AL} {j:Bool} {J:Nat->Prop} (g:d<s.bk.length) (m:(j=false/\J b)\/w.heap.size<=b) (n:bo≠some b)
  (o:∀b,J b->j=false->(cx X w β (AF s.bk)).I b) (c:∀k b,live (AF s.bk) k->β k=some b->b<w.heap.size) (f:live (AF (A9 s.bk d (some BL))) k) (a:(if k=d then bo else β k)=some b):False:=by
 rw[Gj _ _ _ g] at f
 by_cases h:k=d
 ·simp[h] at a;exact n a
 simp only[h,if_false] at f a;rcases m with⟨i,l⟩ | i
 ·exact (o b l i).1.2 k f a
 have:=c k b f a;omega
theorem ZY:∀(l:List (Option AL)) (id:Nat) (b:AL),AF l id=some b->A9 l id (some b)=l
 | [],_,_,h=>by simp[AF] at h
 | a::l,0,b,h=>by rw[A9,show a=some b from h]
 | a::l,n+1,b,h=>by rw[A9,ZY l n b h]
theorem XC {X:WX} {w:World} {β:Nat->Option Nat} {bk:Nat->Option AL} {id v:Nat} (j:v=AQ bk id):∀{c d:AC} {u:Value},IP id v c d->Ap (cx X w β bk) c u->Ap (Bw w (β id) (cx X w β bk).I) d u
 |.AN t i g off len,_,_,⟨⟨a,f⟩,h3⟩,r|.Ab i g off,_,_,⟨⟨a,f⟩,h3⟩,r=>by subst a f h3;exact OJ (vv:=g) j rfl r
 |.int _ _,_,_,h,r|.bool _,_,_,h,r|.fn _,_,_,h,r=>by rw[show _=_ from h];exact r
 | .sl t l,_,u,h,r=>by
  rw[show _=_ from h];exact CD (w':=w) (fun b hb=>⟨hb,rfl⟩) (.sl t) l [u] r
 | .nil,_,_,h,r=>by
  rcases h with rfl |⟨t,rfl⟩
  ·exact r
  rw[show _=_ from r];exact⟨none,0,rfl,Nat.le_refl _,by simp,.inl rfl⟩
 |.BY,_,_,h,_|.C9 _ _ _ _ _,_,_,h,_|.Ch _ _ _ _ _,_,_,h,_|.CX _ _ _,_,_,h,_|.Cy _ _,_,_,h,_|.CZ _ _,_,_,h,_|.ub _,_,_,h,_|.own _ _ _,_,_,h,_=>h.elim
theorem UQ {X:WX} {w:World} {β:Nat->Option Nat} {bk:Nat->Option AL} {id v:Nat} (a:v=AQ bk id):∀{l m:List AC} {vs:List Value},Ao (IP id v) l m->AS (Ap (cx X w β bk)) l vs->AS (Ap (Bw w (β id) (cx X w β bk).I)) m vs
 | [],[],[],_,_=>trivial
 | _::_,_::_,_::_,h,r=>⟨XC a h.1 r.1,UQ a h.2 r.2⟩
 |[],_::_,_,h,_|_::_,[],_,h,_=>h.elim
 |[],[],_::_,_,r|_::_,_::_,[],_,r=>r.elim
theorem P9 {X:WX} {w:World} {β:Nat->Option Nat} {bk:Nat->Option AL} {id v:Nat} (a:v=AQ bk id):∀{l m:List AV} {vs:List Value},Em (IP id v) l m->AS (BK (cx X w β bk)) l vs->AS (BK (Bw w (β id) (cx X w β bk).I)) m vs
 | [],[],[],_,_=>trivial
 | .one c::_,.one d::_,_::_,h,r=>⟨.inr (XC a h.1 (BN r.1 (by intro e;subst e;exact h.1.elim))),P9 a h.2 r.2⟩
 | .agg c::_,.agg d::_,_::_,h,r=>by
  obtain⟨arr,e,b⟩:=r.1;exact⟨⟨arr,e,UQ a h.1 b⟩,P9 a h.2 r.2⟩
 |[],_::_,_,h,_|_::_,[],_,h,_=>h.elim
 |.one _::_,.agg _::_,_,h,_|.one _::_,.AG _::_,_,h,_|.agg _::_,.one _::_,_,h,_|.agg _::_,.AG _::_,_,h,_|.AG _::_,.one _::_,_,h,_|.AG _::_,.agg _::_,_,h,_|.AG _::_,.AG _::_,_,h,_=>h.1.elim
 |[],[],_::_,_,r|.one _::_,.one _::_,[],_,r|.agg _::_,.agg _::_,[],_,r=>r.elim
theorem oG {y:Cx} {w':World} {ob:Option Nat} {J:Nat->Prop} {id:Nat} (g:∀k,J k->y.I k) (hw:y.w=w') (a:y.β id=ob):∀{b:AL},(b.D7 0).lone=true->Cc (Bw w' ob J) 0 (b.D7 0)->Cc y id b
 | .dead _,h,_=>by simp[AL.D7,AL.lone] at h
 | .var _ cs,h,⟨b,arr,e,c,d,h3⟩=>⟨b,arr,e,a.trans c,by rw[hw];exact d,AS.pure (x:=Bw w' ob J) (y:=y) (fun k f=>⟨g k f,by rw[hw];rfl⟩) (by simpa [AL.D7,AL.lone] using h) h3⟩
 | .arr _ t l,_,h=>h.imp (fun q=>⟨a.trans q.1,q.2⟩) fun⟨b,arr,e,c,d,h3⟩=>⟨b,arr,e,a.trans c,by rw[hw];exact d,fun i z j=>by
  obtain⟨us,m,n⟩:=h3 i z j;exact⟨us,CD (w':=y.w) (fun k f=>⟨g k f,by rw[hw];rfl⟩) _ _ _ m,by rw[hw];exact n⟩⟩
theorem lB {x y:Cx} (h:∀b,x.I b->y.I b/\y.w.heap[b]? =x.w.heap[b]?) {r:AV} {u:Value} (j:r.all BB=true) (a:BK x r u):BK y r u:=by
 cases r with
 | one c=>exact a.imp (fun q=>q) (MH h j)
 | agg cs=>obtain⟨arr,e,a⟩:=a;exact⟨arr,e,AS.pure h j a⟩
 | AG xs=>
  obtain⟨arr,e,a⟩:=a;refine⟨arr,e,?_⟩
  have key:∀(xs:List (Bool×List AC)) (us:List Value),(xs.all fun x=>x.2.all BB)=true->AS (fun z q=>Dg x (DI z) q) xs us->AS (fun z q=>Dg y (DI z) q) xs us:=by
   intro xs
   induction xs with
   | nil=>intro us _ f;cases us <;> first | trivial | exact f.elim
   | cons z xs l=>
    intro us i f;cases us with
    | nil=>exact f.elim
    | cons q us=>
     simp only[List.all_cons,Bool.and_eq_true] at i;refine⟨?_,l us i.2 f.2⟩;obtain⟨g,cs⟩:=z;have h3:=f.1;cases g with
     | true=>obtain⟨d,e',k⟩:=h3;exact⟨d,e',AS.pure h i.1 k⟩
     | false=>
      cases cs with
      | nil=>exact Or.inl rfl
      | cons c cs=>
       simp only[List.all_cons,Bool.and_eq_true] at i;exact h3.imp (fun q=>q) (MH h i.1.1)
  exact key xs arr.toList j a
theorem WT {d v:Nat}:∀{c:AC},BB c=true->FE d v c=c
 | .own _ _ _,h=>by simp[BB] at h
 |.BY,_|.int _ _,_|.bool _,_|.fn _,_|.nil,_|.sl _ _,_|.AN _ _ _ _ _,_|.C9 _ _ _ _ _,_|.Ab _ _ _,_|.Ch _ _ _ _ _,_|.CX _ _ _,_|.Cy _ _,_|.CZ _ _,_|.ub _,_=>rfl
theorem Lm {d v:Nat}:∀{cs:List AC},cs.all BB=true->cs.map (FE d v)=cs/\Db d v cs=[]
 | [],_=>⟨rfl,rfl⟩
 | c::cs,h=>by
  simp only[List.all_cons,Bool.and_eq_true] at h;obtain⟨a,b⟩:=Lm (d:=d) (v:=v) h.2;refine⟨by rw[List.map_cons,WT h.1,a],?_⟩;cases c <;> first | exact b | simp[BB] at h
theorem Qr {d v:Nat}:∀{xs:List (Bool×List AC)},(xs.all fun x=>x.2.all BB)=true->(xs.map fun x=>(x.1,x.2.map (FE d v)))=xs/\Db d v (xs.flatMap (·.2))=[]
 | [],_=>⟨rfl,rfl⟩
 | x::xs,h=>by
  simp only[List.all_cons,Bool.and_eq_true] at h;obtain⟨a,b⟩:=Qr (d:=d) (v:=v) h.2;obtain⟨h3,c⟩:=Lm (d:=d) (v:=v) h.1;exact⟨by rw[List.map_cons,h3,a],by rw[List.flatMap_cons,Oe,c];exact b⟩
theorem WV {d v:Nat} {r:AV} (h:r.all BB=true):IL d v r=r/\Hr d v r=[]:=by
 cases r with
 | one c=>exact⟨congrArg AV.one (WT h),(Lm (cs:=[c]) (by simpa [AV.all] using h)).2⟩
 | agg cs=>exact⟨congrArg AV.agg (Lm h).1,(Lm h).2⟩
 | AG xs=>exact⟨congrArg AV.AG (Qr h).1,(Qr h).2⟩
theorem U5 {x:Cx}:∀{a:List ((t:T)×el t)} {us:List Value},AS (FR x.w x.I) a us->AS (BK x) (a.map fun q=>AV.one (.CX q.1 q.2 0)) us
 | [],[],_=>trivial
 | _::_,_::_,h=>⟨Or.inr h.1,U5 h.2⟩
 |[],_::_,h|_::_,[],h=>h.elim
theorem U3 {x:Cx}:∀{ps:List (Nat×Nat)} {us:List Value},AS (Ms x) ps us->AS (BK x) (ps.map fun p=>AV.one (.Ab p.1 p.2 0)) us
 | [],[],_=>trivial
 | _::_,_::_,h=>⟨Or.inr h.1,U3 h.2⟩
 |[],_::_,h|_::_,[],h=>h.elim
theorem mU (o:Oper) {c:Call} {x:Operand} (ho:o.op= .call c) (hc:c.callee= .value x):Sound P (env P) TI o:=by
 intro w0 X β s a w S f h N Q hN;simp only[CG,ho,hc] at h;have hx:=CY S.B6 x;have av:∀b,(cx X w β (AF s.bk)).I b->b<w.heap.size:=fun b hb=>hb.1.1
 have a5:∀b o,w.heap[b]? =some o->b<w.heap.size:=fun b o h=>by
  rcases Nat.lt_or_ge b w.heap.size with h' | h'
  ·exact h'
  simp[Array.getElem?_eq_none h'] at h
 have R:∀k b,live (AF s.bk) k->β k=some b->b<w.heap.size:=fun k b ⟨ak,C,hl⟩ hb=>by
  have r:=S.blocks k ak C;cases ak with
  | dead _=>simp[AL.live] at hl
  | var _ _=>obtain⟨b',arr,e,F,Y,_⟩:=r;obtain rfl:b=b':=Option.some.inj (hb.symm.trans F);exact a5 b _ Y
  | arr _ _ _=>
   rcases r with⟨F,_⟩ |⟨b',arr,e,F,Y,_⟩
   ·exact absurd (hb.symm.trans F) (by simp)
   obtain rfl:b=b':=Option.some.inj (hb.symm.trans F);exact a5 b _ Y
 obtain⟨g,A,V,cap,ae,z,hU,h⟩:∃(g:FuncId) (A:List AV) (V:List Value) (cap:Array Value),a.eval x= .func (.func g) #[] cap/\AS (BK (cx X w β (AF s.bk))) A V/\c.args.map a.eval++cap=V.toArray/\F7 (env P) g A (BQ o) (AF s.bk) (fun g=>g=f):=by
  have z:=NS (CY S.B6) c.args.toList
  split at h
  ·rename_i g he
   rw[he] at hx;exact⟨g,_,_,#[],BN hx (by simp),z,Array.ext' (by simp),h⟩
  ·rename_i g qs he
   rw[he] at hx;obtain⟨us,e,r⟩:=BN hx (by simp);exact⟨g,_,_,us,e,z.append (U5 r),Array.ext' (by simp),h⟩
  ·rename_i g ps he
   rw[he] at hx;obtain⟨us,e,r⟩:=BN hx (by simp);exact⟨g,_,_,us,e,z.append (U3 r),Array.ext' (by simp),h⟩
  exact h.elim
 have after:∀(fl:Bool) (r:AV) (rd:List Nat) (J:Nat->Prop),(∀b,J b->fl=false->(cx X w β (AF s.bk)).I b)->Callee P g->(r.all CB=true/\r.wf=true)->
   Calls P g (c.args.map a.eval++cap) w (fun e w'=>∃u bo,e= .returned u/\Below w.heap.size w w'/\GR (DC w' fun b=>((fl=false/\J b)\/w.heap.size<=b)/\b<w'.heap.size/\bo≠some b) w.heap.size bo r u)->
   f=⟨IL (BQ o) (AQ (AF s.bk) (BQ o)+1) r,Hr (BQ o) (AQ (AF s.bk) (BQ o)+1) r,rd⟩->o.wp P a w N Q:=by
  intro fl r rd J hJ B W n hf;have hA:∀b,((fl=false/\J b)\/w.heap.size<=b)->X.A b:=fun b hb=>hb.elim (fun q=>(hJ b q.2 q.1).2) fun q=>S.fresh b (Nat.le_trans S.size q)
  subst hf;refine Mq ho hc ae B n fun e w' ⟨u,bo,he,hb,hr⟩=>⟨u,he,?_⟩
  have M:∀b,b<w.heap.size->w'.heap[b]? =w.heap[b]? :=hb.block
  by_cases D:BQ o<s.bk.length
  ·rcases YU (BQ o) (AQ (AF s.bk) (BQ o)+1) W.2 hr with h0 |⟨t,l,u',h0,F⟩
   ·rw[h0] at hN
    have aH:∀{y:Cx},y.w=w'->(∀b,(DC w' fun b=>((fl=false/\J b)\/w.heap.size<=b)/\b<w'.heap.size/\bo≠some b).I b->y.I b)->BK y (IL (BQ o) (AQ (AF s.bk) (BQ o)+1) r) u:=by
     intro y hw hI;exact WU h0 W (fun b hb=>⟨hI b hb,by rw[hw];rfl⟩) hr
    refine hN β _ w' (S.ext M hb.size hb.os hb.tape hb.output (aH rfl fun b m=>⟨⟨m.2.1,fun k C af=>?_⟩,hA b m.1⟩));rcases m.1 with⟨e1,e2⟩ | e1
    ·exact (hJ b e2 e1).1.2 k C af
    have:=R k b C af;omega
   rw[h0] at hN;obtain⟨base,cap,e,k1,k2,aF,k3⟩:=F
   have au:∀b,(((fl=false/\J b)\/w.heap.size<=b)/\b<w'.heap.size/\bo≠some b)->
     (cx X w' (fun k=>if k=BQ o then bo else β k) (AF (A9 s.bk (BQ o) (some (.arr (AQ (AF s.bk) (BQ o)+1) t l))))).I b/\w'.heap[b]? =w'.heap[b]? :=
    fun b m=>⟨⟨⟨m.2.1,fun k C af=>jv D m.1 m.2.2 hJ R C af⟩,hA b m.1⟩,rfl⟩
   refine hN (fun k=>if k=BQ o then bo else β k) _ w' (S.write D aF (fun k C=>by simp[C]) (by simp[AL.AQ]) (fun e=>by simp[AL.AQ] at e) (fun b m _=>M b m) hb.size
    (fun b arr e H=>⟨arr,(M b (a5 b _ H)).trans H,rfl⟩) hb.os hb.tape hb.output (fun _ b m=> .inr ?_) (fun hle=>?_) (fun hle=>?_))
   ·simp at m;rcases k3 with⟨U,_⟩ |⟨b',arr,e',U,q2,_⟩
    ·rw[U] at m;cases m
    rw[U] at m;obtain rfl:=Option.some.inj m;exact q2
   ·rcases k3 with⟨U,q2,_⟩ |⟨b',arr,e',U,q2,q3,q4,q5,q6⟩
    ·exact Or.inl ⟨by show (if BQ o=BQ o then _ else _)=_;simp[U],q2⟩
    refine Or.inr ⟨b',arr,e',by show (if BQ o=BQ o then _ else _)=_;simp[U],q4,fun i y hy=>?_⟩;obtain⟨us,p1,p2⟩:=q6 i y hy;exact⟨us,CD (w':=w') au _ _ _ p1,p2⟩
   refine g8 (x:=DC w' fun b=>((fl=false/\J b)\/w.heap.size<=b)/\b<w'.heap.size/\bo≠some b) (lo:=w.heap.size) (bo:=bo) au rfl ?_ ?_ W.1 hr
   ·show _<=AQ _ (BQ o);rw[Ew _ _ _ D,if_pos rfl];simp[AL.AQ]
   intro _;show (if BQ o=BQ o then _ else _)=_;simp
  have G:s.bk.length<=BQ o:=Nat.le_of_not_lt D
  have aI:s.app o.dst ⟨IL (BQ o) (AQ (AF s.bk) (BQ o)+1) r,Hr (BQ o) (AQ (AF s.bk) (BQ o)+1) r,rd⟩=s.app none ⟨.one .BY,[],rd⟩:=by
   have e1:∀v,FK s.sl o.dst v=s.sl:=fun v=>by
    cases hd:o.dst with
    | none=>rfl
    | some q=>simp[BQ,hd] at G;simp[FK,Gu s.sl q v (by rw[S.len,<-S.HG];exact G)]
   have e2:Cq (Hr (BQ o) (AQ (AF s.bk) (BQ o)+1) r) s.bk=s.bk:=by
    rcases YU (BQ o) (AQ (AF s.bk) (BQ o)+1) W.2 hr with h0 |⟨t,l,u',h0,_⟩
    ·rw[h0];rfl
    rw[h0];simp[Cq,Gu _ _ _ G]
   simp only[St.app,e1,e2];rfl
  have ha:a.put o.dst u=a.put none undef:=by
   cases hd:o.dst with
   | none=>rfl
   | some q=>
    simp[BQ,hd] at G;have:a.tmps.size<=q:=by rw[<-S.HG];exact G
    simp[Act.put,Array.setIfInBounds_eq_of_size_le this]
  rw[ha];exact hN β _ w' (by rw[aI];exact S.ext M hb.size hb.os hb.tape hb.output (Im _ _))
 rcases h with⟨K,r,F,Y,h⟩ |⟨K,r,F,Y,h⟩ | h |⟨id,BL,K,r,F,Y,h⟩ |⟨id,BL,K,r,F,Y,h⟩ | h
 ·obtain⟨B,W,L⟩:=Y ();have:=L w (cx X w β (AF s.bk)).I V av (P8 (x:=cx X w β (AF s.bk)) (y:=DC w (cx X w β (AF s.bk)).I) (fun b hb=>⟨hb,rfl⟩) (F ()) z);exact after false r _ _ (fun b hb _=>hb) B W (by rw[hU];exact this) h.symm
 ·obtain⟨B,W,L⟩:=Y ();have:=L w (fun b=>b<w.heap.size) V (fun b hb=>hb) (LO S (fun b hb=>hb.1.1) (fun _ _ _ _ _ h=>h) (F ()) z);exact after true r _ (fun b=>b<w.heap.size) (fun b _ e=>by cases e) B W (by rw[hU];exact this) h.symm
 ·skip
  split at h
  case h_2=>exact h.elim
  rename_i c0 rest
  split at h
  case h_2=>exact h.elim
  rename_i id vv aA
  split at h
  case h_2=>exact h.elim
  rename_i BL hb
  split at h
  case isFalse=>exact h.elim
  rename_i aB
  obtain⟨K,r,b1,F,Y,h⟩:=h;obtain⟨aG,F⟩:=F ();obtain⟨Y,aC,aE⟩:=Y ();obtain⟨B,⟨aO,aP,aD,aQ⟩,L⟩:=Y
  match V,z with
  | v0::vs,⟨ao,aq⟩=>
  have ar:vv=AQ (AF s.bk) id:=by rw[EB hb];exact aB.symm
  have D:id<s.bk.length:=by
   rcases Nat.lt_or_ge id s.bk.length with G | G
   ·exact G
   rw[HM _ _ G] at hb;cases hb
  have p:live (AF s.bk) id:=by
   refine⟨BL,hb,?_⟩;cases BL <;> simp_all [AL.live,AL.lone,AL.D7]
  have a6:∀b,(cx X w β (AF s.bk)).I b->(b<w.heap.size/\β id≠some b)/\w.heap[b]? =w.heap[b]? :=fun b hb=>⟨⟨hb.1.1,hb.1.2 id p⟩,rfl⟩
  have an:Ap (Bw w (β id) fun b=>b<w.heap.size/\β id≠some b) (Hs 0 0 c0) v0:=OJ ar aA (BN ao (by intro e;subst e;cases aA));have a8:Cc (Bw w (β id) fun b=>b<w.heap.size/\β id≠some b) 0 (BL.D7 0):=RB a6 aD (S.blocks id BL hb)
  have n:=L w (fun b=>b<w.heap.size/\β id≠some b) (β id) v0 vs (fun b hb=>hb) an a8 (by have:=S.lens id BL hb;cases BL <;> simpa [AL.short,AL.D7] using this)
   (LO S (fun b hb=>(a6 b hb).1) (fun a7 b aa ag m ad=>⟨ad,fun e=>aG (S.inj a7 id b ag p m e ▸ aa)⟩) F aq)
  subst h;rw[<-hU] at n;refine Mq ho hc ae B n fun e w' H=>?_
  obtain⟨u,he,⟨p1,p2,p3,p4,p5⟩,p6,p7,p8,p9⟩:=H;refine⟨u,he,?_⟩;have al:(b1.D7 vv).AQ=vv:=by cases b1 <;> rfl
  refine hN β _ w' (S.write D (by cases b1 <;> simpa [AL.short,AL.D7] using p9) (fun _ _=>rfl) (by rw[al];omega) (fun _=>⟨rfl,fun _=>p⟩) (fun b m a2=>p5 b m (a2 p)) p4 (fun b arr e H=>?_) p1 p2 p3 (fun _ b m=> .inl ⟨m,p⟩) (fun _=>?_) (fun _=>?_))
  ·by_cases Z:β id=some b
   ·exact p6 b arr e Z H
   exact⟨arr,(p5 b (a5 b _ H) Z).trans H,rfl⟩
  ·exact oH rfl aC p8
  refine oI rfl ?_ aE p7
  show vv=AQ _ id
  rw[Ew _ _ _ D,if_pos rfl,al]
 ·obtain⟨hb,hle⟩:=F ();obtain⟨B,⟨hp,ab⟩,L⟩:=Y ()
  have D:id<s.bk.length:=by
   rcases Nat.lt_or_ge id s.bk.length with G | G
   ·exact G
   rw[HM _ _ G] at hb;cases hb
  have p:live (AF s.bk) id:=by
   refine⟨BL,hb,?_⟩;cases BL <;> simp_all [AL.live,AL.lone,AL.D7]
  have ai:BL.AQ=AQ (AF s.bk) id:=(EB hb).symm;have a6:∀b,(cx X w β (AF s.bk)).I b->(cx X w β (AF s.bk)).I b/\w.heap[b]? =w.heap[b]? :=fun b hb=>⟨hb,rfl⟩
  have a8:Cc (Bw w (β id) (cx X w β (AF s.bk)).I) 0 (BL.D7 0):=RB a6 ab (S.blocks id BL hb)
  have n:=L w (cx X w β (AF s.bk)).I (β id) V (fun b hb=>⟨hb.1.1,fun e=>hb.1.2 id p e⟩) a8
   (by have:=S.lens id BL hb;cases BL <;> simpa [AL.short,AL.D7] using this) (P9 ai hle z)
  subst h
  have heq:s.app o.dst ⟨r,[],[id]⟩=s.app o.dst ⟨r,[(id,BL)],[id]⟩:=by
   unfold St.app;simp only[Cq,ZY _ _ _ hb]
  rw[heq] at hN;rw[<-hU] at n;refine Mq ho hc ae B n fun e w' H=>?_
  obtain⟨u,he,⟨p1,p2,p3,p4,p5⟩,p6,p7,p8⟩:=H;refine⟨u,he,?_⟩
  have hJ:∀k,(((cx X w β (AF s.bk)).I k\/w.heap.size<=k)/\k<w'.heap.size/\β id≠some k)->(cx X w' β (AF (A9 s.bk id (some BL)))).I k:=fun k C=>by
   have O:∀j,live (AF (A9 s.bk id (some BL))) j->live (AF s.bk) j:=fun j hj=>by
    rw[Gj _ _ _ D] at hj
    by_cases h:j=id
    ·subst h;exact p
    rw[if_neg h] at hj;exact hj
   rcases C.1 with h | h
   ·exact⟨⟨C.2.1,fun j hj=>h.1.2 j (O j hj)⟩,h.2⟩
   refine⟨⟨C.2.1,fun j hj e=>?_⟩,S.fresh k (Nat.le_trans S.size h)⟩;have:=R j k (O j hj) e;omega
  refine hN β _ w' (S.write D (S.lens id BL hb) (fun _ _=>rfl) (Nat.le_of_eq ai.symm) (fun _=>⟨rfl,fun _=>p⟩) (fun b m a2=>p5 b m (a2 p)) p4 (fun b arr e H=>?_) p1 p2 p3 (fun _ b m=> .inl ⟨m,p⟩) (fun _=>?_) (fun _=>?_))
  ·by_cases Z:β id=some b
   ·exact p6 b arr e Z H
   exact⟨arr,(p5 b (a5 b _ H) Z).trans H,rfl⟩
  ·exact oG hJ rfl rfl ab p8
  exact lB (x:=Bw w' (β id) fun k=>((cx X w β (AF s.bk)).I k\/w.heap.size<=k)/\k<w'.heap.size/\β id≠some k) (y:=cx X w' β (AF (A9 s.bk id (some BL)))) (fun k C=>⟨hJ k C,rfl⟩) hp p7
 ·obtain⟨⟨h0,hb,aw⟩,aJ⟩:=F ();obtain⟨⟨B,W,L⟩,az⟩:=Y ()
  have D:id<s.bk.length:=by
   rcases Nat.lt_or_ge id s.bk.length with G | G
   ·exact G
   rw[HM _ _ G] at hb;cases hb
  have ai:BL.AQ=AQ (AF s.bk) id:=(EB hb).symm
  have ah:∀k,live (AF (A9 s.bk id (some (.dead BL.AQ)))) k->k≠id/\live (AF s.bk) k:=fun k C=>by
   rw[Gj _ _ _ D] at C
   by_cases h:k=id
   ·rw[if_pos h] at C;cases C
   rw[if_neg h] at C;exact⟨h,C⟩
  have n:=L w (cx X w β (AF (A9 s.bk id (some (.dead BL.AQ))))).I V (fun b m=>m.1.1)
   (LO S (fun b m=>⟨⟨m.1.1,fun k C=>m.1.2 k (ah k C).2⟩,m.2⟩) (fun a7 b aa ag m ad=>by
    have e:a7=id:=by simpa using List.all_eq_true.1 aw a7 aa
    subst e;refine⟨⟨ad,fun k C e=>(ah k C).1 (S.inj k a7 b (ah k C).2 ag e m)⟩,?_⟩;rcases S.own a7 b ag m with G | G
    ·exact S.fresh b G
    exact absurd G.2 h0) aJ z)
  subst h;rw[<-hU] at n;refine Mq ho hc ae B n fun e w' H=>?_
  obtain⟨u,bo,he,a1,hr⟩:=H;refine⟨u,he,?_⟩;have M:∀b,b<w.heap.size->w'.heap[b]? =w.heap[b]? :=a1.block
  refine hN β _ w' (S.write D trivial (fun _ _=>rfl) (Nat.le_of_eq ai.symm) (fun _=>⟨rfl,fun e=>by cases e⟩) (fun b m _=>M b m) a1.size (fun b arr e H=>⟨arr,(M b (a5 b _ H)).trans H,rfl⟩) a1.os a1.tape a1.output
   (fun e=>by cases e) (fun _=>trivial) (fun _=>?_))
  have hJ:∀b,(((false=false/\(cx X w β (AF (A9 s.bk id (some (.dead BL.AQ))))).I b)\/w.heap.size<=b)/\b<w'.heap.size/\bo≠some b)->(cx X w' β (AF (A9 s.bk id (some (.dead BL.AQ))))).I b/\w'.heap[b]? =w'.heap[b]? :=fun b m=>by
   obtain⟨U,q2,_⟩:=m;rcases U with⟨_,U⟩ | U
   ·exact⟨⟨⟨q2,U.1.2⟩,U.2⟩,rfl⟩
   refine⟨⟨⟨q2,fun k C e=>?_⟩,S.fresh b (Nat.le_trans S.size U)⟩,rfl⟩;have:=R k b (ah k C).2 e;omega
  have hg:=WU (x:=DC w' fun b=>((false=false/\(cx X w β (AF (A9 s.bk id (some (.dead BL.AQ))))).I b)\/w.heap.size<=b)/\b<w'.heap.size/\bo≠some b) (y:=cx X w' β (AF (A9 s.bk id (some (.dead BL.AQ))))) (WV (d:=0) (v:=0) az).2 W hJ hr;rw[(WV (d:=0) (v:=0) az).1] at hg;exact hg
 skip
 split at h
 case h_2=>exact h.elim
 rename_i t id v off len rest
 split at h
 case h_2=>exact h.elim
 rename_i v' t' l hb
 split at h
 case isFalse=>exact h.elim
 rename_i aL
 obtain⟨rfl,aK⟩:=aL;obtain rfl:=T.beq_eq aK;obtain⟨K,l',F,Y,h⟩:=h;have h:=h _ rfl;obtain⟨⟨rfl,rfl⟩,ax,F⟩:=F ();obtain⟨B,L⟩:=Y ()
 match V,z with
 | v0::vs,⟨ao,aq⟩=>
 have ar:v'=AQ (AF s.bk) id:=by rw[EB hb];rfl
 have D:id<s.bk.length:=by
  rcases Nat.lt_or_ge id s.bk.length with G | G
  ·exact G
  rw[HM _ _ G] at hb;cases hb
 have p:live (AF s.bk) id:=⟨_,hb,rfl⟩;have a6:∀b,(cx X w β (AF s.bk)).I b->(cx X w β (AF s.bk)).I b/\w.heap[b]? =w.heap[b]? :=fun b hb=>⟨hb,rfl⟩
 have an:Ap (Bw w (β id) (cx X w β (AF s.bk)).I) (.AN t' 0 0 0 l.length) v0:=OJ ar rfl (BN ao (by simp));have a8:Cc (Bw w (β id) (cx X w β (AF s.bk)).I) 0 (.arr 0 t' l):=RB a6 rfl (S.blocks id _ hb)
 have ay:∀i b,live (AF s.bk) i->β i=some b->∃arr e,w.heap[b]? =some (.cells arr e (0,0)):=fun i b ⟨bl,U,q2⟩ q3=>by
  have:=S.blocks i bl U;cases bl with
  | dead _=>cases q2
  | var _ cs=>obtain⟨b',arr,e,g1,g2,_⟩:=this;exact⟨arr,e,by rw[<-Option.some.inj (g1.symm.trans q3)];exact g2⟩
  | arr _ t1 l1=>
   rcases this with⟨g1,_⟩ |⟨b',arr,e,g1,g2,_⟩
   ·exact absurd (g1.symm.trans q3) (by simp)
   exact⟨arr,e,by rw[<-Option.some.inj (g1.symm.trans q3)];exact g2⟩
 have n:=L w (cx X w β (AF s.bk)).I (fun b=>∃i,i∈Bt rest/\live (AF s.bk) i/\β i=some b) (β id) v0 vs (fun b hb=>⟨hb.1.1,fun e=>hb.1.2 id p e⟩)
  (fun b ⟨i,U,q2,q3⟩=>⟨fun e=>WQ ax i U (S.inj i id b q2 p q3 e),ay i b q2 q3⟩) an a8 (S.lens id _ hb)
  (Ua S ax (fun i b U q2 q3 _=>⟨i,U,q2,q3⟩) F aq)
 subst h;rw[<-hU] at n;refine Mq ho hc ae B n fun e w' H=>?_
 obtain⟨u,aj,he,⟨p1,p2,p3,p4,p5⟩,p6,p7,p8,p9,aM⟩:=H;refine⟨u,he,?_⟩
 have hJ:∀k,(((cx X w β (AF s.bk)).I k\/w.heap.size<=k)/\k<w'.heap.size/\β id≠some k/\aj≠some k)->(cx X w' (fun k=>if k=id then aj else β k) (AF (A9 s.bk id (some (.arr (v'+1) t' l'))))).I k:=fun k C=>by
  have O:∀j,j≠id->live (AF (A9 s.bk id (some (.arr (v'+1) t' l')))) j->live (AF s.bk) j:=fun j hn hj=>by
   rw[Gj _ _ _ D,if_neg hn] at hj;exact hj
  have a2:∀j,live (AF (A9 s.bk id (some (.arr (v'+1) t' l')))) j->(if j=id then aj else β j)≠some k:=fun j hj=>by
   by_cases hn:j=id
   ·rw[if_pos hn];exact C.2.2.2
   rw[if_neg hn];rcases C.1 with h | h
   ·exact h.1.2 j (O j hn hj)
   intro e;have:=R j k (O j hn hj) e;omega
  rcases C.1 with h | h
  ·exact⟨⟨C.2.1,a2⟩,h.2⟩
  exact⟨⟨C.2.1,a2⟩,S.fresh k (Nat.le_trans S.size h)⟩
 refine hN (fun k=>if k=id then aj else β k) _ w' (S.write D p8 (fun k C=>by simp[C]) (by simp only[AL.AQ];omega) (fun e=>by simp only[AL.AQ] at e;omega) (fun b m a2=>p5 b m (a2 p)) p4 (fun b arr e H=>?_) p1 p2 p3 (fun _ b m=>?_) (fun _=>?_) (fun _=>?_))
 ·by_cases Z:β id=some b
  ·exact p6 b arr e Z H
  exact⟨arr,(p5 b (a5 b _ H) Z).trans H,rfl⟩
 ·simp at m;rcases p7 with p7 |⟨b2,p7,aN⟩
  ·exact .inl ⟨by rw[<-p7,m],p⟩
  rw[p7] at m;obtain rfl:=Option.some.inj m;exact .inr aN
 ·refine aM.imp (fun q=>⟨?_,q.2⟩) fun⟨b,arr,e,F,Y,h3⟩=>⟨b,arr,e,?_,Y,fun i y hy=>?_⟩
  ·show (if id=id then _ else _)=_;rw[if_pos rfl];exact q.1
  ·show (if id=id then _ else _)=_;rw[if_pos rfl];exact F
  obtain⟨us,U,q2⟩:=h3 i y hy;exact⟨us,CD (w':=w') (fun k C=>⟨hJ k C,rfl⟩) _ _ _ U,q2⟩
 refine .inr ⟨⟨p9.1.1,?_⟩,fun _=>?_⟩
 ·show v'+1<=AQ _ id;rw[Ew _ _ _ D,if_pos rfl];exact Nat.le_refl _
 have:=p9.2 rfl
 show GQ w' (if id=id then _ else _) _ _ _ _ _;rw[if_pos rfl];exact this
end
section
theorem eR {op:BinOp} {k:IntKind} {a b:Int} {K:AC->Prop} (h:arith op k a b K):∃c,(∀j:AC->Prop,j c->arith op k a b j)/\K c:=by
 unfold arith at h ⊢
 split at h
 case h_1=>obtain⟨g,i⟩:=h _ rfl;exact⟨_,fun j f c d=>by subst d;exact⟨g,f⟩,i⟩
 case h_2=>obtain⟨g,i⟩:=h _ rfl;exact⟨_,fun j f c d=>by subst d;exact⟨g,f⟩,i⟩
 case h_3=>obtain⟨g,i⟩:=h _ rfl;exact⟨_,fun j f c d=>by subst d;exact⟨g,f⟩,i⟩
 case h_4=>obtain⟨g,i⟩:=h _ rfl;exact⟨_,fun j f c d=>by subst d;exact⟨g,f⟩,i⟩
 case h_5=>obtain⟨g,i⟩:=h _ rfl;exact⟨_,fun j f c d=>by subst d;exact⟨g,f⟩,i⟩
 all_goals first
  | exact⟨_,fun j f c d=>by subst d;exact f,h _ rfl⟩
  | (obtain⟨g,i⟩:=h _ rfl;exact⟨_,fun j f c d=>by subst d;exact⟨g,f⟩,i⟩)
theorem NT {len:Nat} {lo hi mx:Option AV} {K:Nat->Nat->Bool->Prop} (h:IB len lo hi mx K):∃a b c,(∀f:Nat->Nat->Bool->Prop,f a b c->IB len lo hi mx f)/\K a b c:=by
 unfold IB at h ⊢
 split at h
 ·exact⟨_,_,_,fun f d c k=>by subst k;exact d,h _ rfl⟩
 ·obtain⟨g,i⟩:=h;exact⟨_,_,_,fun f d=>⟨g,fun l m j=>by obtain⟨rfl,rfl⟩:=j;exact d⟩,i _ _ ⟨rfl,rfl⟩⟩
 ·obtain⟨g,i⟩:=h;exact⟨_,_,_,fun f d=>⟨g,fun l j=>by obtain rfl:=j;exact d⟩,i _ rfl⟩
 ·obtain⟨g,i⟩:=h;exact⟨_,_,_,fun f d=>⟨g,fun l m j=>by obtain⟨rfl,rfl⟩:=j;exact d⟩,i _ _ ⟨rfl,rfl⟩⟩
 ·obtain⟨g,i⟩:=h;exact⟨_,_,_,fun f d=>⟨g,fun l j=>by obtain rfl:=j;exact d⟩,i _ rfl⟩
 exact h.elim
theorem eU {bk:Nat->Option AL} {u:T} {x:AV} {lo hi mx:Option AV} {K:BW->Prop} (h:IA bk u x lo hi mx K):∃f,(∀g:BW->Prop,g f->IA bk u x lo hi mx g)/\K f:=by
 unfold IA at h ⊢
 split at h
 ·obtain⟨k,h⟩:=h;obtain⟨a,b,c,i,h3⟩:=NT (h _ rfl);exact⟨_,fun g j=>⟨k,fun n l=>by subst l;exact i _ fun l' d=>by subst d;exact j⟩,h3 _ rfl⟩
 ·obtain⟨k,h⟩:=h
  split at h
  ·rename_i m
   obtain⟨a,b,c,i,h3⟩:=NT h;have h3:=h3 _ _ ⟨rfl,rfl⟩;cases c with
   |true|false=>exact⟨_,fun g j=>⟨k,by rw[if_pos m];exact i _ fun o n d=>by obtain⟨rfl,rfl⟩:=d;exact j⟩,h3⟩
  exact h.elim
 ·obtain⟨a,b,c,i,h3⟩:=NT h;exact⟨_,fun g j=>i _ j,h3⟩
 exact h.elim
theorem Pv {E:Env} {g:FuncId} {args:List AV} {d:Nat} {bk:Nat->Option AL} {K:BW->Prop} (h:F7 E g args d bk K):∃f,(∀l:BW->Prop,l f->F7 E g args d bk l)/\K f:=by
 rcases h with⟨a,r,c,j,h⟩ |⟨a,r,c,j,h⟩ | h |⟨i,b,a,r,c,j,h⟩ |⟨i,b,a,r,c,j,h⟩ | h
 ·exact⟨_,fun l k=> .inl ⟨a,r,c,j,k⟩,h⟩
 ·exact⟨_,fun l k=> .inr (.inl ⟨a,r,c,j,k⟩),h⟩
 rotate_left
 ·exact⟨_,fun l k=> .inr (.inr (.inr (.inl ⟨i,b,a,r,c,j,k⟩))),h⟩
 ·exact⟨_,fun l k=> .inr (.inr (.inr (.inr (.inl ⟨i,b,a,r,c,j,k⟩)))),h⟩
 ·unfold F7
  split at h
  ·split at h
   ·rename_i hb
    split at h
    ·rename_i m
     obtain⟨a,l',c,j,h⟩:=h;exact⟨_,fun l k=> .inr (.inr (.inr (.inr (.inr (by simp only[hb,if_pos m];exact⟨a,l',c,j,fun n o=>by subst o;exact k⟩))))),h _ rfl⟩
    exact h.elim
   exact h.elim
  exact h.elim
 unfold F7
 split at h
 ·split at h
  ·rename_i p
   split at h
   ·rename_i hb
    split at h
    ·rename_i m
     obtain⟨a,r,b1,c,j,h⟩:=h;exact⟨_,fun l k=> .inr (.inr (.inl (by simp only[p,hb,if_pos m];exact⟨a,r,b1,c,j,k⟩))),h⟩
    exact h.elim
   exact h.elim
  exact h.elim
 exact h.elim
theorem T.beq_refl:∀t:T,T.beq t t=true
 | .u8=>rfl | .u32=>rfl | .u64=>rfl | .i8=>rfl | .i64=>rfl | .bool=>rfl
 | .sl t=>T.beq_refl t
 | .pr a b=>by simp only[T.beq,T.beq_refl a,T.beq_refl b,Bool.and_self]
theorem He {TI:TypeId->Info} {b:Builtin} {a:List TypeId} {args:List AV} {d:Nat} {bk:Nat->Option AL} {K:BW->Prop}:
  Pt TI b a args d bk K↔Ek TI b a args d bk K\/(b= .append/\Ek TI b a args d bk (Kq K))\/(b= .append/\GV TI a args bk K):=by
 cases b <;> simp[Pt]
theorem eB {TI:TypeId->Info} {a:List TypeId} {args:List AV} {bk:Nat->Option AL} {K:BW->Prop} (h:GV TI a args bk K):∃g,(∀b:BW->Prop,b g->GV TI a args bk b)/\K g:=by
 unfold GV at h
 split at h
 ·obtain⟨d,h⟩:=h
  split at h
  ·rename_i i
   split at h
   ·rename_i k
    obtain⟨l2,f,h⟩:=h;exact⟨_,fun b c=>by unfold GV;refine⟨d,?_⟩;simp only[i,if_pos k];exact⟨l2,f,fun l' n j=>by obtain⟨rfl,rfl⟩:=j;exact c⟩,h _ _ ⟨rfl,rfl⟩⟩
   exact h.elim
  exact h.elim
 exact h.elim
theorem SP {K:BW->Prop} {g:BW} (h:Kq K g):∃(t:T) (id v n:Nat) (l:List (el t)),g=⟨.one (.AN t id v 0 n),[(id,.arr v t l)],g.rd⟩/\id≠0/\n=l.length/\K ⟨.one (.sl t l),[(id,.dead v)],g.rd⟩/\
  ∀a:BW->Prop,a ⟨.one (.sl t l),[(id,.dead v)],g.rd⟩->Kq a g:=by
 obtain⟨p,q,o⟩:=g;unfold Kq at h
 split at h
 ·rename_i t id v off n i r t' l c d
  split at h
  ·rename_i f
   simp only at c d;simp only[Bool.and_eq_true,bne_iff_ne,beq_iff_eq] at f;obtain⟨⟨⟨⟨c1,c2⟩,j⟩,k⟩,b⟩:=f;have b:=T.beq_eq b;subst c2 j k b c d;refine⟨t,id,v,n,l,rfl,c1,h.1 (),h.2,fun a m=>?_⟩;unfold Kq;simp only;rw[if_pos (by simp[c1,T.beq_refl])];exact⟨h.1,m⟩
  exact h.elim
 exact h.elim
theorem P7 {TI:TypeId->Info} {b:Builtin} {a:List TypeId} {args:List AV} {d:Nat} {bk:Nat->Option AL} {K:BW->Prop} (hb:b= .append) (h:Ek TI b a args d bk K):args.length=2:=by
 subst hb;unfold Ek at h
 split at h <;> first | contradiction | exact h.elim | rfl
theorem eP {TI:TypeId->Info} {b:Builtin} {c:List TypeId} {args:List AV} {d:Nat} {bk:Nat->Option AL} {g:BW} (hb:b= .append) (h:Ek TI b c args d bk (fun f=>f=g)) {id:Nat} {B:AL} (hw:g.ws=[(id,B)]):
  id=d\/∃x,bk id=some x:=by
 subst hb;unfold Ek at h
 split at h <;> first | contradiction | skip
 ·obtain⟨_,l2,_,h⟩:=h;have:=h _ rfl;subst this;simp at hw;exact .inl hw.1.symm
 ·obtain⟨_,h⟩:=h
  split at h
  ·rename_i a
   split at h
   ·obtain⟨l2,_,h⟩:=h;have:=h _ _ ⟨rfl,rfl⟩;subst this;simp at hw;exact .inr ⟨_,hw.1 ▸ a⟩
   exact h.elim
  exact h.elim
 obtain⟨_,h⟩:=h
 split at h
 ·rename_i a
  split at h
  ·obtain⟨l2,_,h⟩:=h;have:=h _ _ ⟨rfl,rfl⟩;subst this;simp at hw;exact .inr ⟨_,hw.1 ▸ a⟩
  exact h.elim
 exact h.elim
theorem LK {TI:TypeId->Info} {b:Builtin} {o:List TypeId} {args:List AV} {d:Nat} {bk:Nat->Option AL} {K:BW->Prop} (hlen:∀t l,args=[.one (.sl t l)]->l.length<=140737488355328) (h:Ek TI b o args d bk K):
  ∃f,(∀g:BW->Prop,g f->Ek TI b o args d bk g)/\K f:=by
 unfold Ek at h ⊢
 split at h
 ·exact⟨_,fun g a=>⟨h.1,fun n i=>by obtain⟨rfl,_⟩:=i;exact a⟩,h.2 _ ⟨rfl,hlen _ _ rfl⟩⟩
 ·obtain⟨j,h⟩:=h
  split at h
  ·rename_i k
   exact⟨_,fun g a=>⟨j,by rw[if_pos k];intro n i;obtain⟨rfl⟩:=i;exact a⟩,h _ ⟨rfl⟩⟩
  exact h.elim
 ·obtain⟨j,h⟩:=h
  split at h
  ·rename_i k
   exact⟨_,fun g a=>⟨j,by rw[if_pos k];intro n i;obtain⟨rfl⟩:=i;exact a⟩,h _ ⟨rfl⟩⟩
  exact h.elim
 ·exact⟨_,fun g a=>⟨h.1,a⟩,h.2⟩
 ·exact⟨_,fun g a=>⟨h.1,a⟩,h.2⟩
 ·exact⟨_,fun g a c p=>by subst p;exact a,h _ rfl⟩
 ·exact⟨_,fun g a c p=>by subst p;exact a,h _ rfl⟩
 ·obtain⟨j,l2,m,h⟩:=h;exact⟨_,fun g a=>⟨j,l2,m,fun n i=>by subst i;exact a⟩,h _ rfl⟩
 ·obtain⟨j,h⟩:=h
  split at h
  ·rename_i hb
   split at h
   ·rename_i k
    obtain⟨l2,m,h⟩:=h;exact⟨_,fun g a=>⟨j,by simp only[hb,if_pos k];exact⟨l2,m,fun l' n i=>by obtain⟨rfl,rfl⟩:=i;exact a⟩⟩,h _ _ ⟨rfl,rfl⟩⟩
   exact h.elim
  exact h.elim
 ·obtain⟨j,h⟩:=h
  split at h
  ·rename_i hb
   split at h
   ·rename_i k
    obtain⟨l2,m,h⟩:=h;exact⟨_,fun g a=>⟨j,by simp only[hb,if_pos k];exact⟨l2,m,fun l' n i=>by obtain⟨rfl,rfl⟩:=i;exact a⟩⟩,h _ _ ⟨rfl,rfl⟩⟩
   exact h.elim
  exact h.elim
 exact h.elim
theorem P6 {E:Env} {TI:TypeId->Info} {o:Oper} {d:Nat} {e:Operand->AV} {bk:Nat->Option AL} {K:BW->Prop} (hlen:∀x t l,e x= .one (.sl t l)->l.length<=140737488355328) (h:CG E TI o d e bk K):
  ∃f,(∀m:BW->Prop,m f->CG E TI o d e bk m)/\K f:=by
 unfold CG at h ⊢;cases N:o.op <;> simp only[N] at h ⊢
 case move x=>exact⟨_,fun m a=>a,h⟩
 case assign x=>exact⟨_,fun m a=>a,h⟩
 case nilCheck x=>
  split at h
  ·rename_i he
   split at h
   ·rename_i s
    rw[he] at h;exact⟨_,fun m a=>by rw[he];rw[if_pos s];exact a,h⟩
   exact h.elim
  ·rename_i he
   exact⟨_,fun m a=>a,h⟩
  ·rename_i he
   exact⟨_,fun m a=>a,h⟩
  exact h.elim
 case pick c x y=>
  split at h
  ·rename_i he;exact⟨_,fun m a=>by (try simp only[he]);exact a,h⟩
  ·rename_i he;exact⟨_,fun m a=>by (try simp only[he]);exact a,h⟩
  exact h.elim
 case alloc t=>exact⟨_,fun m a=>⟨h.1,a⟩,h.2⟩
 case box t x=>
  split at h
  ·exact h.elim
  ·exact h.elim
  rename_i v q r
  exact⟨_,fun m a=>a,h⟩
 case extract x i=>
  split at h
  ·rename_i he
   split at h
   ·rename_i u
    exact⟨_,fun m a=>by (try simp only[he,u]);exact a,h⟩
   exact h.elim
  exact h.elim
 case load t x=>
  simp only[Ld] at h ⊢;obtain⟨q,h⟩:=h
  split at h
  ·rename_i he
   split at h
   ·rename_i hb
    split at h
    ·rename_i s
     exact⟨_,fun m a=>⟨q,by (try simp only[he,hb,if_pos s]);exact a⟩,h⟩
    exact h.elim
   exact h.elim
  ·rename_i he
   split at h
   ·rename_i s
    exact⟨_,fun m a=>⟨q,by (try simp only[he,if_pos s]);exact a⟩,h⟩
   exact h.elim
  ·rename_i he
   split at h
   ·rename_i hb
    split at h
    ·rename_i s
     obtain⟨z,r,h⟩:=h
     split at h
     ·rename_i I
      exact⟨_,fun m a=>⟨q,by (try simp only[he,hb,if_pos s]);exact⟨z,r,by simp only[if_pos I];exact a⟩⟩,h⟩
     exact h.elim
    exact h.elim
   exact h.elim
  exact h.elim
 case store t p x=>
  obtain⟨q,h⟩:=h
  split at h
  ·rename_i he
   split at h
   ·exact h.elim
   ·exact h.elim
   ·rename_i O Q hb
    split at h
    ·rename_i s
     refine⟨_,fun m a=>⟨q,?_⟩,h⟩;rw[if_pos s];exact a
    exact h.elim
   exact h.elim
  ·rename_i he
   split at h
   ·exact h.elim
   ·exact h.elim
   ·rename_i O Q hb
    split at h
    ·rename_i s
     obtain⟨z,r,h⟩:=h;refine⟨_,fun m a=>⟨q,?_⟩,h _ rfl⟩;rw[if_pos s];exact⟨z,r,fun l' G=>by subst G;exact a⟩
    exact h.elim
   exact h.elim
  exact h.elim
 case fieldAddr t x i=>
  obtain⟨q,h⟩:=h
  split at h
  ·rename_i C he
   split at h
   ·rename_i s
    exact⟨_,fun m a=>⟨q,by (try simp only[C,he,if_pos s]);exact a⟩,h⟩
   exact h.elim
  ·rename_i C he
   exact⟨_,fun m a=>⟨q,by (try simp only[C,he]);exact a⟩,h⟩
  ·rename_i C he
   split at h
   ·rename_i s
    exact⟨_,fun m a=>⟨q,by (try simp only[C,he,if_pos s]);exact a⟩,h⟩
   exact h.elim
  exact h.elim
 case field t x i=>
  obtain⟨q,h⟩:=h
  split at h
  ·rename_i C he
   split at h
   ·rename_i s
    exact⟨_,fun m a=>⟨q,by (try simp only[C,he,if_pos s]);exact a⟩,h⟩
   exact h.elim
  exact h.elim
 case build t ps=>
  obtain⟨q,h⟩:=h
  split at h
  ·rename_i he
   exact⟨_,fun m a=>⟨q,by (try simp only[he]);exact a⟩,h⟩
  exact h.elim
 case buildSlice t n ps=>
  obtain⟨q,r,xs,h3,h | h⟩:=h
  ·exact⟨_,fun m a=>⟨q,r,xs,h3,.inl a⟩,h⟩
  exact⟨_,fun m a=>⟨q,r,xs,h3,.inr a⟩,h⟩
 case makeSlice t x y=>
  obtain⟨q,h⟩:=h
  split at h
  ·rename_i u A
   exact⟨_,fun m a=>⟨q,by (try simp only[u,A]);exact⟨h.1,fun k z I=>by obtain⟨rfl,rfl⟩:=I;exact a⟩⟩,h.2 _ _ ⟨rfl,rfl⟩⟩
  exact h.elim
 case indexAddr t x i=>
  obtain⟨q,h⟩:=h
  split at h
  ·rename_i u A
   obtain⟨r,z,h3,h⟩:=h;exact⟨_,fun m a=>⟨q,by (try simp only[u,A]);exact⟨r,z,h3,a⟩⟩,h⟩
  ·rename_i u A
   obtain⟨r,h⟩:=h
   split at h
   ·rename_i s
    exact⟨_,fun m a=>⟨q,by (try simp only[u,A]);exact⟨r,by rw[if_pos s];exact⟨h.1,fun j M=>by subst M;exact a⟩⟩⟩,h.2 _ rfl⟩
   exact h.elim
  exact h.elim
 case slice t x lo hi mx=>
  obtain⟨q,h⟩:=h;obtain⟨f,r,h3⟩:=eU h;exact⟨f,fun m a=>⟨q,r _ a⟩,h3⟩
 case binOp op t x y t'=>
  split at h
  ·rename_i u A
   split at h
   ·rename_i F
    obtain⟨c,r,h3⟩:=eR h;exact⟨_,fun m a=>by (try simp only[u,A,if_pos F]);exact r _ a,h3⟩
   exact h.elim
  ·rename_i u A
   obtain⟨q,h⟩:=h;cases op <;> simp only at h
   all_goals first
    | exact h.elim
    | exact⟨_,fun m a=>by (try simp only[u,A]);exact⟨q,fun c w=>w ▸ a⟩,h _ rfl⟩
  ·rename_i u A
   obtain⟨q,h⟩:=h;cases op <;> simp only at h
   all_goals first
    | exact h.elim
    | exact⟨_,fun m a=>by (try simp only[u,A]);exact⟨q,fun c w=>w ▸ a⟩,h _ rfl⟩
  exact h.elim
 case unOp op t x=>
  split at h
  ·rename_i u
   exact⟨_,fun m a=>by (try simp only[u]);intro c w;subst w;exact a,h _ rfl⟩
  ·rename_i u
   exact⟨_,fun m a=>by (try simp only[u]);intro c w;subst w;exact a,h _ rfl⟩
  exact h.elim
 case convert src dst x=>
  obtain⟨q,h⟩:=h
  split at h
  ·rename_i u A
   exact⟨_,fun m a=>⟨q,by (try simp only[u,A]);intro c w;subst w;exact a⟩,h _ rfl⟩
  exact h.elim
 case makeFunc fn first cap=>
  split at h
  ·rename_i q r;exact⟨_,fun m a=>by (try simp only[q,r]);exact a,h⟩
  exact h.elim
 case call c=>
  cases w:c.callee with
  | builtin b=>
   simp only[w] at h ⊢
   have B:∀t l,c.args.toList.map e=[.one (.sl t l)]->l.length<=140737488355328:=by
    intro t l D
    generalize c.args.toList=L at D
    match L,D with
    | [x],D=>exact hlen x t l (by simpa using D)
    |[],D|_::_::_,D=>simp at D
   rcases He.1 h with h |⟨hb,h⟩ |⟨hb,h⟩
   ·obtain⟨g,q,r⟩:=LK B h;exact⟨g,fun m a=>He.2 (.inl (q m a)),r⟩
   ·obtain⟨g,q,r⟩:=LK B h;obtain⟨t,id,v,n,l,R,_,_,J,H⟩:=SP r;exact⟨_,fun m a=>He.2 (.inr (.inl ⟨hb,q _ (H m a)⟩)),J⟩
   obtain⟨g,q,r⟩:=eB h;exact⟨g,fun m a=>He.2 (.inr (.inr ⟨hb,q m a⟩)),r⟩
  | value f=>
   simp only[w] at h ⊢
   split at h
   ·rename_i he
    obtain⟨f,r,h3⟩:=Pv h;exact⟨f,fun m a=>by (try simp only[he]);exact r _ a,h3⟩
   ·rename_i he
    obtain⟨f,r,h3⟩:=Pv h;exact⟨f,fun m a=>by (try simp only[he]);exact r _ a,h3⟩
   ·rename_i he
    obtain⟨f,r,h3⟩:=Pv h;exact⟨f,fun m a=>by (try simp only[he]);exact r _ a,h3⟩
   exact h.elim
  | invoke _ _=>simp only[w] at h
end
end Go.Abs
