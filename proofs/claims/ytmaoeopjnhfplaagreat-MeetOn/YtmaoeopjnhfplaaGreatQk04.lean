/- Part 5 of a proof. Conditions: each theorem's own. -/
import Derived.Test.YtmaoeopjnhfplaaGreatQk03
set_option linter.all false
set_option maxHeartbeats 8000000
set_option maxRecDepth 20000
namespace Go.Abs
open Go.RowKit
section
variable {P:Program} {TI:TypeId->Info}
theorem L4 {w0:World} {X:WX} {β:Nat->Option Nat} {s:St} {a:Act} {w:World} (S:Bn w0 X β s a w) {J:Nat->Prop} (j:∀b,(cx X w β (AK s.bk)).I b->J b):
  ∀{l m:List AV} {vs:List Value},(∀id b,id∈Ci l->live (AK s.bk) id->β id=some b->b<w.heap.size->J b)->GN (Ft (AK s.bk)) l m->BA (Bt (cx X w β (AK s.bk))) l vs->BA (Bt (Dq w J)) m vs
 | [],[],[],_,_,_=>trivial
 | .one c::_,.one d::_,_::_,i,g,r=>⟨Or.inr (aM S j (fun id b f=>i id b (by simp[Ci,f])) g.1 (Bx r.1 (by intro e;subst e;exact g.1.elim))),L4 S j (fun id b f=>i id b (by simp[Ci,f])) g.2 r.2⟩
 | .agg c::_,.agg d::_,_::_,i,g,r=>by
  obtain⟨arr,e,k⟩:=r.1;refine⟨⟨arr,e,?_⟩,L4 S j (fun id b f=>i id b (by rw[Ci];exact List.mem_append_right _ f)) g.2 r.2⟩;exact all (fun id b f=>i id b (by rw[Ci];exact List.mem_append_left _ f)) g.1 k
 |[],_::_,_,_,g,_|_::_,[],_,_,g,_=>g.elim
 |.one _::_,.agg _::_,_,_,g,_|.one _::_,.AG _::_,_,_,g,_|.agg _::_,.one _::_,_,_,g,_|.agg _::_,.AG _::_,_,_,g,_|.AG _::_,.one _::_,_,_,g,_|.AG _::_,.agg _::_,_,_,g,_|.AG _::_,.AG _::_,_,_,g,_=>g.1.elim
 |[],[],_::_,_,_,r|.one _::_,.one _::_,[],_,_,r|.agg _::_,.agg _::_,[],_,_,r=>r.elim
where
 all:∀{l m:List AC} {vs:List Value},(∀id b,id∈l.flatMap Co->live (AK s.bk) id->β id=some b->b<w.heap.size->J b)->BX (Ft (AK s.bk)) l m->BA (BV (cx X w β (AK s.bk))) l vs->BA (BV (Dq w J)) m vs
  | [],[],[],_,_,_=>trivial
  | _::_,_::_,_::_,i,h,r=>⟨aM S j (fun id b f=>i id b (by rw[List.flatMap_cons];exact List.mem_append_left _ f)) h.1 r.1,all (fun id b f=>i id b (by rw[List.flatMap_cons];exact List.mem_append_right _ f)) h.2 r.2⟩
  |[],_::_,_,_,h,_|_::_,[],_,_,h,_=>h.elim
  |[],[],_::_,_,_,r|_::_,_::_,[],_,_,r=>r.elim
theorem Q9 {x y:Cx} {lo:Nat} {bo:Option Nat} {d v:Nat} (h:∀b,x.I b->y.I b/\y.w.heap[b]? =x.w.heap[b]?) (hw:y.w=x.w) (a:v<=y.cv d) (f:v=y.cv d->y.β d=bo):∀{c:AC} {u:Value},CX c=true->DZ x lo bo c u->BV y (GS d v c) u
 | .own t l n,u,_,⟨i,base,cap,e,o,g,_,h3⟩=>by
  subst e;refine⟨⟨rfl,a⟩,fun j=>⟨base,cap,by rw[i],by omega,g,by simp,?_⟩⟩;rcases h3 with⟨_,_,rfl⟩ |⟨b,arr,e,rfl,_,rfl,k,m,_⟩
  ·exact .inl rfl
  exact .inr ⟨b,arr,e,f j,by simp,by rw[hw];exact k,by simpa using m⟩
 |.By,_,_,r|.int _ _,_,_,r|.bool _,_,_,r|.fn _,_,_,r|.nil,_,_,r=>r
 | .sl _ _,_,_,r=>C6 h _ _ _ r
 |.AZ _ _ _ _ _,_,e,_|.Dm _ _ _ _ _,_,e,_|.As _ _ _,_,e,_|.DI _ _ _ _ _,_,e,_|.EL _ _ _,_,e,_|.ub _,_,e,_=>by simp[CX,BZ] at e
theorem BA.Q8 {x y:Cx} {lo:Nat} {bo:Option Nat} {d v:Nat} (h:∀b,x.I b->y.I b/\y.w.heap[b]? =x.w.heap[b]?) (hw:y.w=x.w) (a:v<=y.cv d) (c:v=y.cv d->y.β d=bo):
  ∀{cs:List AC} {us:List Value},cs.all CX=true->BA (DZ x lo bo) cs us->BA (BV y) (cs.map (GS d v)) us
 | [],[],_,_=>trivial
 | _::_,_::_,e,r=>by simp only[List.all_cons,Bool.and_eq_true] at e;exact⟨Q9 h hw a c e.1 r.1,BA.Q8 h hw a c e.2 r.2⟩
 |[],_::_,_,r|_::_,[],_,r=>r.elim
theorem iF {x y:Cx} {lo:Nat} {bo:Option Nat} {d v:Nat} (h:∀b,x.I b->y.I b/\y.w.heap[b]? =x.w.heap[b]?) (hw:y.w=x.w) (a:v<=y.cv d) (i:v=y.cv d->y.β d=bo) {r:AV} {u:Value} (o:r.all CX=true) (f:HJ x lo bo r u):
  Bt y (JG d v r) u:=by
 cases r with
 | one c=>
  rcases f with rfl | f
  ·exact Or.inl rfl
  exact Or.inr (Q9 h hw a i o f)
 | agg cs=>obtain⟨arr,e,f⟩:=f;exact⟨arr,e,BA.Q8 h hw a i o f⟩
 | AG xs=>
  obtain⟨arr,e,f⟩:=f;refine⟨arr,e,?_⟩
  have key:∀(xs:List (Bool×List AC)) (us:List Value),(xs.all fun x=>x.2.all CX)=true->BA (fun z q=>Gp x lo bo (Dn z) q) xs us->BA (fun z q=>Ef y (Dn z) q) (xs.map fun x=>(x.1,x.2.map (GS d v))) us:=by
   intro xs
   induction xs with
   | nil=>intro us _ k;cases us <;> first | trivial | exact k.elim
   | cons z xs s=>
    intro us l k;cases us with
    | nil=>exact k.elim
    | cons q us=>
     simp only[List.all_cons,Bool.and_eq_true] at l;refine⟨?_,s us l.2 k.2⟩;obtain⟨g,cs⟩:=z;have m:=k.1;cases g with
     | true=>obtain⟨j,e',p⟩:=m;exact⟨j,e',BA.Q8 h hw a i l.1 p⟩
     | false=>
      cases cs with
      | nil=>exact Or.inl rfl
      | cons c cs=>
       simp only[List.all_cons,Bool.and_eq_true] at l;rcases m with n | m
       ·have n:c= .By:=n;subst n;exact Or.inl rfl
       exact Or.inr (Q9 h hw a i l.1.1 m)
  exact key xs arr.toList o f
theorem Mq {x:Cx} {lo:Nat} {bo:Option Nat} (d v:Nat):∀{cs:List AC} {us:List Value},BA (DZ x lo bo) cs us->ET d v cs=[]\/∃t l u,ET d v cs=[(d,.arr v t l)]/\OwnAt x lo bo t l u
 | [],[],_=> .inl rfl
 | c::cs,u::us,h=>by
  have a:=Mq d v h.2;cases c with
  | own t l n=>exact .inr ⟨t,l,u,rfl,h.1.2⟩
  | _=>exact a
 |[],_::_,h|_::_,[],h=>h.elim
theorem Oy (d v:Nat):∀(cs a:List AC),ET d v (cs++a)=match ET d v cs with | []=>ET d v a | x=>x
 | [],_=>by simp[ET]
 | c::cs,a=>by
  have:=Oy d v cs a;cases c <;> simp[ET,this]
theorem Y8 {x:Cx} {lo:Nat} {bo:Option Nat} (d v:Nat) {r:AV} {u:Value} (m:r.wf=true) (b:HJ x lo bo r u):Il d v r=[]\/∃t l f,Il d v r=[(d,.arr v t l)]/\OwnAt x lo bo t l f:=by
 cases r with
 | one c=>
  rcases b with rfl | b
  ·exact .inl rfl
  exact Mq d v (cs:=[c]) (us:=[u]) ⟨b,trivial⟩
 | agg cs=>obtain⟨arr,e,b⟩:=b;exact Mq d v b
 | AG xs=>
  obtain⟨arr,e,b⟩:=b
  show ET d v _=[]\/_
  have key:∀(xs:List (Bool×List AC)) (us:List Value),BA (fun z q=>Gp x lo bo (Dn z) q) xs us->(∀z∈xs,z.1=false->z.2.length<=1)->ET d v (xs.flatMap (·.2))=[]\/∃t l f,ET d v (xs.flatMap (·.2))=[(d,.arr v t l)]/\OwnAt x lo bo t l f:=by
   intro xs
   induction xs with
   | nil=>intro us _ _;exact .inl rfl
   | cons z xs y=>
    intro us j h;cases us with
    | nil=>exact j.elim
    | cons q us=>
     have p:=y us j.2 (fun z' n=>h z' (by simp[n]))
     have a:ET d v z.2=[]\/∃t l f,ET d v z.2=[(d,.arr v t l)]/\OwnAt x lo bo t l f:=by
      obtain⟨g,cs⟩:=z;have a:=j.1;cases g with
      | true=>obtain⟨o,e',k⟩:=a;exact Mq d v k
      | false=>
       have w:=h (false,cs) (by simp) rfl
       match cs,w with
       | [],_=>exact .inl rfl
       | [c],_=>
        rcases a with i | a
        ·have i:c= .By:=i;subst i;exact .inl rfl
        exact Mq d v (cs:=[c]) (us:=[q]) ⟨a,trivial⟩
     rw[List.flatMap_cons,Oy];rcases a with a |⟨t,l,f,a,h3⟩
     ·rw[a];exact p
     rw[a];exact .inr ⟨t,l,f,rfl,h3⟩
  refine key xs arr.toList b fun z h s=>?_
  have:=List.all_eq_true.1 m z h;simpa [s] using this
theorem Oz {d v:Nat}:∀{cs:List AC},ET d v cs=[]->cs.all CX=true->cs.all BZ=true/\cs.map (GS d v)=cs
 | [],_,_=>⟨rfl,rfl⟩
 | c::cs,h,a=>by
  simp only[List.all_cons,Bool.and_eq_true] at a;cases c with
  | own t l n=>simp[ET] at h
  |AZ _ _ _ _ _|Dm _ _ _ _ _|As _ _ _|DI _ _ _ _ _|EL _ _ _|ub _=>exact absurd a.1 (by simp[CX,BZ])
  | _=>obtain⟨b,f⟩:=Oz (cs:=cs) h a.2;exact⟨by simp[b,BZ],by simp[GS,f]⟩
theorem TA {x y:Cx} {lo:Nat} {bo:Option Nat} (h:∀b,x.I b->y.I b/\y.w.heap[b]? =x.w.heap[b]?):∀{c:AC} {u:Value},BZ c=true->DZ x lo bo c u->BV y c u
 |.By,_,_,r|.int _ _,_,_,r|.bool _,_,_,r|.fn _,_,_,r|.nil,_,_,r=>r
 | .sl _ _,_,_,r=>C6 h _ _ _ r
 |.AZ _ _ _ _ _,_,e,_|.Dm _ _ _ _ _,_,e,_|.As _ _ _,_,e,_|.DI _ _ _ _ _,_,e,_|.EL _ _ _,_,e,_|.ub _,_,e,_|.own _ _ _,_,e,_=>by simp[BZ] at e
theorem BA.S8 {x y:Cx} {lo:Nat} {bo:Option Nat} (h:∀b,x.I b->y.I b/\y.w.heap[b]? =x.w.heap[b]?):∀{cs:List AC} {us:List Value},cs.all BZ=true->BA (DZ x lo bo) cs us->BA (BV y) cs us
 | [],[],_,_=>trivial
 | _::_,_::_,e,r=>by simp only[List.all_cons,Bool.and_eq_true] at e;exact⟨TA h e.1 r.1,BA.S8 h e.2 r.2⟩
 |[],_::_,_,r|_::_,[],_,r=>r.elim
theorem kl {d v:Nat} {cs a:List AC} (h:ET d v (cs++a)=[]):ET d v cs=[]/\ET d v a=[]:=by
 rw[Oy] at h
 split at h
 ·rename_i e;exact⟨e,h⟩
 rename_i e;exact absurd h e
theorem XV {x y:Cx} {lo:Nat} {bo:Option Nat} {d v:Nat} {r:AV} {u:Value} (l:Il d v r=[]) (m:r.all CX=true/\r.wf=true) (h:∀b,x.I b->y.I b/\y.w.heap[b]? =x.w.heap[b]?) (i:HJ x lo bo r u):Bt y (JG d v r) u:=by
 cases r with
 | one c=>
  obtain⟨f,a⟩:=Oz (cs:=[c]) l (by simpa [AV.all] using m.1);have a:GS d v c=c:=by simpa using a
  show Bt y (.one (GS d v c)) u
  rw[a];exact i.imp (fun q=>q) (TA h (by simpa using f))
 | agg cs=>
  obtain⟨arr,e,i⟩:=i;obtain⟨f,a⟩:=Oz l m.1;refine⟨arr,e,?_⟩;rw[a];exact BA.S8 h f i
 | AG xs=>
  obtain⟨arr,e,i⟩:=i;refine⟨arr,e,?_⟩
  have key:∀(xs:List (Bool×List AC)) (us:List Value),ET d v (xs.flatMap (·.2))=[]->(xs.all fun x=>x.2.all CX)=true->BA (fun z q=>Gp x lo bo (Dn z) q) xs us->BA (fun z q=>Ef y (Dn z) q) (xs.map fun x=>(x.1,x.2.map (GS d v))) us:=by
   intro xs
   induction xs with
   | nil=>intro us _ _ k;cases us <;> first | trivial | exact k.elim
   | cons z xs s=>
    intro us p o k;cases us with
    | nil=>exact k.elim
    | cons q us=>
     simp only[List.all_cons,Bool.and_eq_true] at o;rw[List.flatMap_cons] at p;obtain⟨t,A⟩:=kl p;refine⟨?_,s us A o.2 k.2⟩;obtain⟨f,a⟩:=Oz t o.1;obtain⟨g,cs⟩:=z;have h3:=k.1;simp only at a
     show Ef y (Dn (g,cs.map (GS d v))) q
     rw[a];cases g with
     | true=>obtain⟨j,e',n⟩:=h3;exact⟨j,e',BA.S8 h f n⟩
     | false=>
      cases cs with
      | nil=>exact Or.inl rfl
      | cons c cs=>
       simp only[List.all_cons,Bool.and_eq_true] at f;exact h3.imp (fun q=>q) (TA h f.1)
  exact key xs arr.toList l m.1 i
theorem Rc {X:WX} {w:World} {β:Nat->Option Nat} {bk:Nat->Option AR} {I:Nat->Prop} {id vv:Nat} (a:vv=AY bk id):∀{c:AC} {v:Value},O7 c=some (id,vv)->BV (cx X w β bk) c v->BV (Cp w (β id) I) (Iq 0 0 c) v
 | .AZ t i b off len,_,h,r=>by
  simp only[O7,Option.some.injEq,Prod.mk.injEq] at h;obtain⟨rfl,rfl⟩:=h;exact⟨⟨r.1.1,Nat.le_refl _⟩,fun _=>r.2 a⟩
 | .As i b off,_,h,r=>by
  simp only[O7,Option.some.injEq,Prod.mk.injEq] at h;obtain⟨rfl,rfl⟩:=h;exact⟨⟨r.1.1,Nat.le_refl _⟩,fun _=>r.2 a⟩
 |.By,_,h,_|.int _ _,_,h,_|.bool _,_,h,_|.fn _,_,h,_|.nil,_,h,_|.sl _ _,_,h,_|.Dm _ _ _ _ _,_,h,_|.DI _ _ _ _ _,_,h,_|.EL _ _ _,_,h,_|.ub _,_,h,_|.own _ _ _,_,h,_=>by cases h
theorem X8 {X:WX} {w:World} {β:Nat->Option Nat} {bk:Nat->Option AR} {id:Nat} {J:Nat->Prop} (d:∀b,(cx X w β bk).I b->J b/\w.heap[b]? =w.heap[b]?):∀{b:AR},(b.FG 0).lone=true->DM (cx X w β bk) id b->DM (Cp w (β id) J) 0 (b.FG 0)
 | .dead _,h,_=>by simp[AR.FG,AR.lone] at h
 | .var _ cs,h,⟨b,arr,e,a,c,h3⟩=>⟨b,arr,e,a,c,BA.pure (x:=cx X w β bk) (y:=Cp w (β id) J) d (by simpa [AR.FG,AR.lone] using h) h3⟩
 | .arr _ t l,_,h=>h.imp (fun q=>q) fun⟨b,arr,e,a,c,h3⟩=>⟨b,arr,e,a,c,fun i y f=>by
  obtain⟨us,g,j⟩:=h3 i y f;exact⟨us,C6 (w':=w) d _ _ _ g,j⟩⟩
theorem PB {w w':World} {I d:Nat->Prop}:∀(t:T) (x:el t) (vs:List Value),t.flat=true->rep w I t x vs->rep w' d t x vs
 |.u8,_,_,_,c|.u32,_,_,_,c|.u64,_,_,_,c|.i8,_,_,_,c|.i64,_,_,_,c|.bool,_,_,_,c=>c
 | .sl t,_,_,h,_=>by simp[T.flat] at h
 | .pr a b,x,_,h,⟨v1,v2,e,f,g⟩=>by
  simp only[T.flat,Bool.and_eq_true] at h;exact⟨v1,v2,e,PB a x.1 v1 h.1 f,PB b x.2 v2 h.2 g⟩
theorem nd {X:WX} {w':World} {β:Nat->Option Nat} {Ck:Nat->Option AR} {ob:Option Nat} {J:Nat->Prop} {id vv:Nat} (a:ob=β id):∀{b:AR},OL b=true->DM (Cp w' ob J) 0 b->DM (cx X w' β Ck) id (b.FG vv)
 |.dead _,h,_|.var v cs,h,_=>by simp[OL] at h
 | .arr _ t l,f,h=>h.imp (fun q=>⟨(show β id=none by rw[<-a];exact q.1),q.2⟩) fun⟨b,arr,e,c,d,h3⟩=>⟨b,arr,e,(show β id=some b by rw[<-a];exact c),d,fun i y g=>by
  obtain⟨us,j,k⟩:=h3 i y g;exact⟨us,PB _ _ _ f j,k⟩⟩
theorem UJ {X:WX} {w':World} {β:Nat->Option Nat} {Ck:Nat->Option AR} {ob:Option Nat} {J:Nat->Prop} {id vv:Nat} (a:ob=β id) (b:vv=AY Ck id):
  ∀{c:AC} {u:Value},CL c=true->BV (Cp w' ob J) c u->BV (cx X w' β Ck) (Iq id vv c) u
 | .AZ t i v off len,_,h,r=>by
  match i,v,h,r with
  | 0,0,_,r=>exact⟨⟨r.1.1,Nat.le_of_eq b⟩,fun _=>by have:=r.2 rfl;show Hl w' (β id) _ _ _ _ _;rw[<-a];exact this⟩
  |0,_+1,h,_|_+1,_,h,_=>simp[CL] at h
 |.int _ _,_,_,r|.bool _,_,_,r|.fn _,_,_,r|.nil,_,_,r=>r
 |.Dm _ _ _ _ _,_,h,_|.As _ _ _,_,h,_|.By,_,h,_|.sl _ _,_,h,_|.DI _ _ _ _ _,_,h,_|.EL _ _ _,_,h,_|.ub _,_,h,_|.own _ _ _,_,h,_=>by simp[CL] at h
theorem BA.UI {X:WX} {w':World} {β:Nat->Option Nat} {Ck:Nat->Option AR} {ob:Option Nat} {J:Nat->Prop} {id vv:Nat} (a:ob=β id) (b:vv=AY Ck id):
  ∀{cs:List AC} {us:List Value},cs.all CL=true->BA (BV (Cp w' ob J)) cs us->BA (BV (cx X w' β Ck)) (cs.map (Iq id vv)) us
 | [],[],_,_=>trivial
 | _::_,_::_,e,r=>by simp only[List.all_cons,Bool.and_eq_true] at e;exact⟨UJ a b e.1 r.1,BA.UI a b e.2 r.2⟩
 |[],_::_,_,r|_::_,[],_,r=>r.elim
theorem nf {X:WX} {w':World} {β:Nat->Option Nat} {Ck:Nat->Option AR} {ob:Option Nat} {J:Nat->Prop} {id vv:Nat} (b:ob=β id) (j:vv=AY Ck id) {r:AV} {u:Value}
  (h:r.all CL=true) (a:Bt (Cp w' ob J) r u):Bt (cx X w' β Ck) (Za id vv r) u:=by
 cases r with
 | one c=>
  rcases a with rfl | a
  ·exact Or.inl rfl
  exact Or.inr (UJ b j h a)
 | agg cs=>obtain⟨arr,e,a⟩:=a;exact⟨arr,e,BA.UI b j h a⟩
 | AG xs=>
  obtain⟨arr,e,a⟩:=a;refine⟨arr,e,?_⟩
  have key:∀(xs:List (Bool×List AC)) (us:List Value),(xs.all fun x=>x.2.all CL)=true->BA (fun z q=>Ef (Cp w' ob J) (Dn z) q) xs us->BA (fun z q=>Ef (cx X w' β Ck) (Dn z) q) (xs.map fun x=>(x.1,x.2.map (Iq id vv))) us:=by
   intro xs
   induction xs with
   | nil=>intro us _ f;cases us <;> first | trivial | exact f.elim
   | cons z xs m=>
    intro us i f;cases us with
    | nil=>exact f.elim
    | cons q us=>
     simp only[List.all_cons,Bool.and_eq_true] at i;refine⟨?_,m us i.2 f.2⟩;obtain⟨g,cs⟩:=z;have h3:=f.1;cases g with
     | true=>obtain⟨d,e',l⟩:=h3;exact⟨d,e',BA.UI b j i.1 l⟩
     | false=>
      cases cs with
      | nil=>exact Or.inl rfl
      | cons c cs=>
       simp only[List.all_cons,Bool.and_eq_true] at i;rcases h3 with k | h3
       ·have k:c= .By:=k;subst k;exact Or.inl rfl
       exact Or.inr (UJ b j i.1.1 h3)
  exact key xs arr.toList h a
theorem kO {X:WX} {w:World} {β:Nat->Option Nat} {s:St} {d b k:Nat} {bo:Option Nat} {Bq:AR} {fl:Bool} {J:Nat->Prop} (g:d<s.bk.length) (j:(fl=false/\J b)\/w.heap.size<=b) (l:bo≠some b)
  (m:∀b,J b->fl=false->(cx X w β (AK s.bk)).I b) (c:∀k b,live (AK s.bk) k->β k=some b->b<w.heap.size) (f:live (AK (BY s.bk d (some Bq))) k) (a:(if k=d then bo else β k)=some b):False:=by
 rw[H0 _ _ _ g] at f
 by_cases h:k=d
 ·simp[h] at a;exact l a
 simp only[h,if_false] at f a;rcases j with⟨i,e2⟩ | i
 ·exact (m b e2 i).1.2 k f a
 have:=c k b f a;omega
theorem Z7:∀(l:List (Option AR)) (id:Nat) (b:AR),AK l id=some b->BY l id (some b)=l
 | [],_,_,h=>by simp[AK] at h
 | a::l,0,b,h=>by rw[BY,show a=some b from h]
 | a::l,n+1,b,h=>by rw[BY,Z7 l n b h]
theorem X6 {X:WX} {w:World} {β:Nat->Option Nat} {bk:Nat->Option AR} {id v:Nat} (j:v=AY bk id):∀{c d:AC} {u:Value},JK id v c d->BV (cx X w β bk) c u->BV (Cp w (β id) (cx X w β bk).I) d u
 |.AZ t i g off len,_,_,⟨⟨a,f⟩,h3⟩,r|.As i g off,_,_,⟨⟨a,f⟩,h3⟩,r=>by subst a f h3;exact Rc (vv:=g) j rfl r
 |.int _ _,_,_,h,r|.bool _,_,_,h,r|.fn _,_,_,h,r=>by rw[show _=_ from h];exact r
 | .sl t l,_,u,h,r=>by
  rw[show _=_ from h];exact C6 (w':=w) (fun b hb=>⟨hb,rfl⟩) (.sl t) l [u] r
 | .nil,_,_,h,r=>by
  rcases h with rfl |⟨t,rfl⟩
  ·exact r
  rw[show _=_ from r];exact⟨none,0,rfl,Nat.le_refl _,by simp,.inl rfl⟩
 |.By,_,_,h,_|.Dm _ _ _ _ _,_,_,h,_|.DI _ _ _ _ _,_,_,h,_|.EL _ _ _,_,_,h,_|.ub _,_,_,h,_|.own _ _ _,_,_,h,_=>h.elim
theorem Vk {X:WX} {w:World} {β:Nat->Option Nat} {bk:Nat->Option AR} {id v:Nat} (a:v=AY bk id):∀{l m:List AC} {vs:List Value},BX (JK id v) l m->BA (BV (cx X w β bk)) l vs->BA (BV (Cp w (β id) (cx X w β bk).I)) m vs
 | [],[],[],_,_=>trivial
 | _::_,_::_,_::_,h,r=>⟨X6 a h.1 r.1,Vk a h.2 r.2⟩
 |[],_::_,_,h,_|_::_,[],_,h,_=>h.elim
 |[],[],_::_,_,r|_::_,_::_,[],_,r=>r.elim
theorem QM {X:WX} {w:World} {β:Nat->Option Nat} {bk:Nat->Option AR} {id v:Nat} (a:v=AY bk id):∀{l m:List AV} {vs:List Value},GN (JK id v) l m->BA (Bt (cx X w β bk)) l vs->BA (Bt (Cp w (β id) (cx X w β bk).I)) m vs
 | [],[],[],_,_=>trivial
 | .one c::_,.one d::_,_::_,h,r=>⟨.inr (X6 a h.1 (Bx r.1 (by intro e;subst e;exact h.1.elim))),QM a h.2 r.2⟩
 | .agg c::_,.agg d::_,_::_,h,r=>by
  obtain⟨arr,e,b⟩:=r.1;exact⟨⟨arr,e,Vk a h.1 b⟩,QM a h.2 r.2⟩
 |[],_::_,_,h,_|_::_,[],_,h,_=>h.elim
 |.one _::_,.agg _::_,_,h,_|.one _::_,.AG _::_,_,h,_|.agg _::_,.one _::_,_,h,_|.agg _::_,.AG _::_,_,h,_|.AG _::_,.one _::_,_,h,_|.AG _::_,.agg _::_,_,h,_|.AG _::_,.AG _::_,_,h,_=>h.1.elim
 |[],[],_::_,_,r|.one _::_,.one _::_,[],_,r|.agg _::_,.agg _::_,[],_,r=>r.elim
theorem nc {y:Cx} {w':World} {ob:Option Nat} {J:Nat->Prop} {id:Nat} (g:∀k,J k->y.I k) (hw:y.w=w') (a:y.β id=ob):∀{b:AR},(b.FG 0).lone=true->DM (Cp w' ob J) 0 (b.FG 0)->DM y id b
 | .dead _,h,_=>by simp[AR.FG,AR.lone] at h
 | .var _ cs,h,⟨b,arr,e,c,d,h3⟩=>⟨b,arr,e,a.trans c,by rw[hw];exact d,BA.pure (x:=Cp w' ob J) (y:=y) (fun k f=>⟨g k f,by rw[hw];rfl⟩) (by simpa [AR.FG,AR.lone] using h) h3⟩
 | .arr _ t l,_,h=>h.imp (fun q=>⟨a.trans q.1,q.2⟩) fun⟨b,arr,e,c,d,h3⟩=>⟨b,arr,e,a.trans c,by rw[hw];exact d,fun i z j=>by
  obtain⟨us,m,n⟩:=h3 i z j;exact⟨us,C6 (w':=y.w) (fun k f=>⟨g k f,by rw[hw];rfl⟩) _ _ _ m,by rw[hw];exact n⟩⟩
theorem lI {x y:Cx} (h:∀b,x.I b->y.I b/\y.w.heap[b]? =x.w.heap[b]?) {r:AV} {u:Value} (j:r.all BZ=true) (a:Bt x r u):Bt y r u:=by
 cases r with
 | one c=>exact a.imp (fun q=>q) (Mt h j)
 | agg cs=>obtain⟨arr,e,a⟩:=a;exact⟨arr,e,BA.pure h j a⟩
 | AG xs=>
  obtain⟨arr,e,a⟩:=a;refine⟨arr,e,?_⟩
  have key:∀(xs:List (Bool×List AC)) (us:List Value),(xs.all fun x=>x.2.all BZ)=true->BA (fun z q=>Ef x (Dn z) q) xs us->BA (fun z q=>Ef y (Dn z) q) xs us:=by
   intro xs
   induction xs with
   | nil=>intro us _ f;cases us <;> first | trivial | exact f.elim
   | cons z xs l=>
    intro us i f;cases us with
    | nil=>exact f.elim
    | cons q us=>
     simp only[List.all_cons,Bool.and_eq_true] at i;refine⟨?_,l us i.2 f.2⟩;obtain⟨g,cs⟩:=z;have h3:=f.1;cases g with
     | true=>obtain⟨d,e',k⟩:=h3;exact⟨d,e',BA.pure h i.1 k⟩
     | false=>
      cases cs with
      | nil=>exact Or.inl rfl
      | cons c cs=>
       simp only[List.all_cons,Bool.and_eq_true] at i;exact h3.imp (fun q=>q) (Mt h i.1.1)
  exact key xs arr.toList j a
theorem XU {d v:Nat}:∀{c:AC},BZ c=true->GS d v c=c
 | .own _ _ _,h=>by simp[BZ] at h
 |.By,_|.int _ _,_|.bool _,_|.fn _,_|.nil,_|.sl _ _,_|.AZ _ _ _ _ _,_|.Dm _ _ _ _ _,_|.As _ _ _,_|.DI _ _ _ _ _,_|.EL _ _ _,_|.ub _,_=>rfl
theorem MS {d v:Nat}:∀{cs:List AC},cs.all BZ=true->cs.map (GS d v)=cs/\ET d v cs=[]
 | [],_=>⟨rfl,rfl⟩
 | c::cs,h=>by
  simp only[List.all_cons,Bool.and_eq_true] at h;obtain⟨a,b⟩:=MS (d:=d) (v:=v) h.2;refine⟨by rw[List.map_cons,XU h.1,a],?_⟩;cases c <;> first | exact b | simp[BZ] at h
theorem RA {d v:Nat}:∀{xs:List (Bool×List AC)},(xs.all fun x=>x.2.all BZ)=true->(xs.map fun x=>(x.1,x.2.map (GS d v)))=xs/\ET d v (xs.flatMap (·.2))=[]
 | [],_=>⟨rfl,rfl⟩
 | x::xs,h=>by
  simp only[List.all_cons,Bool.and_eq_true] at h;obtain⟨a,b⟩:=RA (d:=d) (v:=v) h.2;obtain⟨h3,c⟩:=MS (d:=d) (v:=v) h.1;exact⟨by rw[List.map_cons,h3,a],by rw[List.flatMap_cons,Oy,c];exact b⟩
theorem XW {d v:Nat} {r:AV} (h:r.all BZ=true):JG d v r=r/\Il d v r=[]:=by
 cases r with
 | one c=>exact⟨congrArg AV.one (XU h),(MS (cs:=[c]) (by simpa [AV.all] using h)).2⟩
 | agg cs=>exact⟨congrArg AV.agg (MS h).1,(MS h).2⟩
 | AG xs=>exact⟨congrArg AV.AG (RA h).1,(RA h).2⟩
theorem mT (o:Oper) {c:Call} {x:Operand} (ho:o.op= .call c) (hc:c.callee= .value x):Sound P (env P) TI o:=by
 intro w0 X β s a w S f h N Q hN;simp only[Ch,ho,hc] at h;have hx:=C8 S.Ca x;have B:=QN (C8 S.Ca) c.args.toList;have hU:c.args.map a.eval=(c.args.toList.map a.eval).toArray:=Array.ext' (by simp);have al:∀b,(cx X w β (AK s.bk)).I b->b<w.heap.size:=fun b hb=>hb.1.1
 have Y:∀b o,w.heap[b]? =some o->b<w.heap.size:=fun b o h=>by
  rcases Nat.lt_or_ge b w.heap.size with h' | h'
  ·exact h'
  simp[Array.getElem?_eq_none h'] at h
 have R:∀k b,live (AK s.bk) k->β k=some b->b<w.heap.size:=fun k b ⟨ag,D,hl⟩ hb=>by
  have r:=S.blocks k ag D;cases ag with
  | dead _=>simp[AR.live] at hl
  | var _ _=>obtain⟨b',arr,e,L,U,_⟩:=r;obtain rfl:b=b':=Option.some.inj (hb.symm.trans L);exact Y b _ U
  | arr _ _ _=>
   rcases r with⟨L,_⟩ |⟨b',arr,e,L,U,_⟩
   ·exact absurd (hb.symm.trans L) (by simp)
   obtain rfl:b=b':=Option.some.inj (hb.symm.trans L);exact Y b _ U
 split at h
 case h_2=>exact h.elim
 rename_i g he
 rw[he] at hx;have af:a.eval x= .func (.func g) #[] #[]:=Bx hx (by simp)
 have after:∀(fl:Bool) (r:AV) (rd:List Nat) (J:Nat->Prop),(∀b,J b->fl=false->(cx X w β (AK s.bk)).I b)->Callee P g->(r.all CX=true/\r.wf=true)->
   Calls P g (c.args.map a.eval) w (fun e w'=>∃u bo,e= .returned u/\Below w.heap.size w w'/\HJ (Dq w' fun b=>((fl=false/\J b)\/w.heap.size<=b)/\b<w'.heap.size/\bo≠some b) w.heap.size bo r u)->
   f=⟨JG (Bu o) (AY (AK s.bk) (Bu o)+1) r,Il (Bu o) (AY (AK s.bk) (Bu o)+1) r,rd⟩->o.wp P a w N Q:=by
  intro fl r rd J hJ z H n hf;have hA:∀b,((fl=false/\J b)\/w.heap.size<=b)->X.A b:=fun b hb=>hb.elim (fun q=>(hJ b q.2 q.1).2) fun q=>S.fresh b (Nat.le_trans S.size q)
  subst hf;refine PZ ho hc af z n fun e w' ⟨u,bo,he,hb,hr⟩=>⟨u,he,?_⟩
  have F:∀b,b<w.heap.size->w'.heap[b]? =w.heap[b]? :=hb.block
  by_cases C:Bu o<s.bk.length
  ·rcases Y8 (Bu o) (AY (AK s.bk) (Bu o)+1) H.2 hr with h0 |⟨t,l,u',h0,L⟩
   ·rw[h0] at hN
    have aA:∀{y:Cx},y.w=w'->(∀b,(Dq w' fun b=>((fl=false/\J b)\/w.heap.size<=b)/\b<w'.heap.size/\bo≠some b).I b->y.I b)->Bt y (JG (Bu o) (AY (AK s.bk) (Bu o)+1) r) u:=by
     intro y hw hI;exact XV h0 H (fun b hb=>⟨hI b hb,by rw[hw];rfl⟩) hr
    refine hN β _ w' (S.ext F hb.size hb.os hb.tape hb.output (aA rfl fun b m=>⟨⟨m.2.1,fun k D aa=>?_⟩,hA b m.1⟩));rcases m.1 with⟨e1,e2⟩ | e1
    ·exact (hJ b e2 e1).1.2 k D aa
    have:=R k b D aa;omega
   rw[h0] at hN;obtain⟨base,cap,e,k1,k2,ay,k3⟩:=L
   have ak:∀b,(((fl=false/\J b)\/w.heap.size<=b)/\b<w'.heap.size/\bo≠some b)->
     (cx X w' (fun k=>if k=Bu o then bo else β k) (AK (BY s.bk (Bu o) (some (.arr (AY (AK s.bk) (Bu o)+1) t l))))).I b/\w'.heap[b]? =w'.heap[b]? :=
    fun b m=>⟨⟨⟨m.2.1,fun k D aa=>kO C m.1 m.2.2 hJ R D aa⟩,hA b m.1⟩,rfl⟩
   refine hN (fun k=>if k=Bu o then bo else β k) _ w' (S.write C ay (fun k D=>by simp[D]) (by simp[AR.AY]) (fun e=>by simp[AR.AY] at e) (fun b m _=>F b m) hb.size
    (fun b arr e O=>⟨arr,(F b (Y b _ O)).trans O,rfl⟩) hb.os hb.tape hb.output (fun _ b m=> .inr ?_) (fun hle=>?_) (fun hle=>?_))
   ·simp at m;rcases k3 with⟨W,_⟩ |⟨b',arr,e',W,q2,_⟩
    ·rw[W] at m;cases m
    rw[W] at m;obtain rfl:=Option.some.inj m;exact q2
   ·rcases k3 with⟨W,q2,_⟩ |⟨b',arr,e',W,q2,q3,q4,q5,q6⟩
    ·exact Or.inl ⟨by show (if Bu o=Bu o then _ else _)=_;simp[W],q2⟩
    refine Or.inr ⟨b',arr,e',by show (if Bu o=Bu o then _ else _)=_;simp[W],q4,fun i y hy=>?_⟩;obtain⟨us,p1,p2⟩:=q6 i y hy;exact⟨us,C6 (w':=w') ak _ _ _ p1,p2⟩
   refine iF (x:=Dq w' fun b=>((fl=false/\J b)\/w.heap.size<=b)/\b<w'.heap.size/\bo≠some b) (lo:=w.heap.size) (bo:=bo) ak rfl ?_ ?_ H.1 hr
   ·show _<=AY _ (Bu o);rw[GJ _ _ _ C,if_pos rfl];simp[AR.AY]
   intro _;show (if Bu o=Bu o then _ else _)=_;simp
  have G:s.bk.length<=Bu o:=Nat.le_of_not_lt C
  have aD:s.app o.dst ⟨JG (Bu o) (AY (AK s.bk) (Bu o)+1) r,Il (Bu o) (AY (AK s.bk) (Bu o)+1) r,rd⟩=s.app none ⟨.one .By,[],rd⟩:=by
   have e1:∀v,GW s.sl o.dst v=s.sl:=fun v=>by
    cases hd:o.dst with
    | none=>rfl
    | some q=>simp[Bu,hd] at G;simp[GW,He s.sl q v (by rw[S.len,<-S.Hz];exact G)]
   have e2:DG (Il (Bu o) (AY (AK s.bk) (Bu o)+1) r) s.bk=s.bk:=by
    rcases Y8 (Bu o) (AY (AK s.bk) (Bu o)+1) H.2 hr with h0 |⟨t,l,u',h0,_⟩
    ·rw[h0];rfl
    rw[h0];simp[DG,He _ _ _ G]
   simp only[St.app,e1,e2];rfl
  have ha:a.put o.dst u=a.put none undef:=by
   cases hd:o.dst with
   | none=>rfl
   | some q=>
    simp[Bu,hd] at G;have:a.tmps.size<=q:=by rw[<-S.Hz];exact G
    simp[Act.put,Array.setIfInBounds_eq_of_size_le this]
  rw[ha];exact hN β _ w' (by rw[aD];exact S.ext F hb.size hb.os hb.tape hb.output (Jb _ _))
 rcases h with⟨K,r,L,U,h⟩ |⟨K,r,L,U,h⟩ | h |⟨id,Bq,K,r,L,U,h⟩ |⟨id,Bq,K,r,L,U,h⟩
 ·obtain⟨z,H,M⟩:=U ();have:=M w (cx X w β (AK s.bk)).I (c.args.toList.map a.eval) al (QL (x:=cx X w β (AK s.bk)) (y:=Dq w (cx X w β (AK s.bk)).I) (fun b hb=>⟨hb,rfl⟩) (L ()) B);exact after false r _ _ (fun b hb _=>hb) z H (by rw[hU];exact this) h.symm
 ·obtain⟨z,H,M⟩:=U ();have:=M w (fun b=>b<w.heap.size) (c.args.toList.map a.eval) (fun b hb=>hb) (L4 S (fun b hb=>hb.1.1) (fun _ _ _ _ _ h=>h) (L ()) B);exact after true r _ (fun b=>b<w.heap.size) (fun b _ e=>by cases e) z H (by rw[hU];exact this) h.symm
 ·generalize hA:c.args.toList.map (ev s.sl)=A at h B
  generalize hV:c.args.toList.map a.eval=V at B hU
  split at h
  case h_2=>exact h.elim
  rename_i c0 rest
  split at h
  case h_2=>exact h.elim
  rename_i id vv aq
  split at h
  case h_2=>exact h.elim
  rename_i Bq hb
  split at h
  case isFalse=>exact h.elim
  rename_i ar
  obtain⟨K,r,b1,L,U,h⟩:=h;obtain⟨az,L⟩:=L ();obtain⟨U,av,ax⟩:=U ();obtain⟨z,⟨aG,aH,aw,aI⟩,M⟩:=U
  match V,B with
  | v0::vs,⟨aB,aC⟩=>
  have aF:vv=AY (AK s.bk) id:=by rw[GI hb];exact ar.symm
  have C:id<s.bk.length:=by
   rcases Nat.lt_or_ge id s.bk.length with G | G
   ·exact G
   rw[JU _ _ G] at hb;cases hb
  have p:live (AK s.bk) id:=by
   refine⟨Bq,hb,?_⟩;cases Bq <;> simp_all [AR.live,AR.lone,AR.FG]
  have a8:∀b,(cx X w β (AK s.bk)).I b->(b<w.heap.size/\β id≠some b)/\w.heap[b]? =w.heap[b]? :=fun b hb=>⟨⟨hb.1.1,hb.1.2 id p⟩,rfl⟩
  have au:BV (Cp w (β id) fun b=>b<w.heap.size/\β id≠some b) (Iq 0 0 c0) v0:=Rc aF aq (Bx aB (by intro e;subst e;cases aq));have ai:DM (Cp w (β id) fun b=>b<w.heap.size/\β id≠some b) 0 (Bq.FG 0):=X8 a8 aw (S.blocks id Bq hb)
  have n:=M w (fun b=>b<w.heap.size/\β id≠some b) (β id) v0 vs (fun b hb=>hb) au ai (by have:=S.lens id Bq hb;cases Bq <;> simpa [AR.short,AR.FG] using this)
   (L4 S (fun b hb=>(a8 b hb).1) (fun Z b a2 ab m a6=>⟨a6,fun e=>az (S.inj Z id b ab p m e ▸ a2)⟩) L aC)
  subst h;rw[<-hU] at n;refine PZ ho hc af z n fun e w' O=>?_
  obtain⟨u,he,⟨p1,p2,p3,p4,p5⟩,p6,p7,p8,p9⟩:=O;refine⟨u,he,?_⟩;have ah:(b1.FG vv).AY=vv:=by cases b1 <;> rfl
  refine hN β _ w' (S.write C (by cases b1 <;> simpa [AR.short,AR.FG] using p9) (fun _ _=>rfl) (by rw[ah];omega) (fun _=>⟨rfl,fun _=>p⟩) (fun b m aj=>p5 b m (aj p)) p4 (fun b arr e O=>?_) p1 p2 p3 (fun _ b m=> .inl ⟨m,p⟩) (fun _=>?_) (fun _=>?_))
  ·by_cases a1:β id=some b
   ·exact p6 b arr e a1 O
   exact⟨arr,(p5 b (Y b _ O) a1).trans O,rfl⟩
  ·exact nd rfl av p8
  refine nf rfl ?_ ax p7
  show vv=AY _ id
  rw[GJ _ _ _ C,if_pos rfl,ah]
 ·obtain⟨hb,hle⟩:=L ();obtain⟨z,⟨hp,a5⟩,M⟩:=U ()
  have C:id<s.bk.length:=by
   rcases Nat.lt_or_ge id s.bk.length with G | G
   ·exact G
   rw[JU _ _ G] at hb;cases hb
  have p:live (AK s.bk) id:=by
   refine⟨Bq,hb,?_⟩;cases Bq <;> simp_all [AR.live,AR.lone,AR.FG]
  have ae:Bq.AY=AY (AK s.bk) id:=(GI hb).symm;have a8:∀b,(cx X w β (AK s.bk)).I b->(cx X w β (AK s.bk)).I b/\w.heap[b]? =w.heap[b]? :=fun b hb=>⟨hb,rfl⟩
  have ai:DM (Cp w (β id) (cx X w β (AK s.bk)).I) 0 (Bq.FG 0):=X8 a8 a5 (S.blocks id Bq hb)
  have n:=M w (cx X w β (AK s.bk)).I (β id) (c.args.toList.map a.eval) (fun b hb=>⟨hb.1.1,fun e=>hb.1.2 id p e⟩) ai
   (by have:=S.lens id Bq hb;cases Bq <;> simpa [AR.short,AR.FG] using this) (QM ae hle B)
  subst h
  have heq:s.app o.dst ⟨r,[],[id]⟩=s.app o.dst ⟨r,[(id,Bq)],[id]⟩:=by
   unfold St.app;simp only[DG,Z7 _ _ _ hb]
  rw[heq] at hN;rw[<-hU] at n;refine PZ ho hc af z n fun e w' O=>?_
  obtain⟨u,he,⟨p1,p2,p3,p4,p5⟩,p6,p7,p8⟩:=O;refine⟨u,he,?_⟩
  have hJ:∀k,(((cx X w β (AK s.bk)).I k\/w.heap.size<=k)/\k<w'.heap.size/\β id≠some k)->(cx X w' β (AK (BY s.bk id (some Bq)))).I k:=fun k D=>by
   have a7:∀j,live (AK (BY s.bk id (some Bq))) j->live (AK s.bk) j:=fun j hj=>by
    rw[H0 _ _ _ C] at hj
    by_cases h:j=id
    ·subst h;exact p
    rw[if_neg h] at hj;exact hj
   rcases D.1 with h | h
   ·exact⟨⟨D.2.1,fun j hj=>h.1.2 j (a7 j hj)⟩,h.2⟩
   refine⟨⟨D.2.1,fun j hj e=>?_⟩,S.fresh k (Nat.le_trans S.size h)⟩;have:=R j k (a7 j hj) e;omega
  refine hN β _ w' (S.write C (S.lens id Bq hb) (fun _ _=>rfl) (Nat.le_of_eq ae.symm) (fun _=>⟨rfl,fun _=>p⟩) (fun b m aj=>p5 b m (aj p)) p4 (fun b arr e O=>?_) p1 p2 p3 (fun _ b m=> .inl ⟨m,p⟩) (fun _=>?_) (fun _=>?_))
  ·by_cases a1:β id=some b
   ·exact p6 b arr e a1 O
   exact⟨arr,(p5 b (Y b _ O) a1).trans O,rfl⟩
  ·exact nc hJ rfl rfl a5 p8
  exact lI (x:=Cp w' (β id) fun k=>((cx X w β (AK s.bk)).I k\/w.heap.size<=k)/\k<w'.heap.size/\β id≠some k) (y:=cx X w' β (AK (BY s.bk id (some Bq)))) (fun k D=>⟨hJ k D,rfl⟩) hp p7
 obtain⟨⟨h0,hb,an⟩,aE⟩:=L ();obtain⟨⟨z,H,M⟩,ao⟩:=U ()
 have C:id<s.bk.length:=by
  rcases Nat.lt_or_ge id s.bk.length with G | G
  ·exact G
  rw[JU _ _ G] at hb;cases hb
 have ae:Bq.AY=AY (AK s.bk) id:=(GI hb).symm
 have ad:∀k,live (AK (BY s.bk id (some (.dead Bq.AY)))) k->k≠id/\live (AK s.bk) k:=fun k D=>by
  rw[H0 _ _ _ C] at D
  by_cases h:k=id
  ·rw[if_pos h] at D;cases D
  rw[if_neg h] at D;exact⟨h,D⟩
 have n:=M w (cx X w β (AK (BY s.bk id (some (.dead Bq.AY))))).I (c.args.toList.map a.eval) (fun b m=>m.1.1)
  (L4 S (fun b m=>⟨⟨m.1.1,fun k D=>m.1.2 k (ad k D).2⟩,m.2⟩) (fun Z b a2 ab m a6=>by
   have e:Z=id:=by simpa using List.all_eq_true.1 an Z a2
   subst e;refine⟨⟨a6,fun k D e=>(ad k D).1 (S.inj k Z b (ad k D).2 ab e m)⟩,?_⟩;rcases S.own Z b ab m with G | G
   ·exact S.fresh b G
   exact absurd G.2 h0) aE B)
 subst h;rw[<-hU] at n;refine PZ ho hc af z n fun e w' O=>?_
 obtain⟨u,bo,he,T,hr⟩:=O;refine⟨u,he,?_⟩;have F:∀b,b<w.heap.size->w'.heap[b]? =w.heap[b]? :=T.block
 refine hN β _ w' (S.write C trivial (fun _ _=>rfl) (Nat.le_of_eq ae.symm) (fun _=>⟨rfl,fun e=>by cases e⟩) (fun b m _=>F b m) T.size (fun b arr e O=>⟨arr,(F b (Y b _ O)).trans O,rfl⟩) T.os T.tape T.output
  (fun e=>by cases e) (fun _=>trivial) (fun _=>?_))
 have hJ:∀b,(((false=false/\(cx X w β (AK (BY s.bk id (some (.dead Bq.AY))))).I b)\/w.heap.size<=b)/\b<w'.heap.size/\bo≠some b)->(cx X w' β (AK (BY s.bk id (some (.dead Bq.AY))))).I b/\w'.heap[b]? =w'.heap[b]? :=fun b m=>by
  obtain⟨W,q2,_⟩:=m;rcases W with⟨_,W⟩ | W
  ·exact⟨⟨⟨q2,W.1.2⟩,W.2⟩,rfl⟩
  refine⟨⟨⟨q2,fun k D e=>?_⟩,S.fresh b (Nat.le_trans S.size W)⟩,rfl⟩;have:=R k b (ad k D).2 e;omega
 have hg:=XV (x:=Dq w' fun b=>((false=false/\(cx X w β (AK (BY s.bk id (some (.dead Bq.AY))))).I b)\/w.heap.size<=b)/\b<w'.heap.size/\bo≠some b) (y:=cx X w' β (AK (BY s.bk id (some (.dead Bq.AY))))) (XW (d:=0) (v:=0) ao).2 H hJ hr;rw[(XW (d:=0) (v:=0) ao).1] at hg;exact hg
end
section
theorem fN {op:BinOp} {k:IntKind} {a b:Int} {K:AC->Prop} (h:arith op k a b K):∃c,(∀i:AC->Prop,i c->arith op k a b i)/\K c:=by
 unfold arith at h ⊢
 split at h
 case h_1=>obtain⟨f,g⟩:=h _ rfl;exact⟨_,fun i d c hc=>by subst hc;exact⟨f,d⟩,g⟩
 case h_2=>obtain⟨f,g⟩:=h _ rfl;exact⟨_,fun i d c hc=>by subst hc;exact⟨f,d⟩,g⟩
 case h_3=>obtain⟨f,g⟩:=h _ rfl;exact⟨_,fun i d c hc=>by subst hc;exact⟨f,d⟩,g⟩
 case h_4=>obtain⟨f,g⟩:=h _ rfl;exact⟨_,fun i d c hc=>by subst hc;exact⟨f,d⟩,g⟩
 case h_5=>obtain⟨f,g⟩:=h _ rfl;exact⟨_,fun i d c hc=>by subst hc;exact⟨f,d⟩,g⟩
 all_goals first
  | exact⟨_,fun i d c hc=>by subst hc;exact d,h _ rfl⟩
  | (obtain⟨f,g⟩:=h _ rfl;exact⟨_,fun i d c hc=>by subst hc;exact⟨f,d⟩,g⟩)
theorem Nr {len:Nat} {lo k mx:Option AV} {K:Nat->Nat->Bool->Prop} (h:I8 len lo k mx K):∃a b c,(∀f:Nat->Nat->Bool->Prop,f a b c->I8 len lo k mx f)/\K a b c:=by
 unfold I8 at h ⊢
 split at h
 ·exact⟨_,_,_,fun f d c hc=>by subst hc;exact d,h _ rfl⟩
 ·obtain⟨g,i⟩:=h;exact⟨_,_,_,fun f d=>⟨g,fun l m j=>by obtain⟨rfl,rfl⟩:=j;exact d⟩,i _ _ ⟨rfl,rfl⟩⟩
 ·obtain⟨g,i⟩:=h;exact⟨_,_,_,fun f d=>⟨g,fun l j=>by obtain rfl:=j;exact d⟩,i _ rfl⟩
 ·obtain⟨g,i⟩:=h;exact⟨_,_,_,fun f d=>⟨g,fun l m j=>by obtain⟨rfl,rfl⟩:=j;exact d⟩,i _ _ ⟨rfl,rfl⟩⟩
 ·obtain⟨g,i⟩:=h;exact⟨_,_,_,fun f d=>⟨g,fun l j=>by obtain rfl:=j;exact d⟩,i _ rfl⟩
 exact h.elim
theorem fP {bk:Nat->Option AR} {u:T} {x:AV} {lo l mx:Option AV} {K:Bz->Prop} (h:I7 bk u x lo l mx K):∃f,(∀g:Bz->Prop,g f->I7 bk u x lo l mx g)/\K f:=by
 unfold I7 at h ⊢
 split at h
 ·obtain⟨k,h⟩:=h;obtain⟨a,b,c,i,h3⟩:=Nr (h _ rfl);exact⟨_,fun g j=>⟨k,fun n m=>by subst m;exact i _ fun l' d=>by subst d;exact j⟩,h3 _ rfl⟩
 ·obtain⟨k,h⟩:=h
  split at h
  ·rename_i p
   obtain⟨a,b,c,i,h3⟩:=Nr h;have h3:=h3 _ _ ⟨rfl,rfl⟩;cases c with
   |true|false=>exact⟨_,fun g j=>⟨k,by rw[if_pos p];exact i _ fun o n d=>by obtain⟨rfl,rfl⟩:=d;exact j⟩,h3⟩
  exact h.elim
 ·obtain⟨a,b,c,i,h3⟩:=Nr h;exact⟨_,fun g j=>i _ j,h3⟩
 exact h.elim
theorem ez {E:Env} {g:FuncId} {args:List AV} {d:Nat} {bk:Nat->Option AR} {K:Bz->Prop} (h:Jq E g args d bk K):∃f,(∀l:Bz->Prop,l f->Jq E g args d bk l)/\K f:=by
 rcases h with⟨a,r,c,j,h⟩ |⟨a,r,c,j,h⟩ | h |⟨i,b,a,r,c,j,h⟩ |⟨i,b,a,r,c,j,h⟩
 ·exact⟨_,fun l k=> .inl ⟨a,r,c,j,k⟩,h⟩
 ·exact⟨_,fun l k=> .inr (.inl ⟨a,r,c,j,k⟩),h⟩
 rotate_left
 ·exact⟨_,fun l k=> .inr (.inr (.inr (.inl ⟨i,b,a,r,c,j,k⟩))),h⟩
 ·exact⟨_,fun l k=> .inr (.inr (.inr (.inr ⟨i,b,a,r,c,j,k⟩))),h⟩
 unfold Jq
 split at h
 ·split at h
  ·rename_i m
   split at h
   ·rename_i hb
    split at h
    ·rename_i n
     obtain⟨a,r,b1,c,j,h⟩:=h;exact⟨_,fun l k=> .inr (.inr (.inl (by simp only[m,hb,if_pos n];exact⟨a,r,b1,c,j,k⟩))),h⟩
    exact h.elim
   exact h.elim
  exact h.elim
 exact h.elim
theorem T.beq_refl:∀t:T,T.beq t t=true
 | .u8=>rfl | .u32=>rfl | .u64=>rfl | .i8=>rfl | .i64=>rfl | .bool=>rfl
 | .sl t=>T.beq_refl t
 | .pr a b=>by simp only[T.beq,T.beq_refl a,T.beq_refl b,Bool.and_self]
theorem Jp {TI:TypeId->Info} {b:Builtin} {a:List TypeId} {args:List AV} {d:Nat} {bk:Nat->Option AR} {K:Bz->Prop}:
  QB TI b a args d bk K↔Fw TI b a args d bk K\/(b= .append/\Fw TI b a args d bk (LZ K)):=by
 cases b <;> simp[QB]
theorem TN {K:Bz->Prop} {g:Bz} (h:LZ K g):∃(t:T) (id v n:Nat) (l:List (el t)),g=⟨.one (.AZ t id v 0 n),[(id,.arr v t l)],g.rd⟩/\id≠0/\n=l.length/\K ⟨.one (.sl t l),[(id,.dead v)],g.rd⟩/\
  ∀a:Bz->Prop,a ⟨.one (.sl t l),[(id,.dead v)],g.rd⟩->LZ a g:=by
 obtain⟨o,p,m⟩:=g;unfold LZ at h
 split at h
 ·rename_i t id v off n i r q l c d
  split at h
  ·rename_i hc
   simp only at c d;simp only[Bool.and_eq_true,bne_iff_ne,beq_iff_eq] at hc;obtain⟨⟨⟨⟨c1,c2⟩,f⟩,j⟩,b⟩:=hc;have b:=T.beq_eq b;subst c2 f j b c d;refine⟨t,id,v,n,l,rfl,c1,h.1 (),h.2,fun a k=>?_⟩;unfold LZ;simp only;rw[if_pos (by simp[c1,T.beq_refl])];exact⟨h.1,k⟩
  exact h.elim
 exact h.elim
theorem QK {TI:TypeId->Info} {b:Builtin} {a:List TypeId} {args:List AV} {d:Nat} {bk:Nat->Option AR} {K:Bz->Prop} (hb:b= .append) (h:Fw TI b a args d bk K):args.length=2:=by
 subst hb;unfold Fw at h
 split at h <;> first | contradiction | exact h.elim | rfl
theorem fL {TI:TypeId->Info} {b:Builtin} {c:List TypeId} {args:List AV} {d:Nat} {bk:Nat->Option AR} {g:Bz} (hb:b= .append) (h:Fw TI b c args d bk (fun f=>f=g)) {id:Nat} {B:AR} (hw:g.ws=[(id,B)]):
  id=d\/∃x,bk id=some x:=by
 subst hb;unfold Fw at h
 split at h <;> first | contradiction | skip
 ·obtain⟨_,l2,_,h⟩:=h;have:=h _ rfl;subst this;simp at hw;exact .inl hw.1.symm
 ·obtain⟨_,h⟩:=h
  split at h
  ·rename_i a
   split at h
   ·obtain⟨l2,_,h⟩:=h;have:=h _ _ ⟨rfl,rfl⟩;subst this;simp at hw;exact .inr ⟨_,hw.1 ▸ a⟩
   exact h.elim
  exact h.elim
 obtain⟨_,h⟩:=h
 split at h
 ·rename_i a
  split at h
  ·obtain⟨l2,_,h⟩:=h;have:=h _ _ ⟨rfl,rfl⟩;subst this;simp at hw;exact .inr ⟨_,hw.1 ▸ a⟩
  exact h.elim
 exact h.elim
theorem L0 {TI:TypeId->Info} {b:Builtin} {o:List TypeId} {args:List AV} {d:Nat} {bk:Nat->Option AR} {K:Bz->Prop} (hlen:∀t l,args=[.one (.sl t l)]->l.length<=140737488355328) (h:Fw TI b o args d bk K):
  ∃f,(∀g:Bz->Prop,g f->Fw TI b o args d bk g)/\K f:=by
 unfold Fw at h ⊢
 split at h
 ·exact⟨_,fun g a=>⟨h.1,fun n i=>by obtain⟨rfl,_⟩:=i;exact a⟩,h.2 _ ⟨rfl,hlen _ _ rfl⟩⟩
 ·obtain⟨j,h⟩:=h
  split at h
  ·rename_i k
   exact⟨_,fun g a=>⟨j,by rw[if_pos k];intro n i;obtain⟨rfl⟩:=i;exact a⟩,h _ ⟨rfl⟩⟩
  exact h.elim
 ·obtain⟨j,h⟩:=h
  split at h
  ·rename_i k
   exact⟨_,fun g a=>⟨j,by rw[if_pos k];intro n i;obtain⟨rfl⟩:=i;exact a⟩,h _ ⟨rfl⟩⟩
  exact h.elim
 ·exact⟨_,fun g a=>⟨h.1,a⟩,h.2⟩
 ·exact⟨_,fun g a=>⟨h.1,a⟩,h.2⟩
 ·exact⟨_,fun g a c hc=>by subst hc;exact a,h _ rfl⟩
 ·obtain⟨j,l2,m,h⟩:=h;exact⟨_,fun g a=>⟨j,l2,m,fun n i=>by subst i;exact a⟩,h _ rfl⟩
 ·obtain⟨j,h⟩:=h
  split at h
  ·rename_i hb
   split at h
   ·rename_i k
    obtain⟨l2,m,h⟩:=h;exact⟨_,fun g a=>⟨j,by simp only[hb,if_pos k];exact⟨l2,m,fun l' n i=>by obtain⟨rfl,rfl⟩:=i;exact a⟩⟩,h _ _ ⟨rfl,rfl⟩⟩
   exact h.elim
  exact h.elim
 ·obtain⟨j,h⟩:=h
  split at h
  ·rename_i hb
   split at h
   ·rename_i k
    obtain⟨l2,m,h⟩:=h;exact⟨_,fun g a=>⟨j,by simp only[hb,if_pos k];exact⟨l2,m,fun l' n i=>by obtain⟨rfl,rfl⟩:=i;exact a⟩⟩,h _ _ ⟨rfl,rfl⟩⟩
   exact h.elim
  exact h.elim
 exact h.elim
theorem QJ {E:Env} {TI:TypeId->Info} {o:Oper} {d:Nat} {e:Operand->AV} {bk:Nat->Option AR} {K:Bz->Prop} (hlen:∀x t l,e x= .one (.sl t l)->l.length<=140737488355328) (h:Ch E TI o d e bk K):
  ∃f,(∀m:Bz->Prop,m f->Ch E TI o d e bk m)/\K f:=by
 unfold Ch at h ⊢;cases M:o.op <;> simp only[M] at h ⊢
 case move x=>exact⟨_,fun m a=>a,h⟩
 case assign x=>exact⟨_,fun m a=>a,h⟩
 case nilCheck x=>
  split at h
  ·rename_i he
   split at h
   ·rename_i s
    rw[he] at h;exact⟨_,fun m a=>by rw[he];rw[if_pos s];exact a,h⟩
   exact h.elim
  ·rename_i he
   exact⟨_,fun m a=>a,h⟩
  exact h.elim
 case pick c x y=>
  split at h
  ·rename_i he;exact⟨_,fun m a=>by (try simp only[he]);exact a,h⟩
  ·rename_i he;exact⟨_,fun m a=>by (try simp only[he]);exact a,h⟩
  exact h.elim
 case alloc t=>exact⟨_,fun m a=>⟨h.1,a⟩,h.2⟩
 case box t x=>
  split at h
  ·exact h.elim
  ·exact h.elim
  rename_i v q r
  exact⟨_,fun m a=>a,h⟩
 case extract x i=>
  split at h
  ·rename_i he
   split at h
   ·rename_i u
    exact⟨_,fun m a=>by (try simp only[he,u]);exact a,h⟩
   exact h.elim
  exact h.elim
 case load t x=>
  simp only[MI] at h ⊢;obtain⟨q,h⟩:=h
  split at h
  ·rename_i he
   split at h
   ·rename_i hb
    split at h
    ·rename_i s
     exact⟨_,fun m a=>⟨q,by (try simp only[he,hb,if_pos s]);exact a⟩,h⟩
    exact h.elim
   exact h.elim
  ·rename_i he
   split at h
   ·rename_i s
    exact⟨_,fun m a=>⟨q,by (try simp only[he,if_pos s]);exact a⟩,h⟩
   exact h.elim
  ·rename_i he
   split at h
   ·rename_i hb
    split at h
    ·rename_i s
     obtain⟨z,r,h⟩:=h
     split at h
     ·rename_i H
      exact⟨_,fun m a=>⟨q,by (try simp only[he,hb,if_pos s]);exact⟨z,r,by simp only[if_pos H];exact a⟩⟩,h⟩
     exact h.elim
    exact h.elim
   exact h.elim
  exact h.elim
 case store t p x=>
  obtain⟨q,h⟩:=h
  split at h
  ·rename_i he
   split at h
   ·exact h.elim
   ·exact h.elim
   ·rename_i N O hb
    split at h
    ·rename_i s
     refine⟨_,fun m a=>⟨q,?_⟩,h⟩;rw[if_pos s];exact a
    exact h.elim
   exact h.elim
  ·rename_i he
   split at h
   ·exact h.elim
   ·exact h.elim
   ·rename_i N O hb
    split at h
    ·rename_i s
     obtain⟨z,r,h⟩:=h;refine⟨_,fun m a=>⟨q,?_⟩,h _ rfl⟩;rw[if_pos s];exact⟨z,r,fun l' F=>by subst F;exact a⟩
    exact h.elim
   exact h.elim
  exact h.elim
 case fieldAddr t x i=>
  obtain⟨q,h⟩:=h
  split at h
  ·rename_i B he
   split at h
   ·rename_i s
    exact⟨_,fun m a=>⟨q,by (try simp only[B,he,if_pos s]);exact a⟩,h⟩
   exact h.elim
  ·rename_i B he
   exact⟨_,fun m a=>⟨q,by (try simp only[B,he]);exact a⟩,h⟩
  ·rename_i B he
   split at h
   ·rename_i s
    exact⟨_,fun m a=>⟨q,by (try simp only[B,he,if_pos s]);exact a⟩,h⟩
   exact h.elim
  exact h.elim
 case field t x i=>
  obtain⟨q,h⟩:=h
  split at h
  ·rename_i B he
   split at h
   ·rename_i s
    exact⟨_,fun m a=>⟨q,by (try simp only[B,he,if_pos s]);exact a⟩,h⟩
   exact h.elim
  exact h.elim
 case build t ps=>
  obtain⟨q,h⟩:=h
  split at h
  ·rename_i he
   exact⟨_,fun m a=>⟨q,by (try simp only[he]);exact a⟩,h⟩
  exact h.elim
 case buildSlice t n ps=>
  obtain⟨q,r,xs,h3,h | h⟩:=h
  ·exact⟨_,fun m a=>⟨q,r,xs,h3,.inl a⟩,h⟩
  exact⟨_,fun m a=>⟨q,r,xs,h3,.inr a⟩,h⟩
 case makeSlice t x y=>
  obtain⟨q,h⟩:=h
  split at h
  ·rename_i u w
   exact⟨_,fun m a=>⟨q,by (try simp only[u,w]);exact⟨h.1,fun k z H=>by obtain⟨rfl,rfl⟩:=H;exact a⟩⟩,h.2 _ _ ⟨rfl,rfl⟩⟩
  exact h.elim
 case indexAddr t x i=>
  obtain⟨q,h⟩:=h
  split at h
  ·rename_i u w
   obtain⟨r,z,h3,h⟩:=h;exact⟨_,fun m a=>⟨q,by (try simp only[u,w]);exact⟨r,z,h3,a⟩⟩,h⟩
  ·rename_i u w
   obtain⟨r,h⟩:=h
   split at h
   ·rename_i s
    exact⟨_,fun m a=>⟨q,by (try simp only[u,w]);exact⟨r,by rw[if_pos s];exact⟨h.1,fun j J=>by subst J;exact a⟩⟩⟩,h.2 _ rfl⟩
   exact h.elim
  exact h.elim
 case slice t x lo hi mx=>
  obtain⟨q,h⟩:=h;obtain⟨f,r,h3⟩:=fP h;exact⟨f,fun m a=>⟨q,r _ a⟩,h3⟩
 case binOp op t x y t'=>
  split at h
  ·rename_i u w
   split at h
   ·rename_i D
    obtain⟨c,r,h3⟩:=fN h;exact⟨_,fun m a=>by (try simp only[u,w,if_pos D]);exact r _ a,h3⟩
   exact h.elim
  ·rename_i u w
   obtain⟨q,h⟩:=h;cases op <;> simp only at h
   all_goals first
    | exact h.elim
    | exact⟨_,fun m a=>by (try simp only[u,w]);exact⟨q,fun c hc=>hc ▸ a⟩,h _ rfl⟩
  ·rename_i u w
   obtain⟨q,h⟩:=h;cases op <;> simp only at h
   all_goals first
    | exact h.elim
    | exact⟨_,fun m a=>by (try simp only[u,w]);exact⟨q,fun c hc=>hc ▸ a⟩,h _ rfl⟩
  exact h.elim
 case unOp op t x=>
  split at h
  ·rename_i u
   exact⟨_,fun m a=>by (try simp only[u]);intro c hc;subst hc;exact a,h _ rfl⟩
  ·rename_i u
   exact⟨_,fun m a=>by (try simp only[u]);intro c hc;subst hc;exact a,h _ rfl⟩
  exact h.elim
 case convert src dst x=>
  obtain⟨q,h⟩:=h
  split at h
  ·rename_i u w
   exact⟨_,fun m a=>⟨q,by (try simp only[u,w]);intro c hc;subst hc;exact a⟩,h _ rfl⟩
  exact h.elim
 case call c=>
  cases hc:c.callee with
  | builtin b=>
   simp only[hc] at h ⊢
   have A:∀t l,c.args.toList.map e=[.one (.sl t l)]->l.length<=140737488355328:=by
    intro t l C
    generalize c.args.toList=L at C
    match L,C with
    | [x],C=>exact hlen x t l (by simpa using C)
    |[],C|_::_::_,C=>simp at C
   rcases Jp.1 h with h |⟨hb,h⟩
   ·obtain⟨g,q,r⟩:=L0 A h;exact⟨g,fun m a=>Jp.2 (.inl (q m a)),r⟩
   obtain⟨g,q,r⟩:=L0 A h;obtain⟨t,id,v,n,l,Q,_,_,I,G⟩:=TN r;exact⟨_,fun m a=>Jp.2 (.inr ⟨hb,q _ (G m a)⟩),I⟩
  | value f=>
   simp only[hc] at h ⊢
   split at h
   ·rename_i he
    obtain⟨f,r,h3⟩:=ez h;exact⟨f,fun m a=>by (try simp only[he]);exact r _ a,h3⟩
   exact h.elim
  | invoke _ _=>simp only[hc] at h
end
section
theorem XJ {pl:List (Nat×Nat×Bool)} {e e':Operand->AV}:∀{a:List (Nat×Operand)} {cs:List AC},(∀p∈a,e p.2=e' p.2)->Ht pl e a cs=Ht pl e' a cs
 | [],_,_=>rfl
 | (i,x)::r,cs,h=>by
  have b:=h (i,x) (by simp);simp only at b;have d:∀cs,Ht pl e r cs=Ht pl e' r cs:=fun cs=>XJ fun p c=>h p (by simp[c])
  simp only[Ht,b,d]
theorem fJ {E:Env} {TI:TypeId->Info} {o:Oper} {d:Nat} {e e':Operand->AV} {bk:Nat->Option AR} {K:Bz->Prop} (he:∀x∈o.op.operands,e x=e' x) (h:Ch E TI o d e bk K):Ch E TI o d e' bk K:=by
 unfold Ch at h ⊢;cases q:o.op <;> simp only[q] at h ⊢ <;> (try exact h.elim) <;> rw[q] at he <;> simp only[Op.operands] at he
 case move x=>rw[<-he x (by simp)];exact h
 case assign x=>rw[<-he x (by simp)];exact h
 case nilCheck x=>rw[<-he x (by simp)];exact h
 case pick c x y=>rw[<-he x (by simp),<-he y (by simp),<-he c (by simp)];exact h
 case alloc t=>exact h
 case box t x=>rw[<-he x (by simp)];exact h
 case extract x i=>rw[<-he x (by simp)];exact h
 case load t x=>rw[<-he x (by simp)];exact h
 case store t p x=>rw[<-he x (by simp),<-he p (by simp)];exact h
 case fieldAddr t x i=>rw[<-he x (by simp)];exact h
 case field t x i=>rw[<-he x (by simp)];exact h
 case build t ps=>
  rw[<-XJ (e:=e) (e':=e') (fun p j=>he p.2 (by simpa using ⟨p.1,Array.mem_toList_iff.1 j⟩))];exact h
 case buildSlice t n ps=>
  obtain⟨k,s,xs,h3,h⟩:=h;refine⟨k,s,xs,fun u=>?_,h⟩;obtain⟨g1,g2,m,r⟩:=h3 u;have j:∀p∈ps.toList,e p.2=e' p.2:=fun p j=>he p.2 (by simpa using ⟨p.1,Array.mem_toList_iff.1 j⟩)
  refine⟨g1,g2,?_,?_⟩
  ·rw[List.all_eq_true] at m ⊢;intro p g;rw[<-j p g];exact m p g
  rw[<-List.map_congr_left (f:=fun p=>(p.1,(e p.2).cs)) (fun p g=>by rw[j p g])];exact r
 case makeSlice t x y=>rw[<-he x (by simp),<-he y (by simp)];exact h
 case indexAddr t x i=>rw[<-he x (by simp),<-he i (by simp)];exact h
 case slice t x lo hi mx=>
  have k:∀y:Option Operand,(∀z,y=some z->e z=e' z)->y.map e=y.map e':=fun y w=>by cases y <;> simp;exact w _ rfl
  rw[<-he x (by simp),<-k lo (fun z l=>he z (by simp[l])),<-k hi (fun z l=>he z (by simp[l])),<-k mx (fun z l=>he z (by simp[l]))];exact h
 case binOp op t x y t'=>rw[<-he x (by simp),<-he y (by simp)];exact h
 case unOp op t x=>rw[<-he x (by simp)];exact h
 case convert src dst x=>rw[<-he x (by simp)];exact h
 case call c=>
  have a:c.args.toList.map e=c.args.toList.map e':=List.map_congr_left fun x v=>he x (by simp[Call.operands];exact .inr (by simpa using v))
  cases hc:c.callee with
  | builtin b=>simp only[hc] at h ⊢;rw[<-a];exact h
  | value f=>
   simp only[hc] at h ⊢;rw[<-a,<-he f (by simp[Call.operands,hc])];exact h
  | invoke _ _=>simp only[hc] at h
theorem Hi {bk Ck:Nat->Option AR} {id:Nat} (h:bk id=Ck id):AY bk id=AY Ck id:=by simp[AY,h]
theorem NI {bk Ck:Nat->Option AR} {c d:AC} (h:∀id∈Co c,bk id=Ck id) (a:Ft bk c d):Ft Ck c d:=by
 cases c <;> first | exact a | skip
 case AZ t id v off len=>obtain⟨l,b,f⟩:=a;exact⟨l,(h id (by simp[Co])) ▸ b,f⟩
theorem Vo {bk Ck:Nat->Option AR}:∀{l m:List AC},(∀id∈l.flatMap Co,bk id=Ck id)->BX (Ft bk) l m->BX (Ft Ck) l m
 | [],[],_,h=>h
 | c::l,_::_,b,h=>⟨NI (fun id a=>b id (by simp[a])) h.1,Vo (fun id a=>b id (by rw[List.flatMap_cons];exact List.mem_append_right _ a)) h.2⟩
 |[],_::_,_,h|_::_,[],_,h=>h
theorem L2 {bk Ck:Nat->Option AR}:∀{l m:List AV},(∀id∈Ci l,bk id=Ck id)->GN (Ft bk) l m->GN (Ft Ck) l m
 | [],[],_,h=>h
 | .one c::l,.one _::_,b,h=>⟨NI (fun id a=>b id (by simp[Ci,a])) h.1,L2 (fun id a=>b id (by simp[Ci,a])) h.2⟩
 | .agg cs::l,.agg _::_,b,h=>⟨Vo (fun id a=>b id (by rw[Ci];exact List.mem_append_left _ a)) h.1,L2 (fun id a=>b id (by rw[Ci];exact List.mem_append_right _ a)) h.2⟩
 |.AG _::_,.AG _::_,_,h|.one _::_,.agg _::_,_,h|.one _::_,.AG _::_,_,h|.agg _::_,.one _::_,_,h|.agg _::_,.AG _::_,_,h|.AG _::_,.one _::_,_,h|.AG _::_,.agg _::_,_,h=>h.1.elim
 |[],_::_,_,h|_::_,[],_,h=>h
theorem eo {E:Env} {g:FuncId} {args:List AV} {d:Nat} {bk Ck:Nat->Option AR} {f:Bz} (hb:∀id∈f.rd,bk id=Ck id) (h:Jq E g args d bk (fun g=>g=f)):Jq E g args d Ck (fun g=>g=f):=by
 rcases h with⟨a,r,c,k,h⟩ |⟨a,r,c,k,h⟩ | h |⟨i,b,a,r,c,k,h⟩ |⟨i,b,a,r,c,k,h⟩
 rotate_left 3
 ·subst h;exact .inr (.inr (.inr (.inl ⟨i,b,a,r,fun u=>⟨(hb i (by simp)).symm.trans (c u).1,(c u).2⟩,k,rfl⟩)))
 ·subst h;refine .inr (.inr (.inr (.inr ⟨i,b,a,r,fun u=>?_,k,rfl⟩)));obtain⟨⟨g1,g2,l⟩,m⟩:=c u;refine⟨⟨g1,(hb i (by simp)).symm.trans g2,l⟩,L2 (fun id j=>hb id ?_) m⟩;have:=List.all_eq_true.1 l id j;simp at this;simp[this]
 ·subst h;exact .inl ⟨a,r,c,k,by rw[Hi (hb d (by simp))]⟩
 ·subst h;exact .inr (.inl ⟨a,r,fun u=>L2 (fun id j=>hb id (by simp[j])) (c u),k,by rw[Hi (hb d (by simp))]⟩)
 unfold Jq
 split at h
 ·split at h
  ·rename_i p
   split at h
   ·rename_i n
    split at h
    ·rename_i o
     obtain⟨a,r,b1,c,k,h⟩:=h;subst h;refine .inr (.inr (.inl ?_));have:=hb _ (List.mem_cons_self ..);rw[n] at this;simp only[<-this,if_pos o];exact⟨a,r,b1,fun u=>⟨(c u).1,L2 (fun id j=>hb id (by simp[j])) (c u).2⟩,k,rfl⟩
    exact h.elim
   exact h.elim
  exact h.elim
 exact h.elim
theorem fO {u:T} {x:AV} {lo d mx:Option AV} {bk Ck:Nat->Option AR} {f:Bz} (hb:∀id∈f.rd,bk id=Ck id) (h:I7 bk u x lo d mx (fun g=>g=f)):I7 Ck u x lo d mx (fun g=>g=f):=by
 unfold I7 at h ⊢
 split at h
 ·exact h
 ·obtain⟨i,h⟩:=h;refine⟨i,?_⟩
  split at h
  ·rename_i j
   obtain⟨a,b,c,k,h3⟩:=Nr h;have h3:=h3 _ _ ⟨rfl,rfl⟩;cases c <;> subst h3 <;> rw[if_pos ((Hi (hb _ (List.mem_singleton.2 rfl))).symm.trans j)] <;> exact h
  exact h.elim
 ·exact h
 exact h.elim
theorem Vc {TI:TypeId->Info} {b:Builtin} {k:List TypeId} {args:List AV} {d:Nat} {bk Ck:Nat->Option AR} {f:Bz} (hb:∀id∈f.rd,bk id=Ck id) (h:Fw TI b k args d bk (fun g=>g=f)):Fw TI b k args d Ck (fun g=>g=f):=by
 unfold Fw at h ⊢
 split at h
 ·exact h
 ·obtain⟨i,h⟩:=h
  split at h
  ·rename_i j
   have h3:=h _ ⟨rfl⟩;subst h3;exact⟨i,by rw[if_pos ((Hi (hb _ (List.mem_singleton.2 rfl))).symm.trans j)];exact h⟩
  exact h.elim
 ·obtain⟨i,h⟩:=h
  split at h
  ·rename_i j
   have h3:=h _ ⟨rfl⟩;subst h3;exact⟨i,by rw[if_pos ((Hi (hb _ (List.mem_singleton.2 rfl))).symm.trans j)];exact h⟩
  exact h.elim
 ·exact h
 ·exact h
 ·exact h
 ·obtain⟨i,l2,a,h⟩:=h;have h3:=h _ rfl;subst h3;refine⟨i,l2,fun u=>⟨NI (fun id c=>hb id (by simp[c])) (a u).1,(a u).2⟩,?_⟩;rw[<-Hi (hb d (by simp))];exact h
 ·obtain⟨i,h⟩:=h;refine⟨i,?_⟩
  split at h
  ·rename_i l
   split at h
   ·rename_i j
    obtain⟨l2,a,h⟩:=h;have h3:=h _ _ ⟨rfl,rfl⟩;subst h3;have:=hb _ (List.mem_cons_self ..);rw[l] at this;simp only[<-this,if_pos j];exact⟨l2,fun u=>⟨(a u).1,(a u).2.1,NI (fun id c=>hb id (by simp[c])) (a u).2.2.1,(a u).2.2.2⟩,h⟩
   exact h.elim
  exact h.elim
 ·obtain⟨i,h⟩:=h;refine⟨i,?_⟩
  split at h
  ·rename_i l
   split at h
   ·rename_i j
    obtain⟨l2,a,h⟩:=h;have h3:=h _ _ ⟨rfl,rfl⟩;subst h3;have:=hb _ (List.mem_cons_self ..);rw[l] at this;simp only[<-this,if_pos j];exact⟨l2,fun u=>⟨(a u).1,(a u).2.1,NI (fun id c=>hb id (by simp[c])) (a u).2.2.1,(a u).2.2.2⟩,h⟩
   exact h.elim
  exact h.elim
 exact h.elim
theorem fI {E:Env} {TI:TypeId->Info} {o:Oper} {d:Nat} {e:Operand->AV} {bk Ck:Nat->Option AR} {f:Bz} (hb:∀id∈f.rd,bk id=Ck id) (h:Ch E TI o d e bk (fun g=>g=f)):Ch E TI o d e Ck (fun g=>g=f):=by
 have s:∀{id v:Nat},AY bk id=v->id∈f.rd->AY Ck id=v:=fun a k=>(Hi (hb _ k)).symm.trans a
 have m:∀{id:Nat} {b:AR},bk id=some b->id∈f.rd->Ck id=some b:=fun a k=>(hb _ k).symm.trans a
 unfold Ch at h ⊢;cases I:o.op <;> simp only[I] at h ⊢ <;> (try exact h)
 case nilCheck x=>
  split at h
  ·split at h
   ·rename_i j
    rw[if_pos (s j (by rw[<-h];simp))];exact h
   exact h.elim
  ·exact h
  exact h.elim
 case alloc t=>rw[<-Hi (hb d (by rw[<-h.2];simp))];exact h
 case box t x=>
  split at h
  ·exact h.elim
  ·exact h.elim
  rw[<-Hi (hb d (by rw[<-h];simp))];exact h
 case load t x=>
  simp only[MI] at h ⊢;obtain⟨a,h⟩:=h;refine⟨a,?_⟩
  split at h
  ·split at h
   ·rename_i w
    split at h
    ·rename_i j
     simp only[m w (by rw[<-h];simp),if_pos j];exact h
    exact h.elim
   exact h.elim
  ·exact h
  ·split at h
   ·rename_i w
    split at h
    ·rename_i j
     have h':=h;obtain⟨z,k,h⟩:=h
     split at h
     ·simp only[m w (by rw[<-h];simp),if_pos j];exact h'
     exact h.elim
    exact h.elim
   exact h.elim
  exact h.elim
 case store t p x=>
  obtain⟨a,h⟩:=h;refine⟨a,?_⟩
  split at h
  ·split at h
   ·exact h.elim
   ·exact h.elim
   ·rename_i w F G
    split at h
    ·rename_i j
     rw[m w (by rw[<-h];simp)]
     split
     ·rename_i B;exact (F _ B).elim
     ·rename_i B;exact (G B).elim
     ·rename_i A _ _;cases Option.some.inj A;rw[if_pos j];exact h
     rename_i p q r;first | exact (p _ _ rfl).elim | exact (q _ _ rfl).elim | exact (r _ _ rfl).elim
    exact h.elim
   exact h.elim
  ·split at h
   ·exact h.elim
   ·exact h.elim
   ·rename_i w F G
    split at h
    ·rename_i j
     have h':=h;obtain⟨z,k,h⟩:=h;rw[m w (by rw[<-h _ rfl];simp)]
     split
     ·rename_i B;exact (F _ B).elim
     ·rename_i B;exact (G B).elim
     ·rename_i A _ _;cases Option.some.inj A;rw[if_pos j];exact h'
     rename_i p q r;first | exact (p _ _ _ rfl).elim | exact (q _ _ _ rfl).elim | exact (r _ _ _ rfl).elim
    exact h.elim
   exact h.elim
  exact h.elim
 case fieldAddr t x i=>
  obtain⟨a,h⟩:=h;refine⟨a,?_⟩
  split at h
  ·split at h
   ·rename_i j;rw[if_pos (s j (by rw[<-h];simp))];exact h
   exact h.elim
  ·exact h
  ·split at h
   ·rename_i j;rw[if_pos (s j (by rw[<-h];simp))];exact h
   exact h.elim
  exact h.elim
 case buildSlice t n ps=>
  obtain⟨a,k,xs,h3,h | h⟩:=h
  ·rw[<-Hi (hb d (by rw[<-h];simp))];exact⟨a,k,xs,h3,.inl h⟩
  exact⟨a,k,xs,h3,.inr h⟩
 case makeSlice t x y=>
  obtain⟨a,h⟩:=h;refine⟨a,?_⟩
  split at h
  ·rw[<-Hi (hb d (by rw[<-h.2 _ _ ⟨rfl,rfl⟩];simp))];exact h
  exact h.elim
 case indexAddr t x i=>
  obtain⟨a,h⟩:=h;refine⟨a,?_⟩
  split at h
  ·exact h
  ·obtain⟨k,h⟩:=h
   split at h
   ·rename_i j;exact⟨k,by rw[if_pos (s j (by rw[<-h.2 _ rfl];simp))];exact h⟩
   exact h.elim
  exact h.elim
 case slice t x lo hi mx=>exact⟨h.1,fO hb h.2⟩
 case call c=>
  cases hc:c.callee with
  | builtin b=>
   simp only[hc] at h ⊢;rcases Jp.1 h with h |⟨u,h⟩
   ·exact Jp.2 (.inl (Vc hb h))
   obtain⟨g,a,k⟩:=L0 (fun t l C=>absurd (QK u h) (by rw[C];exact (by decide:¬(1=2)))) h;obtain⟨t,id,v,n,l,J,_,_,H,D⟩:=TN k;have h3:=Vc (Ck:=Ck) (f:=g) (fun i hi=>hb i (by rw[<-H];exact hi)) (a _ rfl);obtain⟨g2,k1,k2⟩:=L0 (fun t l C=>absurd (QK u h) (by rw[C];exact (by decide:¬(1=2)))) h3;subst k2;exact Jp.2 (.inr ⟨u,k1 _ (D _ H)⟩)
  | value g=>
   simp only[hc] at h ⊢
   split at h
   ·exact eo hb h
   exact h.elim
  | invoke _ _=>simp only[hc] at h
end
end Go.Abs
