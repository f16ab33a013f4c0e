/- Part 7 of a proof. Conditions: each theorem's own. -/
import Derived.Test.YtoonaidhfikkeaaGreatPk05
set_option linter.all false
set_option maxHeartbeats 8000000
namespace Go.Abs
open Go.RowKit
section
variable {P:Program} {TI:TypeId->Info}
theorem IG {w0:World} {X:WX} {β:Nat->Option Nat} {s:St} {a:Act} {w:World} (S:Av w0 X β s a w) {J:Nat->Prop} (k:∀b,(cx X w β (AD s.bk)).I b->J b):
  ∀{l m:List AV} {j:List Value},(∀id b,id∈BT l->live (AD s.bk) id->β id=some b->b<w.heap.size->J b)->Ed (DG (AD s.bk)) l m->AO (Au (cx X w β (AD s.bk))) l j->AO (Au (CT w J)) m j
 | [],[],[],_,_,_=>trivial
 | .one c::_,.one d::_,_::_,i,g,r=>⟨Or.inr (Ss S k (fun id b f=>i id b (by simp[BT,f])) g.1 (A0 r.1 (by intro e;subst e;exact g.1.elim))),IG S k (fun id b f=>i id b (by simp[BT,f])) g.2 r.2⟩
 | .agg c::_,.agg d::_,_::_,i,g,r=>by
  obtain⟨arr,e,n⟩:=r.1;refine⟨⟨arr,e,?_⟩,IG S k (fun id b f=>i id b (by rw[BT];exact List.mem_append_right _ f)) g.2 r.2⟩;exact all (fun id b f=>i id b (by rw[BT];exact List.mem_append_left _ f)) g.1 n
 |[],_::_,_,_,g,_|_::_,[],_,_,g,_=>g.elim
 |.one _::_,.agg _::_,_,_,g,_|.one _::_,.AF _::_,_,_,g,_|.agg _::_,.one _::_,_,_,g,_|.agg _::_,.AF _::_,_,_,g,_|.AF _::_,.one _::_,_,_,g,_|.AF _::_,.agg _::_,_,_,g,_|.AF _::_,.AF _::_,_,_,g,_=>g.1.elim
 |[],[],_::_,_,_,r|.one _::_,.one _::_,[],_,_,r|.agg _::_,.agg _::_,[],_,_,r=>r.elim
where
 all:∀{l m:List AC} {j:List Value},(∀id b,id∈l.flatMap BY->live (AD s.bk) id->β id=some b->b<w.heap.size->J b)->Ac (DG (AD s.bk)) l m->AO (Ae (cx X w β (AD s.bk))) l j->AO (Ae (CT w J)) m j
  | [],[],[],_,_,_=>trivial
  | _::_,_::_,_::_,i,h,r=>⟨Ss S k (fun id b f=>i id b (by rw[List.flatMap_cons];exact List.mem_append_left _ f)) h.1 r.1,all (fun id b f=>i id b (by rw[List.flatMap_cons];exact List.mem_append_right _ f)) h.2 r.2⟩
  |[],_::_,_,_,h,_|_::_,[],_,_,h,_=>h.elim
  |[],[],_::_,_,_,r|_::_,_::_,[],_,_,r=>r.elim
theorem MO {x y:Cx} {lo:Nat} {bo:Option Nat} {d v:Nat} (h:∀b,x.I b->y.I b/\y.w.heap[b]? =x.w.heap[b]?) (hw:y.w=x.w) (a:v<=y.cv d) (f:v=y.cv d->y.β d=bo):∀{c:AC} {u:Value},BU c=true->B7 x lo bo c u->Ae y (Dj d v c) u
 | .own t l n,u,_,⟨j,base,cap,e,p,g,_,i⟩=>by
  subst e;refine⟨⟨rfl,a⟩,fun k=>⟨base,cap,by rw[j],by omega,g,by simp,?_⟩⟩;rcases i with⟨_,_,rfl⟩ |⟨b,arr,e,rfl,_,rfl,m,o,_⟩
  ·exact .inl rfl
  exact .inr ⟨b,arr,e,f k,by simp,by rw[hw];exact m,by simpa using o⟩
 |.BB,_,_,r|.int _ _,_,_,r|.bool _,_,_,r|.fn _,_,_,r|.nil,_,_,r=>r
 | .sl _ _,_,_,r=>Bo h _ _ _ r
 |.AM _ _ _ _ _,_,e,_|.CI _ _ _ _ _,_,e,_|.Am _ _ _,_,e,_|.B3 _ _ _ _ _,_,e,_|.CU _ _ _,_,e,_|.ub _,_,e,_=>by simp[BU,Ai] at e
theorem AO.MN {x y:Cx} {lo:Nat} {bo:Option Nat} {d v:Nat} (h:∀b,x.I b->y.I b/\y.w.heap[b]? =x.w.heap[b]?) (hw:y.w=x.w) (a:v<=y.cv d) (c:v=y.cv d->y.β d=bo):
  ∀{cs:List AC} {us:List Value},cs.all BU=true->AO (B7 x lo bo) cs us->AO (Ae y) (cs.map (Dj d v)) us
 | [],[],_,_=>trivial
 | _::_,_::_,e,r=>by simp only[List.all_cons,Bool.and_eq_true] at e;exact⟨MO h hw a c e.1 r.1,AO.MN h hw a c e.2 r.2⟩
 |[],_::_,_,r|_::_,[],_,r=>r.elim
theorem Wx {x y:Cx} {lo:Nat} {bo:Option Nat} {d v:Nat} (h:∀b,x.I b->y.I b/\y.w.heap[b]? =x.w.heap[b]?) (hw:y.w=x.w) (a:v<=y.cv d) (i:v=y.cv d->y.β d=bo) {r:AV} {u:Value} (o:r.all BU=true) (f:Ea x lo bo r u):
  Au y (GD d v r) u:=by
 cases r with
 | one c=>
  rcases f with rfl | f
  ·exact Or.inl rfl
  exact Or.inr (MO h hw a i o f)
 | agg cs=>obtain⟨arr,e,f⟩:=f;exact⟨arr,e,AO.MN h hw a i o f⟩
 | AF xs=>
  obtain⟨arr,e,f⟩:=f;refine⟨arr,e,?_⟩
  have key:∀(xs:List (Bool×List AC)) (us:List Value),(xs.all fun x=>x.2.all BU)=true->AO (fun z q=>D8 x lo bo (CJ z) q) xs us->AO (fun z q=>Cc y (CJ z) q) (xs.map fun x=>(x.1,x.2.map (Dj d v))) us:=by
   intro xs
   induction xs with
   | nil=>intro us _ k;cases us <;> first | trivial | exact k.elim
   | cons z xs s=>
    intro us l k;cases us with
    | nil=>exact k.elim
    | cons q us=>
     simp only[List.all_cons,Bool.and_eq_true] at l;refine⟨?_,s us l.2 k.2⟩;obtain⟨g,cs⟩:=z;have m:=k.1;cases g with
     | true=>obtain⟨j,e',p⟩:=m;exact⟨j,e',AO.MN h hw a i l.1 p⟩
     | false=>
      cases cs with
      | nil=>exact Or.inl rfl
      | cons c cs=>
       simp only[List.all_cons,Bool.and_eq_true] at l;rcases m with n | m
       ·have n:c= .BB:=n;subst n;exact Or.inl rfl
       exact Or.inr (MO h hw a i l.1.1 m)
  exact key xs arr.toList o f
theorem Is {x:Cx} {lo:Nat} {bo:Option Nat} (d v:Nat):∀{cs:List AC} {us:List Value},AO (B7 x lo bo) cs us->Ca d v cs=[]\/∃t l u,Ca d v cs=[(d,.arr v t l)]/\OwnAt x lo bo t l u
 | [],[],_=> .inl rfl
 | c::cs,u::us,h=>by
  have a:=Is d v h.2;cases c with
  | own t l n=>exact .inr ⟨t,l,u,rfl,h.1.2⟩
  | _=>exact a
 |[],_::_,h|_::_,[],h=>h.elim
theorem Ka (d v:Nat):∀(cs a:List AC),Ca d v (cs++a)=match Ca d v cs with | []=>Ca d v a | x=>x
 | [],_=>by simp[Ca]
 | c::cs,a=>by
  have:=Ka d v cs a;cases c <;> simp[Ca,this]
theorem Rh {x:Cx} {lo:Nat} {bo:Option Nat} (d v:Nat) {r:AV} {u:Value} (m:r.wf=true) (b:Ea x lo bo r u):Fp d v r=[]\/∃t l f,Fp d v r=[(d,.arr v t l)]/\OwnAt x lo bo t l f:=by
 cases r with
 | one c=>
  rcases b with rfl | b
  ·exact .inl rfl
  exact Is d v (cs:=[c]) (us:=[u]) ⟨b,trivial⟩
 | agg cs=>obtain⟨arr,e,b⟩:=b;exact Is d v b
 | AF xs=>
  obtain⟨arr,e,b⟩:=b
  show Ca d v _=[]\/_
  have key:∀(xs:List (Bool×List AC)) (us:List Value),AO (fun z q=>D8 x lo bo (CJ z) q) xs us->(∀z∈xs,z.1=false->z.2.length<=1)->Ca d v (xs.flatMap (·.2))=[]\/∃t l f,Ca d v (xs.flatMap (·.2))=[(d,.arr v t l)]/\OwnAt x lo bo t l f:=by
   intro xs
   induction xs with
   | nil=>intro us _ _;exact .inl rfl
   | cons z xs A=>
    intro us j h;cases us with
    | nil=>exact j.elim
    | cons q us=>
     have p:=A us j.2 (fun B n=>h B (by simp[n]))
     have a:Ca d v z.2=[]\/∃t l f,Ca d v z.2=[(d,.arr v t l)]/\OwnAt x lo bo t l f:=by
      obtain⟨g,cs⟩:=z;have a:=j.1;cases g with
      | true=>obtain⟨o,e',k⟩:=a;exact Is d v k
      | false=>
       have y:=h (false,cs) (by simp) rfl
       match cs,y with
       | [],_=>exact .inl rfl
       | [c],_=>
        rcases a with i | a
        ·have i:c= .BB:=i;subst i;exact .inl rfl
        exact Is d v (cs:=[c]) (us:=[q]) ⟨a,trivial⟩
     rw[List.flatMap_cons,Ka];rcases a with a |⟨t,l,f,a,s⟩
     ·rw[a];exact p
     rw[a];exact .inr ⟨t,l,f,rfl,s⟩
  refine key xs arr.toList b fun z h w=>?_
  have:=List.all_eq_true.1 m z h;simpa [w] using this
theorem Kb {d v:Nat}:∀{cs:List AC},Ca d v cs=[]->cs.all BU=true->cs.all Ai=true/\cs.map (Dj d v)=cs
 | [],_,_=>⟨rfl,rfl⟩
 | c::cs,h,a=>by
  simp only[List.all_cons,Bool.and_eq_true] at a;cases c with
  | own t l n=>simp[Ca] at h
  |AM _ _ _ _ _|CI _ _ _ _ _|Am _ _ _|B3 _ _ _ _ _|CU _ _ _|ub _=>exact absurd a.1 (by simp[BU,Ai])
  | _=>obtain⟨b,f⟩:=Kb (cs:=cs) h a.2;exact⟨by simp[b,Ai],by simp[Dj,f]⟩
theorem NK {x y:Cx} {lo:Nat} {bo:Option Nat} (h:∀b,x.I b->y.I b/\y.w.heap[b]? =x.w.heap[b]?):∀{c:AC} {u:Value},Ai c=true->B7 x lo bo c u->Ae y c u
 |.BB,_,_,r|.int _ _,_,_,r|.bool _,_,_,r|.fn _,_,_,r|.nil,_,_,r=>r
 | .sl _ _,_,_,r=>Bo h _ _ _ r
 |.AM _ _ _ _ _,_,e,_|.CI _ _ _ _ _,_,e,_|.Am _ _ _,_,e,_|.B3 _ _ _ _ _,_,e,_|.CU _ _ _,_,e,_|.ub _,_,e,_|.own _ _ _,_,e,_=>by simp[Ai] at e
theorem AO.NJ {x y:Cx} {lo:Nat} {bo:Option Nat} (h:∀b,x.I b->y.I b/\y.w.heap[b]? =x.w.heap[b]?):∀{cs:List AC} {us:List Value},cs.all Ai=true->AO (B7 x lo bo) cs us->AO (Ae y) cs us
 | [],[],_,_=>trivial
 | _::_,_::_,e,r=>by simp only[List.all_cons,Bool.and_eq_true] at e;exact⟨NK h e.1 r.1,AO.NJ h e.2 r.2⟩
 |[],_::_,_,r|_::_,[],_,r=>r.elim
theorem YO {d v:Nat} {cs a:List AC} (h:Ca d v (cs++a)=[]):Ca d v cs=[]/\Ca d v a=[]:=by
 rw[Ka] at h
 split at h
 ·rename_i e;exact⟨e,h⟩
 rename_i e;exact absurd h e
theorem QW {x y:Cx} {lo:Nat} {bo:Option Nat} {d v:Nat} {r:AV} {u:Value} (l:Fp d v r=[]) (m:r.all BU=true/\r.wf=true) (h:∀b,x.I b->y.I b/\y.w.heap[b]? =x.w.heap[b]?) (i:Ea x lo bo r u):Au y (GD d v r) u:=by
 cases r with
 | one c=>
  obtain⟨f,a⟩:=Kb (cs:=[c]) l (by simpa [AV.all] using m.1);have a:Dj d v c=c:=by simpa using a
  show Au y (.one (Dj d v c)) u
  rw[a];exact i.imp (fun q=>q) (NK h (by simpa using f))
 | agg cs=>
  obtain⟨arr,e,i⟩:=i;obtain⟨f,a⟩:=Kb l m.1;refine⟨arr,e,?_⟩;rw[a];exact AO.NJ h f i
 | AF xs=>
  obtain⟨arr,e,i⟩:=i;refine⟨arr,e,?_⟩
  have key:∀(xs:List (Bool×List AC)) (us:List Value),Ca d v (xs.flatMap (·.2))=[]->(xs.all fun x=>x.2.all BU)=true->AO (fun z q=>D8 x lo bo (CJ z) q) xs us->AO (fun z q=>Cc y (CJ z) q) (xs.map fun x=>(x.1,x.2.map (Dj d v))) us:=by
   intro xs
   induction xs with
   | nil=>intro us _ _ k;cases us <;> first | trivial | exact k.elim
   | cons z xs t=>
    intro us s o k;cases us with
    | nil=>exact k.elim
    | cons q us=>
     simp only[List.all_cons,Bool.and_eq_true] at o;rw[List.flatMap_cons] at s;obtain⟨A,B⟩:=YO s;refine⟨?_,t us B o.2 k.2⟩;obtain⟨f,a⟩:=Kb A o.1;obtain⟨g,cs⟩:=z;have p:=k.1;simp only at a
     show Cc y (CJ (g,cs.map (Dj d v))) q
     rw[a];cases g with
     | true=>obtain⟨j,e',n⟩:=p;exact⟨j,e',AO.NJ h f n⟩
     | false=>
      cases cs with
      | nil=>exact Or.inl rfl
      | cons c cs=>
       simp only[List.all_cons,Bool.and_eq_true] at f;exact p.imp (fun q=>q) (NK h f.1)
  exact key xs arr.toList l m.1 i
theorem Mh {X:WX} {w:World} {β:Nat->Option Nat} {bk:Nat->Option AH} {I:Nat->Prop} {id vv:Nat} (a:vv=AN bk id):∀{c:AC} {v:Value},Kj c=some (id,vv)->Ae (cx X w β bk) c v->Ae (BZ w (β id) I) (Ft 0 0 c) v
 | .AM t i b off len,_,h,r=>by
  simp only[Kj,Option.some.injEq,Prod.mk.injEq] at h;obtain⟨rfl,rfl⟩:=h;exact⟨⟨r.1.1,Nat.le_refl _⟩,fun _=>r.2 a⟩
 | .Am i b off,_,h,r=>by
  simp only[Kj,Option.some.injEq,Prod.mk.injEq] at h;obtain⟨rfl,rfl⟩:=h;exact⟨⟨r.1.1,Nat.le_refl _⟩,fun _=>r.2 a⟩
 |.BB,_,h,_|.int _ _,_,h,_|.bool _,_,h,_|.fn _,_,h,_|.nil,_,h,_|.sl _ _,_,h,_|.CI _ _ _ _ _,_,h,_|.B3 _ _ _ _ _,_,h,_|.CU _ _ _,_,h,_|.ub _,_,h,_|.own _ _ _,_,h,_=>by cases h
theorem Qu {X:WX} {w:World} {β:Nat->Option Nat} {bk:Nat->Option AH} {id:Nat} {J:Nat->Prop} (f:∀b,(cx X w β bk).I b->J b/\w.heap[b]? =w.heap[b]?):∀{b:AH},(b.Cz 0).lone=true->B5 (cx X w β bk) id b->B5 (BZ w (β id) J) 0 (b.Cz 0)
 | .dead _,h,_=>by simp[AH.Cz,AH.lone] at h
 | .var _ cs,h,⟨b,arr,e,a,c,d⟩=>⟨b,arr,e,a,c,AO.pure (x:=cx X w β bk) (y:=BZ w (β id) J) f (by simpa [AH.Cz,AH.lone] using h) d⟩
 | .arr _ t l,_,h=>h.imp (fun q=>q) fun⟨b,arr,e,a,c,d⟩=>⟨b,arr,e,a,c,fun i y g=>by
  obtain⟨us,j,k⟩:=d i y g;exact⟨us,Bo (w':=w) f _ _ _ j,k⟩⟩
theorem Km {w w':World} {I f:Nat->Prop}:∀(t:T) (x:el t) (d:List Value),t.flat=true->rep w I t x d->rep w' f t x d
 |.u8,_,_,_,c|.u32,_,_,_,c|.u64,_,_,_,c|.i8,_,_,_,c|.i64,_,_,_,c|.bool,_,_,_,c=>c
 | .sl t,_,_,h,_=>by simp[T.flat] at h
 | .pr a b,x,_,h,⟨v1,v2,e,g,i⟩=>by
  simp only[T.flat,Bool.and_eq_true] at h;exact⟨v1,v2,e,Km a x.1 v1 h.1 g,Km b x.2 v2 h.2 i⟩
theorem aA {X:WX} {w':World} {β:Nat->Option Nat} {BX:Nat->Option AH} {ob:Option Nat} {J:Nat->Prop} {id vv:Nat} (a:ob=β id):∀{b:AH},Jy b=true->B5 (BZ w' ob J) 0 b->B5 (cx X w' β BX) id (b.Cz vv)
 |.dead _,h,_|.var v cs,h,_=>by simp[Jy] at h
 | .arr _ t l,g,h=>h.imp (fun q=>⟨(show β id=none by rw[<-a];exact q.1),q.2⟩) fun⟨b,arr,e,c,d,f⟩=>⟨b,arr,e,(show β id=some b by rw[<-a];exact c),d,fun i y j=>by
  obtain⟨us,k,m⟩:=f i y j;exact⟨us,Km _ _ _ g k,m⟩⟩
theorem Ns {X:WX} {w':World} {β:Nat->Option Nat} {BX:Nat->Option AH} {ob:Option Nat} {J:Nat->Prop} {id vv:Nat} (a:ob=β id) (b:vv=AN BX id):
  ∀{c:AC} {u:Value},BH c=true->Ae (BZ w' ob J) c u->Ae (cx X w' β BX) (Ft id vv c) u
 | .AM t i v off len,_,h,r=>by
  match i,v,h,r with
  | 0,0,_,r=>exact⟨⟨r.1.1,Nat.le_of_eq b⟩,fun _=>by have:=r.2 rfl;show E9 w' (β id) _ _ _ _ _;rw[<-a];exact this⟩
  |0,_+1,h,_|_+1,_,h,_=>simp[BH] at h
 |.int _ _,_,_,r|.bool _,_,_,r|.fn _,_,_,r|.nil,_,_,r=>r
 |.CI _ _ _ _ _,_,h,_|.Am _ _ _,_,h,_|.BB,_,h,_|.sl _ _,_,h,_|.B3 _ _ _ _ _,_,h,_|.CU _ _ _,_,h,_|.ub _,_,h,_|.own _ _ _,_,h,_=>by simp[BH] at h
theorem AO.Nr {X:WX} {w':World} {β:Nat->Option Nat} {BX:Nat->Option AH} {ob:Option Nat} {J:Nat->Prop} {id vv:Nat} (a:ob=β id) (b:vv=AN BX id):
  ∀{cs:List AC} {us:List Value},cs.all BH=true->AO (Ae (BZ w' ob J)) cs us->AO (Ae (cx X w' β BX)) (cs.map (Ft id vv)) us
 | [],[],_,_=>trivial
 | _::_,_::_,e,r=>by simp only[List.all_cons,Bool.and_eq_true] at e;exact⟨Ns a b e.1 r.1,AO.Nr a b e.2 r.2⟩
 |[],_::_,_,r|_::_,[],_,r=>r.elim
theorem aB {X:WX} {w':World} {β:Nat->Option Nat} {BX:Nat->Option AH} {ob:Option Nat} {J:Nat->Prop} {id vv:Nat} (b:ob=β id) (k:vv=AN BX id) {r:AV} {u:Value}
  (h:r.all BH=true) (a:Au (BZ w' ob J) r u):Au (cx X w' β BX) (R6 id vv r) u:=by
 cases r with
 | one c=>
  rcases a with rfl | a
  ·exact Or.inl rfl
  exact Or.inr (Ns b k h a)
 | agg cs=>obtain⟨arr,e,a⟩:=a;exact⟨arr,e,AO.Nr b k h a⟩
 | AF xs=>
  obtain⟨arr,e,a⟩:=a;refine⟨arr,e,?_⟩
  have key:∀(xs:List (Bool×List AC)) (us:List Value),(xs.all fun x=>x.2.all BH)=true->AO (fun z q=>Cc (BZ w' ob J) (CJ z) q) xs us->AO (fun z q=>Cc (cx X w' β BX) (CJ z) q) (xs.map fun x=>(x.1,x.2.map (Ft id vv))) us:=by
   intro xs
   induction xs with
   | nil=>intro us _ f;cases us <;> first | trivial | exact f.elim
   | cons z xs n=>
    intro us i f;cases us with
    | nil=>exact f.elim
    | cons q us=>
     simp only[List.all_cons,Bool.and_eq_true] at i;refine⟨?_,n us i.2 f.2⟩;obtain⟨g,cs⟩:=z;have j:=f.1;cases g with
     | true=>obtain⟨d,e',m⟩:=j;exact⟨d,e',AO.Nr b k i.1 m⟩
     | false=>
      cases cs with
      | nil=>exact Or.inl rfl
      | cons c cs=>
       simp only[List.all_cons,Bool.and_eq_true] at i;rcases j with l | j
       ·have l:c= .BB:=l;subst l;exact Or.inl rfl
       exact Or.inr (Ns b k i.1.1 j)
  exact key xs arr.toList h a
theorem YA {X:WX} {w:World} {β:Nat->Option Nat} {s:St} {d b k:Nat} {bo:Option Nat} {As:AH} {j:Bool} {J:Nat->Prop} (g:d<s.bk.length) (m:(j=false/\J b)\/w.heap.size<=b) (n:bo≠some b)
  (o:∀b,J b->j=false->(cx X w β (AD s.bk)).I b) (c:∀k b,live (AD s.bk) k->β k=some b->b<w.heap.size) (f:live (AD (Al s.bk d (some As))) k) (a:(if k=d then bo else β k)=some b):False:=by
 rw[FL _ _ _ g] at f
 by_cases h:k=d
 ·simp[h] at a;exact n a
 simp only[h,if_false] at f a;rcases m with⟨i,l⟩ | i
 ·exact (o b l i).1.2 k f a
 have:=c k b f a;omega
theorem Sc:∀(l:List (Option AH)) (id:Nat) (b:AH),AD l id=some b->Al l id (some b)=l
 | [],_,_,h=>by simp[AD] at h
 | a::l,0,b,h=>by rw[Al,show a=some b from h]
 | a::l,n+1,b,h=>by rw[Al,Sc l n b h]
theorem Qt {X:WX} {w:World} {β:Nat->Option Nat} {bk:Nat->Option AH} {id v:Nat} (k:v=AN bk id):∀{c d:AC} {u:Value},KG id v c d->Ae (cx X w β bk) c u->Ae (BZ w (β id) (cx X w β bk).I) d u
 |.AM t i j off len,_,_,⟨⟨a,f⟩,g⟩,r|.Am i j off,_,_,⟨⟨a,f⟩,g⟩,r=>by subst a f g;exact Mh (vv:=j) k rfl r
 |.int _ _,_,_,h,r|.bool _,_,_,h,r|.fn _,_,_,h,r=>by rw[show _=_ from h];exact r
 | .sl t l,_,u,h,r=>by
  rw[show _=_ from h];exact Bo (w':=w) (fun b hb=>⟨hb,rfl⟩) (.sl t) l [u] r
 | .nil,_,_,h,r=>by
  rcases h with rfl |⟨t,rfl⟩
  ·exact r
  rw[show _=_ from r];exact⟨none,0,rfl,Nat.le_refl _,by simp,.inl rfl⟩
 |.BB,_,_,h,_|.CI _ _ _ _ _,_,_,h,_|.B3 _ _ _ _ _,_,_,h,_|.CU _ _ _,_,_,h,_|.ub _,_,_,h,_|.own _ _ _,_,_,h,_=>h.elim
theorem O7 {X:WX} {w:World} {β:Nat->Option Nat} {bk:Nat->Option AH} {id v:Nat} (a:v=AN bk id):∀{l m:List AC} {b:List Value},Ac (KG id v) l m->AO (Ae (cx X w β bk)) l b->AO (Ae (BZ w (β id) (cx X w β bk).I)) m b
 | [],[],[],_,_=>trivial
 | _::_,_::_,_::_,h,r=>⟨Qt a h.1 r.1,O7 a h.2 r.2⟩
 |[],_::_,_,h,_|_::_,[],_,h,_=>h.elim
 |[],[],_::_,_,r|_::_,_::_,[],_,r=>r.elim
theorem Lr {X:WX} {w:World} {β:Nat->Option Nat} {bk:Nat->Option AH} {id v:Nat} (a:v=AN bk id):∀{l m:List AV} {b:List Value},Ed (KG id v) l m->AO (Au (cx X w β bk)) l b->AO (Au (BZ w (β id) (cx X w β bk).I)) m b
 | [],[],[],_,_=>trivial
 | .one c::_,.one d::_,_::_,h,r=>⟨.inr (Qt a h.1 (A0 r.1 (by intro e;subst e;exact h.1.elim))),Lr a h.2 r.2⟩
 | .agg c::_,.agg d::_,_::_,h,r=>by
  obtain⟨arr,e,f⟩:=r.1;exact⟨⟨arr,e,O7 a h.1 f⟩,Lr a h.2 r.2⟩
 |[],_::_,_,h,_|_::_,[],_,h,_=>h.elim
 |.one _::_,.agg _::_,_,h,_|.one _::_,.AF _::_,_,h,_|.agg _::_,.one _::_,_,h,_|.agg _::_,.AF _::_,_,h,_|.AF _::_,.one _::_,_,h,_|.AF _::_,.agg _::_,_,h,_|.AF _::_,.AF _::_,_,h,_=>h.1.elim
 |[],[],_::_,_,r|.one _::_,.one _::_,[],_,r|.agg _::_,.agg _::_,[],_,r=>r.elim
theorem Z9 {y:Cx} {w':World} {ob:Option Nat} {J:Nat->Prop} {id:Nat} (j:∀k,J k->y.I k) (hw:y.w=w') (a:y.β id=ob):∀{b:AH},(b.Cz 0).lone=true->B5 (BZ w' ob J) 0 (b.Cz 0)->B5 y id b
 | .dead _,h,_=>by simp[AH.Cz,AH.lone] at h
 | .var _ cs,h,⟨b,arr,e,c,d,f⟩=>⟨b,arr,e,a.trans c,by rw[hw];exact d,AO.pure (x:=BZ w' ob J) (y:=y) (fun k g=>⟨j k g,by rw[hw];rfl⟩) (by simpa [AH.Cz,AH.lone] using h) f⟩
 | .arr _ t l,_,h=>h.imp (fun q=>⟨a.trans q.1,q.2⟩) fun⟨b,arr,e,c,d,f⟩=>⟨b,arr,e,a.trans c,by rw[hw];exact d,fun i z m=>by
  obtain⟨us,n,o⟩:=f i z m;exact⟨us,Bo (w':=y.w) (fun k g=>⟨j k g,by rw[hw];rfl⟩) _ _ _ n,by rw[hw];exact o⟩⟩
theorem Yd {x y:Cx} (h:∀b,x.I b->y.I b/\y.w.heap[b]? =x.w.heap[b]?) {r:AV} {u:Value} (j:r.all Ai=true) (a:Au x r u):Au y r u:=by
 cases r with
 | one c=>exact a.imp (fun q=>q) (It h j)
 | agg cs=>obtain⟨arr,e,a⟩:=a;exact⟨arr,e,AO.pure h j a⟩
 | AF xs=>
  obtain⟨arr,e,a⟩:=a;refine⟨arr,e,?_⟩
  have key:∀(xs:List (Bool×List AC)) (us:List Value),(xs.all fun x=>x.2.all Ai)=true->AO (fun z q=>Cc x (CJ z) q) xs us->AO (fun z q=>Cc y (CJ z) q) xs us:=by
   intro xs
   induction xs with
   | nil=>intro us _ f;cases us <;> first | trivial | exact f.elim
   | cons z xs m=>
    intro us i f;cases us with
    | nil=>exact f.elim
    | cons q us=>
     simp only[List.all_cons,Bool.and_eq_true] at i;refine⟨?_,m us i.2 f.2⟩;obtain⟨g,cs⟩:=z;have l:=f.1;cases g with
     | true=>obtain⟨d,e',k⟩:=l;exact⟨d,e',AO.pure h i.1 k⟩
     | false=>
      cases cs with
      | nil=>exact Or.inl rfl
      | cons c cs=>
       simp only[List.all_cons,Bool.and_eq_true] at i;exact l.imp (fun q=>q) (It h i.1.1)
  exact key xs arr.toList j a
theorem QV {d v:Nat}:∀{c:AC},Ai c=true->Dj d v c=c
 | .own _ _ _,h=>by simp[Ai] at h
 |.BB,_|.int _ _,_|.bool _,_|.fn _,_|.nil,_|.sl _ _,_|.AM _ _ _ _ _,_|.CI _ _ _ _ _,_|.Am _ _ _,_|.B3 _ _ _ _ _,_|.CU _ _ _,_|.ub _,_=>rfl
theorem Ib {d v:Nat}:∀{cs:List AC},cs.all Ai=true->cs.map (Dj d v)=cs/\Ca d v cs=[]
 | [],_=>⟨rfl,rfl⟩
 | c::cs,h=>by
  simp only[List.all_cons,Bool.and_eq_true] at h;obtain⟨a,b⟩:=Ib (d:=d) (v:=v) h.2;refine⟨by rw[List.map_cons,QV h.1,a],?_⟩;cases c <;> first | exact b | simp[Ai] at h
theorem MP {d v:Nat}:∀{xs:List (Bool×List AC)},(xs.all fun x=>x.2.all Ai)=true->(xs.map fun x=>(x.1,x.2.map (Dj d v)))=xs/\Ca d v (xs.flatMap (·.2))=[]
 | [],_=>⟨rfl,rfl⟩
 | x::xs,h=>by
  simp only[List.all_cons,Bool.and_eq_true] at h;obtain⟨a,b⟩:=MP (d:=d) (v:=v) h.2;obtain⟨c,f⟩:=Ib (d:=d) (v:=v) h.1;exact⟨by rw[List.map_cons,c,a],by rw[List.flatMap_cons,Ka,f];exact b⟩
theorem QX {d v:Nat} {r:AV} (h:r.all Ai=true):GD d v r=r/\Fp d v r=[]:=by
 cases r with
 | one c=>exact⟨congrArg AV.one (QV h),(Ib (cs:=[c]) (by simpa [AV.all] using h)).2⟩
 | agg cs=>exact⟨congrArg AV.agg (Ib h).1,(Ib h).2⟩
 | AF xs=>exact⟨congrArg AV.AF (MP h).1,(MP h).2⟩
theorem ZI (o:Oper) {c:Call} {x:Operand} (ho:o.op= .call c) (hc:c.callee= .value x):Sound P (env P) TI o:=by
 intro w0 X β s a w S f h N Q hN;simp only[BS,ho,hc] at h;have hx:=Br S.BV x;have B:=Ls (Br S.BV) c.args.toList;have hU:c.args.map a.eval=(c.args.toList.map a.eval).toArray:=Array.ext' (by simp);have al:∀b,(cx X w β (AD s.bk)).I b->b<w.heap.size:=fun b hb=>hb.1.1
 have Y:∀b o,w.heap[b]? =some o->b<w.heap.size:=fun b o h=>by
  rcases Nat.lt_or_ge b w.heap.size with h' | h'
  ·exact h'
  simp[Array.getElem?_eq_none h'] at h
 have R:∀k b,live (AD s.bk) k->β k=some b->b<w.heap.size:=fun k b ⟨ag,D,hl⟩ hb=>by
  have r:=S.blocks k ag D;cases ag with
  | dead _=>simp[AH.live] at hl
  | var _ _=>obtain⟨b',arr,e,L,U,_⟩:=r;obtain rfl:b=b':=Option.some.inj (hb.symm.trans L);exact Y b _ U
  | arr _ _ _=>
   rcases r with⟨L,_⟩ |⟨b',arr,e,L,U,_⟩
   ·exact absurd (hb.symm.trans L) (by simp)
   obtain rfl:b=b':=Option.some.inj (hb.symm.trans L);exact Y b _ U
 split at h
 case h_2=>exact h.elim
 rename_i g he
 rw[he] at hx;have af:a.eval x= .func (.func g) #[] #[]:=A0 hx (by simp)
 have after:∀(fl:Bool) (r:AV) (rd:List Nat) (J:Nat->Prop),(∀b,J b->fl=false->(cx X w β (AD s.bk)).I b)->Callee P g->(r.all BU=true/\r.wf=true)->
   Calls P g (c.args.map a.eval) w (fun e w'=>∃u bo,e= .returned u/\Below w.heap.size w w'/\Ea (CT w' fun b=>((fl=false/\J b)\/w.heap.size<=b)/\b<w'.heap.size/\bo≠some b) w.heap.size bo r u)->
   f=⟨GD (Aw o) (AN (AD s.bk) (Aw o)+1) r,Fp (Aw o) (AN (AD s.bk) (Aw o)+1) r,rd⟩->o.wp P a w N Q:=by
  intro fl r rd J hJ z H n hf;have hA:∀b,((fl=false/\J b)\/w.heap.size<=b)->X.A b:=fun b hb=>hb.elim (fun q=>(hJ b q.2 q.1).2) fun q=>S.fresh b (Nat.le_trans S.size q)
  subst hf;refine LD ho hc af z n fun e w' ⟨u,bo,he,hb,hr⟩=>⟨u,he,?_⟩
  have F:∀b,b<w.heap.size->w'.heap[b]? =w.heap[b]? :=hb.block
  by_cases C:Aw o<s.bk.length
  ·rcases Rh (Aw o) (AN (AD s.bk) (Aw o)+1) H.2 hr with h0 |⟨t,l,u',h0,L⟩
   ·rw[h0] at hN
    have aC:∀{y:Cx},y.w=w'->(∀b,(CT w' fun b=>((fl=false/\J b)\/w.heap.size<=b)/\b<w'.heap.size/\bo≠some b).I b->y.I b)->Au y (GD (Aw o) (AN (AD s.bk) (Aw o)+1) r) u:=by
     intro y hw hI;exact QW h0 H (fun b hb=>⟨hI b hb,by rw[hw];rfl⟩) hr
    refine hN β _ w' (S.ext F hb.size hb.os hb.tape hb.output (aC rfl fun b m=>⟨⟨m.2.1,fun k D aa=>?_⟩,hA b m.1⟩));rcases m.1 with⟨e1,e2⟩ | e1
    ·exact (hJ b e2 e1).1.2 k D aa
    have:=R k b D aa;omega
   rw[h0] at hN;obtain⟨base,cap,e,k1,k2,ay,k3⟩:=L
   have ak:∀b,(((fl=false/\J b)\/w.heap.size<=b)/\b<w'.heap.size/\bo≠some b)->
     (cx X w' (fun k=>if k=Aw o then bo else β k) (AD (Al s.bk (Aw o) (some (.arr (AN (AD s.bk) (Aw o)+1) t l))))).I b/\w'.heap[b]? =w'.heap[b]? :=
    fun b m=>⟨⟨⟨m.2.1,fun k D aa=>YA C m.1 m.2.2 hJ R D aa⟩,hA b m.1⟩,rfl⟩
   refine hN (fun k=>if k=Aw o then bo else β k) _ w' (S.write C ay (fun k D=>by simp[D]) (by simp[AH.AN]) (fun e=>by simp[AH.AN] at e) (fun b m _=>F b m) hb.size
    (fun b arr e O=>⟨arr,(F b (Y b _ O)).trans O,rfl⟩) hb.os hb.tape hb.output (fun _ b m=> .inr ?_) (fun hle=>?_) (fun hle=>?_))
   ·simp at m;rcases k3 with⟨W,_⟩ |⟨b',arr,e',W,q2,_⟩
    ·rw[W] at m;cases m
    rw[W] at m;obtain rfl:=Option.some.inj m;exact q2
   ·rcases k3 with⟨W,q2,_⟩ |⟨b',arr,e',W,q2,q3,q4,q5,q6⟩
    ·exact Or.inl ⟨by show (if Aw o=Aw o then _ else _)=_;simp[W],q2⟩
    refine Or.inr ⟨b',arr,e',by show (if Aw o=Aw o then _ else _)=_;simp[W],q4,fun i y hy=>?_⟩;obtain⟨us,p1,p2⟩:=q6 i y hy;exact⟨us,Bo (w':=w') ak _ _ _ p1,p2⟩
   refine Wx (x:=CT w' fun b=>((fl=false/\J b)\/w.heap.size<=b)/\b<w'.heap.size/\bo≠some b) (lo:=w.heap.size) (bo:=bo) ak rfl ?_ ?_ H.1 hr
   ·show _<=AN _ (Aw o);rw[Dt _ _ _ C,if_pos rfl];simp[AH.AN]
   intro _;show (if Aw o=Aw o then _ else _)=_;simp
  have G:s.bk.length<=Aw o:=Nat.le_of_not_lt C
  have aF:s.app o.dst ⟨GD (Aw o) (AN (AD s.bk) (Aw o)+1) r,Fp (Aw o) (AN (AD s.bk) (Aw o)+1) r,rd⟩=s.app none ⟨.one .BB,[],rd⟩:=by
   have e1:∀v,Dn s.sl o.dst v=s.sl:=fun v=>by
    cases hd:o.dst with
    | none=>rfl
    | some q=>simp[Aw,hd] at G;simp[Dn,Fw s.sl q v (by rw[S.len,<-S.Fi];exact G)]
   have e2:By (Fp (Aw o) (AN (AD s.bk) (Aw o)+1) r) s.bk=s.bk:=by
    rcases Rh (Aw o) (AN (AD s.bk) (Aw o)+1) H.2 hr with h0 |⟨t,l,u',h0,_⟩
    ·rw[h0];rfl
    rw[h0];simp[By,Fw _ _ _ G]
   simp only[St.app,e1,e2];rfl
  have ha:a.put o.dst u=a.put none undef:=by
   cases hd:o.dst with
   | none=>rfl
   | some q=>
    simp[Aw,hd] at G;have:a.tmps.size<=q:=by rw[<-S.Fi];exact G
    simp[Act.put,Array.setIfInBounds_eq_of_size_le this]
  rw[ha];exact hN β _ w' (by rw[aF];exact S.ext F hb.size hb.os hb.tape hb.output (GW _ _))
 rcases h with⟨K,r,L,U,h⟩ |⟨K,r,L,U,h⟩ | h |⟨id,As,K,r,L,U,h⟩ |⟨id,As,K,r,L,U,h⟩
 ·obtain⟨z,H,M⟩:=U ();have:=M w (cx X w β (AD s.bk)).I (c.args.toList.map a.eval) al (Lq (x:=cx X w β (AD s.bk)) (y:=CT w (cx X w β (AD s.bk)).I) (fun b hb=>⟨hb,rfl⟩) (L ()) B);exact after false r _ _ (fun b hb _=>hb) z H (by rw[hU];exact this) h.symm
 ·obtain⟨z,H,M⟩:=U ();have:=M w (fun b=>b<w.heap.size) (c.args.toList.map a.eval) (fun b hb=>hb) (IG S (fun b hb=>hb.1.1) (fun _ _ _ _ _ h=>h) (L ()) B);exact after true r _ (fun b=>b<w.heap.size) (fun b _ e=>by cases e) z H (by rw[hU];exact this) h.symm
 ·generalize hA:c.args.toList.map (ev s.sl)=A at h B
  generalize hV:c.args.toList.map a.eval=V at B hU
  split at h
  case h_2=>exact h.elim
  rename_i c0 rest
  split at h
  case h_2=>exact h.elim
  rename_i id vv aq
  split at h
  case h_2=>exact h.elim
  rename_i As hb
  split at h
  case isFalse=>exact h.elim
  rename_i ar
  obtain⟨K,r,b1,L,U,h⟩:=h;obtain⟨az,L⟩:=L ();obtain⟨U,av,ax⟩:=U ();obtain⟨z,⟨aI,aJ,aw,aK⟩,M⟩:=U
  match V,B with
  | v0::vs,⟨aD,aE⟩=>
  have aH:vv=AN (AD s.bk) id:=by rw[Db hb];exact ar.symm
  have C:id<s.bk.length:=by
   rcases Nat.lt_or_ge id s.bk.length with G | G
   ·exact G
   rw[GK _ _ G] at hb;cases hb
  have p:live (AD s.bk) id:=by
   refine⟨As,hb,?_⟩;cases As <;> simp_all [AH.live,AH.lone,AH.Cz]
  have a8:∀b,(cx X w β (AD s.bk)).I b->(b<w.heap.size/\β id≠some b)/\w.heap[b]? =w.heap[b]? :=fun b hb=>⟨⟨hb.1.1,hb.1.2 id p⟩,rfl⟩
  have au:Ae (BZ w (β id) fun b=>b<w.heap.size/\β id≠some b) (Ft 0 0 c0) v0:=Mh aH aq (A0 aD (by intro e;subst e;cases aq));have ai:B5 (BZ w (β id) fun b=>b<w.heap.size/\β id≠some b) 0 (As.Cz 0):=Qu a8 aw (S.blocks id As hb)
  have n:=M w (fun b=>b<w.heap.size/\β id≠some b) (β id) v0 vs (fun b hb=>hb) au ai (by have:=S.lens id As hb;cases As <;> simpa [AH.short,AH.Cz] using this)
   (IG S (fun b hb=>(a8 b hb).1) (fun Z b a2 ab m a6=>⟨a6,fun e=>az (S.inj Z id b ab p m e ▸ a2)⟩) L aE)
  subst h;rw[<-hU] at n;refine LD ho hc af z n fun e w' O=>?_
  obtain⟨u,he,⟨p1,p2,p3,p4,p5⟩,p6,p7,p8,p9⟩:=O;refine⟨u,he,?_⟩;have ah:(b1.Cz vv).AN=vv:=by cases b1 <;> rfl
  refine hN β _ w' (S.write C (by cases b1 <;> simpa [AH.short,AH.Cz] using p9) (fun _ _=>rfl) (by rw[ah];omega) (fun _=>⟨rfl,fun _=>p⟩) (fun b m aj=>p5 b m (aj p)) p4 (fun b arr e O=>?_) p1 p2 p3 (fun _ b m=> .inl ⟨m,p⟩) (fun _=>?_) (fun _=>?_))
  ·by_cases a1:β id=some b
   ·exact p6 b arr e a1 O
   exact⟨arr,(p5 b (Y b _ O) a1).trans O,rfl⟩
  ·exact aA rfl av p8
  refine aB rfl ?_ ax p7
  show vv=AN _ id
  rw[Dt _ _ _ C,if_pos rfl,ah]
 ·obtain⟨hb,hle⟩:=L ();obtain⟨z,⟨hp,a5⟩,M⟩:=U ()
  have C:id<s.bk.length:=by
   rcases Nat.lt_or_ge id s.bk.length with G | G
   ·exact G
   rw[GK _ _ G] at hb;cases hb
  have p:live (AD s.bk) id:=by
   refine⟨As,hb,?_⟩;cases As <;> simp_all [AH.live,AH.lone,AH.Cz]
  have ae:As.AN=AN (AD s.bk) id:=(Db hb).symm;have a8:∀b,(cx X w β (AD s.bk)).I b->(cx X w β (AD s.bk)).I b/\w.heap[b]? =w.heap[b]? :=fun b hb=>⟨hb,rfl⟩
  have ai:B5 (BZ w (β id) (cx X w β (AD s.bk)).I) 0 (As.Cz 0):=Qu a8 a5 (S.blocks id As hb)
  have n:=M w (cx X w β (AD s.bk)).I (β id) (c.args.toList.map a.eval) (fun b hb=>⟨hb.1.1,fun e=>hb.1.2 id p e⟩) ai
   (by have:=S.lens id As hb;cases As <;> simpa [AH.short,AH.Cz] using this) (Lr ae hle B)
  subst h
  have heq:s.app o.dst ⟨r,[],[id]⟩=s.app o.dst ⟨r,[(id,As)],[id]⟩:=by
   unfold St.app;simp only[By,Sc _ _ _ hb]
  rw[heq] at hN;rw[<-hU] at n;refine LD ho hc af z n fun e w' O=>?_
  obtain⟨u,he,⟨p1,p2,p3,p4,p5⟩,p6,p7,p8⟩:=O;refine⟨u,he,?_⟩
  have hJ:∀k,(((cx X w β (AD s.bk)).I k\/w.heap.size<=k)/\k<w'.heap.size/\β id≠some k)->(cx X w' β (AD (Al s.bk id (some As)))).I k:=fun k D=>by
   have a7:∀j,live (AD (Al s.bk id (some As))) j->live (AD s.bk) j:=fun j hj=>by
    rw[FL _ _ _ C] at hj
    by_cases h:j=id
    ·subst h;exact p
    rw[if_neg h] at hj;exact hj
   rcases D.1 with h | h
   ·exact⟨⟨D.2.1,fun j hj=>h.1.2 j (a7 j hj)⟩,h.2⟩
   refine⟨⟨D.2.1,fun j hj e=>?_⟩,S.fresh k (Nat.le_trans S.size h)⟩;have:=R j k (a7 j hj) e;omega
  refine hN β _ w' (S.write C (S.lens id As hb) (fun _ _=>rfl) (Nat.le_of_eq ae.symm) (fun _=>⟨rfl,fun _=>p⟩) (fun b m aj=>p5 b m (aj p)) p4 (fun b arr e O=>?_) p1 p2 p3 (fun _ b m=> .inl ⟨m,p⟩) (fun _=>?_) (fun _=>?_))
  ·by_cases a1:β id=some b
   ·exact p6 b arr e a1 O
   exact⟨arr,(p5 b (Y b _ O) a1).trans O,rfl⟩
  ·exact Z9 hJ rfl rfl a5 p8
  exact Yd (x:=BZ w' (β id) fun k=>((cx X w β (AD s.bk)).I k\/w.heap.size<=k)/\k<w'.heap.size/\β id≠some k) (y:=cx X w' β (AD (Al s.bk id (some As)))) (fun k D=>⟨hJ k D,rfl⟩) hp p7
 obtain⟨⟨h0,hb,an⟩,aG⟩:=L ();obtain⟨⟨z,H,M⟩,ao⟩:=U ()
 have C:id<s.bk.length:=by
  rcases Nat.lt_or_ge id s.bk.length with G | G
  ·exact G
  rw[GK _ _ G] at hb;cases hb
 have ae:As.AN=AN (AD s.bk) id:=(Db hb).symm
 have ad:∀k,live (AD (Al s.bk id (some (.dead As.AN)))) k->k≠id/\live (AD s.bk) k:=fun k D=>by
  rw[FL _ _ _ C] at D
  by_cases h:k=id
  ·rw[if_pos h] at D;cases D
  rw[if_neg h] at D;exact⟨h,D⟩
 have n:=M w (cx X w β (AD (Al s.bk id (some (.dead As.AN))))).I (c.args.toList.map a.eval) (fun b m=>m.1.1)
  (IG S (fun b m=>⟨⟨m.1.1,fun k D=>m.1.2 k (ad k D).2⟩,m.2⟩) (fun Z b a2 ab m a6=>by
   have e:Z=id:=by simpa using List.all_eq_true.1 an Z a2
   subst e;refine⟨⟨a6,fun k D e=>(ad k D).1 (S.inj k Z b (ad k D).2 ab e m)⟩,?_⟩;rcases S.own Z b ab m with G | G
   ·exact S.fresh b G
   exact absurd G.2 h0) aG B)
 subst h;rw[<-hU] at n;refine LD ho hc af z n fun e w' O=>?_
 obtain⟨u,bo,he,T,hr⟩:=O;refine⟨u,he,?_⟩;have F:∀b,b<w.heap.size->w'.heap[b]? =w.heap[b]? :=T.block
 refine hN β _ w' (S.write C trivial (fun _ _=>rfl) (Nat.le_of_eq ae.symm) (fun _=>⟨rfl,fun e=>by cases e⟩) (fun b m _=>F b m) T.size (fun b arr e O=>⟨arr,(F b (Y b _ O)).trans O,rfl⟩) T.os T.tape T.output
  (fun e=>by cases e) (fun _=>trivial) (fun _=>?_))
 have hJ:∀b,(((false=false/\(cx X w β (AD (Al s.bk id (some (.dead As.AN))))).I b)\/w.heap.size<=b)/\b<w'.heap.size/\bo≠some b)->(cx X w' β (AD (Al s.bk id (some (.dead As.AN))))).I b/\w'.heap[b]? =w'.heap[b]? :=fun b m=>by
  obtain⟨W,q2,_⟩:=m;rcases W with⟨_,W⟩ | W
  ·exact⟨⟨⟨q2,W.1.2⟩,W.2⟩,rfl⟩
  refine⟨⟨⟨q2,fun k D e=>?_⟩,S.fresh b (Nat.le_trans S.size W)⟩,rfl⟩;have:=R k b (ad k D).2 e;omega
 have hg:=QW (x:=CT w' fun b=>((false=false/\(cx X w β (AD (Al s.bk id (some (.dead As.AN))))).I b)\/w.heap.size<=b)/\b<w'.heap.size/\bo≠some b) (y:=cx X w' β (AD (Al s.bk id (some (.dead As.AN))))) (QX (d:=0) (v:=0) ao).2 H hJ hr;rw[(QX (d:=0) (v:=0) ao).1] at hg;exact hg
end
end Go.Abs
