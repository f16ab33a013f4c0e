/- Part 7 of a proof. Conditions: each theorem's own. -/
import Derived.Test.YtjpiilcgomggaaaGreatPk05
set_option linter.all false
set_option maxHeartbeats 8000000
namespace Go.Abs
open Go.RowKit
section
variable {P:Program} {TI:TypeId->Info}
theorem IG {w0:World} {X:WX} {β:Nat->Option Nat} {s:St} {a:Act} {w:World} (S:Aw w0 X β s a w) {J:Nat->Prop} (k:∀b,(cx X w β (AD s.bk)).I b->J b):
  ∀{l m:List AV} {j:List Value},(∀id b,id∈BQ l->live (AD s.bk) id->β id=some b->b<w.heap.size->J b)->Ed (DF (AD s.bk)) l m->AO (At (cx X w β (AD s.bk))) l j->AO (At (CM w J)) m j
 | [],[],[],_,_,_=>trivial
 | .one c::_,.one d::_,_::_,i,g,r=>⟨Or.inr (Sp S k (fun id b f=>i id b (by simp[BQ,f])) g.1 (A0 r.1 (by intro e;subst e;exact g.1.elim))),IG S k (fun id b f=>i id b (by simp[BQ,f])) g.2 r.2⟩
 | .agg c::_,.agg d::_,_::_,i,g,r=>by
  obtain⟨arr,e,n⟩:=r.1;refine⟨⟨arr,e,?_⟩,IG S k (fun id b f=>i id b (by rw[BQ];exact List.mem_append_right _ f)) g.2 r.2⟩;exact all (fun id b f=>i id b (by rw[BQ];exact List.mem_append_left _ f)) g.1 n
 |[],_::_,_,_,g,_|_::_,[],_,_,g,_=>g.elim
 |.one _::_,.agg _::_,_,_,g,_|.one _::_,.AG _::_,_,_,g,_|.agg _::_,.one _::_,_,_,g,_|.agg _::_,.AG _::_,_,_,g,_|.AG _::_,.one _::_,_,_,g,_|.AG _::_,.agg _::_,_,_,g,_|.AG _::_,.AG _::_,_,_,g,_=>g.1.elim
 |[],[],_::_,_,_,r|.one _::_,.one _::_,[],_,_,r|.agg _::_,.agg _::_,[],_,_,r=>r.elim
where
 all:∀{l m:List AC} {j:List Value},(∀id b,id∈l.flatMap BV->live (AD s.bk) id->β id=some b->b<w.heap.size->J b)->Ae (DF (AD s.bk)) l m->AO (Af (cx X w β (AD s.bk))) l j->AO (Af (CM w J)) m j
  | [],[],[],_,_,_=>trivial
  | _::_,_::_,_::_,i,h,r=>⟨Sp S k (fun id b f=>i id b (by rw[List.flatMap_cons];exact List.mem_append_left _ f)) h.1 r.1,all (fun id b f=>i id b (by rw[List.flatMap_cons];exact List.mem_append_right _ f)) h.2 r.2⟩
  |[],_::_,_,_,h,_|_::_,[],_,_,h,_=>h.elim
  |[],[],_::_,_,_,r|_::_,_::_,[],_,_,r=>r.elim
theorem ML {x y:Cx} {lo:Nat} {bo:Option Nat} {d v:Nat} (h:∀b,x.I b->y.I b/\y.w.heap[b]? =x.w.heap[b]?) (hw:y.w=x.w) (a:v<=y.cv d) (f:v=y.cv d->y.β d=bo):∀{c:AC} {u:Value},BR c=true->By x lo bo c u->Af y (Df d v c) u
 | .own t l n,u,_,⟨j,base,cap,e,p,g,_,i⟩=>by
  subst e;refine⟨⟨rfl,a⟩,fun k=>⟨base,cap,by rw[j],by omega,g,by simp,?_⟩⟩;rcases i with⟨_,_,rfl⟩ |⟨b,arr,e,rfl,_,rfl,m,o,_⟩
  ·exact .inl rfl
  exact .inr ⟨b,arr,e,f k,by simp,by rw[hw];exact m,by simpa using o⟩
 |.A4,_,_,r|.int _ _,_,_,r|.bool _,_,_,r|.fn _,_,_,r|.nil,_,_,r=>r
 | .sl _ _,_,_,r=>Bi h _ _ _ r
 |.AL _ _ _ _ _,_,e,_|.CD _ _ _ _ _,_,e,_|.An _ _ _,_,e,_|.Bv _ _ _ _ _,_,e,_|.CN _ _ _,_,e,_|.ub _,_,e,_=>by simp[BR,Ah] at e
theorem AO.MK {x y:Cx} {lo:Nat} {bo:Option Nat} {d v:Nat} (h:∀b,x.I b->y.I b/\y.w.heap[b]? =x.w.heap[b]?) (hw:y.w=x.w) (a:v<=y.cv d) (c:v=y.cv d->y.β d=bo):
  ∀{cs:List AC} {us:List Value},cs.all BR=true->AO (By x lo bo) cs us->AO (Af y) (cs.map (Df d v)) us
 | [],[],_,_=>trivial
 | _::_,_::_,e,r=>by simp only[List.all_cons,Bool.and_eq_true] at e;exact⟨ML h hw a c e.1 r.1,AO.MK h hw a c e.2 r.2⟩
 |[],_::_,_,r|_::_,[],_,r=>r.elim
theorem Wy {x y:Cx} {lo:Nat} {bo:Option Nat} {d v:Nat} (h:∀b,x.I b->y.I b/\y.w.heap[b]? =x.w.heap[b]?) (hw:y.w=x.w) (a:v<=y.cv d) (i:v=y.cv d->y.β d=bo) {r:AV} {u:Value} (o:r.all BR=true) (f:Ea x lo bo r u):
  At y (GC d v r) u:=by
 cases r with
 | one c=>
  rcases f with rfl | f
  ·exact Or.inl rfl
  exact Or.inr (ML h hw a i o f)
 | agg cs=>obtain⟨arr,e,f⟩:=f;exact⟨arr,e,AO.MK h hw a i o f⟩
 | AG xs=>
  obtain⟨arr,e,f⟩:=f;refine⟨arr,e,?_⟩
  have key:∀(xs:List (Bool×List AC)) (us:List Value),(xs.all fun x=>x.2.all BR)=true->AO (fun z q=>D4 x lo bo (CE z) q) xs us->AO (fun z q=>CX y (CE z) q) (xs.map fun x=>(x.1,x.2.map (Df d v))) us:=by
   intro xs
   induction xs with
   | nil=>intro us _ k;cases us <;> first | trivial | exact k.elim
   | cons z xs s=>
    intro us l k;cases us with
    | nil=>exact k.elim
    | cons q us=>
     simp only[List.all_cons,Bool.and_eq_true] at l;refine⟨?_,s us l.2 k.2⟩;obtain⟨g,cs⟩:=z;have m:=k.1;cases g with
     | true=>obtain⟨j,e',p⟩:=m;exact⟨j,e',AO.MK h hw a i l.1 p⟩
     | false=>
      cases cs with
      | nil=>exact Or.inl rfl
      | cons c cs=>
       simp only[List.all_cons,Bool.and_eq_true] at l;rcases m with n | m
       ·have n:c= .A4:=n;subst n;exact Or.inl rfl
       exact Or.inr (ML h hw a i l.1.1 m)
  exact key xs arr.toList o f
theorem Iq {x:Cx} {lo:Nat} {bo:Option Nat} (d v:Nat):∀{cs:List AC} {us:List Value},AO (By x lo bo) cs us->CV d v cs=[]\/∃t l u,CV d v cs=[(d,.arr v t l)]/\OwnAt x lo bo t l u
 | [],[],_=> .inl rfl
 | c::cs,u::us,h=>by
  have a:=Iq d v h.2;cases c with
  | own t l n=>exact .inr ⟨t,l,u,rfl,h.1.2⟩
  | _=>exact a
 |[],_::_,h|_::_,[],h=>h.elim
theorem Kc (d v:Nat):∀(cs a:List AC),CV d v (cs++a)=match CV d v cs with | []=>CV d v a | x=>x
 | [],_=>by simp[CV]
 | c::cs,a=>by
  have:=Kc d v cs a;cases c <;> simp[CV,this]
theorem Rg {x:Cx} {lo:Nat} {bo:Option Nat} (d v:Nat) {r:AV} {u:Value} (m:r.wf=true) (b:Ea x lo bo r u):Fh d v r=[]\/∃t l f,Fh d v r=[(d,.arr v t l)]/\OwnAt x lo bo t l f:=by
 cases r with
 | one c=>
  rcases b with rfl | b
  ·exact .inl rfl
  exact Iq d v (cs:=[c]) (us:=[u]) ⟨b,trivial⟩
 | agg cs=>obtain⟨arr,e,b⟩:=b;exact Iq d v b
 | AG xs=>
  obtain⟨arr,e,b⟩:=b
  show CV d v _=[]\/_
  have key:∀(xs:List (Bool×List AC)) (us:List Value),AO (fun z q=>D4 x lo bo (CE z) q) xs us->(∀z∈xs,z.1=false->z.2.length<=1)->CV d v (xs.flatMap (·.2))=[]\/∃t l f,CV d v (xs.flatMap (·.2))=[(d,.arr v t l)]/\OwnAt x lo bo t l f:=by
   intro xs
   induction xs with
   | nil=>intro us _ _;exact .inl rfl
   | cons z xs A=>
    intro us j h;cases us with
    | nil=>exact j.elim
    | cons q us=>
     have p:=A us j.2 (fun B n=>h B (by simp[n]))
     have a:CV d v z.2=[]\/∃t l f,CV d v z.2=[(d,.arr v t l)]/\OwnAt x lo bo t l f:=by
      obtain⟨g,cs⟩:=z;have a:=j.1;cases g with
      | true=>obtain⟨o,e',k⟩:=a;exact Iq d v k
      | false=>
       have y:=h (false,cs) (by simp) rfl
       match cs,y with
       | [],_=>exact .inl rfl
       | [c],_=>
        rcases a with i | a
        ·have i:c= .A4:=i;subst i;exact .inl rfl
        exact Iq d v (cs:=[c]) (us:=[q]) ⟨a,trivial⟩
     rw[List.flatMap_cons,Kc];rcases a with a |⟨t,l,f,a,s⟩
     ·rw[a];exact p
     rw[a];exact .inr ⟨t,l,f,rfl,s⟩
  refine key xs arr.toList b fun z h w=>?_
  have:=List.all_eq_true.1 m z h;simpa [w] using this
theorem Kd {d v:Nat}:∀{cs:List AC},CV d v cs=[]->cs.all BR=true->cs.all Ah=true/\cs.map (Df d v)=cs
 | [],_,_=>⟨rfl,rfl⟩
 | c::cs,h,a=>by
  simp only[List.all_cons,Bool.and_eq_true] at a;cases c with
  | own t l n=>simp[CV] at h
  |AL _ _ _ _ _|CD _ _ _ _ _|An _ _ _|Bv _ _ _ _ _|CN _ _ _|ub _=>exact absurd a.1 (by simp[BR,Ah])
  | _=>obtain⟨b,f⟩:=Kd (cs:=cs) h a.2;exact⟨by simp[b,Ah],by simp[Df,f]⟩
theorem NG {x y:Cx} {lo:Nat} {bo:Option Nat} (h:∀b,x.I b->y.I b/\y.w.heap[b]? =x.w.heap[b]?):∀{c:AC} {u:Value},Ah c=true->By x lo bo c u->Af y c u
 |.A4,_,_,r|.int _ _,_,_,r|.bool _,_,_,r|.fn _,_,_,r|.nil,_,_,r=>r
 | .sl _ _,_,_,r=>Bi h _ _ _ r
 |.AL _ _ _ _ _,_,e,_|.CD _ _ _ _ _,_,e,_|.An _ _ _,_,e,_|.Bv _ _ _ _ _,_,e,_|.CN _ _ _,_,e,_|.ub _,_,e,_|.own _ _ _,_,e,_=>by simp[Ah] at e
theorem AO.NF {x y:Cx} {lo:Nat} {bo:Option Nat} (h:∀b,x.I b->y.I b/\y.w.heap[b]? =x.w.heap[b]?):∀{cs:List AC} {us:List Value},cs.all Ah=true->AO (By x lo bo) cs us->AO (Af y) cs us
 | [],[],_,_=>trivial
 | _::_,_::_,e,r=>by simp only[List.all_cons,Bool.and_eq_true] at e;exact⟨NG h e.1 r.1,AO.NF h e.2 r.2⟩
 |[],_::_,_,r|_::_,[],_,r=>r.elim
theorem YK {d v:Nat} {cs a:List AC} (h:CV d v (cs++a)=[]):CV d v cs=[]/\CV d v a=[]:=by
 rw[Kc] at h
 split at h
 ·rename_i e;exact⟨e,h⟩
 rename_i e;exact absurd h e
theorem QS {x y:Cx} {lo:Nat} {bo:Option Nat} {d v:Nat} {r:AV} {u:Value} (l:Fh d v r=[]) (m:r.all BR=true/\r.wf=true) (h:∀b,x.I b->y.I b/\y.w.heap[b]? =x.w.heap[b]?) (i:Ea x lo bo r u):At y (GC d v r) u:=by
 cases r with
 | one c=>
  obtain⟨f,a⟩:=Kd (cs:=[c]) l (by simpa [AV.all] using m.1);have a:Df d v c=c:=by simpa using a
  show At y (.one (Df d v c)) u
  rw[a];exact i.imp (fun q=>q) (NG h (by simpa using f))
 | agg cs=>
  obtain⟨arr,e,i⟩:=i;obtain⟨f,a⟩:=Kd l m.1;refine⟨arr,e,?_⟩;rw[a];exact AO.NF h f i
 | AG xs=>
  obtain⟨arr,e,i⟩:=i;refine⟨arr,e,?_⟩
  have key:∀(xs:List (Bool×List AC)) (us:List Value),CV d v (xs.flatMap (·.2))=[]->(xs.all fun x=>x.2.all BR)=true->AO (fun z q=>D4 x lo bo (CE z) q) xs us->AO (fun z q=>CX y (CE z) q) (xs.map fun x=>(x.1,x.2.map (Df d v))) us:=by
   intro xs
   induction xs with
   | nil=>intro us _ _ k;cases us <;> first | trivial | exact k.elim
   | cons z xs t=>
    intro us s o k;cases us with
    | nil=>exact k.elim
    | cons q us=>
     simp only[List.all_cons,Bool.and_eq_true] at o;rw[List.flatMap_cons] at s;obtain⟨A,B⟩:=YK s;refine⟨?_,t us B o.2 k.2⟩;obtain⟨f,a⟩:=Kd A o.1;obtain⟨g,cs⟩:=z;have p:=k.1;simp only at a
     show CX y (CE (g,cs.map (Df d v))) q
     rw[a];cases g with
     | true=>obtain⟨j,e',n⟩:=p;exact⟨j,e',AO.NF h f n⟩
     | false=>
      cases cs with
      | nil=>exact Or.inl rfl
      | cons c cs=>
       simp only[List.all_cons,Bool.and_eq_true] at f;exact p.imp (fun q=>q) (NG h f.1)
  exact key xs arr.toList l m.1 i
theorem Qw {X:WX} {w:World} {β:Nat->Option Nat} {bk:Nat->Option AH} {I:Nat->Prop} {id vv:Nat} (a:vv=AM bk id):∀{c:AC} {v:Value},Kk c=some (id,vv)->Af (cx X w β bk) c v->Af (BW w (β id) I) (Fk 0 0 c) v
 | .AL t i b off len,_,h,r=>by
  simp only[Kk,Option.some.injEq,Prod.mk.injEq] at h;obtain⟨rfl,rfl⟩:=h;exact⟨⟨r.1.1,Nat.le_refl _⟩,fun _=>r.2 a⟩
 | .An i b off,_,h,r=>by
  simp only[Kk,Option.some.injEq,Prod.mk.injEq] at h;obtain⟨rfl,rfl⟩:=h;exact⟨⟨r.1.1,Nat.le_refl _⟩,fun _=>r.2 a⟩
 |.A4,_,h,_|.int _ _,_,h,_|.bool _,_,h,_|.fn _,_,h,_|.nil,_,h,_|.sl _ _,_,h,_|.CD _ _ _ _ _,_,h,_|.Bv _ _ _ _ _,_,h,_|.CN _ _ _,_,h,_|.ub _,_,h,_|.own _ _ _,_,h,_=>by cases h
theorem Qv {X:WX} {w:World} {β:Nat->Option Nat} {bk:Nat->Option AH} {id:Nat} {J:Nat->Prop} (f:∀b,(cx X w β bk).I b->J b/\w.heap[b]? =w.heap[b]?):∀{b:AH},(b.C0 0).lone=true->Bx (cx X w β bk) id b->Bx (BW w (β id) J) 0 (b.C0 0)
 | .dead _,h,_=>by simp[AH.C0,AH.lone] at h
 | .var _ cs,h,⟨b,arr,e,a,c,d⟩=>⟨b,arr,e,a,c,AO.pure (x:=cx X w β bk) (y:=BW w (β id) J) f (by simpa [AH.C0,AH.lone] using h) d⟩
 | .arr _ t l,_,h=>h.imp (fun q=>q) fun⟨b,arr,e,a,c,d⟩=>⟨b,arr,e,a,c,fun i y g=>by
  obtain⟨us,j,k⟩:=d i y g;exact⟨us,Bi (w':=w) f _ _ _ j,k⟩⟩
theorem Kn {w w':World} {I f:Nat->Prop}:∀(t:T) (x:el t) (d:List Value),t.flat=true->rep w I t x d->rep w' f t x d
 |.u8,_,_,_,c|.u32,_,_,_,c|.u64,_,_,_,c|.i8,_,_,_,c|.i64,_,_,_,c|.bool,_,_,_,c=>c
 | .sl t,_,_,h,_=>by simp[T.flat] at h
 | .pr a b,x,_,h,⟨v1,v2,e,g,i⟩=>by
  simp only[T.flat,Bool.and_eq_true] at h;exact⟨v1,v2,e,Kn a x.1 v1 h.1 g,Kn b x.2 v2 h.2 i⟩
theorem Z5 {X:WX} {w':World} {β:Nat->Option Nat} {BU:Nat->Option AH} {ob:Option Nat} {J:Nat->Prop} {id vv:Nat} (a:ob=β id):∀{b:AH},J4 b=true->Bx (BW w' ob J) 0 b->Bx (cx X w' β BU) id (b.C0 vv)
 |.dead _,h,_|.var v cs,h,_=>by simp[J4] at h
 | .arr _ t l,g,h=>h.imp (fun q=>⟨(show β id=none by rw[<-a];exact q.1),q.2⟩) fun⟨b,arr,e,c,d,f⟩=>⟨b,arr,e,(show β id=some b by rw[<-a];exact c),d,fun i y j=>by
  obtain⟨us,k,m⟩:=f i y j;exact⟨us,Kn _ _ _ g k,m⟩⟩
theorem Nl {X:WX} {w':World} {β:Nat->Option Nat} {BU:Nat->Option AH} {ob:Option Nat} {J:Nat->Prop} {id vv:Nat} (a:ob=β id) (b:vv=AM BU id):
  ∀{c:AC} {u:Value},BD c=true->Af (BW w' ob J) c u->Af (cx X w' β BU) (Fk id vv c) u
 | .AL t i v off len,_,h,r=>by
  match i,v,h,r with
  | 0,0,_,r=>exact⟨⟨r.1.1,Nat.le_of_eq b⟩,fun _=>by have:=r.2 rfl;show E4 w' (β id) _ _ _ _ _;rw[<-a];exact this⟩
  |0,_+1,h,_|_+1,_,h,_=>simp[BD] at h
 |.int _ _,_,_,r|.bool _,_,_,r|.fn _,_,_,r|.nil,_,_,r=>r
 |.CD _ _ _ _ _,_,h,_|.An _ _ _,_,h,_|.A4,_,h,_|.sl _ _,_,h,_|.Bv _ _ _ _ _,_,h,_|.CN _ _ _,_,h,_|.ub _,_,h,_|.own _ _ _,_,h,_=>by simp[BD] at h
theorem AO.Nk {X:WX} {w':World} {β:Nat->Option Nat} {BU:Nat->Option AH} {ob:Option Nat} {J:Nat->Prop} {id vv:Nat} (a:ob=β id) (b:vv=AM BU id):
  ∀{cs:List AC} {us:List Value},cs.all BD=true->AO (Af (BW w' ob J)) cs us->AO (Af (cx X w' β BU)) (cs.map (Fk id vv)) us
 | [],[],_,_=>trivial
 | _::_,_::_,e,r=>by simp only[List.all_cons,Bool.and_eq_true] at e;exact⟨Nl a b e.1 r.1,AO.Nk a b e.2 r.2⟩
 |[],_::_,_,r|_::_,[],_,r=>r.elim
theorem Z6 {X:WX} {w':World} {β:Nat->Option Nat} {BU:Nat->Option AH} {ob:Option Nat} {J:Nat->Prop} {id vv:Nat} (b:ob=β id) (k:vv=AM BU id) {r:AV} {u:Value}
  (h:r.all BD=true) (a:At (BW w' ob J) r u):At (cx X w' β BU) (Ry id vv r) u:=by
 cases r with
 | one c=>
  rcases a with rfl | a
  ·exact Or.inl rfl
  exact Or.inr (Nl b k h a)
 | agg cs=>obtain⟨arr,e,a⟩:=a;exact⟨arr,e,AO.Nk b k h a⟩
 | AG xs=>
  obtain⟨arr,e,a⟩:=a;refine⟨arr,e,?_⟩
  have key:∀(xs:List (Bool×List AC)) (us:List Value),(xs.all fun x=>x.2.all BD)=true->AO (fun z q=>CX (BW w' ob J) (CE z) q) xs us->AO (fun z q=>CX (cx X w' β BU) (CE z) q) (xs.map fun x=>(x.1,x.2.map (Fk id vv))) us:=by
   intro xs
   induction xs with
   | nil=>intro us _ f;cases us <;> first | trivial | exact f.elim
   | cons z xs n=>
    intro us i f;cases us with
    | nil=>exact f.elim
    | cons q us=>
     simp only[List.all_cons,Bool.and_eq_true] at i;refine⟨?_,n us i.2 f.2⟩;obtain⟨g,cs⟩:=z;have j:=f.1;cases g with
     | true=>obtain⟨d,e',m⟩:=j;exact⟨d,e',AO.Nk b k i.1 m⟩
     | false=>
      cases cs with
      | nil=>exact Or.inl rfl
      | cons c cs=>
       simp only[List.all_cons,Bool.and_eq_true] at i;rcases j with l | j
       ·have l:c= .A4:=l;subst l;exact Or.inl rfl
       exact Or.inr (Nl b k i.1.1 j)
  exact key xs arr.toList h a
theorem X5 {X:WX} {w:World} {β:Nat->Option Nat} {s:St} {d b k:Nat} {bo:Option Nat} {As:AH} {j:Bool} {J:Nat->Prop} (g:d<s.bk.length) (m:(j=false/\J b)\/w.heap.size<=b) (n:bo≠some b)
  (o:∀b,J b->j=false->(cx X w β (AD s.bk)).I b) (c:∀k b,live (AD s.bk) k->β k=some b->b<w.heap.size) (f:live (AD (Aj s.bk d (some As))) k) (a:(if k=d then bo else β k)=some b):False:=by
 rw[FF _ _ _ g] at f
 by_cases h:k=d
 ·simp[h] at a;exact n a
 simp only[h,if_false] at f a;rcases m with⟨i,l⟩ | i
 ·exact (o b l i).1.2 k f a
 have:=c k b f a;omega
theorem SW:∀(l:List (Option AH)) (id:Nat) (b:AH),AD l id=some b->Aj l id (some b)=l
 | [],_,_,h=>by simp[AD] at h
 | a::l,0,b,h=>by rw[Aj,show a=some b from h]
 | a::l,n+1,b,h=>by rw[Aj,SW l n b h]
theorem Qu {X:WX} {w:World} {β:Nat->Option Nat} {bk:Nat->Option AH} {id v:Nat} (k:v=AM bk id):∀{c d:AC} {u:Value},KJ id v c d->Af (cx X w β bk) c u->Af (BW w (β id) (cx X w β bk).I) d u
 | .AL t i m off len,_,_,⟨⟨a,f⟩,g⟩,r=>by subst a f g;exact Qw (vv:=m) k rfl r
 |.int _ _,_,_,h,r|.bool _,_,_,h,r|.fn _,_,_,h,r=>by rw[show _=_ from h];exact r
 | .sl t l,_,u,h,r=>by
  rw[show _=_ from h];exact Bi (w':=w) (fun b j=>⟨j,rfl⟩) (.sl t) l [u] r
 | .nil,_,_,h,r=>by
  rcases h with rfl |⟨t,rfl⟩
  ·exact r
  rw[show _=_ from r];exact⟨none,0,rfl,Nat.le_refl _,by simp,.inl rfl⟩
 |.A4,_,_,h,_|.CD _ _ _ _ _,_,_,h,_|.An _ _ _,_,_,h,_|.Bv _ _ _ _ _,_,_,h,_|.CN _ _ _,_,_,h,_|.ub _,_,_,h,_|.own _ _ _,_,_,h,_=>h.elim
theorem Oy {X:WX} {w:World} {β:Nat->Option Nat} {bk:Nat->Option AH} {id v:Nat} (a:v=AM bk id):∀{l m:List AC} {b:List Value},Ae (KJ id v) l m->AO (Af (cx X w β bk)) l b->AO (Af (BW w (β id) (cx X w β bk).I)) m b
 | [],[],[],_,_=>trivial
 | _::_,_::_,_::_,h,r=>⟨Qu a h.1 r.1,Oy a h.2 r.2⟩
 |[],_::_,_,h,_|_::_,[],_,h,_=>h.elim
 |[],[],_::_,_,r|_::_,_::_,[],_,r=>r.elim
theorem Lp {X:WX} {w:World} {β:Nat->Option Nat} {bk:Nat->Option AH} {id v:Nat} (a:v=AM bk id):∀{l m:List AV} {b:List Value},Ed (KJ id v) l m->AO (At (cx X w β bk)) l b->AO (At (BW w (β id) (cx X w β bk).I)) m b
 | [],[],[],_,_=>trivial
 | .one c::_,.one d::_,_::_,h,r=>⟨.inr (Qu a h.1 (A0 r.1 (by intro e;subst e;exact h.1.elim))),Lp a h.2 r.2⟩
 | .agg c::_,.agg d::_,_::_,h,r=>by
  obtain⟨arr,e,f⟩:=r.1;exact⟨⟨arr,e,Oy a h.1 f⟩,Lp a h.2 r.2⟩
 |[],_::_,_,h,_|_::_,[],_,h,_=>h.elim
 |.one _::_,.agg _::_,_,h,_|.one _::_,.AG _::_,_,h,_|.agg _::_,.one _::_,_,h,_|.agg _::_,.AG _::_,_,h,_|.AG _::_,.one _::_,_,h,_|.AG _::_,.agg _::_,_,h,_|.AG _::_,.AG _::_,_,h,_=>h.1.elim
 |[],[],_::_,_,r|.one _::_,.one _::_,[],_,r|.agg _::_,.agg _::_,[],_,r=>r.elim
theorem Z4 {y:Cx} {w':World} {ob:Option Nat} {J:Nat->Prop} {id:Nat} (j:∀k,J k->y.I k) (hw:y.w=w') (a:y.β id=ob):∀{b:AH},(b.C0 0).lone=true->Bx (BW w' ob J) 0 (b.C0 0)->Bx y id b
 | .dead _,h,_=>by simp[AH.C0,AH.lone] at h
 | .var _ cs,h,⟨b,arr,e,c,d,f⟩=>⟨b,arr,e,a.trans c,by rw[hw];exact d,AO.pure (x:=BW w' ob J) (y:=y) (fun k g=>⟨j k g,by rw[hw];rfl⟩) (by simpa [AH.C0,AH.lone] using h) f⟩
 | .arr _ t l,_,h=>h.imp (fun q=>⟨a.trans q.1,q.2⟩) fun⟨b,arr,e,c,d,f⟩=>⟨b,arr,e,a.trans c,by rw[hw];exact d,fun i z m=>by
  obtain⟨us,n,o⟩:=f i z m;exact⟨us,Bi (w':=y.w) (fun k g=>⟨j k g,by rw[hw];rfl⟩) _ _ _ n,by rw[hw];exact o⟩⟩
theorem YV {x y:Cx} (h:∀b,x.I b->y.I b/\y.w.heap[b]? =x.w.heap[b]?) {r:AV} {u:Value} (j:r.all Ah=true) (a:At x r u):At y r u:=by
 cases r with
 | one c=>exact a.imp (fun q=>q) (Ir h j)
 | agg cs=>obtain⟨arr,e,a⟩:=a;exact⟨arr,e,AO.pure h j a⟩
 | AG xs=>
  obtain⟨arr,e,a⟩:=a;refine⟨arr,e,?_⟩
  have key:∀(xs:List (Bool×List AC)) (us:List Value),(xs.all fun x=>x.2.all Ah)=true->AO (fun z q=>CX x (CE z) q) xs us->AO (fun z q=>CX y (CE z) q) xs us:=by
   intro xs
   induction xs with
   | nil=>intro us _ f;cases us <;> first | trivial | exact f.elim
   | cons z xs m=>
    intro us i f;cases us with
    | nil=>exact f.elim
    | cons q us=>
     simp only[List.all_cons,Bool.and_eq_true] at i;refine⟨?_,m us i.2 f.2⟩;obtain⟨g,cs⟩:=z;have l:=f.1;cases g with
     | true=>obtain⟨d,e',k⟩:=l;exact⟨d,e',AO.pure h i.1 k⟩
     | false=>
      cases cs with
      | nil=>exact Or.inl rfl
      | cons c cs=>
       simp only[List.all_cons,Bool.and_eq_true] at i;exact l.imp (fun q=>q) (Ir h i.1.1)
  exact key xs arr.toList j a
theorem QR {d v:Nat}:∀{c:AC},Ah c=true->Df d v c=c
 | .own _ _ _,h=>by simp[Ah] at h
 |.A4,_|.int _ _,_|.bool _,_|.fn _,_|.nil,_|.sl _ _,_|.AL _ _ _ _ _,_|.CD _ _ _ _ _,_|.An _ _ _,_|.Bv _ _ _ _ _,_|.CN _ _ _,_|.ub _,_=>rfl
theorem IY {d v:Nat}:∀{cs:List AC},cs.all Ah=true->cs.map (Df d v)=cs/\CV d v cs=[]
 | [],_=>⟨rfl,rfl⟩
 | c::cs,h=>by
  simp only[List.all_cons,Bool.and_eq_true] at h;obtain⟨a,b⟩:=IY (d:=d) (v:=v) h.2;refine⟨by rw[List.map_cons,QR h.1,a],?_⟩;cases c <;> first | exact b | simp[Ah] at h
theorem MM {d v:Nat}:∀{xs:List (Bool×List AC)},(xs.all fun x=>x.2.all Ah)=true->(xs.map fun x=>(x.1,x.2.map (Df d v)))=xs/\CV d v (xs.flatMap (·.2))=[]
 | [],_=>⟨rfl,rfl⟩
 | x::xs,h=>by
  simp only[List.all_cons,Bool.and_eq_true] at h;obtain⟨a,b⟩:=MM (d:=d) (v:=v) h.2;obtain⟨c,f⟩:=IY (d:=d) (v:=v) h.1;exact⟨by rw[List.map_cons,c,a],by rw[List.flatMap_cons,Kc,f];exact b⟩
theorem QT {d v:Nat} {r:AV} (h:r.all Ah=true):GC d v r=r/\Fh d v r=[]:=by
 cases r with
 | one c=>exact⟨congrArg AV.one (QR h),(IY (cs:=[c]) (by simpa [AV.all] using h)).2⟩
 | agg cs=>exact⟨congrArg AV.agg (IY h).1,(IY h).2⟩
 | AG xs=>exact⟨congrArg AV.AG (MM h).1,(MM h).2⟩
theorem ZA (o:Oper) {c:Call} {x:Operand} (ho:o.op= .call c) (hc:c.callee= .value x):Sound P (env P) TI o:=by
 intro w0 X β s a w S f h N Q hN;simp only[BP,ho,hc] at h;have hx:=Bm S.BS x;have C:=Lq (Bm S.BS) c.args.toList;have hU:c.args.map a.eval=(c.args.toList.map a.eval).toArray:=Array.ext' (by simp);have an:∀b,(cx X w β (AD s.bk)).I b->b<w.heap.size:=fun b n=>n.1.1
 have Z:∀b o,w.heap[b]? =some o->b<w.heap.size:=fun b o h=>by
  rcases Nat.lt_or_ge b w.heap.size with h' | h'
  ·exact h'
  simp[Array.getElem?_eq_none h'] at h
 have T:∀k b,live (AD s.bk) k->β k=some b->b<w.heap.size:=fun k b ⟨ah,F,hl⟩ n=>by
  have r:=S.blocks k ah F;cases ah with
  | dead _=>simp[AH.live] at hl
  | var _ _=>obtain⟨b',arr,e,M,W,_⟩:=r;obtain rfl:b=b':=Option.some.inj (n.symm.trans M);exact Z b _ W
  | arr _ _ _=>
   rcases r with⟨M,_⟩ |⟨b',arr,e,M,W,_⟩
   ·exact absurd (n.symm.trans M) (by simp)
   obtain rfl:b=b':=Option.some.inj (n.symm.trans M);exact Z b _ W
 split at h
 case h_2=>exact h.elim
 rename_i g he
 rw[he] at hx;have ag:a.eval x= .func (.func g) #[] #[]:=A0 hx (by simp)
 have after:∀(fl:Bool) (r:AV) (rd:List Nat) (J:Nat->Prop),(∀b,J b->fl=false->(cx X w β (AD s.bk)).I b)->Callee P g->(r.all BR=true/\r.wf=true)->
   Calls P g (c.args.map a.eval) w (fun e w'=>∃u bo,e= .returned u/\Below w.heap.size w w'/\Ea (CM w' fun b=>((fl=false/\J b)\/w.heap.size<=b)/\b<w'.heap.size/\bo≠some b) w.heap.size bo r u)->
   f=⟨GC (Ax o) (AM (AD s.bk) (Ax o)+1) r,Fh (Ax o) (AM (AD s.bk) (Ax o)+1) r,rd⟩->o.wp P a w N Q:=by
  intro fl r rd J hJ B K p hf;have hA:∀b,((fl=false/\J b)\/w.heap.size<=b)->X.A b:=fun b n=>n.elim (fun q=>(hJ b q.2 q.1).2) fun q=>S.fresh b (Nat.le_trans S.size q)
  subst hf;refine LH ho hc ag B p fun e w' ⟨u,bo,he,n,hr⟩=>⟨u,he,?_⟩
  have G:∀b,b<w.heap.size->w'.heap[b]? =w.heap[b]? :=n.block
  by_cases D:Ax o<s.bk.length
  ·rcases Rg (Ax o) (AM (AD s.bk) (Ax o)+1) K.2 hr with h0 |⟨t,l,u',h0,M⟩
   ·rw[h0] at hN
    have aB:∀{y:Cx},y.w=w'->(∀b,(CM w' fun b=>((fl=false/\J b)\/w.heap.size<=b)/\b<w'.heap.size/\bo≠some b).I b->y.I b)->At y (GC (Ax o) (AM (AD s.bk) (Ax o)+1) r) u:=by
     intro y hw hI;exact QS h0 K (fun b n=>⟨hI b n,by rw[hw];rfl⟩) hr
    refine hN β _ w' (S.ext G n.size n.os n.tape n.output (aB rfl fun b m=>⟨⟨m.2.1,fun k F ab=>?_⟩,hA b m.1⟩));rcases m.1 with⟨e1,e2⟩ | e1
    ·exact (hJ b e2 e1).1.2 k F ab
    have:=T k b F ab;omega
   rw[h0] at hN;obtain⟨base,cap,e,k1,k2,az,k3⟩:=M
   have al:∀b,(((fl=false/\J b)\/w.heap.size<=b)/\b<w'.heap.size/\bo≠some b)->
     (cx X w' (fun k=>if k=Ax o then bo else β k) (AD (Aj s.bk (Ax o) (some (.arr (AM (AD s.bk) (Ax o)+1) t l))))).I b/\w'.heap[b]? =w'.heap[b]? :=
    fun b m=>⟨⟨⟨m.2.1,fun k F ab=>X5 D m.1 m.2.2 hJ T F ab⟩,hA b m.1⟩,rfl⟩
   refine hN (fun k=>if k=Ax o then bo else β k) _ w' (S.write D az (fun k F=>by simp[F]) (by simp[AH.AM]) (fun e=>by simp[AH.AM] at e) (fun b m _=>G b m) n.size
    (fun b arr e R=>⟨arr,(G b (Z b _ R)).trans R,rfl⟩) n.os n.tape n.output (fun _ b m=> .inr ?_) (fun hle=>?_) (fun hle=>?_))
   ·simp at m;rcases k3 with⟨Y,_⟩ |⟨b',arr,e',Y,q2,_⟩
    ·rw[Y] at m;cases m
    rw[Y] at m;obtain rfl:=Option.some.inj m;exact q2
   ·rcases k3 with⟨Y,q2,_⟩ |⟨b',arr,e',Y,q2,q3,q4,q5,q6⟩
    ·exact Or.inl ⟨by show (if Ax o=Ax o then _ else _)=_;simp[Y],q2⟩
    refine Or.inr ⟨b',arr,e',by show (if Ax o=Ax o then _ else _)=_;simp[Y],q4,fun i y hy=>?_⟩;obtain⟨us,p1,p2⟩:=q6 i y hy;exact⟨us,Bi (w':=w') al _ _ _ p1,p2⟩
   refine Wy (x:=CM w' fun b=>((fl=false/\J b)\/w.heap.size<=b)/\b<w'.heap.size/\bo≠some b) (lo:=w.heap.size) (bo:=bo) al rfl ?_ ?_ K.1 hr
   ·show _<=AM _ (Ax o);rw[Dm _ _ _ D,if_pos rfl];simp[AH.AM]
   intro _;show (if Ax o=Ax o then _ else _)=_;simp
  have H:s.bk.length<=Ax o:=Nat.le_of_not_lt D
  have aE:s.app o.dst ⟨GC (Ax o) (AM (AD s.bk) (Ax o)+1) r,Fh (Ax o) (AM (AD s.bk) (Ax o)+1) r,rd⟩=s.app none ⟨.one .A4,[],rd⟩:=by
   have e1:∀v,Di s.sl o.dst v=s.sl:=fun v=>by
    cases hd:o.dst with
    | none=>rfl
    | some q=>simp[Ax,hd] at H;simp[Di,Fo s.sl q v (by rw[S.len,<-S.Fa];exact H)]
   have e2:Bq (Fh (Ax o) (AM (AD s.bk) (Ax o)+1) r) s.bk=s.bk:=by
    rcases Rg (Ax o) (AM (AD s.bk) (Ax o)+1) K.2 hr with h0 |⟨t,l,u',h0,_⟩
    ·rw[h0];rfl
    rw[h0];simp[Bq,Fo _ _ _ H]
   simp only[St.app,e1,e2];rfl
  have ha:a.put o.dst u=a.put none undef:=by
   cases hd:o.dst with
   | none=>rfl
   | some q=>
    simp[Ax,hd] at H;have:a.tmps.size<=q:=by rw[<-S.Fa];exact H
    simp[Act.put,Array.setIfInBounds_eq_of_size_le this]
  rw[ha];exact hN β _ w' (by rw[aE];exact S.ext G n.size n.os n.tape n.output (GU _ _))
 rcases h with⟨L,r,M,W,h⟩ |⟨L,r,M,W,h⟩ | h |⟨id,As,L,r,M,W,h⟩ |⟨id,As,L,r,M,W,h⟩
 ·obtain⟨B,K,O⟩:=W ();have:=O w (cx X w β (AD s.bk)).I (c.args.toList.map a.eval) an (Lo (x:=cx X w β (AD s.bk)) (y:=CM w (cx X w β (AD s.bk)).I) (fun b n=>⟨n,rfl⟩) (M ()) C);exact after false r _ _ (fun b n _=>n) B K (by rw[hU];exact this) h.symm
 ·obtain⟨B,K,O⟩:=W ();have:=O w (fun b=>b<w.heap.size) (c.args.toList.map a.eval) (fun b n=>n) (IG S (fun b n=>n.1.1) (fun _ _ _ _ _ h=>h) (M ()) C);exact after true r _ (fun b=>b<w.heap.size) (fun b _ e=>by cases e) B K (by rw[hU];exact this) h.symm
 ·generalize hA:c.args.toList.map (ev s.sl)=A at h C
  generalize hV:c.args.toList.map a.eval=V at C hU
  split at h
  case h_2=>exact h.elim
  rename_i c0 rest
  split at h
  case h_2=>exact h.elim
  rename_i id vv ar
  split at h
  case h_2=>exact h.elim
  rename_i As n
  split at h
  case isFalse=>exact h.elim
  rename_i au
  obtain⟨L,r,b1,M,W,h⟩:=h;obtain⟨aA,M⟩:=M ();obtain⟨W,aw,ay⟩:=W ();obtain⟨B,⟨aH,aI,ax,aJ⟩,O⟩:=W
  match V,C with
  | v0::vs,⟨aC,aD⟩=>
  have aG:vv=AM (AD s.bk) id:=by rw[DZ n];exact au.symm
  have D:id<s.bk.length:=by
   rcases Nat.lt_or_ge id s.bk.length with H | H
   ·exact H
   rw[GL _ _ H] at n;cases n
  have z:live (AD s.bk) id:=by
   refine⟨As,n,?_⟩;cases As <;> simp_all [AH.live,AH.lone,AH.C0]
  have aa:∀b,(cx X w β (AD s.bk)).I b->(b<w.heap.size/\β id≠some b)/\w.heap[b]? =w.heap[b]? :=fun b n=>⟨⟨n.1.1,n.1.2 id z⟩,rfl⟩
  have av:Af (BW w (β id) fun b=>b<w.heap.size/\β id≠some b) (Fk 0 0 c0) v0:=Qw aG ar (A0 aC (by intro e;subst e;cases ar));have aj:Bx (BW w (β id) fun b=>b<w.heap.size/\β id≠some b) 0 (As.C0 0):=Qv aa ax (S.blocks id As n)
  have p:=O w (fun b=>b<w.heap.size/\β id≠some b) (β id) v0 vs (fun b n=>n) av aj (by have:=S.lens id As n;cases As <;> simpa [AH.short,AH.C0] using this)
   (IG S (fun b n=>(aa b n).1) (fun a1 b a5 ad m a7=>⟨a7,fun e=>aA (S.inj a1 id b ad z m e ▸ a5)⟩) M aD)
  subst h;rw[<-hU] at p;refine LH ho hc ag B p fun e w' R=>?_
  obtain⟨u,he,⟨p1,p2,p3,p4,p5⟩,p6,p7,p8,p9⟩:=R;refine⟨u,he,?_⟩;have ai:(b1.C0 vv).AM=vv:=by cases b1 <;> rfl
  refine hN β _ w' (S.write D (by cases b1 <;> simpa [AH.short,AH.C0] using p9) (fun _ _=>rfl) (by rw[ai];omega) (fun _=>⟨rfl,fun _=>z⟩) (fun b m ak=>p5 b m (ak z)) p4 (fun b arr e R=>?_) p1 p2 p3 (fun _ b m=> .inl ⟨m,z⟩) (fun _=>?_) (fun _=>?_))
  ·by_cases a2:β id=some b
   ·exact p6 b arr e a2 R
   exact⟨arr,(p5 b (Z b _ R) a2).trans R,rfl⟩
  ·exact Z5 rfl aw p8
  refine Z6 rfl ?_ ay p7
  show vv=AM _ id
  rw[Dm _ _ _ D,if_pos rfl,ai]
 ·obtain⟨n,hle⟩:=M ();obtain⟨B,⟨hp,a6⟩,O⟩:=W ()
  have D:id<s.bk.length:=by
   rcases Nat.lt_or_ge id s.bk.length with H | H
   ·exact H
   rw[GL _ _ H] at n;cases n
  have z:live (AD s.bk) id:=by
   refine⟨As,n,?_⟩;cases As <;> simp_all [AH.live,AH.lone,AH.C0]
  have af:As.AM=AM (AD s.bk) id:=(DZ n).symm;have aa:∀b,(cx X w β (AD s.bk)).I b->(cx X w β (AD s.bk)).I b/\w.heap[b]? =w.heap[b]? :=fun b n=>⟨n,rfl⟩
  have aj:Bx (BW w (β id) (cx X w β (AD s.bk)).I) 0 (As.C0 0):=Qv aa a6 (S.blocks id As n)
  have p:=O w (cx X w β (AD s.bk)).I (β id) (c.args.toList.map a.eval) (fun b n=>⟨n.1.1,fun e=>n.1.2 id z e⟩) aj
   (by have:=S.lens id As n;cases As <;> simpa [AH.short,AH.C0] using this) (Lp af hle C)
  subst h
  have heq:s.app o.dst ⟨r,[],[id]⟩=s.app o.dst ⟨r,[(id,As)],[id]⟩:=by
   unfold St.app;simp only[Bq,SW _ _ _ n]
  rw[heq] at hN;rw[<-hU] at p;refine LH ho hc ag B p fun e w' R=>?_
  obtain⟨u,he,⟨p1,p2,p3,p4,p5⟩,p6,p7,p8⟩:=R;refine⟨u,he,?_⟩
  have hJ:∀k,(((cx X w β (AD s.bk)).I k\/w.heap.size<=k)/\k<w'.heap.size/\β id≠some k)->(cx X w' β (AD (Aj s.bk id (some As)))).I k:=fun k F=>by
   have a8:∀j,live (AD (Aj s.bk id (some As))) j->live (AD s.bk) j:=fun j hj=>by
    rw[FF _ _ _ D] at hj
    by_cases h:j=id
    ·subst h;exact z
    rw[if_neg h] at hj;exact hj
   rcases F.1 with h | h
   ·exact⟨⟨F.2.1,fun j hj=>h.1.2 j (a8 j hj)⟩,h.2⟩
   refine⟨⟨F.2.1,fun j hj e=>?_⟩,S.fresh k (Nat.le_trans S.size h)⟩;have:=T j k (a8 j hj) e;omega
  refine hN β _ w' (S.write D (S.lens id As n) (fun _ _=>rfl) (Nat.le_of_eq af.symm) (fun _=>⟨rfl,fun _=>z⟩) (fun b m ak=>p5 b m (ak z)) p4 (fun b arr e R=>?_) p1 p2 p3 (fun _ b m=> .inl ⟨m,z⟩) (fun _=>?_) (fun _=>?_))
  ·by_cases a2:β id=some b
   ·exact p6 b arr e a2 R
   exact⟨arr,(p5 b (Z b _ R) a2).trans R,rfl⟩
  ·exact Z4 hJ rfl rfl a6 p8
  exact YV (x:=BW w' (β id) fun k=>((cx X w β (AD s.bk)).I k\/w.heap.size<=k)/\k<w'.heap.size/\β id≠some k) (y:=cx X w' β (AD (Aj s.bk id (some As)))) (fun k F=>⟨hJ k F,rfl⟩) hp p7
 obtain⟨⟨h0,n,ao⟩,aF⟩:=M ();obtain⟨⟨B,K,O⟩,aq⟩:=W ()
 have D:id<s.bk.length:=by
  rcases Nat.lt_or_ge id s.bk.length with H | H
  ·exact H
  rw[GL _ _ H] at n;cases n
 have af:As.AM=AM (AD s.bk) id:=(DZ n).symm
 have ae:∀k,live (AD (Aj s.bk id (some (.dead As.AM)))) k->k≠id/\live (AD s.bk) k:=fun k F=>by
  rw[FF _ _ _ D] at F
  by_cases h:k=id
  ·rw[if_pos h] at F;cases F
  rw[if_neg h] at F;exact⟨h,F⟩
 have p:=O w (cx X w β (AD (Aj s.bk id (some (.dead As.AM))))).I (c.args.toList.map a.eval) (fun b m=>m.1.1)
  (IG S (fun b m=>⟨⟨m.1.1,fun k F=>m.1.2 k (ae k F).2⟩,m.2⟩) (fun a1 b a5 ad m a7=>by
   have e:a1=id:=by simpa using List.all_eq_true.1 ao a1 a5
   subst e;refine⟨⟨a7,fun k F e=>(ae k F).1 (S.inj k a1 b (ae k F).2 ad e m)⟩,?_⟩;rcases S.own a1 b ad m with H | H
   ·exact S.fresh b H
   exact absurd H.2 h0) aF C)
 subst h;rw[<-hU] at p;refine LH ho hc ag B p fun e w' R=>?_
 obtain⟨u,bo,he,U,hr⟩:=R;refine⟨u,he,?_⟩;have G:∀b,b<w.heap.size->w'.heap[b]? =w.heap[b]? :=U.block
 refine hN β _ w' (S.write D trivial (fun _ _=>rfl) (Nat.le_of_eq af.symm) (fun _=>⟨rfl,fun e=>by cases e⟩) (fun b m _=>G b m) U.size (fun b arr e R=>⟨arr,(G b (Z b _ R)).trans R,rfl⟩) U.os U.tape U.output
  (fun e=>by cases e) (fun _=>trivial) (fun _=>?_))
 have hJ:∀b,(((false=false/\(cx X w β (AD (Aj s.bk id (some (.dead As.AM))))).I b)\/w.heap.size<=b)/\b<w'.heap.size/\bo≠some b)->(cx X w' β (AD (Aj s.bk id (some (.dead As.AM))))).I b/\w'.heap[b]? =w'.heap[b]? :=fun b m=>by
  obtain⟨Y,q2,_⟩:=m;rcases Y with⟨_,Y⟩ | Y
  ·exact⟨⟨⟨q2,Y.1.2⟩,Y.2⟩,rfl⟩
  refine⟨⟨⟨q2,fun k F e=>?_⟩,S.fresh b (Nat.le_trans S.size Y)⟩,rfl⟩;have:=T k b (ae k F).2 e;omega
 have hg:=QS (x:=CM w' fun b=>((false=false/\(cx X w β (AD (Aj s.bk id (some (.dead As.AM))))).I b)\/w.heap.size<=b)/\b<w'.heap.size/\bo≠some b) (y:=cx X w' β (AD (Aj s.bk id (some (.dead As.AM))))) (QT (d:=0) (v:=0) aq).2 K hJ hr;rw[(QT (d:=0) (v:=0) aq).1] at hg;exact hg
end
end Go.Abs
