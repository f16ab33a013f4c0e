/- Part 5 of a proof. Conditions: each theorem's own. -/
import Derived.Test.YtmhbikooakmagaaGreatPk03
set_option linter.all false
set_option maxHeartbeats 8000000
set_option maxRecDepth 20000
namespace Go.Abs
open Go.RowKit
section
variable {P:Program} {TI:TypeId->Info}
theorem MA {w0:World} {X:WX} {β:Nat->Option Nat} {s:St} {a:Act} {w:World} (S:Bo w0 X β s a w) {J:Nat->Prop} (j:∀b,(cx X w β (AH s.bk)).I b->J b):
  ∀{l m:List AV} {vs:List Value},(∀id b,id∈Cb l->live (AH s.bk) id->β id=some b->b<w.heap.size->J b)->GK (Fh (AH s.bk)) l m->Ai (Bu (cx X w β (AH s.bk))) l vs->Ai (Bu (Dm w J)) m vs
 | [],[],[],_,_,_=>trivial
 | .one c::_,.one d::_,_::_,i,g,r=>⟨Or.inr (Z3 S j (fun id b f=>i id b (by simp[Cb,f])) g.1 (By r.1 (by intro e;subst e;exact g.1.elim))),MA S j (fun id b f=>i id b (by simp[Cb,f])) g.2 r.2⟩
 | .agg c::_,.agg d::_,_::_,i,g,r=>by
  obtain⟨arr,e,k⟩:=r.1;refine⟨⟨arr,e,?_⟩,MA S j (fun id b f=>i id b (by rw[Cb];exact List.mem_append_right _ f)) g.2 r.2⟩;exact all (fun id b f=>i id b (by rw[Cb];exact List.mem_append_left _ f)) g.1 k
 |[],_::_,_,_,g,_|_::_,[],_,_,g,_=>g.elim
 |.one _::_,.agg _::_,_,_,g,_|.one _::_,.AF _::_,_,_,g,_|.agg _::_,.one _::_,_,_,g,_|.agg _::_,.AF _::_,_,_,g,_|.AF _::_,.one _::_,_,_,g,_|.AF _::_,.agg _::_,_,_,g,_|.AF _::_,.AF _::_,_,_,g,_=>g.1.elim
 |[],[],_::_,_,_,r|.one _::_,.one _::_,[],_,_,r|.agg _::_,.agg _::_,[],_,_,r=>r.elim
where
 all:∀{l m:List AC} {vs:List Value},(∀id b,id∈l.flatMap Ci->live (AH s.bk) id->β id=some b->b<w.heap.size->J b)->BV (Fh (AH s.bk)) l m->Ai (BR (cx X w β (AH s.bk))) l vs->Ai (BR (Dm w J)) m vs
  | [],[],[],_,_,_=>trivial
  | _::_,_::_,_::_,i,h,r=>⟨Z3 S j (fun id b f=>i id b (by rw[List.flatMap_cons];exact List.mem_append_left _ f)) h.1 r.1,all (fun id b f=>i id b (by rw[List.flatMap_cons];exact List.mem_append_right _ f)) h.2 r.2⟩
  |[],_::_,_,_,h,_|_::_,[],_,_,h,_=>h.elim
  |[],[],_::_,_,_,r|_::_,_::_,[],_,_,r=>r.elim
theorem Q6 {x y:Cx} {lo:Nat} {bo:Option Nat} {d v:Nat} (h:∀b,x.I b->y.I b/\y.w.heap[b]? =x.w.heap[b]?) (hw:y.w=x.w) (a:v<=y.cv d) (f:v=y.cv d->y.β d=bo):∀{c:AC} {u:Value},CR c=true->DO x lo bo c u->BR y (GQ d v c) u
 | .own t l n,u,_,⟨i,base,cap,e,o,g,_,h3⟩=>by
  subst e;refine⟨⟨rfl,a⟩,fun j=>⟨base,cap,by rw[i],by omega,g,by simp,?_⟩⟩;rcases h3 with⟨_,_,rfl⟩ |⟨b,arr,e,rfl,_,rfl,k,m,_⟩
  ·exact .inl rfl
  exact .inr ⟨b,arr,e,f j,by simp,by rw[hw];exact k,by simpa using m⟩
 |.Bz,_,_,r|.int _ _,_,_,r|.bool _,_,_,r|.fn _,_,_,r|.nil,_,_,r=>r
 | .sl _ _,_,_,r=>C0 h _ _ _ r
 |.AS _ _ _ _ _,_,e,_|.Df _ _ _ _ _,_,e,_|.Ag _ _ _,_,e,_|.DE _ _ _ _ _,_,e,_|.Dp _ _ _,_,e,_|.ub _,_,e,_=>by simp[CR,BZ] at e
theorem Ai.Q5 {x y:Cx} {lo:Nat} {bo:Option Nat} {d v:Nat} (h:∀b,x.I b->y.I b/\y.w.heap[b]? =x.w.heap[b]?) (hw:y.w=x.w) (a:v<=y.cv d) (c:v=y.cv d->y.β d=bo):
  ∀{cs:List AC} {us:List Value},cs.all CR=true->Ai (DO x lo bo) cs us->Ai (BR y) (cs.map (GQ d v)) us
 | [],[],_,_=>trivial
 | _::_,_::_,e,r=>by simp only[List.all_cons,Bool.and_eq_true] at e;exact⟨Q6 h hw a c e.1 r.1,Ai.Q5 h hw a c e.2 r.2⟩
 |[],_::_,_,r|_::_,[],_,r=>r.elim
theorem iA {x y:Cx} {lo:Nat} {bo:Option Nat} {d v:Nat} (h:∀b,x.I b->y.I b/\y.w.heap[b]? =x.w.heap[b]?) (hw:y.w=x.w) (a:v<=y.cv d) (i:v=y.cv d->y.β d=bo) {r:AV} {u:Value} (o:r.all CR=true) (f:HY x lo bo r u):
  Bu y (JO d v r) u:=by
 cases r with
 | one c=>
  rcases f with rfl | f
  ·exact Or.inl rfl
  exact Or.inr (Q6 h hw a i o f)
 | agg cs=>obtain⟨arr,e,f⟩:=f;exact⟨arr,e,Ai.Q5 h hw a i o f⟩
 | AF xs=>
  obtain⟨arr,e,f⟩:=f;refine⟨arr,e,?_⟩
  have key:∀(xs:List (Bool×List AC)) (us:List Value),(xs.all fun x=>x.2.all CR)=true->Ai (fun z q=>Gp x lo bo (Dh z) q) xs us->Ai (fun z q=>Dx y (Dh z) q) (xs.map fun x=>(x.1,x.2.map (GQ d v))) us:=by
   intro xs
   induction xs with
   | nil=>intro us _ k;cases us <;> first | trivial | exact k.elim
   | cons z xs s=>
    intro us l k;cases us with
    | nil=>exact k.elim
    | cons q us=>
     simp only[List.all_cons,Bool.and_eq_true] at l;refine⟨?_,s us l.2 k.2⟩;obtain⟨g,cs⟩:=z;have m:=k.1;cases g with
     | true=>obtain⟨j,e',p⟩:=m;exact⟨j,e',Ai.Q5 h hw a i l.1 p⟩
     | false=>
      cases cs with
      | nil=>exact Or.inl rfl
      | cons c cs=>
       simp only[List.all_cons,Bool.and_eq_true] at l;rcases m with n | m
       ·have n:c= .Bz:=n;subst n;exact Or.inl rfl
       exact Or.inr (Q6 h hw a i l.1.1 m)
  exact key xs arr.toList o f
theorem Mt {x:Cx} {lo:Nat} {bo:Option Nat} (d v:Nat):∀{cs:List AC} {us:List Value},Ai (DO x lo bo) cs us->Du d v cs=[]\/∃t l u,Du d v cs=[(d,.arr v t l)]/\OwnAt x lo bo t l u
 | [],[],_=> .inl rfl
 | c::cs,u::us,h=>by
  have a:=Mt d v h.2;cases c with
  | own t l n=>exact .inr ⟨t,l,u,rfl,h.1.2⟩
  | _=>exact a
 |[],_::_,h|_::_,[],h=>h.elim
theorem O6 (d v:Nat):∀(cs a:List AC),Du d v (cs++a)=match Du d v cs with | []=>Du d v a | x=>x
 | [],_=>by simp[Du]
 | c::cs,a=>by
  have:=O6 d v cs a;cases c <;> simp[Du,this]
theorem Yl {x:Cx} {lo:Nat} {bo:Option Nat} (d v:Nat) {r:AV} {u:Value} (m:r.wf=true) (b:HY x lo bo r u):Iw d v r=[]\/∃t l f,Iw d v r=[(d,.arr v t l)]/\OwnAt x lo bo t l f:=by
 cases r with
 | one c=>
  rcases b with rfl | b
  ·exact .inl rfl
  exact Mt d v (cs:=[c]) (us:=[u]) ⟨b,trivial⟩
 | agg cs=>obtain⟨arr,e,b⟩:=b;exact Mt d v b
 | AF xs=>
  obtain⟨arr,e,b⟩:=b
  show Du d v _=[]\/_
  have key:∀(xs:List (Bool×List AC)) (us:List Value),Ai (fun z q=>Gp x lo bo (Dh z) q) xs us->(∀z∈xs,z.1=false->z.2.length<=1)->Du d v (xs.flatMap (·.2))=[]\/∃t l f,Du d v (xs.flatMap (·.2))=[(d,.arr v t l)]/\OwnAt x lo bo t l f:=by
   intro xs
   induction xs with
   | nil=>intro us _ _;exact .inl rfl
   | cons z xs y=>
    intro us j h;cases us with
    | nil=>exact j.elim
    | cons q us=>
     have p:=y us j.2 (fun z' n=>h z' (by simp[n]))
     have a:Du d v z.2=[]\/∃t l f,Du d v z.2=[(d,.arr v t l)]/\OwnAt x lo bo t l f:=by
      obtain⟨g,cs⟩:=z;have a:=j.1;cases g with
      | true=>obtain⟨o,e',k⟩:=a;exact Mt d v k
      | false=>
       have w:=h (false,cs) (by simp) rfl
       match cs,w with
       | [],_=>exact .inl rfl
       | [c],_=>
        rcases a with i | a
        ·have i:c= .Bz:=i;subst i;exact .inl rfl
        exact Mt d v (cs:=[c]) (us:=[q]) ⟨a,trivial⟩
     rw[List.flatMap_cons,O6];rcases a with a |⟨t,l,f,a,h3⟩
     ·rw[a];exact p
     rw[a];exact .inr ⟨t,l,f,rfl,h3⟩
  refine key xs arr.toList b fun z h s=>?_
  have:=List.all_eq_true.1 m z h;simpa [s] using this
theorem O7 {d v:Nat}:∀{cs:List AC},Du d v cs=[]->cs.all CR=true->cs.all BZ=true/\cs.map (GQ d v)=cs
 | [],_,_=>⟨rfl,rfl⟩
 | c::cs,h,a=>by
  simp only[List.all_cons,Bool.and_eq_true] at a;cases c with
  | own t l n=>simp[Du] at h
  |AS _ _ _ _ _|Df _ _ _ _ _|Ag _ _ _|DE _ _ _ _ _|Dp _ _ _|ub _=>exact absurd a.1 (by simp[CR,BZ])
  | _=>obtain⟨b,f⟩:=O7 (cs:=cs) h a.2;exact⟨by simp[b,BZ],by simp[GQ,f]⟩
theorem Sf {x y:Cx} {lo:Nat} {bo:Option Nat} (h:∀b,x.I b->y.I b/\y.w.heap[b]? =x.w.heap[b]?):∀{c:AC} {u:Value},BZ c=true->DO x lo bo c u->BR y c u
 |.Bz,_,_,r|.int _ _,_,_,r|.bool _,_,_,r|.fn _,_,_,r|.nil,_,_,r=>r
 | .sl _ _,_,_,r=>C0 h _ _ _ r
 |.AS _ _ _ _ _,_,e,_|.Df _ _ _ _ _,_,e,_|.Ag _ _ _,_,e,_|.DE _ _ _ _ _,_,e,_|.Dp _ _ _,_,e,_|.ub _,_,e,_|.own _ _ _,_,e,_=>by simp[BZ] at e
theorem Ai.Se {x y:Cx} {lo:Nat} {bo:Option Nat} (h:∀b,x.I b->y.I b/\y.w.heap[b]? =x.w.heap[b]?):∀{cs:List AC} {us:List Value},cs.all BZ=true->Ai (DO x lo bo) cs us->Ai (BR y) cs us
 | [],[],_,_=>trivial
 | _::_,_::_,e,r=>by simp only[List.all_cons,Bool.and_eq_true] at e;exact⟨Sf h e.1 r.1,Ai.Se h e.2 r.2⟩
 |[],_::_,_,r|_::_,[],_,r=>r.elim
theorem lD {d v:Nat} {cs a:List AC} (h:Du d v (cs++a)=[]):Du d v cs=[]/\Du d v a=[]:=by
 rw[O6] at h
 split at h
 ·rename_i e;exact⟨e,h⟩
 rename_i e;exact absurd h e
theorem W8 {x y:Cx} {lo:Nat} {bo:Option Nat} {d v:Nat} {r:AV} {u:Value} (l:Iw d v r=[]) (m:r.all CR=true/\r.wf=true) (h:∀b,x.I b->y.I b/\y.w.heap[b]? =x.w.heap[b]?) (i:HY x lo bo r u):Bu y (JO d v r) u:=by
 cases r with
 | one c=>
  obtain⟨f,a⟩:=O7 (cs:=[c]) l (by simpa [AV.all] using m.1);have a:GQ d v c=c:=by simpa using a
  show Bu y (.one (GQ d v c)) u
  rw[a];exact i.imp (fun q=>q) (Sf h (by simpa using f))
 | agg cs=>
  obtain⟨arr,e,i⟩:=i;obtain⟨f,a⟩:=O7 l m.1;refine⟨arr,e,?_⟩;rw[a];exact Ai.Se h f i
 | AF xs=>
  obtain⟨arr,e,i⟩:=i;refine⟨arr,e,?_⟩
  have key:∀(xs:List (Bool×List AC)) (us:List Value),Du d v (xs.flatMap (·.2))=[]->(xs.all fun x=>x.2.all CR)=true->Ai (fun z q=>Gp x lo bo (Dh z) q) xs us->Ai (fun z q=>Dx y (Dh z) q) (xs.map fun x=>(x.1,x.2.map (GQ d v))) us:=by
   intro xs
   induction xs with
   | nil=>intro us _ _ k;cases us <;> first | trivial | exact k.elim
   | cons z xs s=>
    intro us p o k;cases us with
    | nil=>exact k.elim
    | cons q us=>
     simp only[List.all_cons,Bool.and_eq_true] at o;rw[List.flatMap_cons] at p;obtain⟨t,A⟩:=lD p;refine⟨?_,s us A o.2 k.2⟩;obtain⟨f,a⟩:=O7 t o.1;obtain⟨g,cs⟩:=z;have h3:=k.1;simp only at a
     show Dx y (Dh (g,cs.map (GQ d v))) q
     rw[a];cases g with
     | true=>obtain⟨j,e',n⟩:=h3;exact⟨j,e',Ai.Se h f n⟩
     | false=>
      cases cs with
      | nil=>exact Or.inl rfl
      | cons c cs=>
       simp only[List.all_cons,Bool.and_eq_true] at f;exact h3.imp (fun q=>q) (Sf h f.1)
  exact key xs arr.toList l m.1 i
theorem RQ {X:WX} {w:World} {β:Nat->Option Nat} {bk:Nat->Option AM} {I:Nat->Prop} {id vv:Nat} (a:vv=AR bk id):∀{c:AC} {v:Value},PE c=some (id,vv)->BR (cx X w β bk) c v->BR (Cj w (β id) I) (Iz 0 0 c) v
 | .AS t i b off len,_,h,r=>by
  simp only[PE,Option.some.injEq,Prod.mk.injEq] at h;obtain⟨rfl,rfl⟩:=h;exact⟨⟨r.1.1,Nat.le_refl _⟩,fun _=>r.2 a⟩
 | .Ag i b off,_,h,r=>by
  simp only[PE,Option.some.injEq,Prod.mk.injEq] at h;obtain⟨rfl,rfl⟩:=h;exact⟨⟨r.1.1,Nat.le_refl _⟩,fun _=>r.2 a⟩
 |.Bz,_,h,_|.int _ _,_,h,_|.bool _,_,h,_|.fn _,_,h,_|.nil,_,h,_|.sl _ _,_,h,_|.Df _ _ _ _ _,_,h,_|.DE _ _ _ _ _,_,h,_|.Dp _ _ _,_,h,_|.ub _,_,h,_|.own _ _ _,_,h,_=>by cases h
theorem Xn {X:WX} {w:World} {β:Nat->Option Nat} {bk:Nat->Option AM} {id:Nat} {J:Nat->Prop} (d:∀b,(cx X w β bk).I b->J b/\w.heap[b]? =w.heap[b]?):∀{b:AM},(b.ES 0).lone=true->DJ (cx X w β bk) id b->DJ (Cj w (β id) J) 0 (b.ES 0)
 | .dead _,h,_=>by simp[AM.ES,AM.lone] at h
 | .var _ cs,h,⟨b,arr,e,a,c,h3⟩=>⟨b,arr,e,a,c,Ai.pure (x:=cx X w β bk) (y:=Cj w (β id) J) d (by simpa [AM.ES,AM.lone] using h) h3⟩
 | .arr _ t l,_,h=>h.imp (fun q=>q) fun⟨b,arr,e,a,c,h3⟩=>⟨b,arr,e,a,c,fun i y f=>by
  obtain⟨us,g,j⟩:=h3 i y f;exact⟨us,C0 (w':=w) d _ _ _ g,j⟩⟩
theorem PH {w w':World} {I d:Nat->Prop}:∀(t:T) (x:el t) (vs:List Value),t.flat=true->rep w I t x vs->rep w' d t x vs
 |.u8,_,_,_,c|.u32,_,_,_,c|.u64,_,_,_,c|.i8,_,_,_,c|.i64,_,_,_,c|.bool,_,_,_,c=>c
 | .sl t,_,_,h,_=>by simp[T.flat] at h
 | .pr a b,x,_,h,⟨v1,v2,e,f,g⟩=>by
  simp only[T.flat,Bool.and_eq_true] at h;exact⟨v1,v2,e,PH a x.1 v1 h.1 f,PH b x.2 v2 h.2 g⟩
theorem oP {X:WX} {w':World} {β:Nat->Option Nat} {Cd:Nat->Option AM} {ob:Option Nat} {J:Nat->Prop} {id vv:Nat} (a:ob=β id):∀{b:AM},OS b=true->DJ (Cj w' ob J) 0 b->DJ (cx X w' β Cd) id (b.ES vv)
 |.dead _,h,_|.var v cs,h,_=>by simp[OS] at h
 | .arr _ t l,f,h=>h.imp (fun q=>⟨(show β id=none by rw[<-a];exact q.1),q.2⟩) fun⟨b,arr,e,c,d,h3⟩=>⟨b,arr,e,(show β id=some b by rw[<-a];exact c),d,fun i y g=>by
  obtain⟨us,j,k⟩:=h3 i y g;exact⟨us,PH _ _ _ f j,k⟩⟩
theorem TS {X:WX} {w':World} {β:Nat->Option Nat} {Cd:Nat->Option AM} {ob:Option Nat} {J:Nat->Prop} {id vv:Nat} (a:ob=β id) (b:vv=AR Cd id):
  ∀{c:AC} {u:Value},CI c=true->BR (Cj w' ob J) c u->BR (cx X w' β Cd) (Iz id vv c) u
 | .AS t i v off len,_,h,r=>by
  match i,v,h,r with
  | 0,0,_,r=>exact⟨⟨r.1.1,Nat.le_of_eq b⟩,fun _=>by have:=r.2 rfl;show H2 w' (β id) _ _ _ _ _;rw[<-a];exact this⟩
  |0,_+1,h,_|_+1,_,h,_=>simp[CI] at h
 |.int _ _,_,_,r|.bool _,_,_,r|.fn _,_,_,r|.nil,_,_,r=>r
 |.Df _ _ _ _ _,_,h,_|.Ag _ _ _,_,h,_|.Bz,_,h,_|.sl _ _,_,h,_|.DE _ _ _ _ _,_,h,_|.Dp _ _ _,_,h,_|.ub _,_,h,_|.own _ _ _,_,h,_=>by simp[CI] at h
theorem Ai.TR {X:WX} {w':World} {β:Nat->Option Nat} {Cd:Nat->Option AM} {ob:Option Nat} {J:Nat->Prop} {id vv:Nat} (a:ob=β id) (b:vv=AR Cd id):
  ∀{cs:List AC} {us:List Value},cs.all CI=true->Ai (BR (Cj w' ob J)) cs us->Ai (BR (cx X w' β Cd)) (cs.map (Iz id vv)) us
 | [],[],_,_=>trivial
 | _::_,_::_,e,r=>by simp only[List.all_cons,Bool.and_eq_true] at e;exact⟨TS a b e.1 r.1,Ai.TR a b e.2 r.2⟩
 |[],_::_,_,r|_::_,[],_,r=>r.elim
theorem oQ {X:WX} {w':World} {β:Nat->Option Nat} {Cd:Nat->Option AM} {ob:Option Nat} {J:Nat->Prop} {id vv:Nat} (b:ob=β id) (j:vv=AR Cd id) {r:AV} {u:Value}
  (h:r.all CI=true) (a:Bu (Cj w' ob J) r u):Bu (cx X w' β Cd) (ZG id vv r) u:=by
 cases r with
 | one c=>
  rcases a with rfl | a
  ·exact Or.inl rfl
  exact Or.inr (TS b j h a)
 | agg cs=>obtain⟨arr,e,a⟩:=a;exact⟨arr,e,Ai.TR b j h a⟩
 | AF xs=>
  obtain⟨arr,e,a⟩:=a;refine⟨arr,e,?_⟩
  have key:∀(xs:List (Bool×List AC)) (us:List Value),(xs.all fun x=>x.2.all CI)=true->Ai (fun z q=>Dx (Cj w' ob J) (Dh z) q) xs us->Ai (fun z q=>Dx (cx X w' β Cd) (Dh z) q) (xs.map fun x=>(x.1,x.2.map (Iz id vv))) us:=by
   intro xs
   induction xs with
   | nil=>intro us _ f;cases us <;> first | trivial | exact f.elim
   | cons z xs m=>
    intro us i f;cases us with
    | nil=>exact f.elim
    | cons q us=>
     simp only[List.all_cons,Bool.and_eq_true] at i;refine⟨?_,m us i.2 f.2⟩;obtain⟨g,cs⟩:=z;have h3:=f.1;cases g with
     | true=>obtain⟨d,e',l⟩:=h3;exact⟨d,e',Ai.TR b j i.1 l⟩
     | false=>
      cases cs with
      | nil=>exact Or.inl rfl
      | cons c cs=>
       simp only[List.all_cons,Bool.and_eq_true] at i;rcases h3 with k | h3
       ·have k:c= .Bz:=k;subst k;exact Or.inl rfl
       exact Or.inr (TS b j i.1.1 h3)
  exact key xs arr.toList h a
theorem kW {X:WX} {w:World} {β:Nat->Option Nat} {s:St} {d b k:Nat} {bo:Option Nat} {Bp:AM} {fl:Bool} {J:Nat->Prop} (g:d<s.bk.length) (j:(fl=false/\J b)\/w.heap.size<=b) (l:bo≠some b)
  (m:∀b,J b->fl=false->(cx X w β (AH s.bk)).I b) (c:∀k b,live (AH s.bk) k->β k=some b->b<w.heap.size) (f:live (AH (BY s.bk d (some Bp))) k) (a:(if k=d then bo else β k)=some b):False:=by
 rw[IH _ _ _ g] at f
 by_cases h:k=d
 ·simp[h] at a;exact l a
 simp only[h,if_false] at f a;rcases j with⟨i,e2⟩ | i
 ·exact (m b e2 i).1.2 k f a
 have:=c k b f a;omega
theorem Zm:∀(l:List (Option AM)) (id:Nat) (b:AM),AH l id=some b->BY l id (some b)=l
 | [],_,_,h=>by simp[AH] at h
 | a::l,0,b,h=>by rw[BY,show a=some b from h]
 | a::l,n+1,b,h=>by rw[BY,Zm l n b h]
theorem Xl {X:WX} {w:World} {β:Nat->Option Nat} {bk:Nat->Option AM} {id v:Nat} (j:v=AR bk id):∀{c d:AC} {u:Value},JS id v c d->BR (cx X w β bk) c u->BR (Cj w (β id) (cx X w β bk).I) d u
 |.AS t i g off len,_,_,⟨⟨a,f⟩,h3⟩,r|.Ag i g off,_,_,⟨⟨a,f⟩,h3⟩,r=>by subst a f h3;exact RQ (vv:=g) j rfl r
 |.int _ _,_,_,h,r|.bool _,_,_,h,r|.fn _,_,_,h,r=>by rw[show _=_ from h];exact r
 | .sl t l,_,u,h,r=>by
  rw[show _=_ from h];exact C0 (w':=w) (fun b hb=>⟨hb,rfl⟩) (.sl t) l [u] r
 | .nil,_,_,h,r=>by
  rcases h with rfl |⟨t,rfl⟩
  ·exact r
  rw[show _=_ from r];exact⟨none,0,rfl,Nat.le_refl _,by simp,.inl rfl⟩
 |.Bz,_,_,h,_|.Df _ _ _ _ _,_,_,h,_|.DE _ _ _ _ _,_,_,h,_|.Dp _ _ _,_,_,h,_|.ub _,_,_,h,_|.own _ _ _,_,_,h,_=>h.elim
theorem VG {X:WX} {w:World} {β:Nat->Option Nat} {bk:Nat->Option AM} {id v:Nat} (a:v=AR bk id):∀{l m:List AC} {vs:List Value},BV (JS id v) l m->Ai (BR (cx X w β bk)) l vs->Ai (BR (Cj w (β id) (cx X w β bk).I)) m vs
 | [],[],[],_,_=>trivial
 | _::_,_::_,_::_,h,r=>⟨Xl a h.1 r.1,VG a h.2 r.2⟩
 |[],_::_,_,h,_|_::_,[],_,h,_=>h.elim
 |[],[],_::_,_,r|_::_,_::_,[],_,r=>r.elim
theorem QM {X:WX} {w:World} {β:Nat->Option Nat} {bk:Nat->Option AM} {id v:Nat} (a:v=AR bk id):∀{l m:List AV} {vs:List Value},GK (JS id v) l m->Ai (Bu (cx X w β bk)) l vs->Ai (Bu (Cj w (β id) (cx X w β bk).I)) m vs
 | [],[],[],_,_=>trivial
 | .one c::_,.one d::_,_::_,h,r=>⟨.inr (Xl a h.1 (By r.1 (by intro e;subst e;exact h.1.elim))),QM a h.2 r.2⟩
 | .agg c::_,.agg d::_,_::_,h,r=>by
  obtain⟨arr,e,b⟩:=r.1;exact⟨⟨arr,e,VG a h.1 b⟩,QM a h.2 r.2⟩
 |[],_::_,_,h,_|_::_,[],_,h,_=>h.elim
 |.one _::_,.agg _::_,_,h,_|.one _::_,.AF _::_,_,h,_|.agg _::_,.one _::_,_,h,_|.agg _::_,.AF _::_,_,h,_|.AF _::_,.one _::_,_,h,_|.AF _::_,.agg _::_,_,h,_|.AF _::_,.AF _::_,_,h,_=>h.1.elim
 |[],[],_::_,_,r|.one _::_,.one _::_,[],_,r|.agg _::_,.agg _::_,[],_,r=>r.elim
theorem oO {y:Cx} {w':World} {ob:Option Nat} {J:Nat->Prop} {id:Nat} (g:∀k,J k->y.I k) (hw:y.w=w') (a:y.β id=ob):∀{b:AM},(b.ES 0).lone=true->DJ (Cj w' ob J) 0 (b.ES 0)->DJ y id b
 | .dead _,h,_=>by simp[AM.ES,AM.lone] at h
 | .var _ cs,h,⟨b,arr,e,c,d,h3⟩=>⟨b,arr,e,a.trans c,by rw[hw];exact d,Ai.pure (x:=Cj w' ob J) (y:=y) (fun k f=>⟨g k f,by rw[hw];rfl⟩) (by simpa [AM.ES,AM.lone] using h) h3⟩
 | .arr _ t l,_,h=>h.imp (fun q=>⟨a.trans q.1,q.2⟩) fun⟨b,arr,e,c,d,h3⟩=>⟨b,arr,e,a.trans c,by rw[hw];exact d,fun i z j=>by
  obtain⟨us,m,n⟩:=h3 i z j;exact⟨us,C0 (w':=y.w) (fun k f=>⟨g k f,by rw[hw];rfl⟩) _ _ _ m,by rw[hw];exact n⟩⟩
theorem lS {x y:Cx} (h:∀b,x.I b->y.I b/\y.w.heap[b]? =x.w.heap[b]?) {r:AV} {u:Value} (j:r.all BZ=true) (a:Bu x r u):Bu y r u:=by
 cases r with
 | one c=>exact a.imp (fun q=>q) (Mx h j)
 | agg cs=>obtain⟨arr,e,a⟩:=a;exact⟨arr,e,Ai.pure h j a⟩
 | AF xs=>
  obtain⟨arr,e,a⟩:=a;refine⟨arr,e,?_⟩
  have key:∀(xs:List (Bool×List AC)) (us:List Value),(xs.all fun x=>x.2.all BZ)=true->Ai (fun z q=>Dx x (Dh z) q) xs us->Ai (fun z q=>Dx y (Dh z) q) xs us:=by
   intro xs
   induction xs with
   | nil=>intro us _ f;cases us <;> first | trivial | exact f.elim
   | cons z xs l=>
    intro us i f;cases us with
    | nil=>exact f.elim
    | cons q us=>
     simp only[List.all_cons,Bool.and_eq_true] at i;refine⟨?_,l us i.2 f.2⟩;obtain⟨g,cs⟩:=z;have h3:=f.1;cases g with
     | true=>obtain⟨d,e',k⟩:=h3;exact⟨d,e',Ai.pure h i.1 k⟩
     | false=>
      cases cs with
      | nil=>exact Or.inl rfl
      | cons c cs=>
       simp only[List.all_cons,Bool.and_eq_true] at i;exact h3.imp (fun q=>q) (Mx h i.1.1)
  exact key xs arr.toList j a
theorem W7 {d v:Nat}:∀{c:AC},BZ c=true->GQ d v c=c
 | .own _ _ _,h=>by simp[BZ] at h
 |.Bz,_|.int _ _,_|.bool _,_|.fn _,_|.nil,_|.sl _ _,_|.AS _ _ _ _ _,_|.Df _ _ _ _ _,_|.Ag _ _ _,_|.DE _ _ _ _ _,_|.Dp _ _ _,_|.ub _,_=>rfl
theorem MU {d v:Nat}:∀{cs:List AC},cs.all BZ=true->cs.map (GQ d v)=cs/\Du d v cs=[]
 | [],_=>⟨rfl,rfl⟩
 | c::cs,h=>by
  simp only[List.all_cons,Bool.and_eq_true] at h;obtain⟨a,b⟩:=MU (d:=d) (v:=v) h.2;refine⟨by rw[List.map_cons,W7 h.1,a],?_⟩;cases c <;> first | exact b | simp[BZ] at h
theorem Q7 {d v:Nat}:∀{xs:List (Bool×List AC)},(xs.all fun x=>x.2.all BZ)=true->(xs.map fun x=>(x.1,x.2.map (GQ d v)))=xs/\Du d v (xs.flatMap (·.2))=[]
 | [],_=>⟨rfl,rfl⟩
 | x::xs,h=>by
  simp only[List.all_cons,Bool.and_eq_true] at h;obtain⟨a,b⟩:=Q7 (d:=d) (v:=v) h.2;obtain⟨h3,c⟩:=MU (d:=d) (v:=v) h.1;exact⟨by rw[List.map_cons,h3,a],by rw[List.flatMap_cons,O6,c];exact b⟩
theorem W9 {d v:Nat} {r:AV} (h:r.all BZ=true):JO d v r=r/\Iw d v r=[]:=by
 cases r with
 | one c=>exact⟨congrArg AV.one (W7 h),(MU (cs:=[c]) (by simpa [AV.all] using h)).2⟩
 | agg cs=>exact⟨congrArg AV.agg (MU h).1,(MU h).2⟩
 | AF xs=>exact⟨congrArg AV.AF (Q7 h).1,(Q7 h).2⟩
theorem nE (o:Oper) {c:Call} {x:Operand} (ho:o.op= .call c) (hc:c.callee= .value x):Sound P (env P) TI o:=by
 intro w0 X β s a w S f h N Q hN;simp only[Ca,ho,hc] at h;have hx:=C1 S.CW x;have B:=QN (C1 S.CW) c.args.toList;have hU:c.args.map a.eval=(c.args.toList.map a.eval).toArray:=Array.ext' (by simp);have al:∀b,(cx X w β (AH s.bk)).I b->b<w.heap.size:=fun b hb=>hb.1.1
 have Y:∀b o,w.heap[b]? =some o->b<w.heap.size:=fun b o h=>by
  rcases Nat.lt_or_ge b w.heap.size with h' | h'
  ·exact h'
  simp[Array.getElem?_eq_none h'] at h
 have R:∀k b,live (AH s.bk) k->β k=some b->b<w.heap.size:=fun k b ⟨ag,D,hl⟩ hb=>by
  have r:=S.blocks k ag D;cases ag with
  | dead _=>simp[AM.live] at hl
  | var _ _=>obtain⟨b',arr,e,L,U,_⟩:=r;obtain rfl:b=b':=Option.some.inj (hb.symm.trans L);exact Y b _ U
  | arr _ _ _=>
   rcases r with⟨L,_⟩ |⟨b',arr,e,L,U,_⟩
   ·exact absurd (hb.symm.trans L) (by simp)
   obtain rfl:b=b':=Option.some.inj (hb.symm.trans L);exact Y b _ U
 split at h
 case h_2=>exact h.elim
 rename_i g he
 rw[he] at hx;have af:a.eval x= .func (.func g) #[] #[]:=By hx (by simp)
 have after:∀(fl:Bool) (r:AV) (rd:List Nat) (J:Nat->Prop),(∀b,J b->fl=false->(cx X w β (AH s.bk)).I b)->Callee P g->(r.all CR=true/\r.wf=true)->
   Calls P g (c.args.map a.eval) w (fun e w'=>∃u bo,e= .returned u/\Below w.heap.size w w'/\HY (Dm w' fun b=>((fl=false/\J b)\/w.heap.size<=b)/\b<w'.heap.size/\bo≠some b) w.heap.size bo r u)->
   f=⟨JO (Bv o) (AR (AH s.bk) (Bv o)+1) r,Iw (Bv o) (AR (AH s.bk) (Bv o)+1) r,rd⟩->o.wp P a w N Q:=by
  intro fl r rd J hJ z H n hf;have hA:∀b,((fl=false/\J b)\/w.heap.size<=b)->X.A b:=fun b hb=>hb.elim (fun q=>(hJ b q.2 q.1).2) fun q=>S.fresh b (Nat.le_trans S.size q)
  subst hf;refine Pc ho hc af z n fun e w' ⟨u,bo,he,hb,hr⟩=>⟨u,he,?_⟩
  have F:∀b,b<w.heap.size->w'.heap[b]? =w.heap[b]? :=hb.block
  by_cases C:Bv o<s.bk.length
  ·rcases Yl (Bv o) (AR (AH s.bk) (Bv o)+1) H.2 hr with h0 |⟨t,l,u',h0,L⟩
   ·rw[h0] at hN
    have aA:∀{y:Cx},y.w=w'->(∀b,(Dm w' fun b=>((fl=false/\J b)\/w.heap.size<=b)/\b<w'.heap.size/\bo≠some b).I b->y.I b)->Bu y (JO (Bv o) (AR (AH s.bk) (Bv o)+1) r) u:=by
     intro y hw hI;exact W8 h0 H (fun b hb=>⟨hI b hb,by rw[hw];rfl⟩) hr
    refine hN β _ w' (S.ext F hb.size hb.os hb.tape hb.output (aA rfl fun b m=>⟨⟨m.2.1,fun k D aa=>?_⟩,hA b m.1⟩));rcases m.1 with⟨e1,e2⟩ | e1
    ·exact (hJ b e2 e1).1.2 k D aa
    have:=R k b D aa;omega
   rw[h0] at hN;obtain⟨base,cap,e,k1,k2,ay,k3⟩:=L
   have ak:∀b,(((fl=false/\J b)\/w.heap.size<=b)/\b<w'.heap.size/\bo≠some b)->
     (cx X w' (fun k=>if k=Bv o then bo else β k) (AH (BY s.bk (Bv o) (some (.arr (AR (AH s.bk) (Bv o)+1) t l))))).I b/\w'.heap[b]? =w'.heap[b]? :=
    fun b m=>⟨⟨⟨m.2.1,fun k D aa=>kW C m.1 m.2.2 hJ R D aa⟩,hA b m.1⟩,rfl⟩
   refine hN (fun k=>if k=Bv o then bo else β k) _ w' (S.write C ay (fun k D=>by simp[D]) (by simp[AM.AR]) (fun e=>by simp[AM.AR] at e) (fun b m _=>F b m) hb.size
    (fun b arr e O=>⟨arr,(F b (Y b _ O)).trans O,rfl⟩) hb.os hb.tape hb.output (fun _ b m=> .inr ?_) (fun hle=>?_) (fun hle=>?_))
   ·simp at m;rcases k3 with⟨W,_⟩ |⟨b',arr,e',W,q2,_⟩
    ·rw[W] at m;cases m
    rw[W] at m;obtain rfl:=Option.some.inj m;exact q2
   ·rcases k3 with⟨W,q2,_⟩ |⟨b',arr,e',W,q2,q3,q4,q5,q6⟩
    ·exact Or.inl ⟨by show (if Bv o=Bv o then _ else _)=_;simp[W],q2⟩
    refine Or.inr ⟨b',arr,e',by show (if Bv o=Bv o then _ else _)=_;simp[W],q4,fun i y hy=>?_⟩;obtain⟨us,p1,p2⟩:=q6 i y hy;exact⟨us,C0 (w':=w') ak _ _ _ p1,p2⟩
   refine iA (x:=Dm w' fun b=>((fl=false/\J b)\/w.heap.size<=b)/\b<w'.heap.size/\bo≠some b) (lo:=w.heap.size) (bo:=bo) ak rfl ?_ ?_ H.1 hr
   ·show _<=AR _ (Bv o);rw[GC _ _ _ C,if_pos rfl];simp[AM.AR]
   intro _;show (if Bv o=Bv o then _ else _)=_;simp
  have G:s.bk.length<=Bv o:=Nat.le_of_not_lt C
  have aD:s.app o.dst ⟨JO (Bv o) (AR (AH s.bk) (Bv o)+1) r,Iw (Bv o) (AR (AH s.bk) (Bv o)+1) r,rd⟩=s.app none ⟨.one .Bz,[],rd⟩:=by
   have e1:∀v,GS s.sl o.dst v=s.sl:=fun v=>by
    cases hd:o.dst with
    | none=>rfl
    | some q=>simp[Bv,hd] at G;simp[GS,Hu s.sl q v (by rw[S.len,<-S.IG];exact G)]
   have e2:DB (Iw (Bv o) (AR (AH s.bk) (Bv o)+1) r) s.bk=s.bk:=by
    rcases Yl (Bv o) (AR (AH s.bk) (Bv o)+1) H.2 hr with h0 |⟨t,l,u',h0,_⟩
    ·rw[h0];rfl
    rw[h0];simp[DB,Hu _ _ _ G]
   simp only[St.app,e1,e2];rfl
  have ha:a.put o.dst u=a.put none undef:=by
   cases hd:o.dst with
   | none=>rfl
   | some q=>
    simp[Bv,hd] at G;have:a.tmps.size<=q:=by rw[<-S.IG];exact G
    simp[Act.put,Array.setIfInBounds_eq_of_size_le this]
  rw[ha];exact hN β _ w' (by rw[aD];exact S.ext F hb.size hb.os hb.tape hb.output (Jh _ _))
 rcases h with⟨K,r,L,U,h⟩ |⟨K,r,L,U,h⟩ | h |⟨id,Bp,K,r,L,U,h⟩ |⟨id,Bp,K,r,L,U,h⟩
 ·obtain⟨z,H,M⟩:=U ();have:=M w (cx X w β (AH s.bk)).I (c.args.toList.map a.eval) al (QL (x:=cx X w β (AH s.bk)) (y:=Dm w (cx X w β (AH s.bk)).I) (fun b hb=>⟨hb,rfl⟩) (L ()) B);exact after false r _ _ (fun b hb _=>hb) z H (by rw[hU];exact this) h.symm
 ·obtain⟨z,H,M⟩:=U ();have:=M w (fun b=>b<w.heap.size) (c.args.toList.map a.eval) (fun b hb=>hb) (MA S (fun b hb=>hb.1.1) (fun _ _ _ _ _ h=>h) (L ()) B);exact after true r _ (fun b=>b<w.heap.size) (fun b _ e=>by cases e) z H (by rw[hU];exact this) h.symm
 ·generalize hA:c.args.toList.map (ev s.sl)=A at h B
  generalize hV:c.args.toList.map a.eval=V at B hU
  split at h
  case h_2=>exact h.elim
  rename_i c0 rest
  split at h
  case h_2=>exact h.elim
  rename_i id vv aq
  split at h
  case h_2=>exact h.elim
  rename_i Bp hb
  split at h
  case isFalse=>exact h.elim
  rename_i ar
  obtain⟨K,r,b1,L,U,h⟩:=h;obtain⟨az,L⟩:=L ();obtain⟨U,av,ax⟩:=U ();obtain⟨z,⟨aG,aH,aw,aI⟩,M⟩:=U
  match V,B with
  | v0::vs,⟨aB,aC⟩=>
  have aF:vv=AR (AH s.bk) id:=by rw[GB hb];exact ar.symm
  have C:id<s.bk.length:=by
   rcases Nat.lt_or_ge id s.bk.length with G | G
   ·exact G
   rw[JZ _ _ G] at hb;cases hb
  have p:live (AH s.bk) id:=by
   refine⟨Bp,hb,?_⟩;cases Bp <;> simp_all [AM.live,AM.lone,AM.ES]
  have a8:∀b,(cx X w β (AH s.bk)).I b->(b<w.heap.size/\β id≠some b)/\w.heap[b]? =w.heap[b]? :=fun b hb=>⟨⟨hb.1.1,hb.1.2 id p⟩,rfl⟩
  have au:BR (Cj w (β id) fun b=>b<w.heap.size/\β id≠some b) (Iz 0 0 c0) v0:=RQ aF aq (By aB (by intro e;subst e;cases aq));have ai:DJ (Cj w (β id) fun b=>b<w.heap.size/\β id≠some b) 0 (Bp.ES 0):=Xn a8 aw (S.blocks id Bp hb)
  have n:=M w (fun b=>b<w.heap.size/\β id≠some b) (β id) v0 vs (fun b hb=>hb) au ai (by have:=S.lens id Bp hb;cases Bp <;> simpa [AM.short,AM.ES] using this)
   (MA S (fun b hb=>(a8 b hb).1) (fun Z b a2 ab m a6=>⟨a6,fun e=>az (S.inj Z id b ab p m e ▸ a2)⟩) L aC)
  subst h;rw[<-hU] at n;refine Pc ho hc af z n fun e w' O=>?_
  obtain⟨u,he,⟨p1,p2,p3,p4,p5⟩,p6,p7,p8,p9⟩:=O;refine⟨u,he,?_⟩;have ah:(b1.ES vv).AR=vv:=by cases b1 <;> rfl
  refine hN β _ w' (S.write C (by cases b1 <;> simpa [AM.short,AM.ES] using p9) (fun _ _=>rfl) (by rw[ah];omega) (fun _=>⟨rfl,fun _=>p⟩) (fun b m aj=>p5 b m (aj p)) p4 (fun b arr e O=>?_) p1 p2 p3 (fun _ b m=> .inl ⟨m,p⟩) (fun _=>?_) (fun _=>?_))
  ·by_cases a1:β id=some b
   ·exact p6 b arr e a1 O
   exact⟨arr,(p5 b (Y b _ O) a1).trans O,rfl⟩
  ·exact oP rfl av p8
  refine oQ rfl ?_ ax p7
  show vv=AR _ id
  rw[GC _ _ _ C,if_pos rfl,ah]
 ·obtain⟨hb,hle⟩:=L ();obtain⟨z,⟨hp,a5⟩,M⟩:=U ()
  have C:id<s.bk.length:=by
   rcases Nat.lt_or_ge id s.bk.length with G | G
   ·exact G
   rw[JZ _ _ G] at hb;cases hb
  have p:live (AH s.bk) id:=by
   refine⟨Bp,hb,?_⟩;cases Bp <;> simp_all [AM.live,AM.lone,AM.ES]
  have ae:Bp.AR=AR (AH s.bk) id:=(GB hb).symm;have a8:∀b,(cx X w β (AH s.bk)).I b->(cx X w β (AH s.bk)).I b/\w.heap[b]? =w.heap[b]? :=fun b hb=>⟨hb,rfl⟩
  have ai:DJ (Cj w (β id) (cx X w β (AH s.bk)).I) 0 (Bp.ES 0):=Xn a8 a5 (S.blocks id Bp hb)
  have n:=M w (cx X w β (AH s.bk)).I (β id) (c.args.toList.map a.eval) (fun b hb=>⟨hb.1.1,fun e=>hb.1.2 id p e⟩) ai
   (by have:=S.lens id Bp hb;cases Bp <;> simpa [AM.short,AM.ES] using this) (QM ae hle B)
  subst h
  have heq:s.app o.dst ⟨r,[],[id]⟩=s.app o.dst ⟨r,[(id,Bp)],[id]⟩:=by
   unfold St.app;simp only[DB,Zm _ _ _ hb]
  rw[heq] at hN;rw[<-hU] at n;refine Pc ho hc af z n fun e w' O=>?_
  obtain⟨u,he,⟨p1,p2,p3,p4,p5⟩,p6,p7,p8⟩:=O;refine⟨u,he,?_⟩
  have hJ:∀k,(((cx X w β (AH s.bk)).I k\/w.heap.size<=k)/\k<w'.heap.size/\β id≠some k)->(cx X w' β (AH (BY s.bk id (some Bp)))).I k:=fun k D=>by
   have a7:∀j,live (AH (BY s.bk id (some Bp))) j->live (AH s.bk) j:=fun j hj=>by
    rw[IH _ _ _ C] at hj
    by_cases h:j=id
    ·subst h;exact p
    rw[if_neg h] at hj;exact hj
   rcases D.1 with h | h
   ·exact⟨⟨D.2.1,fun j hj=>h.1.2 j (a7 j hj)⟩,h.2⟩
   refine⟨⟨D.2.1,fun j hj e=>?_⟩,S.fresh k (Nat.le_trans S.size h)⟩;have:=R j k (a7 j hj) e;omega
  refine hN β _ w' (S.write C (S.lens id Bp hb) (fun _ _=>rfl) (Nat.le_of_eq ae.symm) (fun _=>⟨rfl,fun _=>p⟩) (fun b m aj=>p5 b m (aj p)) p4 (fun b arr e O=>?_) p1 p2 p3 (fun _ b m=> .inl ⟨m,p⟩) (fun _=>?_) (fun _=>?_))
  ·by_cases a1:β id=some b
   ·exact p6 b arr e a1 O
   exact⟨arr,(p5 b (Y b _ O) a1).trans O,rfl⟩
  ·exact oO hJ rfl rfl a5 p8
  exact lS (x:=Cj w' (β id) fun k=>((cx X w β (AH s.bk)).I k\/w.heap.size<=k)/\k<w'.heap.size/\β id≠some k) (y:=cx X w' β (AH (BY s.bk id (some Bp)))) (fun k D=>⟨hJ k D,rfl⟩) hp p7
 obtain⟨⟨h0,hb,an⟩,aE⟩:=L ();obtain⟨⟨z,H,M⟩,ao⟩:=U ()
 have C:id<s.bk.length:=by
  rcases Nat.lt_or_ge id s.bk.length with G | G
  ·exact G
  rw[JZ _ _ G] at hb;cases hb
 have ae:Bp.AR=AR (AH s.bk) id:=(GB hb).symm
 have ad:∀k,live (AH (BY s.bk id (some (.dead Bp.AR)))) k->k≠id/\live (AH s.bk) k:=fun k D=>by
  rw[IH _ _ _ C] at D
  by_cases h:k=id
  ·rw[if_pos h] at D;cases D
  rw[if_neg h] at D;exact⟨h,D⟩
 have n:=M w (cx X w β (AH (BY s.bk id (some (.dead Bp.AR))))).I (c.args.toList.map a.eval) (fun b m=>m.1.1)
  (MA S (fun b m=>⟨⟨m.1.1,fun k D=>m.1.2 k (ad k D).2⟩,m.2⟩) (fun Z b a2 ab m a6=>by
   have e:Z=id:=by simpa using List.all_eq_true.1 an Z a2
   subst e;refine⟨⟨a6,fun k D e=>(ad k D).1 (S.inj k Z b (ad k D).2 ab e m)⟩,?_⟩;rcases S.own Z b ab m with G | G
   ·exact S.fresh b G
   exact absurd G.2 h0) aE B)
 subst h;rw[<-hU] at n;refine Pc ho hc af z n fun e w' O=>?_
 obtain⟨u,bo,he,T,hr⟩:=O;refine⟨u,he,?_⟩;have F:∀b,b<w.heap.size->w'.heap[b]? =w.heap[b]? :=T.block
 refine hN β _ w' (S.write C trivial (fun _ _=>rfl) (Nat.le_of_eq ae.symm) (fun _=>⟨rfl,fun e=>by cases e⟩) (fun b m _=>F b m) T.size (fun b arr e O=>⟨arr,(F b (Y b _ O)).trans O,rfl⟩) T.os T.tape T.output
  (fun e=>by cases e) (fun _=>trivial) (fun _=>?_))
 have hJ:∀b,(((false=false/\(cx X w β (AH (BY s.bk id (some (.dead Bp.AR))))).I b)\/w.heap.size<=b)/\b<w'.heap.size/\bo≠some b)->(cx X w' β (AH (BY s.bk id (some (.dead Bp.AR))))).I b/\w'.heap[b]? =w'.heap[b]? :=fun b m=>by
  obtain⟨W,q2,_⟩:=m;rcases W with⟨_,W⟩ | W
  ·exact⟨⟨⟨q2,W.1.2⟩,W.2⟩,rfl⟩
  refine⟨⟨⟨q2,fun k D e=>?_⟩,S.fresh b (Nat.le_trans S.size W)⟩,rfl⟩;have:=R k b (ad k D).2 e;omega
 have hg:=W8 (x:=Dm w' fun b=>((false=false/\(cx X w β (AH (BY s.bk id (some (.dead Bp.AR))))).I b)\/w.heap.size<=b)/\b<w'.heap.size/\bo≠some b) (y:=cx X w' β (AH (BY s.bk id (some (.dead Bp.AR))))) (W9 (d:=0) (v:=0) ao).2 H hJ hr;rw[(W9 (d:=0) (v:=0) ao).1] at hg;exact hg
end
section
theorem fH {op:BinOp} {k:IntKind} {a b:Int} {K:AC->Prop} (h:arith op k a b K):∃c,(∀i:AC->Prop,i c->arith op k a b i)/\K c:=by
 unfold arith at h ⊢
 split at h
 case h_1=>obtain⟨f,g⟩:=h _ rfl;exact⟨_,fun i d c hc=>by subst hc;exact⟨f,d⟩,g⟩
 case h_2=>obtain⟨f,g⟩:=h _ rfl;exact⟨_,fun i d c hc=>by subst hc;exact⟨f,d⟩,g⟩
 case h_3=>obtain⟨f,g⟩:=h _ rfl;exact⟨_,fun i d c hc=>by subst hc;exact⟨f,d⟩,g⟩
 case h_4=>obtain⟨f,g⟩:=h _ rfl;exact⟨_,fun i d c hc=>by subst hc;exact⟨f,d⟩,g⟩
 case h_5=>obtain⟨f,g⟩:=h _ rfl;exact⟨_,fun i d c hc=>by subst hc;exact⟨f,d⟩,g⟩
 all_goals first
  | exact⟨_,fun i d c hc=>by subst hc;exact d,h _ rfl⟩
  | (obtain⟨f,g⟩:=h _ rfl;exact⟨_,fun i d c hc=>by subst hc;exact⟨f,d⟩,g⟩)
theorem N0 {len:Nat} {lo k mx:Option AV} {K:Nat->Nat->Bool->Prop} (h:JF len lo k mx K):∃a b c,(∀f:Nat->Nat->Bool->Prop,f a b c->JF len lo k mx f)/\K a b c:=by
 unfold JF at h ⊢
 split at h
 ·exact⟨_,_,_,fun f d c hc=>by subst hc;exact d,h _ rfl⟩
 ·obtain⟨g,i⟩:=h;exact⟨_,_,_,fun f d=>⟨g,fun l m j=>by obtain⟨rfl,rfl⟩:=j;exact d⟩,i _ _ ⟨rfl,rfl⟩⟩
 ·obtain⟨g,i⟩:=h;exact⟨_,_,_,fun f d=>⟨g,fun l j=>by obtain rfl:=j;exact d⟩,i _ rfl⟩
 ·obtain⟨g,i⟩:=h;exact⟨_,_,_,fun f d=>⟨g,fun l m j=>by obtain⟨rfl,rfl⟩:=j;exact d⟩,i _ _ ⟨rfl,rfl⟩⟩
 ·obtain⟨g,i⟩:=h;exact⟨_,_,_,fun f d=>⟨g,fun l j=>by obtain rfl:=j;exact d⟩,i _ rfl⟩
 exact h.elim
theorem fJ {bk:Nat->Option AM} {u:T} {x:AV} {lo l mx:Option AV} {K:B3->Prop} (h:JE bk u x lo l mx K):∃f,(∀g:B3->Prop,g f->JE bk u x lo l mx g)/\K f:=by
 unfold JE at h ⊢
 split at h
 ·obtain⟨k,h⟩:=h;obtain⟨a,b,c,i,h3⟩:=N0 (h _ rfl);exact⟨_,fun g j=>⟨k,fun n m=>by subst m;exact i _ fun l' d=>by subst d;exact j⟩,h3 _ rfl⟩
 ·obtain⟨k,h⟩:=h
  split at h
  ·rename_i p
   obtain⟨a,b,c,i,h3⟩:=N0 h;have h3:=h3 _ _ ⟨rfl,rfl⟩;cases c with
   |true|false=>exact⟨_,fun g j=>⟨k,by rw[if_pos p];exact i _ fun o n d=>by obtain⟨rfl,rfl⟩:=d;exact j⟩,h3⟩
  exact h.elim
 ·obtain⟨a,b,c,i,h3⟩:=N0 h;exact⟨_,fun g j=>i _ j,h3⟩
 exact h.elim
theorem eZ {E:Env} {g:FuncId} {args:List AV} {d:Nat} {bk:Nat->Option AM} {K:B3->Prop} (h:Jz E g args d bk K):∃f,(∀l:B3->Prop,l f->Jz E g args d bk l)/\K f:=by
 rcases h with⟨a,r,c,j,h⟩ |⟨a,r,c,j,h⟩ | h |⟨i,b,a,r,c,j,h⟩ |⟨i,b,a,r,c,j,h⟩
 ·exact⟨_,fun l k=> .inl ⟨a,r,c,j,k⟩,h⟩
 ·exact⟨_,fun l k=> .inr (.inl ⟨a,r,c,j,k⟩),h⟩
 rotate_left
 ·exact⟨_,fun l k=> .inr (.inr (.inr (.inl ⟨i,b,a,r,c,j,k⟩))),h⟩
 ·exact⟨_,fun l k=> .inr (.inr (.inr (.inr ⟨i,b,a,r,c,j,k⟩))),h⟩
 unfold Jz
 split at h
 ·split at h
  ·rename_i m
   split at h
   ·rename_i hb
    split at h
    ·rename_i n
     obtain⟨a,r,b1,c,j,h⟩:=h;exact⟨_,fun l k=> .inr (.inr (.inl (by simp only[m,hb,if_pos n];exact⟨a,r,b1,c,j,k⟩))),h⟩
    exact h.elim
   exact h.elim
  exact h.elim
 exact h.elim
theorem T.beq_refl:∀t:T,T.beq t t=true
 | .u8=>rfl | .u32=>rfl | .u64=>rfl | .i8=>rfl | .i64=>rfl | .bool=>rfl
 | .sl t=>T.beq_refl t
 | .pr a b=>by simp only[T.beq,T.beq_refl a,T.beq_refl b,Bool.and_self]
theorem Jy {TI:TypeId->Info} {b:Builtin} {a:List TypeId} {args:List AV} {d:Nat} {bk:Nat->Option AM} {K:B3->Prop}:
  QB TI b a args d bk K↔Fo TI b a args d bk K\/(b= .append/\Fo TI b a args d bk (LY K)):=by
 cases b <;> simp[QB]
theorem Ss {K:B3->Prop} {g:B3} (h:LY K g):∃(t:T) (id v n:Nat) (l:List (el t)),g=⟨.one (.AS t id v 0 n),[(id,.arr v t l)],g.rd⟩/\id≠0/\n=l.length/\K ⟨.one (.sl t l),[(id,.dead v)],g.rd⟩/\
  ∀a:B3->Prop,a ⟨.one (.sl t l),[(id,.dead v)],g.rd⟩->LY a g:=by
 obtain⟨o,p,m⟩:=g;unfold LY at h
 split at h
 ·rename_i t id v off n i r q l c d
  split at h
  ·rename_i hc
   simp only at c d;simp only[Bool.and_eq_true,bne_iff_ne,beq_iff_eq] at hc;obtain⟨⟨⟨⟨c1,c2⟩,f⟩,j⟩,b⟩:=hc;have b:=T.beq_eq b;subst c2 f j b c d;refine⟨t,id,v,n,l,rfl,c1,h.1 (),h.2,fun a k=>?_⟩;unfold LY;simp only;rw[if_pos (by simp[c1,T.beq_refl])];exact⟨h.1,k⟩
  exact h.elim
 exact h.elim
theorem QK {TI:TypeId->Info} {b:Builtin} {a:List TypeId} {args:List AV} {d:Nat} {bk:Nat->Option AM} {K:B3->Prop} (hb:b= .append) (h:Fo TI b a args d bk K):args.length=2:=by
 subst hb;unfold Fo at h
 split at h <;> first | contradiction | exact h.elim | rfl
theorem fF {TI:TypeId->Info} {b:Builtin} {c:List TypeId} {args:List AV} {d:Nat} {bk:Nat->Option AM} {g:B3} (hb:b= .append) (h:Fo TI b c args d bk (fun f=>f=g)) {id:Nat} {B:AM} (hw:g.ws=[(id,B)]):
  id=d\/∃x,bk id=some x:=by
 subst hb;unfold Fo at h
 split at h <;> first | contradiction | skip
 ·obtain⟨_,l2,_,h⟩:=h;have:=h _ rfl;subst this;simp at hw;exact .inl hw.1.symm
 ·obtain⟨_,h⟩:=h
  split at h
  ·rename_i a
   split at h
   ·obtain⟨l2,_,h⟩:=h;have:=h _ _ ⟨rfl,rfl⟩;subst this;simp at hw;exact .inr ⟨_,hw.1 ▸ a⟩
   exact h.elim
  exact h.elim
 obtain⟨_,h⟩:=h
 split at h
 ·rename_i a
  split at h
  ·obtain⟨l2,_,h⟩:=h;have:=h _ _ ⟨rfl,rfl⟩;subst this;simp at hw;exact .inr ⟨_,hw.1 ▸ a⟩
  exact h.elim
 exact h.elim
theorem L6 {TI:TypeId->Info} {b:Builtin} {o:List TypeId} {args:List AV} {d:Nat} {bk:Nat->Option AM} {K:B3->Prop} (hlen:∀t l,args=[.one (.sl t l)]->l.length<=140737488355328) (h:Fo TI b o args d bk K):
  ∃f,(∀g:B3->Prop,g f->Fo TI b o args d bk g)/\K f:=by
 unfold Fo at h ⊢
 split at h
 ·exact⟨_,fun g a=>⟨h.1,fun n i=>by obtain⟨rfl,_⟩:=i;exact a⟩,h.2 _ ⟨rfl,hlen _ _ rfl⟩⟩
 ·obtain⟨j,h⟩:=h
  split at h
  ·rename_i k
   exact⟨_,fun g a=>⟨j,by rw[if_pos k];intro n i;obtain⟨rfl⟩:=i;exact a⟩,h _ ⟨rfl⟩⟩
  exact h.elim
 ·obtain⟨j,h⟩:=h
  split at h
  ·rename_i k
   exact⟨_,fun g a=>⟨j,by rw[if_pos k];intro n i;obtain⟨rfl⟩:=i;exact a⟩,h _ ⟨rfl⟩⟩
  exact h.elim
 ·exact⟨_,fun g a=>⟨h.1,a⟩,h.2⟩
 ·exact⟨_,fun g a=>⟨h.1,a⟩,h.2⟩
 ·exact⟨_,fun g a c hc=>by subst hc;exact a,h _ rfl⟩
 ·obtain⟨j,l2,m,h⟩:=h;exact⟨_,fun g a=>⟨j,l2,m,fun n i=>by subst i;exact a⟩,h _ rfl⟩
 ·obtain⟨j,h⟩:=h
  split at h
  ·rename_i hb
   split at h
   ·rename_i k
    obtain⟨l2,m,h⟩:=h;exact⟨_,fun g a=>⟨j,by simp only[hb,if_pos k];exact⟨l2,m,fun l' n i=>by obtain⟨rfl,rfl⟩:=i;exact a⟩⟩,h _ _ ⟨rfl,rfl⟩⟩
   exact h.elim
  exact h.elim
 ·obtain⟨j,h⟩:=h
  split at h
  ·rename_i hb
   split at h
   ·rename_i k
    obtain⟨l2,m,h⟩:=h;exact⟨_,fun g a=>⟨j,by simp only[hb,if_pos k];exact⟨l2,m,fun l' n i=>by obtain⟨rfl,rfl⟩:=i;exact a⟩⟩,h _ _ ⟨rfl,rfl⟩⟩
   exact h.elim
  exact h.elim
 exact h.elim
theorem QJ {E:Env} {TI:TypeId->Info} {o:Oper} {d:Nat} {e:Operand->AV} {bk:Nat->Option AM} {K:B3->Prop} (hlen:∀x t l,e x= .one (.sl t l)->l.length<=140737488355328) (h:Ca E TI o d e bk K):
  ∃f,(∀m:B3->Prop,m f->Ca E TI o d e bk m)/\K f:=by
 unfold Ca at h ⊢;cases M:o.op <;> simp only[M] at h ⊢
 case move x=>exact⟨_,fun m a=>a,h⟩
 case assign x=>exact⟨_,fun m a=>a,h⟩
 case nilCheck x=>
  split at h
  ·rename_i he
   split at h
   ·rename_i s
    rw[he] at h;exact⟨_,fun m a=>by rw[he];rw[if_pos s];exact a,h⟩
   exact h.elim
  ·rename_i he
   exact⟨_,fun m a=>a,h⟩
  exact h.elim
 case pick c x y=>
  split at h
  ·rename_i he;exact⟨_,fun m a=>by (try simp only[he]);exact a,h⟩
  ·rename_i he;exact⟨_,fun m a=>by (try simp only[he]);exact a,h⟩
  exact h.elim
 case alloc t=>exact⟨_,fun m a=>⟨h.1,a⟩,h.2⟩
 case box t x=>
  split at h
  ·exact h.elim
  ·exact h.elim
  rename_i v q r
  exact⟨_,fun m a=>a,h⟩
 case extract x i=>
  split at h
  ·rename_i he
   split at h
   ·rename_i u
    exact⟨_,fun m a=>by (try simp only[he,u]);exact a,h⟩
   exact h.elim
  exact h.elim
 case load t x=>
  simp only[MK] at h ⊢;obtain⟨q,h⟩:=h
  split at h
  ·rename_i he
   split at h
   ·rename_i hb
    split at h
    ·rename_i s
     exact⟨_,fun m a=>⟨q,by (try simp only[he,hb,if_pos s]);exact a⟩,h⟩
    exact h.elim
   exact h.elim
  ·rename_i he
   split at h
   ·rename_i s
    exact⟨_,fun m a=>⟨q,by (try simp only[he,if_pos s]);exact a⟩,h⟩
   exact h.elim
  ·rename_i he
   split at h
   ·rename_i hb
    split at h
    ·rename_i s
     obtain⟨z,r,h⟩:=h
     split at h
     ·rename_i H
      exact⟨_,fun m a=>⟨q,by (try simp only[he,hb,if_pos s]);exact⟨z,r,by simp only[if_pos H];exact a⟩⟩,h⟩
     exact h.elim
    exact h.elim
   exact h.elim
  exact h.elim
 case store t p x=>
  obtain⟨q,h⟩:=h
  split at h
  ·rename_i he
   split at h
   ·exact h.elim
   ·exact h.elim
   ·rename_i N O hb
    split at h
    ·rename_i s
     refine⟨_,fun m a=>⟨q,?_⟩,h⟩;rw[if_pos s];exact a
    exact h.elim
   exact h.elim
  ·rename_i he
   split at h
   ·exact h.elim
   ·exact h.elim
   ·rename_i N O hb
    split at h
    ·rename_i s
     obtain⟨z,r,h⟩:=h;refine⟨_,fun m a=>⟨q,?_⟩,h _ rfl⟩;rw[if_pos s];exact⟨z,r,fun l' F=>by subst F;exact a⟩
    exact h.elim
   exact h.elim
  exact h.elim
 case fieldAddr t x i=>
  obtain⟨q,h⟩:=h
  split at h
  ·rename_i B he
   split at h
   ·rename_i s
    exact⟨_,fun m a=>⟨q,by (try simp only[B,he,if_pos s]);exact a⟩,h⟩
   exact h.elim
  ·rename_i B he
   exact⟨_,fun m a=>⟨q,by (try simp only[B,he]);exact a⟩,h⟩
  ·rename_i B he
   split at h
   ·rename_i s
    exact⟨_,fun m a=>⟨q,by (try simp only[B,he,if_pos s]);exact a⟩,h⟩
   exact h.elim
  exact h.elim
 case field t x i=>
  obtain⟨q,h⟩:=h
  split at h
  ·rename_i B he
   split at h
   ·rename_i s
    exact⟨_,fun m a=>⟨q,by (try simp only[B,he,if_pos s]);exact a⟩,h⟩
   exact h.elim
  exact h.elim
 case build t ps=>
  obtain⟨q,h⟩:=h
  split at h
  ·rename_i he
   exact⟨_,fun m a=>⟨q,by (try simp only[he]);exact a⟩,h⟩
  exact h.elim
 case buildSlice t n ps=>
  obtain⟨q,r,xs,h3,h | h⟩:=h
  ·exact⟨_,fun m a=>⟨q,r,xs,h3,.inl a⟩,h⟩
  exact⟨_,fun m a=>⟨q,r,xs,h3,.inr a⟩,h⟩
 case makeSlice t x y=>
  obtain⟨q,h⟩:=h
  split at h
  ·rename_i u w
   exact⟨_,fun m a=>⟨q,by (try simp only[u,w]);exact⟨h.1,fun k z H=>by obtain⟨rfl,rfl⟩:=H;exact a⟩⟩,h.2 _ _ ⟨rfl,rfl⟩⟩
  exact h.elim
 case indexAddr t x i=>
  obtain⟨q,h⟩:=h
  split at h
  ·rename_i u w
   obtain⟨r,z,h3,h⟩:=h;exact⟨_,fun m a=>⟨q,by (try simp only[u,w]);exact⟨r,z,h3,a⟩⟩,h⟩
  ·rename_i u w
   obtain⟨r,h⟩:=h
   split at h
   ·rename_i s
    exact⟨_,fun m a=>⟨q,by (try simp only[u,w]);exact⟨r,by rw[if_pos s];exact⟨h.1,fun j J=>by subst J;exact a⟩⟩⟩,h.2 _ rfl⟩
   exact h.elim
  exact h.elim
 case slice t x lo hi mx=>
  obtain⟨q,h⟩:=h;obtain⟨f,r,h3⟩:=fJ h;exact⟨f,fun m a=>⟨q,r _ a⟩,h3⟩
 case binOp op t x y t'=>
  split at h
  ·rename_i u w
   split at h
   ·rename_i D
    obtain⟨c,r,h3⟩:=fH h;exact⟨_,fun m a=>by (try simp only[u,w,if_pos D]);exact r _ a,h3⟩
   exact h.elim
  ·rename_i u w
   obtain⟨q,h⟩:=h;cases op <;> simp only at h
   all_goals first
    | exact h.elim
    | exact⟨_,fun m a=>by (try simp only[u,w]);exact⟨q,fun c hc=>hc ▸ a⟩,h _ rfl⟩
  ·rename_i u w
   obtain⟨q,h⟩:=h;cases op <;> simp only at h
   all_goals first
    | exact h.elim
    | exact⟨_,fun m a=>by (try simp only[u,w]);exact⟨q,fun c hc=>hc ▸ a⟩,h _ rfl⟩
  exact h.elim
 case unOp op t x=>
  split at h
  ·rename_i u
   exact⟨_,fun m a=>by (try simp only[u]);intro c hc;subst hc;exact a,h _ rfl⟩
  ·rename_i u
   exact⟨_,fun m a=>by (try simp only[u]);intro c hc;subst hc;exact a,h _ rfl⟩
  exact h.elim
 case convert src dst x=>
  obtain⟨q,h⟩:=h
  split at h
  ·rename_i u w
   exact⟨_,fun m a=>⟨q,by (try simp only[u,w]);intro c hc;subst hc;exact a⟩,h _ rfl⟩
  exact h.elim
 case call c=>
  cases hc:c.callee with
  | builtin b=>
   simp only[hc] at h ⊢
   have A:∀t l,c.args.toList.map e=[.one (.sl t l)]->l.length<=140737488355328:=by
    intro t l C
    generalize c.args.toList=L at C
    match L,C with
    | [x],C=>exact hlen x t l (by simpa using C)
    |[],C|_::_::_,C=>simp at C
   rcases Jy.1 h with h |⟨hb,h⟩
   ·obtain⟨g,q,r⟩:=L6 A h;exact⟨g,fun m a=>Jy.2 (.inl (q m a)),r⟩
   obtain⟨g,q,r⟩:=L6 A h;obtain⟨t,id,v,n,l,Q,_,_,I,G⟩:=Ss r;exact⟨_,fun m a=>Jy.2 (.inr ⟨hb,q _ (G m a)⟩),I⟩
  | value f=>
   simp only[hc] at h ⊢
   split at h
   ·rename_i he
    obtain⟨f,r,h3⟩:=eZ h;exact⟨f,fun m a=>by (try simp only[he]);exact r _ a,h3⟩
   exact h.elim
  | invoke _ _=>simp only[hc] at h
end
section
theorem Ws {pl:List (Nat×Nat×Bool)} {e e':Operand->AV}:∀{a:List (Nat×Operand)} {cs:List AC},(∀p∈a,e p.2=e' p.2)->IB pl e a cs=IB pl e' a cs
 | [],_,_=>rfl
 | (i,x)::r,cs,h=>by
  have b:=h (i,x) (by simp);simp only at b;have d:∀cs,IB pl e r cs=IB pl e' r cs:=fun cs=>Ws fun p c=>h p (by simp[c])
  simp only[IB,b,d]
theorem fD {E:Env} {TI:TypeId->Info} {o:Oper} {d:Nat} {e e':Operand->AV} {bk:Nat->Option AM} {K:B3->Prop} (he:∀x∈o.op.operands,e x=e' x) (h:Ca E TI o d e bk K):Ca E TI o d e' bk K:=by
 unfold Ca at h ⊢;cases q:o.op <;> simp only[q] at h ⊢ <;> (try exact h.elim) <;> rw[q] at he <;> simp only[Op.operands] at he
 case move x=>rw[<-he x (by simp)];exact h
 case assign x=>rw[<-he x (by simp)];exact h
 case nilCheck x=>rw[<-he x (by simp)];exact h
 case pick c x y=>rw[<-he x (by simp),<-he y (by simp),<-he c (by simp)];exact h
 case alloc t=>exact h
 case box t x=>rw[<-he x (by simp)];exact h
 case extract x i=>rw[<-he x (by simp)];exact h
 case load t x=>rw[<-he x (by simp)];exact h
 case store t p x=>rw[<-he x (by simp),<-he p (by simp)];exact h
 case fieldAddr t x i=>rw[<-he x (by simp)];exact h
 case field t x i=>rw[<-he x (by simp)];exact h
 case build t ps=>
  rw[<-Ws (e:=e) (e':=e') (fun p j=>he p.2 (by simpa using ⟨p.1,Array.mem_toList_iff.1 j⟩))];exact h
 case buildSlice t n ps=>
  obtain⟨k,s,xs,h3,h⟩:=h;refine⟨k,s,xs,fun u=>?_,h⟩;obtain⟨g1,g2,m,r⟩:=h3 u;have j:∀p∈ps.toList,e p.2=e' p.2:=fun p j=>he p.2 (by simpa using ⟨p.1,Array.mem_toList_iff.1 j⟩)
  refine⟨g1,g2,?_,?_⟩
  ·rw[List.all_eq_true] at m ⊢;intro p g;rw[<-j p g];exact m p g
  rw[<-List.map_congr_left (f:=fun p=>(p.1,(e p.2).cs)) (fun p g=>by rw[j p g])];exact r
 case makeSlice t x y=>rw[<-he x (by simp),<-he y (by simp)];exact h
 case indexAddr t x i=>rw[<-he x (by simp),<-he i (by simp)];exact h
 case slice t x lo hi mx=>
  have k:∀y:Option Operand,(∀z,y=some z->e z=e' z)->y.map e=y.map e':=fun y w=>by cases y <;> simp;exact w _ rfl
  rw[<-he x (by simp),<-k lo (fun z l=>he z (by simp[l])),<-k hi (fun z l=>he z (by simp[l])),<-k mx (fun z l=>he z (by simp[l]))];exact h
 case binOp op t x y t'=>rw[<-he x (by simp),<-he y (by simp)];exact h
 case unOp op t x=>rw[<-he x (by simp)];exact h
 case convert src dst x=>rw[<-he x (by simp)];exact h
 case call c=>
  have a:c.args.toList.map e=c.args.toList.map e':=List.map_congr_left fun x v=>he x (by simp[Call.operands];exact .inr (by simpa using v))
  cases hc:c.callee with
  | builtin b=>simp only[hc] at h ⊢;rw[<-a];exact h
  | value f=>
   simp only[hc] at h ⊢;rw[<-a,<-he f (by simp[Call.operands,hc])];exact h
  | invoke _ _=>simp only[hc] at h
theorem Hy {bk Cd:Nat->Option AM} {id:Nat} (h:bk id=Cd id):AR bk id=AR Cd id:=by simp[AR,h]
theorem NP {bk Cd:Nat->Option AM} {c d:AC} (h:∀id∈Ci c,bk id=Cd id) (a:Fh bk c d):Fh Cd c d:=by
 cases c <;> first | exact a | skip
 case AS t id v off len=>obtain⟨l,b,f⟩:=a;exact⟨l,(h id (by simp[Ci])) ▸ b,f⟩
theorem VJ {bk Cd:Nat->Option AM}:∀{l m:List AC},(∀id∈l.flatMap Ci,bk id=Cd id)->BV (Fh bk) l m->BV (Fh Cd) l m
 | [],[],_,h=>h
 | c::l,_::_,b,h=>⟨NP (fun id a=>b id (by simp[a])) h.1,VJ (fun id a=>b id (by rw[List.flatMap_cons];exact List.mem_append_right _ a)) h.2⟩
 |[],_::_,_,h|_::_,[],_,h=>h
theorem L7 {bk Cd:Nat->Option AM}:∀{l m:List AV},(∀id∈Cb l,bk id=Cd id)->GK (Fh bk) l m->GK (Fh Cd) l m
 | [],[],_,h=>h
 | .one c::l,.one _::_,b,h=>⟨NP (fun id a=>b id (by simp[Cb,a])) h.1,L7 (fun id a=>b id (by simp[Cb,a])) h.2⟩
 | .agg cs::l,.agg _::_,b,h=>⟨VJ (fun id a=>b id (by rw[Cb];exact List.mem_append_left _ a)) h.1,L7 (fun id a=>b id (by rw[Cb];exact List.mem_append_right _ a)) h.2⟩
 |.AF _::_,.AF _::_,_,h|.one _::_,.agg _::_,_,h|.one _::_,.AF _::_,_,h|.agg _::_,.one _::_,_,h|.agg _::_,.AF _::_,_,h|.AF _::_,.one _::_,_,h|.AF _::_,.agg _::_,_,h=>h.1.elim
 |[],_::_,_,h|_::_,[],_,h=>h
theorem eW {E:Env} {g:FuncId} {args:List AV} {d:Nat} {bk Cd:Nat->Option AM} {f:B3} (hb:∀id∈f.rd,bk id=Cd id) (h:Jz E g args d bk (fun g=>g=f)):Jz E g args d Cd (fun g=>g=f):=by
 rcases h with⟨a,r,c,k,h⟩ |⟨a,r,c,k,h⟩ | h |⟨i,b,a,r,c,k,h⟩ |⟨i,b,a,r,c,k,h⟩
 rotate_left 3
 ·subst h;exact .inr (.inr (.inr (.inl ⟨i,b,a,r,fun u=>⟨(hb i (by simp)).symm.trans (c u).1,(c u).2⟩,k,rfl⟩)))
 ·subst h;refine .inr (.inr (.inr (.inr ⟨i,b,a,r,fun u=>?_,k,rfl⟩)));obtain⟨⟨g1,g2,l⟩,m⟩:=c u;refine⟨⟨g1,(hb i (by simp)).symm.trans g2,l⟩,L7 (fun id j=>hb id ?_) m⟩;have:=List.all_eq_true.1 l id j;simp at this;simp[this]
 ·subst h;exact .inl ⟨a,r,c,k,by rw[Hy (hb d (by simp))]⟩
 ·subst h;exact .inr (.inl ⟨a,r,fun u=>L7 (fun id j=>hb id (by simp[j])) (c u),k,by rw[Hy (hb d (by simp))]⟩)
 unfold Jz
 split at h
 ·split at h
  ·rename_i p
   split at h
   ·rename_i n
    split at h
    ·rename_i o
     obtain⟨a,r,b1,c,k,h⟩:=h;subst h;refine .inr (.inr (.inl ?_));have:=hb _ (List.mem_cons_self ..);rw[n] at this;simp only[<-this,if_pos o];exact⟨a,r,b1,fun u=>⟨(c u).1,L7 (fun id j=>hb id (by simp[j])) (c u).2⟩,k,rfl⟩
    exact h.elim
   exact h.elim
  exact h.elim
 exact h.elim
theorem fI {u:T} {x:AV} {lo d mx:Option AV} {bk Cd:Nat->Option AM} {f:B3} (hb:∀id∈f.rd,bk id=Cd id) (h:JE bk u x lo d mx (fun g=>g=f)):JE Cd u x lo d mx (fun g=>g=f):=by
 unfold JE at h ⊢
 split at h
 ·exact h
 ·obtain⟨i,h⟩:=h;refine⟨i,?_⟩
  split at h
  ·rename_i j
   obtain⟨a,b,c,k,h3⟩:=N0 h;have h3:=h3 _ _ ⟨rfl,rfl⟩;cases c <;> subst h3 <;> rw[if_pos ((Hy (hb _ (List.mem_singleton.2 rfl))).symm.trans j)] <;> exact h
  exact h.elim
 ·exact h
 exact h.elim
theorem VA {TI:TypeId->Info} {b:Builtin} {k:List TypeId} {args:List AV} {d:Nat} {bk Cd:Nat->Option AM} {f:B3} (hb:∀id∈f.rd,bk id=Cd id) (h:Fo TI b k args d bk (fun g=>g=f)):Fo TI b k args d Cd (fun g=>g=f):=by
 unfold Fo at h ⊢
 split at h
 ·exact h
 ·obtain⟨i,h⟩:=h
  split at h
  ·rename_i j
   have h3:=h _ ⟨rfl⟩;subst h3;exact⟨i,by rw[if_pos ((Hy (hb _ (List.mem_singleton.2 rfl))).symm.trans j)];exact h⟩
  exact h.elim
 ·obtain⟨i,h⟩:=h
  split at h
  ·rename_i j
   have h3:=h _ ⟨rfl⟩;subst h3;exact⟨i,by rw[if_pos ((Hy (hb _ (List.mem_singleton.2 rfl))).symm.trans j)];exact h⟩
  exact h.elim
 ·exact h
 ·exact h
 ·exact h
 ·obtain⟨i,l2,a,h⟩:=h;have h3:=h _ rfl;subst h3;refine⟨i,l2,fun u=>⟨NP (fun id c=>hb id (by simp[c])) (a u).1,(a u).2⟩,?_⟩;rw[<-Hy (hb d (by simp))];exact h
 ·obtain⟨i,h⟩:=h;refine⟨i,?_⟩
  split at h
  ·rename_i l
   split at h
   ·rename_i j
    obtain⟨l2,a,h⟩:=h;have h3:=h _ _ ⟨rfl,rfl⟩;subst h3;have:=hb _ (List.mem_cons_self ..);rw[l] at this;simp only[<-this,if_pos j];exact⟨l2,fun u=>⟨(a u).1,(a u).2.1,NP (fun id c=>hb id (by simp[c])) (a u).2.2.1,(a u).2.2.2⟩,h⟩
   exact h.elim
  exact h.elim
 ·obtain⟨i,h⟩:=h;refine⟨i,?_⟩
  split at h
  ·rename_i l
   split at h
   ·rename_i j
    obtain⟨l2,a,h⟩:=h;have h3:=h _ _ ⟨rfl,rfl⟩;subst h3;have:=hb _ (List.mem_cons_self ..);rw[l] at this;simp only[<-this,if_pos j];exact⟨l2,fun u=>⟨(a u).1,(a u).2.1,NP (fun id c=>hb id (by simp[c])) (a u).2.2.1,(a u).2.2.2⟩,h⟩
   exact h.elim
  exact h.elim
 exact h.elim
theorem fC {E:Env} {TI:TypeId->Info} {o:Oper} {d:Nat} {e:Operand->AV} {bk Cd:Nat->Option AM} {f:B3} (hb:∀id∈f.rd,bk id=Cd id) (h:Ca E TI o d e bk (fun g=>g=f)):Ca E TI o d e Cd (fun g=>g=f):=by
 have s:∀{id v:Nat},AR bk id=v->id∈f.rd->AR Cd id=v:=fun a k=>(Hy (hb _ k)).symm.trans a
 have m:∀{id:Nat} {b:AM},bk id=some b->id∈f.rd->Cd id=some b:=fun a k=>(hb _ k).symm.trans a
 unfold Ca at h ⊢;cases I:o.op <;> simp only[I] at h ⊢ <;> (try exact h)
 case nilCheck x=>
  split at h
  ·split at h
   ·rename_i j
    rw[if_pos (s j (by rw[<-h];simp))];exact h
   exact h.elim
  ·exact h
  exact h.elim
 case alloc t=>rw[<-Hy (hb d (by rw[<-h.2];simp))];exact h
 case box t x=>
  split at h
  ·exact h.elim
  ·exact h.elim
  rw[<-Hy (hb d (by rw[<-h];simp))];exact h
 case load t x=>
  simp only[MK] at h ⊢;obtain⟨a,h⟩:=h;refine⟨a,?_⟩
  split at h
  ·split at h
   ·rename_i w
    split at h
    ·rename_i j
     simp only[m w (by rw[<-h];simp),if_pos j];exact h
    exact h.elim
   exact h.elim
  ·exact h
  ·split at h
   ·rename_i w
    split at h
    ·rename_i j
     have h':=h;obtain⟨z,k,h⟩:=h
     split at h
     ·simp only[m w (by rw[<-h];simp),if_pos j];exact h'
     exact h.elim
    exact h.elim
   exact h.elim
  exact h.elim
 case store t p x=>
  obtain⟨a,h⟩:=h;refine⟨a,?_⟩
  split at h
  ·split at h
   ·exact h.elim
   ·exact h.elim
   ·rename_i w F G
    split at h
    ·rename_i j
     rw[m w (by rw[<-h];simp)]
     split
     ·rename_i B;exact (F _ B).elim
     ·rename_i B;exact (G B).elim
     ·rename_i A _ _;cases Option.some.inj A;rw[if_pos j];exact h
     rename_i p q r;first | exact (p _ _ rfl).elim | exact (q _ _ rfl).elim | exact (r _ _ rfl).elim
    exact h.elim
   exact h.elim
  ·split at h
   ·exact h.elim
   ·exact h.elim
   ·rename_i w F G
    split at h
    ·rename_i j
     have h':=h;obtain⟨z,k,h⟩:=h;rw[m w (by rw[<-h _ rfl];simp)]
     split
     ·rename_i B;exact (F _ B).elim
     ·rename_i B;exact (G B).elim
     ·rename_i A _ _;cases Option.some.inj A;rw[if_pos j];exact h'
     rename_i p q r;first | exact (p _ _ _ rfl).elim | exact (q _ _ _ rfl).elim | exact (r _ _ _ rfl).elim
    exact h.elim
   exact h.elim
  exact h.elim
 case fieldAddr t x i=>
  obtain⟨a,h⟩:=h;refine⟨a,?_⟩
  split at h
  ·split at h
   ·rename_i j;rw[if_pos (s j (by rw[<-h];simp))];exact h
   exact h.elim
  ·exact h
  ·split at h
   ·rename_i j;rw[if_pos (s j (by rw[<-h];simp))];exact h
   exact h.elim
  exact h.elim
 case buildSlice t n ps=>
  obtain⟨a,k,xs,h3,h | h⟩:=h
  ·rw[<-Hy (hb d (by rw[<-h];simp))];exact⟨a,k,xs,h3,.inl h⟩
  exact⟨a,k,xs,h3,.inr h⟩
 case makeSlice t x y=>
  obtain⟨a,h⟩:=h;refine⟨a,?_⟩
  split at h
  ·rw[<-Hy (hb d (by rw[<-h.2 _ _ ⟨rfl,rfl⟩];simp))];exact h
  exact h.elim
 case indexAddr t x i=>
  obtain⟨a,h⟩:=h;refine⟨a,?_⟩
  split at h
  ·exact h
  ·obtain⟨k,h⟩:=h
   split at h
   ·rename_i j;exact⟨k,by rw[if_pos (s j (by rw[<-h.2 _ rfl];simp))];exact h⟩
   exact h.elim
  exact h.elim
 case slice t x lo hi mx=>exact⟨h.1,fI hb h.2⟩
 case call c=>
  cases hc:c.callee with
  | builtin b=>
   simp only[hc] at h ⊢;rcases Jy.1 h with h |⟨u,h⟩
   ·exact Jy.2 (.inl (VA hb h))
   obtain⟨g,a,k⟩:=L6 (fun t l C=>absurd (QK u h) (by rw[C];exact (by decide:¬(1=2)))) h;obtain⟨t,id,v,n,l,J,_,_,H,D⟩:=Ss k;have h3:=VA (Cd:=Cd) (f:=g) (fun i hi=>hb i (by rw[<-H];exact hi)) (a _ rfl);obtain⟨g2,k1,k2⟩:=L6 (fun t l C=>absurd (QK u h) (by rw[C];exact (by decide:¬(1=2)))) h3;subst k2;exact Jy.2 (.inr ⟨u,k1 _ (D _ H)⟩)
  | value g=>
   simp only[hc] at h ⊢
   split at h
   ·exact eW hb h
   exact h.elim
  | invoke _ _=>simp only[hc] at h
end
end Go.Abs
