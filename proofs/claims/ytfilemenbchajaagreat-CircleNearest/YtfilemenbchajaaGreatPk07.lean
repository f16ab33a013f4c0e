/- Part 8 of a proof. Conditions: each theorem's own. -/
import Derived.Test.YtfilemenbchajaaGreatPk06
set_option linter.all false
set_option maxHeartbeats 8000000
set_option maxRecDepth 20000
namespace Go.Abs
open Go.RowKit
section
variable {P:Program} {TI:TypeId->Info}
theorem Jj {w0:World} {X:WX} {β:Nat->Option Nat} {s:St} {a:Act} {w:World} (S:BR w0 X β s a w) {J:Nat->Prop} (j:∀b,(cx X w β (AF s.bk)).I b->J b):
  ∀{l m:List AV} {vs:List Value},(∀id b,id∈Bw l->live (AF s.bk) id->β id=some b->b<w.heap.size->J b)->FT (D4 (AF s.bk)) l m->AY (BQ (cx X w β (AF s.bk))) l vs->AY (BQ (C7 w J)) m vs
 | [],[],[],_,_,_=>trivial
 | .one c::_,.one d::_,_::_,i,g,r=>⟨Or.inr (Vs S j (fun id b f=>i id b (by simp[Bw,f])) g.1 (BX r.1 (by intro e;subst e;exact g.1.elim))),Jj S j (fun id b f=>i id b (by simp[Bw,f])) g.2 r.2⟩
 | .agg c::_,.agg d::_,_::_,i,g,r=>by
  obtain⟨arr,e,k⟩:=r.1;refine⟨⟨arr,e,?_⟩,Jj S j (fun id b f=>i id b (by rw[Bw];exact List.mem_append_right _ f)) g.2 r.2⟩;exact all (fun id b f=>i id b (by rw[Bw];exact List.mem_append_left _ f)) g.1 k
 |[],_::_,_,_,g,_|_::_,[],_,_,g,_=>g.elim
 |.one _::_,.agg _::_,_,_,g,_|.one _::_,.AE _::_,_,_,g,_|.agg _::_,.one _::_,_,_,g,_|.agg _::_,.AE _::_,_,_,g,_|.AE _::_,.one _::_,_,_,g,_|.AE _::_,.agg _::_,_,_,g,_|.AE _::_,.AE _::_,_,_,g,_=>g.1.elim
 |[],[],_::_,_,_,r|.one _::_,.one _::_,[],_,_,r|.agg _::_,.agg _::_,[],_,_,r=>r.elim
where
 all:∀{l m:List AC} {vs:List Value},(∀id b,id∈l.flatMap B4->live (AF s.bk) id->β id=some b->b<w.heap.size->J b)->Aw (D4 (AF s.bk)) l m->AY (Az (cx X w β (AF s.bk))) l vs->AY (Az (C7 w J)) m vs
  | [],[],[],_,_,_=>trivial
  | _::_,_::_,_::_,i,h,r=>⟨Vs S j (fun id b f=>i id b (by rw[List.flatMap_cons];exact List.mem_append_left _ f)) h.1 r.1,all (fun id b f=>i id b (by rw[List.flatMap_cons];exact List.mem_append_right _ f)) h.2 r.2⟩
  |[],_::_,_,_,h,_|_::_,[],_,_,h,_=>h.elim
  |[],[],_::_,_,_,r|_::_,_::_,[],_,_,r=>r.elim
theorem OJ {x y:Cx} {lo:Nat} {bo:Option Nat} {d v:Nat} (h:∀b,x.I b->y.I b/\y.w.heap[b]? =x.w.heap[b]?) (hw:y.w=x.w) (a:v<=y.cv d) (f:v=y.cv d->y.β d=bo):∀{c:AC} {u:Value},Bt c=true->Cj x lo bo c u->Az y (Ea d v c) u
 | .own t l n,u,_,⟨i,base,cap,e,o,g,_,h3⟩=>by
  subst e;refine⟨⟨rfl,a⟩,fun j=>⟨base,cap,by rw[i],by omega,g,by simp,?_⟩⟩;rcases h3 with⟨_,_,rfl⟩ |⟨b,arr,e,rfl,_,rfl,k,m,_⟩
  ·exact .inl rfl
  exact .inr ⟨b,arr,e,f j,by simp,by rw[hw];exact k,by simpa using m⟩
 |.BZ,_,_,r|.int _ _,_,_,r|.bool _,_,_,r|.fn _,_,_,r|.nil,_,_,r=>r
 | .sl _ _,_,_,r=>CR h _ _ _ r
 |.AT _ _ _ _ _,_,e,_|.Cw _ _ _ _ _,_,e,_|.AD _ _ _,_,e,_|.Cd _ _ _ _ _,_,e,_|.C8 _ _ _,_,e,_|.ub _,_,e,_=>by simp[Bt,BD] at e
theorem AY.OI {x y:Cx} {lo:Nat} {bo:Option Nat} {d v:Nat} (h:∀b,x.I b->y.I b/\y.w.heap[b]? =x.w.heap[b]?) (hw:y.w=x.w) (a:v<=y.cv d) (c:v=y.cv d->y.β d=bo):
  ∀{cs:List AC} {us:List Value},cs.all Bt=true->AY (Cj x lo bo) cs us->AY (Az y) (cs.map (Ea d v)) us
 | [],[],_,_=>trivial
 | _::_,_::_,e,r=>by simp only[List.all_cons,Bool.and_eq_true] at e;exact⟨OJ h hw a c e.1 r.1,AY.OI h hw a c e.2 r.2⟩
 |[],_::_,_,r|_::_,[],_,r=>r.elim
theorem aA {x y:Cx} {lo:Nat} {bo:Option Nat} {d v:Nat} (h:∀b,x.I b->y.I b/\y.w.heap[b]? =x.w.heap[b]?) (hw:y.w=x.w) (a:v<=y.cv d) (i:v=y.cv d->y.β d=bo) {r:AV} {u:Value} (o:r.all Bt=true) (f:FP x lo bo r u):
  BQ y (HD d v r) u:=by
 cases r with
 | one c=>
  rcases f with rfl | f
  ·exact Or.inl rfl
  exact Or.inr (OJ h hw a i o f)
 | agg cs=>obtain⟨arr,e,f⟩:=f;exact⟨arr,e,AY.OI h hw a i o f⟩
 | AE xs=>
  obtain⟨arr,e,f⟩:=f;refine⟨arr,e,?_⟩
  have key:∀(xs:List (Bool×List AC)) (us:List Value),(xs.all fun x=>x.2.all Bt)=true->AY (fun z q=>Ey x lo bo (Cz z) q) xs us->AY (fun z q=>DH y (Cz z) q) (xs.map fun x=>(x.1,x.2.map (Ea d v))) us:=by
   intro xs
   induction xs with
   | nil=>intro us _ k;cases us <;> first | trivial | exact k.elim
   | cons z xs s=>
    intro us l k;cases us with
    | nil=>exact k.elim
    | cons q us=>
     simp only[List.all_cons,Bool.and_eq_true] at l;refine⟨?_,s us l.2 k.2⟩;obtain⟨g,cs⟩:=z;have m:=k.1;cases g with
     | true=>obtain⟨j,e',p⟩:=m;exact⟨j,e',AY.OI h hw a i l.1 p⟩
     | false=>
      cases cs with
      | nil=>exact Or.inl rfl
      | cons c cs=>
       simp only[List.all_cons,Bool.and_eq_true] at l;rcases m with n | m
       ·have n:c= .BZ:=n;subst n;exact Or.inl rfl
       exact Or.inr (OJ h hw a i l.1.1 m)
  exact key xs arr.toList o f
theorem KN {x:Cx} {lo:Nat} {bo:Option Nat} (d v:Nat):∀{cs:List AC} {us:List Value},AY (Cj x lo bo) cs us->DF d v cs=[]\/∃t l u,DF d v cs=[(d,.arr v t l)]/\OwnAt x lo bo t l u
 | [],[],_=> .inl rfl
 | c::cs,u::us,h=>by
  have a:=KN d v h.2;cases c with
  | own t l n=>exact .inr ⟨t,l,u,rfl,h.1.2⟩
  | _=>exact a
 |[],_::_,h|_::_,[],h=>h.elim
theorem MR (d v:Nat):∀(cs a:List AC),DF d v (cs++a)=match DF d v cs with | []=>DF d v a | x=>x
 | [],_=>by simp[DF]
 | c::cs,a=>by
  have:=MR d v cs a;cases c <;> simp[DF,this]
theorem UZ {x:Cx} {lo:Nat} {bo:Option Nat} (d v:Nat) {r:AV} {u:Value} (m:r.wf=true) (b:FP x lo bo r u):Gj d v r=[]\/∃t l f,Gj d v r=[(d,.arr v t l)]/\OwnAt x lo bo t l f:=by
 cases r with
 | one c=>
  rcases b with rfl | b
  ·exact .inl rfl
  exact KN d v (cs:=[c]) (us:=[u]) ⟨b,trivial⟩
 | agg cs=>obtain⟨arr,e,b⟩:=b;exact KN d v b
 | AE xs=>
  obtain⟨arr,e,b⟩:=b
  show DF d v _=[]\/_
  have key:∀(xs:List (Bool×List AC)) (us:List Value),AY (fun z q=>Ey x lo bo (Cz z) q) xs us->(∀z∈xs,z.1=false->z.2.length<=1)->DF d v (xs.flatMap (·.2))=[]\/∃t l f,DF d v (xs.flatMap (·.2))=[(d,.arr v t l)]/\OwnAt x lo bo t l f:=by
   intro xs
   induction xs with
   | nil=>intro us _ _;exact .inl rfl
   | cons z xs y=>
    intro us j h;cases us with
    | nil=>exact j.elim
    | cons q us=>
     have p:=y us j.2 (fun z' n=>h z' (by simp[n]))
     have a:DF d v z.2=[]\/∃t l f,DF d v z.2=[(d,.arr v t l)]/\OwnAt x lo bo t l f:=by
      obtain⟨g,cs⟩:=z;have a:=j.1;cases g with
      | true=>obtain⟨o,e',k⟩:=a;exact KN d v k
      | false=>
       have w:=h (false,cs) (by simp) rfl
       match cs,w with
       | [],_=>exact .inl rfl
       | [c],_=>
        rcases a with i | a
        ·have i:c= .BZ:=i;subst i;exact .inl rfl
        exact KN d v (cs:=[c]) (us:=[q]) ⟨a,trivial⟩
     rw[List.flatMap_cons,MR];rcases a with a |⟨t,l,f,a,h3⟩
     ·rw[a];exact p
     rw[a];exact .inr ⟨t,l,f,rfl,h3⟩
  refine key xs arr.toList b fun z h s=>?_
  have:=List.all_eq_true.1 m z h;simpa [s] using this
theorem MS {d v:Nat}:∀{cs:List AC},DF d v cs=[]->cs.all Bt=true->cs.all BD=true/\cs.map (Ea d v)=cs
 | [],_,_=>⟨rfl,rfl⟩
 | c::cs,h,a=>by
  simp only[List.all_cons,Bool.and_eq_true] at a;cases c with
  | own t l n=>simp[DF] at h
  |AT _ _ _ _ _|Cw _ _ _ _ _|AD _ _ _|Cd _ _ _ _ _|C8 _ _ _|ub _=>exact absurd a.1 (by simp[Bt,BD])
  | _=>obtain⟨b,f⟩:=MS (cs:=cs) h a.2;exact⟨by simp[b,BD],by simp[Ea,f]⟩
theorem PQ {x y:Cx} {lo:Nat} {bo:Option Nat} (h:∀b,x.I b->y.I b/\y.w.heap[b]? =x.w.heap[b]?):∀{c:AC} {u:Value},BD c=true->Cj x lo bo c u->Az y c u
 |.BZ,_,_,r|.int _ _,_,_,r|.bool _,_,_,r|.fn _,_,_,r|.nil,_,_,r=>r
 | .sl _ _,_,_,r=>CR h _ _ _ r
 |.AT _ _ _ _ _,_,e,_|.Cw _ _ _ _ _,_,e,_|.AD _ _ _,_,e,_|.Cd _ _ _ _ _,_,e,_|.C8 _ _ _,_,e,_|.ub _,_,e,_|.own _ _ _,_,e,_=>by simp[BD] at e
theorem AY.PO {x y:Cx} {lo:Nat} {bo:Option Nat} (h:∀b,x.I b->y.I b/\y.w.heap[b]? =x.w.heap[b]?):∀{cs:List AC} {us:List Value},cs.all BD=true->AY (Cj x lo bo) cs us->AY (Az y) cs us
 | [],[],_,_=>trivial
 | _::_,_::_,e,r=>by simp only[List.all_cons,Bool.and_eq_true] at e;exact⟨PQ h e.1 r.1,AY.PO h e.2 r.2⟩
 |[],_::_,_,r|_::_,[],_,r=>r.elim
theorem cp {d v:Nat} {cs a:List AC} (h:DF d v (cs++a)=[]):DF d v cs=[]/\DF d v a=[]:=by
 rw[MR] at h
 split at h
 ·rename_i e;exact⟨e,h⟩
 rename_i e;exact absurd h e
theorem Sz {x y:Cx} {lo:Nat} {bo:Option Nat} {d v:Nat} {r:AV} {u:Value} (l:Gj d v r=[]) (m:r.all Bt=true/\r.wf=true) (h:∀b,x.I b->y.I b/\y.w.heap[b]? =x.w.heap[b]?) (i:FP x lo bo r u):BQ y (HD d v r) u:=by
 cases r with
 | one c=>
  obtain⟨f,a⟩:=MS (cs:=[c]) l (by simpa [AV.all] using m.1);have a:Ea d v c=c:=by simpa using a
  show BQ y (.one (Ea d v c)) u
  rw[a];exact i.imp (fun q=>q) (PQ h (by simpa using f))
 | agg cs=>
  obtain⟨arr,e,i⟩:=i;obtain⟨f,a⟩:=MS l m.1;refine⟨arr,e,?_⟩;rw[a];exact AY.PO h f i
 | AE xs=>
  obtain⟨arr,e,i⟩:=i;refine⟨arr,e,?_⟩
  have key:∀(xs:List (Bool×List AC)) (us:List Value),DF d v (xs.flatMap (·.2))=[]->(xs.all fun x=>x.2.all Bt)=true->AY (fun z q=>Ey x lo bo (Cz z) q) xs us->AY (fun z q=>DH y (Cz z) q) (xs.map fun x=>(x.1,x.2.map (Ea d v))) us:=by
   intro xs
   induction xs with
   | nil=>intro us _ _ k;cases us <;> first | trivial | exact k.elim
   | cons z xs s=>
    intro us p o k;cases us with
    | nil=>exact k.elim
    | cons q us=>
     simp only[List.all_cons,Bool.and_eq_true] at o;rw[List.flatMap_cons] at p;obtain⟨t,A⟩:=cp p;refine⟨?_,s us A o.2 k.2⟩;obtain⟨f,a⟩:=MS t o.1;obtain⟨g,cs⟩:=z;have h3:=k.1;simp only at a
     show DH y (Cz (g,cs.map (Ea d v))) q
     rw[a];cases g with
     | true=>obtain⟨j,e',n⟩:=h3;exact⟨j,e',AY.PO h f n⟩
     | false=>
      cases cs with
      | nil=>exact Or.inl rfl
      | cons c cs=>
       simp only[List.all_cons,Bool.and_eq_true] at f;exact h3.imp (fun q=>q) (PQ h f.1)
  exact key xs arr.toList l m.1 i
theorem OY {X:WX} {w:World} {β:Nat->Option Nat} {bk:Nat->Option AM} {I:Nat->Prop} {id vv:Nat} (a:vv=AW bk id):∀{c:AC} {v:Value},Ma c=some (id,vv)->Az (cx X w β bk) c v->Az (B5 w (β id) I) (Gm 0 0 c) v
 | .AT t i b off len,_,h,r=>by
  simp only[Ma,Option.some.injEq,Prod.mk.injEq] at h;obtain⟨rfl,rfl⟩:=h;exact⟨⟨r.1.1,Nat.le_refl _⟩,fun _=>r.2 a⟩
 | .AD i b off,_,h,r=>by
  simp only[Ma,Option.some.injEq,Prod.mk.injEq] at h;obtain⟨rfl,rfl⟩:=h;exact⟨⟨r.1.1,Nat.le_refl _⟩,fun _=>r.2 a⟩
 |.BZ,_,h,_|.int _ _,_,h,_|.bool _,_,h,_|.fn _,_,h,_|.nil,_,h,_|.sl _ _,_,h,_|.Cw _ _ _ _ _,_,h,_|.Cd _ _ _ _ _,_,h,_|.C8 _ _ _,_,h,_|.ub _,_,h,_|.own _ _ _,_,h,_=>by cases h
theorem TS {X:WX} {w:World} {β:Nat->Option Nat} {bk:Nat->Option AM} {id:Nat} {J:Nat->Prop} (d:∀b,(cx X w β bk).I b->J b/\w.heap[b]? =w.heap[b]?):∀{b:AM},(b.Dj 0).lone=true->Ci (cx X w β bk) id b->Ci (B5 w (β id) J) 0 (b.Dj 0)
 | .dead _,h,_=>by simp[AM.Dj,AM.lone] at h
 | .var _ cs,h,⟨b,arr,e,a,c,h3⟩=>⟨b,arr,e,a,c,AY.pure (x:=cx X w β bk) (y:=B5 w (β id) J) d (by simpa [AM.Dj,AM.lone] using h) h3⟩
 | .arr _ t l,_,h=>h.imp (fun q=>q) fun⟨b,arr,e,a,c,h3⟩=>⟨b,arr,e,a,c,fun i y f=>by
  obtain⟨us,g,j⟩:=h3 i y f;exact⟨us,CR (w':=w) d _ _ _ g,j⟩⟩
theorem Md {w w':World} {I d:Nat->Prop}:∀(t:T) (x:el t) (vs:List Value),t.flat=true->rep w I t x vs->rep w' d t x vs
 |.u8,_,_,_,c|.u32,_,_,_,c|.u64,_,_,_,c|.i8,_,_,_,c|.i64,_,_,_,c|.bool,_,_,_,c=>c
 | .sl t,_,_,h,_=>by simp[T.flat] at h
 | .pr a b,x,_,h,⟨v1,v2,e,f,g⟩=>by
  simp only[T.flat,Bool.and_eq_true] at h;exact⟨v1,v2,e,Md a x.1 v1 h.1 f,Md b x.2 v2 h.2 g⟩
theorem gZ {X:WX} {w':World} {β:Nat->Option Nat} {B3:Nat->Option AM} {ob:Option Nat} {J:Nat->Prop} {id vv:Nat} (a:ob=β id):∀{b:AM},Lp b=true->Ci (B5 w' ob J) 0 b->Ci (cx X w' β B3) id (b.Dj vv)
 |.dead _,h,_|.var v cs,h,_=>by simp[Lp] at h
 | .arr _ t l,f,h=>h.imp (fun q=>⟨(show β id=none by rw[<-a];exact q.1),q.2⟩) fun⟨b,arr,e,c,d,h3⟩=>⟨b,arr,e,(show β id=some b by rw[<-a];exact c),d,fun i y g=>by
  obtain⟨us,j,k⟩:=h3 i y g;exact⟨us,Md _ _ _ f j,k⟩⟩
theorem P3 {X:WX} {w':World} {β:Nat->Option Nat} {B3:Nat->Option AM} {ob:Option Nat} {J:Nat->Prop} {id vv:Nat} (a:ob=β id) (b:vv=AW B3 id):
  ∀{c:AC} {u:Value},Bg c=true->Az (B5 w' ob J) c u->Az (cx X w' β B3) (Gm id vv c) u
 | .AT t i v off len,_,h,r=>by
  match i,v,h,r with
  | 0,0,_,r=>exact⟨⟨r.1.1,Nat.le_of_eq b⟩,fun _=>by have:=r.2 rfl;show Fy w' (β id) _ _ _ _ _;rw[<-a];exact this⟩
  |0,_+1,h,_|_+1,_,h,_=>simp[Bg] at h
 |.int _ _,_,_,r|.bool _,_,_,r|.fn _,_,_,r|.nil,_,_,r=>r
 |.Cw _ _ _ _ _,_,h,_|.AD _ _ _,_,h,_|.BZ,_,h,_|.sl _ _,_,h,_|.Cd _ _ _ _ _,_,h,_|.C8 _ _ _,_,h,_|.ub _,_,h,_|.own _ _ _,_,h,_=>by simp[Bg] at h
theorem AY.P2 {X:WX} {w':World} {β:Nat->Option Nat} {B3:Nat->Option AM} {ob:Option Nat} {J:Nat->Prop} {id vv:Nat} (a:ob=β id) (b:vv=AW B3 id):
  ∀{cs:List AC} {us:List Value},cs.all Bg=true->AY (Az (B5 w' ob J)) cs us->AY (Az (cx X w' β B3)) (cs.map (Gm id vv)) us
 | [],[],_,_=>trivial
 | _::_,_::_,e,r=>by simp only[List.all_cons,Bool.and_eq_true] at e;exact⟨P3 a b e.1 r.1,AY.P2 a b e.2 r.2⟩
 |[],_::_,_,r|_::_,[],_,r=>r.elim
theorem ga {X:WX} {w':World} {β:Nat->Option Nat} {B3:Nat->Option AM} {ob:Option Nat} {J:Nat->Prop} {id vv:Nat} (b:ob=β id) (j:vv=AW B3 id) {r:AV} {u:Value}
  (h:r.all Bg=true) (a:BQ (B5 w' ob J) r u):BQ (cx X w' β B3) (Uz id vv r) u:=by
 cases r with
 | one c=>
  rcases a with rfl | a
  ·exact Or.inl rfl
  exact Or.inr (P3 b j h a)
 | agg cs=>obtain⟨arr,e,a⟩:=a;exact⟨arr,e,AY.P2 b j h a⟩
 | AE xs=>
  obtain⟨arr,e,a⟩:=a;refine⟨arr,e,?_⟩
  have key:∀(xs:List (Bool×List AC)) (us:List Value),(xs.all fun x=>x.2.all Bg)=true->AY (fun z q=>DH (B5 w' ob J) (Cz z) q) xs us->AY (fun z q=>DH (cx X w' β B3) (Cz z) q) (xs.map fun x=>(x.1,x.2.map (Gm id vv))) us:=by
   intro xs
   induction xs with
   | nil=>intro us _ f;cases us <;> first | trivial | exact f.elim
   | cons z xs m=>
    intro us i f;cases us with
    | nil=>exact f.elim
    | cons q us=>
     simp only[List.all_cons,Bool.and_eq_true] at i;refine⟨?_,m us i.2 f.2⟩;obtain⟨g,cs⟩:=z;have h3:=f.1;cases g with
     | true=>obtain⟨d,e',l⟩:=h3;exact⟨d,e',AY.P2 b j i.1 l⟩
     | false=>
      cases cs with
      | nil=>exact Or.inl rfl
      | cons c cs=>
       simp only[List.all_cons,Bool.and_eq_true] at i;rcases h3 with k | h3
       ·have k:c= .BZ:=k;subst k;exact Or.inl rfl
       exact Or.inr (P3 b j i.1.1 h3)
  exact key xs arr.toList h a
theorem cQ {X:WX} {w:World} {β:Nat->Option Nat} {s:St} {d b k:Nat} {bo:Option Nat} {BO:AM} {j:Bool} {J:Nat->Prop} (g:d<s.bk.length) (m:(j=false/\J b)\/w.heap.size<=b) (n:bo≠some b)
  (o:∀b,J b->j=false->(cx X w β (AF s.bk)).I b) (c:∀k b,live (AF s.bk) k->β k=some b->b<w.heap.size) (f:live (AF (BG s.bk d (some BO))) k) (a:(if k=d then bo else β k)=some b):False:=by
 rw[GF _ _ _ g] at f
 by_cases h:k=d
 ·simp[h] at a;exact n a
 simp only[h,if_false] at f a;rcases m with⟨i,l⟩ | i
 ·exact (o b l i).1.2 k f a
 have:=c k b f a;omega
theorem VY:∀(l:List (Option AM)) (id:Nat) (b:AM),AF l id=some b->BG l id (some b)=l
 | [],_,_,h=>by simp[AF] at h
 | a::l,0,b,h=>by rw[BG,show a=some b from h]
 | a::l,n+1,b,h=>by rw[BG,VY l n b h]
theorem TR {X:WX} {w:World} {β:Nat->Option Nat} {bk:Nat->Option AM} {id v:Nat} (j:v=AW bk id):∀{c d:AC} {u:Value},L4 id v c d->Az (cx X w β bk) c u->Az (B5 w (β id) (cx X w β bk).I) d u
 |.AT t i g off len,_,_,⟨⟨a,f⟩,h3⟩,r|.AD i g off,_,_,⟨⟨a,f⟩,h3⟩,r=>by subst a f h3;exact OY (vv:=g) j rfl r
 |.int _ _,_,_,h,r|.bool _,_,_,h,r|.fn _,_,_,h,r=>by rw[show _=_ from h];exact r
 | .sl t l,_,u,h,r=>by
  rw[show _=_ from h];exact CR (w':=w) (fun b hb=>⟨hb,rfl⟩) (.sl t) l [u] r
 | .nil,_,_,h,r=>by
  rcases h with rfl |⟨t,rfl⟩
  ·exact r
  rw[show _=_ from r];exact⟨none,0,rfl,Nat.le_refl _,by simp,.inl rfl⟩
 |.BZ,_,_,h,_|.Cw _ _ _ _ _,_,_,h,_|.Cd _ _ _ _ _,_,_,h,_|.C8 _ _ _,_,_,h,_|.ub _,_,_,h,_|.own _ _ _,_,_,h,_=>h.elim
theorem RJ {X:WX} {w:World} {β:Nat->Option Nat} {bk:Nat->Option AM} {id v:Nat} (a:v=AW bk id):∀{l m:List AC} {vs:List Value},Aw (L4 id v) l m->AY (Az (cx X w β bk)) l vs->AY (Az (B5 w (β id) (cx X w β bk).I)) m vs
 | [],[],[],_,_=>trivial
 | _::_,_::_,_::_,h,r=>⟨TR a h.1 r.1,RJ a h.2 r.2⟩
 |[],_::_,_,h,_|_::_,[],_,h,_=>h.elim
 |[],[],_::_,_,r|_::_,_::_,[],_,r=>r.elim
theorem Ng {X:WX} {w:World} {β:Nat->Option Nat} {bk:Nat->Option AM} {id v:Nat} (a:v=AW bk id):∀{l m:List AV} {vs:List Value},FT (L4 id v) l m->AY (BQ (cx X w β bk)) l vs->AY (BQ (B5 w (β id) (cx X w β bk).I)) m vs
 | [],[],[],_,_=>trivial
 | .one c::_,.one d::_,_::_,h,r=>⟨.inr (TR a h.1 (BX r.1 (by intro e;subst e;exact h.1.elim))),Ng a h.2 r.2⟩
 | .agg c::_,.agg d::_,_::_,h,r=>by
  obtain⟨arr,e,b⟩:=r.1;exact⟨⟨arr,e,RJ a h.1 b⟩,Ng a h.2 r.2⟩
 |[],_::_,_,h,_|_::_,[],_,h,_=>h.elim
 |.one _::_,.agg _::_,_,h,_|.one _::_,.AE _::_,_,h,_|.agg _::_,.one _::_,_,h,_|.agg _::_,.AE _::_,_,h,_|.AE _::_,.one _::_,_,h,_|.AE _::_,.agg _::_,_,h,_|.AE _::_,.AE _::_,_,h,_=>h.1.elim
 |[],[],_::_,_,r|.one _::_,.one _::_,[],_,r|.agg _::_,.agg _::_,[],_,r=>r.elim
theorem gY {y:Cx} {w':World} {ob:Option Nat} {J:Nat->Prop} {id:Nat} (g:∀k,J k->y.I k) (hw:y.w=w') (a:y.β id=ob):∀{b:AM},(b.Dj 0).lone=true->Ci (B5 w' ob J) 0 (b.Dj 0)->Ci y id b
 | .dead _,h,_=>by simp[AM.Dj,AM.lone] at h
 | .var _ cs,h,⟨b,arr,e,c,d,h3⟩=>⟨b,arr,e,a.trans c,by rw[hw];exact d,AY.pure (x:=B5 w' ob J) (y:=y) (fun k f=>⟨g k f,by rw[hw];rfl⟩) (by simpa [AM.Dj,AM.lone] using h) h3⟩
 | .arr _ t l,_,h=>h.imp (fun q=>⟨a.trans q.1,q.2⟩) fun⟨b,arr,e,c,d,h3⟩=>⟨b,arr,e,a.trans c,by rw[hw];exact d,fun i z j=>by
  obtain⟨us,m,n⟩:=h3 i z j;exact⟨us,CR (w':=y.w) (fun k f=>⟨g k f,by rw[hw];rfl⟩) _ _ _ m,by rw[hw];exact n⟩⟩
theorem dJ {x y:Cx} (h:∀b,x.I b->y.I b/\y.w.heap[b]? =x.w.heap[b]?) {r:AV} {u:Value} (j:r.all BD=true) (a:BQ x r u):BQ y r u:=by
 cases r with
 | one c=>exact a.imp (fun q=>q) (KQ h j)
 | agg cs=>obtain⟨arr,e,a⟩:=a;exact⟨arr,e,AY.pure h j a⟩
 | AE xs=>
  obtain⟨arr,e,a⟩:=a;refine⟨arr,e,?_⟩
  have key:∀(xs:List (Bool×List AC)) (us:List Value),(xs.all fun x=>x.2.all BD)=true->AY (fun z q=>DH x (Cz z) q) xs us->AY (fun z q=>DH y (Cz z) q) xs us:=by
   intro xs
   induction xs with
   | nil=>intro us _ f;cases us <;> first | trivial | exact f.elim
   | cons z xs l=>
    intro us i f;cases us with
    | nil=>exact f.elim
    | cons q us=>
     simp only[List.all_cons,Bool.and_eq_true] at i;refine⟨?_,l us i.2 f.2⟩;obtain⟨g,cs⟩:=z;have h3:=f.1;cases g with
     | true=>obtain⟨d,e',k⟩:=h3;exact⟨d,e',AY.pure h i.1 k⟩
     | false=>
      cases cs with
      | nil=>exact Or.inl rfl
      | cons c cs=>
       simp only[List.all_cons,Bool.and_eq_true] at i;exact h3.imp (fun q=>q) (KQ h i.1.1)
  exact key xs arr.toList j a
theorem Sy {d v:Nat}:∀{c:AC},BD c=true->Ea d v c=c
 | .own _ _ _,h=>by simp[BD] at h
 |.BZ,_|.int _ _,_|.bool _,_|.fn _,_|.nil,_|.sl _ _,_|.AT _ _ _ _ _,_|.Cw _ _ _ _ _,_|.AD _ _ _,_|.Cd _ _ _ _ _,_|.C8 _ _ _,_|.ub _,_=>rfl
theorem J4 {d v:Nat}:∀{cs:List AC},cs.all BD=true->cs.map (Ea d v)=cs/\DF d v cs=[]
 | [],_=>⟨rfl,rfl⟩
 | c::cs,h=>by
  simp only[List.all_cons,Bool.and_eq_true] at h;obtain⟨a,b⟩:=J4 (d:=d) (v:=v) h.2;refine⟨by rw[List.map_cons,Sy h.1,a],?_⟩;cases c <;> first | exact b | simp[BD] at h
theorem OK {d v:Nat}:∀{xs:List (Bool×List AC)},(xs.all fun x=>x.2.all BD)=true->(xs.map fun x=>(x.1,x.2.map (Ea d v)))=xs/\DF d v (xs.flatMap (·.2))=[]
 | [],_=>⟨rfl,rfl⟩
 | x::xs,h=>by
  simp only[List.all_cons,Bool.and_eq_true] at h;obtain⟨a,b⟩:=OK (d:=d) (v:=v) h.2;obtain⟨h3,c⟩:=J4 (d:=d) (v:=v) h.1;exact⟨by rw[List.map_cons,h3,a],by rw[List.flatMap_cons,MR,c];exact b⟩
theorem S3 {d v:Nat} {r:AV} (h:r.all BD=true):HD d v r=r/\Gj d v r=[]:=by
 cases r with
 | one c=>exact⟨congrArg AV.one (Sy h),(J4 (cs:=[c]) (by simpa [AV.all] using h)).2⟩
 | agg cs=>exact⟨congrArg AV.agg (J4 h).1,(J4 h).2⟩
 | AE xs=>exact⟨congrArg AV.AE (OK h).1,(OK h).2⟩
theorem fF (o:Oper) {c:Call} {x:Operand} (ho:o.op= .call c) (hc:c.callee= .value x):Sound P (env P) TI o:=by
 intro w0 X β s a w S f h N Q hN;simp only[Bv,ho,hc] at h;have hx:=CU S.Bx x;have B:=Nh (CU S.Bx) c.args.toList;have hU:c.args.map a.eval=(c.args.toList.map a.eval).toArray:=Array.ext' (by simp);have al:∀b,(cx X w β (AF s.bk)).I b->b<w.heap.size:=fun b hb=>hb.1.1
 have Y:∀b o,w.heap[b]? =some o->b<w.heap.size:=fun b o h=>by
  rcases Nat.lt_or_ge b w.heap.size with h' | h'
  ·exact h'
  simp[Array.getElem?_eq_none h'] at h
 have R:∀k b,live (AF s.bk) k->β k=some b->b<w.heap.size:=fun k b ⟨ag,D,hl⟩ hb=>by
  have r:=S.blocks k ag D;cases ag with
  | dead _=>simp[AM.live] at hl
  | var _ _=>obtain⟨b',arr,e,L,U,_⟩:=r;obtain rfl:b=b':=Option.some.inj (hb.symm.trans L);exact Y b _ U
  | arr _ _ _=>
   rcases r with⟨L,_⟩ |⟨b',arr,e,L,U,_⟩
   ·exact absurd (hb.symm.trans L) (by simp)
   obtain rfl:b=b':=Option.some.inj (hb.symm.trans L);exact Y b _ U
 split at h
 case h_2=>exact h.elim
 rename_i g he
 rw[he] at hx;have af:a.eval x= .func (.func g) #[] #[]:=BX hx (by simp)
 have after:∀(fl:Bool) (r:AV) (rd:List Nat) (J:Nat->Prop),(∀b,J b->fl=false->(cx X w β (AF s.bk)).I b)->Callee P g->(r.all Bt=true/\r.wf=true)->
   Calls P g (c.args.map a.eval) w (fun e w'=>∃u bo,e= .returned u/\Below w.heap.size w w'/\FP (C7 w' fun b=>((fl=false/\J b)\/w.heap.size<=b)/\b<w'.heap.size/\bo≠some b) w.heap.size bo r u)->
   f=⟨HD (BS o) (AW (AF s.bk) (BS o)+1) r,Gj (BS o) (AW (AF s.bk) (BS o)+1) r,rd⟩->o.wp P a w N Q:=by
  intro fl r rd J hJ z H n hf;have hA:∀b,((fl=false/\J b)\/w.heap.size<=b)->X.A b:=fun b hb=>hb.elim (fun q=>(hJ b q.2 q.1).2) fun q=>S.fresh b (Nat.le_trans S.size q)
  subst hf;refine M4 ho hc af z n fun e w' ⟨u,bo,he,hb,hr⟩=>⟨u,he,?_⟩
  have F:∀b,b<w.heap.size->w'.heap[b]? =w.heap[b]? :=hb.block
  by_cases C:BS o<s.bk.length
  ·rcases UZ (BS o) (AW (AF s.bk) (BS o)+1) H.2 hr with h0 |⟨t,l,u',h0,L⟩
   ·rw[h0] at hN
    have aB:∀{y:Cx},y.w=w'->(∀b,(C7 w' fun b=>((fl=false/\J b)\/w.heap.size<=b)/\b<w'.heap.size/\bo≠some b).I b->y.I b)->BQ y (HD (BS o) (AW (AF s.bk) (BS o)+1) r) u:=by
     intro y hw hI;exact Sz h0 H (fun b hb=>⟨hI b hb,by rw[hw];rfl⟩) hr
    refine hN β _ w' (S.ext F hb.size hb.os hb.tape hb.output (aB rfl fun b m=>⟨⟨m.2.1,fun k D aa=>?_⟩,hA b m.1⟩));rcases m.1 with⟨e1,e2⟩ | e1
    ·exact (hJ b e2 e1).1.2 k D aa
    have:=R k b D aa;omega
   rw[h0] at hN;obtain⟨base,cap,e,k1,k2,ay,k3⟩:=L
   have ak:∀b,(((fl=false/\J b)\/w.heap.size<=b)/\b<w'.heap.size/\bo≠some b)->
     (cx X w' (fun k=>if k=BS o then bo else β k) (AF (BG s.bk (BS o) (some (.arr (AW (AF s.bk) (BS o)+1) t l))))).I b/\w'.heap[b]? =w'.heap[b]? :=
    fun b m=>⟨⟨⟨m.2.1,fun k D aa=>cQ C m.1 m.2.2 hJ R D aa⟩,hA b m.1⟩,rfl⟩
   refine hN (fun k=>if k=BS o then bo else β k) _ w' (S.write C ay (fun k D=>by simp[D]) (by simp[AM.AW]) (fun e=>by simp[AM.AW] at e) (fun b m _=>F b m) hb.size
    (fun b arr e O=>⟨arr,(F b (Y b _ O)).trans O,rfl⟩) hb.os hb.tape hb.output (fun _ b m=> .inr ?_) (fun hle=>?_) (fun hle=>?_))
   ·simp at m;rcases k3 with⟨W,_⟩ |⟨b',arr,e',W,q2,_⟩
    ·rw[W] at m;cases m
    rw[W] at m;obtain rfl:=Option.some.inj m;exact q2
   ·rcases k3 with⟨W,q2,_⟩ |⟨b',arr,e',W,q2,q3,q4,q5,q6⟩
    ·exact Or.inl ⟨by show (if BS o=BS o then _ else _)=_;simp[W],q2⟩
    refine Or.inr ⟨b',arr,e',by show (if BS o=BS o then _ else _)=_;simp[W],q4,fun i y hy=>?_⟩;obtain⟨us,p1,p2⟩:=q6 i y hy;exact⟨us,CR (w':=w') ak _ _ _ p1,p2⟩
   refine aA (x:=C7 w' fun b=>((fl=false/\J b)\/w.heap.size<=b)/\b<w'.heap.size/\bo≠some b) (lo:=w.heap.size) (bo:=bo) ak rfl ?_ ?_ H.1 hr
   ·show _<=AW _ (BS o);rw[Eg _ _ _ C,if_pos rfl];simp[AM.AW]
   intro _;show (if BS o=BS o then _ else _)=_;simp
  have G:s.bk.length<=BS o:=Nat.le_of_not_lt C
  have aE:s.app o.dst ⟨HD (BS o) (AW (AF s.bk) (BS o)+1) r,Gj (BS o) (AW (AF s.bk) (BS o)+1) r,rd⟩=s.app none ⟨.one .BZ,[],rd⟩:=by
   have e1:∀v,Ed s.sl o.dst v=s.sl:=fun v=>by
    cases hd:o.dst with
    | none=>rfl
    | some q=>simp[BS,hd] at G;simp[Ed,Gr s.sl q v (by rw[S.len,<-S.Gf];exact G)]
   have e2:CZ (Gj (BS o) (AW (AF s.bk) (BS o)+1) r) s.bk=s.bk:=by
    rcases UZ (BS o) (AW (AF s.bk) (BS o)+1) H.2 hr with h0 |⟨t,l,u',h0,_⟩
    ·rw[h0];rfl
    rw[h0];simp[CZ,Gr _ _ _ G]
   simp only[St.app,e1,e2];rfl
  have ha:a.put o.dst u=a.put none undef:=by
   cases hd:o.dst with
   | none=>rfl
   | some q=>
    simp[BS,hd] at G;have:a.tmps.size<=q:=by rw[<-S.Gf];exact G
    simp[Act.put,Array.setIfInBounds_eq_of_size_le this]
  rw[ha];exact hN β _ w' (by rw[aE];exact S.ext F hb.size hb.os hb.tape hb.output (HX _ _))
 rcases h with⟨K,r,L,U,h⟩ |⟨K,r,L,U,h⟩ | h |⟨id,BO,K,r,L,U,h⟩ |⟨id,BO,K,r,L,U,h⟩
 ·obtain⟨z,H,M⟩:=U ();have:=M w (cx X w β (AF s.bk)).I (c.args.toList.map a.eval) al (Nf (x:=cx X w β (AF s.bk)) (y:=C7 w (cx X w β (AF s.bk)).I) (fun b hb=>⟨hb,rfl⟩) (L ()) B);exact after false r _ _ (fun b hb _=>hb) z H (by rw[hU];exact this) h.symm
 ·obtain⟨z,H,M⟩:=U ();have:=M w (fun b=>b<w.heap.size) (c.args.toList.map a.eval) (fun b hb=>hb) (Jj S (fun b hb=>hb.1.1) (fun _ _ _ _ _ h=>h) (L ()) B);exact after true r _ (fun b=>b<w.heap.size) (fun b _ e=>by cases e) z H (by rw[hU];exact this) h.symm
 ·generalize hA:c.args.toList.map (ev s.sl)=A at h B
  generalize hV:c.args.toList.map a.eval=V at B hU
  split at h
  case h_2=>exact h.elim
  rename_i c0 rest
  split at h
  case h_2=>exact h.elim
  rename_i id vv aq
  split at h
  case h_2=>exact h.elim
  rename_i BO hb
  split at h
  case isFalse=>exact h.elim
  rename_i ar
  obtain⟨K,r,b1,L,U,h⟩:=h;obtain⟨az,L⟩:=L ();obtain⟨U,av,ax⟩:=U ();obtain⟨z,⟨aH,aI,aw,aJ⟩,M⟩:=U
  match V,B with
  | v0::vs,⟨aC,aD⟩=>
  have aG:vv=AW (AF s.bk) id:=by rw[ET hb];exact ar.symm
  have C:id<s.bk.length:=by
   rcases Nat.lt_or_ge id s.bk.length with G | G
   ·exact G
   rw[HN _ _ G] at hb;cases hb
  have p:live (AF s.bk) id:=by
   refine⟨BO,hb,?_⟩;cases BO <;> simp_all [AM.live,AM.lone,AM.Dj]
  have a8:∀b,(cx X w β (AF s.bk)).I b->(b<w.heap.size/\β id≠some b)/\w.heap[b]? =w.heap[b]? :=fun b hb=>⟨⟨hb.1.1,hb.1.2 id p⟩,rfl⟩
  have au:Az (B5 w (β id) fun b=>b<w.heap.size/\β id≠some b) (Gm 0 0 c0) v0:=OY aG aq (BX aC (by intro e;subst e;cases aq));have ai:Ci (B5 w (β id) fun b=>b<w.heap.size/\β id≠some b) 0 (BO.Dj 0):=TS a8 aw (S.blocks id BO hb)
  have n:=M w (fun b=>b<w.heap.size/\β id≠some b) (β id) v0 vs (fun b hb=>hb) au ai (by have:=S.lens id BO hb;cases BO <;> simpa [AM.short,AM.Dj] using this)
   (Jj S (fun b hb=>(a8 b hb).1) (fun Z b a2 ab m a6=>⟨a6,fun e=>az (S.inj Z id b ab p m e ▸ a2)⟩) L aD)
  subst h;rw[<-hU] at n;refine M4 ho hc af z n fun e w' O=>?_
  obtain⟨u,he,⟨p1,p2,p3,p4,p5⟩,p6,p7,p8,p9⟩:=O;refine⟨u,he,?_⟩;have ah:(b1.Dj vv).AW=vv:=by cases b1 <;> rfl
  refine hN β _ w' (S.write C (by cases b1 <;> simpa [AM.short,AM.Dj] using p9) (fun _ _=>rfl) (by rw[ah];omega) (fun _=>⟨rfl,fun _=>p⟩) (fun b m aj=>p5 b m (aj p)) p4 (fun b arr e O=>?_) p1 p2 p3 (fun _ b m=> .inl ⟨m,p⟩) (fun _=>?_) (fun _=>?_))
  ·by_cases a1:β id=some b
   ·exact p6 b arr e a1 O
   exact⟨arr,(p5 b (Y b _ O) a1).trans O,rfl⟩
  ·exact gZ rfl av p8
  refine ga rfl ?_ ax p7
  show vv=AW _ id
  rw[Eg _ _ _ C,if_pos rfl,ah]
 ·obtain⟨hb,hle⟩:=L ();obtain⟨z,⟨hp,a5⟩,M⟩:=U ()
  have C:id<s.bk.length:=by
   rcases Nat.lt_or_ge id s.bk.length with G | G
   ·exact G
   rw[HN _ _ G] at hb;cases hb
  have p:live (AF s.bk) id:=by
   refine⟨BO,hb,?_⟩;cases BO <;> simp_all [AM.live,AM.lone,AM.Dj]
  have ae:BO.AW=AW (AF s.bk) id:=(ET hb).symm;have a8:∀b,(cx X w β (AF s.bk)).I b->(cx X w β (AF s.bk)).I b/\w.heap[b]? =w.heap[b]? :=fun b hb=>⟨hb,rfl⟩
  have ai:Ci (B5 w (β id) (cx X w β (AF s.bk)).I) 0 (BO.Dj 0):=TS a8 a5 (S.blocks id BO hb)
  have n:=M w (cx X w β (AF s.bk)).I (β id) (c.args.toList.map a.eval) (fun b hb=>⟨hb.1.1,fun e=>hb.1.2 id p e⟩) ai
   (by have:=S.lens id BO hb;cases BO <;> simpa [AM.short,AM.Dj] using this) (Ng ae hle B)
  subst h
  have heq:s.app o.dst ⟨r,[],[id]⟩=s.app o.dst ⟨r,[(id,BO)],[id]⟩:=by
   unfold St.app;simp only[CZ,VY _ _ _ hb]
  rw[heq] at hN;rw[<-hU] at n;refine M4 ho hc af z n fun e w' O=>?_
  obtain⟨u,he,⟨p1,p2,p3,p4,p5⟩,p6,p7,p8⟩:=O;refine⟨u,he,?_⟩
  have hJ:∀k,(((cx X w β (AF s.bk)).I k\/w.heap.size<=k)/\k<w'.heap.size/\β id≠some k)->(cx X w' β (AF (BG s.bk id (some BO)))).I k:=fun k D=>by
   have a7:∀j,live (AF (BG s.bk id (some BO))) j->live (AF s.bk) j:=fun j hj=>by
    rw[GF _ _ _ C] at hj
    by_cases h:j=id
    ·subst h;exact p
    rw[if_neg h] at hj;exact hj
   rcases D.1 with h | h
   ·exact⟨⟨D.2.1,fun j hj=>h.1.2 j (a7 j hj)⟩,h.2⟩
   refine⟨⟨D.2.1,fun j hj e=>?_⟩,S.fresh k (Nat.le_trans S.size h)⟩;have:=R j k (a7 j hj) e;omega
  refine hN β _ w' (S.write C (S.lens id BO hb) (fun _ _=>rfl) (Nat.le_of_eq ae.symm) (fun _=>⟨rfl,fun _=>p⟩) (fun b m aj=>p5 b m (aj p)) p4 (fun b arr e O=>?_) p1 p2 p3 (fun _ b m=> .inl ⟨m,p⟩) (fun _=>?_) (fun _=>?_))
  ·by_cases a1:β id=some b
   ·exact p6 b arr e a1 O
   exact⟨arr,(p5 b (Y b _ O) a1).trans O,rfl⟩
  ·exact gY hJ rfl rfl a5 p8
  exact dJ (x:=B5 w' (β id) fun k=>((cx X w β (AF s.bk)).I k\/w.heap.size<=k)/\k<w'.heap.size/\β id≠some k) (y:=cx X w' β (AF (BG s.bk id (some BO)))) (fun k D=>⟨hJ k D,rfl⟩) hp p7
 obtain⟨⟨h0,hb,an⟩,aF⟩:=L ();obtain⟨⟨z,H,M⟩,ao⟩:=U ()
 have C:id<s.bk.length:=by
  rcases Nat.lt_or_ge id s.bk.length with G | G
  ·exact G
  rw[HN _ _ G] at hb;cases hb
 have ae:BO.AW=AW (AF s.bk) id:=(ET hb).symm
 have ad:∀k,live (AF (BG s.bk id (some (.dead BO.AW)))) k->k≠id/\live (AF s.bk) k:=fun k D=>by
  rw[GF _ _ _ C] at D
  by_cases h:k=id
  ·rw[if_pos h] at D;cases D
  rw[if_neg h] at D;exact⟨h,D⟩
 have n:=M w (cx X w β (AF (BG s.bk id (some (.dead BO.AW))))).I (c.args.toList.map a.eval) (fun b m=>m.1.1)
  (Jj S (fun b m=>⟨⟨m.1.1,fun k D=>m.1.2 k (ad k D).2⟩,m.2⟩) (fun Z b a2 ab m a6=>by
   have e:Z=id:=by simpa using List.all_eq_true.1 an Z a2
   subst e;refine⟨⟨a6,fun k D e=>(ad k D).1 (S.inj k Z b (ad k D).2 ab e m)⟩,?_⟩;rcases S.own Z b ab m with G | G
   ·exact S.fresh b G
   exact absurd G.2 h0) aF B)
 subst h;rw[<-hU] at n;refine M4 ho hc af z n fun e w' O=>?_
 obtain⟨u,bo,he,T,hr⟩:=O;refine⟨u,he,?_⟩;have F:∀b,b<w.heap.size->w'.heap[b]? =w.heap[b]? :=T.block
 refine hN β _ w' (S.write C trivial (fun _ _=>rfl) (Nat.le_of_eq ae.symm) (fun _=>⟨rfl,fun e=>by cases e⟩) (fun b m _=>F b m) T.size (fun b arr e O=>⟨arr,(F b (Y b _ O)).trans O,rfl⟩) T.os T.tape T.output
  (fun e=>by cases e) (fun _=>trivial) (fun _=>?_))
 have hJ:∀b,(((false=false/\(cx X w β (AF (BG s.bk id (some (.dead BO.AW))))).I b)\/w.heap.size<=b)/\b<w'.heap.size/\bo≠some b)->(cx X w' β (AF (BG s.bk id (some (.dead BO.AW))))).I b/\w'.heap[b]? =w'.heap[b]? :=fun b m=>by
  obtain⟨W,q2,_⟩:=m;rcases W with⟨_,W⟩ | W
  ·exact⟨⟨⟨q2,W.1.2⟩,W.2⟩,rfl⟩
  refine⟨⟨⟨q2,fun k D e=>?_⟩,S.fresh b (Nat.le_trans S.size W)⟩,rfl⟩;have:=R k b (ad k D).2 e;omega
 have hg:=Sz (x:=C7 w' fun b=>((false=false/\(cx X w β (AF (BG s.bk id (some (.dead BO.AW))))).I b)\/w.heap.size<=b)/\b<w'.heap.size/\bo≠some b) (y:=cx X w' β (AF (BG s.bk id (some (.dead BO.AW))))) (S3 (d:=0) (v:=0) ao).2 H hJ hr;rw[(S3 (d:=0) (v:=0) ao).1] at hg;exact hg
end
end Go.Abs
