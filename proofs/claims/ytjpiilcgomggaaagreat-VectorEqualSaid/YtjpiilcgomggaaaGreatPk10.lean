/- Part 11 of a proof. Conditions: each theorem's own. -/
import Derived.Test.YtjpiilcgomggaaaGreatProg
import Derived.Test.YtjpiilcgomggaaaGreatPk09
set_option linter.all false
set_option maxHeartbeats 8000000
open Go.Proofs
namespace Go.Abs
open Go.RowKit
section
variable {P:Program} {TI:TypeId->Info}
theorem Xb:∀{c:AC},BD c=true->C7 c=true
 |.int _ _,_|.bool _,_|.fn _,_|.nil,_|.AL _ 0 0 _ _,_=>rfl
 |.AL _ (_+1) _ _ _,h|.AL _ 0 (_+1) _ _,h|.A4,h|.sl _ _,h|.CD _ _ _ _ _,h|.An _ _ _,h|.Bv _ _ _ _ _,h|.CN _ _ _,h|.ub _,h|.own _ _ _,h=>by simp[BD] at h
theorem Ix {y:Cx} {lo:Nat} {bo:Option Nat}:∀{c:AC} {v:Value},BD c=true->By y lo bo c v->Af y c v
 |.int _ _,_,_,r|.bool _,_,_,r|.fn _,_,_,r|.nil,_,_,r|.AL _ _ _ _ _,_,_,r=>r
 |.A4,_,h,_|.sl _ _,_,h,_|.CD _ _ _ _ _,_,h,_|.An _ _ _,_,h,_|.Bv _ _ _ _ _,_,h,_|.CN _ _ _,_,h,_|.ub _,_,h,_|.own _ _ _,_,h,_=>by simp[BD] at h
theorem AO.Ix {y:Cx} {lo:Nat} {bo:Option Nat}:∀{cs:List AC} {a:List Value},cs.all BD=true->AO (By y lo bo) cs a->AO (Af y) cs a
 | [],[],_,_=>trivial
 | _::_,_::_,e,r=>by simp only[List.all_cons,Bool.and_eq_true] at e;exact⟨Abs.Ix e.1 r.1,AO.Ix e.2 r.2⟩
 |[],_::_,_,r|_::_,[],_,r=>r.elim
theorem Kl {y:Cx} {lo:Nat} {bo:Option Nat} {r:AV} {v:Value} (h:r.all BD=true) (a:D4 y lo bo r v):CX y r v:=by
 cases r with
 | one c=>exact a.imp (fun q=>q) (Ix h)
 | agg cs=>obtain⟨arr,e,a⟩:=a;exact⟨arr,e,AO.Ix h a⟩
 | AG _=>exact a.elim
theorem Yd {y:Cx} {lo:Nat} {bo:Option Nat} {r:AV} {v:Value} (h:r.all BD=true) (d:Ea y lo bo r v):At y r v:=by
 cases r with
 |one c|agg cs=>exact Kl h d
 | AG xs=>
  obtain⟨arr,e,d⟩:=d;refine⟨arr,e,?_⟩
  have key:∀(xs:List (Bool×List AC)) (us:List Value),(xs.all fun x=>x.2.all BD)=true->AO (fun z q=>D4 y lo bo (CE z) q) xs us->AO (fun z q=>CX y (CE z) q) xs us:=by
   intro xs
   induction xs with
   | nil=>intro us _ a;cases us <;> first | trivial | exact a.elim
   | cons z xs i=>
    intro us b a;cases us with
    | nil=>exact a.elim
    | cons q us=>
     simp only[List.all_cons,Bool.and_eq_true] at b;refine⟨?_,i us b.2 a.2⟩;obtain⟨g,cs⟩:=z;have f:=a.1;cases g with
     | true=>exact Kl (r:= .agg cs) b.1 f
     | false=>
      cases cs with
      | nil=>exact Or.inl rfl
      | cons c cs=>
       simp only[List.all_cons,Bool.and_eq_true] at b;exact Kl (r:= .one c) b.1.1 f
  exact key xs arr.toList h d
theorem Yh {w0:World} {X:WX} {β:Nat->Option Nat} {s:St} {a:Act} {w:World} {J:Nat->Prop} {lo:Nat} {bo:Option Nat} (S:Aw w0 X β s a w) (m:AM (AD s.bk) 0=0) (i:β 0=X.ob) {c d:AC} {v:Value} (g:BD d=true) (h:Cz (AD s.bk) c d)
  (r:Af (cx X w β (AD s.bk)) c v):By (BW w X.ob J) lo bo d v:=by
 cases c with
 | AL t id j off len=>
  rcases h with⟨l,o,p,rfl⟩ |⟨l,n,_,_,_,_,_,rfl⟩ |⟨rfl,rfl,rfl⟩
  ·simp[BD] at g
  ·simp[BD] at g
  refine⟨⟨r.1.1,Nat.le_refl _⟩,fun _=>?_⟩;have:=r.2 m.symm
  show E4 w X.ob _ _ _ _ _
  rw[<-i];exact this
 | nil=>
  rcases h with rfl |⟨t,rfl⟩ |⟨t,rfl⟩
  ·exact r
  ·simp[BD] at g
  simp[BD] at g
 |int k n|bool b|fn f=>rw[show d=_ from h];exact r
 | sl t l=>rw[show d=_ from h] at g;simp[BD] at g
 | _=>exact h.elim
theorem R5 {w0:World} {X:WX} {β:Nat->Option Nat} {s:St} {a:Act} {w:World} {J:Nat->Prop} {lo:Nat} {bo:Option Nat} (S:Aw w0 X β s a w) (i:AM (AD s.bk) 0=0) (b:β 0=X.ob):∀{cs c:List AC} {j:List Value},c.all BD=true->Ae (Cz (AD s.bk)) cs c->
  AO (Af (cx X w β (AD s.bk))) cs j->AO (By (BW w X.ob J) lo bo) c j
 | [],[],[],_,_,_=>trivial
 | _::_,_::_,_::_,d,f,g=>by
  simp only[List.all_cons,Bool.and_eq_true] at d;exact⟨Yh S i b d.1 f.1 g.1,R5 S i b d.2 f.2 g.2⟩
 |[],[],_::_,_,_,h|_::_,_::_,[],_,_,h|[],_::_,_,_,h,_|_::_,[],_,_,h,_=>h.elim
theorem Me {x y:Cx} (h:∀b,x.I b->y.I b/\y.w.heap[b]? =x.w.heap[b]?) (hw:y.w=x.w) (hx:x.cv 0=0) (d:y.cv 0=0) (a:y.β 0=x.β 0):∀{c:AC} {v:Value},C7 c=true->Af x c v->Af y c v
 | .AL t i v off len,_,e,r=>by
  match i,v,e,r with
  | 0,0,_,r=>exact⟨⟨r.1.1,Nat.zero_le _⟩,fun _=>by rw[hw,a];exact r.2 hx.symm⟩
  |0,_+1,h,_|_+1,_,h,_=>simp[C7,Ah] at h
 | .An i v off,_,e,r=>by
  match i,v,e,r with
  | 0,0,_,r=>exact⟨⟨r.1.1,Nat.zero_le _⟩,fun _=>by rw[a];exact r.2 hx.symm⟩
  |0,_+1,h,_|_+1,_,h,_=>simp[C7,Ah] at h
 |.A4,_,_,r|.int _ _,_,_,r|.bool _,_,_,r|.fn _,_,_,r|.nil,_,_,r=>r
 | .sl _ _,_,_,r=>Bi h _ _ _ r
 |.CD _ _ _ _ _,_,e,_|.Bv _ _ _ _ _,_,e,_|.CN _ _ _,_,e,_|.ub _,_,e,_|.own _ _ _,_,e,_=>by simp[C7,Ah] at e
theorem KL {x y:Cx} (h:∀b,x.I b->y.I b/\y.w.heap[b]? =x.w.heap[b]?) (hw:y.w=x.w) (a:y.β 0=x.β 0):∀{b:AH},b.lone=true->Bx x 0 b->Bx y 0 b
 | .dead _,_,_=>trivial
 | .var _ cs,e,⟨b,arr,ty,c,d,f⟩=>⟨b,arr,ty,a.trans c,by rw[hw];exact d,AO.pure h (by simp only[AH.lone,Bool.and_eq_true] at e;exact e.2) f⟩
 | .arr _ t l,_,r=>r.imp (fun q=>⟨a.trans q.1,q.2⟩) fun⟨b,arr,ty,c,d,f⟩=>⟨b,arr,ty,a.trans c,by rw[hw];exact d,fun i m g=>by
  obtain⟨us,j,k⟩:=f i m g;exact⟨us,Bi h _ _ _ j,by rw[hw];exact k⟩⟩
theorem R4 {bk:Nat->Option AH}:∀{l m:List (Bool×List AC)},Fl bk l m->Ae (Cz bk) (l.flatMap (·.2)) (m.flatMap (·.2)):=by
 have app:∀{l m l' m':List AC},Ae (Cz bk) l m->Ae (Cz bk) l' m'->Ae (Cz bk) (l++l') (m++m'):=by
  intro l
  induction l with
  | nil=>intro m l' m' h h';cases m <;> first | exact h' | exact h.elim
  | cons x l a=>intro m l' m' h h';cases m with
   | nil=>exact h.elim
   | cons y m=>exact⟨h.1,a h.2 h'⟩
 intro l
 induction l with
 | nil=>intro m h;cases m <;> first | trivial | exact h.elim
 | cons x l a=>intro m h;cases m with
  | nil=>exact h.elim
  | cons y m=>rw[List.flatMap_cons,List.flatMap_cons];exact app h.1.2 (a h.2)
theorem Po {r:AV} {p:AC->Bool} (h:r.all p=true):(r.Cw.flatMap (·.2)).all p=true:=by
 cases r with
 |one c|agg cs=>simpa [AV.Cw,AV.comp,AV.all] using h
 | AG xs=>simp only[AV.Cw,List.all_flatMap];exact h
theorem Vh {p q:AC->Bool} (h:∀c,p c=true->q c=true) {r:AV} (a:r.all p=true):r.all q=true:=by
 have l:∀{cs:List AC},cs.all p=true->cs.all q=true:=fun {cs} b=>by rw[List.all_eq_true] at b ⊢;exact fun x hx=>h x (b x hx)
 cases r with
 | one c=>exact h c a
 | agg cs=>exact l a
 | AG xs=>simp only[AV.all] at a ⊢;rw[List.all_eq_true] at a ⊢;exact fun x hx=>l (a x hx)
theorem Vv {f:FuncId} {n:Nat} {c:Code} {rs:List ResultVar} (F:Fn P TI f n c rs) {t:AC} {j b1:AH} {args:List AV} {r:AV} (hp:Kg args=true) (O:r.all BD=true) (p:C7 t=true/\j.lone=true/\b1.lone=true) (hn:args.length<n)
  (h:B1 (env P) TI n c (post TI rs r (some b1)) (CW n (.one t::args) (some j))):FN P f t j args r b1:=by
 obtain⟨fn,hf,q,a,M,Q⟩:=F.get;refine⟨⟨fn,c,hf,q,a⟩,⟨Vh (fun _=>Xb) O,p⟩,fun w I ob v0 vs Z K H R m=>?_⟩;refine calls_of_wp hf a ?_;obtain⟨n',rfl⟩:∃n',n=n'+1:=⟨n-1,by omega⟩
 have y:j.AM=0:=by have:=p.2.1;cases j <;> simp_all [AH.lone,AH.AM]
 have G:b1.AM=0:=by have:=p.2.2;cases b1 <;> simp_all [AH.lone,AH.AM]
 have D:b1.live=true:=by have:=p.2.2;cases b1 <;> simp_all [AH.lone,AH.live]
 have l:∀b,I b->(cx ⟨fun b=>ob=some b,fun b=>I b\/w.heap.size<=b,ob⟩ w (β0 ob) (AD (CW (n'+1) (.one t::args) (some j)).bk)).I b/\w.heap[b]? =w.heap[b]? :=fun b a=>
  ⟨⟨⟨(Z b a).1,fun id _ e=>by
   unfold β0 at e
   split at e
   ·exact (Z b a).2 e
   cases e⟩,.inl a⟩,rfl⟩
 have B:AM (AD (CW (n'+1) (.one t::args) (some j)).bk) 0=0:=y
 have S0:Aw w ⟨fun b=>ob=some b,fun b=>I b\/w.heap.size<=b,ob⟩ (β0 ob) (CW (n'+1) (.one t::args) (some j)) {tmps:=(v0::vs).toArray++Array.replicate (n'+1-(v0::vs).toArray.size) undef,defers:=[]} w:=
  Aw.start (X:=⟨fun b=>ob=some b,fun b=>I b\/w.heap.size<=b,ob⟩) (by simp;omega) (fun _ e=>e) (fun b a=> .inr a) (fun b e=>by cases e;exact⟨y,R,by omega⟩)
   ⟨.inr (Me (x:=BW w ob I) l rfl rfl B rfl p.1 K),Kh (x:=CM w I) l hp m⟩
   (fun b e=>by cases e;exact KL (x:=BW w ob I) l rfl rfl p.2.1 H)
 rw[M];refine wp_mono (DQ F.mixed (fun o ho=>NX F.ty o ho) F.dst (by simp[CW,En];omega) S0 h) fun e W w' he=>?_
 obtain⟨x,s',V,rfl,d,_,S⟩:=he
 have fin:post TI rs r (some b1) x s'->(∀i,x≠ .exit i)->W.defers=[]/\∃v,(results fn W.tmps).run P w'= .ok v w'/\∃u,Ending.returned v= .returned u/\
   (w'.os=w.os/\w'.tape=w.tape/\w'.output=w.output/\w.heap.size<=w'.heap.size/\∀k,k<w.heap.size->ob≠some k->w'.heap[k]? =w.heap[k]?)/\
   (∀(b:Nat) arr e,ob=some b->w.heap[b]? =some (.cells arr e (0,0))->∃g,w'.heap[b]? =some (.cells g e (0,0))/\g.size=arr.size)/\
   At (BW w' ob fun k=>(I k\/w.heap.size<=k)/\k<w'.heap.size/\ob≠some k) r u/\
   Bx (BW w' ob fun k=>(I k\/w.heap.size<=k)/\k<w'.heap.size/\ob≠some k) 0 b1/\b1.short:=by
  intro d hx;refine⟨S.defers,?_⟩
  have N:∃xs,Fm TI s' rs=some xs/\(Fl (AD s'.bk) xs r.Cw/\Ka xs r.Cw=true/\(rs.length=1↔∀ys,r≠ .AG ys))/\AD s'.bk 0=some b1:=by
   unfold post at d
   split at d
   ·exact absurd rfl (hx _)
   split at d
   ·rename_i xs U
    exact⟨xs,U,d.1 (),d.2 ()⟩
   exact d.elim
  obtain⟨xs,h1,⟨Y,h3,h4⟩,C⟩:=N;obtain⟨us,ws,k1,k2,k3⟩:=Kq F.ty S h1 Y;have A:AM (AD s'.bk) 0=0:=by rw[DZ C];exact G
  have z:live (AD s'.bk) 0:=⟨_,C,D⟩;obtain⟨s,T⟩:=S.HV z A
  have hJ:∀b,(cx ⟨fun b=>ob=some b,fun b=>I b\/w.heap.size<=b,ob⟩ w' V (AD s'.bk)).I b->(BW w' ob fun k=>(I k\/w.heap.size<=k)/\k<w'.heap.size/\ob≠some k).I b/\w'.heap[b]? =w'.heap[b]? :=
   fun b a=>⟨⟨a.2,a.1.1,fun e=>a.1.2 0 z (s.trans e)⟩,rfl⟩
  have g1:=R5 (J:=fun k=>(I k\/w.heap.size<=k)/\k<w'.heap.size/\ob≠some k) (lo:=0) (bo:=none) S A s (Po O) (R4 Y) k2;have hlen:us.length=rs.length:=k1.length.symm;refine⟨Fg us,NI (by rw[Q];exact k1),Fg us,rfl,⟨S.os,S.tape,S.output,S.size,fun b a L=>S.block b a L⟩,T,Yd O (L8 (by rw[hlen];exact h4) (k3 _ _ _ g1)),?_,S.lens 0 _ C⟩;exact KL hJ rfl s.symm p.2.2 (S.blocks 0 b1 C)
 cases x with
 |Bw|ret=>exact fin d (by simp)
 | exit i=>exact d.elim
theorem Yj {w0:World} {X:WX} {β:Nat->Option Nat} {s:St} {a:Act} {w:World} {I:Nat->Prop} (S:Aw w0 X β s a w) (hA:∀b,X.A b->I b\/w0.heap.size<=b) (j:live (AD s.bk) 0) (o:β 0=X.ob) {c d:AC} {v:Value} (O:Gm c=true) (D:Ah d=true)
  (h:Cz (AD s.bk) c d) (r:Af (cx X w β (AD s.bk)) c v) {lo:Nat} {bo:Option Nat}:By (BW w X.ob fun k=>(I k\/w0.heap.size<=k)/\k<w.heap.size/\X.ob≠some k) lo bo d v:=by
 have K:∀b,(cx X w β (AD s.bk)).I b->((I b\/w0.heap.size<=b)/\b<w.heap.size/\X.ob≠some b)/\w.heap[b]? =w.heap[b]? :=fun b C=>⟨⟨hA b C.2,C.1.1,fun e=>C.1.2 0 j (o.trans e)⟩,rfl⟩
 cases c with
 | AL t id u off len=>
  rcases h with⟨l,x,V,rfl⟩ |⟨l,n,_,_,_,_,_,rfl⟩ |⟨rfl,rfl,rfl⟩
  ·have g:id≠0:=fun e=>by subst e;simp[Gm] at O
   have Q:u=AM (AD s.bk) id:=by rw[DZ x];rfl
   obtain⟨base,cap,e,g1,g2,_,J⟩:=r.2 Q;have hlen:((l.drop off).take len).length=len:=by simp;omega
   have z:l.length<=140737488355328:=S.lens id _ x;refine⟨base,cap,by rw[hlen,e],by rw[hlen];exact g1,by rw[hlen];omega,?_⟩;rcases J with J |⟨b,arr,e',k1,k2,W,Y⟩
   ·left;exact List.eq_nil_of_length_eq_zero (by rw[hlen];omega)
   rcases S.blocks id _ x with⟨p,L⟩ |⟨b',H,M,p,L,U⟩
   ·exact absurd (p.symm.trans k1) (by simp)
   obtain rfl:b'=b:=Option.some.inj (p.symm.trans k1);have m:live (AD s.bk) id:=⟨_,x,rfl⟩
   have F:b'<w.heap.size:=by
    rcases Nat.lt_or_ge b' w.heap.size with h' | h'
    ·exact h'
    have G:w.heap[b']? =_:=L;simp[Array.getElem?_eq_none h'] at G
   refine .inr ⟨b',_,k2,⟨.inr ((S.own id b' m p).resolve_right (fun q=>g q.2)),F,fun e=>g (S.inj id 0 b' m j p (o.trans e))⟩,fun i y B=>?_⟩
   have N:l[off+i]? =some y:=by
    rw[List.getElem?_take] at B
    split at B
    ·simpa using B
    cases B
   obtain⟨us,R,T⟩:=U (off+i) y N;exact⟨us,Bi (w':=w) K _ _ _ R,by rw[show off*t.size+i*t.size=(off+i)*t.size by rw[Nat.add_mul]];exact T⟩
  ·simp[Ah] at D
  simp[Ah] at D
 | nil=>
  rcases h with rfl |⟨t,rfl⟩ |⟨t,rfl⟩
  ·exact r
  ·exact⟨none,0,by rw[show v=_ from r];rfl,Nat.le_refl _,by simp,.inl rfl⟩
  simp[Ah] at D
 |int k n|bool b|fn f=>rw[show d=_ from h];exact r
 | sl t l=>rw[show d=_ from h];exact Bi (w':=w) K _ _ _ r
 | _=>exact h.elim
theorem R7 {w0:World} {X:WX} {β:Nat->Option Nat} {s:St} {a:Act} {w:World} {I:Nat->Prop} (S:Aw w0 X β s a w) (hA:∀b,X.A b->I b\/w0.heap.size<=b) (c:live (AD s.bk) 0) (d:β 0=X.ob) {lo:Nat} {bo:Option Nat}:
  ∀{cs f:List AC} {m:List Value},cs.all Gm=true->f.all Ah=true->Ae (Cz (AD s.bk)) cs f->AO (Af (cx X w β (AD s.bk))) cs m->AO (By (BW w X.ob fun k=>(I k\/w0.heap.size<=k)/\k<w.heap.size/\X.ob≠some k) lo bo) f m
 | [],[],[],_,_,_,_=>trivial
 | _::_,_::_,_::_,g,i,j,l=>by
  simp only[List.all_cons,Bool.and_eq_true] at g i;exact⟨Yj S hA c d g.1 i.1 j.1 l.1,R7 S hA c d g.2 i.2 j.2 l.2⟩
 |[],[],_::_,_,_,_,h|_::_,_::_,[],_,_,_,h|[],_::_,_,_,_,h,_|_::_,[],_,_,_,h,_=>h.elim
theorem Iy {y:Cx} {lo:Nat} {bo:Option Nat}:∀{c:AC} {v:Value},Ah c=true->By y lo bo c v->Af y c v
 |.int _ _,_,_,r|.bool _,_,_,r|.fn _,_,_,r|.nil,_,_,r|.A4,_,_,r|.sl _ _,_,_,r=>r
 |.AL _ _ _ _ _,_,h,_|.CD _ _ _ _ _,_,h,_|.An _ _ _,_,h,_|.Bv _ _ _ _ _,_,h,_|.CN _ _ _,_,h,_|.ub _,_,h,_|.own _ _ _,_,h,_=>by simp[Ah] at h
theorem AO.Iy {y:Cx} {lo:Nat} {bo:Option Nat}:∀{cs:List AC} {a:List Value},cs.all Ah=true->AO (By y lo bo) cs a->AO (Af y) cs a
 | [],[],_,_=>trivial
 | _::_,_::_,e,r=>by simp only[List.all_cons,Bool.and_eq_true] at e;exact⟨Abs.Iy e.1 r.1,AO.Iy e.2 r.2⟩
 |[],_::_,_,r|_::_,[],_,r=>r.elim
theorem Km {y:Cx} {lo:Nat} {bo:Option Nat} {r:AV} {v:Value} (h:r.all Ah=true) (a:D4 y lo bo r v):CX y r v:=by
 cases r with
 | one c=>exact a.imp (fun q=>q) (Iy h)
 | agg cs=>obtain⟨arr,e,a⟩:=a;exact⟨arr,e,AO.Iy h a⟩
 | AG _=>exact a.elim
theorem Ye {y:Cx} {lo:Nat} {bo:Option Nat} {r:AV} {v:Value} (h:r.all Ah=true) (d:Ea y lo bo r v):At y r v:=by
 cases r with
 |one c|agg cs=>exact Km h d
 | AG xs=>
  obtain⟨arr,e,d⟩:=d;refine⟨arr,e,?_⟩
  have key:∀(xs:List (Bool×List AC)) (us:List Value),(xs.all fun x=>x.2.all Ah)=true->AO (fun z q=>D4 y lo bo (CE z) q) xs us->AO (fun z q=>CX y (CE z) q) xs us:=by
   intro xs
   induction xs with
   | nil=>intro us _ a;cases us <;> first | trivial | exact a.elim
   | cons z xs i=>
    intro us b a;cases us with
    | nil=>exact a.elim
    | cons q us=>
     simp only[List.all_cons,Bool.and_eq_true] at b;refine⟨?_,i us b.2 a.2⟩;obtain⟨g,cs⟩:=z;have f:=a.1;cases g with
     | true=>exact Km (r:= .agg cs) b.1 f
     | false=>
      cases cs with
      | nil=>exact Or.inl rfl
      | cons c cs=>
       simp only[List.all_cons,Bool.and_eq_true] at b;exact Km (r:= .one c) b.1.1 f
  exact key xs arr.toList h d
def Hc (args:List AV):Bool:=args.all fun c=>match c with | .AG _=>false | c=>c.all C7
theorem Md {x y:Cx} (h:∀b,x.I b->y.I b/\y.w.heap[b]? =x.w.heap[b]?) (hw:y.w=x.w) (hx:x.cv 0=0) (f:y.cv 0=0) (a:y.β 0=x.β 0):∀{l:List AV} {d:List Value},Hc l=true->AO (At x) l d->AO (At y) l d
 | [],[],_,_=>trivial
 | .one c::l,_::_,e,r=>by
  have e':(C7 c&&Hc l)=true:=e;simp only[Bool.and_eq_true] at e';exact⟨r.1.imp (fun q=>q) (Me h hw hx f a e'.1),Md h hw hx f a e'.2 r.2⟩
 | .agg c::l,_::_,e,r=>by
  have e':(c.all C7&&Hc l)=true:=e;simp only[Bool.and_eq_true] at e';obtain⟨arr,g,i⟩:=r.1;refine⟨⟨arr,g,?_⟩,Md h hw hx f a e'.2 r.2⟩;exact all e'.1 i
 | .AG _::_,_::_,e,_=>by simp[Hc] at e
 |[],_::_,_,r|_::_,[],_,r=>r.elim
where
 all:∀{cs:List AC} {d:List Value},cs.all C7=true->AO (Af x) cs d->AO (Af y) cs d
  | [],[],_,_=>trivial
  | _::_,_::_,e,r=>by simp only[List.all_cons,Bool.and_eq_true] at e;exact⟨Me h hw hx f a e.1 r.1,all e.2 r.2⟩
  |[],_::_,_,r|_::_,[],_,r=>r.elim
theorem X4:∀{xs:List (Bool×List AC)},(xs.all fun x=>x.2.all Gm)=true->(xs.flatMap (·.2)).all Gm=true:=fun {xs} h=>by
 rw[List.all_flatMap];exact h
theorem WT {f:FuncId} {n:Nat} {c:Code} {rs:List ResultVar} (F:Fn P TI f n c rs) {d:AH} {args:List AV} {r:AV} (hp:Hc args=true) (J:r.all Ah=true) (C:d.lone=true) (hn:args.length<=n) (a1:0<n)
  (h:B1 (env P) TI n c (Kf TI rs r d) (CW n args (some d))):Da P f args d r:=by
 obtain⟨fn,V,q,a,G,K⟩:=F.get;refine⟨⟨fn,c,V,q,a⟩,⟨J,C⟩,fun w I ob W U B L m=>?_⟩;refine calls_of_wp V a ?_;obtain⟨n',rfl⟩:∃n',n=n'+1:=⟨n-1,by omega⟩
 have l:d.AM=0:=by cases d <;> simp_all [AH.lone,AH.AM]
 have z:d.live=true:=by cases d <;> simp_all [AH.lone,AH.live]
 have t:∀b,I b->(cx ⟨fun b=>ob=some b,fun b=>I b\/w.heap.size<=b,ob⟩ w (β0 ob) (AD (CW (n'+1) args (some d)).bk)).I b/\w.heap[b]? =w.heap[b]? :=fun b a=>
  ⟨⟨⟨(U b a).1,fun id _ e=>by
   unfold β0 at e
   split at e
   ·exact (U b a).2 e
   cases e⟩,.inl a⟩,rfl⟩
 have y:AM (AD (CW (n'+1) args (some d)).bk) 0=0:=l
 have Y:Aw w ⟨fun b=>ob=some b,fun b=>I b\/w.heap.size<=b,ob⟩ (β0 ob) (CW (n'+1) args (some d)) {tmps:=W.toArray++Array.replicate (n'+1-W.toArray.size) undef,defers:=[]} w:=
  Aw.start (X:=⟨fun b=>ob=some b,fun b=>I b\/w.heap.size<=b,ob⟩) hn (fun _ e=>e) (fun b a=> .inr a) (fun b e=>by cases e;exact⟨l,L,by omega⟩)
   (Md (x:=BW w ob I) t rfl rfl y rfl hp m)
   (fun b e=>by cases e;exact KL (x:=BW w ob I) t rfl rfl C B)
 rw[G];refine wp_mono (DQ F.mixed (fun o ho=>NX F.ty o ho) F.dst (by simp[CW,En];omega) Y h) fun e R w' he=>?_
 obtain⟨x,s',Q,rfl,j,_,S⟩:=he
 have fin:Kf TI rs r d x s'->(∀i,x≠ .exit i)->R.defers=[]/\∃v,(results fn R.tmps).run P w'= .ok v w'/\∃u,Ending.returned v= .returned u/\
   (w'.os=w.os/\w'.tape=w.tape/\w'.output=w.output/\w.heap.size<=w'.heap.size/\∀k,k<w.heap.size->ob≠some k->w'.heap[k]? =w.heap[k]?)/\
   (∀(b:Nat) arr e,ob=some b->w.heap[b]? =some (.cells arr e (0,0))->∃g,w'.heap[b]? =some (.cells g e (0,0))/\g.size=arr.size)/\
   At (BW w' ob fun k=>(I k\/w.heap.size<=k)/\k<w'.heap.size/\ob≠some k) r u/\
   Bx (BW w' ob fun k=>(I k\/w.heap.size<=k)/\k<w'.heap.size/\ob≠some k) 0 d:=by
  intro j hx;refine⟨S.defers,?_⟩
  have H:∃xs,Fm TI s' rs=some xs/\(Fl (AD s'.bk) xs r.Cw/\(xs.all fun x=>x.2.all Gm)=true/\(rs.length=1↔∀ys,r≠ .AG ys))/\AD s'.bk 0=some d:=by
   unfold Kf at j
   split at j
   ·exact absurd rfl (hx _)
   split at j
   ·rename_i xs O
    exact⟨xs,O,j ()⟩
   exact j.elim
  obtain⟨xs,Z,⟨T,h3,h4⟩,A⟩:=H;obtain⟨us,ws,k1,k2,k3⟩:=Kq F.ty S Z T;have N:AM (AD s'.bk) 0=0:=by rw[DZ A];exact l
  have p:live (AD s'.bk) 0:=⟨_,A,z⟩;obtain⟨s,M⟩:=S.HV p N
  have hJ:∀b,(cx ⟨fun b=>ob=some b,fun b=>I b\/w.heap.size<=b,ob⟩ w' Q (AD s'.bk)).I b->(BW w' ob fun k=>(I k\/w.heap.size<=k)/\k<w'.heap.size/\ob≠some k).I b/\w'.heap[b]? =w'.heap[b]? :=
   fun b a=>⟨⟨a.2,a.1.1,fun e=>a.1.2 0 p (s.trans e)⟩,rfl⟩
  have g1:=R7 (I:=I) (lo:=0) (bo:=none) S (fun b a=>a) p s (X4 h3) (Po J) (R4 T) k2;have hlen:us.length=rs.length:=k1.length.symm;refine⟨Fg us,NI (by rw[K];exact k1),Fg us,rfl,⟨S.os,S.tape,S.output,S.size,fun b a D=>S.block b a D⟩,M,Ye J (L8 (by rw[hlen];exact h4) (k3 _ _ _ g1)),?_⟩;exact KL hJ rfl s.symm C (S.blocks 0 d A)
 cases x with
 |Bw|ret=>exact fin j (by simp)
 | exit i=>exact j.elim
def FC:AC->Bool
 |.int _ _|.bool _|.fn _|.nil=>true
 | .own t _ _=>t.flat
 | _=>false
theorem Wq {w:World} {I a:Nat->Prop} {lo:Nat} {bo:Option Nat}:∀{c:AC} {v:Value},FC c=true->By (CM w I) lo bo c v->By (CM w a) lo bo c v
 |.int _ _,_,_,r|.bool _,_,_,r|.fn _,_,_,r|.nil,_,_,r=>r
 | .own t l n,_,h,⟨k,base,cap,e,d,f,g,j⟩=>⟨k,base,cap,e,d,f,g,j.imp (fun q=>q) fun⟨b,arr,ty,k1,k2,o,p,s,u⟩=>⟨b,arr,ty,k1,k2,o,p,s,fun i y m=>by
  obtain⟨us,x,z⟩:=u i y m;exact⟨us,Kn (I:=I) (w:=w) t y us h x,z⟩⟩⟩
 |.A4,_,h,_|.sl _ _,_,h,_|.AL _ _ _ _ _,_,h,_|.CD _ _ _ _ _,_,h,_|.An _ _ _,_,h,_|.Bv _ _ _ _ _,_,h,_|.CN _ _ _,_,h,_|.ub _,_,h,_=>by simp[FC] at h
def GM:AC->AC
 | .own t l _=> .sl t l
 | c=>c
def M5:AV->AV
 | .one c=> .one (GM c)
 | .agg cs=> .agg (cs.map GM)
 | .AG xs=> .AG (xs.map fun x=>(x.1,x.2.map GM))
theorem Q4 {x y:Cx} {lo Ij:Nat} {bo IM:Option Nat} {p:AC->Bool} {g:AC->AC} (s:g .A4= .A4) (h:∀c v,p c=true->By x lo bo c v->By y Ij IM (g c) v) {r:AV} {v:Value} (n:r.all p=true) (b:Ea x lo bo r v):
  Ea y Ij IM (match r with | .one c=> .one (g c) | .agg cs=> .agg (cs.map g) | .AG xs=> .AG (xs.map fun x=>(x.1,x.2.map g))) v:=by
 have l:∀{cs:List AC} {f:List Value},cs.all p=true->AO (By x lo bo) cs f->AO (By y Ij IM) (cs.map g) f:=by
  intro cs
  induction cs with
  | nil=>intro f _ h;cases f <;> first | trivial | exact h.elim
  | cons c cs o=>intro f m a;cases f with
   | nil=>exact a.elim
   | cons u us=>
    simp only[List.all_cons,Bool.and_eq_true] at m;exact⟨h _ _ m.1 a.1,o m.2 a.2⟩
 cases r with
 | one c=>
  rcases b with rfl | b
  ·exact .inl s
  exact .inr (h _ _ n b)
 | agg cs=>obtain⟨arr,e,b⟩:=b;exact⟨arr,e,l n b⟩
 | AG xs=>
  obtain⟨arr,e,b⟩:=b;refine⟨arr,e,?_⟩
  have key:∀(xs:List (Bool×List AC)) (us:List Value),(xs.all fun x=>x.2.all p)=true->AO (fun z q=>D4 x lo bo (CE z) q) xs us->AO (fun z q=>D4 y Ij IM (CE z) q) (xs.map fun x=>(x.1,x.2.map g)) us:=by
   intro xs
   induction xs with
   | nil=>intro us _ a;cases us <;> first | trivial | exact a.elim
   | cons z xs o=>
    intro us j a;cases us with
    | nil=>exact a.elim
    | cons q us=>
     simp only[List.all_cons,Bool.and_eq_true] at j;refine⟨?_,o us j.2 a.2⟩;obtain⟨t,cs⟩:=z;have d:=a.1;cases t with
     | true=>obtain⟨i,e',d⟩:=d;exact⟨i,e',l j.1 d⟩
     | false=>
      cases cs with
      | nil=>exact Or.inl rfl
      | cons c cs=>
       simp only[List.all_cons,Bool.and_eq_true] at j;rcases d with k | d
       ·have k:c= .A4:=k;subst k;exact .inl s
       exact .inr (h _ _ j.1.1 d)
  exact key xs arr.toList n b
theorem Lh {f:FuncId} {args:List AV} {r:AV} (k:r.all FC=true) (h:EF P false f args r):EF P true f args r:=by
 refine⟨h.1,h.2.1,fun w I l d a=>(h.2.2 w I l d a).mono fun e w' ⟨u,bo,he,i,hu⟩=>⟨u,bo,he,i,?_⟩⟩;have:=Q4 (g:=fun c=>c) (y:=CM w' fun b=>((true=false/\I b)\/w.heap.size<=b)/\b<w'.heap.size/\bo≠some b) rfl (fun c v j=>Wq j) k hu;cases r <;> simpa using this
theorem YL {w:World} {J:Nat->Prop} {lo:Nat} {bo:Option Nat}:∀{c:AC} {v:Value},BR c=true->By (CM w fun b=>(J b\/lo<=b)/\b<w.heap.size/\bo≠some b) lo bo c v->By (CM w fun b=>(J b\/lo<=b)/\b<w.heap.size/\(none:Option Nat)≠some b) lo none (GM c) v
 | .own t l n,v,_,⟨A,base,cap,e,g,z,j,k⟩=>by
  refine⟨base,cap,by rw[e],g,j,?_⟩;rcases k with⟨_,q,_⟩ |⟨b,arr,ty,k1,k2,o,p,B,s⟩
  ·exact .inl q
  have d:b<w.heap.size:=by
   rcases Nat.lt_or_ge b w.heap.size with h' | h'
   ·exact h'
   have f:w.heap[b]? =_:=p;simp[Array.getElem?_eq_none h'] at f
  refine .inr ⟨b,0,o,⟨.inr k2,d,by simp⟩,fun i y m=>?_⟩;obtain⟨us,u,x⟩:=s i y m;exact⟨us,Bi (w':=w) (fun b a=>⟨⟨a.1,a.2.1,by simp⟩,rfl⟩) _ _ _ u,by rw[Nat.zero_add];exact x⟩
 |.int _ _,_,_,r|.bool _,_,_,r|.fn _,_,_,r|.nil,_,_,r|.A4,_,_,r=>r
 | .sl _ _,_,_,r=>Bi (w':=w) (fun b a=>⟨⟨a.1,a.2.1,by simp⟩,rfl⟩) _ _ _ r
 |.AL _ _ _ _ _,_,h,_|.CD _ _ _ _ _,_,h,_|.An _ _ _,_,h,_|.Bv _ _ _ _ _,_,h,_|.CN _ _ _,_,h,_|.ub _,_,h,_=>by simp[BR,Ah] at h
theorem B0 {j:Bool} {f:FuncId} {args:List AV} {r:AV} (h:EF P j f args r):EF P j f args (M5 r):=by
 have d:∀c,BR c=true->BR (GM c)=true:=fun c d=>by cases c <;> simp_all [GM,BR,Ah]
 have i:∀{cs:List AC},cs.all BR=true->(cs.map GM).all BR=true:=fun {cs} h=>by
  rw[List.all_eq_true] at h ⊢;intro x hx;obtain⟨y,m,rfl⟩:=List.mem_map.1 hx;exact d y (h y m)
 refine⟨h.1,⟨?_,?_⟩,fun w I n k a=>(h.2.2 w I n k a).mono fun e w' ⟨u,bo,he,l,hu⟩=>⟨u,none,he,l,?_⟩⟩
 ·have:=h.2.1.1;cases r with
  | one c=>exact d c this
  | agg cs=>exact i this
  | AG xs=>
   simp only[M5,AV.all,List.all_map] at this ⊢;rw[List.all_eq_true] at this ⊢;exact fun x hx=>i (this x hx)
 ·have:=h.2.1.2;cases r with
  |one c|agg cs=>rfl
  | AG xs=>
   simp only[M5,AV.wf,List.all_map] at this ⊢;rw[List.all_eq_true] at this ⊢;exact fun x hx=>by simpa using this x hx
 have:=Q4 (g:=GM) (IM:=none) (Ij:=w.heap.size) (y:=CM w' fun b=>((j=false/\I b)\/w.heap.size<=b)/\b<w'.heap.size/\(none:Option Nat)≠some b) rfl (fun c v d=>YL (J:=fun b=>j=false/\I b) d) h.2.1.1 hu;cases r <;> exact this
end
end Go.Abs
namespace Go.Abs
open Go.RowKit
def zC:AC->Value->Bool
 | .int k n,.int k' n'=>k==k'&&n==n'
 | .bool b,.bool b'=>b==b'
 |.nil,.slice none 0 0|.sl _ [],.slice none 0 0=>true
 | _,_=>false
def Gy:List AC->List Value->Bool
 | [],[]=>true
 | c::cs,v::vs=>zC c v&&Gy cs vs
 | _,_=>false
theorem aH {c:AC} {v:Value} (h:zC c v=true) (x:Cx):Af x c v:=by
 unfold zC at h
 split at h
 ·simp only[Bool.and_eq_true,beq_iff_eq] at h;obtain⟨rfl,rfl⟩:=h
  rfl
 ·simp only[beq_iff_eq] at h;subst h
  rfl
 ·rfl
 ·exact⟨none,0,rfl,Nat.le_refl _,by simp,.inl rfl⟩
 cases h
theorem Ns:∀{cs:List AC} {a:List Value},Gy cs a=true->∀x,AO (Af x) cs a
 | [],[],_,_=>trivial
 | _::_,_::_,h,x=>by simp only[Gy,Bool.and_eq_true] at h;exact⟨aH h.1 x,Ns h.2 x⟩
 |[],_::_,h,_|_::_,[],h,_=>by simp[Gy] at h
def Pc (P:Program) (t:TypeId) (i:Info):Bool:=
 match P.info? t with
 | some ti=>match P.underlying t with
  | some d=>match ti.zero with
   | some z=>ti.size==i.size&&Gy i.zero z.cells.toList&&d.isRow==i.agg&&(i.agg||i.size==1)
   | none=>false
  | none=>false
 | none=>false
def Pb (P:Program) (t:TypeId) (k:IntKind):Bool:=
 match P.underlying t with
 | some (.int k')=>k'==k
 | _=>false
def Pd (P:Program) (t:TypeId) (i:Info):Bool:=
 match P.underlying t with
 | some (.slice e)=>e==i.B7&&(match P.info? i.B7 with
  | some ei=>match ei.zero with
   | some z=>ei.size==i.elem.size&&ei.bytes==i.Dt&&decide (0<ei.bytes)&&Gy (cells i.elem i.Bt) z.cells.toList
   | none=>false
  | none=>false)
 | _=>false
def L2 (P:Program) (p:Nat×Nat×Bool) (fl:Field):Bool:=
 match P.info? fl.type with
 | some ti=>match P.underlying fl.type with
  | some d=>fl.offset==p.1&&ti.size==p.2.1&&decide (0<p.2.1)&&d.isRow==p.2.2&&(p.2.2||p.2.1==1)
  | none=>false
 | none=>false
def HI (P:Program):List (Nat×Nat×Bool)->List Field->Bool
 | [],[]=>true
 | p::ps,f::fs=>L2 P p f&&HI P ps fs
 | _,_=>false
def PZ (P:Program) (t:TypeId) (i:Info):Bool:=
 match P.underlying t with
 | some (.struct fs)=>HI P i.fields fs.toList
 | _=>false
def PY (P:Program) (t:TypeId):Bool:=
 match P.underlying t with
 | some .bool=>true
 | _=>false
def Pe (P:Program) (t:TypeId) (i:Info):Bool:=
 (!i.known||Pc P t i)&&(match i.kind with | some k=>Pb P t k | none=>true)&&(!i.sl||Pd P t i)&&(!i.KE||PY P t)&&(!i.known||i.fields.isEmpty||PZ P t i)
theorem Pa {P:Program}:∀{b:List (Nat×Nat×Bool)} {a:List Field},HI P b a=true->b.length=a.length/\∀(f:Nat) (p:Nat×Nat×Bool),b[f]? =some p->∃d,a[f]? =some d/\L2 P p d=true
 | [],[],_=>⟨rfl,fun f p h=>by simp at h⟩
 | p::b,f::a,h=>by
  simp only[HI,Bool.and_eq_true] at h;obtain⟨g,j⟩:=Pa h.2;refine⟨by simp[g],fun i q c=>?_⟩;cases i with
  | zero=>simp at c;subst c;exact⟨f,rfl,h.1⟩
  | succ i=>simpa using j i q (by simpa using c)
 |[],_::_,h|_::_,[],h=>by simp[HI] at h
theorem TM {P:Program} {t:TypeId} {i:Info} (h:Pe P t i=true):Ce P t i:=by
 simp only[Pe,Bool.and_eq_true] at h;obtain⟨⟨⟨⟨b,c⟩,a⟩,r⟩,p⟩:=h;refine⟨fun q=>?_,fun k q=>?_,fun F=>?_,fun K=>?_,fun q G=>?_⟩
 ·simp only[q,Bool.not_true,Bool.false_or] at b;unfold Pc at b
  split at b
  ·rename_i w l
   split at b
   ·rename_i d m
    split at b
    ·rename_i z o
     simp only[Bool.and_eq_true,beq_iff_eq,Bool.or_eq_true] at b;obtain⟨⟨⟨s,u⟩,a3⟩,a4⟩:=b;exact⟨w,z,d,l,s,o,Ns u,m,a3,fun D=>a4.resolve_left (by simp[D])⟩
    cases b
   cases b
  cases b
 ·rw[q] at c;simp only at c;unfold Pb at c
  split at c
  ·rename_i k' e;rw[e];simp only[beq_iff_eq] at c;rw[c]
  cases c
 ·simp only[F,Bool.not_true,Bool.false_or] at r;unfold PY at r
  split at r
  ·assumption
  cases r
 ·simp only[K,Bool.not_true,Bool.false_or] at a;unfold Pd at a
  split at a
  ·rename_i e l
   simp only[Bool.and_eq_true,beq_iff_eq] at a;obtain⟨rfl,a⟩:=a;refine⟨l,?_⟩
   split at a
   ·rename_i A m
    split at a
    ·rename_i z o
     simp only[Bool.and_eq_true,beq_iff_eq,decide_eq_true_eq] at a;obtain⟨⟨⟨s,u⟩,a3⟩,a4⟩:=a;exact⟨A,z,m,s,u,a3,o,Ns a4⟩
    cases a
   cases a
  cases a
 have v:i.fields.isEmpty=false:=by cases I:i.fields with
  | nil=>exact absurd I G
  | cons _ _=>rfl
 simp only[q,v,Bool.not_true,Bool.false_or] at p;unfold PZ at p
 split at p
 ·rename_i C l
  obtain⟨g1,g2⟩:=Pa p;refine⟨C,l,by simpa using g1,fun f M n g J=>?_⟩;obtain⟨B,L,j⟩:=g2 f _ J;unfold L2 at j
  split at j
  ·rename_i w m
   split at j
   ·rename_i d o
    simp only[Bool.and_eq_true,beq_iff_eq,decide_eq_true_eq,Bool.or_eq_true] at j;obtain⟨⟨⟨⟨b1,b2⟩,b3⟩,x⟩,y⟩:=j;exact⟨B,d,by simpa using L,b1,by rw[m];exact congrArg some b2,b3,o,x,fun H=>y.resolve_left (by simp[H])⟩
   cases j
  cases j
 cases p
def RH:Info:={known:=false,Bt:=false}
theorem Z3 (P:Program) (t:TypeId):Ce P t RH:=TM (by rfl)
end Go.Abs
namespace Go.Abs
open Go.RowKit
abbrev TD:T:= .pr .bool (.sl .u32)
abbrev AA:T:= .pr TD TD
abbrev AZ:T:= .pr (.sl (.sl AA)) (.sl AA)
abbrev TE:T:= .pr AZ AZ
abbrev Bl:T:= .pr .u8 (.pr .u8 (.pr .u8 (.pr .i8 .u8)))
def TI:TypeId->Info
 |2|3=>{size:=1,zero:=[.int .i64 0],kind:=some .i64,Bt:=false}
 | 4=>{size:=1,zero:=[.bool false],KE:=true,Bt:=false}
 | 5=>{size:=1,zero:=[.int .u8 0],kind:=some .u8,Bt:=false}
 |22|23=>{size:=1,zero:=[.nil],sl:=true,B7:=97,elem:=Bl,Bt:=((0,0,0,0,0):el Bl),Dt:=5}
 | 24=>{size:=1,zero:=[.nil],sl:=true,B7:=25,elem:=(.sl AA),Bt:=([]:el (.sl AA)),Dt:=24}
 | 25=>{size:=1,zero:=[.nil],sl:=true,B7:=69,elem:=AA,Bt:=(((false,[]),(false,[])):el AA),Dt:=64}
 | 27=>{size:=2,zero:=[.nil,.nil],agg:=true,Bt:=false,fields:=[(0,1,false),(1,1,false)]}
 | 31=>{size:=1,zero:=[.int .i64 0],kind:=some .i64,Bt:=false}
 | 41=>{size:=1,zero:=[.nil],sl:=true,B7:=27,elem:=AZ,Bt:=(([],[]):el AZ),Dt:=48}
 | 50=>{size:=1,zero:=[.nil],sl:=true,B7:=5,elem:= .u8,Bt:=(0:el .u8),Dt:=1}
 | 52=>{size:=2,zero:=[.nil,.nil],agg:=true,Bt:=false,fields:=[(0,1,false),(1,1,false)]}
 | 53=>{size:=1,zero:=[.nil],sl:=true,B7:=58,elem:=TE,Bt:=((([],[]),([],[])):el TE),Dt:=96}
 | 58=>{size:=4,zero:=[.nil,.nil,.nil,.nil],agg:=true,Bt:=false,fields:=[(0,2,true),(2,2,true)]}
 | 65=>{size:=1,zero:=[.nil],sl:=true,B7:=152,elem:= .u32,Bt:=(0:el .u32),Dt:=4}
 | 67=>{size:=2,zero:=[.bool false,.nil],agg:=true,Bt:=false,fields:=[(0,1,false),(1,1,false)]}
 | 69=>{size:=4,zero:=[.bool false,.nil,.bool false,.nil],agg:=true,Bt:=false,fields:=[(0,2,true),(2,2,true)]}
 | 95=>{size:=1,zero:=[.int .i8 0],kind:=some .i8,Bt:=false}
 | 97=>{size:=5,zero:=[.int .u8 0,.int .u8 0,.int .u8 0,.int .i8 0,.int .u8 0],agg:=true,Bt:=false,fields:=[(0,1,false),(1,1,false),(2,1,false),(3,1,false),(4,1,false)]}
 | 105=>{size:=2,zero:=[.nil,.nil],agg:=true,Bt:=false,fields:=[(0,1,false),(1,1,false)]}
 | 152=>{size:=1,zero:=[.int .u32 0],kind:=some .u32,Bt:=false}
 |154|167=>{size:=1,zero:=[.int .u64 0],kind:=some .u64,Bt:=false}
 | _=>RH
theorem K5 (t:TypeId):Ce Tryz.prog t (TI t):=by
 unfold TI
 split <;> first | exact Z3 _ _ | exact TM (by kernel_rfl)
theorem KR:Tryz.prog.follows .mixedOrders=true:=by kernel_rfl
end Go.Abs
namespace Go.Abs
open Go.RowKit
def HF (fn : Func) : Bool := (fn.name == "runtime.NumGoroutine") == false && match fn.body with | some c => Eh c | none => false
def Jc (E:Env) (fn:Func) (r:AV) (b1:Option AH) (s:St):Prop:=
 match fn.body with
 | some c=>B1 E TI fn.ntmps c (post TI fn.results.toList r b1) s
 | none=>False
theorem AE {f:FuncId} {fn:Func} (g:Tryz.prog.funcs[f]? =some fn) (a:HF fn=true) {args:List AV} {r:AV} (b:(Kg args&&(r.all BR&&(r.wf&&Nat.ble args.length fn.ntmps)))=true)
  (h:∀E,env Tryz.prog=E->Jc E fn r none (CW fn.ntmps args none)):EF Tryz.prog false f args r:=by
 have h:=h _ rfl;unfold Jc at h;unfold HF at a;simp only[Bool.and_eq_true] at a b
 split at h
 ·rename_i c d
  rw[d] at a;exact VZ (TI:=TI) (n:=fn.ntmps) (c:=c) (rs:=fn.results.toList) ⟨⟨fn,g,by simpa using a.1,d,rfl,rfl⟩,a.2,K5,KR⟩ b.1 ⟨b.2.1,b.2.2.1⟩ (Nat.le_of_ble_eq_true b.2.2.2) h
 exact h.elim
theorem IH {f:FuncId} {fn:Func} (j:Tryz.prog.funcs[f]? =some fn) (a:HF fn=true) {g:AC} {d b1:AH} {args:List AV} {r:AV} (b:(Kg args&&(r.all BD&&(Nat.ble (args.length+1) fn.ntmps&&(C7 g&&(d.lone&&b1.lone)))))=true)
  (h:∀E,env Tryz.prog=E->Jc E fn r (some b1) (CW fn.ntmps (.one g::args) (some d))):FN Tryz.prog f g d args r b1:=by
 have h:=h _ rfl;unfold Jc at h;unfold HF at a;simp only[Bool.and_eq_true] at a b
 split at h
 ·rename_i c i
  rw[i] at a;exact Vv (TI:=TI) (n:=fn.ntmps) (c:=c) (rs:=fn.results.toList) ⟨⟨fn,j,by simpa using a.1,i,rfl,rfl⟩,a.2,K5,KR⟩ b.1 b.2.1 b.2.2.2 (Nat.le_of_ble_eq_true b.2.2.1) h
 exact h.elim
def PU (E:Env) (fn:Func) (r:AV) (b0:AH) (s:St):Prop:=
 match fn.body with
 | some c=>B1 E TI fn.ntmps c (Kf TI fn.results.toList r b0) s
 | none=>False
theorem FX {f:FuncId} {fn:Func} (i:Tryz.prog.funcs[f]? =some fn) (b:HF fn=true) {d:AH} {args:List AV} {r:AV} (a:(Hc args&&(r.all Ah&&(d.lone&&(Nat.ble args.length fn.ntmps&&Nat.ble 1 fn.ntmps))))=true)
  (h:∀E,env Tryz.prog=E->PU E fn r d (CW fn.ntmps args (some d))):Da Tryz.prog f args d r:=by
 have h:=h _ rfl;unfold PU at h;unfold HF at b;simp only[Bool.and_eq_true] at b a
 split at h
 ·rename_i c g
  rw[g] at b;exact WT (TI:=TI) (n:=fn.ntmps) (c:=c) (rs:=fn.results.toList) ⟨⟨fn,i,by simpa using b.1,g,rfl,rfl⟩,b.2,K5,KR⟩ a.1 a.2.1 a.2.2.1 (Nat.le_of_ble_eq_true a.2.2.2.1) (Nat.le_of_ble_eq_true a.2.2.2.2) h
 exact h.elim
theorem E0 {E:Env} {f:FuncId} {args:List AV} {a:AH} {r:AV} (b:env Tryz.prog=E) (h:Da Tryz.prog f args a r):E.D f args a r:=b ▸ h
def aQ:AV->Nat
 | .one (.sl _ l)=>l.length
 | _=>0
def aO:AV->Int
 | .one (.int _ n)=>n
 | _=>0
theorem Ez {E:Env} {a:Bool} {f:FuncId} {args:List AV} {r:AV} (b:env Tryz.prog=E) (h:EF Tryz.prog a f args r):E.C a f args r:=b ▸ h
theorem Ci {E:Env} {f:FuncId} {b:AC} {a b1:AH} {args:List AV} {r:AV} (c:env Tryz.prog=E) (h:FN Tryz.prog f b a args r b1):E.B f b a args r b1:=c ▸ h
end Go.Abs
