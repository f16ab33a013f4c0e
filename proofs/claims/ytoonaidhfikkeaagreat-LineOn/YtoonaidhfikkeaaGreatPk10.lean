/- Part 11 of a proof. Conditions: each theorem's own. -/
import Derived.Test.YtoonaidhfikkeaaGreatProg
import Derived.Test.YtoonaidhfikkeaaGreatPk09
set_option linter.all false
set_option maxHeartbeats 8000000
open Go.Proofs
namespace Go.Abs
open Go.RowKit
section
variable {P:Program} {TI:TypeId->Info}
theorem Xe:∀{c:AC},BH c=true->C7 c=true
 |.int _ _,_|.bool _,_|.fn _,_|.nil,_|.AM _ 0 0 _ _,_=>rfl
 |.AM _ (_+1) _ _ _,h|.AM _ 0 (_+1) _ _,h|.BB,h|.sl _ _,h|.CI _ _ _ _ _,h|.Am _ _ _,h|.B3 _ _ _ _ _,h|.CU _ _ _,h|.ub _,h|.own _ _ _,h=>by simp[BH] at h
theorem Ix {y:Cx} {lo:Nat} {bo:Option Nat}:∀{c:AC} {v:Value},BH c=true->B7 y lo bo c v->Ae y c v
 |.int _ _,_,_,r|.bool _,_,_,r|.fn _,_,_,r|.nil,_,_,r|.AM _ _ _ _ _,_,_,r=>r
 |.BB,_,h,_|.sl _ _,_,h,_|.CI _ _ _ _ _,_,h,_|.Am _ _ _,_,h,_|.B3 _ _ _ _ _,_,h,_|.CU _ _ _,_,h,_|.ub _,_,h,_|.own _ _ _,_,h,_=>by simp[BH] at h
theorem AO.Ix {y:Cx} {lo:Nat} {bo:Option Nat}:∀{cs:List AC} {a:List Value},cs.all BH=true->AO (B7 y lo bo) cs a->AO (Ae y) cs a
 | [],[],_,_=>trivial
 | _::_,_::_,e,r=>by simp only[List.all_cons,Bool.and_eq_true] at e;exact⟨Abs.Ix e.1 r.1,AO.Ix e.2 r.2⟩
 |[],_::_,_,r|_::_,[],_,r=>r.elim
theorem Kk {y:Cx} {lo:Nat} {bo:Option Nat} {r:AV} {v:Value} (h:r.all BH=true) (a:D8 y lo bo r v):Cc y r v:=by
 cases r with
 | one c=>exact a.imp (fun q=>q) (Ix h)
 | agg cs=>obtain⟨arr,e,a⟩:=a;exact⟨arr,e,AO.Ix h a⟩
 | AF _=>exact a.elim
theorem Yk {y:Cx} {lo:Nat} {bo:Option Nat} {r:AV} {v:Value} (h:r.all BH=true) (d:Ea y lo bo r v):Au y r v:=by
 cases r with
 |one c|agg cs=>exact Kk h d
 | AF xs=>
  obtain⟨arr,e,d⟩:=d;refine⟨arr,e,?_⟩
  have key:∀(xs:List (Bool×List AC)) (us:List Value),(xs.all fun x=>x.2.all BH)=true->AO (fun z q=>D8 y lo bo (CJ z) q) xs us->AO (fun z q=>Cc y (CJ z) q) xs us:=by
   intro xs
   induction xs with
   | nil=>intro us _ a;cases us <;> first | trivial | exact a.elim
   | cons z xs i=>
    intro us b a;cases us with
    | nil=>exact a.elim
    | cons q us=>
     simp only[List.all_cons,Bool.and_eq_true] at b;refine⟨?_,i us b.2 a.2⟩;obtain⟨g,cs⟩:=z;have f:=a.1;cases g with
     | true=>exact Kk (r:= .agg cs) b.1 f
     | false=>
      cases cs with
      | nil=>exact Or.inl rfl
      | cons c cs=>
       simp only[List.all_cons,Bool.and_eq_true] at b;exact Kk (r:= .one c) b.1.1 f
  exact key xs arr.toList h d
theorem Yo {w0:World} {X:WX} {β:Nat->Option Nat} {s:St} {a:Act} {w:World} {J:Nat->Prop} {lo:Nat} {bo:Option Nat} (S:Av w0 X β s a w) (m:AN (AD s.bk) 0=0) (i:β 0=X.ob) {c d:AC} {v:Value} (g:BH d=true) (h:Ck (AD s.bk) c d)
  (r:Ae (cx X w β (AD s.bk)) c v):B7 (BZ w X.ob J) lo bo d v:=by
 cases c with
 | AM t id j off len=>
  rcases h with⟨l,o,p,rfl⟩ |⟨l,n,_,_,_,_,_,rfl⟩ |⟨rfl,rfl,rfl⟩
  ·simp[BH] at g
  ·simp[BH] at g
  refine⟨⟨r.1.1,Nat.le_refl _⟩,fun _=>?_⟩;have:=r.2 m.symm
  show E9 w X.ob _ _ _ _ _
  rw[<-i];exact this
 | nil=>
  rcases h with rfl |⟨t,rfl⟩ |⟨t,rfl⟩
  ·exact r
  ·simp[BH] at g
  simp[BH] at g
 |int k n|bool b|fn f=>rw[show d=_ from h];exact r
 | sl t l=>rw[show d=_ from h] at g;simp[BH] at g
 | _=>exact h.elim
theorem SA {w0:World} {X:WX} {β:Nat->Option Nat} {s:St} {a:Act} {w:World} {J:Nat->Prop} {lo:Nat} {bo:Option Nat} (S:Av w0 X β s a w) (i:AN (AD s.bk) 0=0) (b:β 0=X.ob):∀{cs c:List AC} {j:List Value},c.all BH=true->Ac (Ck (AD s.bk)) cs c->
  AO (Ae (cx X w β (AD s.bk))) cs j->AO (B7 (BZ w X.ob J) lo bo) c j
 | [],[],[],_,_,_=>trivial
 | _::_,_::_,_::_,d,f,g=>by
  simp only[List.all_cons,Bool.and_eq_true] at d;exact⟨Yo S i b d.1 f.1 g.1,SA S i b d.2 f.2 g.2⟩
 |[],[],_::_,_,_,h|_::_,_::_,[],_,_,h|[],_::_,_,_,h,_|_::_,[],_,_,h,_=>h.elim
theorem Mi {x y:Cx} (h:∀b,x.I b->y.I b/\y.w.heap[b]? =x.w.heap[b]?) (hw:y.w=x.w) (d:x.cv 0=0) (f:y.cv 0=0) (a:y.β 0=x.β 0):∀{c:AC} {v:Value},C7 c=true->Ae x c v->Ae y c v
 | .AM t i v off len,_,e,r=>by
  match i,v,e,r with
  | 0,0,_,r=>exact⟨⟨r.1.1,Nat.zero_le _⟩,fun _=>by rw[hw,a];exact r.2 d.symm⟩
  |0,_+1,h,_|_+1,_,h,_=>simp[C7,Ai] at h
 | .Am i v off,_,e,r=>by
  match i,v,e,r with
  | 0,0,_,r=>exact⟨⟨r.1.1,Nat.zero_le _⟩,fun _=>by rw[a];exact r.2 d.symm⟩
  |0,_+1,h,_|_+1,_,h,_=>simp[C7,Ai] at h
 |.BB,_,_,r|.int _ _,_,_,r|.bool _,_,_,r|.fn _,_,_,r|.nil,_,_,r=>r
 | .sl _ _,_,_,r=>Bo h _ _ _ r
 |.CI _ _ _ _ _,_,e,_|.B3 _ _ _ _ _,_,e,_|.CU _ _ _,_,e,_|.ub _,_,e,_|.own _ _ _,_,e,_=>by simp[C7,Ai] at e
theorem KI {x y:Cx} (h:∀b,x.I b->y.I b/\y.w.heap[b]? =x.w.heap[b]?) (hw:y.w=x.w) (a:y.β 0=x.β 0):∀{b:AH},b.lone=true->B5 x 0 b->B5 y 0 b
 | .dead _,_,_=>trivial
 | .var _ cs,e,⟨b,arr,ty,c,d,f⟩=>⟨b,arr,ty,a.trans c,by rw[hw];exact d,AO.pure h (by simp only[AH.lone,Bool.and_eq_true] at e;exact e.2) f⟩
 | .arr _ t l,_,r=>r.imp (fun q=>⟨a.trans q.1,q.2⟩) fun⟨b,arr,ty,c,d,f⟩=>⟨b,arr,ty,a.trans c,by rw[hw];exact d,fun i y' g=>by
  obtain⟨us,j,k⟩:=f i y' g;exact⟨us,Bo h _ _ _ j,by rw[hw];exact k⟩⟩
theorem R9 {bk:Nat->Option AH}:∀{l m:List (Bool×List AC)},Ex bk l m->Ac (Ck bk) (l.flatMap (·.2)) (m.flatMap (·.2)):=by
 have app:∀{l m l' m':List AC},Ac (Ck bk) l m->Ac (Ck bk) l' m'->Ac (Ck bk) (l++l') (m++m'):=by
  intro l
  induction l with
  | nil=>intro m l' m' h h';cases m <;> first | exact h' | exact h.elim
  | cons x l a=>intro m l' m' h h';cases m with
   | nil=>exact h.elim
   | cons y m=>exact⟨h.1,a h.2 h'⟩
 intro l
 induction l with
 | nil=>intro m h;cases m <;> first | trivial | exact h.elim
 | cons x l a=>intro m h;cases m with
  | nil=>exact h.elim
  | cons y m=>rw[List.flatMap_cons,List.flatMap_cons];exact app h.1.2 (a h.2)
theorem Pw {r:AV} {p:AC->Bool} (h:r.all p=true):(r.CP.flatMap (·.2)).all p=true:=by
 cases r with
 |one c|agg cs=>simpa [AV.CP,AV.comp,AV.all] using h
 | AF xs=>simp only[AV.CP,List.all_flatMap];exact h
theorem Vr {p q:AC->Bool} (h:∀c,p c=true->q c=true) {r:AV} (a:r.all p=true):r.all q=true:=by
 have l:∀{cs:List AC},cs.all p=true->cs.all q=true:=fun {cs} d=>by rw[List.all_eq_true] at d ⊢;exact fun x b=>h x (d x b)
 cases r with
 | one c=>exact h c a
 | agg cs=>exact l a
 | AF xs=>simp only[AV.all] at a ⊢;rw[List.all_eq_true] at a ⊢;exact fun x b=>l (a x b)
theorem V9 {f:FuncId} {n:Nat} {c:Code} {rs:List ResultVar} (F:Fn P TI f n c rs) {s:AC} {g b1:AH} {args:List AV} {r:AV} (hp:Kf args=true) (N:r.all BH=true) (m:C7 s=true/\g.lone=true/\b1.lone=true) (hn:args.length<n)
  (h:B9 (env P) TI n c (post TI rs r (some b1)) (Cb n (.one s::args) (some g))):FU P f s g args r b1:=by
 obtain⟨fn,Z,p,hb,L,O⟩:=F.get;refine⟨⟨fn,c,Z,p,hb⟩,⟨Vr (fun _=>Xe) N,m⟩,fun w I ob v0 vs Y H G Q l=>?_⟩;refine calls_of_wp Z hb ?_;obtain⟨n',rfl⟩:∃n',n=n'+1:=⟨n-1,by omega⟩
 have t:g.AN=0:=by have:=m.2.1;cases g <;> simp_all [AH.lone,AH.AN]
 have D:b1.AN=0:=by have:=m.2.2;cases b1 <;> simp_all [AH.lone,AH.AN]
 have C:b1.live=true:=by have:=m.2.2;cases b1 <;> simp_all [AH.lone,AH.live]
 have j:∀b,I b->(cx ⟨fun b=>ob=some b,fun b=>I b\/w.heap.size<=b,ob⟩ w (β0 ob) (AD (Cb (n'+1) (.one s::args) (some g)).bk)).I b/\w.heap[b]? =w.heap[b]? :=fun b hb=>
  ⟨⟨⟨(Y b hb).1,fun id _ e=>by
   unfold β0 at e
   split at e
   ·exact (Y b hb).2 e
   cases e⟩,.inl hb⟩,rfl⟩
 have A:AN (AD (Cb (n'+1) (.one s::args) (some g)).bk) 0=0:=t
 have S0:Av w ⟨fun b=>ob=some b,fun b=>I b\/w.heap.size<=b,ob⟩ (β0 ob) (Cb (n'+1) (.one s::args) (some g)) {tmps:=(v0::vs).toArray++Array.replicate (n'+1-(v0::vs).toArray.size) undef,defers:=[]} w:=
  Av.start (X:=⟨fun b=>ob=some b,fun b=>I b\/w.heap.size<=b,ob⟩) (by simp;omega) (fun _ e=>e) (fun b hb=> .inr hb) (fun b e=>by cases e;exact⟨t,Q,by omega⟩)
   ⟨.inr (Mi (x:=BZ w ob I) j rfl rfl A rfl m.1 H),Kg (x:=CT w I) j hp l⟩
   (fun b e=>by cases e;exact KI (x:=BZ w ob I) j rfl rfl m.2.1 G)
 rw[L];refine wp_mono (DV F.mixed (fun o ho=>Nb F.ty o ho) F.dst (by simp[Cb,Eo];omega) S0 h) fun e V w' he=>?_
 obtain⟨x,s',U,rfl,a,_,S⟩:=he
 have fin:post TI rs r (some b1) x s'->(∀i,x≠ .exit i)->V.defers=[]/\∃v,(results fn V.tmps).run P w'= .ok v w'/\∃u,Ending.returned v= .returned u/\
   (w'.os=w.os/\w'.tape=w.tape/\w'.output=w.output/\w.heap.size<=w'.heap.size/\∀k,k<w.heap.size->ob≠some k->w'.heap[k]? =w.heap[k]?)/\
   (∀(b:Nat) arr e,ob=some b->w.heap[b]? =some (.cells arr e (0,0))->∃d,w'.heap[b]? =some (.cells d e (0,0))/\d.size=arr.size)/\
   Au (BZ w' ob fun k=>(I k\/w.heap.size<=k)/\k<w'.heap.size/\ob≠some k) r u/\
   B5 (BZ w' ob fun k=>(I k\/w.heap.size<=k)/\k<w'.heap.size/\ob≠some k) 0 b1/\b1.short:=by
  intro a hx;refine⟨S.defers,?_⟩
  have M:∃xs,Fv TI s' rs=some xs/\(Ex (AD s'.bk) xs r.CP/\Gs xs r.CP=true/\(rs.length=1↔∀ys,r≠ .AF ys))/\AD s'.bk 0=some b1:=by
   unfold post at a
   split at a
   ·exact absurd rfl (hx _)
   split at a
   ·rename_i xs T
    exact⟨xs,T,a.1 (),a.2 ()⟩
   exact a.elim
  obtain⟨xs,h1,⟨W,h3,h4⟩,B⟩:=M;obtain⟨us,ws,k1,k2,k3⟩:=Kp F.ty S h1 W;have z:AN (AD s'.bk) 0=0:=by rw[Db B];exact D
  have y:live (AD s'.bk) 0:=⟨_,B,C⟩;obtain⟨q,R⟩:=S.HV y z
  have hJ:∀b,(cx ⟨fun b=>ob=some b,fun b=>I b\/w.heap.size<=b,ob⟩ w' U (AD s'.bk)).I b->(BZ w' ob fun k=>(I k\/w.heap.size<=k)/\k<w'.heap.size/\ob≠some k).I b/\w'.heap[b]? =w'.heap[b]? :=
   fun b hb=>⟨⟨hb.2,hb.1.1,fun e=>hb.1.2 0 y (q.trans e)⟩,rfl⟩
  have g1:=SA (J:=fun k=>(I k\/w.heap.size<=k)/\k<w'.heap.size/\ob≠some k) (lo:=0) (bo:=none) S z q (Pw N) (R9 W) k2;have hlen:us.length=rs.length:=k1.length.symm;refine⟨Fo us,NM (by rw[O];exact k1),Fo us,rfl,⟨S.os,S.tape,S.output,S.size,fun b hb K=>S.block b hb K⟩,R,Yk N (MB (by rw[hlen];exact h4) (k3 _ _ _ g1)),?_,S.lens 0 _ B⟩;exact KI hJ rfl q.symm m.2.2 (S.blocks 0 b1 B)
 cases x with
 |B4|ret=>exact fin a (by simp)
 | exit i=>exact a.elim
theorem Yq {w0:World} {X:WX} {β:Nat->Option Nat} {s:St} {a:Act} {w:World} {I:Nat->Prop} (S:Av w0 X β s a w) (M:∀b,X.A b->I b\/w0.heap.size<=b) (j:live (AD s.bk) 0) (o:β 0=X.ob) {c d:AC} {v:Value} (O:Gp c=true) (C:Ai d=true)
  (h:Ck (AD s.bk) c d) (r:Ae (cx X w β (AD s.bk)) c v) {lo:Nat} {bo:Option Nat}:B7 (BZ w X.ob fun k=>(I k\/w0.heap.size<=k)/\k<w.heap.size/\X.ob≠some k) lo bo d v:=by
 have J:∀b,(cx X w β (AD s.bk)).I b->((I b\/w0.heap.size<=b)/\b<w.heap.size/\X.ob≠some b)/\w.heap[b]? =w.heap[b]? :=fun b hb=>⟨⟨M b hb.2,hb.1.1,fun e=>hb.1.2 0 j (o.trans e)⟩,rfl⟩
 cases c with
 | AM t id u off len=>
  rcases h with⟨l,x,V,rfl⟩ |⟨l,n,_,_,_,_,_,rfl⟩ |⟨rfl,rfl,rfl⟩
  ·have g:id≠0:=fun e=>by subst e;simp[Gp] at O
   have Q:u=AN (AD s.bk) id:=by rw[Db x];rfl
   obtain⟨base,cap,e,g1,g2,_,H⟩:=r.2 Q;have hlen:((l.drop off).take len).length=len:=by simp;omega
   have z:l.length<=140737488355328:=S.lens id _ x;refine⟨base,cap,by rw[hlen,e],by rw[hlen];exact g1,by rw[hlen];omega,?_⟩;rcases H with H |⟨b,arr,e',k1,k2,W,Y⟩
   ·left;exact List.eq_nil_of_length_eq_zero (by rw[hlen];omega)
   rcases S.blocks id _ x with⟨p,K⟩ |⟨b',G,L,p,K,U⟩
   ·exact absurd (p.symm.trans k1) (by simp)
   obtain rfl:b'=b:=Option.some.inj (p.symm.trans k1);have m:live (AD s.bk) id:=⟨_,x,rfl⟩
   have D:b'<w.heap.size:=by
    rcases Nat.lt_or_ge b' w.heap.size with h' | h'
    ·exact h'
    have F:w.heap[b']? =_:=K;simp[Array.getElem?_eq_none h'] at F
   refine .inr ⟨b',_,k2,⟨.inr ((S.own id b' m p).resolve_right (fun q=>g q.2)),D,fun e=>g (S.inj id 0 b' m j p (o.trans e))⟩,fun i y B=>?_⟩
   have N:l[off+i]? =some y:=by
    rw[List.getElem?_take] at B
    split at B
    ·simpa using B
    cases B
   obtain⟨us,R,T⟩:=U (off+i) y N;exact⟨us,Bo (w':=w) J _ _ _ R,by rw[show off*t.size+i*t.size=(off+i)*t.size by rw[Nat.add_mul]];exact T⟩
  ·simp[Ai] at C
  simp[Ai] at C
 | nil=>
  rcases h with rfl |⟨t,rfl⟩ |⟨t,rfl⟩
  ·exact r
  ·exact⟨none,0,by rw[show v=_ from r];rfl,Nat.le_refl _,by simp,.inl rfl⟩
  simp[Ai] at C
 |int k n|bool b|fn f=>rw[show d=_ from h];exact r
 | sl t l=>rw[show d=_ from h];exact Bo (w':=w) J _ _ _ r
 | _=>exact h.elim
theorem SC {w0:World} {X:WX} {β:Nat->Option Nat} {s:St} {a:Act} {w:World} {I:Nat->Prop} (S:Av w0 X β s a w) (m:∀b,X.A b->I b\/w0.heap.size<=b) (c:live (AD s.bk) 0) (d:β 0=X.ob) {lo:Nat} {bo:Option Nat}:
  ∀{cs f:List AC} {n:List Value},cs.all Gp=true->f.all Ai=true->Ac (Ck (AD s.bk)) cs f->AO (Ae (cx X w β (AD s.bk))) cs n->AO (B7 (BZ w X.ob fun k=>(I k\/w0.heap.size<=k)/\k<w.heap.size/\X.ob≠some k) lo bo) f n
 | [],[],[],_,_,_,_=>trivial
 | _::_,_::_,_::_,g,i,j,l=>by
  simp only[List.all_cons,Bool.and_eq_true] at g i;exact⟨Yq S m c d g.1 i.1 j.1 l.1,SC S m c d g.2 i.2 j.2 l.2⟩
 |[],[],_::_,_,_,_,h|_::_,_::_,[],_,_,_,h|[],_::_,_,_,_,h,_|_::_,[],_,_,_,h,_=>h.elim
theorem Iy {y:Cx} {lo:Nat} {bo:Option Nat}:∀{c:AC} {v:Value},Ai c=true->B7 y lo bo c v->Ae y c v
 |.int _ _,_,_,r|.bool _,_,_,r|.fn _,_,_,r|.nil,_,_,r|.BB,_,_,r|.sl _ _,_,_,r=>r
 |.AM _ _ _ _ _,_,h,_|.CI _ _ _ _ _,_,h,_|.Am _ _ _,_,h,_|.B3 _ _ _ _ _,_,h,_|.CU _ _ _,_,h,_|.ub _,_,h,_|.own _ _ _,_,h,_=>by simp[Ai] at h
theorem AO.Iy {y:Cx} {lo:Nat} {bo:Option Nat}:∀{cs:List AC} {a:List Value},cs.all Ai=true->AO (B7 y lo bo) cs a->AO (Ae y) cs a
 | [],[],_,_=>trivial
 | _::_,_::_,e,r=>by simp only[List.all_cons,Bool.and_eq_true] at e;exact⟨Abs.Iy e.1 r.1,AO.Iy e.2 r.2⟩
 |[],_::_,_,r|_::_,[],_,r=>r.elim
theorem Kl {y:Cx} {lo:Nat} {bo:Option Nat} {r:AV} {v:Value} (h:r.all Ai=true) (a:D8 y lo bo r v):Cc y r v:=by
 cases r with
 | one c=>exact a.imp (fun q=>q) (Iy h)
 | agg cs=>obtain⟨arr,e,a⟩:=a;exact⟨arr,e,AO.Iy h a⟩
 | AF _=>exact a.elim
theorem Yl {y:Cx} {lo:Nat} {bo:Option Nat} {r:AV} {v:Value} (h:r.all Ai=true) (d:Ea y lo bo r v):Au y r v:=by
 cases r with
 |one c|agg cs=>exact Kl h d
 | AF xs=>
  obtain⟨arr,e,d⟩:=d;refine⟨arr,e,?_⟩
  have key:∀(xs:List (Bool×List AC)) (us:List Value),(xs.all fun x=>x.2.all Ai)=true->AO (fun z q=>D8 y lo bo (CJ z) q) xs us->AO (fun z q=>Cc y (CJ z) q) xs us:=by
   intro xs
   induction xs with
   | nil=>intro us _ a;cases us <;> first | trivial | exact a.elim
   | cons z xs i=>
    intro us b a;cases us with
    | nil=>exact a.elim
    | cons q us=>
     simp only[List.all_cons,Bool.and_eq_true] at b;refine⟨?_,i us b.2 a.2⟩;obtain⟨g,cs⟩:=z;have f:=a.1;cases g with
     | true=>exact Kl (r:= .agg cs) b.1 f
     | false=>
      cases cs with
      | nil=>exact Or.inl rfl
      | cons c cs=>
       simp only[List.all_cons,Bool.and_eq_true] at b;exact Kl (r:= .one c) b.1.1 f
  exact key xs arr.toList h d
def Hc (args:List AV):Bool:=args.all fun c=>match c with | .AF _=>false | c=>c.all C7
theorem Mg {x y:Cx} (h:∀b,x.I b->y.I b/\y.w.heap[b]? =x.w.heap[b]?) (hw:y.w=x.w) (f:x.cv 0=0) (g:y.cv 0=0) (a:y.β 0=x.β 0):∀{l:List AV} {d:List Value},Hc l=true->AO (Au x) l d->AO (Au y) l d
 | [],[],_,_=>trivial
 | .one c::l,_::_,e,r=>by
  have e':(C7 c&&Hc l)=true:=e;simp only[Bool.and_eq_true] at e';exact⟨r.1.imp (fun q=>q) (Mi h hw f g a e'.1),Mg h hw f g a e'.2 r.2⟩
 | .agg c::l,_::_,e,r=>by
  have e':(c.all C7&&Hc l)=true:=e;simp only[Bool.and_eq_true] at e';obtain⟨arr,i,j⟩:=r.1;refine⟨⟨arr,i,?_⟩,Mg h hw f g a e'.2 r.2⟩;exact all e'.1 j
 | .AF _::_,_::_,e,_=>by simp[Hc] at e
 |[],_::_,_,r|_::_,[],_,r=>r.elim
where
 all:∀{cs:List AC} {d:List Value},cs.all C7=true->AO (Ae x) cs d->AO (Ae y) cs d
  | [],[],_,_=>trivial
  | _::_,_::_,e,r=>by simp only[List.all_cons,Bool.and_eq_true] at e;exact⟨Mi h hw f g a e.1 r.1,all e.2 r.2⟩
  |[],_::_,_,r|_::_,[],_,r=>r.elim
theorem X9:∀{xs:List (Bool×List AC)},(xs.all fun x=>x.2.all Gp)=true->(xs.flatMap (·.2)).all Gp=true:=fun {xs} h=>by
 rw[List.all_flatMap];exact h
theorem Wb {f:FuncId} {n:Nat} {c:Code} {rs:List ResultVar} (F:Fn P TI f n c rs) {a:AH} {args:List AV} {r:AV} (hp:Hc args=true) (H:r.all Ai=true) (B:a.lone=true) (hn:args.length<=n) (a1:0<n)
  (h:B9 (env P) TI n c (Kd TI rs r a) (Cb n args (some a))):Dc P f args a r:=by
 obtain⟨fn,U,p,hb,D,J⟩:=F.get;refine⟨⟨fn,c,U,p,hb⟩,⟨H,B⟩,fun w I ob V T A K l=>?_⟩;refine calls_of_wp U hb ?_;obtain⟨n',rfl⟩:∃n',n=n'+1:=⟨n-1,by omega⟩
 have j:a.AN=0:=by cases a <;> simp_all [AH.lone,AH.AN]
 have y:a.live=true:=by cases a <;> simp_all [AH.lone,AH.live]
 have s:∀b,I b->(cx ⟨fun b=>ob=some b,fun b=>I b\/w.heap.size<=b,ob⟩ w (β0 ob) (AD (Cb (n'+1) args (some a)).bk)).I b/\w.heap[b]? =w.heap[b]? :=fun b hb=>
  ⟨⟨⟨(T b hb).1,fun id _ e=>by
   unfold β0 at e
   split at e
   ·exact (T b hb).2 e
   cases e⟩,.inl hb⟩,rfl⟩
 have t:AN (AD (Cb (n'+1) args (some a)).bk) 0=0:=j
 have W:Av w ⟨fun b=>ob=some b,fun b=>I b\/w.heap.size<=b,ob⟩ (β0 ob) (Cb (n'+1) args (some a)) {tmps:=V.toArray++Array.replicate (n'+1-V.toArray.size) undef,defers:=[]} w:=
  Av.start (X:=⟨fun b=>ob=some b,fun b=>I b\/w.heap.size<=b,ob⟩) hn (fun _ e=>e) (fun b hb=> .inr hb) (fun b e=>by cases e;exact⟨j,K,by omega⟩)
   (Mg (x:=BZ w ob I) s rfl rfl t rfl hp l)
   (fun b e=>by cases e;exact KI (x:=BZ w ob I) s rfl rfl B A)
 rw[D];refine wp_mono (DV F.mixed (fun o ho=>Nb F.ty o ho) F.dst (by simp[Cb,Eo];omega) W h) fun e Q w' he=>?_
 obtain⟨x,s',O,rfl,g,_,S⟩:=he
 have fin:Kd TI rs r a x s'->(∀i,x≠ .exit i)->Q.defers=[]/\∃v,(results fn Q.tmps).run P w'= .ok v w'/\∃u,Ending.returned v= .returned u/\
   (w'.os=w.os/\w'.tape=w.tape/\w'.output=w.output/\w.heap.size<=w'.heap.size/\∀k,k<w.heap.size->ob≠some k->w'.heap[k]? =w.heap[k]?)/\
   (∀(b:Nat) arr e,ob=some b->w.heap[b]? =some (.cells arr e (0,0))->∃d,w'.heap[b]? =some (.cells d e (0,0))/\d.size=arr.size)/\
   Au (BZ w' ob fun k=>(I k\/w.heap.size<=k)/\k<w'.heap.size/\ob≠some k) r u/\
   B5 (BZ w' ob fun k=>(I k\/w.heap.size<=k)/\k<w'.heap.size/\ob≠some k) 0 a:=by
  intro g hx;refine⟨S.defers,?_⟩
  have G:∃xs,Fv TI s' rs=some xs/\(Ex (AD s'.bk) xs r.CP/\(xs.all fun x=>x.2.all Gp)=true/\(rs.length=1↔∀ys,r≠ .AF ys))/\AD s'.bk 0=some a:=by
   unfold Kd at g
   split at g
   ·exact absurd rfl (hx _)
   split at g
   ·rename_i xs N
    exact⟨xs,N,g ()⟩
   exact g.elim
  obtain⟨xs,Y,⟨R,Z,h4⟩,z⟩:=G;obtain⟨us,ws,k1,k2,k3⟩:=Kp F.ty S Y R;have M:AN (AD s'.bk) 0=0:=by rw[Db z];exact j
  have m:live (AD s'.bk) 0:=⟨_,z,y⟩;obtain⟨q,L⟩:=S.HV m M
  have hJ:∀b,(cx ⟨fun b=>ob=some b,fun b=>I b\/w.heap.size<=b,ob⟩ w' O (AD s'.bk)).I b->(BZ w' ob fun k=>(I k\/w.heap.size<=k)/\k<w'.heap.size/\ob≠some k).I b/\w'.heap[b]? =w'.heap[b]? :=
   fun b hb=>⟨⟨hb.2,hb.1.1,fun e=>hb.1.2 0 m (q.trans e)⟩,rfl⟩
  have g1:=SC (I:=I) (lo:=0) (bo:=none) S (fun b hb=>hb) m q (X9 Z) (Pw H) (R9 R) k2;have hlen:us.length=rs.length:=k1.length.symm;refine⟨Fo us,NM (by rw[J];exact k1),Fo us,rfl,⟨S.os,S.tape,S.output,S.size,fun b hb C=>S.block b hb C⟩,L,Yl H (MB (by rw[hlen];exact h4) (k3 _ _ _ g1)),?_⟩;exact KI hJ rfl q.symm B (S.blocks 0 a z)
 cases x with
 |B4|ret=>exact fin g (by simp)
 | exit i=>exact g.elim
def FH:AC->Bool
 |.int _ _|.bool _|.fn _|.nil=>true
 | .own t _ _=>t.flat
 | _=>false
theorem Wr {w:World} {I a:Nat->Prop} {lo:Nat} {bo:Option Nat}:∀{c:AC} {v:Value},FH c=true->B7 (CT w I) lo bo c v->B7 (CT w a) lo bo c v
 |.int _ _,_,_,r|.bool _,_,_,r|.fn _,_,_,r|.nil,_,_,r=>r
 | .own t l n,_,h,⟨k,base,cap,e,d,f,g,j⟩=>⟨k,base,cap,e,d,f,g,j.imp (fun q=>q) fun⟨b,arr,ty,k1,k2,o,p,s,u⟩=>⟨b,arr,ty,k1,k2,o,p,s,fun i y m=>by
  obtain⟨us,x,z⟩:=u i y m;exact⟨us,Km (I:=I) (w:=w) t y us h x,z⟩⟩⟩
 |.BB,_,h,_|.sl _ _,_,h,_|.AM _ _ _ _ _,_,h,_|.CI _ _ _ _ _,_,h,_|.Am _ _ _,_,h,_|.B3 _ _ _ _ _,_,h,_|.CU _ _ _,_,h,_|.ub _,_,h,_=>by simp[FH] at h
def GO:AC->AC
 | .own t l _=> .sl t l
 | c=>c
def M9:AV->AV
 | .one c=> .one (GO c)
 | .agg cs=> .agg (cs.map GO)
 | .AF xs=> .AF (xs.map fun x=>(x.1,x.2.map GO))
theorem Q1 {x y:Cx} {lo Il:Nat} {bo IM:Option Nat} {p:AC->Bool} {g:AC->AC} (s:g .BB= .BB) (h:∀c v,p c=true->B7 x lo bo c v->B7 y Il IM (g c) v) {r:AV} {v:Value} (n:r.all p=true) (b:Ea x lo bo r v):
  Ea y Il IM (match r with | .one c=> .one (g c) | .agg cs=> .agg (cs.map g) | .AF xs=> .AF (xs.map fun x=>(x.1,x.2.map g))) v:=by
 have l:∀{cs:List AC} {f:List Value},cs.all p=true->AO (B7 x lo bo) cs f->AO (B7 y Il IM) (cs.map g) f:=by
  intro cs
  induction cs with
  | nil=>intro f _ h;cases f <;> first | trivial | exact h.elim
  | cons c cs o=>intro f m a;cases f with
   | nil=>exact a.elim
   | cons u us=>
    simp only[List.all_cons,Bool.and_eq_true] at m;exact⟨h _ _ m.1 a.1,o m.2 a.2⟩
 cases r with
 | one c=>
  rcases b with rfl | b
  ·exact .inl s
  exact .inr (h _ _ n b)
 | agg cs=>obtain⟨arr,e,b⟩:=b;exact⟨arr,e,l n b⟩
 | AF xs=>
  obtain⟨arr,e,b⟩:=b;refine⟨arr,e,?_⟩
  have key:∀(xs:List (Bool×List AC)) (us:List Value),(xs.all fun x=>x.2.all p)=true->AO (fun z q=>D8 x lo bo (CJ z) q) xs us->AO (fun z q=>D8 y Il IM (CJ z) q) (xs.map fun x=>(x.1,x.2.map g)) us:=by
   intro xs
   induction xs with
   | nil=>intro us _ a;cases us <;> first | trivial | exact a.elim
   | cons z xs o=>
    intro us j a;cases us with
    | nil=>exact a.elim
    | cons q us=>
     simp only[List.all_cons,Bool.and_eq_true] at j;refine⟨?_,o us j.2 a.2⟩;obtain⟨t,cs⟩:=z;have d:=a.1;cases t with
     | true=>obtain⟨i,e',d⟩:=d;exact⟨i,e',l j.1 d⟩
     | false=>
      cases cs with
      | nil=>exact Or.inl rfl
      | cons c cs=>
       simp only[List.all_cons,Bool.and_eq_true] at j;rcases d with k | d
       ·have k:c= .BB:=k;subst k;exact .inl s
       exact .inr (h _ _ j.1.1 d)
  exact key xs arr.toList n b
theorem Lj {f:FuncId} {args:List AV} {r:AV} (j:r.all FH=true) (h:EW P false f args r):EW P true f args r:=by
 refine⟨h.1,h.2.1,fun w I k d a=>(h.2.2 w I k d a).mono fun e w' ⟨u,bo,he,hb,hu⟩=>⟨u,bo,he,hb,?_⟩⟩;have:=Q1 (g:=fun c=>c) (y:=CT w' fun b=>((true=false/\I b)\/w.heap.size<=b)/\b<w'.heap.size/\bo≠some b) rfl (fun c v i=>Wr i) j hu;cases r <;> simpa using this
theorem YP {w:World} {J:Nat->Prop} {lo:Nat} {bo:Option Nat}:∀{c:AC} {v:Value},BU c=true->B7 (CT w fun b=>(J b\/lo<=b)/\b<w.heap.size/\bo≠some b) lo bo c v->B7 (CT w fun b=>(J b\/lo<=b)/\b<w.heap.size/\(none:Option Nat)≠some b) lo none (GO c) v
 | .own t l n,v,_,⟨z,base,cap,e,f,x,g,j⟩=>by
  refine⟨base,cap,by rw[e],f,g,?_⟩;rcases j with⟨_,q,_⟩ |⟨b,arr,ty,k1,k2,m,o,A,p⟩
  ·exact .inl q
  have a:b<w.heap.size:=by
   rcases Nat.lt_or_ge b w.heap.size with h' | h'
   ·exact h'
   have d:w.heap[b]? =_:=o;simp[Array.getElem?_eq_none h'] at d
  refine .inr ⟨b,0,m,⟨.inr k2,a,by simp⟩,fun i y k=>?_⟩;obtain⟨us,s,u⟩:=p i y k;exact⟨us,Bo (w':=w) (fun b hb=>⟨⟨hb.1,hb.2.1,by simp⟩,rfl⟩) _ _ _ s,by rw[Nat.zero_add];exact u⟩
 |.int _ _,_,_,r|.bool _,_,_,r|.fn _,_,_,r|.nil,_,_,r|.BB,_,_,r=>r
 | .sl _ _,_,_,r=>Bo (w':=w) (fun b hb=>⟨⟨hb.1,hb.2.1,by simp⟩,rfl⟩) _ _ _ r
 |.AM _ _ _ _ _,_,h,_|.CI _ _ _ _ _,_,h,_|.Am _ _ _,_,h,_|.B3 _ _ _ _ _,_,h,_|.CU _ _ _,_,h,_|.ub _,_,h,_=>by simp[BU,Ai] at h
theorem B8 {k:Bool} {f:FuncId} {args:List AV} {r:AV} (h:EW P k f args r):EW P k f args (M9 r):=by
 have d:∀c,BU c=true->BU (GO c)=true:=fun c d=>by cases c <;> simp_all [GO,BU,Ai]
 have i:∀{cs:List AC},cs.all BU=true->(cs.map GO).all BU=true:=fun {cs} h=>by
  rw[List.all_eq_true] at h ⊢;intro x j;obtain⟨y,m,rfl⟩:=List.mem_map.1 j;exact d y (h y m)
 refine⟨h.1,⟨?_,?_⟩,fun w I n l a=>(h.2.2 w I n l a).mono fun e w' ⟨u,bo,he,hb,hu⟩=>⟨u,none,he,hb,?_⟩⟩
 ·have:=h.2.1.1;cases r with
  | one c=>exact d c this
  | agg cs=>exact i this
  | AF xs=>
   simp only[M9,AV.all,List.all_map] at this ⊢;rw[List.all_eq_true] at this ⊢;exact fun x j=>i (this x j)
 ·have:=h.2.1.2;cases r with
  |one c|agg cs=>rfl
  | AF xs=>
   simp only[M9,AV.wf,List.all_map] at this ⊢;rw[List.all_eq_true] at this ⊢;exact fun x j=>by simpa using this x j
 have:=Q1 (g:=GO) (IM:=none) (Il:=w.heap.size) (y:=CT w' fun b=>((k=false/\I b)\/w.heap.size<=b)/\b<w'.heap.size/\(none:Option Nat)≠some b) rfl (fun c v d=>YP (J:=fun b=>k=false/\I b) d) h.2.1.1 hu;cases r <;> exact this
end
end Go.Abs
namespace Go.Abs
open Go.RowKit
def zC:AC->Value->Bool
 | .int k n,.int k' n'=>k==k'&&n==n'
 | .bool b,.bool b'=>b==b'
 |.nil,.slice none 0 0|.sl _ [],.slice none 0 0=>true
 | _,_=>false
def G3:List AC->List Value->Bool
 | [],[]=>true
 | c::cs,v::vs=>zC c v&&G3 cs vs
 | _,_=>false
theorem aR {c:AC} {v:Value} (h:zC c v=true) (x:Cx):Ae x c v:=by
 unfold zC at h
 split at h
 ·simp only[Bool.and_eq_true,beq_iff_eq] at h;obtain⟨rfl,rfl⟩:=h
  rfl
 ·simp only[beq_iff_eq] at h;subst h
  rfl
 ·rfl
 ·exact⟨none,0,rfl,Nat.le_refl _,by simp,.inl rfl⟩
 cases h
theorem N0:∀{cs:List AC} {a:List Value},G3 cs a=true->∀x,AO (Ae x) cs a
 | [],[],_,_=>trivial
 | _::_,_::_,h,x=>by simp only[G3,Bool.and_eq_true] at h;exact⟨aR h.1 x,N0 h.2 x⟩
 |[],_::_,h,_|_::_,[],h,_=>by simp[G3] at h
def Pm (P:Program) (t:TypeId) (i:Info):Bool:=
 match P.info? t with
 | some ti=>match P.underlying t with
  | some d=>match ti.zero with
   | some z=>ti.size==i.size&&G3 i.zero z.cells.toList&&d.isRow==i.agg&&(i.agg||i.size==1)
   | none=>false
  | none=>false
 | none=>false
def Pk (P:Program) (t:TypeId) (k:IntKind):Bool:=
 match P.underlying t with
 | some (.int k')=>k'==k
 | _=>false
def Pn (P:Program) (t:TypeId) (i:Info):Bool:=
 match P.underlying t with
 | some (.slice e)=>e==i.CD&&(match P.info? i.CD with
  | some ei=>match ei.zero with
   | some z=>ei.size==i.elem.size&&ei.bytes==i.Dz&&decide (0<ei.bytes)&&G3 (cells i.elem i.B0) z.cells.toList
   | none=>false
  | none=>false)
 | _=>false
def L3 (P:Program) (p:Nat×Nat×Bool) (fl:Field):Bool:=
 match P.info? fl.type with
 | some ti=>match P.underlying fl.type with
  | some d=>fl.offset==p.1&&ti.size==p.2.1&&decide (0<p.2.1)&&d.isRow==p.2.2&&(p.2.2||p.2.1==1)
  | none=>false
 | none=>false
def HJ (P:Program):List (Nat×Nat×Bool)->List Field->Bool
 | [],[]=>true
 | p::ps,f::fs=>L3 P p f&&HJ P ps fs
 | _,_=>false
def Ph (P:Program) (t:TypeId) (i:Info):Bool:=
 match P.underlying t with
 | some (.struct fs)=>HJ P i.fields fs.toList
 | _=>false
def Pg (P:Program) (t:TypeId):Bool:=
 match P.underlying t with
 | some .bool=>true
 | _=>false
def Po (P:Program) (t:TypeId) (i:Info):Bool:=
 (!i.known||Pm P t i)&&(match i.kind with | some k=>Pk P t k | none=>true)&&(!i.sl||Pn P t i)&&(!i.KC||Pg P t)&&(!i.known||i.fields.isEmpty||Ph P t i)
theorem Pj {P:Program}:∀{b:List (Nat×Nat×Bool)} {a:List Field},HJ P b a=true->b.length=a.length/\∀(f:Nat) (p:Nat×Nat×Bool),b[f]? =some p->∃d,a[f]? =some d/\L3 P p d=true
 | [],[],_=>⟨rfl,fun f p h=>by simp at h⟩
 | p::b,f::a,h=>by
  simp only[HJ,Bool.and_eq_true] at h;obtain⟨g,j⟩:=Pj h.2;refine⟨by simp[g],fun i q c=>?_⟩;cases i with
  | zero=>simp at c;subst c;exact⟨f,rfl,h.1⟩
  | succ i=>simpa using j i q (by simpa using c)
 |[],_::_,h|_::_,[],h=>by simp[HJ] at h
theorem TO {P:Program} {t:TypeId} {i:Info} (h:Po P t i=true):Cg P t i:=by
 simp only[Po,Bool.and_eq_true] at h;obtain⟨⟨⟨⟨b,c⟩,a⟩,r⟩,p⟩:=h;refine⟨fun q=>?_,fun k q=>?_,fun hb=>?_,fun J=>?_,fun q F=>?_⟩
 ·simp only[q,Bool.not_true,Bool.false_or] at b;unfold Pm at b
  split at b
  ·rename_i w l
   split at b
   ·rename_i d m
    split at b
    ·rename_i z o
     simp only[Bool.and_eq_true,beq_iff_eq,Bool.or_eq_true] at b;obtain⟨⟨⟨s,u⟩,a3⟩,a4⟩:=b;exact⟨w,z,d,l,s,o,N0 u,m,a3,fun D=>a4.resolve_left (by simp[D])⟩
    cases b
   cases b
  cases b
 ·rw[q] at c;simp only at c;unfold Pk at c
  split at c
  ·rename_i k' e;rw[e];simp only[beq_iff_eq] at c;rw[c]
  cases c
 ·simp only[hb,Bool.not_true,Bool.false_or] at r;unfold Pg at r
  split at r
  ·assumption
  cases r
 ·simp only[J,Bool.not_true,Bool.false_or] at a;unfold Pn at a
  split at a
  ·rename_i e l
   simp only[Bool.and_eq_true,beq_iff_eq] at a;obtain⟨rfl,a⟩:=a;refine⟨l,?_⟩
   split at a
   ·rename_i A m
    split at a
    ·rename_i z o
     simp only[Bool.and_eq_true,beq_iff_eq,decide_eq_true_eq] at a;obtain⟨⟨⟨s,u⟩,a3⟩,a4⟩:=a;exact⟨A,z,m,s,u,a3,o,N0 a4⟩
    cases a
   cases a
  cases a
 have v:i.fields.isEmpty=false:=by cases H:i.fields with
  | nil=>exact absurd H F
  | cons _ _=>rfl
 simp only[q,v,Bool.not_true,Bool.false_or] at p;unfold Ph at p
 split at p
 ·rename_i C l
  obtain⟨g1,g2⟩:=Pj p;refine⟨C,l,by simpa using g1,fun f L n g I=>?_⟩;obtain⟨B,K,j⟩:=g2 f _ I;unfold L3 at j
  split at j
  ·rename_i w m
   split at j
   ·rename_i d o
    simp only[Bool.and_eq_true,beq_iff_eq,decide_eq_true_eq,Bool.or_eq_true] at j;obtain⟨⟨⟨⟨b1,b2⟩,b3⟩,x⟩,y⟩:=j;exact⟨B,d,by simpa using K,b1,by rw[m];exact congrArg some b2,b3,o,x,fun G=>y.resolve_left (by simp[G])⟩
   cases j
  cases j
 cases p
def RE:Info:={known:=false,B0:=false}
theorem Z8 (P:Program) (t:TypeId):Cg P t RE:=TO (by rfl)
end Go.Abs
namespace Go.Abs
open Go.RowKit
abbrev TG:T:= .pr .bool (.sl .u32)
abbrev AA:T:= .pr TG TG
abbrev AY:T:= .pr (.sl (.sl AA)) (.sl AA)
abbrev Cw:T:= .pr AY AY
abbrev Bi:T:= .pr .u8 (.pr .u8 (.pr .u8 (.pr .i8 .u8)))
def TI:TypeId->Info
 |2|3=>{size:=1,zero:=[.int .i64 0],kind:=some .i64,B0:=false}
 | 4=>{size:=1,zero:=[.bool false],KC:=true,B0:=false}
 | 5=>{size:=1,zero:=[.int .u8 0],kind:=some .u8,B0:=false}
 |22|23=>{size:=1,zero:=[.nil],sl:=true,CD:=119,elem:=Bi,B0:=((0,0,0,0,0):el Bi),Dz:=5}
 | 31=>{size:=1,zero:=[.nil],sl:=true,CD:=32,elem:=(.sl AA),B0:=([]:el (.sl AA)),Dz:=24}
 | 32=>{size:=1,zero:=[.nil],sl:=true,CD:=113,elem:=AA,B0:=(((false,[]),(false,[])):el AA),Dz:=64}
 | 34=>{size:=2,zero:=[.nil,.nil],agg:=true,B0:=false,fields:=[(0,1,false),(1,1,false)]}
 | 38=>{size:=1,zero:=[.int .i64 0],kind:=some .i64,B0:=false}
 | 69=>{size:=1,zero:=[.nil],sl:=true,CD:=34,elem:=AY,B0:=(([],[]):el AY),Dz:=48}
 | 24=>{size:=1,zero:=[.nil],sl:=true,CD:=5,elem:= .u8,B0:=(0:el .u8),Dz:=1}
 | 26=>{size:=2,zero:=[.nil,.nil],agg:=true,B0:=false,fields:=[(0,1,false),(1,1,false)]}
 | 27=>{size:=1,zero:=[.nil],sl:=true,CD:=42,elem:=Cw,B0:=((([],[]),([],[])):el Cw),Dz:=96}
 | 42=>{size:=4,zero:=[.nil,.nil,.nil,.nil],agg:=true,B0:=false,fields:=[(0,2,true),(2,2,true)]}
 | 109=>{size:=1,zero:=[.nil],sl:=true,CD:=178,elem:= .u32,B0:=(0:el .u32),Dz:=4}
 | 111=>{size:=2,zero:=[.bool false,.nil],agg:=true,B0:=false,fields:=[(0,1,false),(1,1,false)]}
 | 113=>{size:=4,zero:=[.bool false,.nil,.bool false,.nil],agg:=true,B0:=false,fields:=[(0,2,true),(2,2,true)]}
 | 117=>{size:=1,zero:=[.int .i8 0],kind:=some .i8,B0:=false}
 | 119=>{size:=5,zero:=[.int .u8 0,.int .u8 0,.int .u8 0,.int .i8 0,.int .u8 0],agg:=true,B0:=false,fields:=[(0,1,false),(1,1,false),(2,1,false),(3,1,false),(4,1,false)]}
 | 169=>{size:=2,zero:=[.nil,.nil],agg:=true,B0:=false,fields:=[(0,1,false),(1,1,false)]}
 | 178=>{size:=1,zero:=[.int .u32 0],kind:=some .u32,B0:=false}
 |176|196=>{size:=1,zero:=[.int .u64 0],kind:=some .u64,B0:=false}
 | _=>RE
theorem Kz (t:TypeId):Cg Tryz.prog t (TI t):=by
 unfold TI
 split <;> first | exact Z8 _ _ | exact TO (by kernel_rfl)
theorem KO:Tryz.prog.follows .mixedOrders=true:=by kernel_rfl
end Go.Abs
namespace Go.Abs
open Go.RowKit
def HG (fn : Func) : Bool := (fn.name == "runtime.NumGoroutine") == false && match fn.body with | some c => Eg c | none => false
def Jb (E:Env) (fn:Func) (r:AV) (b1:Option AH) (s:St):Prop:=
 match fn.body with
 | some c=>B9 E TI fn.ntmps c (post TI fn.results.toList r b1) s
 | none=>False
theorem AE {f:FuncId} {fn:Func} (g:Tryz.prog.funcs[f]? =some fn) (a:HG fn=true) {args:List AV} {r:AV} (b:(Kf args&&(r.all BU&&(r.wf&&Nat.ble args.length fn.ntmps)))=true)
  (h:∀E,env Tryz.prog=E->Jb E fn r none (Cb fn.ntmps args none)):EW Tryz.prog false f args r:=by
 have h:=h _ rfl;unfold Jb at h;unfold HG at a;simp only[Bool.and_eq_true] at a b
 split at h
 ·rename_i c d
  rw[d] at a;exact Vi (TI:=TI) (n:=fn.ntmps) (c:=c) (rs:=fn.results.toList) ⟨⟨fn,g,by simpa using a.1,d,rfl,rfl⟩,a.2,Kz,KO⟩ b.1 ⟨b.2.1,b.2.2.1⟩ (Nat.le_of_ble_eq_true b.2.2.2) h
 exact h.elim
theorem IH {f:FuncId} {fn:Func} (j:Tryz.prog.funcs[f]? =some fn) (a:HG fn=true) {g:AC} {d b1:AH} {args:List AV} {r:AV} (b:(Kf args&&(r.all BH&&(Nat.ble (args.length+1) fn.ntmps&&(C7 g&&(d.lone&&b1.lone)))))=true)
  (h:∀E,env Tryz.prog=E->Jb E fn r (some b1) (Cb fn.ntmps (.one g::args) (some d))):FU Tryz.prog f g d args r b1:=by
 have h:=h _ rfl;unfold Jb at h;unfold HG at a;simp only[Bool.and_eq_true] at a b
 split at h
 ·rename_i c i
  rw[i] at a;exact V9 (TI:=TI) (n:=fn.ntmps) (c:=c) (rs:=fn.results.toList) ⟨⟨fn,j,by simpa using a.1,i,rfl,rfl⟩,a.2,Kz,KO⟩ b.1 b.2.1 b.2.2.2 (Nat.le_of_ble_eq_true b.2.2.1) h
 exact h.elim
def Pc (E:Env) (fn:Func) (r:AV) (b0:AH) (s:St):Prop:=
 match fn.body with
 | some c=>B9 E TI fn.ntmps c (Kd TI fn.results.toList r b0) s
 | none=>False
theorem Ff {f:FuncId} {fn:Func} (i:Tryz.prog.funcs[f]? =some fn) (b:HG fn=true) {d:AH} {args:List AV} {r:AV} (a:(Hc args&&(r.all Ai&&(d.lone&&(Nat.ble args.length fn.ntmps&&Nat.ble 1 fn.ntmps))))=true)
  (h:∀E,env Tryz.prog=E->Pc E fn r d (Cb fn.ntmps args (some d))):Dc Tryz.prog f args d r:=by
 have h:=h _ rfl;unfold Pc at h;unfold HG at b;simp only[Bool.and_eq_true] at b a
 split at h
 ·rename_i c g
  rw[g] at b;exact Wb (TI:=TI) (n:=fn.ntmps) (c:=c) (rs:=fn.results.toList) ⟨⟨fn,i,by simpa using b.1,g,rfl,rfl⟩,b.2,Kz,KO⟩ a.1 a.2.1 a.2.2.1 (Nat.le_of_ble_eq_true a.2.2.2.1) (Nat.le_of_ble_eq_true a.2.2.2.2) h
 exact h.elim
theorem E4 {E:Env} {f:FuncId} {args:List AV} {a:AH} {r:AV} (b:env Tryz.prog=E) (h:Dc Tryz.prog f args a r):E.D f args a r:=b ▸ h
def az:AV->Nat
 | .one (.sl _ l)=>l.length
 | _=>0
def au:AV->Int
 | .one (.int _ n)=>n
 | _=>0
theorem Wo {bk:Nat->Option AH} {c d:AC} {i:ResultVar} (h:Ck bk c d):
  (∀_:PUnit,Ex bk [(false,[c])] (AV.one d).CP/\Gs [(false,[c])] (AV.one d).CP=true/\([i].length=1↔∀ys:List (Bool×List AC),¬AV.one d=AV.AF ys))/\True:=by
 refine⟨fun _=>⟨⟨⟨rfl,h,trivial⟩,trivial⟩,?_,by simp⟩,trivial⟩;unfold Gs
 split
 ·rfl
 ·rename_i x _
  simp only[List.flatMap_cons,List.flatMap_nil,List.append_nil];cases f:Fh c <;> simp[f]
 rename_i a b
 exfalso
 simp only[AV.CP,AV.comp,List.flatMap_cons,List.flatMap_nil,List.append_nil] at a b;cases g:Dl d <;> simp[g] at a b
theorem al {bk:Nat->Option AH} {c d:AC} {a:ResultVar} {x y:Option AH} (h:Ck bk c d) (hb:x=y):
  (∀_:PUnit,Ex bk [(false,[c])] (AV.one d).CP/\Gs [(false,[c])] (AV.one d).CP=true/\([a].length=1↔∀ys:List (Bool×List AC),¬AV.one d=AV.AF ys))/\(∀_:PUnit,x=y):=
 ⟨(Wo h).1,fun _=>hb⟩
theorem E3 {E:Env} {a:Bool} {f:FuncId} {args:List AV} {r:AV} (b:env Tryz.prog=E) (h:EW Tryz.prog a f args r):E.C a f args r:=b ▸ h
theorem Cl {E:Env} {f:FuncId} {b:AC} {a b1:AH} {args:List AV} {r:AV} (c:env Tryz.prog=E) (h:FU Tryz.prog f b a args r b1):E.B f b a args r b1:=c ▸ h
end Go.Abs
