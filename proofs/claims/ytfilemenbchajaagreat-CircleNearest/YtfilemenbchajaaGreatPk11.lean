/- Part 12 of a proof. Conditions: each theorem's own. -/
import Derived.Test.YtfilemenbchajaaGreatProg
import Derived.Test.YtfilemenbchajaaGreatPk10
set_option linter.all false
set_option maxHeartbeats 8000000
set_option maxRecDepth 20000
open Go.Proofs
namespace Go.Abs
open Go.RowKit
section
variable {P:Program} {TI:TypeId->Info}
theorem bF:∀{c:AC},Bg c=true->Dt c=true
 |.int _ _,_|.bool _,_|.fn _,_|.nil,_|.AT _ 0 0 _ _,_=>rfl
 |.AT _ (_+1) _ _ _,h|.AT _ 0 (_+1) _ _,h|.BZ,h|.sl _ _,h|.Cw _ _ _ _ _,h|.AD _ _ _,h|.Cd _ _ _ _ _,h|.C8 _ _ _,h|.ub _,h|.own _ _ _,h=>by simp[Bg] at h
theorem KU {y:Cx} {lo:Nat} {bo:Option Nat}:∀{c:AC} {v:Value},Bg c=true->Cj y lo bo c v->Az y c v
 |.int _ _,_,_,r|.bool _,_,_,r|.fn _,_,_,r|.nil,_,_,r|.AT _ _ _ _ _,_,_,r=>r
 |.BZ,_,h,_|.sl _ _,_,h,_|.Cw _ _ _ _ _,_,h,_|.AD _ _ _,_,h,_|.Cd _ _ _ _ _,_,h,_|.C8 _ _ _,_,h,_|.ub _,_,h,_|.own _ _ _,_,h,_=>by simp[Bg] at h
theorem AY.KU {y:Cx} {lo:Nat} {bo:Option Nat}:∀{cs:List AC} {vs:List Value},cs.all Bg=true->AY (Cj y lo bo) cs vs->AY (Az y) cs vs
 | [],[],_,_=>trivial
 | _::_,_::_,e,r=>by simp only[List.all_cons,Bool.and_eq_true] at e;exact⟨Abs.KU e.1 r.1,AY.KU e.2 r.2⟩
 |[],_::_,_,r|_::_,[],_,r=>r.elim
theorem Mb {y:Cx} {lo:Nat} {bo:Option Nat} {r:AV} {v:Value} (h:r.all Bg=true) (a:Ey y lo bo r v):DH y r v:=by
 cases r with
 | one c=>exact a.imp (fun q=>q) (KU h)
 | agg cs=>obtain⟨arr,e,a⟩:=a;exact⟨arr,e,AY.KU h a⟩
 | AE _=>exact a.elim
theorem du {y:Cx} {lo:Nat} {bo:Option Nat} {r:AV} {v:Value} (h:r.all Bg=true) (d:FP y lo bo r v):BQ y r v:=by
 cases r with
 |one c|agg cs=>exact Mb h d
 | AE xs=>
  obtain⟨arr,e,d⟩:=d;refine⟨arr,e,?_⟩
  have key:∀(xs:List (Bool×List AC)) (us:List Value),(xs.all fun x=>x.2.all Bg)=true->AY (fun z q=>Ey y lo bo (Cz z) q) xs us->AY (fun z q=>DH y (Cz z) q) xs us:=by
   intro xs
   induction xs with
   | nil=>intro us _ a;cases us <;> first | trivial | exact a.elim
   | cons z xs f=>
    intro us b a;cases us with
    | nil=>exact a.elim
    | cons q us=>
     simp only[List.all_cons,Bool.and_eq_true] at b;refine⟨?_,f us b.2 a.2⟩;obtain⟨g,cs⟩:=z;have h3:=a.1;cases g with
     | true=>exact Mb (r:= .agg cs) b.1 h3
     | false=>
      cases cs with
      | nil=>exact Or.inl rfl
      | cons c cs=>
       simp only[List.all_cons,Bool.and_eq_true] at b;exact Mb (r:= .one c) b.1.1 h3
  exact key xs arr.toList h d
theorem eA {w0:World} {X:WX} {β:Nat->Option Nat} {s:St} {a:Act} {w:World} {J:Nat->Prop} {lo:Nat} {bo:Option Nat} (S:BR w0 X β s a w) (m:AW (AF s.bk) 0=0) (i:β 0=X.ob) {c d:AC} {v:Value} (g:Bg d=true) (h:Di (AF s.bk) c d)
  (r:Az (cx X w β (AF s.bk)) c v):Cj (B5 w X.ob J) lo bo d v:=by
 cases c with
 | AT t id j off len=>
  rcases h with⟨l,o,p,rfl⟩ |⟨l,n,_,_,_,_,_,rfl⟩ |⟨rfl,rfl,rfl⟩
  ·simp[Bg] at g
  ·simp[Bg] at g
  refine⟨⟨r.1.1,Nat.le_refl _⟩,fun _=>?_⟩;have:=r.2 m.symm
  show Fy w X.ob _ _ _ _ _
  rw[<-i];exact this
 | nil=>
  rcases h with rfl |⟨t,rfl⟩ |⟨t,rfl⟩
  ·exact r
  ·simp[Bg] at g
  simp[Bg] at g
 |int k n|bool b|fn f=>rw[show d=_ from h];exact r
 | sl t l=>rw[show d=_ from h] at g;simp[Bg] at g
 | _=>exact h.elim
theorem U6 {w0:World} {X:WX} {β:Nat->Option Nat} {s:St} {a:Act} {w:World} {J:Nat->Prop} {lo:Nat} {bo:Option Nat} (S:BR w0 X β s a w) (g:AW (AF s.bk) 0=0) (b:β 0=X.ob):∀{cs c:List AC} {vs:List Value},c.all Bg=true->Aw (Di (AF s.bk)) cs c->
  AY (Az (cx X w β (AF s.bk))) cs vs->AY (Cj (B5 w X.ob J) lo bo) c vs
 | [],[],[],_,_,_=>trivial
 | _::_,_::_,_::_,d,h3,f=>by
  simp only[List.all_cons,Bool.and_eq_true] at d;exact⟨eA S g b d.1 h3.1 f.1,U6 S g b d.2 h3.2 f.2⟩
 |[],[],_::_,_,_,h|_::_,_::_,[],_,_,h|[],_::_,_,_,h,_|_::_,[],_,_,h,_=>h.elim
theorem OZ {x y:Cx} (h:∀b,x.I b->y.I b/\y.w.heap[b]? =x.w.heap[b]?) (hw:y.w=x.w) (d:x.cv 0=0) (f:y.cv 0=0) (a:y.β 0=x.β 0):∀{c:AC} {v:Value},Dt c=true->Az x c v->Az y c v
 | .AT t i v off len,_,e,r=>by
  match i,v,e,r with
  | 0,0,_,r=>exact⟨⟨r.1.1,Nat.zero_le _⟩,fun _=>by rw[hw,a];exact r.2 d.symm⟩
  |0,_+1,h,_|_+1,_,h,_=>simp[Dt,BD] at h
 | .AD i v off,_,e,r=>by
  match i,v,e,r with
  | 0,0,_,r=>exact⟨⟨r.1.1,Nat.zero_le _⟩,fun _=>by rw[a];exact r.2 d.symm⟩
  |0,_+1,h,_|_+1,_,h,_=>simp[Dt,BD] at h
 |.BZ,_,_,r|.int _ _,_,_,r|.bool _,_,_,r|.fn _,_,_,r|.nil,_,_,r=>r
 | .sl _ _,_,_,r=>CR h _ _ _ r
 |.Cw _ _ _ _ _,_,e,_|.Cd _ _ _ _ _,_,e,_|.C8 _ _ _,_,e,_|.ub _,_,e,_|.own _ _ _,_,e,_=>by simp[Dt,BD] at e
theorem L7 {x y:Cx} (h:∀b,x.I b->y.I b/\y.w.heap[b]? =x.w.heap[b]?) (hw:y.w=x.w) (a:y.β 0=x.β 0):∀{b:AM},b.lone=true->Ci x 0 b->Ci y 0 b
 | .dead _,_,_=>trivial
 | .var _ cs,e,⟨b,arr,ty,c,d,h3⟩=>⟨b,arr,ty,a.trans c,by rw[hw];exact d,AY.pure h (by simp only[AM.lone,Bool.and_eq_true] at e;exact e.2) h3⟩
 | .arr _ t l,_,r=>r.imp (fun q=>⟨a.trans q.1,q.2⟩) fun⟨b,arr,ty,c,d,h3⟩=>⟨b,arr,ty,a.trans c,by rw[hw];exact d,fun i y' f=>by
  obtain⟨us,g,j⟩:=h3 i y' f;exact⟨us,CR h _ _ _ g,by rw[hw];exact j⟩⟩
theorem U5 {bk:Nat->Option AM}:∀{l m:List (Bool×List AC)},Gn bk l m->Aw (Di bk) (l.flatMap (·.2)) (m.flatMap (·.2)):=by
 have app:∀{l m l' m':List AC},Aw (Di bk) l m->Aw (Di bk) l' m'->Aw (Di bk) (l++l') (m++m'):=by
  intro l
  induction l with
  | nil=>intro m l' m' h h';cases m <;> first | exact h' | exact h.elim
  | cons x l a=>intro m l' m' h h';cases m with
   | nil=>exact h.elim
   | cons y m=>exact⟨h.1,a h.2 h'⟩
 intro l
 induction l with
 | nil=>intro m h;cases m <;> first | trivial | exact h.elim
 | cons x l a=>intro m h;cases m with
  | nil=>exact h.elim
  | cons y m=>rw[List.flatMap_cons,List.flatMap_cons];exact app h.1.2 (a h.2)
theorem SJ {r:AV} {p:AC->Bool} (h:r.all p=true):(r.De.flatMap (·.2)).all p=true:=by
 cases r with
 |one c|agg cs=>simpa [AV.De,AV.comp,AV.all] using h
 | AE xs=>simp only[AV.De,List.all_flatMap];exact h
theorem Yi {p q:AC->Bool} (h:∀c,p c=true->q c=true) {r:AV} (a:r.all p=true):r.all q=true:=by
 have l:∀{cs:List AC},cs.all p=true->cs.all q=true:=fun {cs} d=>by rw[List.all_eq_true] at d ⊢;exact fun x b=>h x (d x b)
 cases r with
 | one c=>exact h c a
 | agg cs=>exact l a
 | AE xs=>simp only[AV.all] at a ⊢;rw[List.all_eq_true] at a ⊢;exact fun x b=>l (a x b)
theorem Yz {f:FuncId} {n:Nat} {c:Code} {rs:List ResultVar} (F:Fn P TI f n c rs) {c0:AC} {b0 b1:AM} {args:List AV} {r:AV} (hp:KP args=true) (L:r.all Bg=true) (l:Dt c0=true/\b0.lone=true/\b1.lone=true) (hn:args.length<n)
  (h:Cc (env P) TI n c (post TI rs r (some b1)) (C4 n (.one c0::args) (some b0))):GQ P f c0 b0 args r b1:=by
 obtain⟨fn,W,m,hb,H,M⟩:=F.get;refine⟨⟨fn,c,W,m,hb⟩,⟨Yi (fun _=>bF) L,l⟩,fun w I ob v0 vs V D C N j=>?_⟩;refine calls_of_wp W hb ?_;obtain⟨n',rfl⟩:∃n',n=n'+1:=⟨n-1,by omega⟩
 have q:b0.AW=0:=by have:=l.2.1;cases b0 <;> simp_all [AM.lone,AM.AW]
 have B:b1.AW=0:=by have:=l.2.2;cases b1 <;> simp_all [AM.lone,AM.AW]
 have A:b1.live=true:=by have:=l.2.2;cases b1 <;> simp_all [AM.lone,AM.live]
 have g:∀b,I b->(cx ⟨fun b=>ob=some b,fun b=>I b\/w.heap.size<=b,ob⟩ w (β0 ob) (AF (C4 (n'+1) (.one c0::args) (some b0)).bk)).I b/\w.heap[b]? =w.heap[b]? :=fun b hb=>
  ⟨⟨⟨(V b hb).1,fun id _ e=>by
   unfold β0 at e
   split at e
   ·exact (V b hb).2 e
   cases e⟩,.inl hb⟩,rfl⟩
 have y:AW (AF (C4 (n'+1) (.one c0::args) (some b0)).bk) 0=0:=q
 have Y:BR w ⟨fun b=>ob=some b,fun b=>I b\/w.heap.size<=b,ob⟩ (β0 ob) (C4 (n'+1) (.one c0::args) (some b0)) {tmps:=(v0::vs).toArray++Array.replicate (n'+1-(v0::vs).toArray.size) undef,defers:=[]} w:=
  BR.start (X:=⟨fun b=>ob=some b,fun b=>I b\/w.heap.size<=b,ob⟩) (by simp;omega) (fun _ e=>e) (fun b hb=> .inr hb) (fun b e=>by cases e;exact⟨q,N,by omega⟩)
   ⟨.inr (OZ (x:=B5 w ob I) g rfl rfl y rfl l.1 D),MU (x:=C7 w I) g hp j⟩
   (fun b e=>by cases e;exact L7 (x:=B5 w ob I) g rfl rfl l.2.1 C)
 rw[H];refine wp_mono (EK F.mixed (fun o ho=>Pp F.ty o ho) F.dst (by simp[C4,Ff];omega) Y h) fun e T w' he=>?_
 obtain⟨x,s',R,rfl,a,_,S⟩:=he
 have fin:post TI rs r (some b1) x s'->(∀i,x≠ .exit i)->T.defers=[]/\∃v,(results fn T.tmps).run P w'= .ok v w'/\∃u,Ending.returned v= .returned u/\
   (w'.os=w.os/\w'.tape=w.tape/\w'.output=w.output/\w.heap.size<=w'.heap.size/\∀k,k<w.heap.size->ob≠some k->w'.heap[k]? =w.heap[k]?)/\
   (∀(b:Nat) arr e,ob=some b->w.heap[b]? =some (.cells arr e (0,0))->∃d,w'.heap[b]? =some (.cells d e (0,0))/\d.size=arr.size)/\
   BQ (B5 w' ob fun k=>(I k\/w.heap.size<=k)/\k<w'.heap.size/\ob≠some k) r u/\
   Ci (B5 w' ob fun k=>(I k\/w.heap.size<=k)/\k<w'.heap.size/\ob≠some k) 0 b1/\b1.short:=by
  intro a hx;refine⟨S.defers,?_⟩
  have K:∃xs,Gp TI s' rs=some xs/\(Gn (AF s'.bk) xs r.De/\MP xs r.De=true/\(rs.length=1↔∀ys,r≠ .AE ys))/\AF s'.bk 0=some b1:=by
   unfold post at a
   split at a
   ·exact absurd rfl (hx _)
   split at a
   ·rename_i xs Q
    exact⟨xs,Q,a.1 (),a.2 ()⟩
   exact a.elim
  obtain⟨xs,Z,⟨U,h3,h4⟩,z⟩:=K;obtain⟨us,ws,k1,k2,k3⟩:=Mh F.ty S Z U;have t:AW (AF s'.bk) 0=0:=by rw[ET z];exact B
  have s:live (AF s'.bk) 0:=⟨_,z,A⟩;obtain⟨p,O⟩:=S.Iv s t
  have hJ:∀b,(cx ⟨fun b=>ob=some b,fun b=>I b\/w.heap.size<=b,ob⟩ w' R (AF s'.bk)).I b->(B5 w' ob fun k=>(I k\/w.heap.size<=k)/\k<w'.heap.size/\ob≠some k).I b/\w'.heap[b]? =w'.heap[b]? :=
   fun b hb=>⟨⟨hb.2,hb.1.1,fun e=>hb.1.2 0 s (p.trans e)⟩,rfl⟩
  have g1:=U6 (J:=fun k=>(I k\/w.heap.size<=k)/\k<w'.heap.size/\ob≠some k) (lo:=0) (bo:=none) S t p (SJ L) (U5 U) k2;have hlen:us.length=rs.length:=k1.length.symm;refine⟨Gi us,PS (by rw[M];exact k1),Gi us,rfl,⟨S.os,S.tape,S.output,S.size,fun b hb G=>S.block b hb G⟩,O,du L (N5 (by rw[hlen];exact h4) (k3 _ _ _ g1)),?_,S.lens 0 _ z⟩;exact L7 hJ rfl p.symm l.2.2 (S.blocks 0 b1 z)
 cases x with
 |Ch|ret=>exact fin a (by simp)
 | exit i=>exact a.elim
theorem eC {w0:World} {X:WX} {β:Nat->Option Nat} {s:St} {a:Act} {w:World} {I:Nat->Prop} (S:BR w0 X β s a w) (M:∀b,X.A b->I b\/w0.heap.size<=b) (j:live (AF s.bk) 0) (o:β 0=X.ob) {c d:AC} {v:Value} (O:H5 c=true) (C:BD d=true)
  (h:Di (AF s.bk) c d) (r:Az (cx X w β (AF s.bk)) c v) {lo:Nat} {bo:Option Nat}:Cj (B5 w X.ob fun k=>(I k\/w0.heap.size<=k)/\k<w.heap.size/\X.ob≠some k) lo bo d v:=by
 have J:∀b,(cx X w β (AF s.bk)).I b->((I b\/w0.heap.size<=b)/\b<w.heap.size/\X.ob≠some b)/\w.heap[b]? =w.heap[b]? :=fun b hb=>⟨⟨M b hb.2,hb.1.1,fun e=>hb.1.2 0 j (o.trans e)⟩,rfl⟩
 cases c with
 | AT t id u off len=>
  rcases h with⟨l,x,V,rfl⟩ |⟨l,n,_,_,_,_,_,rfl⟩ |⟨rfl,rfl,rfl⟩
  ·have g:id≠0:=fun e=>by subst e;simp[H5] at O
   have Q:u=AW (AF s.bk) id:=by rw[ET x];rfl
   obtain⟨base,cap,e,g1,g2,_,H⟩:=r.2 Q;have hlen:((l.drop off).take len).length=len:=by simp;omega
   have z:l.length<=140737488355328:=S.lens id _ x;refine⟨base,cap,by rw[hlen,e],by rw[hlen];exact g1,by rw[hlen];omega,?_⟩;rcases H with H |⟨b,arr,e',k1,k2,W,Y⟩
   ·left;exact List.eq_nil_of_length_eq_zero (by rw[hlen];omega)
   rcases S.blocks id _ x with⟨p,K⟩ |⟨b',G,L,p,K,U⟩
   ·exact absurd (p.symm.trans k1) (by simp)
   obtain rfl:b'=b:=Option.some.inj (p.symm.trans k1);have m:live (AF s.bk) id:=⟨_,x,rfl⟩
   have D:b'<w.heap.size:=by
    rcases Nat.lt_or_ge b' w.heap.size with h' | h'
    ·exact h'
    have F:w.heap[b']? =_:=K;simp[Array.getElem?_eq_none h'] at F
   refine .inr ⟨b',_,k2,⟨.inr ((S.own id b' m p).resolve_right (fun q=>g q.2)),D,fun e=>g (S.inj id 0 b' m j p (o.trans e))⟩,fun i y B=>?_⟩
   have N:l[off+i]? =some y:=by
    rw[List.getElem?_take] at B
    split at B
    ·simpa using B
    cases B
   obtain⟨us,R,T⟩:=U (off+i) y N;exact⟨us,CR (w':=w) J _ _ _ R,by rw[show off*t.size+i*t.size=(off+i)*t.size by rw[Nat.add_mul]];exact T⟩
  ·simp[BD] at C
  simp[BD] at C
 | nil=>
  rcases h with rfl |⟨t,rfl⟩ |⟨t,rfl⟩
  ·exact r
  ·exact⟨none,0,by rw[show v=_ from r];rfl,Nat.le_refl _,by simp,.inl rfl⟩
  simp[BD] at C
 |int k n|bool b|fn f=>rw[show d=_ from h];exact r
 | sl t l=>rw[show d=_ from h];exact CR (w':=w) J _ _ _ r
 | _=>exact h.elim
theorem U8 {w0:World} {X:WX} {β:Nat->Option Nat} {s:St} {a:Act} {w:World} {I:Nat->Prop} (S:BR w0 X β s a w) (l:∀b,X.A b->I b\/w0.heap.size<=b) (c:live (AF s.bk) 0) (d:β 0=X.ob) {lo:Nat} {bo:Option Nat}:
  ∀{cs f:List AC} {vs:List Value},cs.all H5=true->f.all BD=true->Aw (Di (AF s.bk)) cs f->AY (Az (cx X w β (AF s.bk))) cs vs->AY (Cj (B5 w X.ob fun k=>(I k\/w0.heap.size<=k)/\k<w.heap.size/\X.ob≠some k) lo bo) f vs
 | [],[],[],_,_,_,_=>trivial
 | _::_,_::_,_::_,g,i,h3,j=>by
  simp only[List.all_cons,Bool.and_eq_true] at g i;exact⟨eC S l c d g.1 i.1 h3.1 j.1,U8 S l c d g.2 i.2 h3.2 j.2⟩
 |[],[],_::_,_,_,_,h|_::_,_::_,[],_,_,_,h|[],_::_,_,_,_,h,_|_::_,[],_,_,_,h,_=>h.elim
theorem KV {y:Cx} {lo:Nat} {bo:Option Nat}:∀{c:AC} {v:Value},BD c=true->Cj y lo bo c v->Az y c v
 |.int _ _,_,_,r|.bool _,_,_,r|.fn _,_,_,r|.nil,_,_,r|.BZ,_,_,r|.sl _ _,_,_,r=>r
 |.AT _ _ _ _ _,_,h,_|.Cw _ _ _ _ _,_,h,_|.AD _ _ _,_,h,_|.Cd _ _ _ _ _,_,h,_|.C8 _ _ _,_,h,_|.ub _,_,h,_|.own _ _ _,_,h,_=>by simp[BD] at h
theorem AY.KV {y:Cx} {lo:Nat} {bo:Option Nat}:∀{cs:List AC} {vs:List Value},cs.all BD=true->AY (Cj y lo bo) cs vs->AY (Az y) cs vs
 | [],[],_,_=>trivial
 | _::_,_::_,e,r=>by simp only[List.all_cons,Bool.and_eq_true] at e;exact⟨Abs.KV e.1 r.1,AY.KV e.2 r.2⟩
 |[],_::_,_,r|_::_,[],_,r=>r.elim
theorem Mc {y:Cx} {lo:Nat} {bo:Option Nat} {r:AV} {v:Value} (h:r.all BD=true) (a:Ey y lo bo r v):DH y r v:=by
 cases r with
 | one c=>exact a.imp (fun q=>q) (KV h)
 | agg cs=>obtain⟨arr,e,a⟩:=a;exact⟨arr,e,AY.KV h a⟩
 | AE _=>exact a.elim
theorem dv {y:Cx} {lo:Nat} {bo:Option Nat} {r:AV} {v:Value} (h:r.all BD=true) (d:FP y lo bo r v):BQ y r v:=by
 cases r with
 |one c|agg cs=>exact Mc h d
 | AE xs=>
  obtain⟨arr,e,d⟩:=d;refine⟨arr,e,?_⟩
  have key:∀(xs:List (Bool×List AC)) (us:List Value),(xs.all fun x=>x.2.all BD)=true->AY (fun z q=>Ey y lo bo (Cz z) q) xs us->AY (fun z q=>DH y (Cz z) q) xs us:=by
   intro xs
   induction xs with
   | nil=>intro us _ a;cases us <;> first | trivial | exact a.elim
   | cons z xs f=>
    intro us b a;cases us with
    | nil=>exact a.elim
    | cons q us=>
     simp only[List.all_cons,Bool.and_eq_true] at b;refine⟨?_,f us b.2 a.2⟩;obtain⟨g,cs⟩:=z;have h3:=a.1;cases g with
     | true=>exact Mc (r:= .agg cs) b.1 h3
     | false=>
      cases cs with
      | nil=>exact Or.inl rfl
      | cons c cs=>
       simp only[List.all_cons,Bool.and_eq_true] at b;exact Mc (r:= .one c) b.1.1 h3
  exact key xs arr.toList h d
def H4 (args:List AV):Bool:=args.all fun c=>match c with | .AE _=>false | c=>c.all Dt
theorem OX {x y:Cx} (h:∀b,x.I b->y.I b/\y.w.heap[b]? =x.w.heap[b]?) (hw:y.w=x.w) (d:x.cv 0=0) (f:y.cv 0=0) (a:y.β 0=x.β 0):∀{l:List AV} {vs:List Value},H4 l=true->AY (BQ x) l vs->AY (BQ y) l vs
 | [],[],_,_=>trivial
 | .one c::l,_::_,e,r=>by
  have e':(Dt c&&H4 l)=true:=e;simp only[Bool.and_eq_true] at e';exact⟨r.1.imp (fun q=>q) (OZ h hw d f a e'.1),OX h hw d f a e'.2 r.2⟩
 | .agg c::l,_::_,e,r=>by
  have e':(c.all Dt&&H4 l)=true:=e;simp only[Bool.and_eq_true] at e';obtain⟨arr,g,i⟩:=r.1;refine⟨⟨arr,g,?_⟩,OX h hw d f a e'.2 r.2⟩;exact all e'.1 i
 | .AE _::_,_::_,e,_=>by simp[H4] at e
 |[],_::_,_,r|_::_,[],_,r=>r.elim
where
 all:∀{cs:List AC} {vs:List Value},cs.all Dt=true->AY (Az x) cs vs->AY (Az y) cs vs
  | [],[],_,_=>trivial
  | _::_,_::_,e,r=>by simp only[List.all_cons,Bool.and_eq_true] at e;exact⟨OZ h hw d f a e.1 r.1,all e.2 r.2⟩
  |[],_::_,_,r|_::_,[],_,r=>r.elim
theorem cP:∀{xs:List (Bool×List AC)},(xs.all fun x=>x.2.all H5)=true->(xs.flatMap (·.2)).all H5=true:=fun {xs} h=>by
 rw[List.all_flatMap];exact h
theorem SM {f:FuncId} {n:Nat} {c:Code} {rs:List ResultVar} (F:Fn P TI f n c rs) {b0:AM} {args:List AV} {r:AV} (hp:H4 args=true) (G:r.all BD=true) (A:b0.lone=true) (Z:args.length<=n) (a1:0<n)
  (h:Cc (env P) TI n c (KO TI rs r b0) (C4 n args (some b0))):BW P f args b0 r:=by
 obtain⟨fn,T,m,hb,C,H⟩:=F.get;refine⟨⟨fn,c,T,m,hb⟩,⟨G,A⟩,fun w I ob vs R z J j=>?_⟩;refine calls_of_wp T hb ?_;obtain⟨n',rfl⟩:∃n',n=n'+1:=⟨n-1,by omega⟩
 have g:b0.AW=0:=by cases b0 <;> simp_all [AM.lone,AM.AW]
 have t:b0.live=true:=by cases b0 <;> simp_all [AM.lone,AM.live]
 have q:∀b,I b->(cx ⟨fun b=>ob=some b,fun b=>I b\/w.heap.size<=b,ob⟩ w (β0 ob) (AF (C4 (n'+1) args (some b0)).bk)).I b/\w.heap[b]? =w.heap[b]? :=fun b hb=>
  ⟨⟨⟨(R b hb).1,fun id _ e=>by
   unfold β0 at e
   split at e
   ·exact (R b hb).2 e
   cases e⟩,.inl hb⟩,rfl⟩
 have s:AW (AF (C4 (n'+1) args (some b0)).bk) 0=0:=g
 have U:BR w ⟨fun b=>ob=some b,fun b=>I b\/w.heap.size<=b,ob⟩ (β0 ob) (C4 (n'+1) args (some b0)) {tmps:=vs.toArray++Array.replicate (n'+1-vs.toArray.size) undef,defers:=[]} w:=
  BR.start (X:=⟨fun b=>ob=some b,fun b=>I b\/w.heap.size<=b,ob⟩) Z (fun _ e=>e) (fun b hb=> .inr hb) (fun b e=>by cases e;exact⟨g,J,by omega⟩)
   (OX (x:=B5 w ob I) q rfl rfl s rfl hp j)
   (fun b e=>by cases e;exact L7 (x:=B5 w ob I) q rfl rfl A z)
 rw[C];refine wp_mono (EK F.mixed (fun o ho=>Pp F.ty o ho) F.dst (by simp[C4,Ff];omega) U h) fun e O w' he=>?_
 obtain⟨x,s',N,rfl,d,_,S⟩:=he
 have fin:KO TI rs r b0 x s'->(∀i,x≠ .exit i)->O.defers=[]/\∃v,(results fn O.tmps).run P w'= .ok v w'/\∃u,Ending.returned v= .returned u/\
   (w'.os=w.os/\w'.tape=w.tape/\w'.output=w.output/\w.heap.size<=w'.heap.size/\∀k,k<w.heap.size->ob≠some k->w'.heap[k]? =w.heap[k]?)/\
   (∀(b:Nat) arr e,ob=some b->w.heap[b]? =some (.cells arr e (0,0))->∃a,w'.heap[b]? =some (.cells a e (0,0))/\a.size=arr.size)/\
   BQ (B5 w' ob fun k=>(I k\/w.heap.size<=k)/\k<w'.heap.size/\ob≠some k) r u/\
   Ci (B5 w' ob fun k=>(I k\/w.heap.size<=k)/\k<w'.heap.size/\ob≠some k) 0 b0:=by
  intro d hx;refine⟨S.defers,?_⟩
  have D:∃xs,Gp TI s' rs=some xs/\(Gn (AF s'.bk) xs r.De/\(xs.all fun x=>x.2.all H5)=true/\(rs.length=1↔∀ys,r≠ .AE ys))/\AF s'.bk 0=some b0:=by
   unfold KO at d
   split at d
   ·exact absurd rfl (hx _)
   split at d
   ·rename_i xs M
    exact⟨xs,M,d ()⟩
   exact d.elim
  obtain⟨xs,V,⟨Q,h3,W⟩,y⟩:=D;obtain⟨us,ws,k1,k2,k3⟩:=Mh F.ty S V Q;have L:AW (AF s'.bk) 0=0:=by rw[ET y];exact g
  have l:live (AF s'.bk) 0:=⟨_,y,t⟩;obtain⟨p,K⟩:=S.Iv l L
  have Y:∀b,(cx ⟨fun b=>ob=some b,fun b=>I b\/w.heap.size<=b,ob⟩ w' N (AF s'.bk)).I b->(B5 w' ob fun k=>(I k\/w.heap.size<=k)/\k<w'.heap.size/\ob≠some k).I b/\w'.heap[b]? =w'.heap[b]? :=
   fun b hb=>⟨⟨hb.2,hb.1.1,fun e=>hb.1.2 0 l (p.trans e)⟩,rfl⟩
  have g1:=U8 (I:=I) (lo:=0) (bo:=none) S (fun b hb=>hb) l p (cP h3) (SJ G) (U5 Q) k2;have hlen:us.length=rs.length:=k1.length.symm;refine⟨Gi us,PS (by rw[H];exact k1),Gi us,rfl,⟨S.os,S.tape,S.output,S.size,fun b hb B=>S.block b hb B⟩,K,dv G (N5 (by rw[hlen];exact W) (k3 _ _ _ g1)),?_⟩;exact L7 Y rfl p.symm A (S.blocks 0 b0 y)
 cases x with
 |Ch|ret=>exact fin d (by simp)
 | exit i=>exact d.elim
def GA:AC->Bool
 |.int _ _|.bool _|.fn _|.nil=>true
 | .own t _ _=>t.flat
 | _=>false
theorem Z0 {w:World} {I a:Nat->Prop} {lo:Nat} {bo:Option Nat}:∀{c:AC} {v:Value},GA c=true->Cj (C7 w I) lo bo c v->Cj (C7 w a) lo bo c v
 |.int _ _,_,_,r|.bool _,_,_,r|.fn _,_,_,r|.nil,_,_,r=>r
 | .own t l n,_,h,⟨j,base,cap,e,d,f,h3,g⟩=>⟨j,base,cap,e,d,f,h3,g.imp (fun q=>q) fun⟨b,arr,ty,k1,k2,m,o,p,s⟩=>⟨b,arr,ty,k1,k2,m,o,p,fun i y k=>by
  obtain⟨us,u,x⟩:=s i y k;exact⟨us,Md (I:=I) (w:=w) t y us h u,x⟩⟩⟩
 |.BZ,_,h,_|.sl _ _,_,h,_|.AT _ _ _ _ _,_,h,_|.Cw _ _ _ _ _,_,h,_|.AD _ _ _,_,h,_|.Cd _ _ _ _ _,_,h,_|.C8 _ _ _,_,h,_|.ub _,_,h,_=>by simp[GA] at h
def HP:AC->AC
 | .own t l _=> .sl t l
 | c=>c
def O6:AV->AV
 | .one c=> .one (HP c)
 | .agg cs=> .agg (cs.map HP)
 | .AE xs=> .AE (xs.map fun x=>(x.1,x.2.map HP))
theorem Th {x y:Cx} {lo KC:Nat} {bo Jo:Option Nat} {p:AC->Bool} {g:AC->AC} (n:g .BZ= .BZ) (h:∀c v,p c=true->Cj x lo bo c v->Cj y KC Jo (g c) v) {r:AV} {v:Value} (k:r.all p=true) (b:FP x lo bo r v):
  FP y KC Jo (match r with | .one c=> .one (g c) | .agg cs=> .agg (cs.map g) | .AE xs=> .AE (xs.map fun x=>(x.1,x.2.map g))) v:=by
 have l:∀{cs:List AC} {vs:List Value},cs.all p=true->AY (Cj x lo bo) cs vs->AY (Cj y KC Jo) (cs.map g) vs:=by
  intro cs
  induction cs with
  | nil=>intro vs _ h;cases vs <;> first | trivial | exact h.elim
  | cons c cs m=>intro vs j a;cases vs with
   | nil=>exact a.elim
   | cons u us=>
    simp only[List.all_cons,Bool.and_eq_true] at j;exact⟨h _ _ j.1 a.1,m j.2 a.2⟩
 cases r with
 | one c=>
  rcases b with rfl | b
  ·exact .inl n
  exact .inr (h _ _ k b)
 | agg cs=>obtain⟨arr,e,b⟩:=b;exact⟨arr,e,l k b⟩
 | AE xs=>
  obtain⟨arr,e,b⟩:=b;refine⟨arr,e,?_⟩
  have key:∀(xs:List (Bool×List AC)) (us:List Value),(xs.all fun x=>x.2.all p)=true->AY (fun z q=>Ey x lo bo (Cz z) q) xs us->AY (fun z q=>Ey y KC Jo (Cz z) q) (xs.map fun x=>(x.1,x.2.map g)) us:=by
   intro xs
   induction xs with
   | nil=>intro us _ a;cases us <;> first | trivial | exact a.elim
   | cons z xs m=>
    intro us f a;cases us with
    | nil=>exact a.elim
    | cons q us=>
     simp only[List.all_cons,Bool.and_eq_true] at f;refine⟨?_,m us f.2 a.2⟩;obtain⟨t,cs⟩:=z;have h3:=a.1;cases t with
     | true=>obtain⟨d,e',h3⟩:=h3;exact⟨d,e',l f.1 h3⟩
     | false=>
      cases cs with
      | nil=>exact Or.inl rfl
      | cons c cs=>
       simp only[List.all_cons,Bool.and_eq_true] at f;rcases h3 with i | h3
       ·have i:c= .BZ:=i;subst i;exact .inl n
       exact .inr (h _ _ f.1.1 h3)
  exact key xs arr.toList k b
theorem NX {f:FuncId} {args:List AV} {r:AV} (j:r.all GA=true) (h:FB P false f args r):FB P true f args r:=by
 refine⟨h.1,h.2.1,fun w I vs d a=>(h.2.2 w I vs d a).mono fun e w' ⟨u,bo,he,hb,hu⟩=>⟨u,bo,he,hb,?_⟩⟩;have:=Th (g:=fun c=>c) (y:=C7 w' fun b=>((true=false/\I b)\/w.heap.size<=b)/\b<w'.heap.size/\bo≠some b) rfl (fun c v i=>Z0 i) j hu;cases r <;> simpa using this
theorem cr {w:World} {J:Nat->Prop} {lo:Nat} {bo:Option Nat}:∀{c:AC} {v:Value},Bt c=true->Cj (C7 w fun b=>(J b\/lo<=b)/\b<w.heap.size/\bo≠some b) lo bo c v->Cj (C7 w fun b=>(J b\/lo<=b)/\b<w.heap.size/\(none:Option Nat)≠some b) lo none (HP c) v
 | .own t l n,v,_,⟨x,base,cap,e,f,u,h3,g⟩=>by
  refine⟨base,cap,by rw[e],f,h3,?_⟩;rcases g with⟨_,q,_⟩ |⟨b,arr,ty,k1,k2,k,m,z,o⟩
  ·exact .inl q
  have a:b<w.heap.size:=by
   rcases Nat.lt_or_ge b w.heap.size with h' | h'
   ·exact h'
   have d:w.heap[b]? =_:=m;simp[Array.getElem?_eq_none h'] at d
  refine .inr ⟨b,0,k,⟨.inr k2,a,by simp⟩,fun i y j=>?_⟩;obtain⟨us,p,s⟩:=o i y j;exact⟨us,CR (w':=w) (fun b hb=>⟨⟨hb.1,hb.2.1,by simp⟩,rfl⟩) _ _ _ p,by rw[Nat.zero_add];exact s⟩
 |.int _ _,_,_,r|.bool _,_,_,r|.fn _,_,_,r|.nil,_,_,r|.BZ,_,_,r=>r
 | .sl _ _,_,_,r=>CR (w':=w) (fun b hb=>⟨⟨hb.1,hb.2.1,by simp⟩,rfl⟩) _ _ _ r
 |.AT _ _ _ _ _,_,h,_|.Cw _ _ _ _ _,_,h,_|.AD _ _ _,_,h,_|.Cd _ _ _ _ _,_,h,_|.C8 _ _ _,_,h,_|.ub _,_,h,_=>by simp[Bt,BD] at h
theorem Cl {k:Bool} {f:FuncId} {args:List AV} {r:AV} (h:FB P k f args r):FB P k f args (O6 r):=by
 have d:∀c,Bt c=true->Bt (HP c)=true:=fun c d=>by cases c <;> simp_all [HP,Bt,BD]
 have i:∀{cs:List AC},cs.all Bt=true->(cs.map HP).all Bt=true:=fun {cs} h=>by
  rw[List.all_eq_true] at h ⊢;intro x j;obtain⟨y,m,rfl⟩:=List.mem_map.1 j;exact d y (h y m)
 refine⟨h.1,⟨?_,?_⟩,fun w I vs l a=>(h.2.2 w I vs l a).mono fun e w' ⟨u,bo,he,hb,hu⟩=>⟨u,none,he,hb,?_⟩⟩
 ·have:=h.2.1.1;cases r with
  | one c=>exact d c this
  | agg cs=>exact i this
  | AE xs=>
   simp only[O6,AV.all,List.all_map] at this ⊢;rw[List.all_eq_true] at this ⊢;exact fun x j=>i (this x j)
 ·have:=h.2.1.2;cases r with
  |one c|agg cs=>rfl
  | AE xs=>
   simp only[O6,AV.wf,List.all_map] at this ⊢;rw[List.all_eq_true] at this ⊢;exact fun x j=>by simpa using this x j
 have:=Th (g:=HP) (Jo:=none) (KC:=w.heap.size) (y:=C7 w' fun b=>((k=false/\I b)\/w.heap.size<=b)/\b<w'.heap.size/\(none:Option Nat)≠some b) rfl (fun c v d=>cr (J:=fun b=>k=false/\I b) d) h.2.1.1 hu;cases r <;> exact this
end
end Go.Abs
namespace Go.Abs
open Go.RowKit
def zC:AC->Value->Bool
 | .int k n,.int k' n'=>k==k'&&n==n'
 | .bool b,.bool b'=>b==b'
 |.nil,.slice none 0 0|.sl _ [],.slice none 0 0=>true
 | _,_=>false
def IL:List AC->List Value->Bool
 | [],[]=>true
 | c::cs,v::vs=>zC c v&&IL cs vs
 | _,_=>false
theorem gy {c:AC} {v:Value} (h:zC c v=true) (x:Cx):Az x c v:=by
 unfold zC at h
 split at h
 ·simp only[Bool.and_eq_true,beq_iff_eq] at h;obtain⟨rfl,rfl⟩:=h
  rfl
 ·simp only[beq_iff_eq] at h;subst h
  rfl
 ·rfl
 ·exact⟨none,0,rfl,Nat.le_refl _,by simp,.inl rfl⟩
 cases h
theorem QD:∀{cs:List AC} {vs:List Value},IL cs vs=true->∀x,AY (Az x) cs vs
 | [],[],_,_=>trivial
 | _::_,_::_,h,x=>by simp only[IL,Bool.and_eq_true] at h;exact⟨gy h.1 x,QD h.2 x⟩
 |[],_::_,h,_|_::_,[],h,_=>by simp[IL] at h
def SB (P:Program) (t:TypeId) (i:Info):Bool:=
 match P.info? t with
 | some ti=>match P.underlying t with
  | some d=>match ti.zero with
   | some z=>ti.size==i.size&&IL i.zero z.cells.toList&&d.isRow==i.agg&&(i.agg||i.size==1)
   | none=>false
  | none=>false
 | none=>false
def SA (P:Program) (t:TypeId) (k:IntKind):Bool:=
 match P.underlying t with
 | some (.int k')=>k'==k
 | _=>false
def SC (P:Program) (t:TypeId) (i:Info):Bool:=
 match P.underlying t with
 | some (.slice e)=>e==i.Cs&&(match P.info? i.Cs with
  | some ei=>match ei.zero with
   | some z=>ei.size==i.elem.size&&ei.bytes==i.Eo&&decide (0<ei.bytes)&&IL (cells i.elem i.B8) z.cells.toList
   | none=>false
  | none=>false)
 | _=>false
def Nw (P:Program) (p:Nat×Nat×Bool) (fl:Field):Bool:=
 match P.info? fl.type with
 | some ti=>match P.underlying fl.type with
  | some d=>fl.offset==p.1&&ti.size==p.2.1&&decide (0<p.2.1)&&d.isRow==p.2.2&&(p.2.2||p.2.1==1)
  | none=>false
 | none=>false
def Ie (P:Program):List (Nat×Nat×Bool)->List Field->Bool
 | [],[]=>true
 | p::ps,f::fs=>Nw P p f&&Ie P ps fs
 | _,_=>false
def R8 (P:Program) (t:TypeId) (i:Info):Bool:=
 match P.underlying t with
 | some (.struct fs)=>Ie P i.fields fs.toList
 | _=>false
def R7 (P:Program) (t:TypeId):Bool:=
 match P.underlying t with
 | some .bool=>true
 | _=>false
def SD (P:Program) (t:TypeId) (i:Info):Bool:=
 (!i.known||SB P t i)&&(match i.kind with | some k=>SA P t k | none=>true)&&(!i.sl||SC P t i)&&(!i.Lz||R7 P t)&&(!i.known||i.fields.isEmpty||R8 P t i)
theorem R9 {P:Program}:∀{a:List (Nat×Nat×Bool)} {fs:List Field},Ie P a fs=true->a.length=fs.length/\∀(f:Nat) (p:Nat×Nat×Bool),a[f]? =some p->∃c,fs[f]? =some c/\Nw P p c=true
 | [],[],_=>⟨rfl,fun f p h=>by simp at h⟩
 | p::a,f::fs,h=>by
  simp only[Ie,Bool.and_eq_true] at h;obtain⟨d,g⟩:=R9 h.2;refine⟨by simp[d],fun i q b=>?_⟩;cases i with
  | zero=>simp at b;subst b;exact⟨f,rfl,h.1⟩
  | succ i=>simpa using g i q (by simpa using b)
 |[],_::_,h|_::_,[],h=>by simp[Ie] at h
theorem P1 {P:Program} {t:TypeId} {i:Info} (h:SD P t i=true):DI P t i:=by
 simp only[SD,Bool.and_eq_true] at h;obtain⟨⟨⟨⟨a,b⟩,h3⟩,q⟩,o⟩:=h;refine⟨fun p=>?_,fun k p=>?_,fun hb=>?_,fun G=>?_,fun p B=>?_⟩
 ·simp only[p,Bool.not_true,Bool.false_or] at a;unfold SB at a
  split at a
  ·rename_i v j
   split at a
   ·rename_i d l
    split at a
    ·rename_i z m
     simp only[Bool.and_eq_true,beq_iff_eq,Bool.or_eq_true] at a;obtain⟨⟨⟨r,s⟩,a3⟩,a4⟩:=a;exact⟨v,z,d,j,r,m,QD s,l,a3,fun ha=>a4.resolve_left (by simp[ha])⟩
    cases a
   cases a
  cases a
 ·rw[p] at b;simp only at b;unfold SA at b
  split at b
  ·rename_i k' e;rw[e];simp only[beq_iff_eq] at b;rw[b]
  cases b
 ·simp only[hb,Bool.not_true,Bool.false_or] at q;unfold R7 at q
  split at q
  ·assumption
  cases q
 ·simp only[G,Bool.not_true,Bool.false_or] at h3;unfold SC at h3
  split at h3
  ·rename_i e j
   simp only[Bool.and_eq_true,beq_iff_eq] at h3;obtain⟨rfl,h3⟩:=h3;refine⟨j,?_⟩
   split at h3
   ·rename_i y l
    split at h3
    ·rename_i z m
     simp only[Bool.and_eq_true,beq_iff_eq,decide_eq_true_eq] at h3;obtain⟨⟨⟨r,s⟩,a3⟩,a4⟩:=h3;exact⟨y,z,l,r,s,a3,m,QD a4⟩
    cases h3
   cases h3
  cases h3
 have u:i.fields.isEmpty=false:=by cases D:i.fields with
  | nil=>exact absurd D B
  | cons _ _=>rfl
 simp only[p,u,Bool.not_true,Bool.false_or] at o;unfold R8 at o
 split at o
 ·rename_i fs j
  obtain⟨g1,g2⟩:=R9 o;refine⟨fs,j,by simpa using g1,fun f I n g F=>?_⟩;obtain⟨A,H,c⟩:=g2 f _ F;unfold Nw at c
  split at c
  ·rename_i v l
   split at c
   ·rename_i d m
    simp only[Bool.and_eq_true,beq_iff_eq,decide_eq_true_eq,Bool.or_eq_true] at c;obtain⟨⟨⟨⟨b1,b2⟩,b3⟩,w⟩,x⟩:=c;exact⟨A,d,by simpa using H,b1,by rw[l];exact congrArg some b2,b3,m,w,fun C=>x.resolve_left (by simp[C])⟩
   cases c
  cases c
 cases o
def Ty:Info:={known:=false,B8:=false}
theorem gV (P:Program) (t:TypeId):DI P t Ty:=P1 (by rfl)
end Go.Abs
namespace Go.Abs
open Go.RowKit
abbrev WD:T:= .pr .bool (.sl .u32)
abbrev AA:T:= .pr WD WD
abbrev Am:T:= .pr (.sl (.sl AA)) (.sl AA)
abbrev CP:T:= .pr Am Am
abbrev Bf:T:= .pr .u8 (.pr .u8 (.pr .u8 (.pr .i8 .u8)))
def TI:TypeId->Info
 |2|3=>{size:=1,zero:=[.int .i64 0],kind:=some .i64,B8:=false}
 | 4=>{size:=1,zero:=[.bool false],Lz:=true,B8:=false}
 | 5=>{size:=1,zero:=[.int .u8 0],kind:=some .u8,B8:=false}
 |22|23=>{size:=1,zero:=[.nil],sl:=true,Cs:=165,elem:=Bf,B8:=((0,0,0,0,0):el Bf),Eo:=5}
 | 31=>{size:=1,zero:=[.nil],sl:=true,Cs:=32,elem:=(.sl AA),B8:=([]:el (.sl AA)),Eo:=24}
 | 32=>{size:=1,zero:=[.nil],sl:=true,Cs:=123,elem:=AA,B8:=(((false,[]),(false,[])):el AA),Eo:=64}
 | 34=>{size:=2,zero:=[.nil,.nil],agg:=true,B8:=false,fields:=[(0,1,false),(1,1,false)]}
 | 41=>{size:=1,zero:=[.int .i64 0],kind:=some .i64,B8:=false}
 | 115=>{size:=1,zero:=[.nil],sl:=true,Cs:=34,elem:=Am,B8:=(([],[]):el Am),Eo:=48}
 | 24=>{size:=1,zero:=[.nil],sl:=true,Cs:=5,elem:= .u8,B8:=(0:el .u8),Eo:=1}
 | 26=>{size:=2,zero:=[.nil,.nil],agg:=true,B8:=false,fields:=[(0,1,false),(1,1,false)]}
 | 27=>{size:=1,zero:=[.nil],sl:=true,Cs:=36,elem:=CP,B8:=((([],[]),([],[])):el CP),Eo:=96}
 | 36=>{size:=4,zero:=[.nil,.nil,.nil,.nil],agg:=true,B8:=false,fields:=[(0,2,true),(2,2,true)]}
 | 119=>{size:=1,zero:=[.nil],sl:=true,Cs:=223,elem:= .u32,B8:=(0:el .u32),Eo:=4}
 | 121=>{size:=2,zero:=[.bool false,.nil],agg:=true,B8:=false,fields:=[(0,1,false),(1,1,false)]}
 | 123=>{size:=4,zero:=[.bool false,.nil,.bool false,.nil],agg:=true,B8:=false,fields:=[(0,2,true),(2,2,true)]}
 | 163=>{size:=1,zero:=[.int .i8 0],kind:=some .i8,B8:=false}
 | 165=>{size:=5,zero:=[.int .u8 0,.int .u8 0,.int .u8 0,.int .i8 0,.int .u8 0],agg:=true,B8:=false,fields:=[(0,1,false),(1,1,false),(2,1,false),(3,1,false),(4,1,false)]}
 | 207=>{size:=2,zero:=[.nil,.nil],agg:=true,B8:=false,fields:=[(0,1,false),(1,1,false)]}
 | 223=>{size:=1,zero:=[.int .u32 0],kind:=some .u32,B8:=false}
 |219|237=>{size:=1,zero:=[.int .u64 0],kind:=some .u64,B8:=false}
 | _=>Ty
theorem Kk (t:TypeId):DI Tryz.prog t (TI t):=by
 unfold TI
 split <;> first | exact gV _ _ | exact P1 (by kernel_rfl)
theorem I6:Tryz.prog.follows .mixedOrders=true:=by kernel_rfl
end Go.Abs
namespace Go.Abs
open Go.RowKit
def F6 (fn : Func) : Bool := (fn.name == "runtime.NumGoroutine") == false && match fn.body with | some c => FX c | none => false
def LQ (E:Env) (fn:Func) (r:AV) (b1:Option AM) (s:St):Prop:=
 match fn.body with
 | some c=>Cc E TI fn.ntmps c (post TI fn.results.toList r b1) s
 | none=>False
theorem AH {f:FuncId} {fn:Func} (g:Tryz.prog.funcs[f]? =some fn) (a:F6 fn=true) {args:List AV} {r:AV} (b:(KP args&&(r.all Bt&&(r.wf&&Nat.ble args.length fn.ntmps)))=true)
  (h:∀E,env Tryz.prog=E->LQ E fn r none (C4 fn.ntmps args none)):FB Tryz.prog false f args r:=by
 have h:=h _ rfl;unfold LQ at h;unfold F6 at a;simp only[Bool.and_eq_true] at a b
 split at h
 ·rename_i c d
  rw[d] at a;exact RD (TI:=TI) (n:=fn.ntmps) (c:=c) (rs:=fn.results.toList) ⟨⟨fn,g,by simpa using a.1,d,rfl,rfl⟩,a.2,Kk,I6⟩ b.1 ⟨b.2.1,b.2.2.1⟩ (Nat.le_of_ble_eq_true b.2.2.2) h
 exact h.elim
theorem Jk {f:FuncId} {fn:Func} (g:Tryz.prog.funcs[f]? =some fn) (a:F6 fn=true) {c0:AC} {b0 b1:AM} {args:List AV} {r:AV} (b:(KP args&&(r.all Bg&&(Nat.ble (args.length+1) fn.ntmps&&(Dt c0&&(b0.lone&&b1.lone)))))=true)
  (h:∀E,env Tryz.prog=E->LQ E fn r (some b1) (C4 fn.ntmps (.one c0::args) (some b0))):GQ Tryz.prog f c0 b0 args r b1:=by
 have h:=h _ rfl;unfold LQ at h;unfold F6 at a;simp only[Bool.and_eq_true] at a b
 split at h
 ·rename_i c d
  rw[d] at a;exact Yz (TI:=TI) (n:=fn.ntmps) (c:=c) (rs:=fn.results.toList) ⟨⟨fn,g,by simpa using a.1,d,rfl,rfl⟩,a.2,Kk,I6⟩ b.1 b.2.1 b.2.2.2 (Nat.le_of_ble_eq_true b.2.2.1) h
 exact h.elim
def Rr (E:Env) (fn:Func) (r:AV) (b0:AM) (s:St):Prop:=
 match fn.body with
 | some c=>Cc E TI fn.ntmps c (KO TI fn.results.toList r b0) s
 | none=>False
theorem Gc {f:FuncId} {fn:Func} (g:Tryz.prog.funcs[f]? =some fn) (b:F6 fn=true) {b0:AM} {args:List AV} {r:AV} (a:(H4 args&&(r.all BD&&(b0.lone&&(Nat.ble args.length fn.ntmps&&Nat.ble 1 fn.ntmps))))=true)
  (h:∀E,env Tryz.prog=E->Rr E fn r b0 (C4 fn.ntmps args (some b0))):BW Tryz.prog f args b0 r:=by
 have h:=h _ rfl;unfold Rr at h;unfold F6 at b;simp only[Bool.and_eq_true] at b a
 split at h
 ·rename_i c d
  rw[d] at b;exact SM (TI:=TI) (n:=fn.ntmps) (c:=c) (rs:=fn.results.toList) ⟨⟨fn,g,by simpa using b.1,d,rfl,rfl⟩,b.2,Kk,I6⟩ a.1 a.2.1 a.2.2.1 (Nat.le_of_ble_eq_true a.2.2.2.1) (Nat.le_of_ble_eq_true a.2.2.2.2) h
 exact h.elim
theorem AP {E:Env} {f:FuncId} {args:List AV} {b0:AM} {r:AV} (a:env Tryz.prog=E) (h:BW Tryz.prog f args b0 r):E.D f args b0 r:=a ▸ h
def iO:AV->Nat
 | .one (.sl _ l)=>l.length
 | _=>0
def iM:AV->Int
 | .one (.int _ n)=>n
 | _=>0
theorem Fu {E:Env} {a:Bool} {f:FuncId} {args:List AV} {r:AV} (b:env Tryz.prog=E) (h:FB Tryz.prog a f args r):E.C a f args r:=b ▸ h
theorem DS {E:Env} {f:FuncId} {c0:AC} {b0 b1:AM} {args:List AV} {r:AV} (a:env Tryz.prog=E) (h:GQ Tryz.prog f c0 b0 args r b1):E.B f c0 b0 args r b1:=a ▸ h
end Go.Abs
