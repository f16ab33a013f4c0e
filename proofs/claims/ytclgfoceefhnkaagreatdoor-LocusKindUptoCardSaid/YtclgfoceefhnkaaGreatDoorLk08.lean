/- Part 9 of a proof. Conditions: each theorem's own. -/
import Derived.Test.YtclgfoceefhnkaaGreatDoorProg
import Derived.Test.YtclgfoceefhnkaaGreatDoorLk07
set_option linter.all false
set_option maxHeartbeats 80000000
set_option maxRecDepth 20000
open Go.Proofs
namespace Go.Abs
open Go.RowKit
section
variable {P:Program} {TI:TypeId->Info}
theorem cU:∀{c:AC},BT c=true->De c=true
 |.int _ _,_|.bool _,_|.fn _,_|.nil,_|.AQ _ 0 0 _ _,_=>rfl
 |.AQ _ (_+1) _ _ _,h|.AQ _ 0 (_+1) _ _,h|.BN,h|.sl _ _,h|.Co _ _ _ _ _,h|.Ae _ _ _,h|.Ca _ _ _ _ _,h|.BW _ _ _,h|.CU _ _,h|.Ch _,h|.Cp _,h|.CJ _ _,h=>by simp[BT] at h
 | .str _,_=>rfl
 |.ub _,h|.own _ _ _,h=>by simp[BT] at h
theorem Kh {y:Cx} {lo:Nat} {bo:Option Nat}:∀{c:AC} {v:Value},BT c=true->Cq y lo bo c v->Ai y c v
 |.int _ _,_,_,r|.bool _,_,_,r|.fn _,_,_,r|.nil,_,_,r|.AQ _ _ _ _ _,_,_,r=>r
 |.BN,_,h,_|.sl _ _,_,h,_|.Co _ _ _ _ _,_,h,_|.Ae _ _ _,_,h,_|.Ca _ _ _ _ _,_,h,_|.BW _ _ _,_,h,_|.CU _ _,_,h,_|.Ch _,_,h,_|.Cp _,_,h,_|.CJ _ _,_,h,_=>by simp[BT] at h
 | .str _,_,_,r=>r
 |.ub _,_,h,_|.own _ _ _,_,h,_=>by simp[BT] at h
theorem AT.Kh {y:Cx} {lo:Nat} {bo:Option Nat}:∀{cs:List AC} {vs:List Value},cs.all BT=true->AT (Cq y lo bo) cs vs->AT (Ai y) cs vs
 | [],[],_,_=>trivial
 | _::_,_::_,e,r=>by simp only[List.all_cons,Bool.and_eq_true] at e;exact⟨Abs.Kh e.1 r.1,AT.Kh e.2 r.2⟩
 |[],_::_,_,r|_::_,[],_,r=>r.elim
theorem Mo {y:Cx} {lo:Nat} {bo:Option Nat} {r:AV} {v:Value} (h:r.all BT=true) (a:FE y lo bo r v):DP y r v:=by
 cases r with
 | one c=>exact a.imp (fun q=>q) (Kh h)
 | agg cs=>obtain⟨arr,e,a⟩:=a;exact⟨arr,e,AT.Kh h a⟩
 | AJ _=>exact a.elim
theorem dy {y:Cx} {lo:Nat} {bo:Option Nat} {r:AV} {v:Value} (h:r.all BT=true) (d:Fo y lo bo r v):BF y r v:=by
 cases r with
 |one c|agg cs=>exact Mo h d
 | AJ xs=>
  obtain⟨arr,e,d⟩:=d;refine⟨arr,e,?_⟩
  have key:∀(xs:List (Bool×List AC)) (us:List Value),(xs.all fun x=>x.2.all BT)=true->AT (fun z q=>FE y lo bo (C2 z) q) xs us->AT (fun z q=>DP y (C2 z) q) xs us:=by
   intro xs
   induction xs with
   | nil=>intro us _ a;cases us <;> first | trivial | exact a.elim
   | cons z xs i=>
    intro us b a;cases us with
    | nil=>exact a.elim
    | cons q us=>
     simp only[List.all_cons,Bool.and_eq_true] at b;refine⟨?_,i us b.2 a.2⟩;obtain⟨g,cs⟩:=z;have f:=a.1;cases g with
     | true=>exact Mo (r:= .agg cs) b.1 f
     | false=>
      cases cs with
      | nil=>exact Or.inl rfl
      | cons c cs=>
       simp only[List.all_cons,Bool.and_eq_true] at b;exact Mo (r:= .one c) b.1.1 f
  exact key xs arr.toList h d
theorem eC {w0:World} {X:WX} {β:Nat->Option Nat} {s:St} {a:Act} {w:World} {J:Nat->Prop} {lo:Nat} {bo:Option Nat} (S:BB w0 X β s a w) (m:AK (AF s.bk) 0=0) (i:β 0=X.ob) {c d:AC} {v:Value} (g:BT d=true) (h:Dr (AF s.bk) c d)
  (r:Ai (cx X w β (AF s.bk)) c v):Cq (BU w X.ob J) lo bo d v:=by
 cases c with
 | AQ t id j off len=>
  rcases h with⟨l,o,p,rfl⟩ |⟨l,n,_,_,_,_,_,rfl⟩ |⟨rfl,rfl,rfl⟩
  ·simp[BT] at g
  ·simp[BT] at g
  refine⟨⟨r.1.1,Nat.le_refl _⟩,fun _=>?_⟩;have:=r.2 m.symm
  show Fm w X.ob _ _ _ _ _
  rw[<-i];exact this
 | nil=>
  rcases h with rfl |⟨t,rfl⟩ |⟨t,rfl⟩
  ·exact r
  ·simp[BT] at g
  simp[BT] at g
 |int k n|bool b|str b|fn f=>rw[show d=_ from h];exact r
 | sl t l=>rw[show d=_ from h] at g;simp[BT] at g
 | _=>exact h.elim
theorem Vm {w0:World} {X:WX} {β:Nat->Option Nat} {s:St} {a:Act} {w:World} {J:Nat->Prop} {lo:Nat} {bo:Option Nat} (S:BB w0 X β s a w) (i:AK (AF s.bk) 0=0) (b:β 0=X.ob):∀{cs c:List AC} {vs:List Value},c.all BT=true->Aq (Dr (AF s.bk)) cs c->
  AT (Ai (cx X w β (AF s.bk))) cs vs->AT (Cq (BU w X.ob J) lo bo) c vs
 | [],[],[],_,_,_=>trivial
 | _::_,_::_,_::_,d,f,g=>by
  simp only[List.all_cons,Bool.and_eq_true] at d;exact⟨eC S i b d.1 f.1 g.1,Vm S i b d.2 f.2 g.2⟩
 |[],[],_::_,_,_,h|_::_,_::_,[],_,_,h|[],_::_,_,_,h,_|_::_,[],_,_,h,_=>h.elim
theorem Om {x y:Cx} (h:∀b,x.I b->y.I b/\y.w.heap[b]? =x.w.heap[b]?) (hw:y.w=x.w) (j:x.cv 0=0) (n:y.cv 0=0) (d:y.β 0=x.β 0) (l:∀b,x.J b->y.J b):∀{c:AC} {v:Value},De c=true->Ai x c v->Ai y c v
 | .AQ t i v off len,_,e,r=>by
  match i,v,e,r with
  | 0,0,_,r=>exact⟨⟨r.1.1,Nat.zero_le _⟩,fun _=>by rw[hw,d];exact r.2 j.symm⟩
  |0,_+1,h,_|_+1,_,h,_=>simp[De,Ao] at h
 | .Ae i v off,_,e,r=>by
  match i,v,e,r with
  | 0,0,_,r=>exact⟨⟨r.1.1,Nat.zero_le _⟩,fun _=>by rw[d];exact r.2 j.symm⟩
  |0,_+1,h,_|_+1,_,h,_=>simp[De,Ao] at h
 |.BN,_,_,r|.int _ _,_,_,r|.bool _,_,_,r|.fn _,_,_,r|.nil,_,_,r=>r
 | .sl _ _,_,_,r=>By h _ _ _ r
 |.Co _ _ _ _ _,_,e,_|.Ca _ _ _ _ _,_,e,_=>by simp[De,Ao] at e
 | .BW t y _,_,_,⟨b,o,us,e,f,g,m⟩=>⟨b,o,us,e,(h b f).1,By h t y us g,rangeAt_of_block (h b f).2 m⟩
 | .CJ _ _,_,_,⟨us,e,r⟩=>⟨us,e,r.mono fun _ _=>EV.mono h⟩
 | .str _,_,_,r=>r
 |.CU _ _,_,e,_|.Ch _,_,e,_=>by simp[De,Ao] at e
 | .Cp p,_,e,⟨b,o,u,k,f,a,g⟩=>by
  obtain⟨i,v,off⟩:=p
  match i,v,e,a with
  | 0,0,_,a=>exact⟨b,o,u,k,l b f,⟨⟨a.1.1,Nat.zero_le _⟩,fun _=>by rw[d];exact a.2 j.symm⟩,by rw[hw];exact g⟩
  |0,_+1,h,_|_+1,_,h,_=>simp[De,Ao] at h
 |.ub _,_,e,_|.own _ _ _,_,e,_=>by simp[De,Ao] at e
theorem I5 {x y:Cx} (h:∀b,x.I b->y.I b/\y.w.heap[b]? =x.w.heap[b]?) (hw:y.w=x.w) (a:y.β 0=x.β 0):∀{b:AG},b.lone=true->CM x 0 b->CM y 0 b
 | .dead _,_,_=>trivial
 | .var _ cs,e,⟨b,arr,ty,c,d,f⟩=>⟨b,arr,ty,a.trans c,by rw[hw];exact d,AT.pure h (by simp only[AG.lone,Bool.and_eq_true] at e;exact e.2) f⟩
 | .arr _ t l,_,r=>r.imp (fun q=>⟨a.trans q.1,q.2⟩) fun⟨b,arr,ty,c,d,f⟩=>⟨b,arr,ty,a.trans c,by rw[hw];exact d,fun i m g=>by
  obtain⟨us,j,k⟩:=f i m g;exact⟨us,By h _ _ _ j,by rw[hw];exact k⟩⟩
theorem PW {bk:Nat->Option AG}:∀{l m:List (Bool×List AC)},Gg bk l m->Aq (Dr bk) (l.flatMap (·.2)) (m.flatMap (·.2)):=by
 have app:∀{l m l' m':List AC},Aq (Dr bk) l m->Aq (Dr bk) l' m'->Aq (Dr bk) (l++l') (m++m'):=by
  intro l
  induction l with
  | nil=>intro m l' m' h h';cases m <;> first | exact h' | exact h.elim
  | cons x l a=>intro m l' m' h h';cases m with
   | nil=>exact h.elim
   | cons y m=>exact⟨h.1,a h.2 h'⟩
 intro l
 induction l with
 | nil=>intro m h;cases m <;> first | trivial | exact h.elim
 | cons x l a=>intro m h;cases m with
  | nil=>exact h.elim
  | cons y m=>rw[List.flatMap_cons,List.flatMap_cons];exact app h.1.2 (a h.2)
theorem N7 {r:AV} {p:AC->Bool} (h:r.all p=true):(r.Dj.flatMap (·.2)).all p=true:=by
 cases r with
 |one c|agg cs=>simpa [AV.Dj,AV.comp,AV.all] using h
 | AJ xs=>simp only[AV.Dj,List.all_flatMap];exact h
theorem ZZ {p q:AC->Bool} (h:∀c,p c=true->q c=true) {r:AV} (a:r.all p=true):r.all q=true:=by
 have l:∀{cs:List AC},cs.all p=true->cs.all q=true:=fun {cs} d=>by rw[List.all_eq_true] at d ⊢;exact fun x b=>h x (d x b)
 cases r with
 | one c=>exact h c a
 | agg cs=>exact l a
 | AJ xs=>simp only[AV.all] at a ⊢;rw[List.all_eq_true] at a ⊢;exact fun x b=>l (a x b)
theorem Zr {f:FuncId} {n:Nat} {c:Code} {rs:List ResultVar} (F:Fn P TI f n c rs) {l:AC} {d b1:AG} {args:List AV} {r:AV} (hp:IH args=true) (R:r.all BT=true) (q:De l=true/\d.lone=true/\b1.lone=true) (hn:args.length<n)
  (h:CZ (env P) TI n c (post TI rs r (some b1)) (CK n (.one l::args) (some d))):Gk P f l d args r b1:=by
 obtain⟨fn,hf,s,a,O,T⟩:=F.get;refine⟨⟨fn,c,hf,s,a⟩,⟨ZZ (fun _=>cU) R,q⟩,fun w I ob v0 vs D hG M L U p=>?_⟩;refine calls_of_wp hf a ?_;obtain⟨n',rfl⟩:∃n',n=n'+1:=⟨n-1,by omega⟩
 have y:d.AK=0:=by have:=q.2.1;cases d <;> simp_all [AG.lone,AG.AK]
 have H:b1.AK=0:=by have:=q.2.2;cases b1 <;> simp_all [AG.lone,AG.AK]
 have G:b1.live=true:=by have:=q.2.2;cases b1 <;> simp_all [AG.lone,AG.live]
 have m:∀b,I b->(cx ⟨fun b=>ob=some b,fun b=>I b\/w.heap.size<=b,ob⟩ w (β0 ob) (AF (CK (n'+1) (.one l::args) (some d)).bk)).I b/\w.heap[b]? =w.heap[b]? :=fun b a=>
  ⟨⟨⟨(D b a).1,fun id _ e=>by
   unfold β0 at e
   split at e
   ·exact (D b a).2 e
   cases e⟩,.inl a⟩,rfl⟩
 have B:AK (AF (CK (n'+1) (.one l::args) (some d)).bk) 0=0:=y;have K:∀b,(BU w ob I).J b->(cx ⟨fun b=>ob=some b,fun b=>I b\/w.heap.size<=b,ob⟩ w (β0 ob) (AF (CK (n'+1) (.one l::args) (some d)).bk)).J b:=fun b a=>⟨a.1,fun id _ e=>by unfold β0 at e;split at e <;> first | exact a.2 e | cases e⟩
 have S0:BB w ⟨fun b=>ob=some b,fun b=>I b\/w.heap.size<=b,ob⟩ (β0 ob) (CK (n'+1) (.one l::args) (some d)) {tmps:=(v0::vs).toArray++Array.replicate (n'+1-(v0::vs).toArray.size) undef,defers:=[]} w:=
  BB.start (X:=⟨fun b=>ob=some b,fun b=>I b\/w.heap.size<=b,ob⟩) (by simp;omega) (fun _ e=>e) ⟨fun b a=> .inr a,hG.mono fun b a=>⟨⟨⟨.inl a,(D b a).2⟩,(D b a).1⟩,rfl⟩⟩ (fun b e=>by cases e;exact⟨y,U,by omega⟩)
   ⟨.inr (Om (x:=BU w ob I) m rfl rfl B rfl K q.1 M),Mk (x:=Cb w I) m hp p⟩
   (fun b e=>by cases e;exact I5 (x:=BU w ob I) m rfl rfl q.2.1 L)
 rw[O];refine wp_mono (EL F.mixed (fun o ho=>M1 F.ty o ho) F.dst (by simp[CK,Fb];omega) S0 h) fun e Y w' he=>?_
 obtain⟨x,s',β',rfl,g,_,S⟩:=he
 have fin:post TI rs r (some b1) x s'->(∀i,x≠ .exit i)->Y.defers=[]/\∃v,(results fn Y.tmps).run P w'= .ok v w'/\∃u,Ending.returned v= .returned u/\
   (w'.os=w.os/\w'.tape=w.tape/\w'.output=w.output/\w.heap.size<=w'.heap.size/\∀k,k<w.heap.size->ob≠some k->w'.heap[k]? =w.heap[k]?)/\
   (∀(b:Nat) arr e,ob=some b->w.heap[b]? =some (.cells arr e (0,0))->∃j,w'.heap[b]? =some (.cells j e (0,0))/\j.size=arr.size)/\
   BF (BU w' ob fun k=>(I k\/w.heap.size<=k)/\k<w'.heap.size/\ob≠some k) r u/\
   CM (BU w' ob fun k=>(I k\/w.heap.size<=k)/\k<w'.heap.size/\ob≠some k) 0 b1/\b1.short:=by
  intro g hx;refine⟨S.defers,?_⟩
  have Q:∃xs,Gh TI s' rs=some xs/\(Gg (AF s'.bk) xs r.Dj/\Md xs r.Dj=true/\(rs.length=1↔∀ys,r≠ .AJ ys))/\AF s'.bk 0=some b1:=by
   unfold post at g
   split at g
   ·exact absurd rfl (hx _)
   split at g
   ·rename_i xs W
    exact⟨xs,W,g.1 (),g.2 ()⟩
   exact g.elim
  obtain⟨xs,h1,⟨Z,h3,h4⟩,C⟩:=Q;obtain⟨us,ws,k1,k2,k3⟩:=Kl F.ty S h1 Z;have A:AK (AF s'.bk) 0=0:=by rw[Cv C];exact H
  have z:live (AF s'.bk) 0:=⟨_,C,G⟩;obtain⟨t,V⟩:=S.H7 z A
  have hJ:∀b,(cx ⟨fun b=>ob=some b,fun b=>I b\/w.heap.size<=b,ob⟩ w' β' (AF s'.bk)).I b->(BU w' ob fun k=>(I k\/w.heap.size<=k)/\k<w'.heap.size/\ob≠some k).I b/\w'.heap[b]? =w'.heap[b]? :=
   fun b a=>⟨⟨a.2,a.1.1,fun e=>a.1.2 0 z (t.trans e)⟩,rfl⟩
  have g1:=Vm (J:=fun k=>(I k\/w.heap.size<=k)/\k<w'.heap.size/\ob≠some k) (lo:=0) (bo:=none) S A t (N7 R) (PW Z) k2;have hlen:us.length=rs.length:=k1.length.symm;refine⟨GA us,Ms (by rw[T];exact k1),GA us,rfl,⟨S.os,S.tape,S.output,S.size,fun b a N=>S.block b a N⟩,V,dy R (Lj (by rw[hlen];exact h4) (k3 _ _ _ g1)),?_,S.lens 0 _ C⟩;exact I5 hJ rfl t.symm q.2.2 (S.blocks 0 b1 C)
 cases x with
 |Cf|ret=>exact fin g (by simp)
 | exit i=>exact g.elim
theorem eE {w0:World} {X:WX} {β:Nat->Option Nat} {s:St} {a:Act} {w:World} {I:Nat->Prop} (S:BB w0 X β s a w) (N:∀b,X.A b->I b\/w0.heap.size<=b) (j:live (AF s.bk) 0) (o:β 0=X.ob) {c d:AC} {v:Value} (Q:Ha c=true) (D:Ao d=true)
  (h:Dr (AF s.bk) c d) (r:Ai (cx X w β (AF s.bk)) c v) {lo:Nat} {bo:Option Nat}:Cq (BU w X.ob fun k=>(I k\/w0.heap.size<=k)/\k<w.heap.size/\X.ob≠some k) lo bo d v:=by
 have K:∀b,(cx X w β (AF s.bk)).I b->((I b\/w0.heap.size<=b)/\b<w.heap.size/\X.ob≠some b)/\w.heap[b]? =w.heap[b]? :=fun b C=>⟨⟨N b C.2,C.1.1,fun e=>C.1.2 0 j (o.trans e)⟩,rfl⟩
 cases c with
 | AQ t id u off len=>
  rcases h with⟨l,x,W,rfl⟩ |⟨l,n,_,_,_,_,_,rfl⟩ |⟨rfl,rfl,rfl⟩
  ·have g:id≠0:=fun e=>by subst e;simp[Ha] at Q
   have R:u=AK (AF s.bk) id:=by rw[Cv x];rfl
   obtain⟨base,cap,e,g1,g2,_,J⟩:=r.2 R;have hlen:((l.drop off).take len).length=len:=by simp;omega
   have z:l.length<=140737488355328:=S.lens id _ x;refine⟨base,cap,by rw[hlen,e],by rw[hlen];exact g1,by rw[hlen];omega,?_⟩;rcases J with J |⟨b,arr,e',k1,k2,Y,Z⟩
   ·left;exact List.eq_nil_of_length_eq_zero (by rw[hlen];omega)
   rcases S.blocks id _ x with⟨p,L⟩ |⟨b',H,M,p,L,V⟩
   ·exact absurd (p.symm.trans k1) (by simp)
   obtain rfl:b'=b:=Option.some.inj (p.symm.trans k1);have m:live (AF s.bk) id:=⟨_,x,rfl⟩
   have F:b'<w.heap.size:=by
    rcases Nat.lt_or_ge b' w.heap.size with h' | h'
    ·exact h'
    have G:w.heap[b']? =_:=L;simp[Array.getElem?_eq_none h'] at G
   refine .inr ⟨b',_,k2,⟨.inr ((S.own id b' m p).resolve_right (fun q=>g q.2)),F,fun e=>g (S.inj id 0 b' m j p (o.trans e))⟩,fun i y B=>?_⟩
   have O:l[off+i]? =some y:=by
    rw[List.getElem?_take] at B
    split at B
    ·simpa using B
    cases B
   obtain⟨us,T,U⟩:=V (off+i) y O;exact⟨us,By (w':=w) K _ _ _ T,by rw[show off*t.size+i*t.size=(off+i)*t.size by rw[Nat.add_mul]];exact U⟩
  ·simp[Ao] at D
  simp[Ao] at D
 | nil=>
  rcases h with rfl |⟨t,rfl⟩ |⟨t,rfl⟩
  ·exact r
  ·exact⟨none,0,by rw[show v=_ from r];rfl,Nat.le_refl _,by simp,.inl rfl⟩
  simp[Ao] at D
 |int k n|bool b|str b|fn f=>rw[show d=_ from h];exact r
 | sl t l=>rw[show d=_ from h];exact By (w':=w) K _ _ _ r
 | _=>exact h.elim
theorem PY {w0:World} {X:WX} {β:Nat->Option Nat} {s:St} {a:Act} {w:World} {I:Nat->Prop} (S:BB w0 X β s a w) (m:∀b,X.A b->I b\/w0.heap.size<=b) (c:live (AF s.bk) 0) (d:β 0=X.ob) {lo:Nat} {bo:Option Nat}:
  ∀{cs f:List AC} {vs:List Value},cs.all Ha=true->f.all Ao=true->Aq (Dr (AF s.bk)) cs f->AT (Ai (cx X w β (AF s.bk))) cs vs->AT (Cq (BU w X.ob fun k=>(I k\/w0.heap.size<=k)/\k<w.heap.size/\X.ob≠some k) lo bo) f vs
 | [],[],[],_,_,_,_=>trivial
 | _::_,_::_,_::_,g,i,j,l=>by
  simp only[List.all_cons,Bool.and_eq_true] at g i;exact⟨eE S m c d g.1 i.1 j.1 l.1,PY S m c d g.2 i.2 j.2 l.2⟩
 |[],[],_::_,_,_,_,h|_::_,_::_,[],_,_,_,h|[],_::_,_,_,_,h,_|_::_,[],_,_,_,h,_=>h.elim
theorem Ki {y:Cx} {lo:Nat} {bo:Option Nat}:∀{c:AC} {v:Value},Ao c=true->Cq y lo bo c v->Ai y c v
 |.int _ _,_,_,r|.bool _,_,_,r|.fn _,_,_,r|.nil,_,_,r|.BN,_,_,r|.sl _ _,_,_,r=>r
 |.AQ _ _ _ _ _,_,h,_|.Co _ _ _ _ _,_,h,_|.Ae _ _ _,_,h,_|.Ca _ _ _ _ _,_,h,_=>by simp[Ao] at h
 |.BW _ _ _,_,_,r|.CJ _ _,_,_,r|.str _,_,_,r=>r
 |.CU _ _,_,h,_|.Ch _,_,h,_|.Cp _,_,h,_|.ub _,_,h,_|.own _ _ _,_,h,_=>by simp[Ao] at h
theorem AT.Ki {y:Cx} {lo:Nat} {bo:Option Nat}:∀{cs:List AC} {vs:List Value},cs.all Ao=true->AT (Cq y lo bo) cs vs->AT (Ai y) cs vs
 | [],[],_,_=>trivial
 | _::_,_::_,e,r=>by simp only[List.all_cons,Bool.and_eq_true] at e;exact⟨Abs.Ki e.1 r.1,AT.Ki e.2 r.2⟩
 |[],_::_,_,r|_::_,[],_,r=>r.elim
theorem Mp {y:Cx} {lo:Nat} {bo:Option Nat} {r:AV} {v:Value} (h:r.all Ao=true) (a:FE y lo bo r v):DP y r v:=by
 cases r with
 | one c=>exact a.imp (fun q=>q) (Ki h)
 | agg cs=>obtain⟨arr,e,a⟩:=a;exact⟨arr,e,AT.Ki h a⟩
 | AJ _=>exact a.elim
theorem Vk {y:Cx} {lo:Nat} {bo:Option Nat} {r:AV} {v:Value} (h:r.all Ao=true) (d:Fo y lo bo r v):BF y r v:=by
 cases r with
 |one c|agg cs=>exact Mp h d
 | AJ xs=>
  obtain⟨arr,e,d⟩:=d;refine⟨arr,e,?_⟩
  have key:∀(xs:List (Bool×List AC)) (us:List Value),(xs.all fun x=>x.2.all Ao)=true->AT (fun z q=>FE y lo bo (C2 z) q) xs us->AT (fun z q=>DP y (C2 z) q) xs us:=by
   intro xs
   induction xs with
   | nil=>intro us _ a;cases us <;> first | trivial | exact a.elim
   | cons z xs i=>
    intro us b a;cases us with
    | nil=>exact a.elim
    | cons q us=>
     simp only[List.all_cons,Bool.and_eq_true] at b;refine⟨?_,i us b.2 a.2⟩;obtain⟨g,cs⟩:=z;have f:=a.1;cases g with
     | true=>exact Mp (r:= .agg cs) b.1 f
     | false=>
      cases cs with
      | nil=>exact Or.inl rfl
      | cons c cs=>
       simp only[List.all_cons,Bool.and_eq_true] at b;exact Mp (r:= .one c) b.1.1 f
  exact key xs arr.toList h d
def HA (args:List AV):Bool:=args.all fun c=>match c with | .AJ _=>false | c=>c.all De
theorem MK {x y:Cx} (h:∀b,x.I b->y.I b/\y.w.heap[b]? =x.w.heap[b]?) (hw:y.w=x.w) (f:x.cv 0=0) (g:y.cv 0=0) (a:y.β 0=x.β 0) (d:∀b,x.J b->y.J b):∀{l:List AV} {vs:List Value},HA l=true->AT (BF x) l vs->AT (BF y) l vs
 | [],[],_,_=>trivial
 | .one c::l,_::_,e,r=>by
  have e':(De c&&HA l)=true:=e;simp only[Bool.and_eq_true] at e';exact⟨r.1.imp (fun q=>q) (Om h hw f g a d e'.1),MK h hw f g a d e'.2 r.2⟩
 | .agg c::l,_::_,e,r=>by
  have e':(c.all De&&HA l)=true:=e;simp only[Bool.and_eq_true] at e';obtain⟨arr,i,j⟩:=r.1;refine⟨⟨arr,i,?_⟩,MK h hw f g a d e'.2 r.2⟩;exact all e'.1 j
 | .AJ _::_,_::_,e,_=>by simp[HA] at e
 |[],_::_,_,r|_::_,[],_,r=>r.elim
where
 all:∀{cs:List AC} {vs:List Value},cs.all De=true->AT (Ai x) cs vs->AT (Ai y) cs vs
  | [],[],_,_=>trivial
  | _::_,_::_,e,r=>by simp only[List.all_cons,Bool.and_eq_true] at e;exact⟨Om h hw f g a d e.1 r.1,all e.2 r.2⟩
  |[],_::_,_,r|_::_,[],_,r=>r.elim
theorem Uv:∀{xs:List (Bool×List AC)},(xs.all fun x=>x.2.all Ha)=true->(xs.flatMap (·.2)).all Ha=true:=fun {xs} h=>by
 rw[List.all_flatMap];exact h
theorem aQ {f:FuncId} {n:Nat} {c:Code} {rs:List ResultVar} (F:Fn P TI f n c rs) {d:AG} {args:List AV} {r:AV} (hp:HA args=true) (M:r.all Ao=true) (G:d.lone=true) (hn:args.length<=n) (a1:0<n)
  (h:CZ (env P) TI n c (HD TI rs r d) (CK n args (some d))):D7 P f args d r:=by
 obtain⟨fn,W,q,a,K,N⟩:=F.get;refine⟨⟨fn,c,W,q,a⟩,⟨M,G⟩,fun w I ob vs z hG D O m=>?_⟩;refine calls_of_wp W a ?_;obtain⟨n',rfl⟩:∃n',n=n'+1:=⟨n-1,by omega⟩
 have l:d.AK=0:=by cases d <;> simp_all [AG.lone,AG.AK]
 have A:d.live=true:=by cases d <;> simp_all [AG.lone,AG.live]
 have t:∀b,I b->(cx ⟨fun b=>ob=some b,fun b=>I b\/w.heap.size<=b,ob⟩ w (β0 ob) (AF (CK (n'+1) args (some d)).bk)).I b/\w.heap[b]? =w.heap[b]? :=fun b a=>
  ⟨⟨⟨(z b a).1,fun id _ e=>by
   unfold β0 at e
   split at e
   ·exact (z b a).2 e
   cases e⟩,.inl a⟩,rfl⟩
 have y:AK (AF (CK (n'+1) args (some d)).bk) 0=0:=l;have C:∀b,(BU w ob I).J b->(cx ⟨fun b=>ob=some b,fun b=>I b\/w.heap.size<=b,ob⟩ w (β0 ob) (AF (CK (n'+1) args (some d)).bk)).J b:=fun b a=>⟨a.1,fun id _ e=>by unfold β0 at e;split at e <;> first | exact a.2 e | cases e⟩
 have Y:BB w ⟨fun b=>ob=some b,fun b=>I b\/w.heap.size<=b,ob⟩ (β0 ob) (CK (n'+1) args (some d)) {tmps:=vs.toArray++Array.replicate (n'+1-vs.toArray.size) undef,defers:=[]} w:=
  BB.start (X:=⟨fun b=>ob=some b,fun b=>I b\/w.heap.size<=b,ob⟩) hn (fun _ e=>e) ⟨fun b a=> .inr a,hG.mono fun b a=>⟨⟨⟨.inl a,(z b a).2⟩,(z b a).1⟩,rfl⟩⟩ (fun b e=>by cases e;exact⟨l,O,by omega⟩)
   (MK (x:=BU w ob I) t rfl rfl y rfl C hp m)
   (fun b e=>by cases e;exact I5 (x:=BU w ob I) t rfl rfl G D)
 rw[K];refine wp_mono (EL F.mixed (fun o ho=>M1 F.ty o ho) F.dst (by simp[CK,Fb];omega) Y h) fun e U w' he=>?_
 obtain⟨x,s',β',rfl,j,_,S⟩:=he
 have fin:HD TI rs r d x s'->(∀i,x≠ .exit i)->U.defers=[]/\∃v,(results fn U.tmps).run P w'= .ok v w'/\∃u,Ending.returned v= .returned u/\
   (w'.os=w.os/\w'.tape=w.tape/\w'.output=w.output/\w.heap.size<=w'.heap.size/\∀k,k<w.heap.size->ob≠some k->w'.heap[k]? =w.heap[k]?)/\
   (∀(b:Nat) arr e,ob=some b->w.heap[b]? =some (.cells arr e (0,0))->∃g,w'.heap[b]? =some (.cells g e (0,0))/\g.size=arr.size)/\
   BF (BU w' ob fun k=>(I k\/w.heap.size<=k)/\k<w'.heap.size/\ob≠some k) r u/\
   CM (BU w' ob fun k=>(I k\/w.heap.size<=k)/\k<w'.heap.size/\ob≠some k) 0 d:=by
  intro j hx;refine⟨S.defers,?_⟩
  have L:∃xs,Gh TI s' rs=some xs/\(Gg (AF s'.bk) xs r.Dj/\(xs.all fun x=>x.2.all Ha)=true/\(rs.length=1↔∀ys,r≠ .AJ ys))/\AF s'.bk 0=some d:=by
   unfold HD at j
   split at j
   ·exact absurd rfl (hx _)
   split at j
   ·rename_i xs T
    exact⟨xs,T,j ()⟩
   exact j.elim
  obtain⟨xs,Z,⟨V,h3,h4⟩,B⟩:=L;obtain⟨us,ws,k1,k2,k3⟩:=Kl F.ty S Z V;have R:AK (AF s'.bk) 0=0:=by rw[Cv B];exact l
  have p:live (AF s'.bk) 0:=⟨_,B,A⟩;obtain⟨s,Q⟩:=S.H7 p R
  have hJ:∀b,(cx ⟨fun b=>ob=some b,fun b=>I b\/w.heap.size<=b,ob⟩ w' β' (AF s'.bk)).I b->(BU w' ob fun k=>(I k\/w.heap.size<=k)/\k<w'.heap.size/\ob≠some k).I b/\w'.heap[b]? =w'.heap[b]? :=
   fun b a=>⟨⟨a.2,a.1.1,fun e=>a.1.2 0 p (s.trans e)⟩,rfl⟩
  have g1:=PY (I:=I) (lo:=0) (bo:=none) S (fun b a=>a) p s (Uv h3) (N7 M) (PW V) k2;have hlen:us.length=rs.length:=k1.length.symm;refine⟨GA us,Ms (by rw[N];exact k1),GA us,rfl,⟨S.os,S.tape,S.output,S.size,fun b a H=>S.block b a H⟩,Q,Vk M (Lj (by rw[hlen];exact h4) (k3 _ _ _ g1)),?_⟩;exact I5 hJ rfl s.symm G (S.blocks 0 d B)
 cases x with
 |Cf|ret=>exact fin j (by simp)
 | exit i=>exact j.elim
theorem gx {f:FuncId} {n:Nat} {c:Code} {rs:List ResultVar} (F:Fn P TI f n c rs) {d b1:AG} {args:List AV} {r:AV} (hp:HA args=true) (N:r.all Ao=true) (Z:d.lone=true) (y:b1.lone=true) (hn:args.length<=n) (a1:0<n)
  (h:CZ (env P) TI n c (HD TI rs r b1) (CK n args (some d))):DV P f args d r b1:=by
 obtain⟨fn,Y,p,a,L,O⟩:=F.get;refine⟨⟨fn,c,Y,p,a⟩,⟨N,Z,y⟩,fun w I ob vs B hG H Q l=>?_⟩;refine calls_of_wp Y a ?_;obtain⟨n',rfl⟩:∃n',n=n'+1:=⟨n-1,by omega⟩
 have s:d.AK=0:=by cases d <;> simp_all [AG.lone,AG.AK]
 have D:b1.AK=0:=by cases b1 <;> simp_all [AG.lone,AG.AK]
 have C:b1.live=true:=by cases b1 <;> simp_all [AG.lone,AG.live]
 have t:∀b,I b->(cx ⟨fun b=>ob=some b,fun b=>I b\/w.heap.size<=b,ob⟩ w (β0 ob) (AF (CK (n'+1) args (some d)).bk)).I b/\w.heap[b]? =w.heap[b]? :=fun b a=>
  ⟨⟨⟨(B b a).1,fun id _ e=>by
   unfold β0 at e
   split at e
   ·exact (B b a).2 e
   cases e⟩,.inl a⟩,rfl⟩
 have z:AK (AF (CK (n'+1) args (some d)).bk) 0=0:=s;have G:∀b,(BU w ob I).J b->(cx ⟨fun b=>ob=some b,fun b=>I b\/w.heap.size<=b,ob⟩ w (β0 ob) (AF (CK (n'+1) args (some d)).bk)).J b:=fun b a=>⟨a.1,fun id _ e=>by unfold β0 at e;split at e <;> first | exact a.2 e | cases e⟩
 have S0:BB w ⟨fun b=>ob=some b,fun b=>I b\/w.heap.size<=b,ob⟩ (β0 ob) (CK (n'+1) args (some d)) {tmps:=vs.toArray++Array.replicate (n'+1-vs.toArray.size) undef,defers:=[]} w:=
  BB.start (X:=⟨fun b=>ob=some b,fun b=>I b\/w.heap.size<=b,ob⟩) hn (fun _ e=>e) ⟨fun b a=> .inr a,hG.mono fun b a=>⟨⟨⟨.inl a,(B b a).2⟩,(B b a).1⟩,rfl⟩⟩ (fun b e=>by cases e;exact⟨s,Q,by omega⟩)
   (MK (x:=BU w ob I) t rfl rfl z rfl G hp l)
   (fun b e=>by cases e;exact I5 (x:=BU w ob I) t rfl rfl Z H)
 rw[L];refine wp_mono (EL F.mixed (fun o ho=>M1 F.ty o ho) F.dst (by simp[CK,Fb];omega) S0 h) fun e V w' he=>?_
 obtain⟨x,s',β',rfl,j,_,S⟩:=he
 have fin:HD TI rs r b1 x s'->(∀i,x≠ .exit i)->V.defers=[]/\∃v,(results fn V.tmps).run P w'= .ok v w'/\∃u,Ending.returned v= .returned u/\
   (w'.os=w.os/\w'.tape=w.tape/\w'.output=w.output/\w.heap.size<=w'.heap.size/\∀k,k<w.heap.size->ob≠some k->w'.heap[k]? =w.heap[k]?)/\
   (∀(b:Nat) arr e,ob=some b->w.heap[b]? =some (.cells arr e (0,0))->∃g,w'.heap[b]? =some (.cells g e (0,0))/\g.size=arr.size)/\
   BF (BU w' ob fun k=>(I k\/w.heap.size<=k)/\k<w'.heap.size/\ob≠some k) r u/\
   CM (BU w' ob fun k=>(I k\/w.heap.size<=k)/\k<w'.heap.size/\ob≠some k) 0 b1/\b1.short:=by
  intro j hx;refine⟨S.defers,?_⟩
  have M:∃xs,Gh TI s' rs=some xs/\(Gg (AF s'.bk) xs r.Dj/\(xs.all fun x=>x.2.all Ha)=true/\(rs.length=1↔∀ys,r≠ .AJ ys))/\AF s'.bk 0=some b1:=by
   unfold HD at j
   split at j
   ·exact absurd rfl (hx _)
   split at j
   ·rename_i xs U
    exact⟨xs,U,j ()⟩
   exact j.elim
  obtain⟨xs,h1,⟨W,h3,h4⟩,A⟩:=M;obtain⟨us,ws,k1,k2,k3⟩:=Kl F.ty S h1 W;have T:AK (AF s'.bk) 0=0:=by rw[Cv A];exact D
  have m:live (AF s'.bk) 0:=⟨_,A,C⟩;obtain⟨q,R⟩:=S.H7 m T
  have hJ:∀b,(cx ⟨fun b=>ob=some b,fun b=>I b\/w.heap.size<=b,ob⟩ w' β' (AF s'.bk)).I b->(BU w' ob fun k=>(I k\/w.heap.size<=k)/\k<w'.heap.size/\ob≠some k).I b/\w'.heap[b]? =w'.heap[b]? :=
   fun b a=>⟨⟨a.2,a.1.1,fun e=>a.1.2 0 m (q.trans e)⟩,rfl⟩
  have g1:=PY (I:=I) (lo:=0) (bo:=none) S (fun b a=>a) m q (Uv h3) (N7 N) (PW W) k2;have hlen:us.length=rs.length:=k1.length.symm;refine⟨GA us,Ms (by rw[O];exact k1),GA us,rfl,⟨S.os,S.tape,S.output,S.size,fun b a K=>S.block b a K⟩,R,Vk N (Lj (by rw[hlen];exact h4) (k3 _ _ _ g1)),?_⟩;exact⟨I5 hJ rfl q.symm y (S.blocks 0 b1 A),S.lens 0 b1 A⟩
 cases x with
 |Cf|ret=>exact fin j (by simp)
 | exit i=>exact j.elim
def E0:AC->Bool
 |.int _ _|.bool _|.fn _|.nil=>true
 | .own t _ _=>t.flat
 | _=>false
theorem bC {w:World} {I a:Nat->Prop} {lo:Nat} {bo:Option Nat}:∀{c:AC} {v:Value},E0 c=true->Cq (Cb w I) lo bo c v->Cq (Cb w a) lo bo c v
 |.int _ _,_,_,r|.bool _,_,_,r|.fn _,_,_,r|.nil,_,_,r=>r
 | .own t l n,_,h,⟨k,base,cap,e,d,f,g,j⟩=>⟨k,base,cap,e,d,f,g,j.imp (fun q=>q) fun⟨b,arr,ty,k1,k2,o,p,s,u⟩=>⟨b,arr,ty,k1,k2,o,p,s,fun i y m=>by
  obtain⟨us,x,z⟩:=u i y m;exact⟨us,Kj (I:=I) (w:=w) t y us h x,z⟩⟩⟩
 |.BN,_,h,_|.sl _ _,_,h,_|.AQ _ _ _ _ _,_,h,_|.Co _ _ _ _ _,_,h,_|.Ae _ _ _,_,h,_|.Ca _ _ _ _ _,_,h,_|.BW _ _ _,_,h,_|.CU _ _,_,h,_|.Ch _,_,h,_|.Cp _,_,h,_|.CJ _ _,_,h,_=>by simp[E0] at h
 | .str _,_,_,r=>r
 | .ub _,_,h,_=>by simp[E0] at h
def He:AC->AC
 | .own t l _=> .sl t l
 | c=>c
def PI:AV->AV
 | .one c=> .one (He c)
 | .agg cs=> .agg (cs.map He)
 | .AJ xs=> .AJ (xs.map fun x=>(x.1,x.2.map He))
theorem Ud {x y:Cx} {lo KV:Nat} {bo KA:Option Nat} {p:AC->Bool} {g:AC->AC} (n:g .BN= .BN) (h:∀c v,p c=true->Cq x lo bo c v->Cq y KV KA (g c) v) {r:AV} {v:Value} (k:r.all p=true) (b:Fo x lo bo r v):
  Fo y KV KA (match r with | .one c=> .one (g c) | .agg cs=> .agg (cs.map g) | .AJ xs=> .AJ (xs.map fun x=>(x.1,x.2.map g))) v:=by
 have l:∀{cs:List AC} {vs:List Value},cs.all p=true->AT (Cq x lo bo) cs vs->AT (Cq y KV KA) (cs.map g) vs:=by
  intro cs
  induction cs with
  | nil=>intro vs _ h;cases vs <;> first | trivial | exact h.elim
  | cons c cs m=>intro vs j a;cases vs with
   | nil=>exact a.elim
   | cons u us=>
    simp only[List.all_cons,Bool.and_eq_true] at j;exact⟨h _ _ j.1 a.1,m j.2 a.2⟩
 cases r with
 | one c=>
  rcases b with rfl | b
  ·exact .inl n
  exact .inr (h _ _ k b)
 | agg cs=>obtain⟨arr,e,b⟩:=b;exact⟨arr,e,l k b⟩
 | AJ xs=>
  obtain⟨arr,e,b⟩:=b;refine⟨arr,e,?_⟩
  have key:∀(xs:List (Bool×List AC)) (us:List Value),(xs.all fun x=>x.2.all p)=true->AT (fun z q=>FE x lo bo (C2 z) q) xs us->AT (fun z q=>FE y KV KA (C2 z) q) (xs.map fun x=>(x.1,x.2.map g)) us:=by
   intro xs
   induction xs with
   | nil=>intro us _ a;cases us <;> first | trivial | exact a.elim
   | cons z xs m=>
    intro us i a;cases us with
    | nil=>exact a.elim
    | cons q us=>
     simp only[List.all_cons,Bool.and_eq_true] at i;refine⟨?_,m us i.2 a.2⟩;obtain⟨t,cs⟩:=z;have d:=a.1;cases t with
     | true=>obtain⟨f,e',d⟩:=d;exact⟨f,e',l i.1 d⟩
     | false=>
      cases cs with
      | nil=>exact Or.inl rfl
      | cons c cs=>
       simp only[List.all_cons,Bool.and_eq_true] at i;rcases d with e1 | d
       ·have e1:c= .BN:=e1;subst e1;exact .inl n
       exact .inr (h _ _ i.1.1 d)
  exact key xs arr.toList k b
theorem LP {f:FuncId} {args:List AV} {r:AV} (l:r.all E0=true) (h:Eh P false f args r):Eh P true f args r:=by
 refine⟨h.1,h.2.1,fun w I vs i d a=>(h.2.2 w I vs i d a).mono fun e w' ⟨u,bo,he,j,hu⟩=>⟨u,bo,he,j,?_⟩⟩;have:=Ud (g:=fun c=>c) (y:=Cb w' fun b=>((true=false/\I b)\/w.heap.size<=b)/\b<w'.heap.size/\bo≠some b) rfl (fun c v k=>bC k) l hu;cases r <;> simpa using this
theorem db {w:World} {J:Nat->Prop} {lo:Nat} {bo:Option Nat}:∀{c:AC} {v:Value},Bp c=true->Cq (Cb w fun b=>(J b\/lo<=b)/\b<w.heap.size/\bo≠some b) lo bo c v->Cq (Cb w fun b=>(J b\/lo<=b)/\b<w.heap.size/\(none:Option Nat)≠some b) lo none (He c) v
 | .own t l n,v,_,⟨F,base,cap,e,j,D,k,m⟩=>by
  refine⟨base,cap,by rw[e],j,k,?_⟩;rcases m with⟨_,q,_⟩ |⟨b,arr,ty,k1,k2,u,x,G,z⟩
  ·exact .inl q
  have d:b<w.heap.size:=by
   rcases Nat.lt_or_ge b w.heap.size with h' | h'
   ·exact h'
   have f:w.heap[b]? =_:=x;simp[Array.getElem?_eq_none h'] at f
  refine .inr ⟨b,0,u,⟨.inr k2,d,by simp⟩,fun i y s=>?_⟩;obtain⟨us,B,C⟩:=z i y s;exact⟨us,By (w':=w) (fun b a=>⟨⟨a.1,a.2.1,by simp⟩,rfl⟩) _ _ _ B,by rw[Nat.zero_add];exact C⟩
 |.int _ _,_,_,r|.bool _,_,_,r|.fn _,_,_,r|.nil,_,_,r|.BN,_,_,r=>r
 | .sl _ _,_,_,r=>By (w':=w) (fun b a=>⟨⟨a.1,a.2.1,by simp⟩,rfl⟩) _ _ _ r
 |.AQ _ _ _ _ _,_,h,_|.Co _ _ _ _ _,_,h,_|.Ae _ _ _,_,h,_|.Ca _ _ _ _ _,_,h,_=>by simp[Bp,Ao] at h
 | .BW _ _ _,_,_,⟨b,A,us,e,g,p,o⟩=>⟨b,A,us,e,⟨g.1,g.2.1,by simp⟩,By (w':=w) (fun b a=>⟨⟨a.1,a.2.1,by simp⟩,rfl⟩) _ _ _ p,o⟩
 | .CJ _ _,_,_,⟨us,e,r⟩=>⟨us,e,r.mono fun _ _=>EV.mono (w':=w) fun b a=>⟨⟨a.1,a.2.1,by simp⟩,rfl⟩⟩
 | .str _,_,_,r=>r
 |.CU _ _,_,h,_|.Ch _,_,h,_|.Cp _,_,h,_|.ub _,_,h,_=>by simp[Bp,Ao] at h
theorem Ct {k:Bool} {f:FuncId} {args:List AV} {r:AV} (h:Eh P k f args r):Eh P k f args (PI r):=by
 have d:∀c,Bp c=true->Bp (He c)=true:=fun c d=>by cases c <;> simp_all [He,Bp,Ao]
 have i:∀{cs:List AC},cs.all Bp=true->(cs.map He).all Bp=true:=fun {cs} h=>by
  rw[List.all_eq_true] at h ⊢;intro x j;obtain⟨y,o,rfl⟩:=List.mem_map.1 j;exact d y (h y o)
 refine⟨h.1,⟨?_,?_⟩,fun w I vs m l a=>(h.2.2 w I vs m l a).mono fun e w' ⟨u,bo,he,n,hu⟩=>⟨u,none,he,n,?_⟩⟩
 ·have:=h.2.1.1;cases r with
  | one c=>exact d c this
  | agg cs=>exact i this
  | AJ xs=>
   simp only[PI,AV.all,List.all_map] at this ⊢;rw[List.all_eq_true] at this ⊢;exact fun x j=>i (this x j)
 ·have:=h.2.1.2;cases r with
  |one c|agg cs=>rfl
  | AJ xs=>
   simp only[PI,AV.wf,List.all_map] at this ⊢;rw[List.all_eq_true] at this ⊢;exact fun x j=>by simpa using this x j
 have:=Ud (g:=He) (KA:=none) (KV:=w.heap.size) (y:=Cb w' fun b=>((k=false/\I b)\/w.heap.size<=b)/\b<w'.heap.size/\(none:Option Nat)≠some b) rfl (fun c v d=>db (J:=fun b=>k=false/\I b) d) h.2.1.1 hu;cases r <;> exact this
end
def zC:AC->Value->Bool
 | .int k n,.int k' n'=>k==k'&&n==n'
 | .bool b,.bool b'=>b==b'
 |.nil,.slice none 0 0|.sl _ [],.slice none 0 0=>true
 | .str z,.string z'=>z.data==z'.data
 | .BN,v=>v.oneCell'
 | _,_=>false
def IU:List AC->List Value->Bool
 | [],[]=>true
 | c::cs,v::vs=>zC c v&&IU cs vs
 | _,_=>false
theorem iI {c:AC} {v:Value} (h:zC c v=true) (x:Cx):Ai x c v:=by
 unfold zC at h
 split at h
 ·simp only[Bool.and_eq_true,beq_iff_eq] at h;obtain⟨rfl,rfl⟩:=h
  rfl
 ·simp only[beq_iff_eq] at h;subst h
  rfl
 ·rfl
 ·exact⟨none,0,rfl,Nat.le_refl _,by simp,.inl rfl⟩
 ·rename_i z a
  obtain⟨z⟩:=z;obtain⟨a⟩:=a;simp only[beq_iff_eq] at h;subst h;rfl
 ·exact h
 cases h
theorem QH:∀{cs:List AC} {vs:List Value},IU cs vs=true->∀x,AT (Ai x) cs vs
 | [],[],_,_=>trivial
 | _::_,_::_,h,x=>by simp only[IU,Bool.and_eq_true] at h;exact⟨iI h.1 x,QH h.2 x⟩
 |[],_::_,h,_|_::_,[],h,_=>by simp[IU] at h
def SV (P:Program) (t:TypeId) (i:Info):Bool:=
 match P.info? t with
 | some ti=>match P.underlying t with
  | some d=>match ti.zero with
   | some z=>ti.size==i.size&&IU i.zero z.cells.toList&&d.isRow==i.agg&&(i.agg||i.size==1)
   | none=>false
  | none=>false
 | none=>false
def SU (P:Program) (t:TypeId) (k:IntKind):Bool:=
 match P.underlying t with
 | some (.int k')=>k'==k
 | _=>false
def SY (P:Program) (t:TypeId) (i:Info):Bool:=
 match P.underlying t with
 | some (.slice e)=>e==i.Bw&&(match P.info? i.Bw with
  | some ei=>match ei.zero with
   | some z=>ei.size==i.elem.size&&ei.bytes==i.Dk&&decide (0<ei.bytes)&&IU (cells i.elem i.Ba) z.cells.toList
   | none=>false
  | none=>false)
 | _=>false
def N2 (P:Program) (p:Nat×Nat×Bool) (fl:Field):Bool:=
 match P.info? fl.type with
 | some ti=>match P.underlying fl.type with
  | some d=>fl.offset==p.1&&ti.size==p.2.1&&decide (0<p.2.1)&&d.isRow==p.2.2&&(p.2.2||p.2.1==1)
  | none=>false
 | none=>false
def Ij (P:Program):List (Nat×Nat×Bool)->List Field->Bool
 | [],[]=>true
 | p::ps,f::fs=>N2 P p f&&Ij P ps fs
 | _,_=>false
def SQ (P:Program) (t:TypeId) (i:Info):Bool:=
 match P.underlying t with
 | some (.struct fs)=>Ij P i.fields fs.toList
 | _=>false
def SP (P:Program) (t:TypeId):Bool:=
 match P.underlying t with
 | some .bool=>true
 | _=>false
def SX (P:Program) (t:TypeId):Bool:=
 match P.underlying t with
 | some .string=>true
 | _=>false
def SO (P:Program) (t:TypeId) (q:Nat×Nat×Bool):Bool:=
 match P.underlying t with
 | some (.array n e)=>n==q.1&&(match P.info? e with
  | some ei=>match P.underlying e with
   | some d=>ei.size==q.2.1&&d.isRow==q.2.2&&(q.2.2||q.2.1==1)&&decide (2<=q.1)
   | none=>false
  | none=>false)
 | _=>false
def SW (P:Program) (t:TypeId) (i:Info):Bool:=
 match P.underlying t with
 | some (.slice e)=>e==i.Bw&&(match P.info? i.Bw with
  | some ei=>match ei.zero with
   | some z=>ei.size==1&&z.cells.size==1
   | none=>false
  | none=>false)
 | _=>false
def SZ (P:Program) (t:TypeId) (i:Info):Bool:=
 (!i.known||SV P t i)&&(match i.kind with | some k=>SU P t k | none=>true)&&(!i.sl||SY P t i)&&(!i.ME||SP P t)&&(!i.known||i.fields.isEmpty||SQ P t i)&&(!i.IA||SX P t)&&(!i.pt||SW P t i)&&(match i.arr with | some q=>SO P t q | none=>true)
theorem SR {P:Program}:∀{ps:List (Nat×Nat×Bool)} {a:List Field},Ij P ps a=true->ps.length=a.length/\∀(f:Nat) (p:Nat×Nat×Bool),ps[f]? =some p->∃c,a[f]? =some c/\N2 P p c=true
 | [],[],_=>⟨rfl,fun f p h=>by simp at h⟩
 | p::ps,f::a,h=>by
  simp only[Ij,Bool.and_eq_true] at h;obtain⟨d,g⟩:=SR h.2;refine⟨by simp[d],fun i q b=>?_⟩;cases i with
  | zero=>simp at b;subst b;exact⟨f,rfl,h.1⟩
  | succ i=>simpa using g i q (by simpa using b)
 |[],_::_,h|_::_,[],h=>by simp[Ij] at h
theorem NB {P:Program} {t:TypeId} {i:Info} (h:SZ P t i=true):Cw P t i:=by
 simp only[SZ,Bool.and_eq_true] at h;obtain⟨⟨⟨⟨⟨⟨⟨j,o⟩,c⟩,v⟩,s⟩,w⟩,a⟩,b⟩:=h;refine⟨fun u=>?_,fun k u=>?_,fun B=>?_,fun B=>?_,fun O=>?_,fun u L=>?_,fun q F=>?_,fun N=>?_⟩
 ·simp only[u,Bool.not_true,Bool.false_or] at j;unfold SV at j
  split at j
  ·rename_i G e1
   split at j
   ·rename_i d l
    split at j
    ·rename_i z m
     simp only[Bool.and_eq_true,beq_iff_eq,Bool.or_eq_true] at j;obtain⟨⟨⟨x,y⟩,a3⟩,a4⟩:=j;exact⟨G,z,d,e1,x,m,QH y,l,a3,fun K=>a4.resolve_left (by simp[K])⟩
    cases j
   cases j
  cases j
 ·rw[u] at o;simp only at o;unfold SU at o
  split at o
  ·rename_i k' e;rw[e];simp only[beq_iff_eq] at o;rw[o]
  cases o
 ·simp only[B,Bool.not_true,Bool.false_or] at v;unfold SP at v
  split at v
  ·assumption
  cases v
 ·simp only[B,Bool.not_true,Bool.false_or] at w;unfold SX at w
  split at w
  ·assumption
  cases w
 ·simp only[O,Bool.not_true,Bool.false_or] at c;unfold SY at c
  split at c
  ·rename_i e e1
   simp only[Bool.and_eq_true,beq_iff_eq] at c;obtain⟨rfl,c⟩:=c;refine⟨e1,?_⟩
   split at c
   ·rename_i r l
    split at c
    ·rename_i z m
     simp only[Bool.and_eq_true,beq_iff_eq,decide_eq_true_eq] at c;obtain⟨⟨⟨x,y⟩,a3⟩,a4⟩:=c;exact⟨r,z,l,x,y,a3,m,QH a4⟩
    cases c
   cases c
  cases c
 ·have C:i.fields.isEmpty=false:=by cases M:i.fields with
   | nil=>exact absurd M L
   | cons _ _=>rfl
  simp only[u,C,Bool.not_true,Bool.false_or] at s;unfold SQ at s
  split at s
  ·rename_i J e1
   obtain⟨g1,g2⟩:=SR s;refine⟨J,e1,by simpa using g1,fun f R n g F=>?_⟩;obtain⟨I,Q,p⟩:=g2 f _ F;unfold N2 at p
   split at p
   ·rename_i G l
    split at p
    ·rename_i d m
     simp only[Bool.and_eq_true,beq_iff_eq,decide_eq_true_eq,Bool.or_eq_true] at p;obtain⟨⟨⟨⟨b1,b2⟩,b3⟩,A⟩,H⟩:=p;exact⟨I,d,by simpa using Q,b1,by rw[l];exact congrArg some b2,b3,m,A,fun D=>H.resolve_left (by simp[D])⟩
    cases p
   cases p
  cases s
 ·rw[F] at b;simp only at b;unfold SO at b
  split at b
  ·rename_i n e e1
   simp only[Bool.and_eq_true,beq_iff_eq] at b;obtain⟨rfl,b⟩:=b
   split at b
   ·rename_i r l
    split at b
    ·rename_i d m
     simp only[Bool.and_eq_true,beq_iff_eq,decide_eq_true_eq,Bool.or_eq_true] at b;obtain⟨⟨⟨b1,b2⟩,b3⟩,A⟩:=b;exact⟨e,r,d,e1,l,b1,m,b2,fun D=>b3.resolve_left (by simp[D]),A⟩
    cases b
   cases b
  cases b
 simp only[N,Bool.not_true,Bool.false_or] at a;unfold SW at a
 split at a
 ·rename_i e e1
  simp only[Bool.and_eq_true,beq_iff_eq] at a;obtain⟨rfl,a⟩:=a;refine⟨e1,?_⟩
  split at a
  ·rename_i r l
   split at a
   ·rename_i z m
    simp only[Bool.and_eq_true,beq_iff_eq] at a;exact⟨r,z,l,a.1,m,a.2⟩
   cases a
  cases a
 cases a
def Uq:Info:={known:=false,Ba:=false}
theorem gi (P:Program) (t:TypeId):Cw P t Uq:=NB (by rfl)
abbrev Wv:T:= .pr .bool (.sl .u32)
abbrev AA:T:= .pr Wv Wv
abbrev An:T:= .pr (.sl (.sl AA)) (.sl AA)
abbrev Ww:T:= .pr An An
abbrev CT:T:= .pr .u8 (.pr .u8 (.pr .u8 (.pr .i8 .u8)))
def TI:TypeId->Info
 |2|3=>{size:=1,zero:=[.int .i64 0],kind:=some .i64,Ba:=false}
 | 4=>{size:=1,zero:=[.bool false],ME:=true,Ba:=false}
 | 5=>{size:=1,zero:=[.int .u8 0],kind:=some .u8,Ba:=false}
 |27|28=>{size:=1,zero:=[.nil],sl:=true,Bw:=127,elem:=CT,Ba:=((0,0,0,0,0):el CT),Dk:=5}
 | 39=>{size:=1,zero:=[.nil],sl:=true,Bw:=26,elem:=(.sl AA),Ba:=([]:el (.sl AA)),Dk:=24}
 | 26=>{size:=1,zero:=[.nil],sl:=true,Bw:=79,elem:=AA,Ba:=(((false,[]),(false,[])):el AA),Dk:=64}
 | 41=>{size:=2,zero:=[.nil,.nil],agg:=true,Ba:=false,fields:=[(0,1,false),(1,1,false)]}
 | 50=>{size:=1,zero:=[.int .i64 0],kind:=some .i64,Ba:=false}
 | 32=>{size:=1,zero:=[.nil],sl:=true,Bw:=41,elem:=An,Ba:=(([],[]):el An),Dk:=48}
 | 29=>{size:=1,zero:=[.nil],sl:=true,Bw:=5,elem:= .u8,Ba:=(0:el .u8),Dk:=1}
 | 66=>{size:=1,zero:=[.nil],sl:=true,Bw:=45,elem:=Ww,Ba:=((([],[]),([],[])):el Ww),Dk:=96}
 | 45=>{size:=4,zero:=[.nil,.nil,.nil,.nil],agg:=true,Ba:=false,fields:=[(0,2,true),(2,2,true)]}
 | 75=>{size:=1,zero:=[.nil],sl:=true,Bw:=248,elem:= .u32,Ba:=(0:el .u32),Dk:=4}
 | 77=>{size:=2,zero:=[.bool false,.nil],agg:=true,Ba:=false,fields:=[(0,1,false),(1,1,false)]}
 | 79=>{size:=4,zero:=[.bool false,.nil,.bool false,.nil],agg:=true,Ba:=false,fields:=[(0,2,true),(2,2,true)]}
 | 59=>{size:=1,zero:=[.int .i8 0],kind:=some .i8,Ba:=false}
 | 127=>{size:=5,zero:=[.int .u8 0,.int .u8 0,.int .u8 0,.int .i8 0,.int .u8 0],agg:=true,Ba:=false,fields:=[(0,1,false),(1,1,false),(2,1,false),(3,1,false),(4,1,false)]}
 | 294=>{size:=2,zero:=[.nil,.nil],agg:=true,Ba:=false,fields:=[(0,1,false),(1,1,false)]}
 | 248=>{size:=1,zero:=[.int .u32 0],kind:=some .u32,Ba:=false}
 |216|251=>{size:=1,zero:=[.int .u64 0],kind:=some .u64,Ba:=false}
 | _=>Uq
theorem Ky (t:TypeId):Cw Tryz.prog t (TI t):=by
 unfold TI
 split <;> first | exact gi _ _ | exact NB (by kernel_rfl)
theorem I9:Tryz.prog.follows .mixedOrders=true:=by kernel_rfl
def FG (fn : Func) : Bool := (fn.name == "runtime.NumGoroutine") == false && match fn.body with | some c => F0 c | none => false
def KB (E:Env) (fn:Func) (r:AV) (b1:Option AG) (s:St):Prop:=
 match fn.body with
 | some c=>CZ E TI fn.ntmps c (post TI fn.results.toList r b1) s
 | none=>False
theorem ZQ {f:FuncId} {fn:Func} (g:Tryz.prog.funcs[f]? =some fn) (a:FG fn=true) {args:List AV} {r:AV} (b:(IH args&&(r.all Bp&&(r.wf&&Nat.ble args.length fn.ntmps)))=true)
  (h:∀E,env Tryz.prog=E->KB E fn r none (CK fn.ntmps args none)):Eh Tryz.prog false f args r:=by
 have h:=h _ rfl;unfold KB at h;unfold FG at a;simp only[Bool.and_eq_true] at a b
 split at h
 ·rename_i c d
  rw[d] at a;exact RY (TI:=TI) (n:=fn.ntmps) (c:=c) (rs:=fn.results.toList) ⟨⟨fn,g,by simpa using a.1,d,rfl,rfl⟩,a.2,Ky,I9⟩ b.1 ⟨b.2.1,b.2.2.1⟩ (Nat.le_of_ble_eq_true b.2.2.2) h
 exact h.elim
theorem J6 {f:FuncId} {fn:Func} (j:Tryz.prog.funcs[f]? =some fn) (a:FG fn=true) {g:AC} {d b1:AG} {args:List AV} {r:AV} (b:(IH args&&(r.all BT&&(Nat.ble (args.length+1) fn.ntmps&&(De g&&(d.lone&&b1.lone)))))=true)
  (h:∀E,env Tryz.prog=E->KB E fn r (some b1) (CK fn.ntmps (.one g::args) (some d))):Gk Tryz.prog f g d args r b1:=by
 have h:=h _ rfl;unfold KB at h;unfold FG at a;simp only[Bool.and_eq_true] at a b
 split at h
 ·rename_i c i
  rw[i] at a;exact Zr (TI:=TI) (n:=fn.ntmps) (c:=c) (rs:=fn.results.toList) ⟨⟨fn,j,by simpa using a.1,i,rfl,rfl⟩,a.2,Ky,I9⟩ b.1 b.2.1 b.2.2.2 (Nat.le_of_ble_eq_true b.2.2.1) h
 exact h.elim
def SD (E:Env) (fn:Func) (r:AV) (b0:AG) (s:St):Prop:=
 match fn.body with
 | some c=>CZ E TI fn.ntmps c (HD TI fn.results.toList r b0) s
 | none=>False
theorem Gz {f:FuncId} {fn:Func} (i:Tryz.prog.funcs[f]? =some fn) (b:FG fn=true) {d:AG} {args:List AV} {r:AV} (a:(HA args&&(r.all Ao&&(d.lone&&(Nat.ble args.length fn.ntmps&&Nat.ble 1 fn.ntmps))))=true)
  (h:∀E,env Tryz.prog=E->SD E fn r d (CK fn.ntmps args (some d))):D7 Tryz.prog f args d r:=by
 have h:=h _ rfl;unfold SD at h;unfold FG at b;simp only[Bool.and_eq_true] at b a
 split at h
 ·rename_i c g
  rw[g] at b;exact aQ (TI:=TI) (n:=fn.ntmps) (c:=c) (rs:=fn.results.toList) ⟨⟨fn,i,by simpa using b.1,g,rfl,rfl⟩,b.2,Ky,I9⟩ a.1 a.2.1 a.2.2.1 (Nat.le_of_ble_eq_true a.2.2.2.1) (Nat.le_of_ble_eq_true a.2.2.2.2) h
 exact h.elim
theorem Ee {E:Env} {f:FuncId} {args:List AV} {a:AG} {r:AV} {b1:AG} (b:env Tryz.prog=E) (h:DV Tryz.prog f args a r b1):E.W f args a r b1:=b ▸ h
theorem FL {E:Env} {f:FuncId} {args:List AV} {a:AG} {r:AV} (b:env Tryz.prog=E) (h:D7 Tryz.prog f args a r):E.D f args a r:=b ▸ h
def iU:AV->Nat
 | .one (.sl _ l)=>l.length
 | _=>0
def iS:AV->Int
 | .one (.int _ n)=>n
 | _=>0
theorem ES {E:Env} {a:Bool} {f:FuncId} {args:List AV} {r:AV} (b:env Tryz.prog=E) (h:Eh Tryz.prog a f args r):E.C a f args r:=b ▸ h
theorem Di {E:Env} {f:FuncId} {b:AC} {a b1:AG} {args:List AV} {r:AV} (c:env Tryz.prog=E) (h:Gk Tryz.prog f b a args r b1):E.B f b a args r b1:=c ▸ h
abbrev LR:=List (el AA)
abbrev CF:=Eh Tryz.prog false
theorem cL {E:Env} {b:Bool} {g:FuncId} {args:List AV} {r:AV} {L:List AV->Prop} {K:AV->Prop} {X:Prop} (c:env Tryz.prog=E) (h:Eh Tryz.prog b g args r) (f:L args) (d:K r):
 (∃(a:List AV) (r:AV),(Unit->L a)/\(Unit->E.C b g a r)/\K r)\/X:= .inl ⟨args,r,fun _=>f,fun _=>ES c h,d⟩
theorem fA {A B C:Prop} (h:A) (a:B) (b:C):(Unit->A/\B/\C)/\True:=⟨fun _=>⟨h,a,b⟩,trivial⟩
theorem i64 {c:Int} (h: -9223372036854775808<=c/\c<9223372036854775808):Db c:=h
theorem g2 {P:Sort _} {A C:Prop} (a:A) (h:C):(P->A)/\C:=⟨fun _=>a,h⟩
theorem g1 {P:Sort _} {C:Prop} {x:Int} (a: -9223372036854775808<=x/\x<9223372036854775808) (h:C):(P->Db x)/\C:=⟨fun _=>i64 a,h⟩
theorem t1 {α:Sort _} {a:α}:a=a/\True:=⟨rfl,trivial⟩
theorem t2 {α β:Sort _} {a:α} {b:β}:a=a/\b=b/\True:=⟨rfl,t1⟩
theorem t3 {α β γ:Sort _} {a:α} {b:β} {c:γ}:a=a/\b=b/\c=c/\True:=⟨rfl,t2⟩
theorem t4 {α β γ δ:Sort _} {a:α} {b:β} {c:γ} {d:δ}:a=a/\b=b/\c=c/\d=d/\True:=⟨rfl,t3⟩
theorem xR (a:LR):∃z:LR,z=a:=⟨_,rfl⟩
theorem xV (a:List LR):∃z:List LR,z=a:=⟨_,rfl⟩
theorem xN (a:Nat):∃z:Nat,z=a:=⟨_,rfl⟩
theorem xI (a:Int):∃z:Int,z=a:=⟨_,rfl⟩
theorem xB (a:Bool):∃z:Bool,z=a:=⟨_,rfl⟩
theorem xU (a:List UInt32):∃z:List UInt32,z=a:=⟨_,rfl⟩
theorem xJ (a:List AV->List AG->Nat->Prop):∃J:List AV->List AG->Nat->Prop,J=a:=⟨_,rfl⟩
theorem xK (a:List AV->List AG->Prop):∃J:List AV->List AG->Prop,J=a:=⟨_,rfl⟩
abbrev E6:AC:= .sl (.sl AA) []
abbrev E7:AC:= .sl AA []
abbrev BC (b:Bool) (l:List UInt32):List AC:=[.bool b,.sl .u32 l]
abbrev BV (b:Bool) (l:List UInt32) (c:Bool) (m:List UInt32):List AC:=[.bool b,.sl .u32 l,.bool c,.sl .u32 m]
abbrev Ay (T1:List (List (el AA))) (A1:List (el AA)):List AC:=[.sl (.sl AA) T1,.sl AA A1]
abbrev IB (T1:List (List (el AA))) (A1:List (el AA)) (T2:List (List (el AA))) (A2:List (el AA)):List AC:=[.sl (.sl AA) T1,.sl AA A1,.sl (.sl AA) T2,.sl AA A2]
abbrev iX (T1:List (List (el AA))) (A1:List (el AA)) (T2:List (List (el AA))) (A2:List (el AA)) (T3:List (List (el AA))) (A3:List (el AA)):List AC:=[.sl (.sl AA) T1,.sl AA A1,.sl (.sl AA) T2,.sl AA A2,.sl (.sl AA) T3,.sl AA A3]
abbrev iY (T1:List (List (el AA))) (A1:List (el AA)) (T2:List (List (el AA))) (A2:List (el AA)) (T3:List (List (el AA))) (A3:List (el AA)) (T4:List (List (el AA))) (A4:List (el AA)):List AC:=[.sl (.sl AA) T1,.sl AA A1,.sl (.sl AA) T2,.sl AA A2,.sl (.sl AA) T3,.sl AA A3,.sl (.sl AA) T4,.sl AA A4]
abbrev iZ (T1:List (List (el AA))) (A1:List (el AA)) (T2:List (List (el AA))) (A2:List (el AA)) (T3:List (List (el AA))) (A3:List (el AA)) (T4:List (List (el AA))) (A4:List (el AA)) (T5:List (List (el AA))) (A5:List (el AA)):List AC:=[.sl (.sl AA) T1,.sl AA A1,.sl (.sl AA) T2,.sl AA A2,.sl (.sl AA) T3,.sl AA A3,.sl (.sl AA) T4,.sl AA A4,.sl (.sl AA) T5,.sl AA A5]
abbrev iW (T1:List (List (el AA))) (A1:List (el AA)) (T2:List (List (el AA))) (A2:List (el AA)) (T3:List (List (el AA))) (A3:List (el AA)) (T4:List (List (el AA))) (A4:List (el AA)) (m:Bool):List AC:=[.sl (.sl AA) T1,.sl AA A1,.sl (.sl AA) T2,.sl AA A2,.sl (.sl AA) T3,.sl AA A3,.sl (.sl AA) T4,.sl AA A4,.bool m]
def Ks:AC->Bool
 | .int _ _=>true | .bool _=>true | .fn _=>true | .nil=>true | .sl _ _=>true
 | _=>false
def JN:List AV->Bool
 | []=>true
 | .one c::l=>Ks c&&JN l
 | .agg cs::l=>cs.all Ks&&JN l
 | .AJ _::_=>false
theorem UN:∀{c:AC},Ks c=true->BG c c
 |.int _ _,_|.bool _,_|.fn _,_=>rfl
 | .nil,_=> .inl rfl
 | .sl _ _,_=>rfl
theorem Rj:∀{cs:List AC},cs.all Ks=true->Aq BG cs cs
 | [],_=>trivial
 | c::l,h=>by
  rw[List.all_cons,Bool.and_eq_true] at h;exact⟨UN h.1,Rj h.2⟩
theorem Nj:∀{a:List AV},JN a=true->C6 BG a a
 | [],_=>trivial
 | .one c::l,h=>by
  unfold JN at h;rw[Bool.and_eq_true] at h;exact⟨UN h.1,Nj h.2⟩
 | .agg cs::l,h=>by
  unfold JN at h;rw[Bool.and_eq_true] at h;exact⟨Rj h.1,Nj h.2⟩
theorem AB {E:Env} {b:Bool} {g:FuncId} {args:List AV} {r:AV} {K:AV->Prop} {X:Prop} (c:env Tryz.prog=E) (h:Eh Tryz.prog b g args r) (d:K r) (f:JN args=true:=by rfl):
 (∃(a:List AV) (r:AV),(Unit->C6 BG args a)/\(Unit->E.C b g a r)/\K r)\/X:= .inl ⟨args,r,fun _=>Nj f,fun _=>ES c h,d⟩
def MN:AC->AC
 | .AQ t _ _ off len=> .AQ t 0 0 off len
 | .Ae _ _ off=> .Ae 0 0 off
 | c=>c
def I4:List AV->List AV
 | []=>[]
 | .one c::l=> .one (MN c)::I4 l
 | .agg cs::l=> .agg (cs.map MN)::I4 l
 | .AJ x::l=> .AJ x::I4 l
def JC (id v:Nat):AC->Bool
 |.AQ _ i w _ _|.Ae i w _=>Nat.beq i id&&Nat.beq w v
 | c=>Ks c
def JD (id v:Nat):List AV->Bool
 | []=>true
 | .one c::l=>JC id v c&&JD id v l
 | .agg cs::l=>cs.all (JC id v)&&JD id v l
 | .AJ _::_=>false
theorem US {id v:Nat}:∀{c:AC},JC id v c=true->Fc id v c (MN c)
 | .AQ _ i w _ _,h=>by
  unfold JC at h;rw[Bool.and_eq_true] at h;exact⟨⟨Nat.eq_of_beq_eq_true h.1,Nat.eq_of_beq_eq_true h.2⟩,rfl⟩
 | .Ae i w _,h=>by
  unfold JC at h;rw[Bool.and_eq_true] at h;exact⟨⟨Nat.eq_of_beq_eq_true h.1,Nat.eq_of_beq_eq_true h.2⟩,rfl⟩
 |.int _ _,_|.bool _,_|.fn _,_=>rfl
 | .nil,_=> .inl rfl
 | .sl _ _,_=>rfl
theorem UR {id v:Nat}:∀{cs:List AC},cs.all (JC id v)=true->Aq (Fc id v) cs (cs.map MN)
 | [],_=>trivial
 | c::l,h=>by
  rw[List.all_cons,Bool.and_eq_true] at h;exact⟨US h.1,UR h.2⟩
theorem Ok {id v:Nat}:∀{a:List AV},JD id v a=true->C6 (Fc id v) a (I4 a)
 | [],_=>trivial
 | .one c::l,h=>by
  unfold JD at h;rw[Bool.and_eq_true] at h;exact⟨US h.1,Ok h.2⟩
 | .agg cs::l,h=>by
  unfold JD at h;rw[Bool.and_eq_true] at h;exact⟨UR h.1,Ok h.2⟩
theorem iP {E:Env} {g:FuncId} {args:List AV} {r:AV} {bk:Nat->Option AG} {K:Nat->AV->Prop} {c d f i:Prop} (id v:Nat) (j:env Tryz.prog=E) (h:D7 Tryz.prog g (I4 args) (.var 0 [.int .i64 0]) r) (l:K id r) (k:bk id=some (.var v [.int .i64 0]):=by rfl) (m:JD id v args=true:=by rfl):
 c\/d\/f\/(∃(id:Nat) (b:AG) (a:List AV) (r:AV),(Unit->bk id=some b/\C6 (Fc id b.AK) args a)/\(Unit->E.D g a (b.Bz 0) r)/\K id r)\/i:= .inr (.inr (.inr (.inl ⟨id,.var v [.int .i64 0],I4 args,r,fun _=>⟨k,Ok m⟩,fun _=>FL j h,l⟩)))
theorem Bo {bk:Nat->Option AG} {t:T}:Dr bk .nil (.sl t []):= .inr (.inl ⟨_,rfl⟩)
theorem AI {P:Sort _} {C:Prop} {x:Int} (h:C) (a: -9223372036854775808<=x/\x<9223372036854775808:=by omega):(P->Db x)/\C:=⟨fun _=>a,h⟩
theorem AH {P:Sort _} {A C:Prop} (h:C) (a:A:=by omega):(P->A)/\C:=⟨fun _=>a,h⟩
theorem AD {A B C:Prop} (h:A) (a:B:=by rfl) (b:C:=by simp):(Unit->A/\B/\C)/\True:=⟨fun _=>⟨h,a,b⟩,trivial⟩
theorem Cc {x:Bool} {K:Bool->Prop} (k:K true) (h:x=true:=by decide):∀c,c=x->K c:=fun _ e=>by rw[e,h];exact k
theorem BK {x:Bool} {K:Bool->Prop} (k:K false) (h:x=false:=by decide):∀c,c=x->K c:=fun _ e=>by rw[e,h];exact k
theorem AM {f:FuncId} {fn:Func} (a:Tryz.prog.funcs[f]? =some fn) {args:List AV} {r:AV} (h:∀E,env Tryz.prog=E->KB E fn r none (CK fn.ntmps args none)) (b:FG fn=true:=by kernel_rfl) (c:(IH args&&(r.all Bp&&(r.wf&&Nat.ble args.length fn.ntmps)))=true:=by rfl):Eh Tryz.prog false f args r:=ZQ a b c h
end Go.Abs
