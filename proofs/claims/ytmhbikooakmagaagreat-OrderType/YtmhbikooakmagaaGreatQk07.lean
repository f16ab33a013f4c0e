/- Part 8 of a proof. Conditions: each theorem's own. -/
import Derived.Test.YtmhbikooakmagaaGreatProg
import Derived.Deep.Slices
import Derived.ProofKit
import Derived.Test.YtmhbikooakmagaaGreatQk06
set_option linter.all false
set_option maxHeartbeats 8000000
set_option maxRecDepth 20000
open Go.Proofs
namespace Go.Abs
open Go.RowKit
section
variable {P:Program} {TI:TypeId->Info}
theorem af:∀{c:AC},BS c=true->DT c=true
 |.int _ _,_|.bool _,_|.fn _,_|.nil,_|.AN _ 0 0 _ _,_=>rfl
 |.AN _ (_+1) _ _ _,h|.AN _ 0 (_+1) _ _,h|.BJ,h|.sl _ _,h|.CU _ _ _ _ _,h|.Ak _ _ _,h|.B8 _ _ _ _ _,h|.Cc _ _ _,h|.ub _,h|.own _ _ _,h=>by simp[BS] at h
theorem J9 {y:Cx} {lo:Nat} {bo:Option Nat}:∀{c:AC} {v:Value},BS c=true->CN y lo bo c v->Ah y c v
 |.int _ _,_,_,r|.bool _,_,_,r|.fn _,_,_,r|.nil,_,_,r|.AN _ _ _ _ _,_,_,r=>r
 |.BJ,_,h,_|.sl _ _,_,h,_|.CU _ _ _ _ _,_,h,_|.Ak _ _ _,_,h,_|.B8 _ _ _ _ _,_,h,_|.Cc _ _ _,_,h,_|.ub _,_,h,_|.own _ _ _,_,h,_=>by simp[BS] at h
theorem AR.J9 {y:Cx} {lo:Nat} {bo:Option Nat}:∀{cs:List AC} {vs:List Value},cs.all BS=true->AR (CN y lo bo) cs vs->AR (Ah y) cs vs
 | [],[],_,_=>trivial
 | _::_,_::_,e,r=>by simp only[List.all_cons,Bool.and_eq_true] at e;exact⟨Abs.J9 e.1 r.1,AR.J9 e.2 r.2⟩
 |[],_::_,_,r|_::_,[],_,r=>r.elim
theorem L7 {y:Cx} {lo:Nat} {bo:Option Nat} {r:AV} {v:Value} (h:r.all BS=true) (a:Eu y lo bo r v):Cz y r v:=by
 cases r with
 | one c=>exact a.imp (fun q=>q) (J9 h)
 | agg cs=>obtain⟨arr,e,a⟩:=a;exact⟨arr,e,AR.J9 h a⟩
 | AI _=>exact a.elim
theorem cd {y:Cx} {lo:Nat} {bo:Option Nat} {r:AV} {v:Value} (h:r.all BS=true) (d:FI y lo bo r v):BB y r v:=by
 cases r with
 |one c|agg cs=>exact L7 h d
 | AI xs=>
  obtain⟨arr,e,d⟩:=d;refine⟨arr,e,?_⟩
  have key:∀(xs:List (Bool×List AC)) (us:List Value),(xs.all fun x=>x.2.all BS)=true->AR (fun z q=>Eu y lo bo (Ca z) q) xs us->AR (fun z q=>Cz y (Ca z) q) xs us:=by
   intro xs
   induction xs with
   | nil=>intro us _ a;cases us <;> first | trivial | exact a.elim
   | cons z xs f=>
    intro us b a;cases us with
    | nil=>exact a.elim
    | cons q us=>
     simp only[List.all_cons,Bool.and_eq_true] at b;refine⟨?_,f us b.2 a.2⟩;obtain⟨g,cs⟩:=z;have h3:=a.1;cases g with
     | true=>exact L7 (r:= .agg cs) b.1 h3
     | false=>
      cases cs with
      | nil=>exact Or.inl rfl
      | cons c cs=>
       simp only[List.all_cons,Bool.and_eq_true] at b;exact L7 (r:= .one c) b.1.1 h3
  exact key xs arr.toList h d
theorem ck {w0:World} {X:WX} {β:Nat->Option Nat} {s:St} {a:Act} {w:World} {J:Nat->Prop} {lo:Nat} {bo:Option Nat} (S:Av w0 X β s a w) (m:AO (AF s.bk) 0=0) (i:β 0=X.ob) {c d:AC} {v:Value} (g:BS d=true) (h:DJ (AF s.bk) c d)
  (r:Ah (cx X w β (AF s.bk)) c v):CN (BV w X.ob J) lo bo d v:=by
 cases c with
 | AN t id j off len=>
  rcases h with⟨l,o,p,rfl⟩ |⟨l,n,_,_,_,_,_,rfl⟩ |⟨rfl,rfl,rfl⟩
  ·simp[BS] at g
  ·simp[BS] at g
  refine⟨⟨r.1.1,Nat.le_refl _⟩,fun _=>?_⟩;have:=r.2 m.symm
  show FH w X.ob _ _ _ _ _
  rw[<-i];exact this
 | nil=>
  rcases h with rfl |⟨t,rfl⟩ |⟨t,rfl⟩
  ·exact r
  ·simp[BS] at g
  simp[BS] at g
 |int k n|bool b|fn f=>rw[show d=_ from h];exact r
 | sl t l=>rw[show d=_ from h] at g;simp[BS] at g
 | _=>exact h.elim
theorem Ue {w0:World} {X:WX} {β:Nat->Option Nat} {s:St} {a:Act} {w:World} {J:Nat->Prop} {lo:Nat} {bo:Option Nat} (S:Av w0 X β s a w) (g:AO (AF s.bk) 0=0) (b:β 0=X.ob):∀{cs c:List AC} {vs:List Value},c.all BS=true->Aj (DJ (AF s.bk)) cs c->
  AR (Ah (cx X w β (AF s.bk))) cs vs->AR (CN (BV w X.ob J) lo bo) c vs
 | [],[],[],_,_,_=>trivial
 | _::_,_::_,_::_,d,h3,f=>by
  simp only[List.all_cons,Bool.and_eq_true] at d;exact⟨ck S g b d.1 h3.1 f.1,Ue S g b d.2 h3.2 f.2⟩
 |[],[],_::_,_,_,h|_::_,_::_,[],_,_,h|[],_::_,_,_,h,_|_::_,[],_,_,h,_=>h.elim
theorem N7 {x y:Cx} (h:∀b,x.I b->y.I b/\y.w.heap[b]? =x.w.heap[b]?) (hw:y.w=x.w) (d:x.cv 0=0) (f:y.cv 0=0) (a:y.β 0=x.β 0):∀{c:AC} {v:Value},DT c=true->Ah x c v->Ah y c v
 | .AN t i v off len,_,e,r=>by
  match i,v,e,r with
  | 0,0,_,r=>exact⟨⟨r.1.1,Nat.zero_le _⟩,fun _=>by rw[hw,a];exact r.2 d.symm⟩
  |0,_+1,h,_|_+1,_,h,_=>simp[DT,Ao] at h
 | .Ak i v off,_,e,r=>by
  match i,v,e,r with
  | 0,0,_,r=>exact⟨⟨r.1.1,Nat.zero_le _⟩,fun _=>by rw[a];exact r.2 d.symm⟩
  |0,_+1,h,_|_+1,_,h,_=>simp[DT,Ao] at h
 |.BJ,_,_,r|.int _ _,_,_,r|.bool _,_,_,r|.fn _,_,_,r|.nil,_,_,r=>r
 | .sl _ _,_,_,r=>B3 h _ _ _ r
 |.CU _ _ _ _ _,_,e,_|.B8 _ _ _ _ _,_,e,_|.Cc _ _ _,_,e,_|.ub _,_,e,_|.own _ _ _,_,e,_=>by simp[DT,Ao] at e
theorem Lh {x y:Cx} (h:∀b,x.I b->y.I b/\y.w.heap[b]? =x.w.heap[b]?) (hw:y.w=x.w) (a:y.β 0=x.β 0):∀{b:AK},b.lone=true->B5 x 0 b->B5 y 0 b
 | .dead _,_,_=>trivial
 | .var _ cs,e,⟨b,arr,ty,c,d,h3⟩=>⟨b,arr,ty,a.trans c,by rw[hw];exact d,AR.pure h (by simp only[AK.lone,Bool.and_eq_true] at e;exact e.2) h3⟩
 | .arr _ t l,_,r=>r.imp (fun q=>⟨a.trans q.1,q.2⟩) fun⟨b,arr,ty,c,d,h3⟩=>⟨b,arr,ty,a.trans c,by rw[hw];exact d,fun i y' f=>by
  obtain⟨us,g,j⟩:=h3 i y' f;exact⟨us,B3 h _ _ _ g,by rw[hw];exact j⟩⟩
theorem Ud {bk:Nat->Option AK}:∀{l m:List (Bool×List AC)},Gg bk l m->Aj (DJ bk) (l.flatMap (·.2)) (m.flatMap (·.2)):=by
 have app:∀{l m l' m':List AC},Aj (DJ bk) l m->Aj (DJ bk) l' m'->Aj (DJ bk) (l++l') (m++m'):=by
  intro l
  induction l with
  | nil=>intro m l' m' h h';cases m <;> first | exact h' | exact h.elim
  | cons x l a=>intro m l' m' h h';cases m with
   | nil=>exact h.elim
   | cons y m=>exact⟨h.1,a h.2 h'⟩
 intro l
 induction l with
 | nil=>intro m h;cases m <;> first | trivial | exact h.elim
 | cons x l a=>intro m h;cases m with
  | nil=>exact h.elim
  | cons y m=>rw[List.flatMap_cons,List.flatMap_cons];exact app h.1.2 (a h.2)
theorem Rh {r:AV} {p:AC->Bool} (h:r.all p=true):(r.DQ.flatMap (·.2)).all p=true:=by
 cases r with
 |one c|agg cs=>simpa [AV.DQ,AV.comp,AV.all] using h
 | AI xs=>simp only[AV.DQ,List.all_flatMap];exact h
theorem YN {p q:AC->Bool} (h:∀c,p c=true->q c=true) {r:AV} (a:r.all p=true):r.all q=true:=by
 have l:∀{cs:List AC},cs.all p=true->cs.all q=true:=fun {cs} d=>by rw[List.all_eq_true] at d ⊢;exact fun x b=>h x (d x b)
 cases r with
 | one c=>exact h c a
 | agg cs=>exact l a
 | AI xs=>simp only[AV.all] at a ⊢;rw[List.all_eq_true] at a ⊢;exact fun x b=>l (a x b)
theorem Qz {f:FuncId} {n:Nat} {c:Code} {rs:List ResultVar} (F:Fn P TI f n c rs) {s:AC} {g b1:AK} {args:List AV} {r:AV} (hp:HB args=true) (N:r.all BS=true) (m:DT s=true/\g.lone=true/\b1.lone=true) (hn:args.length<n)
  (h:CH (env P) TI n c (post TI rs r (some b1)) (CL n (.one s::args) (some g))):FF P f s g args r b1:=by
 obtain⟨fn,Y,p,hb,L,O⟩:=F.get;refine⟨⟨fn,c,Y,p,hb⟩,⟨YN (fun _=>af) N,m⟩,fun w I ob v0 vs W H G Q l=>?_⟩;refine calls_of_wp Y hb ?_;obtain⟨n',rfl⟩:∃n',n=n'+1:=⟨n-1,by omega⟩
 have t:g.AO=0:=by have:=m.2.1;cases g <;> simp_all [AK.lone,AK.AO]
 have D:b1.AO=0:=by have:=m.2.2;cases b1 <;> simp_all [AK.lone,AK.AO]
 have C:b1.live=true:=by have:=m.2.2;cases b1 <;> simp_all [AK.lone,AK.live]
 have j:∀b,I b->(cx ⟨fun b=>ob=some b,fun b=>I b\/w.heap.size<=b,ob⟩ w (β0 ob) (AF (CL (n'+1) (.one s::args) (some g)).bk)).I b/\w.heap[b]? =w.heap[b]? :=fun b hb=>
  ⟨⟨⟨(W b hb).1,fun id _ e=>by
   unfold β0 at e
   split at e
   ·exact (W b hb).2 e
   cases e⟩,.inl hb⟩,rfl⟩
 have A:AO (AF (CL (n'+1) (.one s::args) (some g)).bk) 0=0:=t
 have Z:Av w ⟨fun b=>ob=some b,fun b=>I b\/w.heap.size<=b,ob⟩ (β0 ob) (CL (n'+1) (.one s::args) (some g)) {tmps:=(v0::vs).toArray++Array.replicate (n'+1-(v0::vs).toArray.size) undef,defers:=[]} w:=
  Av.start (X:=⟨fun b=>ob=some b,fun b=>I b\/w.heap.size<=b,ob⟩) (by simp;omega) (fun _ e=>e) (fun b hb=> .inr hb) (fun b e=>by cases e;exact⟨t,Q,by omega⟩)
   ⟨.inr (N7 (x:=BV w ob I) j rfl rfl A rfl m.1 H),L4 (x:=CR w I) j hp l⟩
   (fun b e=>by cases e;exact Lh (x:=BV w ob I) j rfl rfl m.2.1 G)
 rw[L];refine wp_mono (EG F.mixed (fun o ho=>O8 F.ty o ho) F.dst (by simp[CL,FV];omega) Z h) fun e U w' he=>?_
 obtain⟨x,s',β',rfl,a,_,S⟩:=he
 have fin:post TI rs r (some b1) x s'->(∀i,x≠ .exit i)->U.defers=[]/\∃v,(results fn U.tmps).run P w'= .ok v w'/\∃u,Ending.returned v= .returned u/\
   (w'.os=w.os/\w'.tape=w.tape/\w'.output=w.output/\w.heap.size<=w'.heap.size/\∀k,k<w.heap.size->ob≠some k->w'.heap[k]? =w.heap[k]?)/\
   (∀(b:Nat) arr e,ob=some b->w.heap[b]? =some (.cells arr e (0,0))->∃d,w'.heap[b]? =some (.cells d e (0,0))/\d.size=arr.size)/\
   BB (BV w' ob fun k=>(I k\/w.heap.size<=k)/\k<w'.heap.size/\ob≠some k) r u/\
   B5 (BV w' ob fun k=>(I k\/w.heap.size<=k)/\k<w'.heap.size/\ob≠some k) 0 b1/\b1.short:=by
  intro a hx;refine⟨S.defers,?_⟩
  have M:∃xs,Gh TI s' rs=some xs/\(Gg (AF s'.bk) xs r.DQ/\Lx xs r.DQ=true/\(rs.length=1↔∀ys,r≠ .AI ys))/\AF s'.bk 0=some b1:=by
   unfold post at a
   split at a
   ·exact absurd rfl (hx _)
   split at a
   ·rename_i xs T
    exact⟨xs,T,a.1 (),a.2 ()⟩
   exact a.elim
  obtain⟨xs,h1,⟨V,h3,h4⟩,B⟩:=M;obtain⟨us,ws,k1,k2,k3⟩:=MC F.ty S h1 V;have z:AO (AF s'.bk) 0=0:=by rw[DW B];exact D
  have y:live (AF s'.bk) 0:=⟨_,B,C⟩;obtain⟨q,R⟩:=S.IN y z
  have hJ:∀b,(cx ⟨fun b=>ob=some b,fun b=>I b\/w.heap.size<=b,ob⟩ w' β' (AF s'.bk)).I b->(BV w' ob fun k=>(I k\/w.heap.size<=k)/\k<w'.heap.size/\ob≠some k).I b/\w'.heap[b]? =w'.heap[b]? :=
   fun b hb=>⟨⟨hb.2,hb.1.1,fun e=>hb.1.2 0 y (q.trans e)⟩,rfl⟩
  have g1:=Ue (J:=fun k=>(I k\/w.heap.size<=k)/\k<w'.heap.size/\ob≠some k) (lo:=0) (bo:=none) S z q (Rh N) (Ud V) k2;have hlen:us.length=rs.length:=k1.length.symm;refine⟨Gb us,Ot (by rw[O];exact k1),Gb us,rfl,⟨S.os,S.tape,S.output,S.size,fun b hb K=>S.block b hb K⟩,R,cd N (NQ (by rw[hlen];exact h4) (k3 _ _ _ g1)),?_,S.lens 0 _ B⟩;exact Lh hJ rfl q.symm m.2.2 (S.blocks 0 b1 B)
 cases x with
 |CJ|ret=>exact fin a (by simp)
 | exit i=>exact a.elim
theorem cn {w0:World} {X:WX} {β:Nat->Option Nat} {s:St} {a:Act} {w:World} {I:Nat->Prop} (S:Av w0 X β s a w) (M:∀b,X.A b->I b\/w0.heap.size<=b) (j:live (AF s.bk) 0) (o:β 0=X.ob) {c d:AC} {v:Value} (O:He c=true) (C:Ao d=true)
  (h:DJ (AF s.bk) c d) (r:Ah (cx X w β (AF s.bk)) c v) {lo:Nat} {bo:Option Nat}:CN (BV w X.ob fun k=>(I k\/w0.heap.size<=k)/\k<w.heap.size/\X.ob≠some k) lo bo d v:=by
 have J:∀b,(cx X w β (AF s.bk)).I b->((I b\/w0.heap.size<=b)/\b<w.heap.size/\X.ob≠some b)/\w.heap[b]? =w.heap[b]? :=fun b hb=>⟨⟨M b hb.2,hb.1.1,fun e=>hb.1.2 0 j (o.trans e)⟩,rfl⟩
 cases c with
 | AN t id u off len=>
  rcases h with⟨l,x,V,rfl⟩ |⟨l,n,_,_,_,_,_,rfl⟩ |⟨rfl,rfl,rfl⟩
  ·have g:id≠0:=fun e=>by subst e;simp[He] at O
   have Q:u=AO (AF s.bk) id:=by rw[DW x];rfl
   obtain⟨base,cap,e,g1,g2,_,H⟩:=r.2 Q;have hlen:((l.drop off).take len).length=len:=by simp;omega
   have z:l.length<=140737488355328:=S.lens id _ x;refine⟨base,cap,by rw[hlen,e],by rw[hlen];exact g1,by rw[hlen];omega,?_⟩;rcases H with H |⟨b,arr,e',k1,k2,W,Y⟩
   ·left;exact List.eq_nil_of_length_eq_zero (by rw[hlen];omega)
   rcases S.blocks id _ x with⟨p,K⟩ |⟨b',G,L,p,K,U⟩
   ·exact absurd (p.symm.trans k1) (by simp)
   obtain rfl:b'=b:=Option.some.inj (p.symm.trans k1);have m:live (AF s.bk) id:=⟨_,x,rfl⟩
   have D:b'<w.heap.size:=by
    rcases Nat.lt_or_ge b' w.heap.size with h' | h'
    ·exact h'
    have F:w.heap[b']? =_:=K;simp[Array.getElem?_eq_none h'] at F
   refine .inr ⟨b',_,k2,⟨.inr ((S.own id b' m p).resolve_right (fun q=>g q.2)),D,fun e=>g (S.inj id 0 b' m j p (o.trans e))⟩,fun i y B=>?_⟩
   have N:l[off+i]? =some y:=by
    rw[List.getElem?_take] at B
    split at B
    ·simpa using B
    cases B
   obtain⟨us,R,T⟩:=U (off+i) y N;exact⟨us,B3 (w':=w) J _ _ _ R,by rw[show off*t.size+i*t.size=(off+i)*t.size by rw[Nat.add_mul]];exact T⟩
  ·simp[Ao] at C
  simp[Ao] at C
 | nil=>
  rcases h with rfl |⟨t,rfl⟩ |⟨t,rfl⟩
  ·exact r
  ·exact⟨none,0,by rw[show v=_ from r];rfl,Nat.le_refl _,by simp,.inl rfl⟩
  simp[Ao] at C
 |int k n|bool b|fn f=>rw[show d=_ from h];exact r
 | sl t l=>rw[show d=_ from h];exact B3 (w':=w) J _ _ _ r
 | _=>exact h.elim
theorem Ug {w0:World} {X:WX} {β:Nat->Option Nat} {s:St} {a:Act} {w:World} {I:Nat->Prop} (S:Av w0 X β s a w) (l:∀b,X.A b->I b\/w0.heap.size<=b) (c:live (AF s.bk) 0) (d:β 0=X.ob) {lo:Nat} {bo:Option Nat}:
  ∀{cs f:List AC} {vs:List Value},cs.all He=true->f.all Ao=true->Aj (DJ (AF s.bk)) cs f->AR (Ah (cx X w β (AF s.bk))) cs vs->AR (CN (BV w X.ob fun k=>(I k\/w0.heap.size<=k)/\k<w.heap.size/\X.ob≠some k) lo bo) f vs
 | [],[],[],_,_,_,_=>trivial
 | _::_,_::_,_::_,g,i,h3,j=>by
  simp only[List.all_cons,Bool.and_eq_true] at g i;exact⟨cn S l c d g.1 i.1 h3.1 j.1,Ug S l c d g.2 i.2 h3.2 j.2⟩
 |[],[],_::_,_,_,_,h|_::_,_::_,[],_,_,_,h|[],_::_,_,_,_,h,_|_::_,[],_,_,_,h,_=>h.elim
theorem KA {y:Cx} {lo:Nat} {bo:Option Nat}:∀{c:AC} {v:Value},Ao c=true->CN y lo bo c v->Ah y c v
 |.int _ _,_,_,r|.bool _,_,_,r|.fn _,_,_,r|.nil,_,_,r|.BJ,_,_,r|.sl _ _,_,_,r=>r
 |.AN _ _ _ _ _,_,h,_|.CU _ _ _ _ _,_,h,_|.Ak _ _ _,_,h,_|.B8 _ _ _ _ _,_,h,_|.Cc _ _ _,_,h,_|.ub _,_,h,_|.own _ _ _,_,h,_=>by simp[Ao] at h
theorem AR.KA {y:Cx} {lo:Nat} {bo:Option Nat}:∀{cs:List AC} {vs:List Value},cs.all Ao=true->AR (CN y lo bo) cs vs->AR (Ah y) cs vs
 | [],[],_,_=>trivial
 | _::_,_::_,e,r=>by simp only[List.all_cons,Bool.and_eq_true] at e;exact⟨Abs.KA e.1 r.1,AR.KA e.2 r.2⟩
 |[],_::_,_,r|_::_,[],_,r=>r.elim
theorem L8 {y:Cx} {lo:Nat} {bo:Option Nat} {r:AV} {v:Value} (h:r.all Ao=true) (a:Eu y lo bo r v):Cz y r v:=by
 cases r with
 | one c=>exact a.imp (fun q=>q) (KA h)
 | agg cs=>obtain⟨arr,e,a⟩:=a;exact⟨arr,e,AR.KA h a⟩
 | AI _=>exact a.elim
theorem cg {y:Cx} {lo:Nat} {bo:Option Nat} {r:AV} {v:Value} (h:r.all Ao=true) (d:FI y lo bo r v):BB y r v:=by
 cases r with
 |one c|agg cs=>exact L8 h d
 | AI xs=>
  obtain⟨arr,e,d⟩:=d;refine⟨arr,e,?_⟩
  have key:∀(xs:List (Bool×List AC)) (us:List Value),(xs.all fun x=>x.2.all Ao)=true->AR (fun z q=>Eu y lo bo (Ca z) q) xs us->AR (fun z q=>Cz y (Ca z) q) xs us:=by
   intro xs
   induction xs with
   | nil=>intro us _ a;cases us <;> first | trivial | exact a.elim
   | cons z xs f=>
    intro us b a;cases us with
    | nil=>exact a.elim
    | cons q us=>
     simp only[List.all_cons,Bool.and_eq_true] at b;refine⟨?_,f us b.2 a.2⟩;obtain⟨g,cs⟩:=z;have h3:=a.1;cases g with
     | true=>exact L8 (r:= .agg cs) b.1 h3
     | false=>
      cases cs with
      | nil=>exact Or.inl rfl
      | cons c cs=>
       simp only[List.all_cons,Bool.and_eq_true] at b;exact L8 (r:= .one c) b.1.1 h3
  exact key xs arr.toList h d
def G0 (args:List AV):Bool:=args.all fun c=>match c with | .AI _=>false | c=>c.all DT
theorem N6 {x y:Cx} (h:∀b,x.I b->y.I b/\y.w.heap[b]? =x.w.heap[b]?) (hw:y.w=x.w) (d:x.cv 0=0) (f:y.cv 0=0) (a:y.β 0=x.β 0):∀{l:List AV} {vs:List Value},G0 l=true->AR (BB x) l vs->AR (BB y) l vs
 | [],[],_,_=>trivial
 | .one c::l,_::_,e,r=>by
  have e':(DT c&&G0 l)=true:=e;simp only[Bool.and_eq_true] at e';exact⟨r.1.imp (fun q=>q) (N7 h hw d f a e'.1),N6 h hw d f a e'.2 r.2⟩
 | .agg c::l,_::_,e,r=>by
  have e':(c.all DT&&G0 l)=true:=e;simp only[Bool.and_eq_true] at e';obtain⟨arr,g,i⟩:=r.1;refine⟨⟨arr,g,?_⟩,N6 h hw d f a e'.2 r.2⟩;exact all e'.1 i
 | .AI _::_,_::_,e,_=>by simp[G0] at e
 |[],_::_,_,r|_::_,[],_,r=>r.elim
where
 all:∀{cs:List AC} {vs:List Value},cs.all DT=true->AR (Ah x) cs vs->AR (Ah y) cs vs
  | [],[],_,_=>trivial
  | _::_,_::_,e,r=>by simp only[List.all_cons,Bool.and_eq_true] at e;exact⟨N7 h hw d f a e.1 r.1,all e.2 r.2⟩
  |[],_::_,_,r|_::_,[],_,r=>r.elim
theorem bQ:∀{xs:List (Bool×List AC)},(xs.all fun x=>x.2.all He)=true->(xs.flatMap (·.2)).all He=true:=fun {xs} h=>by
 rw[List.all_flatMap];exact h
theorem Rk {f:FuncId} {n:Nat} {c:Code} {rs:List ResultVar} (F:Fn P TI f n c rs) {a:AK} {args:List AV} {r:AV} (hp:G0 args=true) (H:r.all Ao=true) (B:a.lone=true) (Z:args.length<=n) (a1:0<n)
  (h:CH (env P) TI n c (J4 TI rs r a) (CL n args (some a))):Cy P f args a r:=by
 obtain⟨fn,T,p,hb,D,J⟩:=F.get;refine⟨⟨fn,c,T,p,hb⟩,⟨H,B⟩,fun w I ob vs R A K l=>?_⟩;refine calls_of_wp T hb ?_;obtain⟨n',rfl⟩:∃n',n=n'+1:=⟨n-1,by omega⟩
 have j:a.AO=0:=by cases a <;> simp_all [AK.lone,AK.AO]
 have y:a.live=true:=by cases a <;> simp_all [AK.lone,AK.live]
 have s:∀b,I b->(cx ⟨fun b=>ob=some b,fun b=>I b\/w.heap.size<=b,ob⟩ w (β0 ob) (AF (CL (n'+1) args (some a)).bk)).I b/\w.heap[b]? =w.heap[b]? :=fun b hb=>
  ⟨⟨⟨(R b hb).1,fun id _ e=>by
   unfold β0 at e
   split at e
   ·exact (R b hb).2 e
   cases e⟩,.inl hb⟩,rfl⟩
 have t:AO (AF (CL (n'+1) args (some a)).bk) 0=0:=j
 have U:Av w ⟨fun b=>ob=some b,fun b=>I b\/w.heap.size<=b,ob⟩ (β0 ob) (CL (n'+1) args (some a)) {tmps:=vs.toArray++Array.replicate (n'+1-vs.toArray.size) undef,defers:=[]} w:=
  Av.start (X:=⟨fun b=>ob=some b,fun b=>I b\/w.heap.size<=b,ob⟩) Z (fun _ e=>e) (fun b hb=> .inr hb) (fun b e=>by cases e;exact⟨j,K,by omega⟩)
   (N6 (x:=BV w ob I) s rfl rfl t rfl hp l)
   (fun b e=>by cases e;exact Lh (x:=BV w ob I) s rfl rfl B A)
 rw[D];refine wp_mono (EG F.mixed (fun o ho=>O8 F.ty o ho) F.dst (by simp[CL,FV];omega) U h) fun e O w' he=>?_
 obtain⟨x,s',β',rfl,g,_,S⟩:=he
 have fin:J4 TI rs r a x s'->(∀i,x≠ .exit i)->O.defers=[]/\∃v,(results fn O.tmps).run P w'= .ok v w'/\∃u,Ending.returned v= .returned u/\
   (w'.os=w.os/\w'.tape=w.tape/\w'.output=w.output/\w.heap.size<=w'.heap.size/\∀k,k<w.heap.size->ob≠some k->w'.heap[k]? =w.heap[k]?)/\
   (∀(b:Nat) arr e,ob=some b->w.heap[b]? =some (.cells arr e (0,0))->∃d,w'.heap[b]? =some (.cells d e (0,0))/\d.size=arr.size)/\
   BB (BV w' ob fun k=>(I k\/w.heap.size<=k)/\k<w'.heap.size/\ob≠some k) r u/\
   B5 (BV w' ob fun k=>(I k\/w.heap.size<=k)/\k<w'.heap.size/\ob≠some k) 0 a:=by
  intro g hx;refine⟨S.defers,?_⟩
  have G:∃xs,Gh TI s' rs=some xs/\(Gg (AF s'.bk) xs r.DQ/\(xs.all fun x=>x.2.all He)=true/\(rs.length=1↔∀ys,r≠ .AI ys))/\AF s'.bk 0=some a:=by
   unfold J4 at g
   split at g
   ·exact absurd rfl (hx _)
   split at g
   ·rename_i xs N
    exact⟨xs,N,g ()⟩
   exact g.elim
  obtain⟨xs,V,⟨Q,h3,W⟩,z⟩:=G;obtain⟨us,ws,k1,k2,k3⟩:=MC F.ty S V Q;have M:AO (AF s'.bk) 0=0:=by rw[DW z];exact j
  have m:live (AF s'.bk) 0:=⟨_,z,y⟩;obtain⟨q,L⟩:=S.IN m M
  have Y:∀b,(cx ⟨fun b=>ob=some b,fun b=>I b\/w.heap.size<=b,ob⟩ w' β' (AF s'.bk)).I b->(BV w' ob fun k=>(I k\/w.heap.size<=k)/\k<w'.heap.size/\ob≠some k).I b/\w'.heap[b]? =w'.heap[b]? :=
   fun b hb=>⟨⟨hb.2,hb.1.1,fun e=>hb.1.2 0 m (q.trans e)⟩,rfl⟩
  have g1:=Ug (I:=I) (lo:=0) (bo:=none) S (fun b hb=>hb) m q (bQ h3) (Rh H) (Ud Q) k2;have hlen:us.length=rs.length:=k1.length.symm;refine⟨Gb us,Ot (by rw[J];exact k1),Gb us,rfl,⟨S.os,S.tape,S.output,S.size,fun b hb C=>S.block b hb C⟩,L,cg H (NQ (by rw[hlen];exact W) (k3 _ _ _ g1)),?_⟩;exact Lh Y rfl q.symm B (S.blocks 0 a z)
 cases x with
 |CJ|ret=>exact fin g (by simp)
 | exit i=>exact g.elim
def Fy:AC->Bool
 |.int _ _|.bool _|.fn _|.nil=>true
 | .own t _ _=>t.flat
 | _=>false
theorem Zj {w:World} {I a:Nat->Prop} {lo:Nat} {bo:Option Nat}:∀{c:AC} {v:Value},Fy c=true->CN (CR w I) lo bo c v->CN (CR w a) lo bo c v
 |.int _ _,_,_,r|.bool _,_,_,r|.fn _,_,_,r|.nil,_,_,r=>r
 | .own t l n,_,h,⟨j,base,cap,e,d,f,h3,g⟩=>⟨j,base,cap,e,d,f,h3,g.imp (fun q=>q) fun⟨b,arr,ty,k1,k2,m,o,p,s⟩=>⟨b,arr,ty,k1,k2,m,o,p,fun i y k=>by
  obtain⟨us,u,x⟩:=s i y k;exact⟨us,KC (I:=I) (w:=w) t y us h u,x⟩⟩⟩
 |.BJ,_,h,_|.sl _ _,_,h,_|.AN _ _ _ _ _,_,h,_|.CU _ _ _ _ _,_,h,_|.Ak _ _ _,_,h,_|.B8 _ _ _ _ _,_,h,_|.Cc _ _ _,_,h,_|.ub _,_,h,_=>by simp[Fy] at h
def G8:AC->AC
 | .own t l _=> .sl t l
 | c=>c
def Od:AV->AV
 | .one c=> .one (G8 c)
 | .agg cs=> .agg (cs.map G8)
 | .AI xs=> .AI (xs.map fun x=>(x.1,x.2.map G8))
theorem TF {x y:Cx} {lo Jr:Nat} {bo JT:Option Nat} {p:AC->Bool} {g:AC->AC} (n:g .BJ= .BJ) (h:∀c v,p c=true->CN x lo bo c v->CN y Jr JT (g c) v) {r:AV} {v:Value} (k:r.all p=true) (b:FI x lo bo r v):
  FI y Jr JT (match r with | .one c=> .one (g c) | .agg cs=> .agg (cs.map g) | .AI xs=> .AI (xs.map fun x=>(x.1,x.2.map g))) v:=by
 have l:∀{cs:List AC} {vs:List Value},cs.all p=true->AR (CN x lo bo) cs vs->AR (CN y Jr JT) (cs.map g) vs:=by
  intro cs
  induction cs with
  | nil=>intro vs _ h;cases vs <;> first | trivial | exact h.elim
  | cons c cs m=>intro vs j a;cases vs with
   | nil=>exact a.elim
   | cons u us=>
    simp only[List.all_cons,Bool.and_eq_true] at j;exact⟨h _ _ j.1 a.1,m j.2 a.2⟩
 cases r with
 | one c=>
  rcases b with rfl | b
  ·exact .inl n
  exact .inr (h _ _ k b)
 | agg cs=>obtain⟨arr,e,b⟩:=b;exact⟨arr,e,l k b⟩
 | AI xs=>
  obtain⟨arr,e,b⟩:=b;refine⟨arr,e,?_⟩
  have key:∀(xs:List (Bool×List AC)) (us:List Value),(xs.all fun x=>x.2.all p)=true->AR (fun z q=>Eu x lo bo (Ca z) q) xs us->AR (fun z q=>Eu y Jr JT (Ca z) q) (xs.map fun x=>(x.1,x.2.map g)) us:=by
   intro xs
   induction xs with
   | nil=>intro us _ a;cases us <;> first | trivial | exact a.elim
   | cons z xs m=>
    intro us f a;cases us with
    | nil=>exact a.elim
    | cons q us=>
     simp only[List.all_cons,Bool.and_eq_true] at f;refine⟨?_,m us f.2 a.2⟩;obtain⟨t,cs⟩:=z;have h3:=a.1;cases t with
     | true=>obtain⟨d,e',h3⟩:=h3;exact⟨d,e',l f.1 h3⟩
     | false=>
      cases cs with
      | nil=>exact Or.inl rfl
      | cons c cs=>
       simp only[List.all_cons,Bool.and_eq_true] at f;rcases h3 with i | h3
       ·have i:c= .BJ:=i;subst i;exact .inl n
       exact .inr (h _ _ f.1.1 h3)
  exact key xs arr.toList k b
theorem JK {f:FuncId} {args:List AV} {r:AV} (j:r.all Fy=true) (h:EN P false f args r):EN P true f args r:=by
 refine⟨h.1,h.2.1,fun w I vs d a=>(h.2.2 w I vs d a).mono fun e w' ⟨u,bo,he,hb,hu⟩=>⟨u,bo,he,hb,?_⟩⟩;have:=TF (g:=fun c=>c) (y:=CR w' fun b=>((true=false/\I b)\/w.heap.size<=b)/\b<w'.heap.size/\bo≠some b) rfl (fun c v i=>Zj i) j hu;cases r <;> simpa using this
theorem cE {w:World} {J:Nat->Prop} {lo:Nat} {bo:Option Nat}:∀{c:AC} {v:Value},Be c=true->CN (CR w fun b=>(J b\/lo<=b)/\b<w.heap.size/\bo≠some b) lo bo c v->CN (CR w fun b=>(J b\/lo<=b)/\b<w.heap.size/\(none:Option Nat)≠some b) lo none (G8 c) v
 | .own t l n,v,_,⟨x,base,cap,e,f,u,h3,g⟩=>by
  refine⟨base,cap,by rw[e],f,h3,?_⟩;rcases g with⟨_,q,_⟩ |⟨b,arr,ty,k1,k2,k,m,z,o⟩
  ·exact .inl q
  have a:b<w.heap.size:=by
   rcases Nat.lt_or_ge b w.heap.size with h' | h'
   ·exact h'
   have d:w.heap[b]? =_:=m;simp[Array.getElem?_eq_none h'] at d
  refine .inr ⟨b,0,k,⟨.inr k2,a,by simp⟩,fun i y j=>?_⟩;obtain⟨us,p,s⟩:=o i y j;exact⟨us,B3 (w':=w) (fun b hb=>⟨⟨hb.1,hb.2.1,by simp⟩,rfl⟩) _ _ _ p,by rw[Nat.zero_add];exact s⟩
 |.int _ _,_,_,r|.bool _,_,_,r|.fn _,_,_,r|.nil,_,_,r|.BJ,_,_,r=>r
 | .sl _ _,_,_,r=>B3 (w':=w) (fun b hb=>⟨⟨hb.1,hb.2.1,by simp⟩,rfl⟩) _ _ _ r
 |.AN _ _ _ _ _,_,h,_|.CU _ _ _ _ _,_,h,_|.Ak _ _ _,_,h,_|.B8 _ _ _ _ _,_,h,_|.Cc _ _ _,_,h,_|.ub _,_,h,_=>by simp[Be,Ao] at h
theorem CP {k:Bool} {f:FuncId} {args:List AV} {r:AV} (h:EN P k f args r):EN P k f args (Od r):=by
 have d:∀c,Be c=true->Be (G8 c)=true:=fun c d=>by cases c <;> simp_all [G8,Be,Ao]
 have i:∀{cs:List AC},cs.all Be=true->(cs.map G8).all Be=true:=fun {cs} h=>by
  rw[List.all_eq_true] at h ⊢;intro x j;obtain⟨y,m,rfl⟩:=List.mem_map.1 j;exact d y (h y m)
 refine⟨h.1,⟨?_,?_⟩,fun w I vs l a=>(h.2.2 w I vs l a).mono fun e w' ⟨u,bo,he,hb,hu⟩=>⟨u,none,he,hb,?_⟩⟩
 ·have:=h.2.1.1;cases r with
  | one c=>exact d c this
  | agg cs=>exact i this
  | AI xs=>
   simp only[Od,AV.all,List.all_map] at this ⊢;rw[List.all_eq_true] at this ⊢;exact fun x j=>i (this x j)
 ·have:=h.2.1.2;cases r with
  |one c|agg cs=>rfl
  | AI xs=>
   simp only[Od,AV.wf,List.all_map] at this ⊢;rw[List.all_eq_true] at this ⊢;exact fun x j=>by simpa using this x j
 have:=TF (g:=G8) (JT:=none) (Jr:=w.heap.size) (y:=CR w' fun b=>((k=false/\I b)\/w.heap.size<=b)/\b<w'.heap.size/\(none:Option Nat)≠some b) rfl (fun c v d=>cE (J:=fun b=>k=false/\I b) d) h.2.1.1 hu;cases r <;> exact this
end
def zC:AC->Value->Bool
 | .int k n,.int k' n'=>k==k'&&n==n'
 | .bool b,.bool b'=>b==b'
 |.nil,.slice none 0 0|.sl _ [],.slice none 0 0=>true
 | _,_=>false
def Ht:List AC->List Value->Bool
 | [],[]=>true
 | c::cs,v::vs=>zC c v&&Ht cs vs
 | _,_=>false
theorem fT {c:AC} {v:Value} (h:zC c v=true) (x:Cx):Ah x c v:=by
 unfold zC at h
 split at h
 ·simp only[Bool.and_eq_true,beq_iff_eq] at h;obtain⟨rfl,rfl⟩:=h
  rfl
 ·simp only[beq_iff_eq] at h;subst h
  rfl
 ·rfl
 ·exact⟨none,0,rfl,Nat.le_refl _,by simp,.inl rfl⟩
 cases h
theorem PW:∀{cs:List AC} {vs:List Value},Ht cs vs=true->∀x,AR (Ah x) cs vs
 | [],[],_,_=>trivial
 | _::_,_::_,h,x=>by simp only[Ht,Bool.and_eq_true] at h;exact⟨fT h.1 x,PW h.2 x⟩
 |[],_::_,h,_|_::_,[],h,_=>by simp[Ht] at h
def RV (P:Program) (t:TypeId) (i:Info):Bool:=
 match P.info? t with
 | some ti=>match P.underlying t with
  | some d=>match ti.zero with
   | some z=>ti.size==i.size&&Ht i.zero z.cells.toList&&d.isRow==i.agg&&(i.agg||i.size==1)
   | none=>false
  | none=>false
 | none=>false
def RU (P:Program) (t:TypeId) (k:IntKind):Bool:=
 match P.underlying t with
 | some (.int k')=>k'==k
 | _=>false
def RW (P:Program) (t:TypeId) (i:Info):Bool:=
 match P.underlying t with
 | some (.slice e)=>e==i.CI&&(match P.info? i.CI with
  | some ei=>match ei.zero with
   | some z=>ei.size==i.elem.size&&ei.bytes==i.Du&&decide (0<ei.bytes)&&Ht (cells i.elem i.BW) z.cells.toList
   | none=>false
  | none=>false)
 | _=>false
def NI (P:Program) (p:Nat×Nat×Bool) (fl:Field):Bool:=
 match P.info? fl.type with
 | some ti=>match P.underlying fl.type with
  | some d=>fl.offset==p.1&&ti.size==p.2.1&&decide (0<p.2.1)&&d.isRow==p.2.2&&(p.2.2||p.2.1==1)
  | none=>false
 | none=>false
def H9 (P:Program):List (Nat×Nat×Bool)->List Field->Bool
 | [],[]=>true
 | p::ps,f::fs=>NI P p f&&H9 P ps fs
 | _,_=>false
def RQ (P:Program) (t:TypeId) (i:Info):Bool:=
 match P.underlying t with
 | some (.struct fs)=>H9 P i.fields fs.toList
 | _=>false
def RP (P:Program) (t:TypeId):Bool:=
 match P.underlying t with
 | some .bool=>true
 | _=>false
def RX (P:Program) (t:TypeId) (i:Info):Bool:=
 (!i.known||RV P t i)&&(match i.kind with | some k=>RU P t k | none=>true)&&(!i.sl||RW P t i)&&(!i.La||RP P t)&&(!i.known||i.fields.isEmpty||RQ P t i)
theorem RT {P:Program}:∀{a:List (Nat×Nat×Bool)} {fs:List Field},H9 P a fs=true->a.length=fs.length/\∀(f:Nat) (p:Nat×Nat×Bool),a[f]? =some p->∃c,fs[f]? =some c/\NI P p c=true
 | [],[],_=>⟨rfl,fun f p h=>by simp at h⟩
 | p::a,f::fs,h=>by
  simp only[H9,Bool.and_eq_true] at h;obtain⟨d,g⟩:=RT h.2;refine⟨by simp[d],fun i q b=>?_⟩;cases i with
  | zero=>simp at b;subst b;exact⟨f,rfl,h.1⟩
  | succ i=>simpa using g i q (by simpa using b)
 |[],_::_,h|_::_,[],h=>by simp[H9] at h
theorem PK {P:Program} {t:TypeId} {i:Info} (h:RX P t i=true):Ck P t i:=by
 simp only[RX,Bool.and_eq_true] at h;obtain⟨⟨⟨⟨a,b⟩,h3⟩,q⟩,o⟩:=h;refine⟨fun p=>?_,fun k p=>?_,fun hb=>?_,fun G=>?_,fun p B=>?_⟩
 ·simp only[p,Bool.not_true,Bool.false_or] at a;unfold RV at a
  split at a
  ·rename_i v j
   split at a
   ·rename_i d l
    split at a
    ·rename_i z m
     simp only[Bool.and_eq_true,beq_iff_eq,Bool.or_eq_true] at a;obtain⟨⟨⟨r,s⟩,a3⟩,a4⟩:=a;exact⟨v,z,d,j,r,m,PW s,l,a3,fun ha=>a4.resolve_left (by simp[ha])⟩
    cases a
   cases a
  cases a
 ·rw[p] at b;simp only at b;unfold RU at b
  split at b
  ·rename_i k' e;rw[e];simp only[beq_iff_eq] at b;rw[b]
  cases b
 ·simp only[hb,Bool.not_true,Bool.false_or] at q;unfold RP at q
  split at q
  ·assumption
  cases q
 ·simp only[G,Bool.not_true,Bool.false_or] at h3;unfold RW at h3
  split at h3
  ·rename_i e j
   simp only[Bool.and_eq_true,beq_iff_eq] at h3;obtain⟨rfl,h3⟩:=h3;refine⟨j,?_⟩
   split at h3
   ·rename_i y l
    split at h3
    ·rename_i z m
     simp only[Bool.and_eq_true,beq_iff_eq,decide_eq_true_eq] at h3;obtain⟨⟨⟨r,s⟩,a3⟩,a4⟩:=h3;exact⟨y,z,l,r,s,a3,m,PW a4⟩
    cases h3
   cases h3
  cases h3
 have u:i.fields.isEmpty=false:=by cases D:i.fields with
  | nil=>exact absurd D B
  | cons _ _=>rfl
 simp only[p,u,Bool.not_true,Bool.false_or] at o;unfold RQ at o
 split at o
 ·rename_i fs j
  obtain⟨g1,g2⟩:=RT o;refine⟨fs,j,by simpa using g1,fun f I n g F=>?_⟩;obtain⟨A,H,c⟩:=g2 f _ F;unfold NI at c
  split at c
  ·rename_i v l
   split at c
   ·rename_i d m
    simp only[Bool.and_eq_true,beq_iff_eq,decide_eq_true_eq,Bool.or_eq_true] at c;obtain⟨⟨⟨⟨b1,b2⟩,b3⟩,w⟩,x⟩:=c;exact⟨A,d,by simpa using H,b1,by rw[l];exact congrArg some b2,b3,m,w,fun C=>x.resolve_left (by simp[C])⟩
   cases c
  cases c
 cases o
def TX:Info:={known:=false,BW:=false}
theorem ez (P:Program) (t:TypeId):Ck P t TX:=PK (by rfl)
abbrev Vk:T:= .pr .bool (.sl .u32)
abbrev AA:T:= .pr Vk Vk
abbrev Ap:T:= .pr (.sl (.sl AA)) (.sl AA)
abbrev BL:T:= .pr Ap Ap
abbrev Bo:T:= .pr .u8 (.pr .u8 (.pr .u8 (.pr .i8 .u8)))
def TI:TypeId->Info
 |2|3=>{size:=1,zero:=[.int .i64 0],kind:=some .i64,BW:=false}
 | 4=>{size:=1,zero:=[.bool false],La:=true,BW:=false}
 | 5=>{size:=1,zero:=[.int .u8 0],kind:=some .u8,BW:=false}
 |22|23=>{size:=1,zero:=[.nil],sl:=true,CI:=135,elem:=Bo,BW:=((0,0,0,0,0):el Bo),Du:=5}
 | 33=>{size:=1,zero:=[.nil],sl:=true,CI:=34,elem:=(.sl AA),BW:=([]:el (.sl AA)),Du:=24}
 | 34=>{size:=1,zero:=[.nil],sl:=true,CI:=69,elem:=AA,BW:=(((false,[]),(false,[])):el AA),Du:=64}
 | 36=>{size:=2,zero:=[.nil,.nil],agg:=true,BW:=false,fields:=[(0,1,false),(1,1,false)]}
 | 47=>{size:=1,zero:=[.int .i64 0],kind:=some .i64,BW:=false}
 | 56=>{size:=1,zero:=[.nil],sl:=true,CI:=36,elem:=Ap,BW:=(([],[]):el Ap),Du:=48}
 | 24=>{size:=1,zero:=[.nil],sl:=true,CI:=5,elem:= .u8,BW:=(0:el .u8),Du:=1}
 | 26=>{size:=2,zero:=[.nil,.nil],agg:=true,BW:=false,fields:=[(0,1,false),(1,1,false)]}
 | 32=>{size:=1,zero:=[.nil],sl:=true,CI:=40,elem:=BL,BW:=((([],[]),([],[])):el BL),Du:=96}
 | 40=>{size:=4,zero:=[.nil,.nil,.nil,.nil],agg:=true,BW:=false,fields:=[(0,2,true),(2,2,true)]}
 | 65=>{size:=1,zero:=[.nil],sl:=true,CI:=229,elem:= .u32,BW:=(0:el .u32),Du:=4}
 | 67=>{size:=2,zero:=[.bool false,.nil],agg:=true,BW:=false,fields:=[(0,1,false),(1,1,false)]}
 | 69=>{size:=4,zero:=[.bool false,.nil,.bool false,.nil],agg:=true,BW:=false,fields:=[(0,2,true),(2,2,true)]}
 | 133=>{size:=1,zero:=[.int .i8 0],kind:=some .i8,BW:=false}
 | 135=>{size:=5,zero:=[.int .u8 0,.int .u8 0,.int .u8 0,.int .i8 0,.int .u8 0],agg:=true,BW:=false,fields:=[(0,1,false),(1,1,false),(2,1,false),(3,1,false),(4,1,false)]}
 | 258=>{size:=2,zero:=[.nil,.nil],agg:=true,BW:=false,fields:=[(0,1,false),(1,1,false)]}
 | 229=>{size:=1,zero:=[.int .u32 0],kind:=some .u32,BW:=false}
 |248|263=>{size:=1,zero:=[.int .u64 0],kind:=some .u64,BW:=false}
 | _=>TX
theorem KN (t:TypeId):Ck Tryz.prog t (TI t):=by
 unfold TI
 split <;> first | exact ez _ _ | exact PK (by kernel_rfl)
theorem Hd:Tryz.prog.follows .mixedOrders=true:=by kernel_rfl
def ET (fn : Func) : Bool := (fn.name == "runtime.NumGoroutine") == false && match fn.body with | some c => FO c | none => false
def JU (E:Env) (fn:Func) (r:AV) (b1:Option AK) (s:St):Prop:=
 match fn.body with
 | some c=>CH E TI fn.ntmps c (post TI fn.results.toList r b1) s
 | none=>False
theorem YD {f:FuncId} {fn:Func} (g:Tryz.prog.funcs[f]? =some fn) (a:ET fn=true) {args:List AV} {r:AV} (b:(HB args&&(r.all Be&&(r.wf&&Nat.ble args.length fn.ntmps)))=true)
  (h:∀E,env Tryz.prog=E->JU E fn r none (CL fn.ntmps args none)):EN Tryz.prog false f args r:=by
 have h:=h _ rfl;unfold JU at h;unfold ET at a;simp only[Bool.and_eq_true] at a b
 split at h
 ·rename_i c d
  rw[d] at a;exact Qf (TI:=TI) (n:=fn.ntmps) (c:=c) (rs:=fn.results.toList) ⟨⟨fn,g,by simpa using a.1,d,rfl,rfl⟩,a.2,KN,Hd⟩ b.1 ⟨b.2.1,b.2.2.1⟩ (Nat.le_of_ble_eq_true b.2.2.2) h
 exact h.elim
theorem JN {f:FuncId} {fn:Func} (j:Tryz.prog.funcs[f]? =some fn) (a:ET fn=true) {g:AC} {d b1:AK} {args:List AV} {r:AV} (b:(HB args&&(r.all BS&&(Nat.ble (args.length+1) fn.ntmps&&(DT g&&(d.lone&&b1.lone)))))=true)
  (h:∀E,env Tryz.prog=E->JU E fn r (some b1) (CL fn.ntmps (.one g::args) (some d))):FF Tryz.prog f g d args r b1:=by
 have h:=h _ rfl;unfold JU at h;unfold ET at a;simp only[Bool.and_eq_true] at a b
 split at h
 ·rename_i c i
  rw[i] at a;exact Qz (TI:=TI) (n:=fn.ntmps) (c:=c) (rs:=fn.results.toList) ⟨⟨fn,j,by simpa using a.1,i,rfl,rfl⟩,a.2,KN,Hd⟩ b.1 b.2.1 b.2.2.2 (Nat.le_of_ble_eq_true b.2.2.1) h
 exact h.elim
def RE (E:Env) (fn:Func) (r:AV) (b0:AK) (s:St):Prop:=
 match fn.body with
 | some c=>CH E TI fn.ntmps c (J4 TI fn.results.toList r b0) s
 | none=>False
theorem GR {f:FuncId} {fn:Func} (i:Tryz.prog.funcs[f]? =some fn) (b:ET fn=true) {d:AK} {args:List AV} {r:AV} (a:(G0 args&&(r.all Ao&&(d.lone&&(Nat.ble args.length fn.ntmps&&Nat.ble 1 fn.ntmps))))=true)
  (h:∀E,env Tryz.prog=E->RE E fn r d (CL fn.ntmps args (some d))):Cy Tryz.prog f args d r:=by
 have h:=h _ rfl;unfold RE at h;unfold ET at b;simp only[Bool.and_eq_true] at b a
 split at h
 ·rename_i c g
  rw[g] at b;exact Rk (TI:=TI) (n:=fn.ntmps) (c:=c) (rs:=fn.results.toList) ⟨⟨fn,i,by simpa using b.1,g,rfl,rfl⟩,b.2,KN,Hd⟩ a.1 a.2.1 a.2.2.1 (Nat.le_of_ble_eq_true a.2.2.2.1) (Nat.le_of_ble_eq_true a.2.2.2.2) h
 exact h.elim
theorem E2 {E:Env} {f:FuncId} {args:List AV} {a:AK} {r:AV} (b:env Tryz.prog=E) (h:Cy Tryz.prog f args a r):E.D f args a r:=b ▸ h
def fz:AV->Nat
 | .one (.sl _ l)=>l.length
 | _=>0
def fw:AV->Int
 | .one (.int _ n)=>n
 | _=>0
theorem Et {E:Env} {a:Bool} {f:FuncId} {args:List AV} {r:AV} (b:env Tryz.prog=E) (h:EN Tryz.prog a f args r):E.C a f args r:=b ▸ h
theorem C3 {E:Env} {f:FuncId} {b:AC} {a b1:AK} {args:List AV} {r:AV} (c:env Tryz.prog=E) (h:FF Tryz.prog f b a args r b1):E.B f b a args r b1:=c ▸ h
theorem Vx {E:Env} {f:FuncId} {t:T} {l l':List (el t)} {args:List AV} (a:env Tryz.prog=E) (h:MZ Tryz.prog f t l args l'):E.G f t l args l':=a ▸ h
abbrev LR:=List (el AA)
abbrev CF:=EN Tryz.prog false
theorem cL {E:Env} {b:Bool} {g:FuncId} {args:List AV} {r:AV} {L:List AV->Prop} {K:AV->Prop} {X:Prop} (c:env Tryz.prog=E) (h:EN Tryz.prog b g args r) (f:L args) (d:K r):
 (∃(a:List AV) (r:AV),(Unit->L a)/\(Unit->E.C b g a r)/\K r)\/X:= .inl ⟨args,r,fun _=>f,fun _=>Et c h,d⟩
theorem fA {A B C:Prop} (h:A) (hb:B) (a:C):(Unit->A/\B/\C)/\True:=⟨fun _=>⟨h,hb,a⟩,trivial⟩
theorem i64 {c:Int} (h: -9223372036854775808<=c/\c<9223372036854775808):GW c:=h
theorem g2 {P:Sort _} {A C:Prop} (a:A) (h:C):(P->A)/\C:=⟨fun _=>a,h⟩
theorem g1 {P:Sort _} {C:Prop} {x:Int} (a: -9223372036854775808<=x/\x<9223372036854775808) (h:C):(P->GW x)/\C:=⟨fun _=>i64 a,h⟩
theorem t1 {α:Sort _} {a:α}:a=a/\True:=⟨rfl,trivial⟩
theorem t2 {α β:Sort _} {a:α} {b:β}:a=a/\b=b/\True:=⟨rfl,t1⟩
theorem t3 {α β γ:Sort _} {a:α} {b:β} {c:γ}:a=a/\b=b/\c=c/\True:=⟨rfl,t2⟩
theorem t4 {α β γ δ:Sort _} {a:α} {b:β} {c:γ} {d:δ}:a=a/\b=b/\c=c/\d=d/\True:=⟨rfl,t3⟩
theorem xR (a:LR):∃z:LR,z=a:=⟨_,rfl⟩
theorem xV (a:List LR):∃z:List LR,z=a:=⟨_,rfl⟩
theorem xN (a:Nat):∃z:Nat,z=a:=⟨_,rfl⟩
theorem xI (a:Int):∃z:Int,z=a:=⟨_,rfl⟩
theorem xB (a:Bool):∃z:Bool,z=a:=⟨_,rfl⟩
theorem xU (a:List UInt32):∃z:List UInt32,z=a:=⟨_,rfl⟩
theorem xJ (a:List AV->List AK->Nat->Prop):∃J:List AV->List AK->Nat->Prop,J=a:=⟨_,rfl⟩
theorem xK (a:List AV->List AK->Prop):∃J:List AV->List AK->Prop,J=a:=⟨_,rfl⟩
abbrev lsE:AC:= .sl (.sl AA) []
abbrev lsF:AC:= .sl AA []
abbrev At (b:Bool) (l:List UInt32):List AC:=[.bool b,.sl .u32 l]
abbrev BK (b:Bool) (l:List UInt32) (c:Bool) (m:List UInt32):List AC:=[.bool b,.sl .u32 l,.bool c,.sl .u32 m]
abbrev Ab (T1:List (List (el AA))) (A1:List (el AA)):List AC:=[.sl (.sl AA) T1,.sl AA A1]
abbrev BI (T1:List (List (el AA))) (A1:List (el AA)) (T2:List (List (el AA))) (A2:List (el AA)):List AC:=[.sl (.sl AA) T1,.sl AA A1,.sl (.sl AA) T2,.sl AA A2]
abbrev gB (T1:List (List (el AA))) (A1:List (el AA)) (T2:List (List (el AA))) (A2:List (el AA)) (T3:List (List (el AA))) (A3:List (el AA)):List AC:=[.sl (.sl AA) T1,.sl AA A1,.sl (.sl AA) T2,.sl AA A2,.sl (.sl AA) T3,.sl AA A3]
abbrev gC (T1:List (List (el AA))) (A1:List (el AA)) (T2:List (List (el AA))) (A2:List (el AA)) (T3:List (List (el AA))) (A3:List (el AA)) (T4:List (List (el AA))) (A4:List (el AA)):List AC:=[.sl (.sl AA) T1,.sl AA A1,.sl (.sl AA) T2,.sl AA A2,.sl (.sl AA) T3,.sl AA A3,.sl (.sl AA) T4,.sl AA A4]
abbrev gD (T1:List (List (el AA))) (A1:List (el AA)) (T2:List (List (el AA))) (A2:List (el AA)) (T3:List (List (el AA))) (A3:List (el AA)) (T4:List (List (el AA))) (A4:List (el AA)) (T5:List (List (el AA))) (A5:List (el AA)):List AC:=[.sl (.sl AA) T1,.sl AA A1,.sl (.sl AA) T2,.sl AA A2,.sl (.sl AA) T3,.sl AA A3,.sl (.sl AA) T4,.sl AA A4,.sl (.sl AA) T5,.sl AA A5]
abbrev gA (T1:List (List (el AA))) (A1:List (el AA)) (T2:List (List (el AA))) (A2:List (el AA)) (T3:List (List (el AA))) (A3:List (el AA)) (T4:List (List (el AA))) (A4:List (el AA)) (m:Bool):List AC:=[.sl (.sl AA) T1,.sl AA A1,.sl (.sl AA) T2,.sl AA A2,.sl (.sl AA) T3,.sl AA A3,.sl (.sl AA) T4,.sl AA A4,.bool m]
def KJ:AC->Bool
 | .int _ _=>true | .bool _=>true | .fn _=>true | .nil=>true | .sl _ _=>true
 | _=>false
def Ir:List AV->Bool
 | []=>true
 | .one c::l=>KJ c&&Ir l
 | .agg cs::l=>cs.all KJ&&Ir l
 | .AI _::_=>false
theorem Sy:∀{c:AC},KJ c=true->Ar c c
 |.int _ _,_|.bool _,_|.fn _,_=>rfl
 | .nil,_=> .inl rfl
 | .sl _ _,_=>rfl
theorem Qn:∀{cs:List AC},cs.all KJ=true->Aj Ar cs cs
 | [],_=>trivial
 | c::l,h=>by
  rw[List.all_cons,Bool.and_eq_true] at h;exact⟨Sy h.1,Qn h.2⟩
theorem Mz:∀{a:List AV},Ir a=true->D3 Ar a a
 | [],_=>trivial
 | .one c::l,h=>by
  unfold Ir at h;rw[Bool.and_eq_true] at h;exact⟨Sy h.1,Mz h.2⟩
 | .agg cs::l,h=>by
  unfold Ir at h;rw[Bool.and_eq_true] at h;exact⟨Qn h.1,Mz h.2⟩
theorem AB {E:Env} {b:Bool} {g:FuncId} {args:List AV} {r:AV} {K:AV->Prop} {X:Prop} (c:env Tryz.prog=E) (h:EN Tryz.prog b g args r) (d:K r) (f:Ir args=true:=by rfl):
 (∃(a:List AV) (r:AV),(Unit->D3 Ar args a)/\(Unit->E.C b g a r)/\K r)\/X:= .inl ⟨args,r,fun _=>Mz f,fun _=>Et c h,d⟩
def Lg:AC->AC
 | .AN t _ _ off len=> .AN t 0 0 off len
 | .Ak _ _ off=> .Ak 0 0 off
 | c=>c
def IX:List AV->List AV
 | []=>[]
 | .one c::l=> .one (Lg c)::IX l
 | .agg cs::l=> .agg (cs.map Lg)::IX l
 | .AI x::l=> .AI x::IX l
def Ii (id v:Nat):AC->Bool
 |.AN _ i w _ _|.Ak i w _=>Nat.beq i id&&Nat.beq w v
 | c=>KJ c
def Ij (id v:Nat):List AV->Bool
 | []=>true
 | .one c::l=>Ii id v c&&Ij id v l
 | .agg cs::l=>cs.all (Ii id v)&&Ij id v l
 | .AI _::_=>false
theorem S7 {id v:Nat}:∀{c:AC},Ii id v c=true->Gz id v c (Lg c)
 | .AN _ i w _ _,h=>by
  unfold Ii at h;rw[Bool.and_eq_true] at h;exact⟨⟨Nat.eq_of_beq_eq_true h.1,Nat.eq_of_beq_eq_true h.2⟩,rfl⟩
 | .Ak i w _,h=>by
  unfold Ii at h;rw[Bool.and_eq_true] at h;exact⟨⟨Nat.eq_of_beq_eq_true h.1,Nat.eq_of_beq_eq_true h.2⟩,rfl⟩
 |.int _ _,_|.bool _,_|.fn _,_=>rfl
 | .nil,_=> .inl rfl
 | .sl _ _,_=>rfl
theorem S5 {id v:Nat}:∀{cs:List AC},cs.all (Ii id v)=true->Aj (Gz id v) cs (cs.map Lg)
 | [],_=>trivial
 | c::l,h=>by
  rw[List.all_cons,Bool.and_eq_true] at h;exact⟨S7 h.1,S5 h.2⟩
theorem N3 {id v:Nat}:∀{a:List AV},Ij id v a=true->D3 (Gz id v) a (IX a)
 | [],_=>trivial
 | .one c::l,h=>by
  unfold Ij at h;rw[Bool.and_eq_true] at h;exact⟨S7 h.1,N3 h.2⟩
 | .agg cs::l,h=>by
  unfold Ij at h;rw[Bool.and_eq_true] at h;exact⟨S5 h.1,N3 h.2⟩
theorem D5 {E:Env} {g:FuncId} {args:List AV} {r:AV} {bk:Nat->Option AK} {K:Nat->AV->Prop} {c d f i:Prop} (id v:Nat) (j:env Tryz.prog=E) (h:Cy Tryz.prog g (IX args) (.var 0 [.int .i64 0]) r) (k:K id r) (hb:bk id=some (.var v [.int .i64 0]):=by rfl) (l:Ij id v args=true:=by rfl):
 c\/d\/f\/(∃(id:Nat) (b:AK) (a:List AV) (r:AV),(Unit->bk id=some b/\D3 (Gz id b.AO) args a)/\(Unit->E.D g a (b.DL 0) r)/\K id r)\/i:= .inr (.inr (.inr (.inl ⟨id,.var v [.int .i64 0],IX args,r,fun _=>⟨hb,N3 l⟩,fun _=>E2 j h,k⟩)))
theorem C7 {bk:Nat->Option AK} {t:T}:DJ bk .nil (.sl t []):= .inr (.inl ⟨_,rfl⟩)
theorem AH {P:Sort _} {C:Prop} {x:Int} (h:C) (a: -9223372036854775808<=x/\x<9223372036854775808:=by omega):(P->GW x)/\C:=⟨fun _=>a,h⟩
theorem AG {P:Sort _} {A C:Prop} (h:C) (a:A:=by omega):(P->A)/\C:=⟨fun _=>a,h⟩
theorem AD {A B C:Prop} (h:A) (hb:B:=by rfl) (a:C:=by simp):(Unit->A/\B/\C)/\True:=⟨fun _=>⟨h,hb,a⟩,trivial⟩
theorem Bu {x:Bool} {K:Bool->Prop} (k:K true) (h:x=true:=by decide):∀c,c=x->K c:=fun _ e=>by rw[e,h];exact k
theorem Ai {x:Bool} {K:Bool->Prop} (k:K false) (h:x=false:=by decide):∀c,c=x->K c:=fun _ e=>by rw[e,h];exact k
theorem AJ {f:FuncId} {fn:Func} (a:Tryz.prog.funcs[f]? =some fn) {args:List AV} {r:AV} (h:∀E,env Tryz.prog=E->JU E fn r none (CL fn.ntmps args none)) (b:ET fn=true:=by kernel_rfl) (c:(HB args&&(r.all Be&&(r.wf&&Nat.ble args.length fn.ntmps)))=true:=by rfl):EN Tryz.prog false f args r:=YD a b c h
open Go.RowKit Go.ChangeShapes Go.WideShapes Go.Deep
def Hc (P:Program) (k:IntKind) (t:TypeId):Bool:=match P.underlying t with | some (.int j)=>decide (j=k) | _=>false
def okF (P:Program) (ok:T->TypeId->Bool):T->List Field->Nat->Bool
 | _,[],_=>false
 | t,[f],o=>f.offset==o&&(P.cellsOf f.type==t.size&&ok t f.type)
 | .pr a b,f::fs,o=>(f.offset==o&&(P.cellsOf f.type==a.size&&ok a f.type))&&okF P ok b fs (o+a.size)
 | _,_,_=>false
def Ez (P:Program):Nat->T->TypeId->Bool
 | 0,_,_=>false
 | n+1,τ,t=>match τ with
  | .u8=>Hc P .u8 t
  | .u32=>Hc P .u32 t
  | .u64=>Hc P .u64 t
  | .i8=>Hc P .i8 t
  | .i64=>Hc P .i64 t
  | .bool=>match P.underlying t with | some .bool=>true | _=>false
  | .sl e=>match P.underlying t with | some (.slice u)=>Ez P n e u&&(P.cellsOf u==e.size&&decide (0<P.bytesOf u)) | _=>false
  | .pr a b=>match P.underlying t with | some (.struct fs)=>okF P (Ez P n) (.pr a b) fs.toList 0&&P.cellsOf t==a.size+b.size | _=>false
theorem F1 {P:Program} {k:IntKind} {t:TypeId} (h:Hc P k t=true):P.underlying t=some (.int k):=by
 unfold Hc at h
 split at h
 ·rename_i j e;rw[e,of_decide_eq_true h]
 simp at h
theorem PR {k:IntKind} {n:Int} (h:(Lit.int k n).wf=true):k.min<=n/\n<=k.max:=by
 simpa [Lit.wf] using h
theorem To {H:Type} {enc:TypeId×Value->H} {P:Program} {w:World} {base:Nat} {sp:Nat->Bool} {l:Bool} {n:Nat} {cs:List Value} {ok:T->TypeId->Bool}
  (c:∀(T:T) (t:TypeId) (cs:List Value) (x:DataW H×List MemPlace),ok T t=true->DataW.trod enc P w base sp l n t cs=some x->(∀k∈x.1.weights P t,k<=reachBytes)->∃y:el T,rep w (fun b=>b<w.heap.size) T y cs):
  ∀(T:T) (fs:List Field) (o:Nat),okF P ok T fs o=true->cs.length=o+T.size->
   (∀(i:Nat) (f:Field),fs[i]? =some f->∃x,DataW.trod enc P w base sp l n f.type ((cs.drop f.offset).take (P.cellsOf f.type))=some x/\∀k∈x.1.weights P f.type,k<=reachBytes)->∃y:el T,rep w (fun b=>b<w.heap.size) T y (cs.drop o)
 | T,[],o,h,_,_=>by cases T <;> simp[okF] at h
 | T,[f],o,h,r,d=>by
  have h':(f.offset==o&&(P.cellsOf f.type==T.size&&ok T f.type))=true:=by cases T <;> exact h
  simp only[Bool.and_eq_true,beq_iff_eq] at h';obtain⟨x,d,hw⟩:=d 0 f rfl;rw[h'.1,h'.2.1,List.take_of_length_le (by rw[List.length_drop];omega)] at d;exact c T _ _ _ h'.2.2 d hw
 | .pr a b,f::g::fs,o,h,r,d=>by
  have h':((f.offset==o&&(P.cellsOf f.type==a.size&&ok a f.type))&&okF P ok b (g::fs) (o+a.size))=true:=h;simp only[Bool.and_eq_true,beq_iff_eq] at h';have s:(T.pr a b).size=a.size+b.size:=rfl;obtain⟨x,j,hw⟩:=d 0 f rfl;rw[h'.1.1,h'.1.2.1] at j;obtain⟨y1,m⟩:=c a _ _ _ h'.1.2.2 j hw;obtain⟨y2,p⟩:=To c b (g::fs) (o+a.size) h'.2 (by omega) (fun i f q=>d (i+1) f q);refine⟨(y1,y2),_,_,?_,m,p⟩;rw[<-List.drop_drop,List.take_append_drop]
 |.u8,f::g::fs,o,h,_,_|.u32,f::g::fs,o,h,_,_|.u64,f::g::fs,o,h,_,_|.i8,f::g::fs,o,h,_,_|.i64,f::g::fs,o,h,_,_|.bool,f::g::fs,o,h,_,_|.sl _,f::g::fs,o,h,_,_=>by simp[okF] at h
theorem VR {w:World} {a:Addr} {v:Value} (h:w.cell? a=some v):a.spot=none/\a.block<w.heap.size:=by
 unfold World.cell? at h
 split at h
 ·rename_i c e l b
  refine⟨?_,(Array.getElem?_eq_some_iff.1 b).1⟩;cases d:a.spot with
  | none=>rfl
  | some x=>simp[d] at h
 simp at h
theorem Kp {a:Addr} (h:a.spot=none) (i:Nat):a.add i=⟨a.block,a.off+i,none⟩:=by
 unfold Addr.add;cases a;simp only at h;subst h
 split <;> simp_all
theorem TA {α:Type} {p:Nat->α->Prop}:∀(n:Nat),(∀i,i<n->∃x,p i x)->∃l:List α,l.length=n/\∀i x,l[i]? =some x->p i x
 | 0,_=>⟨[],rfl,fun i x h=>by simp at h⟩
 | n+1,h=>by
  obtain⟨l,b,f⟩:=TA n fun i c=>h i (by omega)
  obtain⟨x,g⟩:=h n (by omega);refine⟨l++[x],by simp[b],fun i y a=>?_⟩
  by_cases c:i<n
  ·rw[List.getElem?_append_left (by omega)] at a;exact f i y a
  rw[List.getElem?_append_right (by omega)] at a
  have:i=n:=by
   apply Classical.byContradiction;intro d;rw[List.getElem?_eq_none (by simp;omega)] at a;simp at a
  subst this;rw[b,Nat.sub_self] at a;simp at a;subst a;exact g
theorem TH {H:Type} {P:Program} {e:TypeId} {d:DataW H} {q:Nat}:∀{l:List (DataW H)},d∈l->q∈d.weights P e->q∈DataW.weightsAll P e l
 | [],h,_=>by simp at h
 | a::l,h,b=>by
  rw[DataW.weightsAll,List.mem_append];rcases List.mem_cons.1 h with rfl | h
  ·exact .inl b
  exact .inr (TH h b)
theorem TJ {H:Type} {P:Program} {q:Nat}:∀{ts:List TypeId} {l:List (DataW H)} (i:Nat) (t:TypeId) (d:DataW H),ts[i]? =some t->l[i]? =some d->q∈d.weights P t->q∈DataW.weightsEach P ts l
 |[],_,i,t,d,h,_,_|_::_,[],i,t,d,_,h,_=>by simp at h
 | u::ts,a::l,0,t,d,h,h',b=>by
  rw[DataW.weightsEach,List.mem_append];simp at h h';subst h;subst h';exact .inl b
 | u::ts,a::l,i+1,t,d,h,h',b=>by
  rw[DataW.weightsEach,List.mem_append];exact .inr (TJ i t d h h' b)
theorem Ob {H:Type} {enc:TypeId×Value->H} {P:Program} {w:World} {base:Nat} {sp:Nat->Bool} {Z:Bool}:
  ∀(m:Nat) (T:T) (t:TypeId),Ez P m T t=true->∀(n:Nat) (cs:List Value) (x:DataW H×List MemPlace),DataW.trod enc P w base sp Z n t cs=some x->(∀k∈x.1.weights P t,k<=reachBytes)->
   ∃y:el T,rep w (fun b=>b<w.heap.size) T y cs
 | 0,_,_,h,_,_,_,_,_=>by simp[Ez] at h
 | m+1,.u8,t,h,n,cs,x,c,hw=>by
  obtain⟨v,rfl,rfl,d⟩:=DataW.trod_int (F1 h) c;have hb:(0:Int)<=v/\v<=255:=PR d;refine⟨UInt8.ofNat v.toNat,?_⟩
  show [Value.int .u8 v]=[Value.int .u8 _]
  rw[UInt8.toNat_ofNat'];congr 2;omega
 | m+1,.u32,t,h,n,cs,x,c,hw=>by
  obtain⟨v,rfl,rfl,d⟩:=DataW.trod_int (F1 h) c;have hb:(0:Int)<=v/\v<=4294967295:=PR d;refine⟨UInt32.ofNat v.toNat,?_⟩
  show [Value.int .u32 v]=[Value.int .u32 _]
  rw[UInt32.toNat_ofNat'];congr 2;omega
 | m+1,.u64,t,h,n,cs,x,c,hw=>by
  obtain⟨v,rfl,rfl,d⟩:=DataW.trod_int (F1 h) c;have hb:(0:Int)<=v/\v<=18446744073709551615:=PR d;refine⟨UInt64.ofNat v.toNat,?_⟩
  show [Value.int .u64 v]=[Value.int .u64 _]
  rw[UInt64.toNat_ofNat'];congr 2;omega
 | m+1,.i8,t,h,n,cs,x,c,hw=>by
  obtain⟨v,rfl,rfl,d⟩:=DataW.trod_int (F1 h) c;exact⟨v,rfl⟩
 | m+1,.i64,t,h,n,cs,x,c,hw=>by
  obtain⟨v,rfl,rfl,d⟩:=DataW.trod_int (F1 h) c;exact⟨v,rfl⟩
 | m+1,.bool,t,h,n,cs,x,c,hw=>by
  have h':(match P.underlying t with | some .bool=>true | _=>false)=true:=h
  split at h'
  ·rename_i e
   obtain⟨v,rfl,rfl⟩:=DataW.trod_bool e c;exact⟨v,rfl⟩
  simp at h'
 | m+1,.sl e,t,h,n,cs,x,c,hw=>by
  have h':(match P.underlying t with | some (.slice u)=>Ez P m e u&&(P.cellsOf u==e.size&&decide (0<P.bytesOf u)) | _=>false)=true:=h
  split at h'
  ·rename_i u hu
   simp only[Bool.and_eq_true,beq_iff_eq,decide_eq_true_eq] at h';rcases open_slice hu c with⟨rfl,rfl⟩ |⟨a,len,cap,k,j,D,Pl,rfl,hb,O,Y,hk,s,I⟩
   ·exact⟨[],none,0,rfl,Nat.le_refl _,Nat.zero_le _,.inl rfl⟩
   have a2:len<=k:=by rw[hk];split <;> omega
   rw[h'.2.1] at I;rw[s] at hw
   have G:DataW.weights P t (DataW.slice ((List.range len).map D) ((List.range (k-len)).map fun j=>D (len+j)))=(((List.range len).map D).length+((List.range (k-len)).map fun j=>D (len+j)).length)*P.bytesOf u::(DataW.weightsAll P u ((List.range len).map D)++DataW.weightsAll P u ((List.range (k-len)).map fun j=>D (len+j))):=by
    unfold DataW.weights;rw[hu]
   have F:len<=140737488355328:=by
    have:=hw _ (by rw[G];exact List.mem_cons_self);simp only[List.length_map,List.length_range] at this;have h3:len<=(len+(k-len))*P.bytesOf u:=Nat.le_trans (Nat.le_add_right _ _) (Nat.le_mul_of_pos_right _ h'.2.2);have h4:reachBytes<=140737488355328:=by decide
    omega
   have S:=T.size_pos e
   have J:0<len->a.spot=none:=fun A=>by
    obtain⟨us,K,ht⟩:=I 0 (by omega);obtain⟨_,hlen,g⟩:=World.cells?_some K;have A:=g 0 S;rw[List.getElem?_eq_getElem (by omega),Nat.zero_mul] at A;have B:=(VR A).1;unfold Addr.add at B;simpa using B
   obtain⟨l,hl,R⟩:=TA (α:=el e) (p:=fun i y=>∃us,rep w (fun b=>b<w.heap.size) e y us/\a.spot=none/\a.block<w.heap.size/\w.rangeAt a.block (a.off+i*e.size) us) len (fun i M=>by
    obtain⟨us,K,ht⟩:=I i (by omega);obtain⟨y,hy⟩:=Ob m e u h'.1 _ _ _ ht (fun q Q=>hw q (by rw[G];exact List.mem_cons_of_mem _ (List.mem_append_left _ (TH (List.mem_map.2 ⟨i,List.mem_range.2 M,rfl⟩) Q))));obtain⟨_,hlen,g⟩:=World.cells?_some K;have A:=g 0 S;rw[List.getElem?_eq_getElem (by omega)] at A;have B:=VR A;have ha:a.spot=none:=J (by omega)
    have r:a.block<w.heap.size:=by
     have:=B.2;rw[Kp ha,Kp rfl] at this;exact this
    refine⟨y,us,hy,ha,r,fun j v N=>?_⟩
    have a1:j<us.length:=by
     apply Classical.byContradiction;intro hn;rw[List.getElem?_eq_none (by omega)] at N;simp at N
    have:=g j (by omega);rw[Kp ha,Kp rfl] at this;rw[this];exact N)
   subst hl;refine⟨l,some a,cap,rfl,O,F,?_⟩;cases l with
   | nil=>exact .inl rfl
   | cons y l=>
    right
    obtain⟨_,_,ha,r,_⟩:=R 0 y rfl;obtain⟨U,V,W⟩:=a;simp only at ha;subst ha;exact⟨U,V,rfl,r,fun i z hz=>by obtain⟨us,B,_,_,X⟩:=R i z hz;exact⟨us,B,X⟩⟩
  simp at h'
 | m+1,.pr a b,t,h,n,cs,x,c,hw=>by
  have h':(match P.underlying t with | some (.struct fs)=>okF P (Ez P m) (.pr a b) fs.toList 0&&P.cellsOf t==a.size+b.size | _=>false)=true:=h
  split at h'
  ·rename_i fs hu
   simp only[Bool.and_eq_true,beq_iff_eq] at h';obtain⟨xs,n',_,s,L,a5,hf⟩:=DataW.trod_struct hu c
   have:=To (w:=w) (n:=n') (cs:=cs) (ok:=Ez P m) (fun T t cs x ho c hw=>Ob m T t ho n' cs x c hw) (.pr a b) fs.toList 0 h'.1 (by rw[L,h'.2,Nat.zero_add];rfl) (fun i f C=>by
    have o:fs[i]? =some f:=by rw[<-Array.getElem?_toList];exact C
    have I:i<fs.size:=(Array.getElem?_eq_some_iff.1 o).1;rw[hf i f o];refine⟨xs[i]'(by omega),List.getElem?_eq_getElem (by omega),fun q Q=>hw q ?_⟩;rw[s]
    have e:DataW.weights P t (DataW.agg (xs.map (·.1)))=DataW.weightsEach P (fs.toList.map (·.type)) (xs.map (·.1)):=by
     unfold DataW.weights;rw[hu]
    rw[e];exact TJ i f.type (xs[i]'(by omega)).1 (by rw[List.getElem?_map,C];rfl) (by rw[List.getElem?_map,List.getElem?_eq_getElem (by omega)];rfl) Q)
   exact this
  simp at h'
end Go.Abs
