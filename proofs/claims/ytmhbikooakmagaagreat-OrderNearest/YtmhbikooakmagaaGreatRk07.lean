/- Part 8 of a proof. Conditions: each theorem's own. -/
import Derived.Test.YtmhbikooakmagaaGreatProg
import Derived.Deep.Slices
import Derived.ProofKit
import Derived.Test.YtmhbikooakmagaaGreatRk06
set_option linter.all false
set_option maxHeartbeats 8000000
set_option maxRecDepth 20000
open Go.Proofs
namespace Go.Abs
open Go.RowKit
section
variable {P:Program} {TI:TypeId->Info}
theorem jM:∀{c:AC},Bg c=true->EM c=true
 |.int _ _,_|.bool _,_|.fn _,_|.nil,_|.AN _ 0 0 _ _,_=>rfl
 |.AN _ (_+1) _ _ _,h|.AN _ 0 (_+1) _ _,h|.BY,h|.sl _ _,h|.C9 _ _ _ _ _,h|.Ab _ _ _,h|.Ch _ _ _ _ _,h|.CX _ _ _,h|.Cy _ _,h|.CZ _ _,h|.ub _,h|.own _ _ _,h=>by simp[Bg] at h
theorem MN {y:Cx} {lo:Nat} {bo:Option Nat}:∀{c:AC} {v:Value},Bg c=true->C6 y lo bo c v->Ap y c v
 |.int _ _,_,_,r|.bool _,_,_,r|.fn _,_,_,r|.nil,_,_,r|.AN _ _ _ _ _,_,_,r=>r
 |.BY,_,h,_|.sl _ _,_,h,_|.C9 _ _ _ _ _,_,h,_|.Ab _ _ _,_,h,_|.Ch _ _ _ _ _,_,h,_|.CX _ _ _,_,h,_|.Cy _ _,_,h,_|.CZ _ _,_,h,_|.ub _,_,h,_|.own _ _ _,_,h,_=>by simp[Bg] at h
theorem AS.MN {y:Cx} {lo:Nat} {bo:Option Nat}:∀{cs:List AC} {vs:List Value},cs.all Bg=true->AS (C6 y lo bo) cs vs->AS (Ap y) cs vs
 | [],[],_,_=>trivial
 | _::_,_::_,e,r=>by simp only[List.all_cons,Bool.and_eq_true] at e;exact⟨Abs.MN e.1 r.1,AS.MN e.2 r.2⟩
 |[],_::_,_,r|_::_,[],_,r=>r.elim
theorem Ok {y:Cx} {lo:Nat} {bo:Option Nat} {r:AV} {v:Value} (h:r.all Bg=true) (a:Fo y lo bo r v):Dg y r v:=by
 cases r with
 | one c=>exact a.imp (fun q=>q) (MN h)
 | agg cs=>obtain⟨arr,e,a⟩:=a;exact⟨arr,e,AS.MN h a⟩
 | AG _=>exact a.elim
theorem lS {y:Cx} {lo:Nat} {bo:Option Nat} {r:AV} {v:Value} (h:r.all Bg=true) (d:GR y lo bo r v):BK y r v:=by
 cases r with
 |one c|agg cs=>exact Ok h d
 | AG xs=>
  obtain⟨arr,e,d⟩:=d;refine⟨arr,e,?_⟩
  have key:∀(xs:List (Bool×List AC)) (us:List Value),(xs.all fun x=>x.2.all Bg)=true->AS (fun z q=>Fo y lo bo (DI z) q) xs us->AS (fun z q=>Dg y (DI z) q) xs us:=by
   intro xs
   induction xs with
   | nil=>intro us _ a;cases us <;> first | trivial | exact a.elim
   | cons z xs f=>
    intro us b a;cases us with
    | nil=>exact a.elim
    | cons q us=>
     simp only[List.all_cons,Bool.and_eq_true] at b;refine⟨?_,f us b.2 a.2⟩;obtain⟨g,cs⟩:=z;have h3:=a.1;cases g with
     | true=>exact Ok (r:= .agg cs) b.1 h3
     | false=>
      cases cs with
      | nil=>exact Or.inl rfl
      | cons c cs=>
       simp only[List.all_cons,Bool.and_eq_true] at b;exact Ok (r:= .one c) b.1.1 h3
  exact key xs arr.toList h d
theorem lW {w0:World} {X:WX} {β:Nat->Option Nat} {s:St} {a:Act} {w:World} {J:Nat->Prop} {lo:Nat} {bo:Option Nat} (S:BI w0 X β s a w) (m:AQ (AF s.bk) 0=0) (i:β 0=X.ob) {c d:AC} {v:Value} (g:Bg d=true) (h:D4 (AF s.bk) c d)
  (r:Ap (cx X w β (AF s.bk)) c v):C6 (Bw w X.ob J) lo bo d v:=by
 cases c with
 | AN t id j off len=>
  rcases h with⟨l,o,p,rfl⟩ |⟨l,n,_,_,_,_,_,rfl⟩ |⟨rfl,rfl,rfl⟩
  ·simp[Bg] at g
  ·simp[Bg] at g
  refine⟨⟨r.1.1,Nat.le_refl _⟩,fun _=>?_⟩;have:=r.2 m.symm
  show GQ w X.ob _ _ _ _ _
  rw[<-i];exact this
 | nil=>
  rcases h with rfl |⟨t,rfl⟩ |⟨t,rfl⟩
  ·exact r
  ·simp[Bg] at g
  simp[Bg] at g
 |int k n|bool b|fn f=>rw[show d=_ from h];exact r
 | sl t l=>rw[show d=_ from h] at g;simp[Bg] at g
 | _=>exact h.elim
theorem Yz {w0:World} {X:WX} {β:Nat->Option Nat} {s:St} {a:Act} {w:World} {J:Nat->Prop} {lo:Nat} {bo:Option Nat} (S:BI w0 X β s a w) (g:AQ (AF s.bk) 0=0) (b:β 0=X.ob):∀{cs c:List AC} {vs:List Value},c.all Bg=true->Ao (D4 (AF s.bk)) cs c->
  AS (Ap (cx X w β (AF s.bk))) cs vs->AS (C6 (Bw w X.ob J) lo bo) c vs
 | [],[],[],_,_,_=>trivial
 | _::_,_::_,_::_,d,h3,f=>by
  simp only[List.all_cons,Bool.and_eq_true] at d;exact⟨lW S g b d.1 h3.1 f.1,Yz S g b d.2 h3.2 f.2⟩
 |[],[],_::_,_,_,h|_::_,_::_,[],_,_,h|[],_::_,_,_,h,_|_::_,[],_,_,h,_=>h.elim
theorem RD {x y:Cx} (h:∀b,x.I b->y.I b/\y.w.heap[b]? =x.w.heap[b]?) (hw:y.w=x.w) (f:x.cv 0=0) (j:y.cv 0=0) (a:y.β 0=x.β 0):∀{c:AC} {v:Value},EM c=true->Ap x c v->Ap y c v
 | .AN t i v off len,_,e,r=>by
  match i,v,e,r with
  | 0,0,_,r=>exact⟨⟨r.1.1,Nat.zero_le _⟩,fun _=>by rw[hw,a];exact r.2 f.symm⟩
  |0,_+1,h,_|_+1,_,h,_=>simp[EM,BB] at h
 | .Ab i v off,_,e,r=>by
  match i,v,e,r with
  | 0,0,_,r=>exact⟨⟨r.1.1,Nat.zero_le _⟩,fun _=>by rw[a];exact r.2 f.symm⟩
  |0,_+1,h,_|_+1,_,h,_=>simp[EM,BB] at h
 |.BY,_,_,r|.int _ _,_,_,r|.bool _,_,_,r|.fn _,_,_,r|.nil,_,_,r=>r
 | .sl _ _,_,_,r=>CD h _ _ _ r
 |.C9 _ _ _ _ _,_,e,_|.Ch _ _ _ _ _,_,e,_=>by simp[EM,BB] at e
 | .CX t y _,_,_,⟨b,o,us,e,d,g,ha⟩=>⟨b,o,us,e,(h b d).1,CD h t y us g,rangeAt_of_block (h b d).2 ha⟩
 | .CZ _ _,_,_,⟨us,e,r⟩=>⟨us,e,r.mono fun _ _=>FR.mono h⟩
 |.Cy _ _,_,e,_|.ub _,_,e,_|.own _ _ _,_,e,_=>by simp[EM,BB] at e
theorem OM {x y:Cx} (h:∀b,x.I b->y.I b/\y.w.heap[b]? =x.w.heap[b]?) (hw:y.w=x.w) (a:y.β 0=x.β 0):∀{b:AL},b.lone=true->Cc x 0 b->Cc y 0 b
 | .dead _,_,_=>trivial
 | .var _ cs,e,⟨b,arr,ty,c,d,h3⟩=>⟨b,arr,ty,a.trans c,by rw[hw];exact d,AS.pure h (by simp only[AL.lone,Bool.and_eq_true] at e;exact e.2) h3⟩
 | .arr _ t l,_,r=>r.imp (fun q=>⟨a.trans q.1,q.2⟩) fun⟨b,arr,ty,c,d,h3⟩=>⟨b,arr,ty,a.trans c,by rw[hw];exact d,fun i y' f=>by
  obtain⟨us,g,j⟩:=h3 i y' f;exact⟨us,CD h _ _ _ g,by rw[hw];exact j⟩⟩
theorem Yy {bk:Nat->Option AL}:∀{l m:List (Bool×List AC)},Ht bk l m->Ao (D4 bk) (l.flatMap (·.2)) (m.flatMap (·.2)):=by
 have app:∀{l m l' m':List AC},Ao (D4 bk) l m->Ao (D4 bk) l' m'->Ao (D4 bk) (l++l') (m++m'):=by
  intro l
  induction l with
  | nil=>intro m l' m' h h';cases m <;> first | exact h' | exact h.elim
  | cons x l a=>intro m l' m' h h';cases m with
   | nil=>exact h.elim
   | cons y m=>exact⟨h.1,a h.2 h'⟩
 intro l
 induction l with
 | nil=>intro m h;cases m <;> first | trivial | exact h.elim
 | cons x l a=>intro m h;cases m with
  | nil=>exact h.elim
  | cons y m=>rw[List.flatMap_cons,List.flatMap_cons];exact app h.1.2 (a h.2)
theorem VY {r:AV} {p:AC->Bool} (h:r.all p=true):(r.EF.flatMap (·.2)).all p=true:=by
 cases r with
 |one c|agg cs=>simpa [AV.EF,AV.comp,AV.all] using h
 | AG xs=>simp only[AV.EF,List.all_flatMap];exact h
theorem eI {p q:AC->Bool} (h:∀c,p c=true->q c=true) {r:AV} (a:r.all p=true):r.all q=true:=by
 have l:∀{cs:List AC},cs.all p=true->cs.all q=true:=fun {cs} d=>by rw[List.all_eq_true] at d ⊢;exact fun x b=>h x (d x b)
 cases r with
 | one c=>exact h c a
 | agg cs=>exact l a
 | AG xs=>simp only[AV.all] at a ⊢;rw[List.all_eq_true] at a ⊢;exact fun x b=>l (a x b)
theorem Uf {f:FuncId} {n:Nat} {c:Code} {rs:List ResultVar} (F:Fn P TI f n c rs) {s:AC} {g b1:AL} {args:List AV} {r:AV} (hp:Ih args=true) (N:r.all Bg=true) (m:EM s=true/\g.lone=true/\b1.lone=true) (hn:args.length<n)
  (h:Cr (env P) TI n c (post TI rs r (some b1)) (Cw n (.one s::args) (some g))):GN P f s g args r b1:=by
 obtain⟨fn,Y,p,hb,L,O⟩:=F.get;refine⟨⟨fn,c,Y,p,hb⟩,⟨eI (fun _=>jM) N,m⟩,fun w I ob v0 vs W H G Q l=>?_⟩;refine calls_of_wp Y hb ?_;obtain⟨n',rfl⟩:∃n',n=n'+1:=⟨n-1,by omega⟩
 have t:g.AQ=0:=by have:=m.2.1;cases g <;> simp_all [AL.lone,AL.AQ]
 have D:b1.AQ=0:=by have:=m.2.2;cases b1 <;> simp_all [AL.lone,AL.AQ]
 have C:b1.live=true:=by have:=m.2.2;cases b1 <;> simp_all [AL.lone,AL.live]
 have j:∀b,I b->(cx ⟨fun b=>ob=some b,fun b=>I b\/w.heap.size<=b,ob⟩ w (β0 ob) (AF (Cw (n'+1) (.one s::args) (some g)).bk)).I b/\w.heap[b]? =w.heap[b]? :=fun b hb=>
  ⟨⟨⟨(W b hb).1,fun id _ e=>by
   unfold β0 at e
   split at e
   ·exact (W b hb).2 e
   cases e⟩,.inl hb⟩,rfl⟩
 have A:AQ (AF (Cw (n'+1) (.one s::args) (some g)).bk) 0=0:=t
 have Z:BI w ⟨fun b=>ob=some b,fun b=>I b\/w.heap.size<=b,ob⟩ (β0 ob) (Cw (n'+1) (.one s::args) (some g)) {tmps:=(v0::vs).toArray++Array.replicate (n'+1-(v0::vs).toArray.size) undef,defers:=[]} w:=
  BI.start (X:=⟨fun b=>ob=some b,fun b=>I b\/w.heap.size<=b,ob⟩) (by simp;omega) (fun _ e=>e) (fun b hb=> .inr hb) (fun b e=>by cases e;exact⟨t,Q,by omega⟩)
   ⟨.inr (RD (x:=Bw w ob I) j rfl rfl A rfl m.1 H),Oh (x:=DC w I) j hp l⟩
   (fun b e=>by cases e;exact OM (x:=Bw w ob I) j rfl rfl m.2.1 G)
 rw[L];refine wp_mono (Ez F.mixed (fun o ho=>SZ F.ty o ho) F.dst (by simp[Cw,Gi];omega) Z h) fun e U w' he=>?_
 obtain⟨x,s',β',rfl,a,_,S⟩:=he
 have fin:post TI rs r (some b1) x s'->(∀i,x≠ .exit i)->U.defers=[]/\∃v,(results fn U.tmps).run P w'= .ok v w'/\∃u,Ending.returned v= .returned u/\
   (w'.os=w.os/\w'.tape=w.tape/\w'.output=w.output/\w.heap.size<=w'.heap.size/\∀k,k<w.heap.size->ob≠some k->w'.heap[k]? =w.heap[k]?)/\
   (∀(b:Nat) arr e,ob=some b->w.heap[b]? =some (.cells arr e (0,0))->∃d,w'.heap[b]? =some (.cells d e (0,0))/\d.size=arr.size)/\
   BK (Bw w' ob fun k=>(I k\/w.heap.size<=k)/\k<w'.heap.size/\ob≠some k) r u/\
   Cc (Bw w' ob fun k=>(I k\/w.heap.size<=k)/\k<w'.heap.size/\ob≠some k) 0 b1/\b1.short:=by
  intro a hx;refine⟨S.defers,?_⟩
  have M:∃xs,Hu TI s' rs=some xs/\(Ht (AF s'.bk) xs r.EF/\Oc xs r.EF=true/\(rs.length=1↔∀ys,r≠ .AG ys))/\AF s'.bk 0=some b1:=by
   unfold post at a
   split at a
   ·exact absurd rfl (hx _)
   split at a
   ·rename_i xs T
    exact⟨xs,T,a.1 (),a.2 ()⟩
   exact a.elim
  obtain⟨xs,h1,⟨V,h3,h4⟩,B⟩:=M;obtain⟨us,ws,k1,k2,k3⟩:=On F.ty S h1 V;have z:AQ (AF s'.bk) 0=0:=by rw[EB B];exact D
  have y:live (AF s'.bk) 0:=⟨_,B,C⟩;obtain⟨q,R⟩:=S.KM y z
  have hJ:∀b,(cx ⟨fun b=>ob=some b,fun b=>I b\/w.heap.size<=b,ob⟩ w' β' (AF s'.bk)).I b->(Bw w' ob fun k=>(I k\/w.heap.size<=k)/\k<w'.heap.size/\ob≠some k).I b/\w'.heap[b]? =w'.heap[b]? :=
   fun b hb=>⟨⟨hb.2,hb.1.1,fun e=>hb.1.2 0 y (q.trans e)⟩,rfl⟩
  have g1:=Yz (J:=fun k=>(I k\/w.heap.size<=k)/\k<w'.heap.size/\ob≠some k) (lo:=0) (bo:=none) S z q (VY N) (Yy V) k2;have hlen:us.length=rs.length:=k1.length.symm;refine⟨Hq us,SG (by rw[O];exact k1),Hq us,rfl,⟨S.os,S.tape,S.output,S.size,fun b hb K=>S.block b hb K⟩,R,lS N (QX (by rw[hlen];exact h4) (k3 _ _ _ g1)),?_,S.lens 0 _ B⟩;exact OM hJ rfl q.symm m.2.2 (S.blocks 0 b1 B)
 cases x with
 |Cu|ret=>exact fin a (by simp)
 | exit i=>exact a.elim
theorem lY {w0:World} {X:WX} {β:Nat->Option Nat} {s:St} {a:Act} {w:World} {I:Nat->Prop} (S:BI w0 X β s a w) (M:∀b,X.A b->I b\/w0.heap.size<=b) (j:live (AF s.bk) 0) (o:β 0=X.ob) {c d:AC} {v:Value} (N:JH c=true) (C:BB d=true)
  (h:D4 (AF s.bk) c d) (r:Ap (cx X w β (AF s.bk)) c v) {lo:Nat} {bo:Option Nat}:C6 (Bw w X.ob fun k=>(I k\/w0.heap.size<=k)/\k<w.heap.size/\X.ob≠some k) lo bo d v:=by
 have J:∀b,(cx X w β (AF s.bk)).I b->((I b\/w0.heap.size<=b)/\b<w.heap.size/\X.ob≠some b)/\w.heap[b]? =w.heap[b]? :=fun b hb=>⟨⟨M b hb.2,hb.1.1,fun e=>hb.1.2 0 j (o.trans e)⟩,rfl⟩
 cases c with
 | AN t id u off len=>
  rcases h with⟨l,x,U,rfl⟩ |⟨l,n,_,_,_,_,_,rfl⟩ |⟨rfl,rfl,rfl⟩
  ·have g:id≠0:=fun e=>by subst e;simp[JH] at N
   have O:u=AQ (AF s.bk) id:=by rw[EB x];rfl
   obtain⟨base,cap,e,g1,g2,_,H⟩:=r.2 O;have hlen:((l.drop off).take len).length=len:=by simp;omega
   have z:l.length<=140737488355328:=S.lens id _ x;refine⟨base,cap,by rw[hlen,e],by rw[hlen];exact g1,by rw[hlen];omega,?_⟩;rcases H with H |⟨b,arr,e',k1,k2,V,W⟩
   ·left;exact List.eq_nil_of_length_eq_zero (by rw[hlen];omega)
   rcases S.blocks id _ x with⟨p,K⟩ |⟨b',G,L,p,K,T⟩
   ·exact absurd (p.symm.trans k1) (by simp)
   obtain rfl:b'=b:=Option.some.inj (p.symm.trans k1);have m:live (AF s.bk) id:=⟨_,x,rfl⟩
   have D:b'<w.heap.size:=by
    rcases Nat.lt_or_ge b' w.heap.size with h' | h'
    ·exact h'
    have F:w.heap[b']? =_:=K;simp[Array.getElem?_eq_none h'] at F
   refine .inr ⟨b',_,k2,⟨.inr ((S.own id b' m p).resolve_right (fun q=>g q.2)),D,fun e=>g (S.inj id 0 b' m j p (o.trans e))⟩,fun i y B=>?_⟩
   have hi:l[off+i]? =some y:=by
    rw[List.getElem?_take] at B
    split at B
    ·simpa using B
    cases B
   obtain⟨us,Q,R⟩:=T (off+i) y hi;exact⟨us,CD (w':=w) J _ _ _ Q,by rw[show off*t.size+i*t.size=(off+i)*t.size by rw[Nat.add_mul]];exact R⟩
  ·simp[BB] at C
  simp[BB] at C
 | nil=>
  rcases h with rfl |⟨t,rfl⟩ |⟨t,rfl⟩
  ·exact r
  ·exact⟨none,0,by rw[show v=_ from r];rfl,Nat.le_refl _,by simp,.inl rfl⟩
  simp[BB] at C
 |int k n|bool b|fn f=>rw[show d=_ from h];exact r
 | sl t l=>rw[show d=_ from h];exact CD (w':=w) J _ _ _ r
 | _=>exact h.elim
theorem Y4 {w0:World} {X:WX} {β:Nat->Option Nat} {s:St} {a:Act} {w:World} {I:Nat->Prop} (S:BI w0 X β s a w) (l:∀b,X.A b->I b\/w0.heap.size<=b) (c:live (AF s.bk) 0) (d:β 0=X.ob) {lo:Nat} {bo:Option Nat}:
  ∀{cs f:List AC} {vs:List Value},cs.all JH=true->f.all BB=true->Ao (D4 (AF s.bk)) cs f->AS (Ap (cx X w β (AF s.bk))) cs vs->AS (C6 (Bw w X.ob fun k=>(I k\/w0.heap.size<=k)/\k<w.heap.size/\X.ob≠some k) lo bo) f vs
 | [],[],[],_,_,_,_=>trivial
 | _::_,_::_,_::_,g,i,h3,j=>by
  simp only[List.all_cons,Bool.and_eq_true] at g i;exact⟨lY S l c d g.1 i.1 h3.1 j.1,Y4 S l c d g.2 i.2 h3.2 j.2⟩
 |[],[],_::_,_,_,_,h|_::_,_::_,[],_,_,_,h|[],_::_,_,_,_,h,_|_::_,[],_,_,_,h,_=>h.elim
theorem MO {y:Cx} {lo:Nat} {bo:Option Nat}:∀{c:AC} {v:Value},BB c=true->C6 y lo bo c v->Ap y c v
 |.int _ _,_,_,r|.bool _,_,_,r|.fn _,_,_,r|.nil,_,_,r|.BY,_,_,r|.sl _ _,_,_,r=>r
 |.AN _ _ _ _ _,_,h,_|.C9 _ _ _ _ _,_,h,_|.Ab _ _ _,_,h,_|.Ch _ _ _ _ _,_,h,_=>by simp[BB] at h
 |.CX _ _ _,_,_,r|.CZ _ _,_,_,r=>r
 |.Cy _ _,_,h,_|.ub _,_,h,_|.own _ _ _,_,h,_=>by simp[BB] at h
theorem AS.MO {y:Cx} {lo:Nat} {bo:Option Nat}:∀{cs:List AC} {vs:List Value},cs.all BB=true->AS (C6 y lo bo) cs vs->AS (Ap y) cs vs
 | [],[],_,_=>trivial
 | _::_,_::_,e,r=>by simp only[List.all_cons,Bool.and_eq_true] at e;exact⟨Abs.MO e.1 r.1,AS.MO e.2 r.2⟩
 |[],_::_,_,r|_::_,[],_,r=>r.elim
theorem Ol {y:Cx} {lo:Nat} {bo:Option Nat} {r:AV} {v:Value} (h:r.all BB=true) (a:Fo y lo bo r v):Dg y r v:=by
 cases r with
 | one c=>exact a.imp (fun q=>q) (MO h)
 | agg cs=>obtain⟨arr,e,a⟩:=a;exact⟨arr,e,AS.MO h a⟩
 | AG _=>exact a.elim
theorem lT {y:Cx} {lo:Nat} {bo:Option Nat} {r:AV} {v:Value} (h:r.all BB=true) (d:GR y lo bo r v):BK y r v:=by
 cases r with
 |one c|agg cs=>exact Ol h d
 | AG xs=>
  obtain⟨arr,e,d⟩:=d;refine⟨arr,e,?_⟩
  have key:∀(xs:List (Bool×List AC)) (us:List Value),(xs.all fun x=>x.2.all BB)=true->AS (fun z q=>Fo y lo bo (DI z) q) xs us->AS (fun z q=>Dg y (DI z) q) xs us:=by
   intro xs
   induction xs with
   | nil=>intro us _ a;cases us <;> first | trivial | exact a.elim
   | cons z xs f=>
    intro us b a;cases us with
    | nil=>exact a.elim
    | cons q us=>
     simp only[List.all_cons,Bool.and_eq_true] at b;refine⟨?_,f us b.2 a.2⟩;obtain⟨g,cs⟩:=z;have h3:=a.1;cases g with
     | true=>exact Ol (r:= .agg cs) b.1 h3
     | false=>
      cases cs with
      | nil=>exact Or.inl rfl
      | cons c cs=>
       simp only[List.all_cons,Bool.and_eq_true] at b;exact Ol (r:= .one c) b.1.1 h3
  exact key xs arr.toList h d
def IQ (args:List AV):Bool:=args.all fun c=>match c with | .AG _=>false | c=>c.all EM
theorem RC {x y:Cx} (h:∀b,x.I b->y.I b/\y.w.heap[b]? =x.w.heap[b]?) (hw:y.w=x.w) (d:x.cv 0=0) (f:y.cv 0=0) (a:y.β 0=x.β 0):∀{l:List AV} {vs:List Value},IQ l=true->AS (BK x) l vs->AS (BK y) l vs
 | [],[],_,_=>trivial
 | .one c::l,_::_,e,r=>by
  have e':(EM c&&IQ l)=true:=e;simp only[Bool.and_eq_true] at e';exact⟨r.1.imp (fun q=>q) (RD h hw d f a e'.1),RC h hw d f a e'.2 r.2⟩
 | .agg c::l,_::_,e,r=>by
  have e':(c.all EM&&IQ l)=true:=e;simp only[Bool.and_eq_true] at e';obtain⟨arr,g,i⟩:=r.1;refine⟨⟨arr,g,?_⟩,RC h hw d f a e'.2 r.2⟩;exact all e'.1 i
 | .AG _::_,_::_,e,_=>by simp[IQ] at e
 |[],_::_,_,r|_::_,[],_,r=>r.elim
where
 all:∀{cs:List AC} {vs:List Value},cs.all EM=true->AS (Ap x) cs vs->AS (Ap y) cs vs
  | [],[],_,_=>trivial
  | _::_,_::_,e,r=>by simp only[List.all_cons,Bool.and_eq_true] at e;exact⟨RD h hw d f a e.1 r.1,all e.2 r.2⟩
  |[],_::_,_,r|_::_,[],_,r=>r.elim
theorem ju:∀{xs:List (Bool×List AC)},(xs.all fun x=>x.2.all JH)=true->(xs.flatMap (·.2)).all JH=true:=fun {xs} h=>by
 rw[List.all_flatMap];exact h
theorem Vb {f:FuncId} {n:Nat} {c:Code} {rs:List ResultVar} (F:Fn P TI f n c rs) {a:AL} {args:List AV} {r:AV} (hp:IQ args=true) (H:r.all BB=true) (B:a.lone=true) (Z:args.length<=n) (a1:0<n)
  (h:Cr (env P) TI n c (MF TI rs r a) (Cw n args (some a))):Bv P f args a r:=by
 obtain⟨fn,T,p,hb,D,J⟩:=F.get;refine⟨⟨fn,c,T,p,hb⟩,⟨H,B⟩,fun w I ob vs R A K l=>?_⟩;refine calls_of_wp T hb ?_;obtain⟨n',rfl⟩:∃n',n=n'+1:=⟨n-1,by omega⟩
 have j:a.AQ=0:=by cases a <;> simp_all [AL.lone,AL.AQ]
 have y:a.live=true:=by cases a <;> simp_all [AL.lone,AL.live]
 have s:∀b,I b->(cx ⟨fun b=>ob=some b,fun b=>I b\/w.heap.size<=b,ob⟩ w (β0 ob) (AF (Cw (n'+1) args (some a)).bk)).I b/\w.heap[b]? =w.heap[b]? :=fun b hb=>
  ⟨⟨⟨(R b hb).1,fun id _ e=>by
   unfold β0 at e
   split at e
   ·exact (R b hb).2 e
   cases e⟩,.inl hb⟩,rfl⟩
 have t:AQ (AF (Cw (n'+1) args (some a)).bk) 0=0:=j
 have U:BI w ⟨fun b=>ob=some b,fun b=>I b\/w.heap.size<=b,ob⟩ (β0 ob) (Cw (n'+1) args (some a)) {tmps:=vs.toArray++Array.replicate (n'+1-vs.toArray.size) undef,defers:=[]} w:=
  BI.start (X:=⟨fun b=>ob=some b,fun b=>I b\/w.heap.size<=b,ob⟩) Z (fun _ e=>e) (fun b hb=> .inr hb) (fun b e=>by cases e;exact⟨j,K,by omega⟩)
   (RC (x:=Bw w ob I) s rfl rfl t rfl hp l)
   (fun b e=>by cases e;exact OM (x:=Bw w ob I) s rfl rfl B A)
 rw[D];refine wp_mono (Ez F.mixed (fun o ho=>SZ F.ty o ho) F.dst (by simp[Cw,Gi];omega) U h) fun e O w' he=>?_
 obtain⟨x,s',β',rfl,g,_,S⟩:=he
 have fin:MF TI rs r a x s'->(∀i,x≠ .exit i)->O.defers=[]/\∃v,(results fn O.tmps).run P w'= .ok v w'/\∃u,Ending.returned v= .returned u/\
   (w'.os=w.os/\w'.tape=w.tape/\w'.output=w.output/\w.heap.size<=w'.heap.size/\∀k,k<w.heap.size->ob≠some k->w'.heap[k]? =w.heap[k]?)/\
   (∀(b:Nat) arr e,ob=some b->w.heap[b]? =some (.cells arr e (0,0))->∃d,w'.heap[b]? =some (.cells d e (0,0))/\d.size=arr.size)/\
   BK (Bw w' ob fun k=>(I k\/w.heap.size<=k)/\k<w'.heap.size/\ob≠some k) r u/\
   Cc (Bw w' ob fun k=>(I k\/w.heap.size<=k)/\k<w'.heap.size/\ob≠some k) 0 a:=by
  intro g hx;refine⟨S.defers,?_⟩
  have G:∃xs,Hu TI s' rs=some xs/\(Ht (AF s'.bk) xs r.EF/\(xs.all fun x=>x.2.all JH)=true/\(rs.length=1↔∀ys,r≠ .AG ys))/\AF s'.bk 0=some a:=by
   unfold MF at g
   split at g
   ·exact absurd rfl (hx _)
   split at g
   ·rename_i xs N
    exact⟨xs,N,g ()⟩
   exact g.elim
  obtain⟨xs,V,⟨Q,h3,W⟩,z⟩:=G;obtain⟨us,ws,k1,k2,k3⟩:=On F.ty S V Q;have M:AQ (AF s'.bk) 0=0:=by rw[EB z];exact j
  have m:live (AF s'.bk) 0:=⟨_,z,y⟩;obtain⟨q,L⟩:=S.KM m M
  have Y:∀b,(cx ⟨fun b=>ob=some b,fun b=>I b\/w.heap.size<=b,ob⟩ w' β' (AF s'.bk)).I b->(Bw w' ob fun k=>(I k\/w.heap.size<=k)/\k<w'.heap.size/\ob≠some k).I b/\w'.heap[b]? =w'.heap[b]? :=
   fun b hb=>⟨⟨hb.2,hb.1.1,fun e=>hb.1.2 0 m (q.trans e)⟩,rfl⟩
  have g1:=Y4 (I:=I) (lo:=0) (bo:=none) S (fun b hb=>hb) m q (ju h3) (VY H) (Yy Q) k2;have hlen:us.length=rs.length:=k1.length.symm;refine⟨Hq us,SG (by rw[J];exact k1),Hq us,rfl,⟨S.os,S.tape,S.output,S.size,fun b hb C=>S.block b hb C⟩,L,lT H (QX (by rw[hlen];exact W) (k3 _ _ _ g1)),?_⟩;exact OM Y rfl q.symm B (S.blocks 0 a z)
 cases x with
 |Cu|ret=>exact fin g (by simp)
 | exit i=>exact g.elim
def GD:AC->Bool
 |.int _ _|.bool _|.fn _|.nil=>true
 | .own t _ _=>t.flat
 | _=>false
theorem gh {w:World} {I a:Nat->Prop} {lo:Nat} {bo:Option Nat}:∀{c:AC} {v:Value},GD c=true->C6 (DC w I) lo bo c v->C6 (DC w a) lo bo c v
 |.int _ _,_,_,r|.bool _,_,_,r|.fn _,_,_,r|.nil,_,_,r=>r
 | .own t l n,_,h,⟨j,base,cap,e,d,f,h3,g⟩=>⟨j,base,cap,e,d,f,h3,g.imp (fun q=>q) fun⟨b,arr,ty,k1,k2,m,o,p,s⟩=>⟨b,arr,ty,k1,k2,m,o,p,fun i y k=>by
  obtain⟨us,u,x⟩:=s i y k;exact⟨us,MQ (I:=I) (w:=w) t y us h u,x⟩⟩⟩
 |.BY,_,h,_|.sl _ _,_,h,_|.AN _ _ _ _ _,_,h,_|.C9 _ _ _ _ _,_,h,_|.Ab _ _ _,_,h,_|.Ch _ _ _ _ _,_,h,_|.CX _ _ _,_,h,_|.Cy _ _,_,h,_|.CZ _ _,_,h,_|.ub _,_,h,_=>by simp[GD] at h
def Ie:AC->AC
 | .own t l _=> .sl t l
 | c=>c
def Rx:AV->AV
 | .one c=> .one (Ie c)
 | .agg cs=> .agg (cs.map Ie)
 | .AG xs=> .AG (xs.map fun x=>(x.1,x.2.map Ie))
theorem XQ {x y:Cx} {lo Lw:Nat} {bo LY:Option Nat} {p:AC->Bool} {g:AC->AC} (n:g .BY= .BY) (h:∀c v,p c=true->C6 x lo bo c v->C6 y Lw LY (g c) v) {r:AV} {v:Value} (k:r.all p=true) (b:GR x lo bo r v):
  GR y Lw LY (match r with | .one c=> .one (g c) | .agg cs=> .agg (cs.map g) | .AG xs=> .AG (xs.map fun x=>(x.1,x.2.map g))) v:=by
 have l:∀{cs:List AC} {vs:List Value},cs.all p=true->AS (C6 x lo bo) cs vs->AS (C6 y Lw LY) (cs.map g) vs:=by
  intro cs
  induction cs with
  | nil=>intro vs _ h;cases vs <;> first | trivial | exact h.elim
  | cons c cs m=>intro vs j a;cases vs with
   | nil=>exact a.elim
   | cons u us=>
    simp only[List.all_cons,Bool.and_eq_true] at j;exact⟨h _ _ j.1 a.1,m j.2 a.2⟩
 cases r with
 | one c=>
  rcases b with rfl | b
  ·exact .inl n
  exact .inr (h _ _ k b)
 | agg cs=>obtain⟨arr,e,b⟩:=b;exact⟨arr,e,l k b⟩
 | AG xs=>
  obtain⟨arr,e,b⟩:=b;refine⟨arr,e,?_⟩
  have key:∀(xs:List (Bool×List AC)) (us:List Value),(xs.all fun x=>x.2.all p)=true->AS (fun z q=>Fo x lo bo (DI z) q) xs us->AS (fun z q=>Fo y Lw LY (DI z) q) (xs.map fun x=>(x.1,x.2.map g)) us:=by
   intro xs
   induction xs with
   | nil=>intro us _ a;cases us <;> first | trivial | exact a.elim
   | cons z xs m=>
    intro us f a;cases us with
    | nil=>exact a.elim
    | cons q us=>
     simp only[List.all_cons,Bool.and_eq_true] at f;refine⟨?_,m us f.2 a.2⟩;obtain⟨t,cs⟩:=z;have h3:=a.1;cases t with
     | true=>obtain⟨d,e',h3⟩:=h3;exact⟨d,e',l f.1 h3⟩
     | false=>
      cases cs with
      | nil=>exact Or.inl rfl
      | cons c cs=>
       simp only[List.all_cons,Bool.and_eq_true] at f;rcases h3 with i | h3
       ·have i:c= .BY:=i;subst i;exact .inl n
       exact .inr (h _ _ f.1.1 h3)
  exact key xs arr.toList k b
theorem I7 {f:FuncId} {args:List AV} {r:AV} (j:r.all GD=true) (h:E8 P false f args r):E8 P true f args r:=by
 refine⟨h.1,h.2.1,fun w I vs d a=>(h.2.2 w I vs d a).mono fun e w' ⟨u,bo,he,hb,hu⟩=>⟨u,bo,he,hb,?_⟩⟩;have:=XQ (g:=fun c=>c) (y:=DC w' fun b=>((true=false/\I b)\/w.heap.size<=b)/\b<w'.heap.size/\bo≠some b) rfl (fun c v i=>gh i) j hu;cases r <;> simpa using this
theorem kU {w:World} {J:Nat->Prop} {lo:Nat} {bo:Option Nat}:∀{c:AC} {v:Value},CB c=true->C6 (DC w fun b=>(J b\/lo<=b)/\b<w.heap.size/\bo≠some b) lo bo c v->C6 (DC w fun b=>(J b\/lo<=b)/\b<w.heap.size/\(none:Option Nat)≠some b) lo none (Ie c) v
 | .own t l n,v,_,⟨A,base,cap,e,g,z,h3,j⟩=>by
  refine⟨base,cap,by rw[e],g,h3,?_⟩;rcases j with⟨_,q,_⟩ |⟨b,arr,ty,k1,k2,o,p,B,s⟩
  ·exact .inl q
  have a:b<w.heap.size:=by
   rcases Nat.lt_or_ge b w.heap.size with h' | h'
   ·exact h'
   have d:w.heap[b]? =_:=p;simp[Array.getElem?_eq_none h'] at d
  refine .inr ⟨b,0,o,⟨.inr k2,a,by simp⟩,fun i y m=>?_⟩;obtain⟨us,u,x⟩:=s i y m;exact⟨us,CD (w':=w) (fun b hb=>⟨⟨hb.1,hb.2.1,by simp⟩,rfl⟩) _ _ _ u,by rw[Nat.zero_add];exact x⟩
 |.int _ _,_,_,r|.bool _,_,_,r|.fn _,_,_,r|.nil,_,_,r|.BY,_,_,r=>r
 | .sl _ _,_,_,r=>CD (w':=w) (fun b hb=>⟨⟨hb.1,hb.2.1,by simp⟩,rfl⟩) _ _ _ r
 |.AN _ _ _ _ _,_,h,_|.C9 _ _ _ _ _,_,h,_|.Ab _ _ _,_,h,_|.Ch _ _ _ _ _,_,h,_=>by simp[CB,BB] at h
 | .CX _ _ _,_,_,⟨b,o',us,e,f,k,ha⟩=>⟨b,o',us,e,⟨f.1,f.2.1,by simp⟩,CD (w':=w) (fun b hb=>⟨⟨hb.1,hb.2.1,by simp⟩,rfl⟩) _ _ _ k,ha⟩
 | .CZ _ _,_,_,⟨us,e,r⟩=>⟨us,e,r.mono fun _ _=>FR.mono (w':=w) fun b hb=>⟨⟨hb.1,hb.2.1,by simp⟩,rfl⟩⟩
 |.Cy _ _,_,h,_|.ub _,_,h,_=>by simp[CB,BB] at h
theorem C8 {k:Bool} {f:FuncId} {args:List AV} {r:AV} (h:E8 P k f args r):E8 P k f args (Rx r):=by
 have d:∀c,CB c=true->CB (Ie c)=true:=fun c d=>by cases c <;> simp_all [Ie,CB,BB]
 have i:∀{cs:List AC},cs.all CB=true->(cs.map Ie).all CB=true:=fun {cs} h=>by
  rw[List.all_eq_true] at h ⊢;intro x j;obtain⟨y,m,rfl⟩:=List.mem_map.1 j;exact d y (h y m)
 refine⟨h.1,⟨?_,?_⟩,fun w I vs l a=>(h.2.2 w I vs l a).mono fun e w' ⟨u,bo,he,hb,hu⟩=>⟨u,none,he,hb,?_⟩⟩
 ·have:=h.2.1.1;cases r with
  | one c=>exact d c this
  | agg cs=>exact i this
  | AG xs=>
   simp only[Rx,AV.all,List.all_map] at this ⊢;rw[List.all_eq_true] at this ⊢;exact fun x j=>i (this x j)
 ·have:=h.2.1.2;cases r with
  |one c|agg cs=>rfl
  | AG xs=>
   simp only[Rx,AV.wf,List.all_map] at this ⊢;rw[List.all_eq_true] at this ⊢;exact fun x j=>by simpa using this x j
 have:=XQ (g:=Ie) (LY:=none) (Lw:=w.heap.size) (y:=DC w' fun b=>((k=false/\I b)\/w.heap.size<=b)/\b<w'.heap.size/\(none:Option Nat)≠some b) rfl (fun c v d=>kU (J:=fun b=>k=false/\I b) d) h.2.1.1 hu;cases r <;> exact this
end
def zC:AC->Value->Bool
 | .int k n,.int k' n'=>k==k'&&n==n'
 | .bool b,.bool b'=>b==b'
 |.nil,.slice none 0 0|.sl _ [],.slice none 0 0=>true
 | _,_=>false
def Ja:List AC->List Value->Bool
 | [],[]=>true
 | c::cs,v::vs=>zC c v&&Ja cs vs
 | _,_=>false
theorem oY {c:AC} {v:Value} (h:zC c v=true) (x:Cx):Ap x c v:=by
 unfold zC at h
 split at h
 ·simp only[Bool.and_eq_true,beq_iff_eq] at h;obtain⟨rfl,rfl⟩:=h
  rfl
 ·simp only[beq_iff_eq] at h;subst h
  rfl
 ·rfl
 ·exact⟨none,0,rfl,Nat.le_refl _,by simp,.inl rfl⟩
 cases h
theorem S5:∀{cs:List AC} {vs:List Value},Ja cs vs=true->∀x,AS (Ap x) cs vs
 | [],[],_,_=>trivial
 | _::_,_::_,h,x=>by simp only[Ja,Bool.and_eq_true] at h;exact⟨oY h.1 x,S5 h.2 x⟩
 |[],_::_,h,_|_::_,[],h,_=>by simp[Ja] at h
def VN (P:Program) (t:TypeId) (i:Info):Bool:=
 match P.info? t with
 | some ti=>match P.underlying t with
  | some d=>match ti.zero with
   | some z=>ti.size==i.size&&Ja i.zero z.cells.toList&&d.isRow==i.agg&&(i.agg||i.size==1)
   | none=>false
  | none=>false
 | none=>false
def VM (P:Program) (t:TypeId) (k:IntKind):Bool:=
 match P.underlying t with
 | some (.int k')=>k'==k
 | _=>false
def VO (P:Program) (t:TypeId) (i:Info):Bool:=
 match P.underlying t with
 | some (.slice e)=>e==i.Ct&&(match P.info? i.Ct with
  | some ei=>match ei.zero with
   | some z=>ei.size==i.elem.size&&ei.bytes==i.Ee&&decide (0<ei.bytes)&&Ja (cells i.elem i.By) z.cells.toList
   | none=>false
  | none=>false)
 | _=>false
def QO (P:Program) (p:Nat×Nat×Bool) (fl:Field):Bool:=
 match P.info? fl.type with
 | some ti=>match P.underlying fl.type with
  | some d=>fl.offset==p.1&&ti.size==p.2.1&&decide (0<p.2.1)&&d.isRow==p.2.2&&(p.2.2||p.2.1==1)
  | none=>false
 | none=>false
def J7 (P:Program):List (Nat×Nat×Bool)->List Field->Bool
 | [],[]=>true
 | p::ps,f::fs=>QO P p f&&J7 P ps fs
 | _,_=>false
def VK (P:Program) (t:TypeId) (i:Info):Bool:=
 match P.underlying t with
 | some (.struct fs)=>J7 P i.fields fs.toList
 | _=>false
def VJ (P:Program) (t:TypeId):Bool:=
 match P.underlying t with
 | some .bool=>true
 | _=>false
def VP (P:Program) (t:TypeId) (i:Info):Bool:=
 (!i.known||VN P t i)&&(match i.kind with | some k=>VM P t k | none=>true)&&(!i.sl||VO P t i)&&(!i.OF||VJ P t)&&(!i.known||i.fields.isEmpty||VK P t i)
theorem VL {P:Program}:∀{ps:List (Nat×Nat×Bool)} {fs:List Field},J7 P ps fs=true->ps.length=fs.length/\∀(f:Nat) (p:Nat×Nat×Bool),ps[f]? =some p->∃b,fs[f]? =some b/\QO P p b=true
 | [],[],_=>⟨rfl,fun f p h=>by simp at h⟩
 | p::ps,f::fs,h=>by
  simp only[J7,Bool.and_eq_true] at h;obtain⟨c,d⟩:=VL h.2;refine⟨by simp[c],fun i q a=>?_⟩;cases i with
  | zero=>simp at a;subst a;exact⟨f,rfl,h.1⟩
  | succ i=>simpa using d i q (by simpa using a)
 |[],_::_,h|_::_,[],h=>by simp[J7] at h
theorem Sr {P:Program} {t:TypeId} {i:Info} (h:VP P t i=true):DW P t i:=by
 simp only[VP,Bool.and_eq_true] at h;obtain⟨⟨⟨⟨a,b⟩,h3⟩,q⟩,o⟩:=h;refine⟨fun p=>?_,fun k p=>?_,fun hb=>?_,fun hs=>?_,fun p B=>?_⟩
 ·simp only[p,Bool.not_true,Bool.false_or] at a;unfold VN at a
  split at a
  ·rename_i v j
   split at a
   ·rename_i d l
    split at a
    ·rename_i z m
     simp only[Bool.and_eq_true,beq_iff_eq,Bool.or_eq_true] at a;obtain⟨⟨⟨r,s⟩,a3⟩,a4⟩:=a;exact⟨v,z,d,j,r,m,S5 s,l,a3,fun ha=>a4.resolve_left (by simp[ha])⟩
    cases a
   cases a
  cases a
 ·rw[p] at b;simp only at b;unfold VM at b
  split at b
  ·rename_i k' e;rw[e];simp only[beq_iff_eq] at b;rw[b]
  cases b
 ·simp only[hb,Bool.not_true,Bool.false_or] at q;unfold VJ at q
  split at q
  ·assumption
  cases q
 ·simp only[hs,Bool.not_true,Bool.false_or] at h3;unfold VO at h3
  split at h3
  ·rename_i e j
   simp only[Bool.and_eq_true,beq_iff_eq] at h3;obtain⟨rfl,h3⟩:=h3;refine⟨j,?_⟩
   split at h3
   ·rename_i y l
    split at h3
    ·rename_i z m
     simp only[Bool.and_eq_true,beq_iff_eq,decide_eq_true_eq] at h3;obtain⟨⟨⟨r,s⟩,a3⟩,a4⟩:=h3;exact⟨y,z,l,r,s,a3,m,S5 a4⟩
    cases h3
   cases h3
  cases h3
 have u:i.fields.isEmpty=false:=by cases D:i.fields with
  | nil=>exact absurd D B
  | cons _ _=>rfl
 simp only[p,u,Bool.not_true,Bool.false_or] at o;unfold VK at o
 split at o
 ·rename_i fs j
  obtain⟨g1,g2⟩:=VL o;refine⟨fs,j,by simpa using g1,fun f H n g F=>?_⟩;obtain⟨A,G,c⟩:=g2 f _ F;unfold QO at c
  split at c
  ·rename_i v l
   split at c
   ·rename_i d m
    simp only[Bool.and_eq_true,beq_iff_eq,decide_eq_true_eq,Bool.or_eq_true] at c;obtain⟨⟨⟨⟨b1,b2⟩,b3⟩,w⟩,x⟩:=c;exact⟨A,d,by simpa using G,b1,by rw[l];exact congrArg some b2,b3,m,w,fun C=>x.resolve_left (by simp[C])⟩
   cases c
  cases c
 cases o
def Xp:Info:={known:=false,By:=false}
theorem oF (P:Program) (t:TypeId):DW P t Xp:=Sr (by rfl)
abbrev aB:T:= .pr .bool (.sl .u32)
abbrev AA:T:= .pr aB aB
abbrev At:T:= .pr (.sl (.sl AA)) (.sl AA)
abbrev Ai:T:= .pr At At
abbrev Bn:T:= .pr .u8 (.pr .u8 (.pr .u8 (.pr .i8 .u8)))
def TI:TypeId->Info
 |2|3=>{size:=1,zero:=[.int .i64 0],kind:=some .i64,By:=false}
 | 4=>{size:=1,zero:=[.bool false],OF:=true,By:=false}
 | 5=>{size:=1,zero:=[.int .u8 0],kind:=some .u8,By:=false}
 |22|23=>{size:=1,zero:=[.nil],sl:=true,Ct:=135,elem:=Bn,By:=((0,0,0,0,0):el Bn),Ee:=5}
 | 33=>{size:=1,zero:=[.nil],sl:=true,Ct:=34,elem:=(.sl AA),By:=([]:el (.sl AA)),Ee:=24}
 | 34=>{size:=1,zero:=[.nil],sl:=true,Ct:=69,elem:=AA,By:=(((false,[]),(false,[])):el AA),Ee:=64}
 | 36=>{size:=2,zero:=[.nil,.nil],agg:=true,By:=false,fields:=[(0,1,false),(1,1,false)]}
 | 47=>{size:=1,zero:=[.int .i64 0],kind:=some .i64,By:=false}
 | 56=>{size:=1,zero:=[.nil],sl:=true,Ct:=36,elem:=At,By:=(([],[]):el At),Ee:=48}
 | 24=>{size:=1,zero:=[.nil],sl:=true,Ct:=5,elem:= .u8,By:=(0:el .u8),Ee:=1}
 | 26=>{size:=2,zero:=[.nil,.nil],agg:=true,By:=false,fields:=[(0,1,false),(1,1,false)]}
 | 32=>{size:=1,zero:=[.nil],sl:=true,Ct:=40,elem:=Ai,By:=((([],[]),([],[])):el Ai),Ee:=96}
 | 40=>{size:=4,zero:=[.nil,.nil,.nil,.nil],agg:=true,By:=false,fields:=[(0,2,true),(2,2,true)]}
 | 65=>{size:=1,zero:=[.nil],sl:=true,Ct:=229,elem:= .u32,By:=(0:el .u32),Ee:=4}
 | 67=>{size:=2,zero:=[.bool false,.nil],agg:=true,By:=false,fields:=[(0,1,false),(1,1,false)]}
 | 69=>{size:=4,zero:=[.bool false,.nil,.bool false,.nil],agg:=true,By:=false,fields:=[(0,2,true),(2,2,true)]}
 | 133=>{size:=1,zero:=[.int .i8 0],kind:=some .i8,By:=false}
 | 135=>{size:=5,zero:=[.int .u8 0,.int .u8 0,.int .u8 0,.int .i8 0,.int .u8 0],agg:=true,By:=false,fields:=[(0,1,false),(1,1,false),(2,1,false),(3,1,false),(4,1,false)]}
 | 258=>{size:=2,zero:=[.nil,.nil],agg:=true,By:=false,fields:=[(0,1,false),(1,1,false)]}
 | 229=>{size:=1,zero:=[.int .u32 0],kind:=some .u32,By:=false}
 |248|263=>{size:=1,zero:=[.int .u64 0],kind:=some .u64,By:=false}
 | _=>Xp
theorem Mj (t:TypeId):DW Tryz.prog t (TI t):=by
 unfold TI
 split <;> first | exact oF _ _ | exact Sr (by kernel_rfl)
theorem JG:Tryz.prog.follows .mixedOrders=true:=by kernel_rfl
def FD (fn : Func) : Bool := (fn.name == "runtime.NumGoroutine") == false && match fn.body with | some c => GY c | none => false
def LZ (E:Env) (fn:Func) (r:AV) (b1:Option AL) (s:St):Prop:=
 match fn.body with
 | some c=>Cr E TI fn.ntmps c (post TI fn.results.toList r b1) s
 | none=>False
theorem dy {f:FuncId} {fn:Func} (g:Tryz.prog.funcs[f]? =some fn) (a:FD fn=true) {args:List AV} {r:AV} (b:(Ih args&&(r.all CB&&(r.wf&&Nat.ble args.length fn.ntmps)))=true)
  (h:∀E,env Tryz.prog=E->LZ E fn r none (Cw fn.ntmps args none)):E8 Tryz.prog false f args r:=by
 have h:=h _ rfl;unfold LZ at h;unfold FD at a;simp only[Bool.and_eq_true] at a b
 split at h
 ·rename_i c d
  rw[d] at a;exact UL (TI:=TI) (n:=fn.ntmps) (c:=c) (rs:=fn.results.toList) ⟨⟨fn,g,by simpa using a.1,d,rfl,rfl⟩,a.2,Mj,JG⟩ b.1 ⟨b.2.1,b.2.2.1⟩ (Nat.le_of_ble_eq_true b.2.2.2) h
 exact h.elim
theorem LS {f:FuncId} {fn:Func} (j:Tryz.prog.funcs[f]? =some fn) (a:FD fn=true) {g:AC} {d b1:AL} {args:List AV} {r:AV} (b:(Ih args&&(r.all Bg&&(Nat.ble (args.length+1) fn.ntmps&&(EM g&&(d.lone&&b1.lone)))))=true)
  (h:∀E,env Tryz.prog=E->LZ E fn r (some b1) (Cw fn.ntmps (.one g::args) (some d))):GN Tryz.prog f g d args r b1:=by
 have h:=h _ rfl;unfold LZ at h;unfold FD at a;simp only[Bool.and_eq_true] at a b
 split at h
 ·rename_i c i
  rw[i] at a;exact Uf (TI:=TI) (n:=fn.ntmps) (c:=c) (rs:=fn.results.toList) ⟨⟨fn,j,by simpa using a.1,i,rfl,rfl⟩,a.2,Mj,JG⟩ b.1 b.2.1 b.2.2.2 (Nat.le_of_ble_eq_true b.2.2.1) h
 exact h.elim
def Uv (E:Env) (fn:Func) (r:AV) (b0:AL) (s:St):Prop:=
 match fn.body with
 | some c=>Cr E TI fn.ntmps c (MF TI fn.results.toList r b0) s
 | none=>False
theorem Hi {f:FuncId} {fn:Func} (i:Tryz.prog.funcs[f]? =some fn) (b:FD fn=true) {d:AL} {args:List AV} {r:AV} (a:(IQ args&&(r.all BB&&(d.lone&&(Nat.ble args.length fn.ntmps&&Nat.ble 1 fn.ntmps))))=true)
  (h:∀E,env Tryz.prog=E->Uv E fn r d (Cw fn.ntmps args (some d))):Bv Tryz.prog f args d r:=by
 have h:=h _ rfl;unfold Uv at h;unfold FD at b;simp only[Bool.and_eq_true] at b a
 split at h
 ·rename_i c g
  rw[g] at b;exact Vb (TI:=TI) (n:=fn.ntmps) (c:=c) (rs:=fn.results.toList) ⟨⟨fn,i,by simpa using b.1,g,rfl,rfl⟩,b.2,Mj,JG⟩ a.1 a.2.1 a.2.2.1 (Nat.le_of_ble_eq_true a.2.2.2.1) (Nat.le_of_ble_eq_true a.2.2.2.2) h
 exact h.elim
theorem F2 {E:Env} {f:FuncId} {args:List AV} {a:AL} {r:AV} (b:env Tryz.prog=E) (h:Bv Tryz.prog f args a r):E.D f args a r:=b ▸ h
def pB:AV->Nat
 | .one (.sl _ l)=>l.length
 | _=>0
def o9:AV->Int
 | .one (.int _ n)=>n
 | _=>0
theorem E6 {E:Env} {a:Bool} {f:FuncId} {args:List AV} {r:AV} (b:env Tryz.prog=E) (h:E8 Tryz.prog a f args r):E.C a f args r:=b ▸ h
theorem Dm {E:Env} {f:FuncId} {b:AC} {a b1:AL} {args:List AV} {r:AV} (c:env Tryz.prog=E) (h:GN Tryz.prog f b a args r b1):E.B f b a args r b1:=c ▸ h
theorem Sv {E:Env} {f:FuncId} {t:T} {l l':List (el t)} {args:List AV} (a:env Tryz.prog=E) (h:Mv Tryz.prog f t l args l'):E.G f t l args l':=a ▸ h
abbrev LR:=List (el AA)
abbrev CF:=E8 Tryz.prog false
theorem cL {E:Env} {b:Bool} {g:FuncId} {args:List AV} {r:AV} {L:List AV->Prop} {K:AV->Prop} {X:Prop} (c:env Tryz.prog=E) (h:E8 Tryz.prog b g args r) (f:L args) (d:K r):
 (∃(a:List AV) (r:AV),(Unit->L a)/\(Unit->E.C b g a r)/\K r)\/X:= .inl ⟨args,r,fun _=>f,fun _=>E6 c h,d⟩
theorem fA {A B C:Prop} (h:A) (hb:B) (a:C):(Unit->A/\B/\C)/\True:=⟨fun _=>⟨h,hb,a⟩,trivial⟩
theorem i64 {c:Int} (h: -9223372036854775808<=c/\c<9223372036854775808):Hm c:=h
theorem g2 {P:Sort _} {A C:Prop} (a:A) (h:C):(P->A)/\C:=⟨fun _=>a,h⟩
theorem g1 {P:Sort _} {C:Prop} {x:Int} (a: -9223372036854775808<=x/\x<9223372036854775808) (h:C):(P->Hm x)/\C:=⟨fun _=>i64 a,h⟩
theorem t1 {α:Sort _} {a:α}:a=a/\True:=⟨rfl,trivial⟩
theorem t2 {α β:Sort _} {a:α} {b:β}:a=a/\b=b/\True:=⟨rfl,t1⟩
theorem t3 {α β γ:Sort _} {a:α} {b:β} {c:γ}:a=a/\b=b/\c=c/\True:=⟨rfl,t2⟩
theorem t4 {α β γ δ:Sort _} {a:α} {b:β} {c:γ} {d:δ}:a=a/\b=b/\c=c/\d=d/\True:=⟨rfl,t3⟩
theorem xR (a:LR):∃z:LR,z=a:=⟨_,rfl⟩
theorem xV (a:List LR):∃z:List LR,z=a:=⟨_,rfl⟩
theorem xN (a:Nat):∃z:Nat,z=a:=⟨_,rfl⟩
theorem xI (a:Int):∃z:Int,z=a:=⟨_,rfl⟩
theorem xB (a:Bool):∃z:Bool,z=a:=⟨_,rfl⟩
theorem xU (a:List UInt32):∃z:List UInt32,z=a:=⟨_,rfl⟩
theorem xJ (a:List AV->List AL->Nat->Prop):∃J:List AV->List AL->Nat->Prop,J=a:=⟨_,rfl⟩
theorem xK (a:List AV->List AL->Prop):∃J:List AV->List AL->Prop,J=a:=⟨_,rfl⟩
abbrev lsE:AC:= .sl (.sl AA) []
abbrev lsF:AC:= .sl AA []
abbrev BD (b:Bool) (l:List UInt32):List AC:=[.bool b,.sl .u32 l]
abbrev BS (b:Bool) (l:List UInt32) (c:Bool) (m:List UInt32):List AC:=[.bool b,.sl .u32 l,.bool c,.sl .u32 m]
abbrev AR (T1:List (List (el AA))) (A1:List (el AA)):List AC:=[.sl (.sl AA) T1,.sl AA A1]
abbrev Af (T1:List (List (el AA))) (A1:List (el AA)) (T2:List (List (el AA))) (A2:List (el AA)):List AC:=[.sl (.sl AA) T1,.sl AA A1,.sl (.sl AA) T2,.sl AA A2]
abbrev EW (T1:List (List (el AA))) (A1:List (el AA)) (T2:List (List (el AA))) (A2:List (el AA)) (T3:List (List (el AA))) (A3:List (el AA)):List AC:=[.sl (.sl AA) T1,.sl AA A1,.sl (.sl AA) T2,.sl AA A2,.sl (.sl AA) T3,.sl AA A3]
abbrev pD (T1:List (List (el AA))) (A1:List (el AA)) (T2:List (List (el AA))) (A2:List (el AA)) (T3:List (List (el AA))) (A3:List (el AA)) (T4:List (List (el AA))) (A4:List (el AA)):List AC:=[.sl (.sl AA) T1,.sl AA A1,.sl (.sl AA) T2,.sl AA A2,.sl (.sl AA) T3,.sl AA A3,.sl (.sl AA) T4,.sl AA A4]
abbrev pE (T1:List (List (el AA))) (A1:List (el AA)) (T2:List (List (el AA))) (A2:List (el AA)) (T3:List (List (el AA))) (A3:List (el AA)) (T4:List (List (el AA))) (A4:List (el AA)) (T5:List (List (el AA))) (A5:List (el AA)):List AC:=[.sl (.sl AA) T1,.sl AA A1,.sl (.sl AA) T2,.sl AA A2,.sl (.sl AA) T3,.sl AA A3,.sl (.sl AA) T4,.sl AA A4,.sl (.sl AA) T5,.sl AA A5]
abbrev pC (T1:List (List (el AA))) (A1:List (el AA)) (T2:List (List (el AA))) (A2:List (el AA)) (T3:List (List (el AA))) (A3:List (el AA)) (T4:List (List (el AA))) (A4:List (el AA)) (m:Bool):List AC:=[.sl (.sl AA) T1,.sl AA A1,.sl (.sl AA) T2,.sl AA A2,.sl (.sl AA) T3,.sl AA A3,.sl (.sl AA) T4,.sl AA A4,.bool m]
def Mb:AC->Bool
 | .int _ _=>true | .bool _=>true | .fn _=>true | .nil=>true | .sl _ _=>true
 | _=>false
def Kp:List AV->Bool
 | []=>true
 | .one c::l=>Mb c&&Kp l
 | .agg cs::l=>cs.all Mb&&Kp l
 | .AG _::_=>false
theorem W6:∀{c:AC},Mb c=true->BA c c
 |.int _ _,_|.bool _,_|.fn _,_=>rfl
 | .nil,_=> .inl rfl
 | .sl _ _,_=>rfl
theorem US:∀{cs:List AC},cs.all Mb=true->Ao BA cs cs
 | [],_=>trivial
 | c::l,h=>by
  rw[List.all_cons,Bool.and_eq_true] at h;exact⟨W6 h.1,US h.2⟩
theorem P0:∀{a:List AV},Kp a=true->Em BA a a
 | [],_=>trivial
 | .one c::l,h=>by
  unfold Kp at h;rw[Bool.and_eq_true] at h;exact⟨W6 h.1,P0 h.2⟩
 | .agg cs::l,h=>by
  unfold Kp at h;rw[Bool.and_eq_true] at h;exact⟨US h.1,P0 h.2⟩
theorem AB {E:Env} {b:Bool} {g:FuncId} {args:List AV} {r:AV} {K:AV->Prop} {X:Prop} (c:env Tryz.prog=E) (h:E8 Tryz.prog b g args r) (d:K r) (hs:Kp args=true:=by rfl):
 (∃(a:List AV) (r:AV),(Unit->Em BA args a)/\(Unit->E.C b g a r)/\K r)\/X:= .inl ⟨args,r,fun _=>P0 hs,fun _=>E6 c h,d⟩
def OL:AC->AC
 | .AN t _ _ off len=> .AN t 0 0 off len
 | .Ab _ _ off=> .Ab 0 0 off
 | c=>c
def KT:List AV->List AV
 | []=>[]
 | .one c::l=> .one (OL c)::KT l
 | .agg cs::l=> .agg (cs.map OL)::KT l
 | .AG x::l=> .AG x::KT l
def Ke (id v:Nat):AC->Bool
 |.AN _ i w _ _|.Ab i w _=>Nat.beq i id&&Nat.beq w v
 | c=>Mb c
def Kf (id v:Nat):List AV->Bool
 | []=>true
 | .one c::l=>Ke id v c&&Kf id v l
 | .agg cs::l=>cs.all (Ke id v)&&Kf id v l
 | .AG _::_=>false
theorem XD {id v:Nat}:∀{c:AC},Ke id v c=true->IP id v c (OL c)
 | .AN _ i w _ _,h=>by
  unfold Ke at h;rw[Bool.and_eq_true] at h;exact⟨⟨Nat.eq_of_beq_eq_true h.1,Nat.eq_of_beq_eq_true h.2⟩,rfl⟩
 | .Ab i w _,h=>by
  unfold Ke at h;rw[Bool.and_eq_true] at h;exact⟨⟨Nat.eq_of_beq_eq_true h.1,Nat.eq_of_beq_eq_true h.2⟩,rfl⟩
 |.int _ _,_|.bool _,_|.fn _,_=>rfl
 | .nil,_=> .inl rfl
 | .sl _ _,_=>rfl
theorem XB {id v:Nat}:∀{cs:List AC},cs.all (Ke id v)=true->Ao (IP id v) cs (cs.map OL)
 | [],_=>trivial
 | c::l,h=>by
  rw[List.all_cons,Bool.and_eq_true] at h;exact⟨XD h.1,XB h.2⟩
theorem Q9 {id v:Nat}:∀{a:List AV},Kf id v a=true->Em (IP id v) a (KT a)
 | [],_=>trivial
 | .one c::l,h=>by
  unfold Kf at h;rw[Bool.and_eq_true] at h;exact⟨XD h.1,Q9 h.2⟩
 | .agg cs::l,h=>by
  unfold Kf at h;rw[Bool.and_eq_true] at h;exact⟨XB h.1,Q9 h.2⟩
theorem Am {E:Env} {g:FuncId} {args:List AV} {r:AV} {bk:Nat->Option AL} {K:Nat->AV->Prop} {c d f i:Prop} (id v:Nat) (j:env Tryz.prog=E) (h:Bv Tryz.prog g (KT args) (.var 0 [.int .i64 0]) r) (k:K id r) (hb:bk id=some (.var v [.int .i64 0]):=by rfl) (l:Kf id v args=true:=by rfl):
 c\/d\/f\/(∃(id:Nat) (b:AL) (a:List AV) (r:AV),(Unit->bk id=some b/\Em (IP id b.AQ) args a)/\(Unit->E.D g a (b.D7 0) r)/\K id r)\/i:= .inr (.inr (.inr (.inl ⟨id,.var v [.int .i64 0],KT args,r,fun _=>⟨hb,Q9 l⟩,fun _=>F2 j h,k⟩)))
theorem Bj {bk:Nat->Option AL} {t:T}:D4 bk .nil (.sl t []):= .inr (.inl ⟨_,rfl⟩)
theorem AI {P:Sort _} {C:Prop} {x:Int} (h:C) (a: -9223372036854775808<=x/\x<9223372036854775808:=by omega):(P->Hm x)/\C:=⟨fun _=>a,h⟩
theorem AH {P:Sort _} {A C:Prop} (h:C) (a:A:=by omega):(P->A)/\C:=⟨fun _=>a,h⟩
theorem AD {A B C:Prop} (h:A) (hb:B:=by rfl) (a:C:=by simp):(Unit->A/\B/\C)/\True:=⟨fun _=>⟨h,hb,a⟩,trivial⟩
theorem Bc {x:Bool} {K:Bool->Prop} (k:K true) (h:x=true:=by decide):∀c,c=x->K c:=fun _ e=>by rw[e,h];exact k
theorem AU {x:Bool} {K:Bool->Prop} (k:K false) (h:x=false:=by decide):∀c,c=x->K c:=fun _ e=>by rw[e,h];exact k
theorem AJ {f:FuncId} {fn:Func} (a:Tryz.prog.funcs[f]? =some fn) {args:List AV} {r:AV} (h:∀E,env Tryz.prog=E->LZ E fn r none (Cw fn.ntmps args none)) (b:FD fn=true:=by kernel_rfl) (c:(Ih args&&(r.all CB&&(r.wf&&Nat.ble args.length fn.ntmps)))=true:=by rfl):E8 Tryz.prog false f args r:=dy a b c h
open Go.RowKit Go.ChangeShapes Go.WideShapes Go.Deep
def JF (P:Program) (k:IntKind) (t:TypeId):Bool:=match P.underlying t with | some (.int j)=>decide (j=k) | _=>false
def okF (P:Program) (ok:T->TypeId->Bool):T->List Field->Nat->Bool
 | _,[],_=>false
 | t,[f],o=>f.offset==o&&(P.cellsOf f.type==t.size&&ok t f.type)
 | .pr a b,f::fs,o=>(f.offset==o&&(P.cellsOf f.type==a.size&&ok a f.type))&&okF P ok b fs (o+a.size)
 | _,_,_=>false
def Fz (P:Program):Nat->T->TypeId->Bool
 | 0,_,_=>false
 | n+1,τ,t=>match τ with
  | .u8=>JF P .u8 t
  | .u32=>JF P .u32 t
  | .u64=>JF P .u64 t
  | .i8=>JF P .i8 t
  | .i64=>JF P .i64 t
  | .bool=>match P.underlying t with | some .bool=>true | _=>false
  | .sl e=>match P.underlying t with | some (.slice u)=>Fz P n e u&&(P.cellsOf u==e.size&&decide (0<P.bytesOf u)) | _=>false
  | .pr a b=>match P.underlying t with | some (.struct fs)=>okF P (Fz P n) (.pr a b) fs.toList 0&&P.cellsOf t==a.size+b.size | _=>false
theorem HF {P:Program} {k:IntKind} {t:TypeId} (h:JF P k t=true):P.underlying t=some (.int k):=by
 unfold JF at h
 split at h
 ·rename_i j e;rw[e,of_decide_eq_true h]
 simp at h
theorem Sy {k:IntKind} {n:Int} (h:(Lit.int k n).wf=true):k.min<=n/\n<=k.max:=by
 simpa [Lit.wf] using h
theorem YE {H:Type} {enc:TypeId×Value->H} {P:Program} {w:World} {base:Nat} {sp:Nat->Bool} {l:Bool} {n:Nat} {cs:List Value} {ok:T->TypeId->Bool}
  (c:∀(T:T) (t:TypeId) (cs:List Value) (x:DataW H×List MemPlace),ok T t=true->DataW.trod enc P w base sp l n t cs=some x->(∀k∈x.1.weights P t,k<=reachBytes)->∃y:el T,rep w (fun b=>b<w.heap.size) T y cs):
  ∀(T:T) (fs:List Field) (o:Nat),okF P ok T fs o=true->cs.length=o+T.size->
   (∀(i:Nat) (f:Field),fs[i]? =some f->∃x,DataW.trod enc P w base sp l n f.type ((cs.drop f.offset).take (P.cellsOf f.type))=some x/\∀k∈x.1.weights P f.type,k<=reachBytes)->∃y:el T,rep w (fun b=>b<w.heap.size) T y (cs.drop o)
 | T,[],o,h,_,_=>by cases T <;> simp[okF] at h
 | T,[f],o,h,r,d=>by
  have h':(f.offset==o&&(P.cellsOf f.type==T.size&&ok T f.type))=true:=by cases T <;> exact h
  simp only[Bool.and_eq_true,beq_iff_eq] at h';obtain⟨x,d,hw⟩:=d 0 f rfl;rw[h'.1,h'.2.1,List.take_of_length_le (by rw[List.length_drop];omega)] at d;exact c T _ _ _ h'.2.2 d hw
 | .pr a b,f::g::fs,o,h,r,d=>by
  have h':((f.offset==o&&(P.cellsOf f.type==a.size&&ok a f.type))&&okF P ok b (g::fs) (o+a.size))=true:=h;simp only[Bool.and_eq_true,beq_iff_eq] at h';have hs:(T.pr a b).size=a.size+b.size:=rfl;obtain⟨x,j,hw⟩:=d 0 f rfl;rw[h'.1.1,h'.1.2.1] at j;obtain⟨y1,m⟩:=c a _ _ _ h'.1.2.2 j hw;obtain⟨y2,p⟩:=YE c b (g::fs) (o+a.size) h'.2 (by omega) (fun i f q=>d (i+1) f q);refine⟨(y1,y2),_,_,?_,m,p⟩;rw[<-List.drop_drop,List.take_append_drop]
 |.u8,f::g::fs,o,h,_,_|.u32,f::g::fs,o,h,_,_|.u64,f::g::fs,o,h,_,_|.i8,f::g::fs,o,h,_,_|.i64,f::g::fs,o,h,_,_|.bool,f::g::fs,o,h,_,_|.sl _,f::g::fs,o,h,_,_=>by simp[okF] at h
theorem Zv {w:World} {a:Addr} {v:Value} (h:w.cell? a=some v):a.spot=none/\a.block<w.heap.size:=by
 unfold World.cell? at h
 split at h
 ·rename_i c e l b
  refine⟨?_,(Array.getElem?_eq_some_iff.1 b).1⟩;cases hs:a.spot with
  | none=>rfl
  | some x=>simp[hs] at h
 simp at h
theorem NN {a:Addr} (h:a.spot=none) (i:Nat):a.add i=⟨a.block,a.off+i,none⟩:=by
 unfold Addr.add;cases a;simp only at h;subst h
 split <;> simp_all
theorem XH {α:Type} {p:Nat->α->Prop}:∀(n:Nat),(∀i,i<n->∃x,p i x)->∃l:List α,l.length=n/\∀i x,l[i]? =some x->p i x
 | 0,_=>⟨[],rfl,fun i x h=>by simp at h⟩
 | n+1,h=>by
  obtain⟨l,b,d⟩:=XH n fun i hi=>h i (by omega)
  obtain⟨x,f⟩:=h n (by omega);refine⟨l++[x],by simp[b],fun i y a=>?_⟩
  by_cases hi:i<n
  ·rw[List.getElem?_append_left (by omega)] at a;exact d i y a
  rw[List.getElem?_append_right (by omega)] at a
  have:i=n:=by
   apply Classical.byContradiction;intro c;rw[List.getElem?_eq_none (by simp;omega)] at a;simp at a
  subst this;rw[b,Nat.sub_self] at a;simp at a;subst a;exact f
theorem XS {H:Type} {P:Program} {e:TypeId} {d:DataW H} {q:Nat}:∀{l:List (DataW H)},d∈l->q∈d.weights P e->q∈DataW.weightsAll P e l
 | [],h,_=>by simp at h
 | a::l,h,b=>by
  rw[DataW.weightsAll,List.mem_append];rcases List.mem_cons.1 h with rfl | h
  ·exact .inl b
  exact .inr (XS h b)
theorem XT {H:Type} {P:Program} {q:Nat}:∀{ts:List TypeId} {l:List (DataW H)} (i:Nat) (t:TypeId) (d:DataW H),ts[i]? =some t->l[i]? =some d->q∈d.weights P t->q∈DataW.weightsEach P ts l
 |[],_,i,t,d,h,_,_|_::_,[],i,t,d,_,h,_=>by simp at h
 | u::ts,a::l,0,t,d,h,h',b=>by
  rw[DataW.weightsEach,List.mem_append];simp at h h';subst h;subst h';exact .inl b
 | u::ts,a::l,i+1,t,d,h,h',b=>by
  rw[DataW.weightsEach,List.mem_append];exact .inr (XT i t d h h' b)
theorem Ru {H:Type} {enc:TypeId×Value->H} {P:Program} {w:World} {base:Nat} {sp:Nat->Bool} {X:Bool}:
  ∀(m:Nat) (T:T) (t:TypeId),Fz P m T t=true->∀(n:Nat) (cs:List Value) (x:DataW H×List MemPlace),DataW.trod enc P w base sp X n t cs=some x->(∀k∈x.1.weights P t,k<=reachBytes)->
   ∃y:el T,rep w (fun b=>b<w.heap.size) T y cs
 | 0,_,_,h,_,_,_,_,_=>by simp[Fz] at h
 | m+1,.u8,t,h,n,cs,x,c,hw=>by
  obtain⟨v,rfl,rfl,d⟩:=DataW.trod_int (HF h) c;have hb:(0:Int)<=v/\v<=255:=Sy d;refine⟨UInt8.ofNat v.toNat,?_⟩
  show [Value.int .u8 v]=[Value.int .u8 _]
  rw[UInt8.toNat_ofNat'];congr 2;omega
 | m+1,.u32,t,h,n,cs,x,c,hw=>by
  obtain⟨v,rfl,rfl,d⟩:=DataW.trod_int (HF h) c;have hb:(0:Int)<=v/\v<=4294967295:=Sy d;refine⟨UInt32.ofNat v.toNat,?_⟩
  show [Value.int .u32 v]=[Value.int .u32 _]
  rw[UInt32.toNat_ofNat'];congr 2;omega
 | m+1,.u64,t,h,n,cs,x,c,hw=>by
  obtain⟨v,rfl,rfl,d⟩:=DataW.trod_int (HF h) c;have hb:(0:Int)<=v/\v<=18446744073709551615:=Sy d;refine⟨UInt64.ofNat v.toNat,?_⟩
  show [Value.int .u64 v]=[Value.int .u64 _]
  rw[UInt64.toNat_ofNat'];congr 2;omega
 | m+1,.i8,t,h,n,cs,x,c,hw=>by
  obtain⟨v,rfl,rfl,d⟩:=DataW.trod_int (HF h) c;exact⟨v,rfl⟩
 | m+1,.i64,t,h,n,cs,x,c,hw=>by
  obtain⟨v,rfl,rfl,d⟩:=DataW.trod_int (HF h) c;exact⟨v,rfl⟩
 | m+1,.bool,t,h,n,cs,x,c,hw=>by
  have h':(match P.underlying t with | some .bool=>true | _=>false)=true:=h
  split at h'
  ·rename_i e
   obtain⟨v,rfl,rfl⟩:=DataW.trod_bool e c;exact⟨v,rfl⟩
  simp at h'
 | m+1,.sl e,t,h,n,cs,x,c,hw=>by
  have h':(match P.underlying t with | some (.slice u)=>Fz P m e u&&(P.cellsOf u==e.size&&decide (0<P.bytesOf u)) | _=>false)=true:=h
  split at h'
  ·rename_i u hu
   simp only[Bool.and_eq_true,beq_iff_eq,decide_eq_true_eq] at h';rcases open_slice hu c with⟨rfl,rfl⟩ |⟨a,len,cap,k,j,D,Pl,rfl,hb,N,W,hk,s,hi⟩
   ·exact⟨[],none,0,rfl,Nat.le_refl _,Nat.zero_le _,.inl rfl⟩
   have a1:len<=k:=by rw[hk];split <;> omega
   rw[h'.2.1] at hi;rw[s] at hw
   have G:DataW.weights P t (DataW.slice ((List.range len).map D) ((List.range (k-len)).map fun j=>D (len+j)))=(((List.range len).map D).length+((List.range (k-len)).map fun j=>D (len+j)).length)*P.bytesOf u::(DataW.weightsAll P u ((List.range len).map D)++DataW.weightsAll P u ((List.range (k-len)).map fun j=>D (len+j))):=by
    unfold DataW.weights;rw[hu]
   have F:len<=140737488355328:=by
    have:=hw _ (by rw[G];exact List.mem_cons_self);simp only[List.length_map,List.length_range] at this;have h3:len<=(len+(k-len))*P.bytesOf u:=Nat.le_trans (Nat.le_add_right _ _) (Nat.le_mul_of_pos_right _ h'.2.2);have h4:reachBytes<=140737488355328:=by decide
    omega
   have hs:=T.size_pos e
   have I:0<len->a.spot=none:=fun A=>by
    obtain⟨us,J,ht⟩:=hi 0 (by omega);obtain⟨_,hlen,g⟩:=World.cells?_some J;have A:=g 0 hs;rw[List.getElem?_eq_getElem (by omega),Nat.zero_mul] at A;have B:=(Zv A).1;unfold Addr.add at B;simpa using B
   obtain⟨l,hl,Q⟩:=XH (α:=el e) (p:=fun i y=>∃us,rep w (fun b=>b<w.heap.size) e y us/\a.spot=none/\a.block<w.heap.size/\w.rangeAt a.block (a.off+i*e.size) us) len (fun i L=>by
    obtain⟨us,J,ht⟩:=hi i (by omega);obtain⟨y,hy⟩:=Ru m e u h'.1 _ _ _ ht (fun q O=>hw q (by rw[G];exact List.mem_cons_of_mem _ (List.mem_append_left _ (XS (List.mem_map.2 ⟨i,List.mem_range.2 L,rfl⟩) O))));obtain⟨_,hlen,g⟩:=World.cells?_some J;have A:=g 0 hs;rw[List.getElem?_eq_getElem (by omega)] at A;have B:=Zv A;have ha:a.spot=none:=I (by omega)
    have r:a.block<w.heap.size:=by
     have:=B.2;rw[NN ha,NN rfl] at this;exact this
    refine⟨y,us,hy,ha,r,fun j v M=>?_⟩
    have Z:j<us.length:=by
     apply Classical.byContradiction;intro hn;rw[List.getElem?_eq_none (by omega)] at M;simp at M
    have:=g j (by omega);rw[NN ha,NN rfl] at this;rw[this];exact M)
   subst hl;refine⟨l,some a,cap,rfl,N,F,?_⟩;cases l with
   | nil=>exact .inl rfl
   | cons y l=>
    right
    obtain⟨_,_,ha,r,_⟩:=Q 0 y rfl;obtain⟨R,S,U⟩:=a;simp only at ha;subst ha;exact⟨R,S,rfl,r,fun i z hz=>by obtain⟨us,B,_,_,V⟩:=Q i z hz;exact⟨us,B,V⟩⟩
  simp at h'
 | m+1,.pr a b,t,h,n,cs,x,c,hw=>by
  have h':(match P.underlying t with | some (.struct fs)=>okF P (Fz P m) (.pr a b) fs.toList 0&&P.cellsOf t==a.size+b.size | _=>false)=true:=h
  split at h'
  ·rename_i fs hu
   simp only[Bool.and_eq_true,beq_iff_eq] at h';obtain⟨xs,n',_,s,K,a2,Y⟩:=DataW.trod_struct hu c
   have:=YE (w:=w) (n:=n') (cs:=cs) (ok:=Fz P m) (fun T t cs x ho c hw=>Ru m T t ho n' cs x c hw) (.pr a b) fs.toList 0 h'.1 (by rw[K,h'.2,Nat.zero_add];rfl) (fun i f C=>by
    have o:fs[i]? =some f:=by rw[<-Array.getElem?_toList];exact C
    have hi:i<fs.size:=(Array.getElem?_eq_some_iff.1 o).1;rw[Y i f o];refine⟨xs[i]'(by omega),List.getElem?_eq_getElem (by omega),fun q O=>hw q ?_⟩;rw[s]
    have e:DataW.weights P t (DataW.agg (xs.map (·.1)))=DataW.weightsEach P (fs.toList.map (·.type)) (xs.map (·.1)):=by
     unfold DataW.weights;rw[hu]
    rw[e];exact XT i f.type (xs[i]'(by omega)).1 (by rw[List.getElem?_map,C];rfl) (by rw[List.getElem?_map,List.getElem?_eq_getElem (by omega)];rfl) O)
   exact this
  simp at h'
end Go.Abs
