/- Part 7 of a proof. Conditions: each theorem's own. -/
import Derived.Laws.Sem
import Derived.Test.YtmaoeopjnhfplaaGreatProg
import Derived.Test.YtmaoeopjnhfplaaGreatPk05
set_option linter.all false
set_option maxHeartbeats 8000000
set_option maxRecDepth 20000
open Go.Proofs
namespace Go.Abs
open Go.RowKit
section
variable {P:Program} {TI:TypeId->Info}
def PD (tmps:Array Value):ResultVar->Sem Value
 | .tmp t=>pure (tmps.getD t undef)
 | .cell a t=>do loadVar t (<-asAddr (tmps.getD a undef))
theorem aZ {w:World} {f:ResultVar->Sem Value}:∀{l:List ResultVar} {vs:List Value},BO (fun r v=>(f r).run P w= .ok v w) l vs->(l.mapM f).run P w= .ok vs w
 | [],[],_=>by simp
 | r::l,v::vs,h=>by
  rw[List.mapM_cons];simp[Sem.run_bind,h.1,aZ h.2]
 |[],_::_,h|_::_,[],h=>h.elim
def KF:List Value->Value
 | [v]=>v
 | vs=> .tuple vs.toArray
theorem Vu {fn:Func} {tmps:Array Value} {w:World} {vs:List Value} (h:BO (fun r v=>(PD tmps r).run P w= .ok v w) fn.results.toList vs):(results fn tmps).run P w= .ok (KF vs) w:=by
 have e:results fn tmps=(do let vs <-fn.results.mapM (PD tmps);pure (if h:vs.size=1 then vs[0] else .tuple vs)):=by
  unfold results
  congr 1
 rw[e,Array.mapM_eq_mapM_toList];simp only[Sem.run_bind,map_eq_pure_bind,aZ h,Result.andThen_ok,Sem.run_pure]
 congr 1
 match vs with
 |[]|[v]|_::_::_=>rfl
section
variable {w0:World} {X:WX} {β:Nat->Option Nat} {s:St} {a:Act} {w:World}
theorem ql (z:∀t,FP P t (TI t)) (S:CD w0 X β s a w) {r:ResultVar} {b b':Bool×List AC} (h:R8 TI s r=some b) (hc:Bg (Fs (Ag s.bk)) b.2 b'.2):
  ∃v us,(PD a.tmps r).run P w= .ok v w/\BO (Bn (cx X w β (Ag s.bk))) b.2 us/\(b.1=true->v= .agg us.toArray)/\(b.1=false->us=[]\/us=[v]):=by
 cases r with
 | tmp t=>
  simp only[R8,Option.some.injEq] at h;subst h;have f:=S.DF t
  generalize J:nth s.sl t=g at hc f
  cases g with
  | one c=>
   have m:c≠ .CQ:=by
    rintro rfl;cases b' with
    | mk x y=>cases y with
     | nil=>exact hc.elim
     | cons _ _=>exact hc.1.elim
   exact⟨_,[a.tmps.getD t undef],rfl,⟨CP f m,trivial⟩,fun e=>by simp[AV.comp] at e,fun _=> .inr rfl⟩
  | agg cs=>
   obtain⟨arr,e,f⟩:=f;exact⟨_,arr.toList,rfl,f,fun _=>by rw[e],fun e=>by simp[AV.comp] at e⟩
  | AI _=>exact⟨_,[],rfl,trivial,fun e=>by simp[AV.comp] at e,fun _=> .inl rfl⟩
 | cell q t=>
  simp only[R8] at h;have f:=S.DF q
  split at h
  ·rename_i id v off he
   rw[he] at f;have f:=CP f (by simp)
   split at h
   ·rename_i K cs hb
    split at h
    ·rename_i d
     simp only[Bool.and_eq_true,beq_iff_eq] at d;obtain⟨⟨A,p⟩,hlen⟩:=d;obtain⟨b0,arr,e,C,D,h3⟩:=S.blocks id _ hb;have I:v=BK (Ag s.bk) id:=by unfold BK;rw[hb];exact p.symm
     obtain⟨b1,l,H⟩:=f.2 I;obtain rfl:b0=b1:=Option.some.inj (C.symm.trans l)
     have i:BO (Bn (cx X w β (Ag s.bk))) (HX cs off (TI t).size) ((arr.toList.drop off).take (TI t).size):=by
      rw[NS];exact (h3.drop off).take _
     have B:=i.length;have k:=run_load (z t) A (cZ D (off:=off) (n:=(TI t).size)) (by rw[<-B];exact hlen);obtain rfl:=Option.some.inj h;have o:(TI t).agg=false->(TI t).size=1:=by obtain⟨_,_,_,_,_,_,_,_,_,F⟩:=(z t).info A;exact F
     refine⟨valOf (TI t).agg ((arr.toList.drop off).take (TI t).size),_,?_,i,fun e=>?_,fun e=>?_⟩
     ·refine Eq.trans ?_ k;simp only[PD,H,asAddr,Instr.loadAt,Instr.sureAddr]
      rfl
     ·rw[show (TI t).agg=true from e];rfl
     right
     have G:=o e;rw[show (TI t).agg=false from e];have j:((arr.toList.drop off).take (TI t).size).length=1:=by rw[<-B,hlen];exact G
     generalize (arr.toList.drop off).take (TI t).size=us at j
     match us,j with
     | [u],_=>rfl
    cases h
   cases h
  cases h
end
section
variable {w0:World} {X:WX} {β:Nat->Option Nat} {s:St} {a:Act} {w:World}
def Yb (I:Nat->Prop) (lo:Nat) (w:World) (bo:Option Nat):Cx:=E7 w fun b=>((false=false/\I b)\/lo<=b)/\b<w.heap.size/\bo≠some b
theorem dA {I:Nat->Prop} (S:CD w0 X β s a w) (R:∀b,¬X.X b) (Q:∀b,X.A b->I b\/w0.heap.size<=b) {bo:Option Nat} (z:bo=none\/∃id,live (Ag s.bk) id/\β id=bo) {c d:AC} {v:Value} (L:Hf d=false) (U:Kr c=true->bo=none) (h:Fs (Ag s.bk) c d) (O:∀t o l,d≠ .BI t 0 0 o l)
  (r:Bn (cx X w β (Ag s.bk)) c v):Ei (Yb I w0.heap.size w bo) w0.heap.size bo d v:=by
 have K:∀b,(cx X w β (Ag s.bk)).I b->(Yb I w0.heap.size w bo).I b/\w.heap[b]? =w.heap[b]? :=fun b hb=>
  ⟨⟨(Q b hb.2).imp (fun q=>⟨rfl,q⟩) id,hb.1.1,fun e=>by
   rcases z with h' |⟨id,g,J⟩
   ·rw[h'] at e;cases e
   exact hb.1.2 id g (J.trans e)⟩,rfl⟩
 cases c with
 | BI t id j off len=>
  rcases h with⟨l,g,J,rfl⟩ |⟨l,n,_,_,_,_,_,rfl⟩ |⟨_,_,rfl⟩
  ·have x:=U rfl;subst x;have V:j=BK (Ag s.bk) id:=by rw[HF g];rfl
   obtain⟨base,cap,e,g1,g2,_,H⟩:=r.2 V;have hlen:((l.drop off).take len).length=len:=by simp;omega
   have m:l.length<=140737488355328:=S.lens id _ g;refine⟨base,cap,by rw[hlen,e],by rw[hlen];exact g1,by rw[hlen];omega,?_⟩;rcases H with H |⟨b,arr,e',k1,k2,k3,k4⟩
   ·left;exact List.eq_nil_of_length_eq_zero (by rw[hlen];omega)
   have D:=S.blocks id _ g;rcases D with⟨u,M⟩ |⟨b',G,N,u,M,Z⟩
   ·exact absurd (u.symm.trans k1) (by simp)
   obtain rfl:b'=b:=Option.some.inj (u.symm.trans k1);have C:live (Ag s.bk) id:=⟨_,g,rfl⟩
   have B:b'<w.heap.size:=by
    rcases Nat.lt_or_ge b' w.heap.size with h' | h'
    ·exact h'
    have F:w.heap[b']? =_:=M;simp[Array.getElem?_eq_none h'] at F
   refine .inr ⟨b',_,k2,⟨.inr ((S.own id b' C u).resolve_right (fun q=>R b' q.1)),B,by simp⟩,fun i y p=>?_⟩
   have T:l[off+i]? =some y:=by
    rw[List.getElem?_take] at p
    split at p
    ·simpa using p
    cases p
   obtain⟨us,W,Y⟩:=Z (off+i) y T;exact⟨us,EN (w':=w) K _ _ _ W,by rw[show off*t.size+i*t.size=(off+i)*t.size by rw[Nat.add_mul]];exact Y⟩
  ·cases L
  exact absurd rfl (O t off len)
 | nil=>
  rcases h with rfl |⟨t,rfl⟩ |⟨t,rfl⟩
  ·exact r
  ·exact⟨none,0,by rw[show v=_ from r];rfl,Nat.le_refl _,by simp,.inl rfl⟩
  cases L
 |int k n|bool b|fn f=>rw[show d=_ from h];exact r
 | sl t l=>rw[show d=_ from h];exact EN (w':=w) K _ _ _ r
 | _=>exact h.elim
theorem qj {I:Nat->Prop} (S:CD w0 X β s a w) (G:∀b,¬X.X b) (D:∀b,X.A b->I b\/w0.heap.size<=b) {c d:AC} {v:Value} (m:Hf d=true) (h:Fs (Ag s.bk) c d)
  (r:Bn (cx X w β (Ag s.bk)) c v):∃bo,Ei (Yb I w0.heap.size w bo) w0.heap.size bo d v/\(bo=none\/((∃id,live (Ag s.bk) id/\β id=bo)/\Kr c=true)):=by
 cases c with
 | BI t id u off len=>
  rcases h with⟨l,p,R,rfl⟩ |⟨l,n,_,p,rfl,rfl,rfl,rfl⟩ |⟨_,_,rfl⟩
  ·cases m
  ·have H:u=BK (Ag s.bk) id:=by rw[HF p];rfl
   obtain⟨base,cap,e,g1,g2,_,C⟩:=r.2 H;have g:l.length<=140737488355328:=S.lens id _ p;have j:live (Ag s.bk) id:=⟨_,p,rfl⟩;rcases C with rfl |⟨b,arr,e',k1,k2,K,L⟩
   ·exact⟨none,⟨rfl,base,0,e,g1,g2,g,.inl ⟨rfl,List.eq_nil_of_length_eq_zero (by omega),rfl⟩⟩,.inl rfl⟩
   have x:=S.blocks id _ p;rcases x with⟨o,O⟩ |⟨b',z,B,o,O,Q⟩
   ·exact absurd (o.symm.trans k1) (by simp)
   obtain rfl:b'=b:=Option.some.inj (o.symm.trans k1)
   have F:∀b,(cx X w β (Ag s.bk)).I b->(Yb I w0.heap.size w (some b')).I b/\w.heap[b]? =w.heap[b]? :=fun b hb=>
    ⟨⟨(D b hb.2).imp (fun q=>⟨rfl,q⟩) (fun q=>q),hb.1.1,fun e=>hb.1.2 id j (o.trans e)⟩,rfl⟩
   refine⟨some b',⟨rfl,base,cap,e,g1,g2,g,.inr ⟨b',arr,e',rfl,(S.own id b' j o).resolve_right (fun q=>G b' q.1),by rw[k2];simp,K,by simpa using L,fun i y J=>?_⟩⟩,.inr ⟨⟨id,j,o⟩,rfl⟩⟩;obtain⟨us,M,N⟩:=Q i y J;exact⟨us,EN (w':=w) F _ _ _ M,N⟩
  cases m
 | nil=>
  rcases h with rfl |⟨t,rfl⟩ |⟨t,rfl⟩
  ·cases m
  ·cases m
  exact⟨none,⟨rfl,none,0,by rw[show v=_ from r];rfl,Nat.le_refl _,Nat.zero_le _,by simp,.inl ⟨rfl,rfl,rfl⟩⟩,.inl rfl⟩
 |int k n|bool b|fn f|sl t l=>rw[show d=_ from h] at m;cases m
 | _=>exact h.elim
theorem Vt {I:Nat->Prop} (S:CD w0 X β s a w) (p:∀b,¬X.X b) (n:∀b,X.A b->I b\/w0.heap.size<=b) {bo:Option Nat} (g:bo=none\/∃id,live (Ag s.bk) id/\β id=bo):∀{cs f:List AC} {vs:List Value},f.filter Hf=[]->(cs.filter Kr≠[]->bo=none)->Bg (Fs (Ag s.bk)) cs f->f.all C6=true->
  BO (Bn (cx X w β (Ag s.bk))) cs vs->BO (Ei (Yb I w0.heap.size w bo) w0.heap.size bo) f vs
 | [],[],[],_,_,_,_,_=>trivial
 | c::cs,d::f,v::vs,i,k,h3,j,m=>by
  simp only[List.all_cons,Bool.and_eq_true] at j
  have q:Hf d=false:=by
   cases h:Hf d with
   | false=>rfl
   | true=>rw[List.filter_cons,h] at i;simp at i
  refine⟨dA S p n g q (fun hc=>k (by rw[List.filter_cons,hc];simp)) h3.1 (fun t o l e=>by subst e;simp[C6,Bt] at j) m.1,Vt S p n g (by rw[List.filter_cons,q] at i;simpa using i) (fun hc=>k (fun e=>hc ?_)) h3.2 j.2 m.2⟩;rw[List.filter_cons] at e
  split at e
  ·cases e
  exact e
 |[],[],_::_,_,_,_,_,h|_::_,_::_,[],_,_,_,_,h|[],_::_,_,_,_,h,_,_|_::_,[],_,_,_,h,_,_=>h.elim
theorem dD {I:Nat->Prop} (S:CD w0 X β s a w) (u:∀b,¬X.X b) (r:∀b,X.A b->I b\/w0.heap.size<=b):∀{cs g:List AC} {vs:List Value},(g.filter Hf).length<=1->((g.filter Hf).length=1->(cs.filter Kr).length<=1)->Bg (Fs (Ag s.bk)) cs g->g.all C6=true->
  BO (Bn (cx X w β (Ag s.bk))) cs vs->∃bo,BO (Ei (Yb I w0.heap.size w bo) w0.heap.size bo) g vs/\(bo=none\/((∃id,live (Ag s.bk) id/\β id=bo)/\cs.filter Kr≠[]))
 | [],[],[],_,_,_,_,_=>⟨none,trivial,.inl rfl⟩
 | c::cs,d::g,v::vs,k,j,h3,n,p=>by
  have z:=n;simp only[List.all_cons,Bool.and_eq_true] at n;cases x:Hf d with
  | true=>
   rw[List.filter_cons,x] at k j;simp only[if_true,List.length_cons] at k j;have i:g.filter Hf=[]:=List.eq_nil_of_length_eq_zero (by omega);obtain⟨bo,g1,g2⟩:=qj S u r x h3.1 p.1;refine⟨bo,⟨g1,Vt S u r (g2.imp id fun q=>q.1) i (fun B=>?_) h3.2 n.2 p.2⟩,g2.imp id fun q=>⟨q.1,by rw[List.filter_cons,q.2];simp⟩⟩;rcases g2 with g2 |⟨_,g2⟩
   ·exact g2
   exfalso
   have:=j (by rw[i];rfl);rw[List.filter_cons,g2] at this;simp only[if_true,List.length_cons] at this;exact B (List.eq_nil_of_length_eq_zero (by omega))
  | false=>
   rw[List.filter_cons,x] at k j;simp only[Bool.false_eq_true,if_false] at k j;have C:∀t o l,d≠ .BI t 0 0 o l:=fun t o l e=>by subst e;simp[C6,Bt] at n
   by_cases y:(g.filter Hf).length=1
   ·have f:=j y
    have m:(cs.filter Kr).length<=1:=by
     rw[List.filter_cons] at f
     split at f
     ·simp only[List.length_cons] at f;omega
     exact f
    obtain⟨bo,g1,g2⟩:=dD S u r k (fun _=>m) h3.2 n.2 p.2;refine⟨bo,⟨dA S u r (g2.imp id fun q=>q.1) x (fun hc=>?_) h3.1 C p.1,g1⟩,g2.imp id fun q=>⟨q.1,fun e=>q.2 ?_⟩⟩
    ·rcases g2 with g2 |⟨_,g2⟩
     ·exact g2
     rw[List.filter_cons,hc] at f;simp only[if_true,List.length_cons] at f;exact absurd (List.eq_nil_of_length_eq_zero (by omega)) g2
    rw[List.filter_cons] at e
    split at e
    ·cases e
    exact e
   have i:g.filter Hf=[]:=List.eq_nil_of_length_eq_zero (by omega);exact⟨none,Vt S u r (.inl rfl) (by rw[List.filter_cons,x];simpa using i) (fun _=>rfl) h3 z p,.inl rfl⟩
 |[],[],_::_,_,_,_,_,h|_::_,_::_,[],_,_,_,_,h|[],_::_,_,_,_,h,_,_|_::_,[],_,_,_,h,_,_=>h.elim
end
end
section
variable {P:Program} {TI:TypeId->Info}
section
variable {w0:World} {X:WX} {β:Nat->Option Nat} {s:St} {a:Act} {w:World}
theorem SA (j:∀t,FP P t (TI t)) (S:CD w0 X β s a w):∀{rs:List ResultVar} {xs ys:List (Bool×List AC)},KR TI s rs=some xs->KQ (Ag s.bk) xs ys->
  ∃vs us,BO (fun r v=>(PD a.tmps r).run P w= .ok v w) rs vs/\BO (Bn (cx X w β (Ag s.bk))) (xs.flatMap (·.2)) us/\
   ∀(y:Cx) (lo:Nat) (bo:Option Nat),BO (Ei y lo bo) (ys.flatMap (·.2)) us->BO (fun z q=>Hq y lo bo (Ez z) q) ys vs
 | [],xs,ys,h,f=>by
  simp only[KR,Option.some.injEq] at h;subst h;cases ys with
  | nil=>exact⟨[],[],trivial,trivial,fun _ _ _ _=>trivial⟩
  | cons _ _=>exact f.elim
 | r::rs,xs,ys,h,f=>by
  simp only[KR] at h
  split at h
  ·rename_i b C o p
   obtain rfl:=Option.some.inj h;cases ys with
   | nil=>exact f.elim
   | cons b' ys=>
    obtain⟨⟨e,hc⟩,f⟩:=f;obtain⟨v,us,g1,g2,k,n⟩:=ql j S o hc;obtain⟨vs,i,k1,k2,A⟩:=SA j S p f;refine⟨v::vs,us++i,⟨g1,k1⟩,by rw[List.flatMap_cons];exact g2.append k2,fun y lo bo d=>?_⟩;rw[List.flatMap_cons] at d;obtain⟨m1,m2,e',g,B⟩:=d.VH
    have hlen:us.length=m1.length:=by
     rw[<-g2.length,<-g.length]
     have:∀{l m:List AC},Bg (Fs (Ag s.bk)) l m->l.length=m.length:=by
      intro l
      induction l with
      | nil=>intro m h;cases m <;> first | rfl | exact h.elim
      | cons x l u=>intro m h;cases m with
       | nil=>exact h.elim
       | cons y m=>simp[u h.2]
     exact this hc
    obtain⟨rfl,rfl⟩:=List.append_inj e' hlen;refine⟨?_,A y lo bo B⟩;obtain⟨t,cs⟩:=b';simp only at e;cases t with
    | true=>exact⟨us.toArray,k e,by simpa using g⟩
    | false=>
     rcases n e with rfl | rfl
     ·cases cs with
      | nil=>exact .inl rfl
      | cons _ _=>exact g.elim
     cases cs with
     | nil=>exact g.elim
     | cons c cs=>exact .inr g.1
  cases h
end
theorem bH:∀(l m:List AV) (i:Nat),nth (l++m) i=if i<l.length then nth l i else nth m (i-l.length)
 | [],m,i=>by simp
 | x::l,m,0=>by simp[nth]
 | x::l,m,i+1=>by simp[nth,bH l m i]
theorem BO.nth {x:Cx}:∀{l:List AV} {vs:List Value} (i:Nat),BO (CB x) l vs->i<l.length->CB x (nth l i) (vs.getD i undef)
 | _::_,_::_,0,h,_=>by simpa [Abs.nth] using h.1
 | _::_,_::_,i+1,h,b=>by simpa [Abs.nth] using BO.nth i h.2 (by simpa using b)
 | [],[],_,_,b=>by simp at b
 |[],_::_,_,h,_|_::_,[],_,h,_=>h.elim
theorem Ro {x y:Cx} (h:∀b,x.I b->y.I b/\y.w.heap[b]? =x.w.heap[b]?):∀{l:List AV} {vs:List Value},(l.all fun c=>match c with | .AI _=>false | c=>c.all Bt)=true->BO (CB x) l vs->BO (CB y) l vs
 | [],[],_,_=>trivial
 | .one c::_,_::_,e,r=>by
  simp only[List.all_cons,Bool.and_eq_true] at e;exact⟨r.1.imp (fun q=>q) (Oo h e.1),Ro h e.2 r.2⟩
 | .agg c::_,_::_,e,r=>by
  simp only[List.all_cons,Bool.and_eq_true] at e;obtain⟨arr,e',d⟩:=r.1;exact⟨⟨arr,e',BO.pure h e.1 d⟩,Ro h e.2 r.2⟩
 | .AI _::_,_::_,e,_=>by simp at e
 |[],_::_,_,r|_::_,[],_,r=>r.elim
theorem CD.start {w:World} {X:WX} {args:List AV} {vs:List Value} {n:Nat} {b0:Option BA} (q:args.length<=n) (m:∀b,X.ob=some b->X.X b) (l:∀b,w.heap.size<=b->X.A b) (o:∀b,b0=some b->b.BK=0/\b.short/\0<n)
  (c:BO (CB (cx X w (β0 X.ob) (Ag (Eh n args b0).bk))) args vs) (hb:∀b,b0=some b->Ee (cx X w (β0 X.ob) (Ag (Eh n args b0).bk)) 0 b):
  CD w X (β0 X.ob) (Eh n args b0) {tmps:=vs.toArray++Array.replicate (n-vs.toArray.size) undef,defers:=[]} w:=by
 have hlen:=c.length
 have d:∀id b,Ag (Eh n args b0).bk id=some b->id=0/\b0=some b:=by
  intro id b h;cases n with
  | zero=>simp[Eh,Ag] at h
  | succ n=>
   cases id with
   | zero=>exact⟨rfl,h⟩
   | succ id=>
    have:Ag (I4 n none) id=some b:=h;rw[VC] at this;cases this
 refine⟨rfl,?_,?_,fun i=>?_,fun id b h=>?_,fun id p b ⟨_,f,_⟩ ⟨_,k,_⟩ _ _=>?_,fun id b ⟨_,f,_⟩ g=> .inr ?_,rfl,rfl,rfl,Nat.le_refl _,fun _ _ _=>rfl,fun id b h=>?_,l,fun _ _=>⟨rfl,fun b arr e _ he=>⟨arr,he,rfl⟩⟩⟩
 ·simp[Eh,It];omega
 ·simp[Eh];cases n with
  | zero=>simp;omega
  | succ n=>simp[It];omega
 ·show CB _ (nth (args++_) i) _
  rw[bH]
  split
  ·rename_i j
   have:=c.nth i j
   have e:(vs.toArray++Array.replicate (n-vs.toArray.size) undef).getD i undef=vs.getD i undef:=by
    rw[Array.getD_eq_getD_getElem?,Array.getElem?_append_left (by simpa [<-hlen] using j)];simp[List.getD_eq_getElem?_getD]
   rw[e];exact this
  rw[VA];exact LM _ _
 ·obtain⟨rfl,h'⟩:=d id b h;exact hb b h'
 ·rw[(d _ _ f).1,(d _ _ k).1]
 ·obtain⟨rfl,_⟩:=d _ _ f;exact⟨m b g,rfl⟩
 exact (o b (d id b h).2).2.1
def Lz (args:List AV):Bool:=args.all fun c=>match c with | .AI _=>false | c=>c.all Bt
structure Fn (P:Program) (TI:TypeId->Info) (f:FuncId) (n:Nat) (c:Code) (rs:List ResultVar):Prop where
 get : ∃ fn, P.funcs[f]? = some fn /\ (fn.name == "runtime.NumGoroutine") = false /\ fn.body = some c /\ fn.ntmps = n /\ fn.results.toList = rs
 dst:Il c=true
 ty:∀t,FP P t (TI t)
 mixed:P.follows .mixedOrders=true
theorem Tj {r:AV} {y:Cx} {lo:Nat} {bo:Option Nat} {vs:List Value} (b:vs.length=1↔∀ys,r≠ .AI ys) (h:BO (fun z q=>Hq y lo bo (Ez z) q) r.F3 vs):IZ y lo bo r (KF vs):=by
 cases r with
 | AI xs=>
  have:vs.length≠1:=fun e=>b.1 e xs rfl
  have e:KF vs= .tuple vs.toArray:=by
   match vs,this with
   | [],_=>rfl
   | [_],h=>exact absurd rfl h
   | _::_::_,_=>rfl
  exact⟨vs.toArray,e,h⟩
 | one c=>
  match vs,h with
  | [v],h=>exact h.1
 | agg cs=>
  match vs,h with
  | [v],h=>exact h.1
theorem Xr {f:FuncId} {n:Nat} {c:Code} {rs:List ResultVar} (F:Fn P TI f n c rs) {args:List AV} {r:AV} (R:Lz args=true) (A:r.all C6=true/\r.wf=true) (O:args.length<=n)
  (h:EZ (env P) TI n c (post TI rs r none) (Eh n args none)):Gv P false f args r:=by
 obtain⟨fn,J,p,hb,t,B⟩:=F.get;refine⟨⟨fn,c,J,p,hb⟩,A,fun w I vs N j=>?_⟩;refine calls_of_wp J hb ?_
 have K:CD w ⟨fun _=>False,fun b=>I b\/w.heap.size<=b,none⟩ (β0 none) (Eh n args none) {tmps:=vs.toArray++Array.replicate (n-vs.toArray.size) undef,defers:=[]} w:=
  CD.start (X:=⟨fun _=>False,fun b=>I b\/w.heap.size<=b,none⟩) O (fun _ e=>by cases e) (fun b hb=> .inr hb) (fun b e=>by cases e)
   (Ro (x:=E7 w I) (y:=cx ⟨fun _=>False,fun b=>I b\/w.heap.size<=b,none⟩ w (β0 none) (Ag (Eh n args none).bk)) (fun b hb=>⟨⟨⟨N b hb,fun id _ e=>by simp[β0] at e⟩,.inl hb⟩,rfl⟩) R j) (fun b e=>by cases e)
 rw[t];refine wp_mono (Gy F.mixed (fun o Q=>WI F.ty o Q) F.dst (by simp[Eh,It];omega) K h) fun e G w' he=>?_
 obtain⟨x,s',V,rfl,g,_,S⟩:=he
 have fin:post TI rs r none x s'->x≠ .exit 0/\(∀i,x≠ .exit i)->G.defers=[]/\∃v,(results fn G.tmps).run P w'= .ok v w'/\∃u bo,Ending.returned v= .returned u/\Below w.heap.size w w'/\
   IZ (E7 w' fun b=>((false=false/\I b)\/w.heap.size<=b)/\b<w'.heap.size/\bo≠some b) w.heap.size bo r u:=by
  intro g T;refine⟨S.defers,?_⟩
  have z:∃xs,KR TI s' rs=some xs/\KQ (Ag s'.bk) xs r.F3/\Rg xs r.F3=true/\(rs.length=1↔∀ys,r≠ .AI ys):=by
   unfold post at g
   split at g
   ·exact absurd rfl (T.2 _)
   split at g
   ·rename_i xs C
    exact⟨xs,C,g.1 ()⟩
   exact g.elim
  obtain⟨xs,L,H,h3,M⟩:=z;obtain⟨us,ws,k1,k2,U⟩:=SA F.ty S L H
  have k:Bg (Fs (Ag s'.bk)) (xs.flatMap (·.2)) (r.F3.flatMap (·.2)):=by
   have app:∀{l m l' m':List AC},Bg (Fs (Ag s'.bk)) l m->Bg (Fs (Ag s'.bk)) l' m'->Bg (Fs (Ag s'.bk)) (l++l') (m++m'):=by
    intro l
    induction l with
    | nil=>intro m l' m' h h';cases m <;> first | exact h' | exact h.elim
    | cons x l D=>intro m l' m' h h';cases m with
     | nil=>exact h.elim
     | cons y m=>exact⟨h.1,D h.2 h'⟩
   have:∀{l m:List (Bool×List AC)},KQ (Ag s'.bk) l m->Bg (Fs (Ag s'.bk)) (l.flatMap (·.2)) (m.flatMap (·.2)):=by
    intro l
    induction l with
    | nil=>intro m h;cases m <;> first | trivial | exact h.elim
    | cons x l D=>intro m h;cases m with
     | nil=>exact h.elim
     | cons y m=>rw[List.flatMap_cons,List.flatMap_cons];exact app h.1.2 (D h.2)
   exact this H
  have q:(r.F3.flatMap (·.2)).all C6=true:=by
   cases r with
   |one c|agg cs=>simpa [AV.F3,AV.comp,AV.all] using A.1
   | AI xs=>simp only[AV.F3,List.all_flatMap];exact A.1
  have d:((r.F3.flatMap (·.2)).filter Hf).length<=1/\(((r.F3.flatMap (·.2)).filter Hf).length=1->((xs.flatMap (·.2)).filter Kr).length<=1):=by
   unfold Rg at h3
   split at h3
   ·rename_i e;rw[e];simp
   ·rename_i e;rw[e];simpa using h3
   cases h3
  obtain⟨bo,g1,_⟩:=dD (I:=I) S (fun b h=>h) (fun b h=>h) d.1 d.2 k q k2;have hlen:us.length=rs.length:=k1.length.symm;refine⟨KF us,Vu (by rw[B];exact k1),KF us,bo,rfl,⟨S.os,S.tape,S.output,S.size,fun b hb=>S.block b hb (fun h=>h)⟩,?_⟩;exact Tj (by rw[hlen];exact M) (U _ _ _ g1)
 cases x with
 |Eb|ret=>exact fin g ⟨by simp,by simp⟩
 | exit i=>exact g.elim
end
section
variable {P:Program} {TI:TypeId->Info}
theorem nP:∀{c:AC},Cd c=true->GN c=true
 |.int _ _,_|.bool _,_|.fn _,_|.nil,_|.BI _ 0 0 _ _,_=>rfl
 |.BI _ (_+1) _ _ _,h|.BI _ 0 (_+1) _ _,h|.CQ,h|.sl _ _,h|.Ex _ _ _ _ _,h|.BC _ _ _,h|.Ea _ _ _ _ _,h|.FE _ _ _,h|.ub _,h|.own _ _ _,h=>by simp[Cd] at h
theorem O9 {y:Cx} {lo:Nat} {bo:Option Nat}:∀{c:AC} {v:Value},Cd c=true->Ei y lo bo c v->Bn y c v
 |.int _ _,_,_,r|.bool _,_,_,r|.fn _,_,_,r|.nil,_,_,r|.BI _ _ _ _ _,_,_,r=>r
 |.CQ,_,h,_|.sl _ _,_,h,_|.Ex _ _ _ _ _,_,h,_|.BC _ _ _,_,h,_|.Ea _ _ _ _ _,_,h,_|.FE _ _ _,_,h,_|.ub _,_,h,_|.own _ _ _,_,h,_=>by simp[Cd] at h
theorem BO.O9 {y:Cx} {lo:Nat} {bo:Option Nat}:∀{cs:List AC} {vs:List Value},cs.all Cd=true->BO (Ei y lo bo) cs vs->BO (Bn y) cs vs
 | [],[],_,_=>trivial
 | _::_,_::_,e,r=>by simp only[List.all_cons,Bool.and_eq_true] at e;exact⟨Abs.O9 e.1 r.1,BO.O9 e.2 r.2⟩
 |[],_::_,_,r|_::_,[],_,r=>r.elim
theorem Rz {y:Cx} {lo:Nat} {bo:Option Nat} {r:AV} {v:Value} (h:r.all Cd=true) (b:Hq y lo bo r v):FO y r v:=by
 cases r with
 | one c=>exact b.imp (fun q=>q) (O9 h)
 | agg cs=>obtain⟨arr,e,b⟩:=b;exact⟨arr,e,BO.O9 h b⟩
 | AI _=>exact b.elim
theorem qf {y:Cx} {lo:Nat} {bo:Option Nat} {r:AV} {v:Value} (h:r.all Cd=true) (f:IZ y lo bo r v):CB y r v:=by
 cases r with
 |one c|agg cs=>exact Rz h f
 | AI xs=>
  obtain⟨arr,e,f⟩:=f;refine⟨arr,e,?_⟩
  have key:∀(xs:List (Bool×List AC)) (us:List Value),(xs.all fun x=>x.2.all Cd)=true->BO (fun z q=>Hq y lo bo (Ez z) q) xs us->BO (fun z q=>FO y (Ez z) q) xs us:=by
   intro xs
   induction xs with
   | nil=>intro us _ b;cases us <;> first | trivial | exact b.elim
   | cons z xs i=>
    intro us d b;cases us with
    | nil=>exact b.elim
    | cons q us=>
     simp only[List.all_cons,Bool.and_eq_true] at d;refine⟨?_,i us d.2 b.2⟩;obtain⟨g,cs⟩:=z;have h3:=b.1;cases g with
     | true=>exact Rz (r:= .agg cs) d.1 h3
     | false=>
      cases cs with
      | nil=>exact Or.inl rfl
      | cons c cs=>
       simp only[List.all_cons,Bool.and_eq_true] at d;exact Rz (r:= .one c) d.1.1 h3
  exact key xs arr.toList h f
theorem qi {w0:World} {X:WX} {β:Nat->Option Nat} {s:St} {a:Act} {w:World} {J:Nat->Prop} {lo:Nat} {bo:Option Nat} (S:CD w0 X β s a w) (m:BK (Ag s.bk) 0=0) (i:β 0=X.ob) {c d:AC} {v:Value} (g:Cd d=true) (h:Fs (Ag s.bk) c d)
  (r:Bn (cx X w β (Ag s.bk)) c v):Ei (DK w X.ob J) lo bo d v:=by
 cases c with
 | BI t id j off len=>
  rcases h with⟨l,o,p,rfl⟩ |⟨l,n,_,_,_,_,_,rfl⟩ |⟨rfl,rfl,rfl⟩
  ·simp[Cd] at g
  ·simp[Cd] at g
  refine⟨⟨r.1.1,Nat.le_refl _⟩,fun _=>?_⟩;have:=r.2 m.symm
  show JF w X.ob _ _ _ _ _
  rw[<-i];exact this
 | nil=>
  rcases h with rfl |⟨t,rfl⟩ |⟨t,rfl⟩
  ·exact r
  ·simp[Cd] at g
  simp[Cd] at g
 |int k n|bool b|fn f=>rw[show d=_ from h];exact r
 | sl t l=>rw[show d=_ from h] at g;simp[Cd] at g
 | _=>exact h.elim
theorem dC {w0:World} {X:WX} {β:Nat->Option Nat} {s:St} {a:Act} {w:World} {J:Nat->Prop} {lo:Nat} {bo:Option Nat} (S:CD w0 X β s a w) (g:BK (Ag s.bk) 0=0) (b:β 0=X.ob):∀{cs c:List AC} {vs:List Value},c.all Cd=true->Bg (Fs (Ag s.bk)) cs c->
  BO (Bn (cx X w β (Ag s.bk))) cs vs->BO (Ei (DK w X.ob J) lo bo) c vs
 | [],[],[],_,_,_=>trivial
 | _::_,_::_,_::_,d,h3,f=>by
  simp only[List.all_cons,Bool.and_eq_true] at d;exact⟨qi S g b d.1 h3.1 f.1,dC S g b d.2 h3.2 f.2⟩
 |[],[],_::_,_,_,h|_::_,_::_,[],_,_,h|[],_::_,_,_,h,_|_::_,[],_,_,h,_=>h.elim
theorem Uj {x y:Cx} (h:∀b,x.I b->y.I b/\y.w.heap[b]? =x.w.heap[b]?) (hw:y.w=x.w) (f:x.cv 0=0) (g:y.cv 0=0) (d:y.β 0=x.β 0):∀{c:AC} {v:Value},GN c=true->Bn x c v->Bn y c v
 | .BI t i v off len,_,e,r=>by
  match i,v,e,r with
  | 0,0,_,r=>exact⟨⟨r.1.1,Nat.zero_le _⟩,fun _=>by rw[hw,d];exact r.2 f.symm⟩
  |0,_+1,h,_|_+1,_,h,_=>simp[GN,Bt] at h
 | .BC i v off,_,e,r=>by
  match i,v,e,r with
  | 0,0,_,r=>exact⟨⟨r.1.1,Nat.zero_le _⟩,fun _=>by rw[d];exact r.2 f.symm⟩
  |0,_+1,h,_|_+1,_,h,_=>simp[GN,Bt] at h
 |.CQ,_,_,r|.int _ _,_,_,r|.bool _,_,_,r|.fn _,_,_,r|.nil,_,_,r=>r
 | .sl _ _,_,_,r=>EN h _ _ _ r
 |.Ex _ _ _ _ _,_,e,_|.Ea _ _ _ _ _,_,e,_|.FE _ _ _,_,e,_|.ub _,_,e,_|.own _ _ _,_,e,_=>by simp[GN,Bt] at e
theorem Q7 {x y:Cx} (h:∀b,x.I b->y.I b/\y.w.heap[b]? =x.w.heap[b]?) (hw:y.w=x.w) (c:y.β 0=x.β 0):∀{b:BA},b.lone=true->Ee x 0 b->Ee y 0 b
 | .dead _,_,_=>trivial
 | .var _ cs,e,⟨b,arr,ty,d,f,h3⟩=>⟨b,arr,ty,c.trans d,by rw[hw];exact f,BO.pure h (by simp only[BA.lone,Bool.and_eq_true] at e;exact e.2) h3⟩
 | .arr _ t l,_,r=>r.imp (fun q=>⟨c.trans q.1,q.2⟩) fun⟨b,arr,ty,d,f,h3⟩=>⟨b,arr,ty,c.trans d,by rw[hw];exact f,fun i y' g=>by
  obtain⟨us,j,k⟩:=h3 i y' g;exact⟨us,EN h _ _ _ j,by rw[hw];exact k⟩⟩
theorem dB {bk:Nat->Option BA}:∀{l m:List (Bool×List AC)},KQ bk l m->Bg (Fs bk) (l.flatMap (·.2)) (m.flatMap (·.2)):=by
 have app:∀{l m l' m':List AC},Bg (Fs bk) l m->Bg (Fs bk) l' m'->Bg (Fs bk) (l++l') (m++m'):=by
  intro l
  induction l with
  | nil=>intro m l' m' h h';cases m <;> first | exact h' | exact h.elim
  | cons x l b=>intro m l' m' h h';cases m with
   | nil=>exact h.elim
   | cons y m=>exact⟨h.1,b h.2 h'⟩
 intro l
 induction l with
 | nil=>intro m h;cases m <;> first | trivial | exact h.elim
 | cons x l b=>intro m h;cases m with
  | nil=>exact h.elim
  | cons y m=>rw[List.flatMap_cons,List.flatMap_cons];exact app h.1.2 (b h.2)
theorem Yq {r:AV} {p:AC->Bool} (h:r.all p=true):(r.F3.flatMap (·.2)).all p=true:=by
 cases r with
 |one c|agg cs=>simpa [AV.F3,AV.comp,AV.all] using h
 | AI xs=>simp only[AV.F3,List.all_flatMap];exact h
theorem jq {p q:AC->Bool} (h:∀c,p c=true->q c=true) {r:AV} (b:r.all p=true):r.all q=true:=by
 have l:∀{cs:List AC},cs.all p=true->cs.all q=true:=fun {cs} hc=>by rw[List.all_eq_true] at hc ⊢;exact fun x d=>h x (hc x d)
 cases r with
 | one c=>exact h c b
 | agg cs=>exact l b
 | AI xs=>simp only[AV.all] at b ⊢;rw[List.all_eq_true] at b ⊢;exact fun x d=>l (b x d)
theorem kC {f:FuncId} {n:Nat} {c:Code} {rs:List ResultVar} (F:Fn P TI f n c rs) {c0:AC} {b0 b1:BA} {args:List AV} {r:AV} (hp:Lz args=true) (N:r.all Cd=true) (m:GN c0=true/\b0.lone=true/\b1.lone=true) (hn:args.length<n)
  (h:EZ (env P) TI n c (post TI rs r (some b1)) (Eh n (.one c0::args) (some b0))):Jo P f c0 b0 args r b1:=by
 obtain⟨fn,Z,p,hb,L,O⟩:=F.get;refine⟨⟨fn,c,Z,p,hb⟩,⟨jq (fun _=>nP) N,m⟩,fun w I ob v0 vs Y H G Q l=>?_⟩;refine calls_of_wp Z hb ?_;obtain⟨n',rfl⟩:∃n',n=n'+1:=⟨n-1,by omega⟩
 have t:b0.BK=0:=by have:=m.2.1;cases b0 <;> simp_all [BA.lone,BA.BK]
 have D:b1.BK=0:=by have:=m.2.2;cases b1 <;> simp_all [BA.lone,BA.BK]
 have C:b1.live=true:=by have:=m.2.2;cases b1 <;> simp_all [BA.lone,BA.live]
 have j:∀b,I b->(cx ⟨fun b=>ob=some b,fun b=>I b\/w.heap.size<=b,ob⟩ w (β0 ob) (Ag (Eh (n'+1) (.one c0::args) (some b0)).bk)).I b/\w.heap[b]? =w.heap[b]? :=fun b hb=>
  ⟨⟨⟨(Y b hb).1,fun id _ e=>by
   unfold β0 at e
   split at e
   ·exact (Y b hb).2 e
   cases e⟩,.inl hb⟩,rfl⟩
 have A:BK (Ag (Eh (n'+1) (.one c0::args) (some b0)).bk) 0=0:=t
 have S0:CD w ⟨fun b=>ob=some b,fun b=>I b\/w.heap.size<=b,ob⟩ (β0 ob) (Eh (n'+1) (.one c0::args) (some b0)) {tmps:=(v0::vs).toArray++Array.replicate (n'+1-(v0::vs).toArray.size) undef,defers:=[]} w:=
  CD.start (X:=⟨fun b=>ob=some b,fun b=>I b\/w.heap.size<=b,ob⟩) (by simp;omega) (fun _ e=>e) (fun b hb=> .inr hb) (fun b e=>by cases e;exact⟨t,Q,by omega⟩)
   ⟨.inr (Uj (x:=DK w ob I) j rfl rfl A rfl m.1 H),Ro (x:=E7 w I) j hp l⟩
   (fun b e=>by cases e;exact Q7 (x:=DK w ob I) j rfl rfl m.2.1 G)
 rw[L];refine wp_mono (Gy F.mixed (fun o ho=>WI F.ty o ho) F.dst (by simp[Eh,It];omega) S0 h) fun e V w' he=>?_
 obtain⟨x,s',U,rfl,d,_,S⟩:=he
 have fin:post TI rs r (some b1) x s'->(∀i,x≠ .exit i)->V.defers=[]/\∃v,(results fn V.tmps).run P w'= .ok v w'/\∃u,Ending.returned v= .returned u/\
   (w'.os=w.os/\w'.tape=w.tape/\w'.output=w.output/\w.heap.size<=w'.heap.size/\∀k,k<w.heap.size->ob≠some k->w'.heap[k]? =w.heap[k]?)/\
   (∀(b:Nat) arr e,ob=some b->w.heap[b]? =some (.cells arr e (0,0))->∃g,w'.heap[b]? =some (.cells g e (0,0))/\g.size=arr.size)/\
   CB (DK w' ob fun k=>(I k\/w.heap.size<=k)/\k<w'.heap.size/\ob≠some k) r u/\
   Ee (DK w' ob fun k=>(I k\/w.heap.size<=k)/\k<w'.heap.size/\ob≠some k) 0 b1/\b1.short:=by
  intro d hx;refine⟨S.defers,?_⟩
  have M:∃xs,KR TI s' rs=some xs/\(KQ (Ag s'.bk) xs r.F3/\Rg xs r.F3=true/\(rs.length=1↔∀ys,r≠ .AI ys))/\Ag s'.bk 0=some b1:=by
   unfold post at d
   split at d
   ·exact absurd rfl (hx _)
   split at d
   ·rename_i xs T
    exact⟨xs,T,d.1 (),d.2 ()⟩
   exact d.elim
  obtain⟨xs,h1,⟨W,h3,h4⟩,B⟩:=M;obtain⟨us,ws,k1,k2,k3⟩:=SA F.ty S h1 W;have z:BK (Ag s'.bk) 0=0:=by rw[HF B];exact D
  have y:live (Ag s'.bk) 0:=⟨_,B,C⟩;obtain⟨q,R⟩:=S.Mg y z
  have hJ:∀b,(cx ⟨fun b=>ob=some b,fun b=>I b\/w.heap.size<=b,ob⟩ w' U (Ag s'.bk)).I b->(DK w' ob fun k=>(I k\/w.heap.size<=k)/\k<w'.heap.size/\ob≠some k).I b/\w'.heap[b]? =w'.heap[b]? :=
   fun b hb=>⟨⟨hb.2,hb.1.1,fun e=>hb.1.2 0 y (q.trans e)⟩,rfl⟩
  have g1:=dC (J:=fun k=>(I k\/w.heap.size<=k)/\k<w'.heap.size/\ob≠some k) (lo:=0) (bo:=none) S z q (Yq N) (dB W) k2;have hlen:us.length=rs.length:=k1.length.symm;refine⟨KF us,Vu (by rw[O];exact k1),KF us,rfl,⟨S.os,S.tape,S.output,S.size,fun b hb K=>S.block b hb K⟩,R,qf N (Tj (by rw[hlen];exact h4) (k3 _ _ _ g1)),?_,S.lens 0 _ B⟩;exact Q7 hJ rfl q.symm m.2.2 (S.blocks 0 b1 B)
 cases x with
 |Eb|ret=>exact fin d (by simp)
 | exit i=>exact d.elim
theorem qk {w0:World} {X:WX} {β:Nat->Option Nat} {s:St} {a:Act} {w:World} {I:Nat->Prop} (S:CD w0 X β s a w) (M:∀b,X.A b->I b\/w0.heap.size<=b) (j:live (Ag s.bk) 0) (o:β 0=X.ob) {c d:AC} {v:Value} (O:Lv c=true) (C:Bt d=true)
  (h:Fs (Ag s.bk) c d) (r:Bn (cx X w β (Ag s.bk)) c v) {lo:Nat} {bo:Option Nat}:Ei (DK w X.ob fun k=>(I k\/w0.heap.size<=k)/\k<w.heap.size/\X.ob≠some k) lo bo d v:=by
 have J:∀b,(cx X w β (Ag s.bk)).I b->((I b\/w0.heap.size<=b)/\b<w.heap.size/\X.ob≠some b)/\w.heap[b]? =w.heap[b]? :=fun b hb=>⟨⟨M b hb.2,hb.1.1,fun e=>hb.1.2 0 j (o.trans e)⟩,rfl⟩
 cases c with
 | BI t id u off len=>
  rcases h with⟨l,x,V,rfl⟩ |⟨l,n,_,_,_,_,_,rfl⟩ |⟨rfl,rfl,rfl⟩
  ·have g:id≠0:=fun e=>by subst e;simp[Lv] at O
   have Q:u=BK (Ag s.bk) id:=by rw[HF x];rfl
   obtain⟨base,cap,e,g1,g2,_,H⟩:=r.2 Q;have hlen:((l.drop off).take len).length=len:=by simp;omega
   have z:l.length<=140737488355328:=S.lens id _ x;refine⟨base,cap,by rw[hlen,e],by rw[hlen];exact g1,by rw[hlen];omega,?_⟩;rcases H with H |⟨b,arr,e',k1,k2,W,Y⟩
   ·left;exact List.eq_nil_of_length_eq_zero (by rw[hlen];omega)
   rcases S.blocks id _ x with⟨p,K⟩ |⟨b',G,L,p,K,U⟩
   ·exact absurd (p.symm.trans k1) (by simp)
   obtain rfl:b'=b:=Option.some.inj (p.symm.trans k1);have m:live (Ag s.bk) id:=⟨_,x,rfl⟩
   have D:b'<w.heap.size:=by
    rcases Nat.lt_or_ge b' w.heap.size with h' | h'
    ·exact h'
    have F:w.heap[b']? =_:=K;simp[Array.getElem?_eq_none h'] at F
   refine .inr ⟨b',_,k2,⟨.inr ((S.own id b' m p).resolve_right (fun q=>g q.2)),D,fun e=>g (S.inj id 0 b' m j p (o.trans e))⟩,fun i y B=>?_⟩
   have N:l[off+i]? =some y:=by
    rw[List.getElem?_take] at B
    split at B
    ·simpa using B
    cases B
   obtain⟨us,R,T⟩:=U (off+i) y N;exact⟨us,EN (w':=w) J _ _ _ R,by rw[show off*t.size+i*t.size=(off+i)*t.size by rw[Nat.add_mul]];exact T⟩
  ·simp[Bt] at C
  simp[Bt] at C
 | nil=>
  rcases h with rfl |⟨t,rfl⟩ |⟨t,rfl⟩
  ·exact r
  ·exact⟨none,0,by rw[show v=_ from r];rfl,Nat.le_refl _,by simp,.inl rfl⟩
  simp[Bt] at C
 |int k n|bool b|fn f=>rw[show d=_ from h];exact r
 | sl t l=>rw[show d=_ from h];exact EN (w':=w) J _ _ _ r
 | _=>exact h.elim
theorem dE {w0:World} {X:WX} {β:Nat->Option Nat} {s:St} {a:Act} {w:World} {I:Nat->Prop} (S:CD w0 X β s a w) (l:∀b,X.A b->I b\/w0.heap.size<=b) (c:live (Ag s.bk) 0) (d:β 0=X.ob) {lo:Nat} {bo:Option Nat}:
  ∀{cs f:List AC} {vs:List Value},cs.all Lv=true->f.all Bt=true->Bg (Fs (Ag s.bk)) cs f->BO (Bn (cx X w β (Ag s.bk))) cs vs->BO (Ei (DK w X.ob fun k=>(I k\/w0.heap.size<=k)/\k<w.heap.size/\X.ob≠some k) lo bo) f vs
 | [],[],[],_,_,_,_=>trivial
 | _::_,_::_,_::_,g,i,h3,j=>by
  simp only[List.all_cons,Bool.and_eq_true] at g i;exact⟨qk S l c d g.1 i.1 h3.1 j.1,dE S l c d g.2 i.2 h3.2 j.2⟩
 |[],[],_::_,_,_,_,h|_::_,_::_,[],_,_,_,h|[],_::_,_,_,_,h,_|_::_,[],_,_,_,h,_=>h.elim
theorem PB {y:Cx} {lo:Nat} {bo:Option Nat}:∀{c:AC} {v:Value},Bt c=true->Ei y lo bo c v->Bn y c v
 |.int _ _,_,_,r|.bool _,_,_,r|.fn _,_,_,r|.nil,_,_,r|.CQ,_,_,r|.sl _ _,_,_,r=>r
 |.BI _ _ _ _ _,_,h,_|.Ex _ _ _ _ _,_,h,_|.BC _ _ _,_,h,_|.Ea _ _ _ _ _,_,h,_|.FE _ _ _,_,h,_|.ub _,_,h,_|.own _ _ _,_,h,_=>by simp[Bt] at h
theorem BO.PB {y:Cx} {lo:Nat} {bo:Option Nat}:∀{cs:List AC} {vs:List Value},cs.all Bt=true->BO (Ei y lo bo) cs vs->BO (Bn y) cs vs
 | [],[],_,_=>trivial
 | _::_,_::_,e,r=>by simp only[List.all_cons,Bool.and_eq_true] at e;exact⟨Abs.PB e.1 r.1,BO.PB e.2 r.2⟩
 |[],_::_,_,r|_::_,[],_,r=>r.elim
theorem R3 {y:Cx} {lo:Nat} {bo:Option Nat} {r:AV} {v:Value} (h:r.all Bt=true) (b:Hq y lo bo r v):FO y r v:=by
 cases r with
 | one c=>exact b.imp (fun q=>q) (PB h)
 | agg cs=>obtain⟨arr,e,b⟩:=b;exact⟨arr,e,BO.PB h b⟩
 | AI _=>exact b.elim
theorem qg {y:Cx} {lo:Nat} {bo:Option Nat} {r:AV} {v:Value} (h:r.all Bt=true) (f:IZ y lo bo r v):CB y r v:=by
 cases r with
 |one c|agg cs=>exact R3 h f
 | AI xs=>
  obtain⟨arr,e,f⟩:=f;refine⟨arr,e,?_⟩
  have key:∀(xs:List (Bool×List AC)) (us:List Value),(xs.all fun x=>x.2.all Bt)=true->BO (fun z q=>Hq y lo bo (Ez z) q) xs us->BO (fun z q=>FO y (Ez z) q) xs us:=by
   intro xs
   induction xs with
   | nil=>intro us _ b;cases us <;> first | trivial | exact b.elim
   | cons z xs i=>
    intro us d b;cases us with
    | nil=>exact b.elim
    | cons q us=>
     simp only[List.all_cons,Bool.and_eq_true] at d;refine⟨?_,i us d.2 b.2⟩;obtain⟨g,cs⟩:=z;have h3:=b.1;cases g with
     | true=>exact R3 (r:= .agg cs) d.1 h3
     | false=>
      cases cs with
      | nil=>exact Or.inl rfl
      | cons c cs=>
       simp only[List.all_cons,Bool.and_eq_true] at d;exact R3 (r:= .one c) d.1.1 h3
  exact key xs arr.toList h f
def Ku (args:List AV):Bool:=args.all fun c=>match c with | .AI _=>false | c=>c.all GN
theorem Uh {x y:Cx} (h:∀b,x.I b->y.I b/\y.w.heap[b]? =x.w.heap[b]?) (hw:y.w=x.w) (f:x.cv 0=0) (g:y.cv 0=0) (d:y.β 0=x.β 0):∀{l:List AV} {vs:List Value},Ku l=true->BO (CB x) l vs->BO (CB y) l vs
 | [],[],_,_=>trivial
 | .one c::l,_::_,e,r=>by
  have e':(GN c&&Ku l)=true:=e;simp only[Bool.and_eq_true] at e';exact⟨r.1.imp (fun q=>q) (Uj h hw f g d e'.1),Uh h hw f g d e'.2 r.2⟩
 | .agg c::l,_::_,e,r=>by
  have e':(c.all GN&&Ku l)=true:=e;simp only[Bool.and_eq_true] at e';obtain⟨arr,e2,i⟩:=r.1;refine⟨⟨arr,e2,?_⟩,Uh h hw f g d e'.2 r.2⟩;exact all e'.1 i
 | .AI _::_,_::_,e,_=>by simp[Ku] at e
 |[],_::_,_,r|_::_,[],_,r=>r.elim
where
 all:∀{cs:List AC} {vs:List Value},cs.all GN=true->BO (Bn x) cs vs->BO (Bn y) cs vs
  | [],[],_,_=>trivial
  | _::_,_::_,e,r=>by simp only[List.all_cons,Bool.and_eq_true] at e;exact⟨Uj h hw f g d e.1 r.1,all e.2 r.2⟩
  |[],_::_,_,r|_::_,[],_,r=>r.elim
theorem o7:∀{xs:List (Bool×List AC)},(xs.all fun x=>x.2.all Lv)=true->(xs.flatMap (·.2)).all Lv=true:=fun {xs} h=>by
 rw[List.all_flatMap];exact h
theorem Yt {f:FuncId} {n:Nat} {c:Code} {rs:List ResultVar} (F:Fn P TI f n c rs) {b0:BA} {args:List AV} {r:AV} (hp:Ku args=true) (J:r.all Bt=true) (C:b0.lone=true) (hn:args.length<=n) (a1:0<n)
  (h:EZ (env P) TI n c (On TI rs r b0) (Eh n args (some b0))):Bk P f args b0 r:=by
 obtain⟨fn,V,p,hb,G,K⟩:=F.get;refine⟨⟨fn,c,V,p,hb⟩,⟨J,C⟩,fun w I ob vs U B L l=>?_⟩;refine calls_of_wp V hb ?_;obtain⟨n',rfl⟩:∃n',n=n'+1:=⟨n-1,by omega⟩
 have j:b0.BK=0:=by cases b0 <;> simp_all [BA.lone,BA.BK]
 have z:b0.live=true:=by cases b0 <;> simp_all [BA.lone,BA.live]
 have t:∀b,I b->(cx ⟨fun b=>ob=some b,fun b=>I b\/w.heap.size<=b,ob⟩ w (β0 ob) (Ag (Eh (n'+1) args (some b0)).bk)).I b/\w.heap[b]? =w.heap[b]? :=fun b hb=>
  ⟨⟨⟨(U b hb).1,fun id _ e=>by
   unfold β0 at e
   split at e
   ·exact (U b hb).2 e
   cases e⟩,.inl hb⟩,rfl⟩
 have y:BK (Ag (Eh (n'+1) args (some b0)).bk) 0=0:=j
 have W:CD w ⟨fun b=>ob=some b,fun b=>I b\/w.heap.size<=b,ob⟩ (β0 ob) (Eh (n'+1) args (some b0)) {tmps:=vs.toArray++Array.replicate (n'+1-vs.toArray.size) undef,defers:=[]} w:=
  CD.start (X:=⟨fun b=>ob=some b,fun b=>I b\/w.heap.size<=b,ob⟩) hn (fun _ e=>e) (fun b hb=> .inr hb) (fun b e=>by cases e;exact⟨j,L,by omega⟩)
   (Uh (x:=DK w ob I) t rfl rfl y rfl hp l)
   (fun b e=>by cases e;exact Q7 (x:=DK w ob I) t rfl rfl C B)
 rw[G];refine wp_mono (Gy F.mixed (fun o ho=>WI F.ty o ho) F.dst (by simp[Eh,It];omega) W h) fun e R w' he=>?_
 obtain⟨x,s',Q,rfl,g,_,S⟩:=he
 have fin:On TI rs r b0 x s'->(∀i,x≠ .exit i)->R.defers=[]/\∃v,(results fn R.tmps).run P w'= .ok v w'/\∃u,Ending.returned v= .returned u/\
   (w'.os=w.os/\w'.tape=w.tape/\w'.output=w.output/\w.heap.size<=w'.heap.size/\∀k,k<w.heap.size->ob≠some k->w'.heap[k]? =w.heap[k]?)/\
   (∀(b:Nat) arr e,ob=some b->w.heap[b]? =some (.cells arr e (0,0))->∃d,w'.heap[b]? =some (.cells d e (0,0))/\d.size=arr.size)/\
   CB (DK w' ob fun k=>(I k\/w.heap.size<=k)/\k<w'.heap.size/\ob≠some k) r u/\
   Ee (DK w' ob fun k=>(I k\/w.heap.size<=k)/\k<w'.heap.size/\ob≠some k) 0 b0:=by
  intro g hx;refine⟨S.defers,?_⟩
  have H:∃xs,KR TI s' rs=some xs/\(KQ (Ag s'.bk) xs r.F3/\(xs.all fun x=>x.2.all Lv)=true/\(rs.length=1↔∀ys,r≠ .AI ys))/\Ag s'.bk 0=some b0:=by
   unfold On at g
   split at g
   ·exact absurd rfl (hx _)
   split at g
   ·rename_i xs O
    exact⟨xs,O,g ()⟩
   exact g.elim
  obtain⟨xs,Y,⟨T,h3,Z⟩,A⟩:=H;obtain⟨us,ws,k1,k2,k3⟩:=SA F.ty S Y T;have N:BK (Ag s'.bk) 0=0:=by rw[HF A];exact j
  have m:live (Ag s'.bk) 0:=⟨_,A,z⟩;obtain⟨q,M⟩:=S.Mg m N
  have hJ:∀b,(cx ⟨fun b=>ob=some b,fun b=>I b\/w.heap.size<=b,ob⟩ w' Q (Ag s'.bk)).I b->(DK w' ob fun k=>(I k\/w.heap.size<=k)/\k<w'.heap.size/\ob≠some k).I b/\w'.heap[b]? =w'.heap[b]? :=
   fun b hb=>⟨⟨hb.2,hb.1.1,fun e=>hb.1.2 0 m (q.trans e)⟩,rfl⟩
  have g1:=dE (I:=I) (lo:=0) (bo:=none) S (fun b hb=>hb) m q (o7 h3) (Yq J) (dB T) k2;have hlen:us.length=rs.length:=k1.length.symm;refine⟨KF us,Vu (by rw[K];exact k1),KF us,rfl,⟨S.os,S.tape,S.output,S.size,fun b hb D=>S.block b hb D⟩,M,qg J (Tj (by rw[hlen];exact Z) (k3 _ _ _ g1)),?_⟩;exact Q7 hJ rfl q.symm C (S.blocks 0 b0 A)
 cases x with
 |Eb|ret=>exact fin g (by simp)
 | exit i=>exact g.elim
def JQ:AC->Bool
 |.int _ _|.bool _|.fn _|.nil=>true
 | .own t _ _=>t.flat
 | _=>false
theorem ln {w:World} {I d:Nat->Prop} {lo:Nat} {bo:Option Nat}:∀{c:AC} {v:Value},JQ c=true->Ei (E7 w I) lo bo c v->Ei (E7 w d) lo bo c v
 |.int _ _,_,_,r|.bool _,_,_,r|.fn _,_,_,r|.nil,_,_,r=>r
 | .own t l n,_,h,⟨k,base,cap,e,f,g,h3,j⟩=>⟨k,base,cap,e,f,g,h3,j.imp (fun q=>q) fun⟨b,arr,ty,k1,k2,o,p,u,x⟩=>⟨b,arr,ty,k1,k2,o,p,u,fun i y m=>by
  obtain⟨us,z,A⟩:=x i y m;exact⟨us,R6 (I:=I) (w:=w) t y us h z,A⟩⟩⟩
 |.CQ,_,h,_|.sl _ _,_,h,_|.BI _ _ _ _ _,_,h,_|.Ex _ _ _ _ _,_,h,_|.BC _ _ _,_,h,_|.Ea _ _ _ _ _,_,h,_|.FE _ _ _,_,h,_|.ub _,_,h,_=>by simp[JQ] at h
def LC:AC->AC
 | .own t l _=> .sl t l
 | c=>c
def VO:AV->AV
 | .one c=> .one (LC c)
 | .agg cs=> .agg (cs.map LC)
 | .AI xs=> .AI (xs.map fun x=>(x.1,x.2.map LC))
theorem aa {x y:Cx} {lo OY:Nat} {bo N7:Option Nat} {p:AC->Bool} {g:AC->AC} (m:g .CQ= .CQ) (h:∀c v,p c=true->Ei x lo bo c v->Ei y OY N7 (g c) v) {r:AV} {v:Value} (j:r.all p=true) (d:IZ x lo bo r v):
  IZ y OY N7 (match r with | .one c=> .one (g c) | .agg cs=> .agg (cs.map g) | .AI xs=> .AI (xs.map fun x=>(x.1,x.2.map g))) v:=by
 have l:∀{cs:List AC} {vs:List Value},cs.all p=true->BO (Ei x lo bo) cs vs->BO (Ei y OY N7) (cs.map g) vs:=by
  intro cs
  induction cs with
  | nil=>intro vs _ h;cases vs <;> first | trivial | exact h.elim
  | cons c cs k=>intro vs hc b;cases vs with
   | nil=>exact b.elim
   | cons u us=>
    simp only[List.all_cons,Bool.and_eq_true] at hc;exact⟨h _ _ hc.1 b.1,k hc.2 b.2⟩
 cases r with
 | one c=>
  rcases d with rfl | d
  ·exact .inl m
  exact .inr (h _ _ j d)
 | agg cs=>obtain⟨arr,e,d⟩:=d;exact⟨arr,e,l j d⟩
 | AI xs=>
  obtain⟨arr,e,d⟩:=d;refine⟨arr,e,?_⟩
  have key:∀(xs:List (Bool×List AC)) (us:List Value),(xs.all fun x=>x.2.all p)=true->BO (fun z q=>Hq x lo bo (Ez z) q) xs us->BO (fun z q=>Hq y OY N7 (Ez z) q) (xs.map fun x=>(x.1,x.2.map g)) us:=by
   intro xs
   induction xs with
   | nil=>intro us _ b;cases us <;> first | trivial | exact b.elim
   | cons z xs k=>
    intro us i b;cases us with
    | nil=>exact b.elim
    | cons q us=>
     simp only[List.all_cons,Bool.and_eq_true] at i;refine⟨?_,k us i.2 b.2⟩;obtain⟨t,cs⟩:=z;have h3:=b.1;cases t with
     | true=>obtain⟨f,e',h3⟩:=h3;exact⟨f,e',l i.1 h3⟩
     | false=>
      cases cs with
      | nil=>exact Or.inl rfl
      | cons c cs=>
       simp only[List.all_cons,Bool.and_eq_true] at i;rcases h3 with e1 | h3
       ·have e1:c= .CQ:=e1;subst e1;exact .inl m
       exact .inr (h _ _ i.1.1 h3)
  exact key xs arr.toList j d
theorem Sv {f:FuncId} {args:List AV} {r:AV} (j:r.all JQ=true) (h:Gv P false f args r):Gv P true f args r:=by
 refine⟨h.1,h.2.1,fun w I vs i d=>(h.2.2 w I vs i d).mono fun e w' ⟨u,bo,he,hb,hu⟩=>⟨u,bo,he,hb,?_⟩⟩;have:=aa (g:=fun c=>c) (y:=E7 w' fun b=>((true=false/\I b)\/w.heap.size<=b)/\b<w'.heap.size/\bo≠some b) rfl (fun c v hc=>ln hc) j hu;cases r <;> simpa using this
theorem pQ {w:World} {J:Nat->Prop} {lo:Nat} {bo:Option Nat}:∀{c:AC} {v:Value},C6 c=true->Ei (E7 w fun b=>(J b\/lo<=b)/\b<w.heap.size/\bo≠some b) lo bo c v->Ei (E7 w fun b=>(J b\/lo<=b)/\b<w.heap.size/\(none:Option Nat)≠some b) lo none (LC c) v
 | .own t l n,v,_,⟨A,base,cap,e,g,z,h3,j⟩=>by
  refine⟨base,cap,by rw[e],g,h3,?_⟩;rcases j with⟨_,q,_⟩ |⟨b,arr,ty,k1,k2,m,o,B,p⟩
  ·exact .inl q
  have d:b<w.heap.size:=by
   rcases Nat.lt_or_ge b w.heap.size with h' | h'
   ·exact h'
   have f:w.heap[b]? =_:=o;simp[Array.getElem?_eq_none h'] at f
  refine .inr ⟨b,0,m,⟨.inr k2,d,by simp⟩,fun i y k=>?_⟩;obtain⟨us,u,x⟩:=p i y k;exact⟨us,EN (w':=w) (fun b hb=>⟨⟨hb.1,hb.2.1,by simp⟩,rfl⟩) _ _ _ u,by rw[Nat.zero_add];exact x⟩
 |.int _ _,_,_,r|.bool _,_,_,r|.fn _,_,_,r|.nil,_,_,r|.CQ,_,_,r=>r
 | .sl _ _,_,_,r=>EN (w':=w) (fun b hb=>⟨⟨hb.1,hb.2.1,by simp⟩,rfl⟩) _ _ _ r
 |.BI _ _ _ _ _,_,h,_|.Ex _ _ _ _ _,_,h,_|.BC _ _ _,_,h,_|.Ea _ _ _ _ _,_,h,_|.FE _ _ _,_,h,_|.ub _,_,h,_=>by simp[C6,Bt] at h
theorem Ek {fl:Bool} {f:FuncId} {args:List AV} {r:AV} (h:Gv P fl f args r):Gv P fl f args (VO r):=by
 have hc:∀c,C6 c=true->C6 (LC c)=true:=fun c hc=>by cases c <;> simp_all [LC,C6,Bt]
 have i:∀{cs:List AC},cs.all C6=true->(cs.map LC).all C6=true:=fun {cs} h=>by
  rw[List.all_eq_true] at h ⊢;intro x j;obtain⟨y,l,rfl⟩:=List.mem_map.1 j;exact hc y (h y l)
 refine⟨h.1,⟨?_,?_⟩,fun w I vs k d=>(h.2.2 w I vs k d).mono fun e w' ⟨u,bo,he,hb,hu⟩=>⟨u,none,he,hb,?_⟩⟩
 ·have:=h.2.1.1;cases r with
  | one c=>exact hc c this
  | agg cs=>exact i this
  | AI xs=>
   simp only[VO,AV.all,List.all_map] at this ⊢;rw[List.all_eq_true] at this ⊢;exact fun x j=>i (this x j)
 ·have:=h.2.1.2;cases r with
  |one c|agg cs=>rfl
  | AI xs=>
   simp only[VO,AV.wf,List.all_map] at this ⊢;rw[List.all_eq_true] at this ⊢;exact fun x j=>by simpa using this x j
 have:=aa (g:=LC) (N7:=none) (OY:=w.heap.size) (y:=E7 w' fun b=>((fl=false/\I b)\/w.heap.size<=b)/\b<w'.heap.size/\(none:Option Nat)≠some b) rfl (fun c v hc=>pQ (J:=fun b=>fl=false/\I b) hc) h.2.1.1 hu;cases r <;> exact this
end
def zC:AC->Value->Bool
 | .int k n,.int k' n'=>k==k'&&n==n'
 | .bool b,.bool b'=>b==b'
 |.nil,.slice none 0 0|.sl _ [],.slice none 0 0=>true
 | _,_=>false
def L6:List AC->List Value->Bool
 | [],[]=>true
 | c::cs,v::vs=>zC c v&&L6 cs vs
 | _,_=>false
theorem s5 {c:AC} {v:Value} (h:zC c v=true) (x:Cx):Bn x c v:=by
 unfold zC at h
 split at h
 ·simp only[Bool.and_eq_true,beq_iff_eq] at h;obtain⟨rfl,rfl⟩:=h
  rfl
 ·simp only[beq_iff_eq] at h;subst h
  rfl
 ·rfl
 ·exact⟨none,0,rfl,Nat.le_refl _,by simp,.inl rfl⟩
 cases h
theorem Wk:∀{cs:List AC} {vs:List Value},L6 cs vs=true->∀x,BO (Bn x) cs vs
 | [],[],_,_=>trivial
 | _::_,_::_,h,x=>by simp only[L6,Bool.and_eq_true] at h;exact⟨s5 h.1 x,Wk h.2 x⟩
 |[],_::_,h,_|_::_,[],h,_=>by simp[L6] at h
def Yh (P:Program) (t:TypeId) (i:Info):Bool:=
 match P.info? t with
 | some ti=>match P.underlying t with
  | some d=>match ti.zero with
   | some z=>ti.size==i.size&&L6 i.zero z.cells.toList&&d.isRow==i.agg&&(i.agg||i.size==1)
   | none=>false
  | none=>false
 | none=>false
def Yg (P:Program) (t:TypeId) (k:IntKind):Bool:=
 match P.underlying t with
 | some (.int k')=>k'==k
 | _=>false
def Yk (P:Program) (t:TypeId) (i:Info):Bool:=
 match P.underlying t with
 | some (.slice e)=>e==i.Ef&&(match P.info? i.Ef with
  | some ei=>match ei.zero with
   | some z=>ei.size==i.elem.size&&ei.bytes==i.G0&&decide (0<ei.bytes)&&L6 (cells i.elem i.Ck) z.cells.toList
   | none=>false
  | none=>false)
 | _=>false
def TU (P:Program) (p:Nat×Nat×Bool) (fl:Field):Bool:=
 match P.info? fl.type with
 | some ti=>match P.underlying fl.type with
  | some d=>fl.offset==p.1&&ti.size==p.2.1&&decide (0<p.2.1)&&d.isRow==p.2.2&&(p.2.2||p.2.1==1)
  | none=>false
 | none=>false
def MR (P:Program):List (Nat×Nat×Bool)->List Field->Bool
 | [],[]=>true
 | p::ps,f::fs=>TU P p f&&MR P ps fs
 | _,_=>false
def Ye (P:Program) (t:TypeId) (i:Info):Bool:=
 match P.underlying t with
 | some (.struct fs)=>MR P i.fields fs.toList
 | _=>false
def YZ (P:Program) (t:TypeId):Bool:=
 match P.underlying t with
 | some .bool=>true
 | _=>false
def Yl (P:Program) (t:TypeId) (i:Info):Bool:=
 (!i.known||Yh P t i)&&(match i.kind with | some k=>Yg P t k | none=>true)&&(!i.sl||Yk P t i)&&(!i.Qy||YZ P t)&&(!i.known||i.fields.isEmpty||Ye P t i)
theorem Yf {P:Program}:∀{b:List (Nat×Nat×Bool)} {fs:List Field},MR P b fs=true->b.length=fs.length/\∀(f:Nat) (p:Nat×Nat×Bool),b[f]? =some p->∃fl,fs[f]? =some fl/\TU P p fl=true
 | [],[],_=>⟨rfl,fun f p h=>by simp at h⟩
 | p::b,f::fs,h=>by
  simp only[MR,Bool.and_eq_true] at h;obtain⟨d,g⟩:=Yf h.2;refine⟨by simp[d],fun i q c=>?_⟩;cases i with
  | zero=>simp at c;subst c;exact⟨f,rfl,h.1⟩
  | succ i=>simpa using g i q (by simpa using c)
 |[],_::_,h|_::_,[],h=>by simp[MR] at h
theorem WZ {P:Program} {t:TypeId} {i:Info} (h:Yl P t i=true):FP P t i:=by
 simp only[Yl,Bool.and_eq_true] at h;obtain⟨⟨⟨⟨b,c⟩,h3⟩,p⟩,m⟩:=h;refine⟨fun o=>?_,fun k o=>?_,fun hb=>?_,fun G=>?_,fun o B=>?_⟩
 ·simp only[o,Bool.not_true,Bool.false_or] at b;unfold Yh at b
  split at b
  ·rename_i v e1
   split at b
   ·rename_i d e2
    split at b
    ·rename_i z l
     simp only[Bool.and_eq_true,beq_iff_eq,Bool.or_eq_true] at b;obtain⟨⟨⟨q,r⟩,a3⟩,a4⟩:=b;exact⟨v,z,d,e1,q,l,Wk r,e2,a3,fun ha=>a4.resolve_left (by simp[ha])⟩
    cases b
   cases b
  cases b
 ·rw[o] at c;simp only at c;unfold Yg at c
  split at c
  ·rename_i k' e;rw[e];simp only[beq_iff_eq] at c;rw[c]
  cases c
 ·simp only[hb,Bool.not_true,Bool.false_or] at p;unfold YZ at p
  split at p
  ·assumption
  cases p
 ·simp only[G,Bool.not_true,Bool.false_or] at h3;unfold Yk at h3
  split at h3
  ·rename_i e e1
   simp only[Bool.and_eq_true,beq_iff_eq] at h3;obtain⟨rfl,h3⟩:=h3;refine⟨e1,?_⟩
   split at h3
   ·rename_i A e2
    split at h3
    ·rename_i z l
     simp only[Bool.and_eq_true,beq_iff_eq,decide_eq_true_eq] at h3;obtain⟨⟨⟨q,r⟩,a3⟩,a4⟩:=h3;exact⟨A,z,e2,q,r,a3,l,Wk a4⟩
    cases h3
   cases h3
  cases h3
 have u:i.fields.isEmpty=false:=by cases D:i.fields with
  | nil=>exact absurd D B
  | cons _ _=>rfl
 simp only[o,u,Bool.not_true,Bool.false_or] at m;unfold Ye at m
 split at m
 ·rename_i fs e1
  obtain⟨g1,g2⟩:=Yf m;refine⟨fs,e1,by simpa using g1,fun f I n g F=>?_⟩;obtain⟨fl,H,j⟩:=g2 f _ F;unfold TU at j
  split at j
  ·rename_i v e2
   split at j
   ·rename_i d l
    simp only[Bool.and_eq_true,beq_iff_eq,decide_eq_true_eq,Bool.or_eq_true] at j;obtain⟨⟨⟨⟨b1,b2⟩,b3⟩,x⟩,y⟩:=j;exact⟨fl,d,by simpa using H,b1,by rw[e2];exact congrArg some b2,b3,l,x,fun C=>y.resolve_left (by simp[C])⟩
   cases j
  cases j
 cases m
def bB:Info:={known:=false,Ck:=false}
theorem sY (P:Program) (t:TypeId):FP P t bB:=WZ (by rfl)
abbrev eU:T:= .pr .bool (.sl .u32)
abbrev AA:T:= .pr eU eU
abbrev Bc:T:= .pr (.sl (.sl AA)) (.sl AA)
abbrev BL:T:= .pr Bc Bc
abbrev Bh:T:= .pr .u8 (.pr .u8 (.pr .u8 (.pr .i8 .u8)))
def TI:TypeId->Info
 |2|3=>{size:=1,zero:=[.int .i64 0],kind:=some .i64,Ck:=false}
 | 4=>{size:=1,zero:=[.bool false],Qy:=true,Ck:=false}
 | 5=>{size:=1,zero:=[.int .u8 0],kind:=some .u8,Ck:=false}
 |22|23=>{size:=1,zero:=[.nil],sl:=true,Ef:=226,elem:=Bh,Ck:=((0,0,0,0,0):el Bh),G0:=5}
 | 29=>{size:=1,zero:=[.nil],sl:=true,Ef:=30,elem:=(.sl AA),Ck:=([]:el (.sl AA)),G0:=24}
 | 30=>{size:=1,zero:=[.nil],sl:=true,Ef:=171,elem:=AA,Ck:=(((false,[]),(false,[])):el AA),G0:=64}
 | 32=>{size:=2,zero:=[.nil,.nil],agg:=true,Ck:=false,fields:=[(0,1,false),(1,1,false)]}
 | 40=>{size:=1,zero:=[.int .i64 0],kind:=some .i64,Ck:=false}
 | 176=>{size:=1,zero:=[.nil],sl:=true,Ef:=32,elem:=Bc,Ck:=(([],[]):el Bc),G0:=48}
 | 24=>{size:=1,zero:=[.nil],sl:=true,Ef:=5,elem:= .u8,Ck:=(0:el .u8),G0:=1}
 | 26=>{size:=2,zero:=[.nil,.nil],agg:=true,Ck:=false,fields:=[(0,1,false),(1,1,false)]}
 | 46=>{size:=1,zero:=[.nil],sl:=true,Ef:=36,elem:=BL,Ck:=((([],[]),([],[])):el BL),G0:=96}
 | 36=>{size:=4,zero:=[.nil,.nil,.nil,.nil],agg:=true,Ck:=false,fields:=[(0,2,true),(2,2,true)]}
 | 167=>{size:=1,zero:=[.nil],sl:=true,Ef:=263,elem:= .u32,Ck:=(0:el .u32),G0:=4}
 | 169=>{size:=2,zero:=[.bool false,.nil],agg:=true,Ck:=false,fields:=[(0,1,false),(1,1,false)]}
 | 171=>{size:=4,zero:=[.bool false,.nil,.bool false,.nil],agg:=true,Ck:=false,fields:=[(0,2,true),(2,2,true)]}
 | 224=>{size:=1,zero:=[.int .i8 0],kind:=some .i8,Ck:=false}
 | 226=>{size:=5,zero:=[.int .u8 0,.int .u8 0,.int .u8 0,.int .i8 0,.int .u8 0],agg:=true,Ck:=false,fields:=[(0,1,false),(1,1,false),(2,1,false),(3,1,false),(4,1,false)]}
 | 236=>{size:=2,zero:=[.nil,.nil],agg:=true,Ck:=false,fields:=[(0,1,false),(1,1,false)]}
 | 263=>{size:=1,zero:=[.int .u32 0],kind:=some .u32,Ck:=false}
 |253|273=>{size:=1,zero:=[.int .u64 0],kind:=some .u64,Ck:=false}
 | _=>bB
theorem PO (t:TypeId):FP Tryz.prog t (TI t):=by
 unfold TI
 split <;> first | exact sY _ _ | exact WZ (by kernel_rfl)
theorem Mw:Tryz.prog.follows .mixedOrders=true:=by kernel_rfl
def Hr (fn : Func) : Bool := (fn.name == "runtime.NumGoroutine") == false && match fn.body with | some c => Il c | none => false
def N8 (E:Env) (fn:Func) (r:AV) (b1:Option BA) (s:St):Prop:=
 match fn.body with
 | some c=>EZ E TI fn.ntmps c (post TI fn.results.toList r b1) s
 | none=>False
theorem jg {f:FuncId} {fn:Func} (g:Tryz.prog.funcs[f]? =some fn) (b:Hr fn=true) {args:List AV} {r:AV} (d:(Lz args&&(r.all C6&&(r.wf&&Nat.ble args.length fn.ntmps)))=true)
  (h:∀E,env Tryz.prog=E->N8 E fn r none (Eh fn.ntmps args none)):Gv Tryz.prog false f args r:=by
 have h:=h _ rfl;unfold N8 at h;unfold Hr at b;simp only[Bool.and_eq_true] at b d
 split at h
 ·rename_i c hc
  rw[hc] at b;exact Xr (TI:=TI) (n:=fn.ntmps) (c:=c) (rs:=fn.results.toList) ⟨⟨fn,g,by simpa using b.1,hc,rfl,rfl⟩,b.2,PO,Mw⟩ d.1 ⟨d.2.1,d.2.2.1⟩ (Nat.le_of_ble_eq_true d.2.2.2) h
 exact h.elim
theorem N2 {f:FuncId} {fn:Func} (g:Tryz.prog.funcs[f]? =some fn) (b:Hr fn=true) {c0:AC} {b0 b1:BA} {args:List AV} {r:AV} (d:(Lz args&&(r.all Cd&&(Nat.ble (args.length+1) fn.ntmps&&(GN c0&&(b0.lone&&b1.lone)))))=true)
  (h:∀E,env Tryz.prog=E->N8 E fn r (some b1) (Eh fn.ntmps (.one c0::args) (some b0))):Jo Tryz.prog f c0 b0 args r b1:=by
 have h:=h _ rfl;unfold N8 at h;unfold Hr at b;simp only[Bool.and_eq_true] at b d
 split at h
 ·rename_i c hc
  rw[hc] at b;exact kC (TI:=TI) (n:=fn.ntmps) (c:=c) (rs:=fn.results.toList) ⟨⟨fn,g,by simpa using b.1,hc,rfl,rfl⟩,b.2,PO,Mw⟩ d.1 d.2.1 d.2.2.2 (Nat.le_of_ble_eq_true d.2.2.1) h
 exact h.elim
def YQ (E:Env) (fn:Func) (r:AV) (b0:BA) (s:St):Prop:=
 match fn.body with
 | some c=>EZ E TI fn.ntmps c (On TI fn.results.toList r b0) s
 | none=>False
theorem J5 {f:FuncId} {fn:Func} (g:Tryz.prog.funcs[f]? =some fn) (d:Hr fn=true) {b0:BA} {args:List AV} {r:AV} (b:(Ku args&&(r.all Bt&&(b0.lone&&(Nat.ble args.length fn.ntmps&&Nat.ble 1 fn.ntmps))))=true)
  (h:∀E,env Tryz.prog=E->YQ E fn r b0 (Eh fn.ntmps args (some b0))):Bk Tryz.prog f args b0 r:=by
 have h:=h _ rfl;unfold YQ at h;unfold Hr at d;simp only[Bool.and_eq_true] at d b
 split at h
 ·rename_i c hc
  rw[hc] at d;exact Yt (TI:=TI) (n:=fn.ntmps) (c:=c) (rs:=fn.results.toList) ⟨⟨fn,g,by simpa using d.1,hc,rfl,rfl⟩,d.2,PO,Mw⟩ b.1 b.2.1 b.2.2.1 (Nat.le_of_ble_eq_true b.2.2.2.1) (Nat.le_of_ble_eq_true b.2.2.2.2) h
 exact h.elim
theorem H8 {E:Env} {f:FuncId} {args:List AV} {b0:BA} {r:AV} (b:env Tryz.prog=E) (h:Bk Tryz.prog f args b0 r):E.D f args b0 r:=b ▸ h
def tR:AV->Nat
 | .one (.sl _ l)=>l.length
 | _=>0
def tO:AV->Int
 | .one (.int _ n)=>n
 | _=>0
theorem IN {E:Env} {fl:Bool} {f:FuncId} {args:List AV} {r:AV} (b:env Tryz.prog=E) (h:Gv Tryz.prog fl f args r):E.C fl f args r:=b ▸ h
theorem Fb {E:Env} {f:FuncId} {c0:AC} {b0 b1:BA} {args:List AV} {r:AV} (b:env Tryz.prog=E) (h:Jo Tryz.prog f c0 b0 args r b1):E.B f c0 b0 args r b1:=b ▸ h
abbrev LR:=List (el AA)
abbrev CF:=Gv Tryz.prog false
theorem cL {E:Env} {fl:Bool} {g:FuncId} {args:List AV} {r:AV} {L:List AV->Prop} {K:AV->Prop} {X:Prop} (b:env Tryz.prog=E) (h:Gv Tryz.prog fl g args r) (d:L args) (c:K r):
 (∃(a:List AV) (r:AV),(Unit->L a)/\(Unit->E.C fl g a r)/\K r)\/X:= .inl ⟨args,r,fun _=>d,fun _=>IN b h,c⟩
theorem fA {A B C:Prop} (h:A) (hb:B) (hc:C):(Unit->A/\B/\C)/\True:=⟨fun _=>⟨h,hb,hc⟩,trivial⟩
theorem i64 {c:Int} (h: -9223372036854775808<=c/\c<9223372036854775808):Gp c:=h
theorem g2 {P:Sort _} {A C:Prop} (a:A) (h:C):(P->A)/\C:=⟨fun _=>a,h⟩
theorem g1 {P:Sort _} {C:Prop} {x:Int} (a: -9223372036854775808<=x/\x<9223372036854775808) (h:C):(P->Gp x)/\C:=⟨fun _=>i64 a,h⟩
theorem t1 {α:Sort _} {a:α}:a=a/\True:=⟨rfl,trivial⟩
theorem t2 {α β:Sort _} {a:α} {b:β}:a=a/\b=b/\True:=⟨rfl,t1⟩
theorem t3 {α β γ:Sort _} {a:α} {b:β} {c:γ}:a=a/\b=b/\c=c/\True:=⟨rfl,t2⟩
theorem t4 {α β γ δ:Sort _} {a:α} {b:β} {c:γ} {d:δ}:a=a/\b=b/\c=c/\d=d/\True:=⟨rfl,t3⟩
theorem xR (a:LR):∃z:LR,z=a:=⟨_,rfl⟩
theorem xV (a:List LR):∃z:List LR,z=a:=⟨_,rfl⟩
theorem xN (a:Nat):∃z:Nat,z=a:=⟨_,rfl⟩
theorem xI (a:Int):∃z:Int,z=a:=⟨_,rfl⟩
theorem xB (a:Bool):∃z:Bool,z=a:=⟨_,rfl⟩
theorem xU (a:List UInt32):∃z:List UInt32,z=a:=⟨_,rfl⟩
theorem xJ (a:List AV->List BA->Nat->Prop):∃J:List AV->List BA->Nat->Prop,J=a:=⟨_,rfl⟩
theorem xK (a:List AV->List BA->Prop):∃J:List AV->List BA->Prop,J=a:=⟨_,rfl⟩
end Go.Abs
