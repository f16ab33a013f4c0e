/- Part 7 of a proof. Conditions: each theorem's own. -/
import Derived.Laws.Sem
import Derived.Test.YtmhbikooakmagaaGreatProg
import Derived.Test.YtmhbikooakmagaaGreatPk05
set_option linter.all false
set_option maxHeartbeats 8000000
set_option maxRecDepth 20000
open Go.Proofs
namespace Go.Abs
open Go.RowKit
section
variable {P:Program} {TI:TypeId->Info}
def NF (tmps:Array Value):ResultVar->Sem Value
 | .tmp t=>pure (tmps.getD t undef)
 | .cell a t=>do loadVar t (<-asAddr (tmps.getD a undef))
theorem X2 {w:World} {f:ResultVar->Sem Value}:∀{l:List ResultVar} {vs:List Value},Ai (fun r v=>(f r).run P w= .ok v w) l vs->(l.mapM f).run P w= .ok vs w
 | [],[],_=>by simp
 | r::l,v::vs,h=>by
  rw[List.mapM_cons];simp[Sem.run_bind,h.1,X2 h.2]
 |[],_::_,h|_::_,[],h=>h.elim
def Iv:List Value->Value
 | [v]=>v
 | vs=> .tuple vs.toArray
theorem Sh {fn:Func} {tmps:Array Value} {w:World} {vs:List Value} (h:Ai (fun r v=>(NF tmps r).run P w= .ok v w) fn.results.toList vs):(results fn tmps).run P w= .ok (Iv vs) w:=by
 have e:results fn tmps=(do let vs <-fn.results.mapM (NF tmps);pure (if h:vs.size=1 then vs[0] else .tuple vs)):=by
  unfold results
  congr 1
 rw[e,Array.mapM_eq_mapM_toList];simp only[Sem.run_bind,map_eq_pure_bind,X2 h,Result.andThen_ok,Sem.run_pure]
 congr 1
 match vs with
 |[]|[v]|_::_::_=>rfl
section
variable {w0:World} {X:WX} {β:Nat->Option Nat} {s:St} {a:Act} {w:World}
theorem mV (z:∀t,D1 P t (TI t)) (S:Bo w0 X β s a w) {r:ResultVar} {b b':Bool×List AC} (h:PJ TI s r=some b) (hc:BV (EP (AH s.bk)) b.2 b'.2):
  ∃v us,(NF a.tmps r).run P w= .ok v w/\Ai (BR (cx X w β (AH s.bk))) b.2 us/\(b.1=true->v= .agg us.toArray)/\(b.1=false->us=[]\/us=[v]):=by
 cases r with
 | tmp t=>
  simp only[PJ,Option.some.injEq] at h;subst h;have f:=S.CW t
  generalize K:nth s.sl t=g at hc f
  cases g with
  | one c=>
   have m:c≠ .Bz:=by
    rintro rfl;cases b' with
    | mk x y=>cases y with
     | nil=>exact hc.elim
     | cons _ _=>exact hc.1.elim
   exact⟨_,[a.tmps.getD t undef],rfl,⟨By f m,trivial⟩,fun e=>by simp[AV.comp] at e,fun _=> .inr rfl⟩
  | agg cs=>
   obtain⟨arr,e,f⟩:=f;exact⟨_,arr.toList,rfl,f,fun _=>by rw[e],fun e=>by simp[AV.comp] at e⟩
  | AF _=>exact⟨_,[],rfl,trivial,fun e=>by simp[AV.comp] at e,fun _=> .inl rfl⟩
 | cell q t=>
  simp only[PJ] at h;have f:=S.CW q
  split at h
  ·rename_i id v off he
   rw[he] at f;have f:=By f (by simp)
   split at h
   ·rename_i L cs hb
    split at h
    ·rename_i d
     simp only[Bool.and_eq_true,beq_iff_eq] at d;obtain⟨⟨A,p⟩,hlen⟩:=d;obtain⟨C,arr,e,D,F,h3⟩:=S.blocks id _ hb;have J:v=AR (AH s.bk) id:=by unfold AR;rw[hb];exact p.symm
     obtain⟨b1,l,I⟩:=f.2 J;obtain rfl:C=b1:=Option.some.inj (D.symm.trans l)
     have i:Ai (BR (cx X w β (AH s.bk))) (GV cs off (TI t).size) ((arr.toList.drop off).take (TI t).size):=by
      rw[Lg];exact (h3.drop off).take _
     have B:=i.length;have k:=run_load (z t) A (Y7 F (off:=off) (n:=(TI t).size)) (by rw[<-B];exact hlen);obtain rfl:=Option.some.inj h;have o:(TI t).agg=false->(TI t).size=1:=by obtain⟨_,_,_,_,_,_,_,_,_,G⟩:=(z t).info A;exact G
     refine⟨valOf (TI t).agg ((arr.toList.drop off).take (TI t).size),_,?_,i,fun e=>?_,fun e=>?_⟩
     ·refine Eq.trans ?_ k;simp only[NF,I,asAddr,Instr.loadAt,Instr.sureAddr]
      rfl
     ·rw[show (TI t).agg=true from e];rfl
     right
     have H:=o e;rw[show (TI t).agg=false from e];have j:((arr.toList.drop off).take (TI t).size).length=1:=by rw[<-B,hlen];exact H
     generalize (arr.toList.drop off).take (TI t).size=us at j
     match us,j with
     | [u],_=>rfl
    cases h
   cases h
  cases h
end
section
variable {w0:World} {X:WX} {β:Nat->Option Nat} {s:St} {a:Act} {w:World}
def Yb (I:Nat->Prop) (lo:Nat) (w:World) (bo:Option Nat):Cx:=Dm w fun b=>((false=false/\I b)\/lo<=b)/\b<w.heap.size/\bo≠some b
theorem ZI {I:Nat->Prop} (S:Bo w0 X β s a w) (R:∀b,¬X.X b) (Q:∀b,X.A b->I b\/w0.heap.size<=b) {bo:Option Nat} (z:bo=none\/∃id,live (AH s.bk) id/\β id=bo) {c d:AC} {v:Value} (L:Gc d=false) (U:JQ c=true->bo=none) (h:EP (AH s.bk) c d) (O:∀t o l,d≠ .AS t 0 0 o l)
  (r:BR (cx X w β (AH s.bk)) c v):DO (Yb I w0.heap.size w bo) w0.heap.size bo d v:=by
 have K:∀b,(cx X w β (AH s.bk)).I b->(Yb I w0.heap.size w bo).I b/\w.heap[b]? =w.heap[b]? :=fun b hb=>
  ⟨⟨(Q b hb.2).imp (fun q=>⟨rfl,q⟩) id,hb.1.1,fun e=>by
   rcases z with h' |⟨id,g,J⟩
   ·rw[h'] at e;cases e
   exact hb.1.2 id g (J.trans e)⟩,rfl⟩
 cases c with
 | AS t id j off len=>
  rcases h with⟨l,g,J,rfl⟩ |⟨l,n,_,_,_,_,_,rfl⟩ |⟨_,_,rfl⟩
  ·have x:=U rfl;subst x;have V:j=AR (AH s.bk) id:=by rw[GB g];rfl
   obtain⟨base,cap,e,g1,g2,_,H⟩:=r.2 V;have hlen:((l.drop off).take len).length=len:=by simp;omega
   have m:l.length<=140737488355328:=S.lens id _ g;refine⟨base,cap,by rw[hlen,e],by rw[hlen];exact g1,by rw[hlen];omega,?_⟩;rcases H with H |⟨b,arr,e',k1,k2,k3,k4⟩
   ·left;exact List.eq_nil_of_length_eq_zero (by rw[hlen];omega)
   have D:=S.blocks id _ g;rcases D with⟨u,M⟩ |⟨b',G,N,u,M,Z⟩
   ·exact absurd (u.symm.trans k1) (by simp)
   obtain rfl:b'=b:=Option.some.inj (u.symm.trans k1);have C:live (AH s.bk) id:=⟨_,g,rfl⟩
   have B:b'<w.heap.size:=by
    rcases Nat.lt_or_ge b' w.heap.size with h' | h'
    ·exact h'
    have F:w.heap[b']? =_:=M;simp[Array.getElem?_eq_none h'] at F
   refine .inr ⟨b',_,k2,⟨.inr ((S.own id b' C u).resolve_right (fun q=>R b' q.1)),B,by simp⟩,fun i y p=>?_⟩
   have T:l[off+i]? =some y:=by
    rw[List.getElem?_take] at p
    split at p
    ·simpa using p
    cases p
   obtain⟨us,W,Y⟩:=Z (off+i) y T;exact⟨us,C0 (w':=w) K _ _ _ W,by rw[show off*t.size+i*t.size=(off+i)*t.size by rw[Nat.add_mul]];exact Y⟩
  ·cases L
  exact absurd rfl (O t off len)
 | nil=>
  rcases h with rfl |⟨t,rfl⟩ |⟨t,rfl⟩
  ·exact r
  ·exact⟨none,0,by rw[show v=_ from r];rfl,Nat.le_refl _,by simp,.inl rfl⟩
  cases L
 |int k n|bool b|fn f=>rw[show d=_ from h];exact r
 | sl t l=>rw[show d=_ from h];exact C0 (w':=w) K _ _ _ r
 | _=>exact h.elim
theorem mT {I:Nat->Prop} (S:Bo w0 X β s a w) (G:∀b,¬X.X b) (D:∀b,X.A b->I b\/w0.heap.size<=b) {c d:AC} {v:Value} (m:Gc d=true) (h:EP (AH s.bk) c d)
  (r:BR (cx X w β (AH s.bk)) c v):∃bo,DO (Yb I w0.heap.size w bo) w0.heap.size bo d v/\(bo=none\/((∃id,live (AH s.bk) id/\β id=bo)/\JQ c=true)):=by
 cases c with
 | AS t id u off len=>
  rcases h with⟨l,p,R,rfl⟩ |⟨l,n,_,p,rfl,rfl,rfl,rfl⟩ |⟨_,_,rfl⟩
  ·cases m
  ·have H:u=AR (AH s.bk) id:=by rw[GB p];rfl
   obtain⟨base,cap,e,g1,g2,_,C⟩:=r.2 H;have g:l.length<=140737488355328:=S.lens id _ p;have j:live (AH s.bk) id:=⟨_,p,rfl⟩;rcases C with rfl |⟨b,arr,e',k1,k2,K,L⟩
   ·exact⟨none,⟨rfl,base,0,e,g1,g2,g,.inl ⟨rfl,List.eq_nil_of_length_eq_zero (by omega),rfl⟩⟩,.inl rfl⟩
   have x:=S.blocks id _ p;rcases x with⟨o,O⟩ |⟨b',z,B,o,O,Q⟩
   ·exact absurd (o.symm.trans k1) (by simp)
   obtain rfl:b'=b:=Option.some.inj (o.symm.trans k1)
   have F:∀b,(cx X w β (AH s.bk)).I b->(Yb I w0.heap.size w (some b')).I b/\w.heap[b]? =w.heap[b]? :=fun b hb=>
    ⟨⟨(D b hb.2).imp (fun q=>⟨rfl,q⟩) (fun q=>q),hb.1.1,fun e=>hb.1.2 id j (o.trans e)⟩,rfl⟩
   refine⟨some b',⟨rfl,base,cap,e,g1,g2,g,.inr ⟨b',arr,e',rfl,(S.own id b' j o).resolve_right (fun q=>G b' q.1),by rw[k2];simp,K,by simpa using L,fun i y J=>?_⟩⟩,.inr ⟨⟨id,j,o⟩,rfl⟩⟩;obtain⟨us,M,N⟩:=Q i y J;exact⟨us,C0 (w':=w) F _ _ _ M,N⟩
  cases m
 | nil=>
  rcases h with rfl |⟨t,rfl⟩ |⟨t,rfl⟩
  ·cases m
  ·cases m
  exact⟨none,⟨rfl,none,0,by rw[show v=_ from r];rfl,Nat.le_refl _,Nat.zero_le _,by simp,.inl ⟨rfl,rfl,rfl⟩⟩,.inl rfl⟩
 |int k n|bool b|fn f|sl t l=>rw[show d=_ from h] at m;cases m
 | _=>exact h.elim
theorem Sg {I:Nat->Prop} (S:Bo w0 X β s a w) (p:∀b,¬X.X b) (n:∀b,X.A b->I b\/w0.heap.size<=b) {bo:Option Nat} (g:bo=none\/∃id,live (AH s.bk) id/\β id=bo):∀{cs f:List AC} {vs:List Value},f.filter Gc=[]->(cs.filter JQ≠[]->bo=none)->BV (EP (AH s.bk)) cs f->f.all CR=true->
  Ai (BR (cx X w β (AH s.bk))) cs vs->Ai (DO (Yb I w0.heap.size w bo) w0.heap.size bo) f vs
 | [],[],[],_,_,_,_,_=>trivial
 | c::cs,d::f,v::vs,i,k,h3,j,m=>by
  simp only[List.all_cons,Bool.and_eq_true] at j
  have q:Gc d=false:=by
   cases h:Gc d with
   | false=>rfl
   | true=>rw[List.filter_cons,h] at i;simp at i
  refine⟨ZI S p n g q (fun hc=>k (by rw[List.filter_cons,hc];simp)) h3.1 (fun t o l e=>by subst e;simp[CR,BZ] at j) m.1,Sg S p n g (by rw[List.filter_cons,q] at i;simpa using i) (fun hc=>k (fun e=>hc ?_)) h3.2 j.2 m.2⟩;rw[List.filter_cons] at e
  split at e
  ·cases e
  exact e
 |[],[],_::_,_,_,_,_,h|_::_,_::_,[],_,_,_,_,h|[],_::_,_,_,_,h,_,_|_::_,[],_,_,_,h,_,_=>h.elim
theorem ZL {I:Nat->Prop} (S:Bo w0 X β s a w) (u:∀b,¬X.X b) (r:∀b,X.A b->I b\/w0.heap.size<=b):∀{cs g:List AC} {vs:List Value},(g.filter Gc).length<=1->((g.filter Gc).length=1->(cs.filter JQ).length<=1)->BV (EP (AH s.bk)) cs g->g.all CR=true->
  Ai (BR (cx X w β (AH s.bk))) cs vs->∃bo,Ai (DO (Yb I w0.heap.size w bo) w0.heap.size bo) g vs/\(bo=none\/((∃id,live (AH s.bk) id/\β id=bo)/\cs.filter JQ≠[]))
 | [],[],[],_,_,_,_,_=>⟨none,trivial,.inl rfl⟩
 | c::cs,d::g,v::vs,k,j,h3,n,p=>by
  have z:=n;simp only[List.all_cons,Bool.and_eq_true] at n;cases x:Gc d with
  | true=>
   rw[List.filter_cons,x] at k j;simp only[if_true,List.length_cons] at k j;have i:g.filter Gc=[]:=List.eq_nil_of_length_eq_zero (by omega);obtain⟨bo,g1,g2⟩:=mT S u r x h3.1 p.1;refine⟨bo,⟨g1,Sg S u r (g2.imp id fun q=>q.1) i (fun B=>?_) h3.2 n.2 p.2⟩,g2.imp id fun q=>⟨q.1,by rw[List.filter_cons,q.2];simp⟩⟩;rcases g2 with g2 |⟨_,g2⟩
   ·exact g2
   exfalso
   have:=j (by rw[i];rfl);rw[List.filter_cons,g2] at this;simp only[if_true,List.length_cons] at this;exact B (List.eq_nil_of_length_eq_zero (by omega))
  | false=>
   rw[List.filter_cons,x] at k j;simp only[Bool.false_eq_true,if_false] at k j;have C:∀t o l,d≠ .AS t 0 0 o l:=fun t o l e=>by subst e;simp[CR,BZ] at n
   by_cases y:(g.filter Gc).length=1
   ·have f:=j y
    have m:(cs.filter JQ).length<=1:=by
     rw[List.filter_cons] at f
     split at f
     ·simp only[List.length_cons] at f;omega
     exact f
    obtain⟨bo,g1,g2⟩:=ZL S u r k (fun _=>m) h3.2 n.2 p.2;refine⟨bo,⟨ZI S u r (g2.imp id fun q=>q.1) x (fun hc=>?_) h3.1 C p.1,g1⟩,g2.imp id fun q=>⟨q.1,fun e=>q.2 ?_⟩⟩
    ·rcases g2 with g2 |⟨_,g2⟩
     ·exact g2
     rw[List.filter_cons,hc] at f;simp only[if_true,List.length_cons] at f;exact absurd (List.eq_nil_of_length_eq_zero (by omega)) g2
    rw[List.filter_cons] at e
    split at e
    ·cases e
    exact e
   have i:g.filter Gc=[]:=List.eq_nil_of_length_eq_zero (by omega);exact⟨none,Sg S u r (.inl rfl) (by rw[List.filter_cons,x];simpa using i) (fun _=>rfl) h3 z p,.inl rfl⟩
 |[],[],_::_,_,_,_,_,h|_::_,_::_,[],_,_,_,_,h|[],_::_,_,_,_,h,_,_|_::_,[],_,_,_,h,_,_=>h.elim
end
end
section
variable {P:Program} {TI:TypeId->Info}
section
variable {w0:World} {X:WX} {β:Nat->Option Nat} {s:St} {a:Act} {w:World}
theorem PK (j:∀t,D1 P t (TI t)) (S:Bo w0 X β s a w):∀{rs:List ResultVar} {xs ys:List (Bool×List AC)},I1 TI s rs=some xs->I0 (AH s.bk) xs ys->
  ∃vs us,Ai (fun r v=>(NF a.tmps r).run P w= .ok v w) rs vs/\Ai (BR (cx X w β (AH s.bk))) (xs.flatMap (·.2)) us/\
   ∀(y:Cx) (lo:Nat) (bo:Option Nat),Ai (DO y lo bo) (ys.flatMap (·.2)) us->Ai (fun z q=>Gp y lo bo (Dh z) q) ys vs
 | [],xs,ys,h,f=>by
  simp only[I1,Option.some.injEq] at h;subst h;cases ys with
  | nil=>exact⟨[],[],trivial,trivial,fun _ _ _ _=>trivial⟩
  | cons _ _=>exact f.elim
 | r::rs,xs,ys,h,f=>by
  simp only[I1] at h
  split at h
  ·rename_i b C o p
   obtain rfl:=Option.some.inj h;cases ys with
   | nil=>exact f.elim
   | cons b' ys=>
    obtain⟨⟨e,hc⟩,f⟩:=f;obtain⟨v,us,g1,g2,k,n⟩:=mV j S o hc;obtain⟨vs,i,k1,k2,A⟩:=PK j S p f;refine⟨v::vs,us++i,⟨g1,k1⟩,by rw[List.flatMap_cons];exact g2.append k2,fun y lo bo d=>?_⟩;rw[List.flatMap_cons] at d;obtain⟨m1,m2,e',g,B⟩:=d.R8
    have hlen:us.length=m1.length:=by
     rw[<-g2.length,<-g.length]
     have:∀{l m:List AC},BV (EP (AH s.bk)) l m->l.length=m.length:=by
      intro l
      induction l with
      | nil=>intro m h;cases m <;> first | rfl | exact h.elim
      | cons x l u=>intro m h;cases m with
       | nil=>exact h.elim
       | cons y m=>simp[u h.2]
     exact this hc
    obtain⟨rfl,rfl⟩:=List.append_inj e' hlen;refine⟨?_,A y lo bo B⟩;obtain⟨t,cs⟩:=b';simp only at e;cases t with
    | true=>exact⟨us.toArray,k e,by simpa using g⟩
    | false=>
     rcases n e with rfl | rfl
     ·cases cs with
      | nil=>exact .inl rfl
      | cons _ _=>exact g.elim
     cases cs with
     | nil=>exact g.elim
     | cons c cs=>exact .inr g.1
  cases h
end
theorem YO:∀(l m:List AV) (i:Nat),nth (l++m) i=if i<l.length then nth l i else nth m (i-l.length)
 | [],m,i=>by simp
 | x::l,m,0=>by simp[nth]
 | x::l,m,i+1=>by simp[nth,YO l m i]
theorem Ai.nth {x:Cx}:∀{l:List AV} {vs:List Value} (i:Nat),Ai (Bu x) l vs->i<l.length->Bu x (nth l i) (vs.getD i undef)
 | _::_,_::_,0,h,_=>by simpa [Abs.nth] using h.1
 | _::_,_::_,i+1,h,b=>by simpa [Abs.nth] using Ai.nth i h.2 (by simpa using b)
 | [],[],_,_,b=>by simp at b
 |[],_::_,_,h,_|_::_,[],_,h,_=>h.elim
theorem O8 {x y:Cx} (h:∀b,x.I b->y.I b/\y.w.heap[b]? =x.w.heap[b]?):∀{l:List AV} {vs:List Value},(l.all fun c=>match c with | .AF _=>false | c=>c.all BZ)=true->Ai (Bu x) l vs->Ai (Bu y) l vs
 | [],[],_,_=>trivial
 | .one c::_,_::_,e,r=>by
  simp only[List.all_cons,Bool.and_eq_true] at e;exact⟨r.1.imp (fun q=>q) (Mx h e.1),O8 h e.2 r.2⟩
 | .agg c::_,_::_,e,r=>by
  simp only[List.all_cons,Bool.and_eq_true] at e;obtain⟨arr,e',d⟩:=r.1;exact⟨⟨arr,e',Ai.pure h e.1 d⟩,O8 h e.2 r.2⟩
 | .AF _::_,_::_,e,_=>by simp at e
 |[],_::_,_,r|_::_,[],_,r=>r.elim
theorem Bo.start {w:World} {X:WX} {args:List AV} {vs:List Value} {n:Nat} {f:Option AM} (r:args.length<=n) (o:∀b,X.ob=some b->X.X b) (m:∀b,w.heap.size<=b->X.A b) (p:∀b,f=some b->b.AR=0/\b.short/\0<n)
  (c:Ai (Bu (cx X w (β0 X.ob) (AH (DL n args f).bk))) args vs) (hb:∀b,f=some b->DJ (cx X w (β0 X.ob) (AH (DL n args f).bk)) 0 b):
  Bo w X (β0 X.ob) (DL n args f) {tmps:=vs.toArray++Array.replicate (n-vs.toArray.size) undef,defers:=[]} w:=by
 have hlen:=c.length
 have d:∀id b,AH (DL n args f).bk id=some b->id=0/\f=some b:=by
  intro id b h;cases n with
  | zero=>simp[DL,AH] at h
  | succ n=>
   cases id with
   | zero=>exact⟨rfl,h⟩
   | succ id=>
    have:AH (Hs n none) id=some b:=h;rw[Ry] at this;cases this
 refine⟨rfl,?_,?_,fun i=>?_,fun id b h=>?_,fun id q b ⟨_,g,_⟩ ⟨_,l,_⟩ _ _=>?_,fun id b ⟨_,g,_⟩ j=> .inr ?_,rfl,rfl,rfl,Nat.le_refl _,fun _ _ _=>rfl,fun id b h=>?_,m,fun _ _=>⟨rfl,fun b arr e _ he=>⟨arr,he,rfl⟩⟩⟩
 ·simp[DL,Hl];omega
 ·simp[DL];cases n with
  | zero=>simp;omega
  | succ n=>simp[Hl];omega
 ·show Bu _ (nth (args++_) i) _
  rw[YO]
  split
  ·rename_i k
   have:=c.nth i k
   have e:(vs.toArray++Array.replicate (n-vs.toArray.size) undef).getD i undef=vs.getD i undef:=by
    rw[Array.getD_eq_getD_getElem?,Array.getElem?_append_left (by simpa [<-hlen] using k)];simp[List.getD_eq_getElem?_getD]
   rw[e];exact this
  rw[Rw];exact Jh _ _
 ·obtain⟨rfl,h'⟩:=d id b h;exact hb b h'
 ·rw[(d _ _ g).1,(d _ _ l).1]
 ·obtain⟨rfl,_⟩:=d _ _ g;exact⟨o b j,rfl⟩
 exact (p b (d id b h).2).2.1
def KK (args:List AV):Bool:=args.all fun c=>match c with | .AF _=>false | c=>c.all BZ
structure Fn (P:Program) (TI:TypeId->Info) (f:FuncId) (n:Nat) (c:Code) (rs:List ResultVar):Prop where
 get : ∃ fn, P.funcs[f]? = some fn /\ (fn.name == "runtime.NumGoroutine") = false /\ fn.body = some c /\ fn.ntmps = n /\ fn.results.toList = rs
 dst:Hg c=true
 ty:∀t,D1 P t (TI t)
 mixed:P.follows .mixedOrders=true
theorem Qp {r:AV} {y:Cx} {lo:Nat} {bo:Option Nat} {vs:List Value} (b:vs.length=1↔∀ys,r≠ .AF ys) (h:Ai (fun z q=>Gp y lo bo (Dh z) q) r.Et vs):HY y lo bo r (Iv vs):=by
 cases r with
 | AF xs=>
  have:vs.length≠1:=fun e=>b.1 e xs rfl
  have e:Iv vs= .tuple vs.toArray:=by
   match vs,this with
   | [],_=>rfl
   | [_],h=>exact absurd rfl h
   | _::_::_,_=>rfl
  exact⟨vs.toArray,e,h⟩
 | one c=>
  match vs,h with
  | [v],h=>exact h.1
 | agg cs=>
  match vs,h with
  | [v],h=>exact h.1
theorem VB {f:FuncId} {n:Nat} {c:Code} {rs:List ResultVar} (F:Fn P TI f n c rs) {args:List AV} {r:AV} (R:KK args=true) (A:r.all CR=true/\r.wf=true) (O:args.length<=n)
  (h:DD (env P) TI n c (post TI rs r none) (DL n args none)):GF P false f args r:=by
 obtain⟨fn,J,p,hb,t,B⟩:=F.get;refine⟨⟨fn,c,J,p,hb⟩,A,fun w I vs N j=>?_⟩;refine calls_of_wp J hb ?_
 have K:Bo w ⟨fun _=>False,fun b=>I b\/w.heap.size<=b,none⟩ (β0 none) (DL n args none) {tmps:=vs.toArray++Array.replicate (n-vs.toArray.size) undef,defers:=[]} w:=
  Bo.start (X:=⟨fun _=>False,fun b=>I b\/w.heap.size<=b,none⟩) O (fun _ e=>by cases e) (fun b hb=> .inr hb) (fun b e=>by cases e)
   (O8 (x:=Dm w I) (y:=cx ⟨fun _=>False,fun b=>I b\/w.heap.size<=b,none⟩ w (β0 none) (AH (DL n args none).bk)) (fun b hb=>⟨⟨⟨N b hb,fun id _ e=>by simp[β0] at e⟩,.inl hb⟩,rfl⟩) R j) (fun b e=>by cases e)
 rw[t];refine wp_mono (F3 F.mixed (fun o Q=>S8 F.ty o Q) F.dst (by simp[DL,Hl];omega) K h) fun e G w' he=>?_
 obtain⟨x,s',β',rfl,g,_,S⟩:=he
 have fin:post TI rs r none x s'->x≠ .exit 0/\(∀i,x≠ .exit i)->G.defers=[]/\∃v,(results fn G.tmps).run P w'= .ok v w'/\∃u bo,Ending.returned v= .returned u/\Below w.heap.size w w'/\
   HY (Dm w' fun b=>((false=false/\I b)\/w.heap.size<=b)/\b<w'.heap.size/\bo≠some b) w.heap.size bo r u:=by
  intro g T;refine⟨S.defers,?_⟩
  have z:∃xs,I1 TI s' rs=some xs/\I0 (AH s'.bk) xs r.Et/\O4 xs r.Et=true/\(rs.length=1↔∀ys,r≠ .AF ys):=by
   unfold post at g
   split at g
   ·exact absurd rfl (T.2 _)
   split at g
   ·rename_i xs C
    exact⟨xs,C,g.1 ()⟩
   exact g.elim
  obtain⟨xs,L,H,h3,M⟩:=z;obtain⟨us,ws,k1,k2,U⟩:=PK F.ty S L H
  have k:BV (EP (AH s'.bk)) (xs.flatMap (·.2)) (r.Et.flatMap (·.2)):=by
   have app:∀{l m l' m':List AC},BV (EP (AH s'.bk)) l m->BV (EP (AH s'.bk)) l' m'->BV (EP (AH s'.bk)) (l++l') (m++m'):=by
    intro l
    induction l with
    | nil=>intro m l' m' h h';cases m <;> first | exact h' | exact h.elim
    | cons x l D=>intro m l' m' h h';cases m with
     | nil=>exact h.elim
     | cons y m=>exact⟨h.1,D h.2 h'⟩
   have:∀{l m:List (Bool×List AC)},I0 (AH s'.bk) l m->BV (EP (AH s'.bk)) (l.flatMap (·.2)) (m.flatMap (·.2)):=by
    intro l
    induction l with
    | nil=>intro m h;cases m <;> first | trivial | exact h.elim
    | cons x l D=>intro m h;cases m with
     | nil=>exact h.elim
     | cons y m=>rw[List.flatMap_cons,List.flatMap_cons];exact app h.1.2 (D h.2)
   exact this H
  have q:(r.Et.flatMap (·.2)).all CR=true:=by
   cases r with
   |one c|agg cs=>simpa [AV.Et,AV.comp,AV.all] using A.1
   | AF xs=>simp only[AV.Et,List.all_flatMap];exact A.1
  have d:((r.Et.flatMap (·.2)).filter Gc).length<=1/\(((r.Et.flatMap (·.2)).filter Gc).length=1->((xs.flatMap (·.2)).filter JQ).length<=1):=by
   unfold O4 at h3
   split at h3
   ·rename_i e;rw[e];simp
   ·rename_i e;rw[e];simpa using h3
   cases h3
  obtain⟨bo,g1,_⟩:=ZL (I:=I) S (fun b h=>h) (fun b h=>h) d.1 d.2 k q k2;have hlen:us.length=rs.length:=k1.length.symm;refine⟨Iv us,Sh (by rw[B];exact k1),Iv us,bo,rfl,⟨S.os,S.tape,S.output,S.size,fun b hb=>S.block b hb (fun h=>h)⟩,?_⟩;exact Qp (by rw[hlen];exact M) (U _ _ _ g1)
 cases x with
 |DG|ret=>exact fin g ⟨by simp,by simp⟩
 | exit i=>exact g.elim
end
section
variable {P:Program} {TI:TypeId->Info}
theorem jP:∀{c:AC},CI c=true->E6 c=true
 |.int _ _,_|.bool _,_|.fn _,_|.nil,_|.AS _ 0 0 _ _,_=>rfl
 |.AS _ (_+1) _ _ _,h|.AS _ 0 (_+1) _ _,h|.Bz,h|.sl _ _,h|.Df _ _ _ _ _,h|.Ag _ _ _,h|.DE _ _ _ _ _,h|.Dp _ _ _,h|.ub _,h|.own _ _ _,h=>by simp[CI] at h
theorem NB {y:Cx} {lo:Nat} {bo:Option Nat}:∀{c:AC} {v:Value},CI c=true->DO y lo bo c v->BR y c v
 |.int _ _,_,_,r|.bool _,_,_,r|.fn _,_,_,r|.nil,_,_,r|.AS _ _ _ _ _,_,_,r=>r
 |.Bz,_,h,_|.sl _ _,_,h,_|.Df _ _ _ _ _,_,h,_|.Ag _ _ _,_,h,_|.DE _ _ _ _ _,_,h,_|.Dp _ _ _,_,h,_|.ub _,_,h,_|.own _ _ _,_,h,_=>by simp[CI] at h
theorem Ai.NB {y:Cx} {lo:Nat} {bo:Option Nat}:∀{cs:List AC} {vs:List Value},cs.all CI=true->Ai (DO y lo bo) cs vs->Ai (BR y) cs vs
 | [],[],_,_=>trivial
 | _::_,_::_,e,r=>by simp only[List.all_cons,Bool.and_eq_true] at e;exact⟨Abs.NB e.1 r.1,Ai.NB e.2 r.2⟩
 |[],_::_,_,r|_::_,[],_,r=>r.elim
theorem PF {y:Cx} {lo:Nat} {bo:Option Nat} {r:AV} {v:Value} (h:r.all CI=true) (b:Gp y lo bo r v):Dx y r v:=by
 cases r with
 | one c=>exact b.imp (fun q=>q) (NB h)
 | agg cs=>obtain⟨arr,e,b⟩:=b;exact⟨arr,e,Ai.NB h b⟩
 | AF _=>exact b.elim
theorem mO {y:Cx} {lo:Nat} {bo:Option Nat} {r:AV} {v:Value} (h:r.all CI=true) (f:HY y lo bo r v):Bu y r v:=by
 cases r with
 |one c|agg cs=>exact PF h f
 | AF xs=>
  obtain⟨arr,e,f⟩:=f;refine⟨arr,e,?_⟩
  have key:∀(xs:List (Bool×List AC)) (us:List Value),(xs.all fun x=>x.2.all CI)=true->Ai (fun z q=>Gp y lo bo (Dh z) q) xs us->Ai (fun z q=>Dx y (Dh z) q) xs us:=by
   intro xs
   induction xs with
   | nil=>intro us _ b;cases us <;> first | trivial | exact b.elim
   | cons z xs i=>
    intro us d b;cases us with
    | nil=>exact b.elim
    | cons q us=>
     simp only[List.all_cons,Bool.and_eq_true] at d;refine⟨?_,i us d.2 b.2⟩;obtain⟨g,cs⟩:=z;have h3:=b.1;cases g with
     | true=>exact PF (r:= .agg cs) d.1 h3
     | false=>
      cases cs with
      | nil=>exact Or.inl rfl
      | cons c cs=>
       simp only[List.all_cons,Bool.and_eq_true] at d;exact PF (r:= .one c) d.1.1 h3
  exact key xs arr.toList h f
theorem mS {w0:World} {X:WX} {β:Nat->Option Nat} {s:St} {a:Act} {w:World} {J:Nat->Prop} {lo:Nat} {bo:Option Nat} (S:Bo w0 X β s a w) (m:AR (AH s.bk) 0=0) (i:β 0=X.ob) {c d:AC} {v:Value} (g:CI d=true) (h:EP (AH s.bk) c d)
  (r:BR (cx X w β (AH s.bk)) c v):DO (Cj w X.ob J) lo bo d v:=by
 cases c with
 | AS t id j off len=>
  rcases h with⟨l,o,p,rfl⟩ |⟨l,n,_,_,_,_,_,rfl⟩ |⟨rfl,rfl,rfl⟩
  ·simp[CI] at g
  ·simp[CI] at g
  refine⟨⟨r.1.1,Nat.le_refl _⟩,fun _=>?_⟩;have:=r.2 m.symm
  show H2 w X.ob _ _ _ _ _
  rw[<-i];exact this
 | nil=>
  rcases h with rfl |⟨t,rfl⟩ |⟨t,rfl⟩
  ·exact r
  ·simp[CI] at g
  simp[CI] at g
 |int k n|bool b|fn f=>rw[show d=_ from h];exact r
 | sl t l=>rw[show d=_ from h] at g;simp[CI] at g
 | _=>exact h.elim
theorem ZK {w0:World} {X:WX} {β:Nat->Option Nat} {s:St} {a:Act} {w:World} {J:Nat->Prop} {lo:Nat} {bo:Option Nat} (S:Bo w0 X β s a w) (g:AR (AH s.bk) 0=0) (b:β 0=X.ob):∀{cs c:List AC} {vs:List Value},c.all CI=true->BV (EP (AH s.bk)) cs c->
  Ai (BR (cx X w β (AH s.bk))) cs vs->Ai (DO (Cj w X.ob J) lo bo) c vs
 | [],[],[],_,_,_=>trivial
 | _::_,_::_,_::_,d,h3,f=>by
  simp only[List.all_cons,Bool.and_eq_true] at d;exact⟨mS S g b d.1 h3.1 f.1,ZK S g b d.2 h3.2 f.2⟩
 |[],[],_::_,_,_,h|_::_,_::_,[],_,_,h|[],_::_,_,_,h,_|_::_,[],_,_,h,_=>h.elim
theorem RT {x y:Cx} (h:∀b,x.I b->y.I b/\y.w.heap[b]? =x.w.heap[b]?) (hw:y.w=x.w) (f:x.cv 0=0) (g:y.cv 0=0) (d:y.β 0=x.β 0):∀{c:AC} {v:Value},E6 c=true->BR x c v->BR y c v
 | .AS t i v off len,_,e,r=>by
  match i,v,e,r with
  | 0,0,_,r=>exact⟨⟨r.1.1,Nat.zero_le _⟩,fun _=>by rw[hw,d];exact r.2 f.symm⟩
  |0,_+1,h,_|_+1,_,h,_=>simp[E6,BZ] at h
 | .Ag i v off,_,e,r=>by
  match i,v,e,r with
  | 0,0,_,r=>exact⟨⟨r.1.1,Nat.zero_le _⟩,fun _=>by rw[d];exact r.2 f.symm⟩
  |0,_+1,h,_|_+1,_,h,_=>simp[E6,BZ] at h
 |.Bz,_,_,r|.int _ _,_,_,r|.bool _,_,_,r|.fn _,_,_,r|.nil,_,_,r=>r
 | .sl _ _,_,_,r=>C0 h _ _ _ r
 |.Df _ _ _ _ _,_,e,_|.DE _ _ _ _ _,_,e,_|.Dp _ _ _,_,e,_|.ub _,_,e,_|.own _ _ _,_,e,_=>by simp[E6,BZ] at e
theorem Og {x y:Cx} (h:∀b,x.I b->y.I b/\y.w.heap[b]? =x.w.heap[b]?) (hw:y.w=x.w) (c:y.β 0=x.β 0):∀{b:AM},b.lone=true->DJ x 0 b->DJ y 0 b
 | .dead _,_,_=>trivial
 | .var _ cs,e,⟨b,arr,ty,d,f,h3⟩=>⟨b,arr,ty,c.trans d,by rw[hw];exact f,Ai.pure h (by simp only[AM.lone,Bool.and_eq_true] at e;exact e.2) h3⟩
 | .arr _ t l,_,r=>r.imp (fun q=>⟨c.trans q.1,q.2⟩) fun⟨b,arr,ty,d,f,h3⟩=>⟨b,arr,ty,c.trans d,by rw[hw];exact f,fun i y' g=>by
  obtain⟨us,j,k⟩:=h3 i y' g;exact⟨us,C0 h _ _ _ j,by rw[hw];exact k⟩⟩
theorem ZJ {bk:Nat->Option AM}:∀{l m:List (Bool×List AC)},I0 bk l m->BV (EP bk) (l.flatMap (·.2)) (m.flatMap (·.2)):=by
 have app:∀{l m l' m':List AC},BV (EP bk) l m->BV (EP bk) l' m'->BV (EP bk) (l++l') (m++m'):=by
  intro l
  induction l with
  | nil=>intro m l' m' h h';cases m <;> first | exact h' | exact h.elim
  | cons x l b=>intro m l' m' h h';cases m with
   | nil=>exact h.elim
   | cons y m=>exact⟨h.1,b h.2 h'⟩
 intro l
 induction l with
 | nil=>intro m h;cases m <;> first | trivial | exact h.elim
 | cons x l b=>intro m h;cases m with
  | nil=>exact h.elim
  | cons y m=>rw[List.flatMap_cons,List.flatMap_cons];exact app h.1.2 (b h.2)
theorem WI {r:AV} {p:AC->Bool} (h:r.all p=true):(r.Et.flatMap (·.2)).all p=true:=by
 cases r with
 |one c|agg cs=>simpa [AV.Et,AV.comp,AV.all] using h
 | AF xs=>simp only[AV.Et,List.all_flatMap];exact h
theorem ez {p q:AC->Bool} (h:∀c,p c=true->q c=true) {r:AV} (b:r.all p=true):r.all q=true:=by
 have l:∀{cs:List AC},cs.all p=true->cs.all q=true:=fun {cs} hc=>by rw[List.all_eq_true] at hc ⊢;exact fun x d=>h x (hc x d)
 cases r with
 | one c=>exact h c b
 | agg cs=>exact l b
 | AF xs=>simp only[AV.all] at b ⊢;rw[List.all_eq_true] at b ⊢;exact fun x d=>l (b x d)
theorem fR {f:FuncId} {n:Nat} {c:Code} {rs:List ResultVar} (F:Fn P TI f n c rs) {y:AC} {j b1:AM} {args:List AV} {r:AV} (hp:KK args=true) (Q:r.all CI=true) (p:E6 y=true/\j.lone=true/\b1.lone=true) (hn:args.length<n)
  (h:DD (env P) TI n c (post TI rs r (some b1)) (DL n (.one y::args) (some j))):IV P f y j args r b1:=by
 obtain⟨fn,hf,q,hb,N,R⟩:=F.get;refine⟨⟨fn,c,hf,q,hb⟩,⟨ez (fun _=>jP) Q,p⟩,fun w I ob v0 vs Z L K T m=>?_⟩;refine calls_of_wp hf hb ?_;obtain⟨n',rfl⟩:∃n',n=n'+1:=⟨n-1,by omega⟩
 have z:j.AR=0:=by have:=p.2.1;cases j <;> simp_all [AM.lone,AM.AR]
 have H:b1.AR=0:=by have:=p.2.2;cases b1 <;> simp_all [AM.lone,AM.AR]
 have G:b1.live=true:=by have:=p.2.2;cases b1 <;> simp_all [AM.lone,AM.live]
 have l:∀b,I b->(cx ⟨fun b=>ob=some b,fun b=>I b\/w.heap.size<=b,ob⟩ w (β0 ob) (AH (DL (n'+1) (.one y::args) (some j)).bk)).I b/\w.heap[b]? =w.heap[b]? :=fun b hb=>
  ⟨⟨⟨(Z b hb).1,fun id _ e=>by
   unfold β0 at e
   split at e
   ·exact (Z b hb).2 e
   cases e⟩,.inl hb⟩,rfl⟩
 have C:AR (AH (DL (n'+1) (.one y::args) (some j)).bk) 0=0:=z
 have S0:Bo w ⟨fun b=>ob=some b,fun b=>I b\/w.heap.size<=b,ob⟩ (β0 ob) (DL (n'+1) (.one y::args) (some j)) {tmps:=(v0::vs).toArray++Array.replicate (n'+1-(v0::vs).toArray.size) undef,defers:=[]} w:=
  Bo.start (X:=⟨fun b=>ob=some b,fun b=>I b\/w.heap.size<=b,ob⟩) (by simp;omega) (fun _ e=>e) (fun b hb=> .inr hb) (fun b e=>by cases e;exact⟨z,T,by omega⟩)
   ⟨.inr (RT (x:=Cj w ob I) l rfl rfl C rfl p.1 L),O8 (x:=Dm w I) l hp m⟩
   (fun b e=>by cases e;exact Og (x:=Cj w ob I) l rfl rfl p.2.1 K)
 rw[N];refine wp_mono (F3 F.mixed (fun o ho=>S8 F.ty o ho) F.dst (by simp[DL,Hl];omega) S0 h) fun e W w' he=>?_
 obtain⟨x,s',β',rfl,d,_,S⟩:=he
 have fin:post TI rs r (some b1) x s'->(∀i,x≠ .exit i)->W.defers=[]/\∃v,(results fn W.tmps).run P w'= .ok v w'/\∃u,Ending.returned v= .returned u/\
   (w'.os=w.os/\w'.tape=w.tape/\w'.output=w.output/\w.heap.size<=w'.heap.size/\∀k,k<w.heap.size->ob≠some k->w'.heap[k]? =w.heap[k]?)/\
   (∀(b:Nat) arr e,ob=some b->w.heap[b]? =some (.cells arr e (0,0))->∃g,w'.heap[b]? =some (.cells g e (0,0))/\g.size=arr.size)/\
   Bu (Cj w' ob fun k=>(I k\/w.heap.size<=k)/\k<w'.heap.size/\ob≠some k) r u/\
   DJ (Cj w' ob fun k=>(I k\/w.heap.size<=k)/\k<w'.heap.size/\ob≠some k) 0 b1/\b1.short:=by
  intro d hx;refine⟨S.defers,?_⟩
  have O:∃xs,I1 TI s' rs=some xs/\(I0 (AH s'.bk) xs r.Et/\O4 xs r.Et=true/\(rs.length=1↔∀ys,r≠ .AF ys))/\AH s'.bk 0=some b1:=by
   unfold post at d
   split at d
   ·exact absurd rfl (hx _)
   split at d
   ·rename_i xs V
    exact⟨xs,V,d.1 (),d.2 ()⟩
   exact d.elim
  obtain⟨xs,h1,⟨Y,h3,h4⟩,D⟩:=O;obtain⟨us,ws,k1,k2,k3⟩:=PK F.ty S h1 Y;have B:AR (AH s'.bk) 0=0:=by rw[GB D];exact H
  have A:live (AH s'.bk) 0:=⟨_,D,G⟩;obtain⟨t,U⟩:=S.Kx A B
  have hJ:∀b,(cx ⟨fun b=>ob=some b,fun b=>I b\/w.heap.size<=b,ob⟩ w' β' (AH s'.bk)).I b->(Cj w' ob fun k=>(I k\/w.heap.size<=k)/\k<w'.heap.size/\ob≠some k).I b/\w'.heap[b]? =w'.heap[b]? :=
   fun b hb=>⟨⟨hb.2,hb.1.1,fun e=>hb.1.2 0 A (t.trans e)⟩,rfl⟩
  have g1:=ZK (J:=fun k=>(I k\/w.heap.size<=k)/\k<w'.heap.size/\ob≠some k) (lo:=0) (bo:=none) S B t (WI Q) (ZJ Y) k2;have hlen:us.length=rs.length:=k1.length.symm;refine⟨Iv us,Sh (by rw[R];exact k1),Iv us,rfl,⟨S.os,S.tape,S.output,S.size,fun b hb M=>S.block b hb M⟩,U,mO Q (Qp (by rw[hlen];exact h4) (k3 _ _ _ g1)),?_,S.lens 0 _ D⟩;exact Og hJ rfl t.symm p.2.2 (S.blocks 0 b1 D)
 cases x with
 |DG|ret=>exact fin d (by simp)
 | exit i=>exact d.elim
theorem mU {w0:World} {X:WX} {β:Nat->Option Nat} {s:St} {a:Act} {w:World} {I:Nat->Prop} (S:Bo w0 X β s a w) (M:∀b,X.A b->I b\/w0.heap.size<=b) (j:live (AH s.bk) 0) (o:β 0=X.ob) {c d:AC} {v:Value} (O:KF c=true) (C:BZ d=true)
  (h:EP (AH s.bk) c d) (r:BR (cx X w β (AH s.bk)) c v) {lo:Nat} {bo:Option Nat}:DO (Cj w X.ob fun k=>(I k\/w0.heap.size<=k)/\k<w.heap.size/\X.ob≠some k) lo bo d v:=by
 have J:∀b,(cx X w β (AH s.bk)).I b->((I b\/w0.heap.size<=b)/\b<w.heap.size/\X.ob≠some b)/\w.heap[b]? =w.heap[b]? :=fun b hb=>⟨⟨M b hb.2,hb.1.1,fun e=>hb.1.2 0 j (o.trans e)⟩,rfl⟩
 cases c with
 | AS t id u off len=>
  rcases h with⟨l,x,V,rfl⟩ |⟨l,n,_,_,_,_,_,rfl⟩ |⟨rfl,rfl,rfl⟩
  ·have g:id≠0:=fun e=>by subst e;simp[KF] at O
   have Q:u=AR (AH s.bk) id:=by rw[GB x];rfl
   obtain⟨base,cap,e,g1,g2,_,H⟩:=r.2 Q;have hlen:((l.drop off).take len).length=len:=by simp;omega
   have z:l.length<=140737488355328:=S.lens id _ x;refine⟨base,cap,by rw[hlen,e],by rw[hlen];exact g1,by rw[hlen];omega,?_⟩;rcases H with H |⟨b,arr,e',k1,k2,W,Y⟩
   ·left;exact List.eq_nil_of_length_eq_zero (by rw[hlen];omega)
   rcases S.blocks id _ x with⟨p,K⟩ |⟨b',G,L,p,K,U⟩
   ·exact absurd (p.symm.trans k1) (by simp)
   obtain rfl:b'=b:=Option.some.inj (p.symm.trans k1);have m:live (AH s.bk) id:=⟨_,x,rfl⟩
   have D:b'<w.heap.size:=by
    rcases Nat.lt_or_ge b' w.heap.size with h' | h'
    ·exact h'
    have F:w.heap[b']? =_:=K;simp[Array.getElem?_eq_none h'] at F
   refine .inr ⟨b',_,k2,⟨.inr ((S.own id b' m p).resolve_right (fun q=>g q.2)),D,fun e=>g (S.inj id 0 b' m j p (o.trans e))⟩,fun i y B=>?_⟩
   have N:l[off+i]? =some y:=by
    rw[List.getElem?_take] at B
    split at B
    ·simpa using B
    cases B
   obtain⟨us,R,T⟩:=U (off+i) y N;exact⟨us,C0 (w':=w) J _ _ _ R,by rw[show off*t.size+i*t.size=(off+i)*t.size by rw[Nat.add_mul]];exact T⟩
  ·simp[BZ] at C
  simp[BZ] at C
 | nil=>
  rcases h with rfl |⟨t,rfl⟩ |⟨t,rfl⟩
  ·exact r
  ·exact⟨none,0,by rw[show v=_ from r];rfl,Nat.le_refl _,by simp,.inl rfl⟩
  simp[BZ] at C
 |int k n|bool b|fn f=>rw[show d=_ from h];exact r
 | sl t l=>rw[show d=_ from h];exact C0 (w':=w) J _ _ _ r
 | _=>exact h.elim
theorem ZM {w0:World} {X:WX} {β:Nat->Option Nat} {s:St} {a:Act} {w:World} {I:Nat->Prop} (S:Bo w0 X β s a w) (l:∀b,X.A b->I b\/w0.heap.size<=b) (c:live (AH s.bk) 0) (d:β 0=X.ob) {lo:Nat} {bo:Option Nat}:
  ∀{cs f:List AC} {vs:List Value},cs.all KF=true->f.all BZ=true->BV (EP (AH s.bk)) cs f->Ai (BR (cx X w β (AH s.bk))) cs vs->Ai (DO (Cj w X.ob fun k=>(I k\/w0.heap.size<=k)/\k<w.heap.size/\X.ob≠some k) lo bo) f vs
 | [],[],[],_,_,_,_=>trivial
 | _::_,_::_,_::_,g,i,h3,j=>by
  simp only[List.all_cons,Bool.and_eq_true] at g i;exact⟨mU S l c d g.1 i.1 h3.1 j.1,ZM S l c d g.2 i.2 h3.2 j.2⟩
 |[],[],_::_,_,_,_,h|_::_,_::_,[],_,_,_,h|[],_::_,_,_,_,h,_|_::_,[],_,_,_,h,_=>h.elim
theorem NC {y:Cx} {lo:Nat} {bo:Option Nat}:∀{c:AC} {v:Value},BZ c=true->DO y lo bo c v->BR y c v
 |.int _ _,_,_,r|.bool _,_,_,r|.fn _,_,_,r|.nil,_,_,r|.Bz,_,_,r|.sl _ _,_,_,r=>r
 |.AS _ _ _ _ _,_,h,_|.Df _ _ _ _ _,_,h,_|.Ag _ _ _,_,h,_|.DE _ _ _ _ _,_,h,_|.Dp _ _ _,_,h,_|.ub _,_,h,_|.own _ _ _,_,h,_=>by simp[BZ] at h
theorem Ai.NC {y:Cx} {lo:Nat} {bo:Option Nat}:∀{cs:List AC} {vs:List Value},cs.all BZ=true->Ai (DO y lo bo) cs vs->Ai (BR y) cs vs
 | [],[],_,_=>trivial
 | _::_,_::_,e,r=>by simp only[List.all_cons,Bool.and_eq_true] at e;exact⟨Abs.NC e.1 r.1,Ai.NC e.2 r.2⟩
 |[],_::_,_,r|_::_,[],_,r=>r.elim
theorem PG {y:Cx} {lo:Nat} {bo:Option Nat} {r:AV} {v:Value} (h:r.all BZ=true) (b:Gp y lo bo r v):Dx y r v:=by
 cases r with
 | one c=>exact b.imp (fun q=>q) (NC h)
 | agg cs=>obtain⟨arr,e,b⟩:=b;exact⟨arr,e,Ai.NC h b⟩
 | AF _=>exact b.elim
theorem mP {y:Cx} {lo:Nat} {bo:Option Nat} {r:AV} {v:Value} (h:r.all BZ=true) (f:HY y lo bo r v):Bu y r v:=by
 cases r with
 |one c|agg cs=>exact PG h f
 | AF xs=>
  obtain⟨arr,e,f⟩:=f;refine⟨arr,e,?_⟩
  have key:∀(xs:List (Bool×List AC)) (us:List Value),(xs.all fun x=>x.2.all BZ)=true->Ai (fun z q=>Gp y lo bo (Dh z) q) xs us->Ai (fun z q=>Dx y (Dh z) q) xs us:=by
   intro xs
   induction xs with
   | nil=>intro us _ b;cases us <;> first | trivial | exact b.elim
   | cons z xs i=>
    intro us d b;cases us with
    | nil=>exact b.elim
    | cons q us=>
     simp only[List.all_cons,Bool.and_eq_true] at d;refine⟨?_,i us d.2 b.2⟩;obtain⟨g,cs⟩:=z;have h3:=b.1;cases g with
     | true=>exact PG (r:= .agg cs) d.1 h3
     | false=>
      cases cs with
      | nil=>exact Or.inl rfl
      | cons c cs=>
       simp only[List.all_cons,Bool.and_eq_true] at d;exact PG (r:= .one c) d.1.1 h3
  exact key xs arr.toList h f
def JT (args:List AV):Bool:=args.all fun c=>match c with | .AF _=>false | c=>c.all E6
theorem RP {x y:Cx} (h:∀b,x.I b->y.I b/\y.w.heap[b]? =x.w.heap[b]?) (hw:y.w=x.w) (f:x.cv 0=0) (g:y.cv 0=0) (d:y.β 0=x.β 0):∀{l:List AV} {vs:List Value},JT l=true->Ai (Bu x) l vs->Ai (Bu y) l vs
 | [],[],_,_=>trivial
 | .one c::l,_::_,e,r=>by
  have e':(E6 c&&JT l)=true:=e;simp only[Bool.and_eq_true] at e';exact⟨r.1.imp (fun q=>q) (RT h hw f g d e'.1),RP h hw f g d e'.2 r.2⟩
 | .agg c::l,_::_,e,r=>by
  have e':(c.all E6&&JT l)=true:=e;simp only[Bool.and_eq_true] at e';obtain⟨arr,e2,i⟩:=r.1;refine⟨⟨arr,e2,?_⟩,RP h hw f g d e'.2 r.2⟩;exact all e'.1 i
 | .AF _::_,_::_,e,_=>by simp[JT] at e
 |[],_::_,_,r|_::_,[],_,r=>r.elim
where
 all:∀{cs:List AC} {vs:List Value},cs.all E6=true->Ai (BR x) cs vs->Ai (BR y) cs vs
  | [],[],_,_=>trivial
  | _::_,_::_,e,r=>by simp only[List.all_cons,Bool.and_eq_true] at e;exact⟨RT h hw f g d e.1 r.1,all e.2 r.2⟩
  |[],_::_,_,r|_::_,[],_,r=>r.elim
theorem kV:∀{xs:List (Bool×List AC)},(xs.all fun x=>x.2.all KF)=true->(xs.flatMap (·.2)).all KF=true:=fun {xs} h=>by
 rw[List.all_flatMap];exact h
theorem WL {f:FuncId} {n:Nat} {c:Code} {rs:List ResultVar} (F:Fn P TI f n c rs) {d:AM} {args:List AV} {r:AV} (hp:JT args=true) (K:r.all BZ=true) (D:d.lone=true) (hn:args.length<=n) (a1:0<n)
  (h:DD (env P) TI n c (Mu TI rs r d) (DL n args (some d))):BU P f args d r:=by
 obtain⟨fn,V,q,hb,H,L⟩:=F.get;refine⟨⟨fn,c,V,q,hb⟩,⟨K,D⟩,fun w I ob vs U C M m=>?_⟩;refine calls_of_wp V hb ?_;obtain⟨n',rfl⟩:∃n',n=n'+1:=⟨n-1,by omega⟩
 have l:d.AR=0:=by cases d <;> simp_all [AM.lone,AM.AR]
 have A:d.live=true:=by cases d <;> simp_all [AM.lone,AM.live]
 have y:∀b,I b->(cx ⟨fun b=>ob=some b,fun b=>I b\/w.heap.size<=b,ob⟩ w (β0 ob) (AH (DL (n'+1) args (some d)).bk)).I b/\w.heap[b]? =w.heap[b]? :=fun b hb=>
  ⟨⟨⟨(U b hb).1,fun id _ e=>by
   unfold β0 at e
   split at e
   ·exact (U b hb).2 e
   cases e⟩,.inl hb⟩,rfl⟩
 have z:AR (AH (DL (n'+1) args (some d)).bk) 0=0:=l
 have W:Bo w ⟨fun b=>ob=some b,fun b=>I b\/w.heap.size<=b,ob⟩ (β0 ob) (DL (n'+1) args (some d)) {tmps:=vs.toArray++Array.replicate (n'+1-vs.toArray.size) undef,defers:=[]} w:=
  Bo.start (X:=⟨fun b=>ob=some b,fun b=>I b\/w.heap.size<=b,ob⟩) hn (fun _ e=>e) (fun b hb=> .inr hb) (fun b e=>by cases e;exact⟨l,M,by omega⟩)
   (RP (x:=Cj w ob I) y rfl rfl z rfl hp m)
   (fun b e=>by cases e;exact Og (x:=Cj w ob I) y rfl rfl D C)
 rw[H];refine wp_mono (F3 F.mixed (fun o ho=>S8 F.ty o ho) F.dst (by simp[DL,Hl];omega) W h) fun e R w' he=>?_
 obtain⟨x,s',β',rfl,j,_,S⟩:=he
 have fin:Mu TI rs r d x s'->(∀i,x≠ .exit i)->R.defers=[]/\∃v,(results fn R.tmps).run P w'= .ok v w'/\∃u,Ending.returned v= .returned u/\
   (w'.os=w.os/\w'.tape=w.tape/\w'.output=w.output/\w.heap.size<=w'.heap.size/\∀k,k<w.heap.size->ob≠some k->w'.heap[k]? =w.heap[k]?)/\
   (∀(b:Nat) arr e,ob=some b->w.heap[b]? =some (.cells arr e (0,0))->∃g,w'.heap[b]? =some (.cells g e (0,0))/\g.size=arr.size)/\
   Bu (Cj w' ob fun k=>(I k\/w.heap.size<=k)/\k<w'.heap.size/\ob≠some k) r u/\
   DJ (Cj w' ob fun k=>(I k\/w.heap.size<=k)/\k<w'.heap.size/\ob≠some k) 0 d:=by
  intro j hx;refine⟨S.defers,?_⟩
  have J:∃xs,I1 TI s' rs=some xs/\(I0 (AH s'.bk) xs r.Et/\(xs.all fun x=>x.2.all KF)=true/\(rs.length=1↔∀ys,r≠ .AF ys))/\AH s'.bk 0=some d:=by
   unfold Mu at j
   split at j
   ·exact absurd rfl (hx _)
   split at j
   ·rename_i xs Q
    exact⟨xs,Q,j ()⟩
   exact j.elim
  obtain⟨xs,Y,⟨T,h3,Z⟩,B⟩:=J;obtain⟨us,ws,k1,k2,k3⟩:=PK F.ty S Y T;have O:AR (AH s'.bk) 0=0:=by rw[GB B];exact l
  have p:live (AH s'.bk) 0:=⟨_,B,A⟩;obtain⟨t,N⟩:=S.Kx p O
  have hJ:∀b,(cx ⟨fun b=>ob=some b,fun b=>I b\/w.heap.size<=b,ob⟩ w' β' (AH s'.bk)).I b->(Cj w' ob fun k=>(I k\/w.heap.size<=k)/\k<w'.heap.size/\ob≠some k).I b/\w'.heap[b]? =w'.heap[b]? :=
   fun b hb=>⟨⟨hb.2,hb.1.1,fun e=>hb.1.2 0 p (t.trans e)⟩,rfl⟩
  have g1:=ZM (I:=I) (lo:=0) (bo:=none) S (fun b hb=>hb) p t (kV h3) (WI K) (ZJ T) k2;have hlen:us.length=rs.length:=k1.length.symm;refine⟨Iv us,Sh (by rw[L];exact k1),Iv us,rfl,⟨S.os,S.tape,S.output,S.size,fun b hb G=>S.block b hb G⟩,N,mP K (Qp (by rw[hlen];exact Z) (k3 _ _ _ g1)),?_⟩;exact Og hJ rfl t.symm D (S.blocks 0 d B)
 cases x with
 |DG|ret=>exact fin j (by simp)
 | exit i=>exact j.elim
def IC:AC->Bool
 |.int _ _|.bool _|.fn _|.nil=>true
 | .own t _ _=>t.flat
 | _=>false
theorem gp {w:World} {I d:Nat->Prop} {lo:Nat} {bo:Option Nat}:∀{c:AC} {v:Value},IC c=true->DO (Dm w I) lo bo c v->DO (Dm w d) lo bo c v
 |.int _ _,_,_,r|.bool _,_,_,r|.fn _,_,_,r|.nil,_,_,r=>r
 | .own t l n,_,h,⟨k,base,cap,e,f,g,h3,j⟩=>⟨k,base,cap,e,f,g,h3,j.imp (fun q=>q) fun⟨b,arr,ty,k1,k2,o,p,u,x⟩=>⟨b,arr,ty,k1,k2,o,p,u,fun i y m=>by
  obtain⟨us,z,A⟩:=x i y m;exact⟨us,PH (I:=I) (w:=w) t y us h z,A⟩⟩⟩
 |.Bz,_,h,_|.sl _ _,_,h,_|.AS _ _ _ _ _,_,h,_|.Df _ _ _ _ _,_,h,_|.Ag _ _ _,_,h,_|.DE _ _ _ _ _,_,h,_|.Dp _ _ _,_,h,_|.ub _,_,h,_=>by simp[IC] at h
def Jb:AC->AC
 | .own t l _=> .sl t l
 | c=>c
def SJ:AV->AV
 | .one c=> .one (Jb c)
 | .agg cs=> .agg (cs.map Jb)
 | .AF xs=> .AF (xs.map fun x=>(x.1,x.2.map Jb))
theorem X3 {x y:Cx} {lo Mj:Nat} {bo MG:Option Nat} {p:AC->Bool} {g:AC->AC} (n:g .Bz= .Bz) (h:∀c v,p c=true->DO x lo bo c v->DO y Mj MG (g c) v) {r:AV} {v:Value} (k:r.all p=true) (d:HY x lo bo r v):
  HY y Mj MG (match r with | .one c=> .one (g c) | .agg cs=> .agg (cs.map g) | .AF xs=> .AF (xs.map fun x=>(x.1,x.2.map g))) v:=by
 have l:∀{cs:List AC} {vs:List Value},cs.all p=true->Ai (DO x lo bo) cs vs->Ai (DO y Mj MG) (cs.map g) vs:=by
  intro cs
  induction cs with
  | nil=>intro vs _ h;cases vs <;> first | trivial | exact h.elim
  | cons c cs m=>intro vs hc b;cases vs with
   | nil=>exact b.elim
   | cons u us=>
    simp only[List.all_cons,Bool.and_eq_true] at hc;exact⟨h _ _ hc.1 b.1,m hc.2 b.2⟩
 cases r with
 | one c=>
  rcases d with rfl | d
  ·exact .inl n
  exact .inr (h _ _ k d)
 | agg cs=>obtain⟨arr,e,d⟩:=d;exact⟨arr,e,l k d⟩
 | AF xs=>
  obtain⟨arr,e,d⟩:=d;refine⟨arr,e,?_⟩
  have key:∀(xs:List (Bool×List AC)) (us:List Value),(xs.all fun x=>x.2.all p)=true->Ai (fun z q=>Gp x lo bo (Dh z) q) xs us->Ai (fun z q=>Gp y Mj MG (Dh z) q) (xs.map fun x=>(x.1,x.2.map g)) us:=by
   intro xs
   induction xs with
   | nil=>intro us _ b;cases us <;> first | trivial | exact b.elim
   | cons z xs m=>
    intro us i b;cases us with
    | nil=>exact b.elim
    | cons q us=>
     simp only[List.all_cons,Bool.and_eq_true] at i;refine⟨?_,m us i.2 b.2⟩;obtain⟨t,cs⟩:=z;have h3:=b.1;cases t with
     | true=>obtain⟨f,e',h3⟩:=h3;exact⟨f,e',l i.1 h3⟩
     | false=>
      cases cs with
      | nil=>exact Or.inl rfl
      | cons c cs=>
       simp only[List.all_cons,Bool.and_eq_true] at i;rcases h3 with j | h3
       ·have j:c= .Bz:=j;subst j;exact .inl n
       exact .inr (h _ _ i.1.1 h3)
  exact key xs arr.toList k d
theorem QC {f:FuncId} {args:List AV} {r:AV} (j:r.all IC=true) (h:GF P false f args r):GF P true f args r:=by
 refine⟨h.1,h.2.1,fun w I vs i d=>(h.2.2 w I vs i d).mono fun e w' ⟨u,bo,he,hb,hu⟩=>⟨u,bo,he,hb,?_⟩⟩;have:=X3 (g:=fun c=>c) (y:=Dm w' fun b=>((true=false/\I b)\/w.heap.size<=b)/\b<w'.heap.size/\bo≠some b) rfl (fun c v hc=>gp hc) j hu;cases r <;> simpa using this
theorem lF {w:World} {J:Nat->Prop} {lo:Nat} {bo:Option Nat}:∀{c:AC} {v:Value},CR c=true->DO (Dm w fun b=>(J b\/lo<=b)/\b<w.heap.size/\bo≠some b) lo bo c v->DO (Dm w fun b=>(J b\/lo<=b)/\b<w.heap.size/\(none:Option Nat)≠some b) lo none (Jb c) v
 | .own t l n,v,_,⟨A,base,cap,e,g,z,h3,j⟩=>by
  refine⟨base,cap,by rw[e],g,h3,?_⟩;rcases j with⟨_,q,_⟩ |⟨b,arr,ty,k1,k2,m,o,B,p⟩
  ·exact .inl q
  have d:b<w.heap.size:=by
   rcases Nat.lt_or_ge b w.heap.size with h' | h'
   ·exact h'
   have f:w.heap[b]? =_:=o;simp[Array.getElem?_eq_none h'] at f
  refine .inr ⟨b,0,m,⟨.inr k2,d,by simp⟩,fun i y k=>?_⟩;obtain⟨us,u,x⟩:=p i y k;exact⟨us,C0 (w':=w) (fun b hb=>⟨⟨hb.1,hb.2.1,by simp⟩,rfl⟩) _ _ _ u,by rw[Nat.zero_add];exact x⟩
 |.int _ _,_,_,r|.bool _,_,_,r|.fn _,_,_,r|.nil,_,_,r|.Bz,_,_,r=>r
 | .sl _ _,_,_,r=>C0 (w':=w) (fun b hb=>⟨⟨hb.1,hb.2.1,by simp⟩,rfl⟩) _ _ _ r
 |.AS _ _ _ _ _,_,h,_|.Df _ _ _ _ _,_,h,_|.Ag _ _ _,_,h,_|.DE _ _ _ _ _,_,h,_|.Dp _ _ _,_,h,_|.ub _,_,h,_=>by simp[CR,BZ] at h
theorem DQ {fl:Bool} {f:FuncId} {args:List AV} {r:AV} (h:GF P fl f args r):GF P fl f args (SJ r):=by
 have hc:∀c,CR c=true->CR (Jb c)=true:=fun c hc=>by cases c <;> simp_all [Jb,CR,BZ]
 have i:∀{cs:List AC},cs.all CR=true->(cs.map Jb).all CR=true:=fun {cs} h=>by
  rw[List.all_eq_true] at h ⊢;intro x j;obtain⟨y,l,rfl⟩:=List.mem_map.1 j;exact hc y (h y l)
 refine⟨h.1,⟨?_,?_⟩,fun w I vs k d=>(h.2.2 w I vs k d).mono fun e w' ⟨u,bo,he,hb,hu⟩=>⟨u,none,he,hb,?_⟩⟩
 ·have:=h.2.1.1;cases r with
  | one c=>exact hc c this
  | agg cs=>exact i this
  | AF xs=>
   simp only[SJ,AV.all,List.all_map] at this ⊢;rw[List.all_eq_true] at this ⊢;exact fun x j=>i (this x j)
 ·have:=h.2.1.2;cases r with
  |one c|agg cs=>rfl
  | AF xs=>
   simp only[SJ,AV.wf,List.all_map] at this ⊢;rw[List.all_eq_true] at this ⊢;exact fun x j=>by simpa using this x j
 have:=X3 (g:=Jb) (MG:=none) (Mj:=w.heap.size) (y:=Dm w' fun b=>((fl=false/\I b)\/w.heap.size<=b)/\b<w'.heap.size/\(none:Option Nat)≠some b) rfl (fun c v hc=>lF (J:=fun b=>fl=false/\I b) hc) h.2.1.1 hu;cases r <;> exact this
end
def zC:AC->Value->Bool
 | .int k n,.int k' n'=>k==k'&&n==n'
 | .bool b,.bool b'=>b==b'
 |.nil,.slice none 0 0|.sl _ [],.slice none 0 0=>true
 | _,_=>false
def KT:List AC->List Value->Bool
 | [],[]=>true
 | c::cs,v::vs=>zC c v&&KT cs vs
 | _,_=>false
theorem ox {c:AC} {v:Value} (h:zC c v=true) (x:Cx):BR x c v:=by
 unfold zC at h
 split at h
 ·simp only[Bool.and_eq_true,beq_iff_eq] at h;obtain⟨rfl,rfl⟩:=h
  rfl
 ·simp only[beq_iff_eq] at h;subst h
  rfl
 ·rfl
 ·exact⟨none,0,rfl,Nat.le_refl _,by simp,.inl rfl⟩
 cases h
theorem Tl:∀{cs:List AC} {vs:List Value},KT cs vs=true->∀x,Ai (BR x) cs vs
 | [],[],_,_=>trivial
 | _::_,_::_,h,x=>by simp only[KT,Bool.and_eq_true] at h;exact⟨ox h.1 x,Tl h.2 x⟩
 |[],_::_,h,_|_::_,[],h,_=>by simp[KT] at h
def WA (P:Program) (t:TypeId) (i:Info):Bool:=
 match P.info? t with
 | some ti=>match P.underlying t with
  | some d=>match ti.zero with
   | some z=>ti.size==i.size&&KT i.zero z.cells.toList&&d.isRow==i.agg&&(i.agg||i.size==1)
   | none=>false
  | none=>false
 | none=>false
def V9 (P:Program) (t:TypeId) (k:IntKind):Bool:=
 match P.underlying t with
 | some (.int k')=>k'==k
 | _=>false
def WB (P:Program) (t:TypeId) (i:Info):Bool:=
 match P.underlying t with
 | some (.slice e)=>e==i.DR&&(match P.info? i.DR with
  | some ei=>match ei.zero with
   | some z=>ei.size==i.elem.size&&ei.bytes==i.GO&&decide (0<ei.bytes)&&KT (cells i.elem i.CT) z.cells.toList
   | none=>false
  | none=>false)
 | _=>false
def Qh (P:Program) (p:Nat×Nat×Bool) (fl:Field):Bool:=
 match P.info? fl.type with
 | some ti=>match P.underlying fl.type with
  | some d=>fl.offset==p.1&&ti.size==p.2.1&&decide (0<p.2.1)&&d.isRow==p.2.2&&(p.2.2||p.2.1==1)
  | none=>false
 | none=>false
def Km (P:Program):List (Nat×Nat×Bool)->List Field->Bool
 | [],[]=>true
 | p::ps,f::fs=>Qh P p f&&Km P ps fs
 | _,_=>false
def V7 (P:Program) (t:TypeId) (i:Info):Bool:=
 match P.underlying t with
 | some (.struct fs)=>Km P i.fields fs.toList
 | _=>false
def V6 (P:Program) (t:TypeId):Bool:=
 match P.underlying t with
 | some .bool=>true
 | _=>false
def WC (P:Program) (t:TypeId) (i:Info):Bool:=
 (!i.known||WA P t i)&&(match i.kind with | some k=>V9 P t k | none=>true)&&(!i.sl||WB P t i)&&(!i.Ob||V6 P t)&&(!i.known||i.fields.isEmpty||V7 P t i)
theorem V8 {P:Program}:∀{b:List (Nat×Nat×Bool)} {fs:List Field},Km P b fs=true->b.length=fs.length/\∀(f:Nat) (p:Nat×Nat×Bool),b[f]? =some p->∃fl,fs[f]? =some fl/\Qh P p fl=true
 | [],[],_=>⟨rfl,fun f p h=>by simp at h⟩
 | p::b,f::fs,h=>by
  simp only[Km,Bool.and_eq_true] at h;obtain⟨d,g⟩:=V8 h.2;refine⟨by simp[d],fun i q c=>?_⟩;cases i with
  | zero=>simp at c;subst c;exact⟨f,rfl,h.1⟩
  | succ i=>simpa using g i q (by simpa using c)
 |[],_::_,h|_::_,[],h=>by simp[Km] at h
theorem TN {P:Program} {t:TypeId} {i:Info} (h:WC P t i=true):D1 P t i:=by
 simp only[WC,Bool.and_eq_true] at h;obtain⟨⟨⟨⟨b,c⟩,h3⟩,q⟩,o⟩:=h;refine⟨fun p=>?_,fun k p=>?_,fun hb=>?_,fun H=>?_,fun p C=>?_⟩
 ·simp only[p,Bool.not_true,Bool.false_or] at b;unfold WA at b
  split at b
  ·rename_i x l
   split at b
   ·rename_i d e2
    split at b
    ·rename_i z m
     simp only[Bool.and_eq_true,beq_iff_eq,Bool.or_eq_true] at b;obtain⟨⟨⟨r,u⟩,a3⟩,a4⟩:=b;exact⟨x,z,d,l,r,m,Tl u,e2,a3,fun ha=>a4.resolve_left (by simp[ha])⟩
    cases b
   cases b
  cases b
 ·rw[p] at c;simp only at c;unfold V9 at c
  split at c
  ·rename_i k' e;rw[e];simp only[beq_iff_eq] at c;rw[c]
  cases c
 ·simp only[hb,Bool.not_true,Bool.false_or] at q;unfold V6 at q
  split at q
  ·assumption
  cases q
 ·simp only[H,Bool.not_true,Bool.false_or] at h3;unfold WB at h3
  split at h3
  ·rename_i e l
   simp only[Bool.and_eq_true,beq_iff_eq] at h3;obtain⟨rfl,h3⟩:=h3;refine⟨l,?_⟩
   split at h3
   ·rename_i B e2
    split at h3
    ·rename_i z m
     simp only[Bool.and_eq_true,beq_iff_eq,decide_eq_true_eq] at h3;obtain⟨⟨⟨r,u⟩,a3⟩,a4⟩:=h3;exact⟨B,z,e2,r,u,a3,m,Tl a4⟩
    cases h3
   cases h3
  cases h3
 have v:i.fields.isEmpty=false:=by cases F:i.fields with
  | nil=>exact absurd F C
  | cons _ _=>rfl
 simp only[p,v,Bool.not_true,Bool.false_or] at o;unfold V7 at o
 split at o
 ·rename_i fs l
  obtain⟨g1,g2⟩:=V8 o;refine⟨fs,l,by simpa using g1,fun f J n g G=>?_⟩;obtain⟨fl,I,j⟩:=g2 f _ G;unfold Qh at j
  split at j
  ·rename_i x e2
   split at j
   ·rename_i d m
    simp only[Bool.and_eq_true,beq_iff_eq,decide_eq_true_eq,Bool.or_eq_true] at j;obtain⟨⟨⟨⟨b1,b2⟩,b3⟩,y⟩,A⟩:=j;exact⟨fl,d,by simpa using I,b1,by rw[e2];exact congrArg some b2,b3,m,y,fun D=>A.resolve_left (by simp[D])⟩
   cases j
  cases j
 cases o
def YI:Info:={known:=false,CT:=false}
theorem oM (P:Program) (t:TypeId):D1 P t YI:=TN (by rfl)
abbrev aN:T:= .pr .bool (.sl .u32)
abbrev AA:T:= .pr aN aN
abbrev Bc:T:= .pr (.sl (.sl AA)) (.sl AA)
abbrev Be:T:= .pr Bc Bc
abbrev B9:T:= .pr .u8 (.pr .u8 (.pr .u8 (.pr .i8 .u8)))
def TI:TypeId->Info
 |2|3=>{size:=1,zero:=[.int .i64 0],kind:=some .i64,CT:=false}
 | 4=>{size:=1,zero:=[.bool false],Ob:=true,CT:=false}
 | 5=>{size:=1,zero:=[.int .u8 0],kind:=some .u8,CT:=false}
 |22|23=>{size:=1,zero:=[.nil],sl:=true,DR:=135,elem:=B9,CT:=((0,0,0,0,0):el B9),GO:=5}
 | 33=>{size:=1,zero:=[.nil],sl:=true,DR:=34,elem:=(.sl AA),CT:=([]:el (.sl AA)),GO:=24}
 | 34=>{size:=1,zero:=[.nil],sl:=true,DR:=69,elem:=AA,CT:=(((false,[]),(false,[])):el AA),GO:=64}
 | 36=>{size:=2,zero:=[.nil,.nil],agg:=true,CT:=false,fields:=[(0,1,false),(1,1,false)]}
 | 47=>{size:=1,zero:=[.int .i64 0],kind:=some .i64,CT:=false}
 | 56=>{size:=1,zero:=[.nil],sl:=true,DR:=36,elem:=Bc,CT:=(([],[]):el Bc),GO:=48}
 | 24=>{size:=1,zero:=[.nil],sl:=true,DR:=5,elem:= .u8,CT:=(0:el .u8),GO:=1}
 | 26=>{size:=2,zero:=[.nil,.nil],agg:=true,CT:=false,fields:=[(0,1,false),(1,1,false)]}
 | 32=>{size:=1,zero:=[.nil],sl:=true,DR:=40,elem:=Be,CT:=((([],[]),([],[])):el Be),GO:=96}
 | 40=>{size:=4,zero:=[.nil,.nil,.nil,.nil],agg:=true,CT:=false,fields:=[(0,2,true),(2,2,true)]}
 | 65=>{size:=1,zero:=[.nil],sl:=true,DR:=229,elem:= .u32,CT:=(0:el .u32),GO:=4}
 | 67=>{size:=2,zero:=[.bool false,.nil],agg:=true,CT:=false,fields:=[(0,1,false),(1,1,false)]}
 | 69=>{size:=4,zero:=[.bool false,.nil,.bool false,.nil],agg:=true,CT:=false,fields:=[(0,2,true),(2,2,true)]}
 | 133=>{size:=1,zero:=[.int .i8 0],kind:=some .i8,CT:=false}
 | 135=>{size:=5,zero:=[.int .u8 0,.int .u8 0,.int .u8 0,.int .i8 0,.int .u8 0],agg:=true,CT:=false,fields:=[(0,1,false),(1,1,false),(2,1,false),(3,1,false),(4,1,false)]}
 | 258=>{size:=2,zero:=[.nil,.nil],agg:=true,CT:=false,fields:=[(0,1,false),(1,1,false)]}
 | 229=>{size:=1,zero:=[.int .u32 0],kind:=some .u32,CT:=false}
 |248|263=>{size:=1,zero:=[.int .u64 0],kind:=some .u64,CT:=false}
 | _=>YI
theorem NR (t:TypeId):D1 Tryz.prog t (TI t):=by
 unfold TI
 split <;> first | exact oM _ _ | exact TN (by kernel_rfl)
theorem LJ:Tryz.prog.follows .mixedOrders=true:=by kernel_rfl
def Gs (fn : Func) : Bool := (fn.name == "runtime.NumGoroutine") == false && match fn.body with | some c => Hg c | none => false
def MH (E:Env) (fn:Func) (r:AV) (b1:Option AM) (s:St):Prop:=
 match fn.body with
 | some c=>DD E TI fn.ntmps c (post TI fn.results.toList r b1) s
 | none=>False
theorem eX {f:FuncId} {fn:Func} (g:Tryz.prog.funcs[f]? =some fn) (b:Gs fn=true) {args:List AV} {r:AV} (d:(KK args&&(r.all CR&&(r.wf&&Nat.ble args.length fn.ntmps)))=true)
  (h:∀E,env Tryz.prog=E->MH E fn r none (DL fn.ntmps args none)):GF Tryz.prog false f args r:=by
 have h:=h _ rfl;unfold MH at h;unfold Gs at b;simp only[Bool.and_eq_true] at b d
 split at h
 ·rename_i c hc
  rw[hc] at b;exact VB (TI:=TI) (n:=fn.ntmps) (c:=c) (rs:=fn.results.toList) ⟨⟨fn,g,by simpa using b.1,hc,rfl,rfl⟩,b.2,NR,LJ⟩ d.1 ⟨d.2.1,d.2.2.1⟩ (Nat.le_of_ble_eq_true d.2.2.2) h
 exact h.elim
theorem MB {f:FuncId} {fn:Func} (j:Tryz.prog.funcs[f]? =some fn) (b:Gs fn=true) {i:AC} {g b1:AM} {args:List AV} {r:AV} (d:(KK args&&(r.all CI&&(Nat.ble (args.length+1) fn.ntmps&&(E6 i&&(g.lone&&b1.lone)))))=true)
  (h:∀E,env Tryz.prog=E->MH E fn r (some b1) (DL fn.ntmps (.one i::args) (some g))):IV Tryz.prog f i g args r b1:=by
 have h:=h _ rfl;unfold MH at h;unfold Gs at b;simp only[Bool.and_eq_true] at b d
 split at h
 ·rename_i c hc
  rw[hc] at b;exact fR (TI:=TI) (n:=fn.ntmps) (c:=c) (rs:=fn.results.toList) ⟨⟨fn,j,by simpa using b.1,hc,rfl,rfl⟩,b.2,NR,LJ⟩ d.1 d.2.1 d.2.2.2 (Nat.le_of_ble_eq_true d.2.2.1) h
 exact h.elim
def Vo (E:Env) (fn:Func) (r:AV) (b0:AM) (s:St):Prop:=
 match fn.body with
 | some c=>DD E TI fn.ntmps c (Mu TI fn.results.toList r b0) s
 | none=>False
theorem Ik {f:FuncId} {fn:Func} (i:Tryz.prog.funcs[f]? =some fn) (d:Gs fn=true) {g:AM} {args:List AV} {r:AV} (b:(JT args&&(r.all BZ&&(g.lone&&(Nat.ble args.length fn.ntmps&&Nat.ble 1 fn.ntmps))))=true)
  (h:∀E,env Tryz.prog=E->Vo E fn r g (DL fn.ntmps args (some g))):BU Tryz.prog f args g r:=by
 have h:=h _ rfl;unfold Vo at h;unfold Gs at d;simp only[Bool.and_eq_true] at d b
 split at h
 ·rename_i c hc
  rw[hc] at d;exact WL (TI:=TI) (n:=fn.ntmps) (c:=c) (rs:=fn.results.toList) ⟨⟨fn,i,by simpa using d.1,hc,rfl,rfl⟩,d.2,NR,LJ⟩ b.1 b.2.1 b.2.2.1 (Nat.le_of_ble_eq_true b.2.2.2.1) (Nat.le_of_ble_eq_true b.2.2.2.2) h
 exact h.elim
theorem G8 {E:Env} {f:FuncId} {args:List AV} {b:AM} {r:AV} (c:env Tryz.prog=E) (h:BU Tryz.prog f args b r):E.D f args b r:=c ▸ h
def pC:AV->Nat
 | .one (.sl _ l)=>l.length
 | _=>0
def pA:AV->Int
 | .one (.int _ n)=>n
 | _=>0
theorem HT {E:Env} {fl:Bool} {f:FuncId} {args:List AV} {r:AV} (b:env Tryz.prog=E) (h:GF Tryz.prog fl f args r):E.C fl f args r:=b ▸ h
theorem EG {E:Env} {f:FuncId} {c:AC} {b b1:AM} {args:List AV} {r:AV} (d:env Tryz.prog=E) (h:IV Tryz.prog f c b args r b1):E.B f c b args r b1:=d ▸ h
abbrev LR:=List (el AA)
abbrev CF:=GF Tryz.prog false
theorem cL {E:Env} {fl:Bool} {g:FuncId} {args:List AV} {r:AV} {L:List AV->Prop} {K:AV->Prop} {X:Prop} (b:env Tryz.prog=E) (h:GF Tryz.prog fl g args r) (d:L args) (c:K r):
 (∃(a:List AV) (r:AV),(Unit->L a)/\(Unit->E.C fl g a r)/\K r)\/X:= .inl ⟨args,r,fun _=>d,fun _=>HT b h,c⟩
theorem fA {A B C:Prop} (h:A) (hb:B) (hc:C):(Unit->A/\B/\C)/\True:=⟨fun _=>⟨h,hb,hc⟩,trivial⟩
theorem i64 {c:Int} (h: -9223372036854775808<=c/\c<9223372036854775808):Ip c:=h
theorem g2 {P:Sort _} {A C:Prop} (a:A) (h:C):(P->A)/\C:=⟨fun _=>a,h⟩
theorem g1 {P:Sort _} {C:Prop} {x:Int} (a: -9223372036854775808<=x/\x<9223372036854775808) (h:C):(P->Ip x)/\C:=⟨fun _=>i64 a,h⟩
theorem t1 {α:Sort _} {a:α}:a=a/\True:=⟨rfl,trivial⟩
theorem t2 {α β:Sort _} {a:α} {b:β}:a=a/\b=b/\True:=⟨rfl,t1⟩
theorem t3 {α β γ:Sort _} {a:α} {b:β} {c:γ}:a=a/\b=b/\c=c/\True:=⟨rfl,t2⟩
theorem t4 {α β γ δ:Sort _} {a:α} {b:β} {c:γ} {d:δ}:a=a/\b=b/\c=c/\d=d/\True:=⟨rfl,t3⟩
theorem xR (a:LR):∃z:LR,z=a:=⟨_,rfl⟩
theorem xV (a:List LR):∃z:List LR,z=a:=⟨_,rfl⟩
theorem xN (a:Nat):∃z:Nat,z=a:=⟨_,rfl⟩
theorem xI (a:Int):∃z:Int,z=a:=⟨_,rfl⟩
theorem xB (a:Bool):∃z:Bool,z=a:=⟨_,rfl⟩
theorem xU (a:List UInt32):∃z:List UInt32,z=a:=⟨_,rfl⟩
theorem xJ (a:List AV->List AM->Nat->Prop):∃J:List AV->List AM->Nat->Prop,J=a:=⟨_,rfl⟩
theorem xK (a:List AV->List AM->Prop):∃J:List AV->List AM->Prop,J=a:=⟨_,rfl⟩
end Go.Abs
