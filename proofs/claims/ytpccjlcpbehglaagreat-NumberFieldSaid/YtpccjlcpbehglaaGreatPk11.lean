/- Part 12 of a proof. Conditions: each theorem's own. -/
import Derived.Laws.Sem
import Derived.Test.YtpccjlcpbehglaaGreatPk10
set_option linter.all false
set_option maxHeartbeats 8000000
namespace Go.Abs
open Go.RowKit
section
variable {P:Program} {TI:TypeId→Info}
def resRun (tmps:Array Value):ResultVar→Sem Value
 | .tmp t=>pure (tmps.getD t undef)
 | .cell a t=>do loadVar t (←asAddr (tmps.getD a undef))
theorem mapM_run {w:World} {f:ResultVar→Sem Value}:∀{l:List ResultVar} {vs:List Value},All2 (fun r v=>(f r).run P w= .ok v w) l vs→(l.mapM f).run P w= .ok vs w
 | [],[],_=>by simp
 | r::l,v::vs,h=>by
  rw[List.mapM_cons]
  simp[Sem.run_bind,h.1,mapM_run h.2]
 | [],_::_,h=>h.elim
 | _::_,[],h=>h.elim
def outV:List Value→Value
 | [v]=>v
 | vs=> .tuple vs.toArray
theorem results_run {fn:Func} {tmps:Array Value} {w:World} {vs:List Value} (h:All2 (fun r v=>(resRun tmps r).run P w= .ok v w) fn.results.toList vs):(results fn tmps).run P w= .ok (outV vs) w:=by
 have e:results fn tmps=(do let vs ←fn.results.mapM (resRun tmps);pure (if h:vs.size=1 then vs[0] else .tuple vs)):=by
  unfold results
  congr 1
 rw[e,Array.mapM_eq_mapM_toList]
 simp only[Sem.run_bind,map_eq_pure_bind,mapM_run h,Result.andThen_ok,Sem.run_pure]
 congr 1
 match vs with
 | []=>rfl
 | [v]=>rfl
 | _::_::_=>rfl
section
variable {w0:World} {X:WX} {β:Nat→Option Nat} {s:St} {a:Act} {w:World}
theorem resVar_run (hT:∀t,TyOK P t (TI t)) (S:SimB w0 X β s a w) {r:ResultVar} {b b':Bool×List AC} (h:resVar TI s r=some b) (hc:allC (resC (nthb s.bk)) b.2 b'.2):
  ∃v us,(resRun a.tmps r).run P w= .ok v w∧All2 (RepC (cx X w β (nthb s.bk))) b.2 us∧(b.1=true→v= .agg us.toArray)∧(b.1=false→us=[]∨us=[v]):=by
 cases r with
 | tmp t=>
  simp only[resVar,Option.some.injEq] at h
  subst h
  have hr:=S.slots t
  generalize hg:nth s.sl t=g at hc hr
  cases g with
  | one c=>
   have hne:c≠ .junk:=by
    rintro rfl
    cases b' with
    | mk x y=>cases y with
     | nil=>exact hc.elim
     | cons _ _=>exact hc.1.elim
   exact⟨_,[a.tmps.getD t undef],rfl,⟨repV_one hr hne,trivial⟩,fun e=>by simp[AV.comp] at e,fun _=> .inr rfl⟩
  | agg cs=>
   obtain⟨arr,e,hr⟩:=hr
   exact⟨_,arr.toList,rfl,hr,fun _=>by rw[e],fun e=>by simp[AV.comp] at e⟩
  | tup _=>exact⟨_,[],rfl,trivial,fun e=>by simp[AV.comp] at e,fun _=> .inl rfl⟩
 | cell q t=>
  simp only[resVar] at h
  have hr:=S.slots q
  split at h
  ·rename_i id v off he
   rw[he] at hr
   have hr:=repV_one hr (by simp)
   split at h
   ·rename_i v' cs hb
    split at h
    ·rename_i hcond
     simp only[Bool.and_eq_true,beq_iff_eq] at hcond
     obtain⟨⟨hk,hv'⟩,hlen⟩:=hcond
     obtain⟨b0,arr,e,h1,h2,h3⟩:=S.blocks id _ hb
     have hv:v=ver (nthb s.bk) id:=by unfold ver;rw[hb];exact hv'.symm
     obtain⟨b1,hb1,hp⟩:=hr.2 hv
     obtain rfl:b0=b1:=Option.some.inj (h1.symm.trans hb1)
     have hall:All2 (RepC (cx X w β (nthb s.bk))) (takeC cs off (TI t).size) ((arr.toList.drop off).take (TI t).size):=by
      rw[takeC_eq];exact (h3.drop off).take _
     have hl:=hall.length
     have hrun:=run_load (hT t) hk (rangeAt_of_cells h2 (off:=off) (n:=(TI t).size)) (by rw[←hl];exact hlen)
     obtain rfl:=Option.some.inj h
     have hsz:(TI t).agg=false→(TI t).size=1:=by obtain⟨_,_,_,_,_,_,_,_,_,h7⟩:=(hT t).info hk;exact h7
     refine⟨valOf (TI t).agg ((arr.toList.drop off).take (TI t).size),_,?_,hall,fun e=>?_,fun e=>?_⟩
     ·refine Eq.trans ?_ hrun
      simp only[resRun,hp,asAddr,Instr.loadAt,Instr.sureAddr]
      rfl
     ·rw[show (TI t).agg=true from e];rfl
     ·right
      have h8:=hsz e
      rw[show (TI t).agg=false from e]
      have hl1:((arr.toList.drop off).take (TI t).size).length=1:=by rw[←hl,hlen];exact h8
      generalize (arr.toList.drop off).take (TI t).size=us at hl1
      match us,hl1 with
      | [u],_=>rfl
    ·cases h
   ·cases h
  ·cases h
end
section
variable {w0:World} {X:WX} {β:Nat→Option Nat} {s:St} {a:Act} {w:World}
def Yb (I:Nat→Prop) (lo:Nat) (w:World) (bo:Option Nat):Cx:=nocx w fun b=>((false=false∧I b)∨lo≤b)∧b<w.heap.size∧bo≠some b
theorem resC_rep {I:Nat→Prop} (S:SimB w0 X β s a w) (hX:∀b,¬X.X b) (hA:∀b,X.A b→I b∨w0.heap.size≤b) {bo:Option Nat} (hbo:bo=none∨∃id,live (nthb s.bk) id∧β id=bo) {c d:AC} {v:Value} (hd:isOwn d=false) (hl:isLsl c=true→bo=none) (h:resC (nthb s.bk) c d) (h0:∀t o l,d≠ .lsl t 0 0 o l)
  (r:RepC (cx X w β (nthb s.bk)) c v):RepR (Yb I w0.heap.size w bo) w0.heap.size bo d v:=by
 have hI:∀b,(cx X w β (nthb s.bk)).I b→(Yb I w0.heap.size w bo).I b∧w.heap[b]? =w.heap[b]? :=fun b hb=>
  ⟨⟨(hA b hb.2).imp (fun q=>⟨rfl,q⟩) id,hb.1.1,fun e=>by
   rcases hbo with h' |⟨id,h1,h2⟩
   ·rw[h'] at e;cases e
   ·exact hb.1.2 id h1 (h2.trans e)⟩,rfl⟩
 cases c with
 | lsl t id ver' off len=>
  rcases h with⟨l,h1,h2,rfl⟩ |⟨l,n,_,_,_,_,_,rfl⟩ |⟨_,_,rfl⟩
  ·have hbn:=hl rfl
   subst hbn
   have hv:ver'=ver (nthb s.bk) id:=by rw[ver_of h1];rfl
   obtain⟨base,cap,e,g1,g2,_,g3⟩:=r.2 hv
   have hlen:((l.drop off).take len).length=len:=by simp;omega
   have hshort:l.length≤140737488355328:=S.lens id _ h1
   refine⟨base,cap,by rw[hlen,e],by rw[hlen];exact g1,by rw[hlen];omega,?_⟩
   rcases g3 with g3 |⟨b,arr,e',k1,k2,k3,k4⟩
   ·left;exact List.eq_nil_of_length_eq_zero (by rw[hlen];omega)
   ·have hrb:=S.blocks id _ h1
    rcases hrb with⟨q1,q2⟩ |⟨b',arr',e'',q1,q2,q3⟩
    ·exact absurd (q1.symm.trans k1) (by simp)
    ·obtain rfl:b'=b:=Option.some.inj (q1.symm.trans k1)
     have hlv:live (nthb s.bk) id:=⟨_,h1,rfl⟩
     have hlt:b'<w.heap.size:=by
      rcases Nat.lt_or_ge b' w.heap.size with h' | h'
      ·exact h'
      ·have q2':w.heap[b']? =_:=q2
       simp[Array.getElem?_eq_none h'] at q2'
     refine .inr ⟨b',_,k2,⟨.inr ((S.own id b' hlv q1).resolve_right (fun q=>hX b' q.1)),hlt,by simp⟩,fun i y hy=>?_⟩
     have hi:l[off+i]? =some y:=by
      rw[List.getElem?_take] at hy
      split at hy
      ·simpa using hy
      ·cases hy
     obtain⟨us,p1,p2⟩:=q3 (off+i) y hi
     exact⟨us,rep_mono (w':=w) hI _ _ _ p1,by rw[show off*t.size+i*t.size=(off+i)*t.size by rw[Nat.add_mul]];exact p2⟩
  ·cases hd
  ·exact absurd rfl (h0 t off len)
 | nil=>
  rcases h with rfl |⟨t,rfl⟩ |⟨t,rfl⟩
  ·exact r
  ·exact⟨none,0,by rw[show v=_ from r];rfl,Nat.le_refl _,by simp,.inl rfl⟩
  ·cases hd
 | int k n=>rw[show d=_ from h];exact r
 | bool b=>rw[show d=_ from h];exact r
 | fn f=>rw[show d=_ from h];exact r
 | sl t l=>rw[show d=_ from h];exact rep_mono (w':=w) hI _ _ _ r
 | _=>exact h.elim
theorem resC_own {I:Nat→Prop} (S:SimB w0 X β s a w) (hX:∀b,¬X.X b) (hA:∀b,X.A b→I b∨w0.heap.size≤b) {c d:AC} {v:Value} (hd:isOwn d=true) (h:resC (nthb s.bk) c d)
  (r:RepC (cx X w β (nthb s.bk)) c v):∃bo,RepR (Yb I w0.heap.size w bo) w0.heap.size bo d v∧(bo=none∨((∃id,live (nthb s.bk) id∧β id=bo)∧isLsl c=true)):=by
 cases c with
 | lsl t id ver' off len=>
  rcases h with⟨l,h1,h2,rfl⟩ |⟨l,n,_,h1,rfl,rfl,rfl,rfl⟩ |⟨_,_,rfl⟩
  ·cases hd
  ·have hv:ver'=ver (nthb s.bk) id:=by rw[ver_of h1];rfl
   obtain⟨base,cap,e,g1,g2,_,g3⟩:=r.2 hv
   have hshort:l.length≤140737488355328:=S.lens id _ h1
   have hlv:live (nthb s.bk) id:=⟨_,h1,rfl⟩
   rcases g3 with rfl |⟨b,arr,e',k1,k2,k3,k4⟩
   ·exact⟨none,⟨rfl,base,0,e,g1,g2,hshort,.inl ⟨rfl,List.eq_nil_of_length_eq_zero (by omega),rfl⟩⟩,.inl rfl⟩
   ·have hrb:=S.blocks id _ h1
    rcases hrb with⟨q1,q2⟩ |⟨b',arr',e'',q1,q2,q3⟩
    ·exact absurd (q1.symm.trans k1) (by simp)
    ·obtain rfl:b'=b:=Option.some.inj (q1.symm.trans k1)
     have hI:∀b,(cx X w β (nthb s.bk)).I b→(Yb I w0.heap.size w (some b')).I b∧w.heap[b]? =w.heap[b]? :=fun b hb=>
      ⟨⟨(hA b hb.2).imp (fun q=>⟨rfl,q⟩) (fun q=>q),hb.1.1,fun e=>hb.1.2 id hlv (q1.trans e)⟩,rfl⟩
     refine⟨some b',⟨rfl,base,cap,e,g1,g2,hshort,.inr ⟨b',arr,e',rfl,(S.own id b' hlv q1).resolve_right (fun q=>hX b' q.1),by rw[k2];simp,k3,by simpa using k4,fun i y hy=>?_⟩⟩,.inr ⟨⟨id,hlv,q1⟩,rfl⟩⟩
     obtain⟨us,p1,p2⟩:=q3 i y hy
     exact⟨us,rep_mono (w':=w) hI _ _ _ p1,p2⟩
  ·cases hd
 | nil=>
  rcases h with rfl |⟨t,rfl⟩ |⟨t,rfl⟩
  ·cases hd
  ·cases hd
  ·exact⟨none,⟨rfl,none,0,by rw[show v=_ from r];rfl,Nat.le_refl _,Nat.zero_le _,by simp,.inl ⟨rfl,rfl,rfl⟩⟩,.inl rfl⟩
 | int k n=>rw[show d=_ from h] at hd;cases hd
 | bool b=>rw[show d=_ from h] at hd;cases hd
 | fn f=>rw[show d=_ from h] at hd;cases hd
 | sl t l=>rw[show d=_ from h] at hd;cases hd
 | _=>exact h.elim
theorem res_none {I:Nat→Prop} (S:SimB w0 X β s a w) (hX:∀b,¬X.X b) (hA:∀b,X.A b→I b∨w0.heap.size≤b) {bo:Option Nat} (hbo:bo=none∨∃id,live (nthb s.bk) id∧β id=bo):∀{cs ds:List AC} {vs:List Value},ds.filter isOwn=[]→(cs.filter isLsl≠[]→bo=none)→allC (resC (nthb s.bk)) cs ds→ds.all pureR=true→
  All2 (RepC (cx X w β (nthb s.bk))) cs vs→All2 (RepR (Yb I w0.heap.size w bo) w0.heap.size bo) ds vs
 | [],[],[],_,_,_,_,_=>trivial
 | c::cs,d::ds,v::vs,h1,h2,h3,h4,h5=>by
  simp only[List.all_cons,Bool.and_eq_true] at h4
  have hd:isOwn d=false:=by
   cases h:isOwn d with
   | false=>rfl
   | true=>rw[List.filter_cons,h] at h1;simp at h1
  refine⟨resC_rep S hX hA hbo hd (fun hc=>h2 (by rw[List.filter_cons,hc];simp)) h3.1 (fun t o l e=>by subst e;simp[pureR,pureC] at h4) h5.1,res_none S hX hA hbo (by rw[List.filter_cons,hd] at h1;simpa using h1) (fun hc=>h2 (fun e=>hc ?_)) h3.2 h4.2 h5.2⟩
  rw[List.filter_cons] at e
  split at e
  ·cases e
  ·exact e
 | [],[],_::_,_,_,_,_,h=>h.elim
 | _::_,_::_,[],_,_,_,_,h=>h.elim
 | [],_::_,_,_,_,h,_,_=>h.elim
 | _::_,[],_,_,_,h,_,_=>h.elim
theorem res_one {I:Nat→Prop} (S:SimB w0 X β s a w) (hX:∀b,¬X.X b) (hA:∀b,X.A b→I b∨w0.heap.size≤b):∀{cs ds:List AC} {vs:List Value},(ds.filter isOwn).length≤1→((ds.filter isOwn).length=1→(cs.filter isLsl).length≤1)→allC (resC (nthb s.bk)) cs ds→ds.all pureR=true→
  All2 (RepC (cx X w β (nthb s.bk))) cs vs→∃bo,All2 (RepR (Yb I w0.heap.size w bo) w0.heap.size bo) ds vs∧(bo=none∨((∃id,live (nthb s.bk) id∧β id=bo)∧cs.filter isLsl≠[]))
 | [],[],[],_,_,_,_,_=>⟨none,trivial,.inl rfl⟩
 | c::cs,d::ds,v::vs,h1,h2,h3,h4,h5=>by
  have h4':=h4
  simp only[List.all_cons,Bool.and_eq_true] at h4
  cases hd:isOwn d with
  | true=>
   rw[List.filter_cons,hd] at h1 h2
   simp only[if_true,List.length_cons] at h1 h2
   have hno:ds.filter isOwn=[]:=List.eq_nil_of_length_eq_zero (by omega)
   obtain⟨bo,g1,g2⟩:=resC_own S hX hA hd h3.1 h5.1
   refine⟨bo,⟨g1,res_none S hX hA (g2.imp id fun q=>q.1) hno (fun hne=>?_) h3.2 h4.2 h5.2⟩,g2.imp id fun q=>⟨q.1,by rw[List.filter_cons,q.2];simp⟩⟩
   rcases g2 with g2 |⟨_,g2⟩
   ·exact g2
   ·exfalso
    have:=h2 (by rw[hno];rfl)
    rw[List.filter_cons,g2] at this
    simp only[if_true,List.length_cons] at this
    exact hne (List.eq_nil_of_length_eq_zero (by omega))
  | false=>
   rw[List.filter_cons,hd] at h1 h2
   simp only[Bool.false_eq_true,if_false] at h1 h2
   have h0:∀t o l,d≠ .lsl t 0 0 o l:=fun t o l e=>by subst e;simp[pureR,pureC] at h4
   by_cases hone:(ds.filter isOwn).length=1
   ·have h2':=h2 hone
    have h2'':(cs.filter isLsl).length≤1:=by
     rw[List.filter_cons] at h2'
     split at h2'
     ·simp only[List.length_cons] at h2';omega
     ·exact h2'
    obtain⟨bo,g1,g2⟩:=res_one S hX hA h1 (fun _=>h2'') h3.2 h4.2 h5.2
    refine⟨bo,⟨resC_rep S hX hA (g2.imp id fun q=>q.1) hd (fun hc=>?_) h3.1 h0 h5.1,g1⟩,g2.imp id fun q=>⟨q.1,fun e=>q.2 ?_⟩⟩
    ·rcases g2 with g2 |⟨_,g2⟩
     ·exact g2
     ·rw[List.filter_cons,hc] at h2'
      simp only[if_true,List.length_cons] at h2'
      exact absurd (List.eq_nil_of_length_eq_zero (by omega)) g2
    ·rw[List.filter_cons] at e
     split at e
     ·cases e
     ·exact e
   ·have hno:ds.filter isOwn=[]:=List.eq_nil_of_length_eq_zero (by omega)
    exact⟨none,res_none S hX hA (.inl rfl) (by rw[List.filter_cons,hd];simpa using hno) (fun _=>rfl) h3 h4' h5,.inl rfl⟩
 | [],[],_::_,_,_,_,_,h=>h.elim
 | _::_,_::_,[],_,_,_,_,h=>h.elim
 | [],_::_,_,_,_,h,_,_=>h.elim
 | _::_,[],_,_,_,h,_,_=>h.elim
end
end
end Go.Abs
namespace Go.Abs
open Go.RowKit
section
variable {P:Program} {TI:TypeId→Info}
section
variable {w0:World} {X:WX} {β:Nat→Option Nat} {s:St} {a:Act} {w:World}
theorem resVars_run (hT:∀t,TyOK P t (TI t)) (S:SimB w0 X β s a w):∀{rs:List ResultVar} {xs ys:List (Bool×List AC)},resVars TI s rs=some xs→resCs (nthb s.bk) xs ys→
  ∃vs us,All2 (fun r v=>(resRun a.tmps r).run P w= .ok v w) rs vs∧All2 (RepC (cx X w β (nthb s.bk))) (xs.flatMap (·.2)) us∧
   ∀(y:Cx) (lo:Nat) (bo:Option Nat),All2 (RepR y lo bo) (ys.flatMap (·.2)) us→All2 (fun z q=>RepR1 y lo bo (mk1 z) q) ys vs
 | [],xs,ys,h,hr=>by
  simp only[resVars,Option.some.injEq] at h
  subst h
  cases ys with
  | nil=>exact⟨[],[],trivial,trivial,fun _ _ _ _=>trivial⟩
  | cons _ _=>exact hr.elim
 | r::rs,xs,ys,h,hr=>by
  simp only[resVars] at h
  split at h
  ·rename_i b bs h1 h2
   obtain rfl:=Option.some.inj h
   cases ys with
   | nil=>exact hr.elim
   | cons b' ys=>
    obtain⟨⟨e,hc⟩,hr⟩:=hr
    obtain⟨v,us,g1,g2,g3,g4⟩:=resVar_run hT S h1 hc
    obtain⟨vs,us',k1,k2,k3⟩:=resVars_run hT S h2 hr
    refine⟨v::vs,us++us',⟨g1,k1⟩,by rw[List.flatMap_cons];exact g2.append k2,fun y lo bo hall=>?_⟩
    rw[List.flatMap_cons] at hall
    obtain⟨m1,m2,e',q1,q2⟩:=hall.of_append
    have hlen:us.length=m1.length:=by
     rw[←g2.length,←q1.length]
     have:∀{l m:List AC},allC (resC (nthb s.bk)) l m→l.length=m.length:=by
      intro l
      induction l with
      | nil=>intro m h;cases m <;> first | rfl | exact h.elim
      | cons x l ih=>intro m h;cases m with
       | nil=>exact h.elim
       | cons y m=>simp[ih h.2]
     exact this hc
    obtain⟨rfl,rfl⟩:=List.append_inj e' hlen
    refine⟨?_,k3 y lo bo q2⟩
    obtain⟨t,cs⟩:=b'
    simp only at e
    cases t with
    | true=>exact⟨us.toArray,g3 e,by simpa using q1⟩
    | false=>
     rcases g4 e with rfl | rfl
     ·cases cs with
      | nil=>exact .inl rfl
      | cons _ _=>exact q1.elim
     ·cases cs with
      | nil=>exact q1.elim
      | cons c cs=>exact .inr q1.1
  ·cases h
end
theorem nth_append:∀(l m:List AV) (i:Nat),nth (l++m) i=if i<l.length then nth l i else nth m (i-l.length)
 | [],m,i=>by simp
 | x::l,m,0=>by simp[nth]
 | x::l,m,i+1=>by simp[nth,nth_append l m i]
theorem All2.nth {x:Cx}:∀{l:List AV} {vs:List Value} (i:Nat),All2 (RepV x) l vs→i<l.length→RepV x (nth l i) (vs.getD i undef)
 | _::_,_::_,0,h,_=>by simpa [Abs.nth] using h.1
 | _::_,_::_,i+1,h,hi=>by simpa [Abs.nth] using All2.nth i h.2 (by simpa using hi)
 | [],[],_,_,hi=>by simp at hi
 | [],_::_,_,h,_=>h.elim
 | _::_,[],_,h,_=>h.elim
theorem pureV_rep {x y:Cx} (h:∀b,x.I b→y.I b∧y.w.heap[b]? =x.w.heap[b]?):∀{l:List AV} {vs:List Value},(l.all fun c=>match c with | .tup _=>false | c=>c.all pureC)=true→All2 (RepV x) l vs→All2 (RepV y) l vs
 | [],[],_,_=>trivial
 | .one c::_,_::_,e,r=>by
  simp only[List.all_cons,Bool.and_eq_true] at e
  exact⟨r.1.imp (fun q=>q) (pure_rep h e.1),pureV_rep h e.2 r.2⟩
 | .agg c::_,_::_,e,r=>by
  simp only[List.all_cons,Bool.and_eq_true] at e
  obtain⟨arr,e',hr⟩:=r.1
  exact⟨⟨arr,e',All2.pure h e.1 hr⟩,pureV_rep h e.2 r.2⟩
 | .tup _::_,_::_,e,_=>by simp at e
 | [],_::_,_,r=>r.elim
 | _::_,[],_,r=>r.elim
theorem SimB.start {w:World} {X:WX} {args:List AV} {vs:List Value} {n:Nat} {b0:Option Blk} (hn:args.length≤n) (hX:∀b,X.ob=some b→X.X b) (hA:∀b,w.heap.size≤b→X.A b) (hv:∀b,b0=some b→b.ver=0∧b.short∧0<n)
  (hargs:All2 (RepV (cx X w (β0 X.ob) (nthb (st0 n args b0).bk))) args vs) (hb:∀b,b0=some b→RepB (cx X w (β0 X.ob) (nthb (st0 n args b0).bk)) 0 b):
  SimB w X (β0 X.ob) (st0 n args b0) {tmps:=vs.toArray++Array.replicate (n-vs.toArray.size) undef,defers:=[]} w:=by
 have hlen:=hargs.length
 have hbk:∀id b,nthb (st0 n args b0).bk id=some b→id=0∧b0=some b:=by
  intro id b h
  cases n with
  | zero=>simp[st0,nthb] at h
  | succ n=>
   cases id with
   | zero=>exact⟨rfl,h⟩
   | succ id=>
    have:nthb (reps n none) id=some b:=h
    rw[nthb_reps] at this;cases this
 refine⟨rfl,?_,?_,fun i=>?_,fun id b h=>?_,fun id id' b ⟨_,h1,_⟩ ⟨_,h2,_⟩ _ _=>?_,fun id b ⟨_,h1,_⟩ hβ=> .inr ?_,rfl,rfl,rfl,Nat.le_refl _,fun _ _ _=>rfl,fun id b h=>?_,hA,fun _ _=>⟨rfl,fun b arr e _ he=>⟨arr,he,rfl⟩⟩⟩
 ·simp[st0,len_reps];omega
 ·simp[st0]
  cases n with
  | zero=>simp;omega
  | succ n=>simp[len_reps];omega
 ·show RepV _ (nth (args++_) i) _
  rw[nth_append]
  split
  ·rename_i hi
   have:=hargs.nth i hi
   have e:(vs.toArray++Array.replicate (n-vs.toArray.size) undef).getD i undef=vs.getD i undef:=by
    rw[Array.getD_eq_getD_getElem?,Array.getElem?_append_left (by simpa [←hlen] using hi)]
    simp[List.getD_eq_getElem?_getD]
   rw[e];exact this
  ·rw[nth_reps];exact repV_junk _ _
 ·obtain⟨rfl,h'⟩:=hbk id b h
  exact hb b h'
 ·rw[(hbk _ _ h1).1,(hbk _ _ h2).1]
 ·obtain⟨rfl,_⟩:=hbk _ _ h1
  exact⟨hX b hβ,rfl⟩
 ·exact (hv b (hbk id b h).2).2.1
def pureArgs (args:List AV):Bool:=args.all fun c=>match c with | .tup _=>false | c=>c.all pureC
structure Fn (P:Program) (TI:TypeId→Info) (f:FuncId) (n:Nat) (c:Code) (rs:List ResultVar):Prop where
 get : ∃ fn, P.funcs[f]? = some fn ∧ (fn.name == "runtime.NumGoroutine") = false ∧ fn.body = some c ∧ fn.ntmps = n ∧ fn.results.toList = rs
 dst:dstC c=true
 ty:∀t,TyOK P t (TI t)
 mixed:P.follows .mixedOrders=true
theorem comps_out {r:AV} {y:Cx} {lo:Nat} {bo:Option Nat} {vs:List Value} (hn:vs.length=1↔∀ys,r≠ .tup ys) (h:All2 (fun z q=>RepR1 y lo bo (mk1 z) q) r.comps vs):RepRV y lo bo r (outV vs):=by
 cases r with
 | tup xs=>
  have:vs.length≠1:=fun e=>hn.1 e xs rfl
  have e:outV vs= .tuple vs.toArray:=by
   match vs,this with
   | [],_=>rfl
   | [_],h=>exact absurd rfl h
   | _::_::_,_=>rfl
  exact⟨vs.toArray,e,h⟩
 | one c=>
  match vs,h with
  | [v],h=>exact h.1
 | agg cs=>
  match vs,h with
  | [v],h=>exact h.1
theorem acall_of_awp {f:FuncId} {n:Nat} {c:Code} {rs:List ResultVar} (F:Fn P TI f n c rs) {args:List AV} {r:AV} (hp:pureArgs args=true) (hr:r.all pureR=true∧r.wf=true) (hn:args.length≤n)
  (h:awp (env P) TI n c (post TI rs r none) (st0 n args none)):ACall P false f args r:=by
 obtain⟨fn,hf,hname,hb,hnt,hrs⟩:=F.get
 refine⟨⟨fn,c,hf,hname,hb⟩,hr,fun w I vs hI hargs=>?_⟩
 refine calls_of_wp hf hb ?_
 have S0:SimB w ⟨fun _=>False,fun b=>I b∨w.heap.size≤b,none⟩ (β0 none) (st0 n args none) {tmps:=vs.toArray++Array.replicate (n-vs.toArray.size) undef,defers:=[]} w:=
  SimB.start (X:=⟨fun _=>False,fun b=>I b∨w.heap.size≤b,none⟩) hn (fun _ e=>by cases e) (fun b hb=> .inr hb) (fun b e=>by cases e)
   (pureV_rep (x:=nocx w I) (y:=cx ⟨fun _=>False,fun b=>I b∨w.heap.size≤b,none⟩ w (β0 none) (nthb (st0 n args none).bk)) (fun b hb=>⟨⟨⟨hI b hb,fun id _ e=>by simp[β0] at e⟩,.inl hb⟩,rfl⟩) hp hargs) (fun b e=>by cases e)
 rw[hnt]
 refine wp_mono (awp_sound F.mixed (fun o ho=>sound_op F.ty o ho) F.dst (by simp[st0,len_reps];omega) S0 h) fun e a' w' he=>?_
 obtain⟨x,s',β',rfl,hq,_,S⟩:=he
 have fin:post TI rs r none x s'→x≠ .exit 0∧(∀i,x≠ .exit i)→a'.defers=[]∧∃v,(results fn a'.tmps).run P w'= .ok v w'∧∃u bo,Ending.returned v= .returned u∧Below w.heap.size w w'∧
   RepRV (nocx w' fun b=>((false=false∧I b)∨w.heap.size≤b)∧b<w'.heap.size∧bo≠some b) w.heap.size bo r u:=by
  intro hq hx
  refine⟨S.defers,?_⟩
  have hq':∃xs,resVars TI s' rs=some xs∧resCs (nthb s'.bk) xs r.comps∧oneOwn xs r.comps=true∧(rs.length=1↔∀ys,r≠ .tup ys):=by
   unfold post at hq
   split at hq
   ·exact absurd rfl (hx.2 _)
   ·split at hq
    ·rename_i xs hxs
     exact⟨xs,hxs,hq.1 ()⟩
    ·exact hq.elim
  obtain⟨xs,h1,h2,h3,h4⟩:=hq'
  obtain⟨us,ws,k1,k2,k3⟩:=resVars_run F.ty S h1 h2
  have hflat:allC (resC (nthb s'.bk)) (xs.flatMap (·.2)) (r.comps.flatMap (·.2)):=by
   have app:∀{l m l' m':List AC},allC (resC (nthb s'.bk)) l m→allC (resC (nthb s'.bk)) l' m'→allC (resC (nthb s'.bk)) (l++l') (m++m'):=by
    intro l
    induction l with
    | nil=>intro m l' m' h h';cases m <;> first | exact h' | exact h.elim
    | cons x l ih=>intro m l' m' h h';cases m with
     | nil=>exact h.elim
     | cons y m=>exact⟨h.1,ih h.2 h'⟩
   have:∀{l m:List (Bool×List AC)},resCs (nthb s'.bk) l m→allC (resC (nthb s'.bk)) (l.flatMap (·.2)) (m.flatMap (·.2)):=by
    intro l
    induction l with
    | nil=>intro m h;cases m <;> first | trivial | exact h.elim
    | cons x l ih=>intro m h;cases m with
     | nil=>exact h.elim
     | cons y m=>rw[List.flatMap_cons,List.flatMap_cons];exact app h.1.2 (ih h.2)
   exact this h2
  have hpure:(r.comps.flatMap (·.2)).all pureR=true:=by
   cases r with
   | one c=>simpa [AV.comps,AV.comp,AV.all] using hr.1
   | agg cs=>simpa [AV.comps,AV.comp,AV.all] using hr.1
   | tup xs=>simp only[AV.comps,List.all_flatMap];exact hr.1
  have hown:((r.comps.flatMap (·.2)).filter isOwn).length≤1∧(((r.comps.flatMap (·.2)).filter isOwn).length=1→((xs.flatMap (·.2)).filter isLsl).length≤1):=by
   unfold oneOwn at h3
   split at h3
   ·rename_i e;rw[e];simp
   ·rename_i e;rw[e];simpa using h3
   ·cases h3
  obtain⟨bo,g1,_⟩:=res_one (I:=I) S (fun b h=>h) (fun b h=>h) hown.1 hown.2 hflat hpure k2
  have hlen:us.length=rs.length:=k1.length.symm
  refine⟨outV us,results_run (by rw[hrs];exact k1),outV us,bo,rfl,⟨S.os,S.tape,S.output,S.size,fun b hb=>S.block b hb (fun h=>h)⟩,?_⟩
  exact comps_out (by rw[hlen];exact h4) (k3 _ _ _ g1)
 cases x with
 | nrm=>exact fin hq ⟨by simp,by simp⟩
 | ret=>exact fin hq ⟨by simp,by simp⟩
 | exit i=>exact hq.elim
end
end Go.Abs
