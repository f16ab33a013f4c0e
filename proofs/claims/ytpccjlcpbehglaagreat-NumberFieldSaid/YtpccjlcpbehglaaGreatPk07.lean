/- Part 8 of a proof. Conditions: each theorem's own. -/
import Derived.Test.YtpccjlcpbehglaaGreatPk06
set_option linter.all false
set_option maxHeartbeats 8000000
namespace Go.Abs
open Go.RowKit
section
variable {P:Program} {TI:TypeId→Info}
theorem args_snap {w0:World} {X:WX} {β:Nat→Option Nat} {s:St} {a:Act} {w:World} (S:SimB w0 X β s a w) {J:Nat→Prop} (hJ:∀b,(cx X w β (nthb s.bk)).I b→J b):
  ∀{l m:List AV} {vs:List Value},(∀id b,id∈idsV l→live (nthb s.bk) id→β id=some b→b<w.heap.size→J b)→allV (snapC (nthb s.bk)) l m→All2 (RepV (cx X w β (nthb s.bk))) l vs→All2 (RepV (nocx w J)) m vs
 | [],[],[],_,_,_=>trivial
 | .one c::_,.one d::_,_::_,hi,hl,r=>⟨Or.inr (snapC_rep S hJ (fun id b hid=>hi id b (by simp[idsV,hid])) hl.1 (repV_one r.1 (by intro e;subst e;exact hl.1.elim))),args_snap S hJ (fun id b hid=>hi id b (by simp[idsV,hid])) hl.2 r.2⟩
 | .agg c::_,.agg d::_,_::_,hi,hl,r=>by
  obtain⟨arr,e,hr⟩:=r.1
  refine⟨⟨arr,e,?_⟩,args_snap S hJ (fun id b hid=>hi id b (by rw[idsV];exact List.mem_append_right _ hid)) hl.2 r.2⟩
  exact all (fun id b hid=>hi id b (by rw[idsV];exact List.mem_append_left _ hid)) hl.1 hr
 | [],_::_,_,_,hl,_=>hl.elim
 | _::_,[],_,_,hl,_=>hl.elim
 | .one _::_,.agg _::_,_,_,hl,_=>hl.1.elim
 | .one _::_,.tup _::_,_,_,hl,_=>hl.1.elim
 | .agg _::_,.one _::_,_,_,hl,_=>hl.1.elim
 | .agg _::_,.tup _::_,_,_,hl,_=>hl.1.elim
 | .tup _::_,.one _::_,_,_,hl,_=>hl.1.elim
 | .tup _::_,.agg _::_,_,_,hl,_=>hl.1.elim
 | .tup _::_,.tup _::_,_,_,hl,_=>hl.1.elim
 | [],[],_::_,_,_,r=>r.elim
 | .one _::_,.one _::_,[],_,_,r=>r.elim
 | .agg _::_,.agg _::_,[],_,_,r=>r.elim
where
 all:∀{l m:List AC} {vs:List Value},(∀id b,id∈l.flatMap idsC→live (nthb s.bk) id→β id=some b→b<w.heap.size→J b)→allC (snapC (nthb s.bk)) l m→All2 (RepC (cx X w β (nthb s.bk))) l vs→All2 (RepC (nocx w J)) m vs
  | [],[],[],_,_,_=>trivial
  | _::_,_::_,_::_,hi,h,r=>⟨snapC_rep S hJ (fun id b hid=>hi id b (by rw[List.flatMap_cons];exact List.mem_append_left _ hid)) h.1 r.1,all (fun id b hid=>hi id b (by rw[List.flatMap_cons];exact List.mem_append_right _ hid)) h.2 r.2⟩
  | [],_::_,_,_,h,_=>h.elim
  | _::_,[],_,_,h,_=>h.elim
  | [],[],_::_,_,_,r=>r.elim
  | _::_,_::_,[],_,_,r=>r.elim
theorem gotC_rep {x y:Cx} {lo:Nat} {bo:Option Nat} {d v:Nat} (h:∀b,x.I b→y.I b∧y.w.heap[b]? =x.w.heap[b]?) (hw:y.w=x.w) (hcv:v≤y.cv d) (hβ:v=y.cv d→y.β d=bo):∀{c:AC} {u:Value},pureR c=true→RepR x lo bo c u→RepC y (gotC d v c) u
 | .own t l n,u,_,⟨hn,base,cap,e,h1,h2,_,h3⟩=>by
  subst e
  refine⟨⟨rfl,hcv⟩,fun hv=>⟨base,cap,by rw[hn],by omega,h2,by simp,?_⟩⟩
  rcases h3 with⟨_,_,rfl⟩ |⟨b,arr,e,rfl,_,rfl,q1,q2,_⟩
  ·exact .inl rfl
  ·exact .inr ⟨b,arr,e,hβ hv,by simp,by rw[hw];exact q1,by simpa using q2⟩
 | .junk,_,_,r=>r
 | .int _ _,_,_,r=>r
 | .bool _,_,_,r=>r
 | .fn _,_,_,r=>r
 | .nil,_,_,r=>r
 | .sl _ _,_,_,r=>rep_mono h _ _ _ r
 | .lsl _ _ _ _ _,_,e,_=>by simp[pureR,pureC] at e
 | .csl _ _ _ _ _,_,e,_=>by simp[pureR,pureC] at e
 | .lptr _ _ _,_,e,_=>by simp[pureR,pureC] at e
 | .eptr _ _ _ _ _,_,e,_=>by simp[pureR,pureC] at e
 | .pptr _ _ _,_,e,_=>by simp[pureR,pureC] at e
 | .ub _,_,e,_=>by simp[pureR,pureC] at e
theorem All2.got {x y:Cx} {lo:Nat} {bo:Option Nat} {d v:Nat} (h:∀b,x.I b→y.I b∧y.w.heap[b]? =x.w.heap[b]?) (hw:y.w=x.w) (hcv:v≤y.cv d) (hβ:v=y.cv d→y.β d=bo):
  ∀{cs:List AC} {us:List Value},cs.all pureR=true→All2 (RepR x lo bo) cs us→All2 (RepC y) (cs.map (gotC d v)) us
 | [],[],_,_=>trivial
 | _::_,_::_,e,r=>by simp only[List.all_cons,Bool.and_eq_true] at e;exact⟨gotC_rep h hw hcv hβ e.1 r.1,All2.got h hw hcv hβ e.2 r.2⟩
 | [],_::_,_,r=>r.elim
 | _::_,[],_,r=>r.elim
theorem gotV_rep {x y:Cx} {lo:Nat} {bo:Option Nat} {d v:Nat} (h:∀b,x.I b→y.I b∧y.w.heap[b]? =x.w.heap[b]?) (hw:y.w=x.w) (hcv:v≤y.cv d) (hβ:v=y.cv d→y.β d=bo) {r:AV} {u:Value} (hp:r.all pureR=true) (hr:RepRV x lo bo r u):
  RepV y (gotV d v r) u:=by
 cases r with
 | one c=>
  rcases hr with rfl | hr
  ·exact Or.inl rfl
  ·exact Or.inr (gotC_rep h hw hcv hβ hp hr)
 | agg cs=>obtain⟨arr,e,hr⟩:=hr;exact⟨arr,e,All2.got h hw hcv hβ hp hr⟩
 | tup xs=>
  obtain⟨arr,e,hr⟩:=hr
  refine⟨arr,e,?_⟩
  have key:∀(xs:List (Bool×List AC)) (us:List Value),(xs.all fun x=>x.2.all pureR)=true→All2 (fun z q=>RepR1 x lo bo (mk1 z) q) xs us→All2 (fun z q=>RepV1 y (mk1 z) q) (xs.map fun x=>(x.1,x.2.map (gotC d v))) us:=by
   intro xs
   induction xs with
   | nil=>intro us _ hh;cases us <;> first | trivial | exact hh.elim
   | cons z xs ih=>
    intro us hz hh
    cases us with
    | nil=>exact hh.elim
    | cons q us=>
     simp only[List.all_cons,Bool.and_eq_true] at hz
     refine⟨?_,ih us hz.2 hh.2⟩
     obtain⟨g,cs⟩:=z
     have h1:=hh.1
     cases g with
     | true=>obtain⟨arr',e',hr'⟩:=h1;exact⟨arr',e',All2.got h hw hcv hβ hz.1 hr'⟩
     | false=>
      cases cs with
      | nil=>exact Or.inl rfl
      | cons c cs=>
       simp only[List.all_cons,Bool.and_eq_true] at hz
       rcases h1 with e1 | h1
       ·have e1:c= .junk:=e1
        subst e1
        exact Or.inl rfl
       ·exact Or.inr (gotC_rep h hw hcv hβ hz.1.1 h1)
  exact key xs arr.toList hp hr
theorem ownC_spec {x:Cx} {lo:Nat} {bo:Option Nat} (d v:Nat):∀{cs:List AC} {us:List Value},All2 (RepR x lo bo) cs us→ownC d v cs=[]∨∃t l u,ownC d v cs=[(d,.arr v t l)]∧OwnAt x lo bo t l u
 | [],[],_=> .inl rfl
 | c::cs,u::us,h=>by
  have ih:=ownC_spec d v h.2
  cases c with
  | own t l n=>exact .inr ⟨t,l,u,rfl,h.1.2⟩
  | _=>exact ih
 | [],_::_,h=>h.elim
 | _::_,[],h=>h.elim
theorem ownC_append (d v:Nat):∀(cs ds:List AC),ownC d v (cs++ds)=match ownC d v cs with | []=>ownC d v ds | x=>x
 | [],_=>by simp[ownC]
 | c::cs,ds=>by
  have:=ownC_append d v cs ds
  cases c <;> simp[ownC,this]
theorem ownV_spec {x:Cx} {lo:Nat} {bo:Option Nat} (d v:Nat) {r:AV} {u:Value} (hwf:r.wf=true) (hr:RepRV x lo bo r u):ownV d v r=[]∨∃t l u',ownV d v r=[(d,.arr v t l)]∧OwnAt x lo bo t l u':=by
 cases r with
 | one c=>
  rcases hr with rfl | hr
  ·exact .inl rfl
  ·exact ownC_spec d v (cs:=[c]) (us:=[u]) ⟨hr,trivial⟩
 | agg cs=>obtain⟨arr,e,hr⟩:=hr;exact ownC_spec d v hr
 | tup xs=>
  obtain⟨arr,e,hr⟩:=hr
  show ownC d v _=[]∨_
  have key:∀(xs:List (Bool×List AC)) (us:List Value),All2 (fun z q=>RepR1 x lo bo (mk1 z) q) xs us→(∀z∈xs,z.1=false→z.2.length≤1)→ownC d v (xs.flatMap (·.2))=[]∨∃t l u',ownC d v (xs.flatMap (·.2))=[(d,.arr v t l)]∧OwnAt x lo bo t l u':=by
   intro xs
   induction xs with
   | nil=>intro us _ _;exact .inl rfl
   | cons z xs ih=>
    intro us hh hz
    cases us with
    | nil=>exact hh.elim
    | cons q us=>
     have h2:=ih us hh.2 (fun z' hz'=>hz z' (by simp[hz']))
     have h1:ownC d v z.2=[]∨∃t l u',ownC d v z.2=[(d,.arr v t l)]∧OwnAt x lo bo t l u':=by
      obtain⟨g,cs⟩:=z
      have h1:=hh.1
      cases g with
      | true=>obtain⟨arr',e',hr'⟩:=h1;exact ownC_spec d v hr'
      | false=>
       have hl:=hz (false,cs) (by simp) rfl
       match cs,hl with
       | [],_=>exact .inl rfl
       | [c],_=>
        rcases h1 with e1 | h1
        ·have e1:c= .junk:=e1
         subst e1;exact .inl rfl
        ·exact ownC_spec d v (cs:=[c]) (us:=[q]) ⟨h1,trivial⟩
     rw[List.flatMap_cons,ownC_append]
     rcases h1 with h1 |⟨t,l,u',h1,h3⟩
     ·rw[h1];exact h2
     ·rw[h1];exact .inr ⟨t,l,u',rfl,h3⟩
  refine key xs arr.toList hr fun z hz hg=>?_
  have:=List.all_eq_true.1 hwf z hz
  simpa [hg] using this
theorem ownC_nil {d v:Nat}:∀{cs:List AC},ownC d v cs=[]→cs.all pureR=true→cs.all pureC=true∧cs.map (gotC d v)=cs
 | [],_,_=>⟨rfl,rfl⟩
 | c::cs,h,hp=>by
  simp only[List.all_cons,Bool.and_eq_true] at hp
  cases c with
  | own t l n=>simp[ownC] at h
  | lsl _ _ _ _ _=>exact absurd hp.1 (by simp[pureR,pureC])
  | csl _ _ _ _ _=>exact absurd hp.1 (by simp[pureR,pureC])
  | lptr _ _ _=>exact absurd hp.1 (by simp[pureR,pureC])
  | eptr _ _ _ _ _=>exact absurd hp.1 (by simp[pureR,pureC])
  | pptr _ _ _=>exact absurd hp.1 (by simp[pureR,pureC])
  | ub _=>exact absurd hp.1 (by simp[pureR,pureC])
  | _=>obtain⟨h1,h2⟩:=ownC_nil (cs:=cs) h hp.2;exact⟨by simp[h1,pureC],by simp[gotC,h2]⟩
theorem repR_pure {x y:Cx} {lo:Nat} {bo:Option Nat} (h:∀b,x.I b→y.I b∧y.w.heap[b]? =x.w.heap[b]?):∀{c:AC} {u:Value},pureC c=true→RepR x lo bo c u→RepC y c u
 | .junk,_,_,r=>r
 | .int _ _,_,_,r=>r
 | .bool _,_,_,r=>r
 | .fn _,_,_,r=>r
 | .nil,_,_,r=>r
 | .sl _ _,_,_,r=>rep_mono h _ _ _ r
 | .lsl _ _ _ _ _,_,e,_=>by simp[pureC] at e
 | .csl _ _ _ _ _,_,e,_=>by simp[pureC] at e
 | .lptr _ _ _,_,e,_=>by simp[pureC] at e
 | .eptr _ _ _ _ _,_,e,_=>by simp[pureC] at e
 | .pptr _ _ _,_,e,_=>by simp[pureC] at e
 | .ub _,_,e,_=>by simp[pureC] at e
 | .own _ _ _,_,e,_=>by simp[pureC] at e
theorem All2.repR {x y:Cx} {lo:Nat} {bo:Option Nat} (h:∀b,x.I b→y.I b∧y.w.heap[b]? =x.w.heap[b]?):∀{cs:List AC} {us:List Value},cs.all pureC=true→All2 (RepR x lo bo) cs us→All2 (RepC y) cs us
 | [],[],_,_=>trivial
 | _::_,_::_,e,r=>by simp only[List.all_cons,Bool.and_eq_true] at e;exact⟨repR_pure h e.1 r.1,All2.repR h e.2 r.2⟩
 | [],_::_,_,r=>r.elim
 | _::_,[],_,r=>r.elim
theorem ownC_split {d v:Nat} {cs ds:List AC} (h:ownC d v (cs++ds)=[]):ownC d v cs=[]∧ownC d v ds=[]:=by
 rw[ownC_append] at h
 split at h
 ·rename_i e;exact⟨e,h⟩
 ·rename_i e;exact absurd h e
theorem gotV_none {x y:Cx} {lo:Nat} {bo:Option Nat} {d v:Nat} {r:AV} {u:Value} (h0:ownV d v r=[]) (hp:r.all pureR=true∧r.wf=true) (h:∀b,x.I b→y.I b∧y.w.heap[b]? =x.w.heap[b]?) (hr:RepRV x lo bo r u):RepV y (gotV d v r) u:=by
 cases r with
 | one c=>
  obtain⟨h1,h2⟩:=ownC_nil (cs:=[c]) h0 (by simpa [AV.all] using hp.1)
  have h2:gotC d v c=c:=by simpa using h2
  show RepV y (.one (gotC d v c)) u
  rw[h2]
  exact hr.imp (fun q=>q) (repR_pure h (by simpa using h1))
 | agg cs=>
  obtain⟨arr,e,hr⟩:=hr
  obtain⟨h1,h2⟩:=ownC_nil h0 hp.1
  refine⟨arr,e,?_⟩
  rw[h2];exact All2.repR h h1 hr
 | tup xs=>
  obtain⟨arr,e,hr⟩:=hr
  refine⟨arr,e,?_⟩
  have key:∀(xs:List (Bool×List AC)) (us:List Value),ownC d v (xs.flatMap (·.2))=[]→(xs.all fun x=>x.2.all pureR)=true→All2 (fun z q=>RepR1 x lo bo (mk1 z) q) xs us→All2 (fun z q=>RepV1 y (mk1 z) q) (xs.map fun x=>(x.1,x.2.map (gotC d v))) us:=by
   intro xs
   induction xs with
   | nil=>intro us _ _ hh;cases us <;> first | trivial | exact hh.elim
   | cons z xs ih=>
    intro us ho hz hh
    cases us with
    | nil=>exact hh.elim
    | cons q us=>
     simp only[List.all_cons,Bool.and_eq_true] at hz
     rw[List.flatMap_cons] at ho
     obtain⟨o1,o2⟩:=ownC_split ho
     refine⟨?_,ih us o2 hz.2 hh.2⟩
     obtain⟨h1,h2⟩:=ownC_nil o1 hz.1
     obtain⟨g,cs⟩:=z
     have h3:=hh.1
     simp only at h2
     show RepV1 y (mk1 (g,cs.map (gotC d v))) q
     rw[h2]
     cases g with
     | true=>obtain⟨arr',e',hr'⟩:=h3;exact⟨arr',e',All2.repR h h1 hr'⟩
     | false=>
      cases cs with
      | nil=>exact Or.inl rfl
      | cons c cs=>
       simp only[List.all_cons,Bool.and_eq_true] at h1
       exact h3.imp (fun q=>q) (repR_pure h h1.1)
  exact key xs arr.toList h0 hp.1 hr
theorem lent_rep {X:WX} {w:World} {β:Nat→Option Nat} {bk:Nat→Option Blk} {I:Nat→Prop} {id vv:Nat} (hv:vv=ver bk id):∀{c:AC} {v:Value},refC c=some (id,vv)→RepC (cx X w β bk) c v→RepC (lentcx w (β id) I) (renC 0 0 c) v
 | .lsl t i v' off len,_,h,r=>by
  simp only[refC,Option.some.injEq,Prod.mk.injEq] at h
  obtain⟨rfl,rfl⟩:=h
  exact⟨⟨r.1.1,Nat.le_refl _⟩,fun _=>r.2 hv⟩
 | .lptr i v' off,_,h,r=>by
  simp only[refC,Option.some.injEq,Prod.mk.injEq] at h
  obtain⟨rfl,rfl⟩:=h
  exact⟨⟨r.1.1,Nat.le_refl _⟩,fun _=>r.2 hv⟩
 | .junk,_,h,_=>by cases h
 | .int _ _,_,h,_=>by cases h
 | .bool _,_,h,_=>by cases h
 | .fn _,_,h,_=>by cases h
 | .nil,_,h,_=>by cases h
 | .sl _ _,_,h,_=>by cases h
 | .csl _ _ _ _ _,_,h,_=>by cases h
 | .eptr _ _ _ _ _,_,h,_=>by cases h
 | .pptr _ _ _,_,h,_=>by cases h
 | .ub _,_,h,_=>by cases h
 | .own _ _ _,_,h,_=>by cases h
theorem lentB_rep {X:WX} {w:World} {β:Nat→Option Nat} {bk:Nat→Option Blk} {id:Nat} {J:Nat→Prop} (hJ:∀b,(cx X w β bk).I b→J b∧w.heap[b]? =w.heap[b]?):∀{b:Blk},(b.setVer 0).lone=true→RepB (cx X w β bk) id b→RepB (lentcx w (β id) J) 0 (b.setVer 0)
 | .dead _,h,_=>by simp[Blk.setVer,Blk.lone] at h
 | .var _ cs,h,⟨b,arr,e,h1,h2,h3⟩=>⟨b,arr,e,h1,h2,All2.pure (x:=cx X w β bk) (y:=lentcx w (β id) J) hJ (by simpa [Blk.setVer,Blk.lone] using h) h3⟩
 | .arr _ t l,_,h=>h.imp (fun q=>q) fun⟨b,arr,e,h1,h2,h3⟩=>⟨b,arr,e,h1,h2,fun i y hy=>by
  obtain⟨us,p1,p2⟩:=h3 i y hy
  exact⟨us,rep_mono (w':=w) hJ _ _ _ p1,p2⟩⟩
theorem rep_flat {w w':World} {I I':Nat→Prop}:∀(t:T) (x:el t) (vs:List Value),t.flat=true→rep w I t x vs→rep w' I' t x vs
 | .u8,_,_,_,hr=>hr
 | .u32,_,_,_,hr=>hr
 | .u64,_,_,_,hr=>hr
 | .i8,_,_,_,hr=>hr
 | .i64,_,_,_,hr=>hr
 | .bool,_,_,_,hr=>hr
 | .sl t,_,_,h,_=>by simp[T.flat] at h
 | .pr a b,x,_,h,⟨v1,v2,e,h1,h2⟩=>by
  simp only[T.flat,Bool.and_eq_true] at h
  exact⟨v1,v2,e,rep_flat a x.1 v1 h.1 h1,rep_flat b x.2 v2 h.2 h2⟩
theorem unlentB_rep {X:WX} {w':World} {β:Nat→Option Nat} {bk':Nat→Option Blk} {ob:Option Nat} {J:Nat→Prop} {id vv:Nat} (hβ:ob=β id):∀{b:Blk},flatB b=true→RepB (lentcx w' ob J) 0 b→RepB (cx X w' β bk') id (b.setVer vv)
 | .dead _,h,_=>by simp[flatB] at h
 | .var v cs,h,_=>by simp[flatB] at h
 | .arr _ t l,hf,h=>h.imp (fun q=>⟨(show β id=none by rw[←hβ];exact q.1),q.2⟩) fun⟨b,arr,e,h1,h2,h3⟩=>⟨b,arr,e,(show β id=some b by rw[←hβ];exact h1),h2,fun i y hy=>by
  obtain⟨us,p1,p2⟩:=h3 i y hy
  exact⟨us,rep_flat _ _ _ hf p1,p2⟩⟩
theorem unlentC_rep {X:WX} {w':World} {β:Nat→Option Nat} {bk':Nat→Option Blk} {ob:Option Nat} {J:Nat→Prop} {id vv:Nat} (hβ:ob=β id) (hv:vv=ver bk' id):
  ∀{c:AC} {u:Value},lentF c=true→RepC (lentcx w' ob J) c u→RepC (cx X w' β bk') (renC id vv c) u
 | .lsl t i v off len,_,h,r=>by
  match i,v,h,r with
  | 0,0,_,r=>exact⟨⟨r.1.1,Nat.le_of_eq hv⟩,fun _=>by have:=r.2 rfl;show LslAt w' (β id) _ _ _ _ _;rw[←hβ];exact this⟩
  | 0,_+1,h,_=>simp[lentF] at h
  | _+1,_,h,_=>simp[lentF] at h
 | .int _ _,_,_,r=>r
 | .bool _,_,_,r=>r
 | .fn _,_,_,r=>r
 | .nil,_,_,r=>r
 | .csl _ _ _ _ _,_,h,_=>by simp[lentF] at h
 | .lptr _ _ _,_,h,_=>by simp[lentF] at h
 | .junk,_,h,_=>by simp[lentF] at h
 | .sl _ _,_,h,_=>by simp[lentF] at h
 | .eptr _ _ _ _ _,_,h,_=>by simp[lentF] at h
 | .pptr _ _ _,_,h,_=>by simp[lentF] at h
 | .ub _,_,h,_=>by simp[lentF] at h
 | .own _ _ _,_,h,_=>by simp[lentF] at h
theorem All2.unlent {X:WX} {w':World} {β:Nat→Option Nat} {bk':Nat→Option Blk} {ob:Option Nat} {J:Nat→Prop} {id vv:Nat} (hβ:ob=β id) (hv:vv=ver bk' id):
  ∀{cs:List AC} {us:List Value},cs.all lentF=true→All2 (RepC (lentcx w' ob J)) cs us→All2 (RepC (cx X w' β bk')) (cs.map (renC id vv)) us
 | [],[],_,_=>trivial
 | _::_,_::_,e,r=>by simp only[List.all_cons,Bool.and_eq_true] at e;exact⟨unlentC_rep hβ hv e.1 r.1,All2.unlent hβ hv e.2 r.2⟩
 | [],_::_,_,r=>r.elim
 | _::_,[],_,r=>r.elim
theorem unlentV_rep {X:WX} {w':World} {β:Nat→Option Nat} {bk':Nat→Option Blk} {ob:Option Nat} {J:Nat→Prop} {id vv:Nat} (hβ:ob=β id) (hv:vv=ver bk' id) {r:AV} {u:Value}
  (h:r.all lentF=true) (hr:RepV (lentcx w' ob J) r u):RepV (cx X w' β bk') (renV id vv r) u:=by
 cases r with
 | one c=>
  rcases hr with rfl | hr
  ·exact Or.inl rfl
  ·exact Or.inr (unlentC_rep hβ hv h hr)
 | agg cs=>obtain⟨arr,e,hr⟩:=hr;exact⟨arr,e,All2.unlent hβ hv h hr⟩
 | tup xs=>
  obtain⟨arr,e,hr⟩:=hr
  refine⟨arr,e,?_⟩
  have key:∀(xs:List (Bool×List AC)) (us:List Value),(xs.all fun x=>x.2.all lentF)=true→All2 (fun z q=>RepV1 (lentcx w' ob J) (mk1 z) q) xs us→All2 (fun z q=>RepV1 (cx X w' β bk') (mk1 z) q) (xs.map fun x=>(x.1,x.2.map (renC id vv))) us:=by
   intro xs
   induction xs with
   | nil=>intro us _ hh;cases us <;> first | trivial | exact hh.elim
   | cons z xs ih=>
    intro us hz hh
    cases us with
    | nil=>exact hh.elim
    | cons q us=>
     simp only[List.all_cons,Bool.and_eq_true] at hz
     refine⟨?_,ih us hz.2 hh.2⟩
     obtain⟨g,cs⟩:=z
     have h3:=hh.1
     cases g with
     | true=>obtain⟨arr',e',hr'⟩:=h3;exact⟨arr',e',All2.unlent hβ hv hz.1 hr'⟩
     | false=>
      cases cs with
      | nil=>exact Or.inl rfl
      | cons c cs=>
       simp only[List.all_cons,Bool.and_eq_true] at hz
       rcases h3 with e1 | h3
       ·have e1:c= .junk:=e1
        subst e1;exact Or.inl rfl
       ·exact Or.inr (unlentC_rep hβ hv hz.1.1 h3)
  exact key xs arr.toList h hr
theorem notOwned {X:WX} {w:World} {β:Nat→Option Nat} {s:St} {d b k:Nat} {bo:Option Nat} {blk:Blk} {fl:Bool} {J:Nat→Prop} (hid:d<s.bk.length) (h1:(fl=false∧J b)∨w.heap.size≤b) (h2:bo≠some b)
  (hJ:∀b,J b→fl=false→(cx X w β (nthb s.bk)).I b) (hβlt:∀k b,live (nthb s.bk) k→β k=some b→b<w.heap.size) (hk:live (nthb (setn s.bk d (some blk))) k) (hk':(if k=d then bo else β k)=some b):False:=by
 rw[live_set _ _ _ hid] at hk
 by_cases h:k=d
 ·simp[h] at hk';exact h2 hk'
 ·simp only[h,if_false] at hk hk'
  rcases h1 with⟨e1,e2⟩ | e1
  ·exact (hJ b e2 e1).1.2 k hk hk'
  ·have:=hβlt k b hk hk';omega
theorem setn_self:∀(l:List (Option Blk)) (id:Nat) (b:Blk),nthb l id=some b→setn l id (some b)=l
 | [],_,_,h=>by simp[nthb] at h
 | a::l,0,b,h=>by rw[setn,show a=some b from h]
 | a::l,n+1,b,h=>by rw[setn,setn_self l n b h]
theorem lendC_rep {X:WX} {w:World} {β:Nat→Option Nat} {bk:Nat→Option Blk} {id v:Nat} (hv:v=ver bk id):∀{c d:AC} {u:Value},lendC id v c d→RepC (cx X w β bk) c u→RepC (lentcx w (β id) (cx X w β bk).I) d u
 | .lsl t i v' off len,_,_,⟨⟨h1,h2⟩,h3⟩,r=>by subst h1 h2 h3;exact lent_rep (vv:=v') hv rfl r
 | .int _ _,_,_,h,r=>by rw[show _=_ from h];exact r
 | .bool _,_,_,h,r=>by rw[show _=_ from h];exact r
 | .fn _,_,_,h,r=>by rw[show _=_ from h];exact r
 | .sl t l,_,u,h,r=>by
  rw[show _=_ from h]
  exact rep_mono (w':=w) (fun b hb=>⟨hb,rfl⟩) (.sl t) l [u] r
 | .nil,_,_,h,r=>by
  rcases h with rfl |⟨t,rfl⟩
  ·exact r
  ·rw[show _=_ from r];exact⟨none,0,rfl,Nat.le_refl _,by simp,.inl rfl⟩
 | .junk,_,_,h,_=>h.elim
 | .csl _ _ _ _ _,_,_,h,_=>h.elim
 | .lptr _ _ _,_,_,h,_=>h.elim
 | .eptr _ _ _ _ _,_,_,h,_=>h.elim
 | .pptr _ _ _,_,_,h,_=>h.elim
 | .ub _,_,_,h,_=>h.elim
 | .own _ _ _,_,_,h,_=>h.elim
theorem allC_lend {X:WX} {w:World} {β:Nat→Option Nat} {bk:Nat→Option Blk} {id v:Nat} (hv:v=ver bk id):∀{l m:List AC} {vs:List Value},allC (lendC id v) l m→All2 (RepC (cx X w β bk)) l vs→All2 (RepC (lentcx w (β id) (cx X w β bk).I)) m vs
 | [],[],[],_,_=>trivial
 | _::_,_::_,_::_,h,r=>⟨lendC_rep hv h.1 r.1,allC_lend hv h.2 r.2⟩
 | [],_::_,_,h,_=>h.elim
 | _::_,[],_,h,_=>h.elim
 | [],[],_::_,_,r=>r.elim
 | _::_,_::_,[],_,r=>r.elim
theorem args_lend {X:WX} {w:World} {β:Nat→Option Nat} {bk:Nat→Option Blk} {id v:Nat} (hv:v=ver bk id):∀{l m:List AV} {vs:List Value},allV (lendC id v) l m→All2 (RepV (cx X w β bk)) l vs→All2 (RepV (lentcx w (β id) (cx X w β bk).I)) m vs
 | [],[],[],_,_=>trivial
 | .one c::_,.one d::_,_::_,h,r=>⟨.inr (lendC_rep hv h.1 (repV_one r.1 (by intro e;subst e;exact h.1.elim))),args_lend hv h.2 r.2⟩
 | .agg c::_,.agg d::_,_::_,h,r=>by
  obtain⟨arr,e,hr⟩:=r.1
  exact⟨⟨arr,e,allC_lend hv h.1 hr⟩,args_lend hv h.2 r.2⟩
 | [],_::_,_,h,_=>h.elim
 | _::_,[],_,h,_=>h.elim
 | .one _::_,.agg _::_,_,h,_=>h.1.elim
 | .one _::_,.tup _::_,_,h,_=>h.1.elim
 | .agg _::_,.one _::_,_,h,_=>h.1.elim
 | .agg _::_,.tup _::_,_,h,_=>h.1.elim
 | .tup _::_,.one _::_,_,h,_=>h.1.elim
 | .tup _::_,.agg _::_,_,h,_=>h.1.elim
 | .tup _::_,.tup _::_,_,h,_=>h.1.elim
 | [],[],_::_,_,r=>r.elim
 | .one _::_,.one _::_,[],_,r=>r.elim
 | .agg _::_,.agg _::_,[],_,r=>r.elim
theorem unlendB {y:Cx} {w':World} {ob:Option Nat} {J:Nat→Prop} {id:Nat} (hJ:∀k,J k→y.I k) (hw:y.w=w') (hβ:y.β id=ob):∀{b:Blk},(b.setVer 0).lone=true→RepB (lentcx w' ob J) 0 (b.setVer 0)→RepB y id b
 | .dead _,h,_=>by simp[Blk.setVer,Blk.lone] at h
 | .var _ cs,h,⟨b,arr,e,h1,h2,h3⟩=>⟨b,arr,e,hβ.trans h1,by rw[hw];exact h2,All2.pure (x:=lentcx w' ob J) (y:=y) (fun k hk=>⟨hJ k hk,by rw[hw];rfl⟩) (by simpa [Blk.setVer,Blk.lone] using h) h3⟩
 | .arr _ t l,_,h=>h.imp (fun q=>⟨hβ.trans q.1,q.2⟩) fun⟨b,arr,e,h1,h2,h3⟩=>⟨b,arr,e,hβ.trans h1,by rw[hw];exact h2,fun i z hz=>by
  obtain⟨us,p1,p2⟩:=h3 i z hz
  exact⟨us,rep_mono (w':=y.w) (fun k hk=>⟨hJ k hk,by rw[hw];rfl⟩) _ _ _ p1,by rw[hw];exact p2⟩⟩
theorem pureR_rep {x y:Cx} (h:∀b,x.I b→y.I b∧y.w.heap[b]? =x.w.heap[b]?) {r:AV} {u:Value} (hp:r.all pureC=true) (hr:RepV x r u):RepV y r u:=by
 cases r with
 | one c=>exact hr.imp (fun q=>q) (pure_rep h hp)
 | agg cs=>obtain⟨arr,e,hr⟩:=hr;exact⟨arr,e,All2.pure h hp hr⟩
 | tup xs=>
  obtain⟨arr,e,hr⟩:=hr
  refine⟨arr,e,?_⟩
  have key:∀(xs:List (Bool×List AC)) (us:List Value),(xs.all fun x=>x.2.all pureC)=true→All2 (fun z q=>RepV1 x (mk1 z) q) xs us→All2 (fun z q=>RepV1 y (mk1 z) q) xs us:=by
   intro xs
   induction xs with
   | nil=>intro us _ hh;cases us <;> first | trivial | exact hh.elim
   | cons z xs ih=>
    intro us hz hh
    cases us with
    | nil=>exact hh.elim
    | cons q us=>
     simp only[List.all_cons,Bool.and_eq_true] at hz
     refine⟨?_,ih us hz.2 hh.2⟩
     obtain⟨g,cs⟩:=z
     have h3:=hh.1
     cases g with
     | true=>obtain⟨arr',e',hr'⟩:=h3;exact⟨arr',e',All2.pure h hz.1 hr'⟩
     | false=>
      cases cs with
      | nil=>exact Or.inl rfl
      | cons c cs=>
       simp only[List.all_cons,Bool.and_eq_true] at hz
       exact h3.imp (fun q=>q) (pure_rep h hz.1.1)
  exact key xs arr.toList hp hr
theorem gotC_pure {d v:Nat}:∀{c:AC},pureC c=true→gotC d v c=c
 | .own _ _ _,h=>by simp[pureC] at h
 | .junk,_=>rfl
 | .int _ _,_=>rfl
 | .bool _,_=>rfl
 | .fn _,_=>rfl
 | .nil,_=>rfl
 | .sl _ _,_=>rfl
 | .lsl _ _ _ _ _,_=>rfl
 | .csl _ _ _ _ _,_=>rfl
 | .lptr _ _ _,_=>rfl
 | .eptr _ _ _ _ _,_=>rfl
 | .pptr _ _ _,_=>rfl
 | .ub _,_=>rfl
theorem gotCs_pure {d v:Nat}:∀{cs:List AC},cs.all pureC=true→cs.map (gotC d v)=cs∧ownC d v cs=[]
 | [],_=>⟨rfl,rfl⟩
 | c::cs,h=>by
  simp only[List.all_cons,Bool.and_eq_true] at h
  obtain⟨h1,h2⟩:=gotCs_pure (d:=d) (v:=v) h.2
  refine⟨by rw[List.map_cons,gotC_pure h.1,h1],?_⟩
  cases c <;> first | exact h2 | simp[pureC] at h
theorem gotXs_pure {d v:Nat}:∀{xs:List (Bool×List AC)},(xs.all fun x=>x.2.all pureC)=true→(xs.map fun x=>(x.1,x.2.map (gotC d v)))=xs∧ownC d v (xs.flatMap (·.2))=[]
 | [],_=>⟨rfl,rfl⟩
 | x::xs,h=>by
  simp only[List.all_cons,Bool.and_eq_true] at h
  obtain⟨h1,h2⟩:=gotXs_pure (d:=d) (v:=v) h.2
  obtain⟨h3,h4⟩:=gotCs_pure (d:=d) (v:=v) h.1
  exact⟨by rw[List.map_cons,h3,h1],by rw[List.flatMap_cons,ownC_append,h4];exact h2⟩
theorem gotV_pure {d v:Nat} {r:AV} (h:r.all pureC=true):gotV d v r=r∧ownV d v r=[]:=by
 cases r with
 | one c=>exact⟨congrArg AV.one (gotC_pure h),(gotCs_pure (cs:=[c]) (by simpa [AV.all] using h)).2⟩
 | agg cs=>exact⟨congrArg AV.agg (gotCs_pure h).1,(gotCs_pure h).2⟩
 | tup xs=>exact⟨congrArg AV.tup (gotXs_pure h).1,(gotXs_pure h).2⟩
theorem sound_acall (o:Oper) {c:Call} {x:Operand} (ho:o.op= .call c) (hc:c.callee= .value x):Sound P (env P) TI o:=by
 intro w0 X β s a w S f h N Q hN
 simp only[aop,ho,hc] at h
 have hx:=ev_rep S.slots x
 have hargs:=args_rep (ev_rep S.slots) c.args.toList
 have hU:c.args.map a.eval=(c.args.toList.map a.eval).toArray:=Array.ext' (by simp)
 have hIlt:∀b,(cx X w β (nthb s.bk)).I b→b<w.heap.size:=fun b hb=>hb.1.1
 have hlt:∀b o,w.heap[b]? =some o→b<w.heap.size:=fun b o h=>by
  rcases Nat.lt_or_ge b w.heap.size with h' | h'
  ·exact h'
  ·simp[Array.getElem?_eq_none h'] at h
 have hβlt:∀k b,live (nthb s.bk) k→β k=some b→b<w.heap.size:=fun k b ⟨blk',hk,hl⟩ hb=>by
  have r:=S.blocks k blk' hk
  cases blk' with
  | dead _=>simp[Blk.live] at hl
  | var _ _=>obtain⟨b',arr,e,h1,h2,_⟩:=r;obtain rfl:b=b':=Option.some.inj (hb.symm.trans h1);exact hlt b _ h2
  | arr _ _ _=>
   rcases r with⟨h1,_⟩ |⟨b',arr,e,h1,h2,_⟩
   ·exact absurd (hb.symm.trans h1) (by simp)
   ·obtain rfl:b=b':=Option.some.inj (hb.symm.trans h1);exact hlt b _ h2
 split at h
 case h_2=>exact h.elim
 rename_i g he
 rw[he] at hx
 have hx':a.eval x= .func (.func g) #[] #[]:=repV_one hx (by simp)
 have after:∀(fl:Bool) (r:AV) (rd:List Nat) (J:Nat→Prop),(∀b,J b→fl=false→(cx X w β (nthb s.bk)).I b)→Callee P g→(r.all pureR=true∧r.wf=true)→
   Calls P g (c.args.map a.eval) w (fun e w'=>∃u bo,e= .returned u∧Below w.heap.size w w'∧RepRV (nocx w' fun b=>((fl=false∧J b)∨w.heap.size≤b)∧b<w'.heap.size∧bo≠some b) w.heap.size bo r u)→
   f=⟨gotV (dstOf o) (ver (nthb s.bk) (dstOf o)+1) r,ownV (dstOf o) (ver (nthb s.bk) (dstOf o)+1) r,rd⟩→o.wp P a w N Q:=by
  intro fl r rd J hJ hcal hpr hcalls hf
  have hA:∀b,((fl=false∧J b)∨w.heap.size≤b)→X.A b:=fun b hb=>hb.elim (fun q=>(hJ b q.2 q.1).2) fun q=>S.fresh b (Nat.le_trans S.size q)
  subst hf
  refine wp_call ho hc hx' hcal hcalls fun e w' ⟨u,bo,he,hb,hr⟩=>⟨u,he,?_⟩
  have hget:∀b,b<w.heap.size→w'.heap[b]? =w.heap[b]? :=hb.block
  by_cases hid:dstOf o<s.bk.length
  ·rcases ownV_spec (dstOf o) (ver (nthb s.bk) (dstOf o)+1) hpr.2 hr with h0 |⟨t,l,u',h0,h1⟩
   ·rw[h0] at hN
    have hno:∀{y:Cx},y.w=w'→(∀b,(nocx w' fun b=>((fl=false∧J b)∨w.heap.size≤b)∧b<w'.heap.size∧bo≠some b).I b→y.I b)→RepV y (gotV (dstOf o) (ver (nthb s.bk) (dstOf o)+1) r) u:=by
     intro y hw hI
     exact gotV_none h0 hpr (fun b hb=>⟨hI b hb,by rw[hw];rfl⟩) hr
    refine hN β _ w' (S.ext hget hb.size hb.os hb.tape hb.output (hno rfl fun b hb'=>⟨⟨hb'.2.1,fun k hk hk'=>?_⟩,hA b hb'.1⟩))
    rcases hb'.1 with⟨e1,e2⟩ | e1
    ·exact (hJ b e2 e1).1.2 k hk hk'
    ·have:=hβlt k b hk hk';omega
   ·rw[h0] at hN
    obtain⟨base,cap,e,k1,k2,hll,k3⟩:=h1
    have hI2:∀b,(((fl=false∧J b)∨w.heap.size≤b)∧b<w'.heap.size∧bo≠some b)→
      (cx X w' (fun k=>if k=dstOf o then bo else β k) (nthb (setn s.bk (dstOf o) (some (.arr (ver (nthb s.bk) (dstOf o)+1) t l))))).I b∧w'.heap[b]? =w'.heap[b]? :=
     fun b hb'=>⟨⟨⟨hb'.2.1,fun k hk hk'=>notOwned hid hb'.1 hb'.2.2 hJ hβlt hk hk'⟩,hA b hb'.1⟩,rfl⟩
    refine hN (fun k=>if k=dstOf o then bo else β k) _ w' (S.write hid hll (fun k hk=>by simp[hk]) (by simp[Blk.ver]) (fun e=>by simp[Blk.ver] at e) (fun b hb' _=>hget b hb') hb.size
     (fun b arr e hh=>⟨arr,(hget b (hlt b _ hh)).trans hh,rfl⟩) hb.os hb.tape hb.output (fun _ b hb'=> .inr ?_) (fun hle=>?_) (fun hle=>?_))
    ·simp at hb'
     rcases k3 with⟨q1,_⟩ |⟨b',arr,e',q1,q2,_⟩
     ·rw[q1] at hb';cases hb'
     ·rw[q1] at hb';obtain rfl:=Option.some.inj hb';exact q2
    ·rcases k3 with⟨q1,q2,_⟩ |⟨b',arr,e',q1,q2,q3,q4,q5,q6⟩
     ·exact Or.inl ⟨by show (if dstOf o=dstOf o then _ else _)=_;simp[q1],q2⟩
     ·refine Or.inr ⟨b',arr,e',by show (if dstOf o=dstOf o then _ else _)=_;simp[q1],q4,fun i y hy=>?_⟩
      obtain⟨us,p1,p2⟩:=q6 i y hy
      exact⟨us,rep_mono (w':=w') hI2 _ _ _ p1,p2⟩
    ·refine gotV_rep (x:=nocx w' fun b=>((fl=false∧J b)∨w.heap.size≤b)∧b<w'.heap.size∧bo≠some b) (lo:=w.heap.size) (bo:=bo) hI2 rfl ?_ ?_ hpr.1 hr
     ·show _≤ver _ (dstOf o);rw[ver_set _ _ _ hid,if_pos rfl];simp[Blk.ver]
     ·intro _;show (if dstOf o=dstOf o then _ else _)=_;simp
  ·have h9:s.bk.length≤dstOf o:=Nat.le_of_not_lt hid
   have hs2:s.app o.dst ⟨gotV (dstOf o) (ver (nthb s.bk) (dstOf o)+1) r,ownV (dstOf o) (ver (nthb s.bk) (dstOf o)+1) r,rd⟩=s.app none ⟨.one .junk,[],rd⟩:=by
    have e1:∀v,putD s.sl o.dst v=s.sl:=fun v=>by
     cases hd:o.dst with
     | none=>rfl
     | some q=>simp[dstOf,hd] at h9;simp[putD,setn_ge s.sl q v (by rw[S.len,←S.lenb];exact h9)]
    have e2:putWs (ownV (dstOf o) (ver (nthb s.bk) (dstOf o)+1) r) s.bk=s.bk:=by
     rcases ownV_spec (dstOf o) (ver (nthb s.bk) (dstOf o)+1) hpr.2 hr with h0 |⟨t,l,u',h0,_⟩
     ·rw[h0];rfl
     ·rw[h0];simp[putWs,setn_ge _ _ _ h9]
    simp only[St.app,e1,e2];rfl
   have ha:a.put o.dst u=a.put none undef:=by
    cases hd:o.dst with
    | none=>rfl
    | some q=>
     simp[dstOf,hd] at h9
     have:a.tmps.size≤q:=by rw[←S.lenb];exact h9
     simp[Act.put,Array.setIfInBounds_eq_of_size_le this]
   rw[ha]
   exact hN β _ w' (by rw[hs2];exact S.ext hget hb.size hb.os hb.tape hb.output (repV_junk _ _))
 rcases h with⟨args',r,h1,h2,h⟩ |⟨args',r,h1,h2,h⟩ | h |⟨id,blk,args',r,h1,h2,h⟩ |⟨id,blk,args',r,h1,h2,h⟩
 ·obtain⟨hcal,hpr,hc2⟩:=h2 ()
  have:=hc2 w (cx X w β (nthb s.bk)).I (c.args.toList.map a.eval) hIlt (args_le (x:=cx X w β (nthb s.bk)) (y:=nocx w (cx X w β (nthb s.bk)).I) (fun b hb=>⟨hb,rfl⟩) (h1 ()) hargs)
  exact after false r _ _ (fun b hb _=>hb) hcal hpr (by rw[hU];exact this) h.symm
 ·obtain⟨hcal,hpr,hc2⟩:=h2 ()
  have:=hc2 w (fun b=>b<w.heap.size) (c.args.toList.map a.eval) (fun b hb=>hb) (args_snap S (fun b hb=>hb.1.1) (fun _ _ _ _ _ h=>h) (h1 ()) hargs)
  exact after true r _ (fun b=>b<w.heap.size) (fun b _ e=>by cases e) hcal hpr (by rw[hU];exact this) h.symm
 ·generalize hA:c.args.toList.map (ev s.sl)=A at h hargs
  generalize hV:c.args.toList.map a.eval=V at hargs hU
  split at h
  case h_2=>exact h.elim
  rename_i c0 rest
  split at h
  case h_2=>exact h.elim
  rename_i id vv hrf
  split at h
  case h_2=>exact h.elim
  rename_i blk hb
  split at h
  case isFalse=>exact h.elim
  rename_i hver
  obtain⟨args',r,b1,h1,h2,h⟩:=h
  obtain⟨hni,h1⟩:=h1 ()
  obtain⟨h2,hfl,hlf⟩:=h2 ()
  obtain⟨hcal,⟨hl1,hl2,hl3,hl4⟩,hc2⟩:=h2
  match V,hargs with
  | v0::vs,⟨hr0,hrs⟩=>
  have hvv:vv=ver (nthb s.bk) id:=by rw[ver_of hb];exact hver.symm
  have hid:id<s.bk.length:=by
   rcases Nat.lt_or_ge id s.bk.length with h9 | h9
   ·exact h9
   ·rw[nthb_ge _ _ h9] at hb;cases hb
  have hlive:live (nthb s.bk) id:=by
   refine⟨blk,hb,?_⟩
   cases blk <;> simp_all [Blk.live,Blk.lone,Blk.setVer]
  have hI0:∀b,(cx X w β (nthb s.bk)).I b→(b<w.heap.size∧β id≠some b)∧w.heap[b]? =w.heap[b]? :=fun b hb=>⟨⟨hb.1.1,hb.1.2 id hlive⟩,rfl⟩
  have hc0:RepC (lentcx w (β id) fun b=>b<w.heap.size∧β id≠some b) (renC 0 0 c0) v0:=lent_rep hvv hrf (repV_one hr0 (by intro e;subst e;cases hrf))
  have hb0:RepB (lentcx w (β id) fun b=>b<w.heap.size∧β id≠some b) 0 (blk.setVer 0):=lentB_rep hI0 hl3 (S.blocks id blk hb)
  have hcalls:=hc2 w (fun b=>b<w.heap.size∧β id≠some b) (β id) v0 vs (fun b hb=>hb) hc0 hb0 (by have:=S.lens id blk hb;cases blk <;> simpa [Blk.short,Blk.setVer] using this)
   (args_snap S (fun b hb=>(hI0 b hb).1) (fun id' b hid' hl' hb' hlt'=>⟨hlt',fun e=>hni (S.inj id' id b hl' hlive hb' e ▸ hid')⟩) h1 hrs)
  subst h
  rw[←hU] at hcalls
  refine wp_call ho hc hx' hcal hcalls fun e w' hh=>?_
  obtain⟨u,he,⟨p1,p2,p3,p4,p5⟩,p6,p7,p8,p9⟩:=hh
  refine⟨u,he,?_⟩
  have hb1v:(b1.setVer vv).ver=vv:=by cases b1 <;> rfl
  refine hN β _ w' (S.write hid (by cases b1 <;> simpa [Blk.short,Blk.setVer] using p9) (fun _ _=>rfl) (by rw[hb1v];omega) (fun _=>⟨rfl,fun _=>hlive⟩) (fun b hb' hne=>p5 b hb' (hne hlive)) p4 (fun b arr e hh=>?_) p1 p2 p3 (fun _ b hb'=> .inl ⟨hb',hlive⟩) (fun _=>?_) (fun _=>?_))
  ·by_cases hbb:β id=some b
   ·exact p6 b arr e hbb hh
   ·exact⟨arr,(p5 b (hlt b _ hh) hbb).trans hh,rfl⟩
  ·exact unlentB_rep rfl hfl p8
  ·refine unlentV_rep rfl ?_ hlf p7
   show vv=ver _ id
   rw[ver_set _ _ _ hid,if_pos rfl,hb1v]
 ·obtain⟨hb,hle⟩:=h1 ()
  obtain⟨hcal,⟨hp,hlone⟩,hc2⟩:=h2 ()
  have hid:id<s.bk.length:=by
   rcases Nat.lt_or_ge id s.bk.length with h9 | h9
   ·exact h9
   ·rw[nthb_ge _ _ h9] at hb;cases hb
  have hlive:live (nthb s.bk) id:=by
   refine⟨blk,hb,?_⟩
   cases blk <;> simp_all [Blk.live,Blk.lone,Blk.setVer]
  have hvb:blk.ver=ver (nthb s.bk) id:=(ver_of hb).symm
  have hI0:∀b,(cx X w β (nthb s.bk)).I b→(cx X w β (nthb s.bk)).I b∧w.heap[b]? =w.heap[b]? :=fun b hb=>⟨hb,rfl⟩
  have hb0:RepB (lentcx w (β id) (cx X w β (nthb s.bk)).I) 0 (blk.setVer 0):=lentB_rep hI0 hlone (S.blocks id blk hb)
  have hcalls:=hc2 w (cx X w β (nthb s.bk)).I (β id) (c.args.toList.map a.eval) (fun b hb=>⟨hb.1.1,fun e=>hb.1.2 id hlive e⟩) hb0
   (by have:=S.lens id blk hb;cases blk <;> simpa [Blk.short,Blk.setVer] using this) (args_lend hvb hle hargs)
  subst h
  have heq:s.app o.dst ⟨r,[],[id]⟩=s.app o.dst ⟨r,[(id,blk)],[id]⟩:=by
   unfold St.app
   simp only[putWs,setn_self _ _ _ hb]
  rw[heq] at hN
  rw[←hU] at hcalls
  refine wp_call ho hc hx' hcal hcalls fun e w' hh=>?_
  obtain⟨u,he,⟨p1,p2,p3,p4,p5⟩,p6,p7,p8⟩:=hh
  refine⟨u,he,?_⟩
  have hJ:∀k,(((cx X w β (nthb s.bk)).I k∨w.heap.size≤k)∧k<w'.heap.size∧β id≠some k)→(cx X w' β (nthb (setn s.bk id (some blk)))).I k:=fun k hk=>by
   have hself:∀j,live (nthb (setn s.bk id (some blk))) j→live (nthb s.bk) j:=fun j hj=>by
    rw[live_set _ _ _ hid] at hj
    by_cases h:j=id
    ·subst h;exact hlive
    ·rw[if_neg h] at hj;exact hj
   rcases hk.1 with h | h
   ·exact⟨⟨hk.2.1,fun j hj=>h.1.2 j (hself j hj)⟩,h.2⟩
   ·refine⟨⟨hk.2.1,fun j hj e=>?_⟩,S.fresh k (Nat.le_trans S.size h)⟩
    have:=hβlt j k (hself j hj) e
    omega
  refine hN β _ w' (S.write hid (S.lens id blk hb) (fun _ _=>rfl) (Nat.le_of_eq hvb.symm) (fun _=>⟨rfl,fun _=>hlive⟩) (fun b hb' hne=>p5 b hb' (hne hlive)) p4 (fun b arr e hh=>?_) p1 p2 p3 (fun _ b hb'=> .inl ⟨hb',hlive⟩) (fun _=>?_) (fun _=>?_))
  ·by_cases hbb:β id=some b
   ·exact p6 b arr e hbb hh
   ·exact⟨arr,(p5 b (hlt b _ hh) hbb).trans hh,rfl⟩
  ·exact unlendB hJ rfl rfl hlone p8
  ·exact pureR_rep (x:=lentcx w' (β id) fun k=>((cx X w β (nthb s.bk)).I k∨w.heap.size≤k)∧k<w'.heap.size∧β id≠some k) (y:=cx X w' β (nthb (setn s.bk id (some blk)))) (fun k hk=>⟨hJ k hk,rfl⟩) hp p7
 ·obtain⟨⟨h0,hb,hall⟩,hsn⟩:=h1 ()
  obtain⟨⟨hcal,hpr,hc2⟩,hpc⟩:=h2 ()
  have hid:id<s.bk.length:=by
   rcases Nat.lt_or_ge id s.bk.length with h9 | h9
   ·exact h9
   ·rw[nthb_ge _ _ h9] at hb;cases hb
  have hvb:blk.ver=ver (nthb s.bk) id:=(ver_of hb).symm
  have hlv:∀k,live (nthb (setn s.bk id (some (.dead blk.ver)))) k→k≠id∧live (nthb s.bk) k:=fun k hk=>by
   rw[live_set _ _ _ hid] at hk
   by_cases h:k=id
   ·rw[if_pos h] at hk;cases hk
   ·rw[if_neg h] at hk;exact⟨h,hk⟩
  have hcalls:=hc2 w (cx X w β (nthb (setn s.bk id (some (.dead blk.ver))))).I (c.args.toList.map a.eval) (fun b hb'=>hb'.1.1)
   (args_snap S (fun b hb'=>⟨⟨hb'.1.1,fun k hk=>hb'.1.2 k (hlv k hk).2⟩,hb'.2⟩) (fun id' b hid' hl' hb' hlt'=>by
    have e:id'=id:=by simpa using List.all_eq_true.1 hall id' hid'
    subst e
    refine⟨⟨hlt',fun k hk e=>(hlv k hk).1 (S.inj k id' b (hlv k hk).2 hl' e hb')⟩,?_⟩
    rcases S.own id' b hl' hb' with h9 | h9
    ·exact S.fresh b h9
    ·exact absurd h9.2 h0) hsn hargs)
  subst h
  rw[←hU] at hcalls
  refine wp_call ho hc hx' hcal hcalls fun e w' hh=>?_
  obtain⟨u,bo,he,hbel,hr⟩:=hh
  refine⟨u,he,?_⟩
  have hget:∀b,b<w.heap.size→w'.heap[b]? =w.heap[b]? :=hbel.block
  refine hN β _ w' (S.write hid trivial (fun _ _=>rfl) (Nat.le_of_eq hvb.symm) (fun _=>⟨rfl,fun e=>by cases e⟩) (fun b hb' _=>hget b hb') hbel.size (fun b arr e hh=>⟨arr,(hget b (hlt b _ hh)).trans hh,rfl⟩) hbel.os hbel.tape hbel.output
   (fun e=>by cases e) (fun _=>trivial) (fun _=>?_))
  have hJ:∀b,(((false=false∧(cx X w β (nthb (setn s.bk id (some (.dead blk.ver))))).I b)∨w.heap.size≤b)∧b<w'.heap.size∧bo≠some b)→(cx X w' β (nthb (setn s.bk id (some (.dead blk.ver))))).I b∧w'.heap[b]? =w'.heap[b]? :=fun b hb'=>by
   obtain⟨q1,q2,_⟩:=hb'
   rcases q1 with⟨_,q1⟩ | q1
   ·exact⟨⟨⟨q2,q1.1.2⟩,q1.2⟩,rfl⟩
   ·refine⟨⟨⟨q2,fun k hk e=>?_⟩,S.fresh b (Nat.le_trans S.size q1)⟩,rfl⟩
    have:=hβlt k b (hlv k hk).2 e
    omega
  have hg:=gotV_none (x:=nocx w' fun b=>((false=false∧(cx X w β (nthb (setn s.bk id (some (.dead blk.ver))))).I b)∨w.heap.size≤b)∧b<w'.heap.size∧bo≠some b) (y:=cx X w' β (nthb (setn s.bk id (some (.dead blk.ver))))) (gotV_pure (d:=0) (v:=0) hpc).2 hpr hJ hr
  rw[(gotV_pure (d:=0) (v:=0) hpc).1] at hg;exact hg
end
end Go.Abs
