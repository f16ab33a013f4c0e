/- Part 13 of a proof. Conditions: each theorem's own. -/
import Derived.Test.YtpccjlcpbehglaaGreatPk11
set_option linter.all false
set_option maxHeartbeats 8000000
namespace Go.Abs
open Go.RowKit
section
variable {P:Program} {TI:TypeId→Info}
theorem lentF_C:∀{c:AC},lentF c=true→lentC c=true
 | .int _ _,_=>rfl
 | .bool _,_=>rfl
 | .fn _,_=>rfl
 | .nil,_=>rfl
 | .lsl _ 0 0 _ _,_=>rfl
 | .lsl _ (_+1) _ _ _,h=>by simp[lentF] at h
 | .lsl _ 0 (_+1) _ _,h=>by simp[lentF] at h
 | .junk,h=>by simp[lentF] at h
 | .sl _ _,h=>by simp[lentF] at h
 | .csl _ _ _ _ _,h=>by simp[lentF] at h
 | .lptr _ _ _,h=>by simp[lentF] at h
 | .eptr _ _ _ _ _,h=>by simp[lentF] at h
 | .pptr _ _ _,h=>by simp[lentF] at h
 | .ub _,h=>by simp[lentF] at h
 | .own _ _ _,h=>by simp[lentF] at h
theorem repR_lent {y:Cx} {lo:Nat} {bo:Option Nat}:∀{c:AC} {v:Value},lentF c=true→RepR y lo bo c v→RepC y c v
 | .int _ _,_,_,r=>r
 | .bool _,_,_,r=>r
 | .fn _,_,_,r=>r
 | .nil,_,_,r=>r
 | .lsl _ _ _ _ _,_,_,r=>r
 | .junk,_,h,_=>by simp[lentF] at h
 | .sl _ _,_,h,_=>by simp[lentF] at h
 | .csl _ _ _ _ _,_,h,_=>by simp[lentF] at h
 | .lptr _ _ _,_,h,_=>by simp[lentF] at h
 | .eptr _ _ _ _ _,_,h,_=>by simp[lentF] at h
 | .pptr _ _ _,_,h,_=>by simp[lentF] at h
 | .ub _,_,h,_=>by simp[lentF] at h
 | .own _ _ _,_,h,_=>by simp[lentF] at h
theorem All2.repR_lent {y:Cx} {lo:Nat} {bo:Option Nat}:∀{cs:List AC} {vs:List Value},cs.all lentF=true→All2 (RepR y lo bo) cs vs→All2 (RepC y) cs vs
 | [],[],_,_=>trivial
 | _::_,_::_,e,r=>by simp only[List.all_cons,Bool.and_eq_true] at e;exact⟨Abs.repR_lent e.1 r.1,All2.repR_lent e.2 r.2⟩
 | [],_::_,_,r=>r.elim
 | _::_,[],_,r=>r.elim
theorem repR1_lent {y:Cx} {lo:Nat} {bo:Option Nat} {r:AV} {v:Value} (h:r.all lentF=true) (hr:RepR1 y lo bo r v):RepV1 y r v:=by
 cases r with
 | one c=>exact hr.imp (fun q=>q) (repR_lent h)
 | agg cs=>obtain⟨arr,e,hr⟩:=hr;exact⟨arr,e,All2.repR_lent h hr⟩
 | tup _=>exact hr.elim
theorem repRV_lent {y:Cx} {lo:Nat} {bo:Option Nat} {r:AV} {v:Value} (h:r.all lentF=true) (hr:RepRV y lo bo r v):RepV y r v:=by
 cases r with
 | one c=>exact repR1_lent h hr
 | agg cs=>exact repR1_lent h hr
 | tup xs=>
  obtain⟨arr,e,hr⟩:=hr
  refine⟨arr,e,?_⟩
  have key:∀(xs:List (Bool×List AC)) (us:List Value),(xs.all fun x=>x.2.all lentF)=true→All2 (fun z q=>RepR1 y lo bo (mk1 z) q) xs us→All2 (fun z q=>RepV1 y (mk1 z) q) xs us:=by
   intro xs
   induction xs with
   | nil=>intro us _ hh;cases us <;> first | trivial | exact hh.elim
   | cons z xs ih=>
    intro us hz hh
    cases us with
    | nil=>exact hh.elim
    | cons q us=>
     simp only[List.all_cons,Bool.and_eq_true] at hz
     refine⟨?_,ih us hz.2 hh.2⟩
     obtain⟨g,cs⟩:=z
     have h3:=hh.1
     cases g with
     | true=>exact repR1_lent (r:= .agg cs) hz.1 h3
     | false=>
      cases cs with
      | nil=>exact Or.inl rfl
      | cons c cs=>
       simp only[List.all_cons,Bool.and_eq_true] at hz
       exact repR1_lent (r:= .one c) hz.1.1 h3
  exact key xs arr.toList h hr
theorem resC_lent {w0:World} {X:WX} {β:Nat→Option Nat} {s:St} {a:Act} {w:World} {J:Nat→Prop} {lo:Nat} {bo:Option Nat} (S:SimB w0 X β s a w) (hv:ver (nthb s.bk) 0=0) (hβ:β 0=X.ob) {c d:AC} {v:Value} (hd:lentF d=true) (h:resC (nthb s.bk) c d)
  (r:RepC (cx X w β (nthb s.bk)) c v):RepR (lentcx w X.ob J) lo bo d v:=by
 cases c with
 | lsl t id ver' off len=>
  rcases h with⟨l,h1,h2,rfl⟩ |⟨l,n,_,_,_,_,_,rfl⟩ |⟨rfl,rfl,rfl⟩
  ·simp[lentF] at hd
  ·simp[lentF] at hd
  ·refine⟨⟨r.1.1,Nat.le_refl _⟩,fun _=>?_⟩
   have:=r.2 hv.symm
   show LslAt w X.ob _ _ _ _ _
   rw[←hβ];exact this
 | nil=>
  rcases h with rfl |⟨t,rfl⟩ |⟨t,rfl⟩
  ·exact r
  ·simp[lentF] at hd
  ·simp[lentF] at hd
 | int k n=>rw[show d=_ from h];exact r
 | bool b=>rw[show d=_ from h];exact r
 | fn f=>rw[show d=_ from h];exact r
 | sl t l=>rw[show d=_ from h] at hd;simp[lentF] at hd
 | _=>exact h.elim
theorem res_lent {w0:World} {X:WX} {β:Nat→Option Nat} {s:St} {a:Act} {w:World} {J:Nat→Prop} {lo:Nat} {bo:Option Nat} (S:SimB w0 X β s a w) (hv:ver (nthb s.bk) 0=0) (hβ:β 0=X.ob):∀{cs ds:List AC} {vs:List Value},ds.all lentF=true→allC (resC (nthb s.bk)) cs ds→
  All2 (RepC (cx X w β (nthb s.bk))) cs vs→All2 (RepR (lentcx w X.ob J) lo bo) ds vs
 | [],[],[],_,_,_=>trivial
 | _::_,_::_,_::_,h1,h3,h5=>by
  simp only[List.all_cons,Bool.and_eq_true] at h1
  exact⟨resC_lent S hv hβ h1.1 h3.1 h5.1,res_lent S hv hβ h1.2 h3.2 h5.2⟩
 | [],[],_::_,_,_,h=>h.elim
 | _::_,_::_,[],_,_,h=>h.elim
 | [],_::_,_,_,h,_=>h.elim
 | _::_,[],_,_,h,_=>h.elim
theorem lent_start {x y:Cx} (h:∀b,x.I b→y.I b∧y.w.heap[b]? =x.w.heap[b]?) (hw:y.w=x.w) (hx:x.cv 0=0) (hy:y.cv 0=0) (hβ:y.β 0=x.β 0):∀{c:AC} {v:Value},lentC c=true→RepC x c v→RepC y c v
 | .lsl t i v off len,_,e,r=>by
  match i,v,e,r with
  | 0,0,_,r=>exact⟨⟨r.1.1,Nat.zero_le _⟩,fun _=>by rw[hw,hβ];exact r.2 hx.symm⟩
  | 0,_+1,h,_=>simp[lentC,pureC] at h
  | _+1,_,h,_=>simp[lentC,pureC] at h
 | .lptr i v off,_,e,r=>by
  match i,v,e,r with
  | 0,0,_,r=>exact⟨⟨r.1.1,Nat.zero_le _⟩,fun _=>by rw[hβ];exact r.2 hx.symm⟩
  | 0,_+1,h,_=>simp[lentC,pureC] at h
  | _+1,_,h,_=>simp[lentC,pureC] at h
 | .junk,_,_,r=>r
 | .int _ _,_,_,r=>r
 | .bool _,_,_,r=>r
 | .fn _,_,_,r=>r
 | .nil,_,_,r=>r
 | .sl _ _,_,_,r=>rep_mono h _ _ _ r
 | .csl _ _ _ _ _,_,e,_=>by simp[lentC,pureC] at e
 | .eptr _ _ _ _ _,_,e,_=>by simp[lentC,pureC] at e
 | .pptr _ _ _,_,e,_=>by simp[lentC,pureC] at e
 | .ub _,_,e,_=>by simp[lentC,pureC] at e
 | .own _ _ _,_,e,_=>by simp[lentC,pureC] at e
theorem lone_rep {x y:Cx} (h:∀b,x.I b→y.I b∧y.w.heap[b]? =x.w.heap[b]?) (hw:y.w=x.w) (hβ:y.β 0=x.β 0):∀{b:Blk},b.lone=true→RepB x 0 b→RepB y 0 b
 | .dead _,_,_=>trivial
 | .var _ cs,e,⟨b,arr,ty,h1,h2,h3⟩=>⟨b,arr,ty,hβ.trans h1,by rw[hw];exact h2,All2.pure h (by simp only[Blk.lone,Bool.and_eq_true] at e;exact e.2) h3⟩
 | .arr _ t l,_,r=>r.imp (fun q=>⟨hβ.trans q.1,q.2⟩) fun⟨b,arr,ty,h1,h2,h3⟩=>⟨b,arr,ty,hβ.trans h1,by rw[hw];exact h2,fun i y' hy=>by
  obtain⟨us,p1,p2⟩:=h3 i y' hy
  exact⟨us,rep_mono h _ _ _ p1,by rw[hw];exact p2⟩⟩
theorem resCs_flat {bk:Nat→Option Blk}:∀{l m:List (Bool×List AC)},resCs bk l m→allC (resC bk) (l.flatMap (·.2)) (m.flatMap (·.2)):=by
 have app:∀{l m l' m':List AC},allC (resC bk) l m→allC (resC bk) l' m'→allC (resC bk) (l++l') (m++m'):=by
  intro l
  induction l with
  | nil=>intro m l' m' h h';cases m <;> first | exact h' | exact h.elim
  | cons x l ih=>intro m l' m' h h';cases m with
   | nil=>exact h.elim
   | cons y m=>exact⟨h.1,ih h.2 h'⟩
 intro l
 induction l with
 | nil=>intro m h;cases m <;> first | trivial | exact h.elim
 | cons x l ih=>intro m h;cases m with
  | nil=>exact h.elim
  | cons y m=>rw[List.flatMap_cons,List.flatMap_cons];exact app h.1.2 (ih h.2)
theorem comps_flat {r:AV} {p:AC→Bool} (h:r.all p=true):(r.comps.flatMap (·.2)).all p=true:=by
 cases r with
 | one c=>simpa [AV.comps,AV.comp,AV.all] using h
 | agg cs=>simpa [AV.comps,AV.comp,AV.all] using h
 | tup xs=>simp only[AV.comps,List.all_flatMap];exact h
theorem all_mono {p q:AC→Bool} (h:∀c,p c=true→q c=true) {r:AV} (hr:r.all p=true):r.all q=true:=by
 have l:∀{cs:List AC},cs.all p=true→cs.all q=true:=fun {cs} hc=>by rw[List.all_eq_true] at hc ⊢;exact fun x hx=>h x (hc x hx)
 cases r with
 | one c=>exact h c hr
 | agg cs=>exact l hr
 | tup xs=>simp only[AV.all] at hr ⊢;rw[List.all_eq_true] at hr ⊢;exact fun x hx=>l (hr x hx)
theorem bcall_of_awp {f:FuncId} {n:Nat} {c:Code} {rs:List ResultVar} (F:Fn P TI f n c rs) {c0:AC} {b0 b1:Blk} {args:List AV} {r:AV} (hp:pureArgs args=true) (hr:r.all lentF=true) (hl:lentC c0=true∧b0.lone=true∧b1.lone=true) (hn:args.length<n)
  (h:awp (env P) TI n c (post TI rs r (some b1)) (st0 n (.one c0::args) (some b0))):BCall P f c0 b0 args r b1:=by
 obtain⟨fn,hf,hname,hb,hnt,hrs⟩:=F.get
 refine⟨⟨fn,c,hf,hname,hb⟩,⟨all_mono (fun _=>lentF_C) hr,hl⟩,fun w I ob v0 vs hI hc0 hb0 hsh hargs=>?_⟩
 refine calls_of_wp hf hb ?_
 obtain⟨n',rfl⟩:∃n',n=n'+1:=⟨n-1,by omega⟩
 have b0v:b0.ver=0:=by have:=hl.2.1;cases b0 <;> simp_all [Blk.lone,Blk.ver]
 have b1v:b1.ver=0:=by have:=hl.2.2;cases b1 <;> simp_all [Blk.lone,Blk.ver]
 have b1l:b1.live=true:=by have:=hl.2.2;cases b1 <;> simp_all [Blk.lone,Blk.live]
 have hI':∀b,I b→(cx ⟨fun b=>ob=some b,fun b=>I b∨w.heap.size≤b,ob⟩ w (β0 ob) (nthb (st0 (n'+1) (.one c0::args) (some b0)).bk)).I b∧w.heap[b]? =w.heap[b]? :=fun b hb=>
  ⟨⟨⟨(hI b hb).1,fun id _ e=>by
   unfold β0 at e
   split at e
   ·exact (hI b hb).2 e
   ·cases e⟩,.inl hb⟩,rfl⟩
 have hver:ver (nthb (st0 (n'+1) (.one c0::args) (some b0)).bk) 0=0:=b0v
 have S0:SimB w ⟨fun b=>ob=some b,fun b=>I b∨w.heap.size≤b,ob⟩ (β0 ob) (st0 (n'+1) (.one c0::args) (some b0)) {tmps:=(v0::vs).toArray++Array.replicate (n'+1-(v0::vs).toArray.size) undef,defers:=[]} w:=
  SimB.start (X:=⟨fun b=>ob=some b,fun b=>I b∨w.heap.size≤b,ob⟩) (by simp;omega) (fun _ e=>e) (fun b hb=> .inr hb) (fun b e=>by cases e;exact⟨b0v,hsh,by omega⟩)
   ⟨.inr (lent_start (x:=lentcx w ob I) hI' rfl rfl hver rfl hl.1 hc0),pureV_rep (x:=nocx w I) hI' hp hargs⟩
   (fun b e=>by cases e;exact lone_rep (x:=lentcx w ob I) hI' rfl rfl hl.2.1 hb0)
 rw[hnt]
 refine wp_mono (awp_sound F.mixed (fun o ho=>sound_op F.ty o ho) F.dst (by simp[st0,len_reps];omega) S0 h) fun e a' w' he=>?_
 obtain⟨x,s',β',rfl,hq,_,S⟩:=he
 have fin:post TI rs r (some b1) x s'→(∀i,x≠ .exit i)→a'.defers=[]∧∃v,(results fn a'.tmps).run P w'= .ok v w'∧∃u,Ending.returned v= .returned u∧
   (w'.os=w.os∧w'.tape=w.tape∧w'.output=w.output∧w.heap.size≤w'.heap.size∧∀k,k<w.heap.size→ob≠some k→w'.heap[k]? =w.heap[k]?)∧
   (∀(b:Nat) arr e,ob=some b→w.heap[b]? =some (.cells arr e (0,0))→∃arr',w'.heap[b]? =some (.cells arr' e (0,0))∧arr'.size=arr.size)∧
   RepV (lentcx w' ob fun k=>(I k∨w.heap.size≤k)∧k<w'.heap.size∧ob≠some k) r u∧
   RepB (lentcx w' ob fun k=>(I k∨w.heap.size≤k)∧k<w'.heap.size∧ob≠some k) 0 b1∧b1.short:=by
  intro hq hx
  refine⟨S.defers,?_⟩
  have hq':∃xs,resVars TI s' rs=some xs∧(resCs (nthb s'.bk) xs r.comps∧oneOwn xs r.comps=true∧(rs.length=1↔∀ys,r≠ .tup ys))∧nthb s'.bk 0=some b1:=by
   unfold post at hq
   split at hq
   ·exact absurd rfl (hx _)
   ·split at hq
    ·rename_i xs hxs
     exact⟨xs,hxs,hq.1 (),hq.2 ()⟩
    ·exact hq.elim
  obtain⟨xs,h1,⟨h2,h3,h4⟩,h5⟩:=hq'
  obtain⟨us,ws,k1,k2,k3⟩:=resVars_run F.ty S h1 h2
  have hv0:ver (nthb s'.bk) 0=0:=by rw[ver_of h5];exact b1v
  have hlv:live (nthb s'.bk) 0:=⟨_,h5,b1l⟩
  obtain⟨hβ,hsz⟩:=S.hist hlv hv0
  have hJ:∀b,(cx ⟨fun b=>ob=some b,fun b=>I b∨w.heap.size≤b,ob⟩ w' β' (nthb s'.bk)).I b→(lentcx w' ob fun k=>(I k∨w.heap.size≤k)∧k<w'.heap.size∧ob≠some k).I b∧w'.heap[b]? =w'.heap[b]? :=
   fun b hb=>⟨⟨hb.2,hb.1.1,fun e=>hb.1.2 0 hlv (hβ.trans e)⟩,rfl⟩
  have g1:=res_lent (J:=fun k=>(I k∨w.heap.size≤k)∧k<w'.heap.size∧ob≠some k) (lo:=0) (bo:=none) S hv0 hβ (comps_flat hr) (resCs_flat h2) k2
  have hlen:us.length=rs.length:=k1.length.symm
  refine⟨outV us,results_run (by rw[hrs];exact k1),outV us,rfl,⟨S.os,S.tape,S.output,S.size,fun b hb hne=>S.block b hb hne⟩,hsz,repRV_lent hr (comps_out (by rw[hlen];exact h4) (k3 _ _ _ g1)),?_,S.lens 0 _ h5⟩
  exact lone_rep hJ rfl hβ.symm hl.2.2 (S.blocks 0 b1 h5)
 cases x with
 | nrm=>exact fin hq (by simp)
 | ret=>exact fin hq (by simp)
 | exit i=>exact hq.elim
theorem resC_pureD {w0:World} {X:WX} {β:Nat→Option Nat} {s:St} {a:Act} {w:World} {I:Nat→Prop} (S:SimB w0 X β s a w) (hA:∀b,X.A b→I b∨w0.heap.size≤b) (hl0:live (nthb s.bk) 0) (hβ:β 0=X.ob) {c d:AC} {v:Value} (hn:notLent c=true) (hd:pureC d=true)
  (h:resC (nthb s.bk) c d) (r:RepC (cx X w β (nthb s.bk)) c v) {lo:Nat} {bo:Option Nat}:RepR (lentcx w X.ob fun k=>(I k∨w0.heap.size≤k)∧k<w.heap.size∧X.ob≠some k) lo bo d v:=by
 have hI:∀b,(cx X w β (nthb s.bk)).I b→((I b∨w0.heap.size≤b)∧b<w.heap.size∧X.ob≠some b)∧w.heap[b]? =w.heap[b]? :=fun b hb=>⟨⟨hA b hb.2,hb.1.1,fun e=>hb.1.2 0 hl0 (hβ.trans e)⟩,rfl⟩
 cases c with
 | lsl t id ver' off len=>
  rcases h with⟨l,h1,h2,rfl⟩ |⟨l,n,_,_,_,_,_,rfl⟩ |⟨rfl,rfl,rfl⟩
  ·have hid0:id≠0:=fun e=>by subst e;simp[notLent] at hn
   have hv:ver'=ver (nthb s.bk) id:=by rw[ver_of h1];rfl
   obtain⟨base,cap,e,g1,g2,_,g3⟩:=r.2 hv
   have hlen:((l.drop off).take len).length=len:=by simp;omega
   have hshort:l.length≤140737488355328:=S.lens id _ h1
   refine⟨base,cap,by rw[hlen,e],by rw[hlen];exact g1,by rw[hlen];omega,?_⟩
   rcases g3 with g3 |⟨b,arr,e',k1,k2,k3,k4⟩
   ·left;exact List.eq_nil_of_length_eq_zero (by rw[hlen];omega)
   ·rcases S.blocks id _ h1 with⟨q1,q2⟩ |⟨b',arr',e'',q1,q2,q3⟩
    ·exact absurd (q1.symm.trans k1) (by simp)
    ·obtain rfl:b'=b:=Option.some.inj (q1.symm.trans k1)
     have hlv:live (nthb s.bk) id:=⟨_,h1,rfl⟩
     have hlt:b'<w.heap.size:=by
      rcases Nat.lt_or_ge b' w.heap.size with h' | h'
      ·exact h'
      ·have q2':w.heap[b']? =_:=q2
       simp[Array.getElem?_eq_none h'] at q2'
     refine .inr ⟨b',_,k2,⟨.inr ((S.own id b' hlv q1).resolve_right (fun q=>hid0 q.2)),hlt,fun e=>hid0 (S.inj id 0 b' hlv hl0 q1 (hβ.trans e))⟩,fun i y hy=>?_⟩
     have hi:l[off+i]? =some y:=by
      rw[List.getElem?_take] at hy
      split at hy
      ·simpa using hy
      ·cases hy
     obtain⟨us,p1,p2⟩:=q3 (off+i) y hi
     exact⟨us,rep_mono (w':=w) hI _ _ _ p1,by rw[show off*t.size+i*t.size=(off+i)*t.size by rw[Nat.add_mul]];exact p2⟩
  ·simp[pureC] at hd
  ·simp[pureC] at hd
 | nil=>
  rcases h with rfl |⟨t,rfl⟩ |⟨t,rfl⟩
  ·exact r
  ·exact⟨none,0,by rw[show v=_ from r];rfl,Nat.le_refl _,by simp,.inl rfl⟩
  ·simp[pureC] at hd
 | int k n=>rw[show d=_ from h];exact r
 | bool b=>rw[show d=_ from h];exact r
 | fn f=>rw[show d=_ from h];exact r
 | sl t l=>rw[show d=_ from h];exact rep_mono (w':=w) hI _ _ _ r
 | _=>exact h.elim
theorem res_pureD {w0:World} {X:WX} {β:Nat→Option Nat} {s:St} {a:Act} {w:World} {I:Nat→Prop} (S:SimB w0 X β s a w) (hA:∀b,X.A b→I b∨w0.heap.size≤b) (hl0:live (nthb s.bk) 0) (hβ:β 0=X.ob) {lo:Nat} {bo:Option Nat}:
  ∀{cs ds:List AC} {vs:List Value},cs.all notLent=true→ds.all pureC=true→allC (resC (nthb s.bk)) cs ds→All2 (RepC (cx X w β (nthb s.bk))) cs vs→All2 (RepR (lentcx w X.ob fun k=>(I k∨w0.heap.size≤k)∧k<w.heap.size∧X.ob≠some k) lo bo) ds vs
 | [],[],[],_,_,_,_=>trivial
 | _::_,_::_,_::_,h0,h1,h3,h5=>by
  simp only[List.all_cons,Bool.and_eq_true] at h0 h1
  exact⟨resC_pureD S hA hl0 hβ h0.1 h1.1 h3.1 h5.1,res_pureD S hA hl0 hβ h0.2 h1.2 h3.2 h5.2⟩
 | [],[],_::_,_,_,_,h=>h.elim
 | _::_,_::_,[],_,_,_,h=>h.elim
 | [],_::_,_,_,_,h,_=>h.elim
 | _::_,[],_,_,_,h,_=>h.elim
theorem repR_pureD {y:Cx} {lo:Nat} {bo:Option Nat}:∀{c:AC} {v:Value},pureC c=true→RepR y lo bo c v→RepC y c v
 | .int _ _,_,_,r=>r
 | .bool _,_,_,r=>r
 | .fn _,_,_,r=>r
 | .nil,_,_,r=>r
 | .junk,_,_,r=>r
 | .sl _ _,_,_,r=>r
 | .lsl _ _ _ _ _,_,h,_=>by simp[pureC] at h
 | .csl _ _ _ _ _,_,h,_=>by simp[pureC] at h
 | .lptr _ _ _,_,h,_=>by simp[pureC] at h
 | .eptr _ _ _ _ _,_,h,_=>by simp[pureC] at h
 | .pptr _ _ _,_,h,_=>by simp[pureC] at h
 | .ub _,_,h,_=>by simp[pureC] at h
 | .own _ _ _,_,h,_=>by simp[pureC] at h
theorem All2.repR_pureD {y:Cx} {lo:Nat} {bo:Option Nat}:∀{cs:List AC} {vs:List Value},cs.all pureC=true→All2 (RepR y lo bo) cs vs→All2 (RepC y) cs vs
 | [],[],_,_=>trivial
 | _::_,_::_,e,r=>by simp only[List.all_cons,Bool.and_eq_true] at e;exact⟨Abs.repR_pureD e.1 r.1,All2.repR_pureD e.2 r.2⟩
 | [],_::_,_,r=>r.elim
 | _::_,[],_,r=>r.elim
theorem repR1_pureD {y:Cx} {lo:Nat} {bo:Option Nat} {r:AV} {v:Value} (h:r.all pureC=true) (hr:RepR1 y lo bo r v):RepV1 y r v:=by
 cases r with
 | one c=>exact hr.imp (fun q=>q) (repR_pureD h)
 | agg cs=>obtain⟨arr,e,hr⟩:=hr;exact⟨arr,e,All2.repR_pureD h hr⟩
 | tup _=>exact hr.elim
theorem repRV_pureD {y:Cx} {lo:Nat} {bo:Option Nat} {r:AV} {v:Value} (h:r.all pureC=true) (hr:RepRV y lo bo r v):RepV y r v:=by
 cases r with
 | one c=>exact repR1_pureD h hr
 | agg cs=>exact repR1_pureD h hr
 | tup xs=>
  obtain⟨arr,e,hr⟩:=hr
  refine⟨arr,e,?_⟩
  have key:∀(xs:List (Bool×List AC)) (us:List Value),(xs.all fun x=>x.2.all pureC)=true→All2 (fun z q=>RepR1 y lo bo (mk1 z) q) xs us→All2 (fun z q=>RepV1 y (mk1 z) q) xs us:=by
   intro xs
   induction xs with
   | nil=>intro us _ hh;cases us <;> first | trivial | exact hh.elim
   | cons z xs ih=>
    intro us hz hh
    cases us with
    | nil=>exact hh.elim
    | cons q us=>
     simp only[List.all_cons,Bool.and_eq_true] at hz
     refine⟨?_,ih us hz.2 hh.2⟩
     obtain⟨g,cs⟩:=z
     have h3:=hh.1
     cases g with
     | true=>exact repR1_pureD (r:= .agg cs) hz.1 h3
     | false=>
      cases cs with
      | nil=>exact Or.inl rfl
      | cons c cs=>
       simp only[List.all_cons,Bool.and_eq_true] at hz
       exact repR1_pureD (r:= .one c) hz.1.1 h3
  exact key xs arr.toList h hr
def lentArgs (args:List AV):Bool:=args.all fun c=>match c with | .tup _=>false | c=>c.all lentC
theorem lentV_start {x y:Cx} (h:∀b,x.I b→y.I b∧y.w.heap[b]? =x.w.heap[b]?) (hw:y.w=x.w) (hx:x.cv 0=0) (hy:y.cv 0=0) (hβ:y.β 0=x.β 0):∀{l:List AV} {vs:List Value},lentArgs l=true→All2 (RepV x) l vs→All2 (RepV y) l vs
 | [],[],_,_=>trivial
 | .one c::l,_::_,e,r=>by
  have e':(lentC c&&lentArgs l)=true:=e
  simp only[Bool.and_eq_true] at e'
  exact⟨r.1.imp (fun q=>q) (lent_start h hw hx hy hβ e'.1),lentV_start h hw hx hy hβ e'.2 r.2⟩
 | .agg c::l,_::_,e,r=>by
  have e':(c.all lentC&&lentArgs l)=true:=e
  simp only[Bool.and_eq_true] at e'
  obtain⟨arr,e2,hr⟩:=r.1
  refine⟨⟨arr,e2,?_⟩,lentV_start h hw hx hy hβ e'.2 r.2⟩
  exact all e'.1 hr
 | .tup _::_,_::_,e,_=>by simp[lentArgs] at e
 | [],_::_,_,r=>r.elim
 | _::_,[],_,r=>r.elim
where
 all:∀{cs:List AC} {vs:List Value},cs.all lentC=true→All2 (RepC x) cs vs→All2 (RepC y) cs vs
  | [],[],_,_=>trivial
  | _::_,_::_,e,r=>by simp only[List.all_cons,Bool.and_eq_true] at e;exact⟨lent_start h hw hx hy hβ e.1 r.1,all e.2 r.2⟩
  | [],_::_,_,r=>r.elim
  | _::_,[],_,r=>r.elim
theorem notLent_flat:∀{xs:List (Bool×List AC)},(xs.all fun x=>x.2.all notLent)=true→(xs.flatMap (·.2)).all notLent=true:=fun {xs} h=>by
 rw[List.all_flatMap];exact h
theorem dcall_of_awp {f:FuncId} {n:Nat} {c:Code} {rs:List ResultVar} (F:Fn P TI f n c rs) {b0:Blk} {args:List AV} {r:AV} (hp:lentArgs args=true) (hr:r.all pureC=true) (hl:b0.lone=true) (hn:args.length≤n) (hn0:0<n)
  (h:awp (env P) TI n c (postD TI rs r b0) (st0 n args (some b0))):DCall P f args b0 r:=by
 obtain⟨fn,hf,hname,hb,hnt,hrs⟩:=F.get
 refine⟨⟨fn,c,hf,hname,hb⟩,⟨hr,hl⟩,fun w I ob vs hI hb0 hsh hargs=>?_⟩
 refine calls_of_wp hf hb ?_
 obtain⟨n',rfl⟩:∃n',n=n'+1:=⟨n-1,by omega⟩
 have b0v:b0.ver=0:=by cases b0 <;> simp_all [Blk.lone,Blk.ver]
 have b0l:b0.live=true:=by cases b0 <;> simp_all [Blk.lone,Blk.live]
 have hI':∀b,I b→(cx ⟨fun b=>ob=some b,fun b=>I b∨w.heap.size≤b,ob⟩ w (β0 ob) (nthb (st0 (n'+1) args (some b0)).bk)).I b∧w.heap[b]? =w.heap[b]? :=fun b hb=>
  ⟨⟨⟨(hI b hb).1,fun id _ e=>by
   unfold β0 at e
   split at e
   ·exact (hI b hb).2 e
   ·cases e⟩,.inl hb⟩,rfl⟩
 have hver:ver (nthb (st0 (n'+1) args (some b0)).bk) 0=0:=b0v
 have S0:SimB w ⟨fun b=>ob=some b,fun b=>I b∨w.heap.size≤b,ob⟩ (β0 ob) (st0 (n'+1) args (some b0)) {tmps:=vs.toArray++Array.replicate (n'+1-vs.toArray.size) undef,defers:=[]} w:=
  SimB.start (X:=⟨fun b=>ob=some b,fun b=>I b∨w.heap.size≤b,ob⟩) hn (fun _ e=>e) (fun b hb=> .inr hb) (fun b e=>by cases e;exact⟨b0v,hsh,by omega⟩)
   (lentV_start (x:=lentcx w ob I) hI' rfl rfl hver rfl hp hargs)
   (fun b e=>by cases e;exact lone_rep (x:=lentcx w ob I) hI' rfl rfl hl hb0)
 rw[hnt]
 refine wp_mono (awp_sound F.mixed (fun o ho=>sound_op F.ty o ho) F.dst (by simp[st0,len_reps];omega) S0 h) fun e a' w' he=>?_
 obtain⟨x,s',β',rfl,hq,_,S⟩:=he
 have fin:postD TI rs r b0 x s'→(∀i,x≠ .exit i)→a'.defers=[]∧∃v,(results fn a'.tmps).run P w'= .ok v w'∧∃u,Ending.returned v= .returned u∧
   (w'.os=w.os∧w'.tape=w.tape∧w'.output=w.output∧w.heap.size≤w'.heap.size∧∀k,k<w.heap.size→ob≠some k→w'.heap[k]? =w.heap[k]?)∧
   (∀(b:Nat) arr e,ob=some b→w.heap[b]? =some (.cells arr e (0,0))→∃arr',w'.heap[b]? =some (.cells arr' e (0,0))∧arr'.size=arr.size)∧
   RepV (lentcx w' ob fun k=>(I k∨w.heap.size≤k)∧k<w'.heap.size∧ob≠some k) r u∧
   RepB (lentcx w' ob fun k=>(I k∨w.heap.size≤k)∧k<w'.heap.size∧ob≠some k) 0 b0:=by
  intro hq hx
  refine⟨S.defers,?_⟩
  have hq':∃xs,resVars TI s' rs=some xs∧(resCs (nthb s'.bk) xs r.comps∧(xs.all fun x=>x.2.all notLent)=true∧(rs.length=1↔∀ys,r≠ .tup ys))∧nthb s'.bk 0=some b0:=by
   unfold postD at hq
   split at hq
   ·exact absurd rfl (hx _)
   ·split at hq
    ·rename_i xs hxs
     exact⟨xs,hxs,hq ()⟩
    ·exact hq.elim
  obtain⟨xs,h1,⟨h2,h3,h4⟩,h5⟩:=hq'
  obtain⟨us,ws,k1,k2,k3⟩:=resVars_run F.ty S h1 h2
  have hv0:ver (nthb s'.bk) 0=0:=by rw[ver_of h5];exact b0v
  have hlv:live (nthb s'.bk) 0:=⟨_,h5,b0l⟩
  obtain⟨hβ,hsz⟩:=S.hist hlv hv0
  have hJ:∀b,(cx ⟨fun b=>ob=some b,fun b=>I b∨w.heap.size≤b,ob⟩ w' β' (nthb s'.bk)).I b→(lentcx w' ob fun k=>(I k∨w.heap.size≤k)∧k<w'.heap.size∧ob≠some k).I b∧w'.heap[b]? =w'.heap[b]? :=
   fun b hb=>⟨⟨hb.2,hb.1.1,fun e=>hb.1.2 0 hlv (hβ.trans e)⟩,rfl⟩
  have g1:=res_pureD (I:=I) (lo:=0) (bo:=none) S (fun b hb=>hb) hlv hβ (notLent_flat h3) (comps_flat hr) (resCs_flat h2) k2
  have hlen:us.length=rs.length:=k1.length.symm
  refine⟨outV us,results_run (by rw[hrs];exact k1),outV us,rfl,⟨S.os,S.tape,S.output,S.size,fun b hb hne=>S.block b hb hne⟩,hsz,repRV_pureD hr (comps_out (by rw[hlen];exact h4) (k3 _ _ _ g1)),?_⟩
  exact lone_rep hJ rfl hβ.symm hl (S.blocks 0 b0 h5)
 cases x with
 | nrm=>exact fin hq (by simp)
 | ret=>exact fin hq (by simp)
 | exit i=>exact hq.elim
def flatC:AC→Bool
 | .int _ _=>true
 | .bool _=>true
 | .fn _=>true
 | .nil=>true
 | .own t _ _=>t.flat
 | _=>false
theorem flatC_rep {w:World} {I I':Nat→Prop} {lo:Nat} {bo:Option Nat}:∀{c:AC} {v:Value},flatC c=true→RepR (nocx w I) lo bo c v→RepR (nocx w I') lo bo c v
 | .int _ _,_,_,r=>r
 | .bool _,_,_,r=>r
 | .fn _,_,_,r=>r
 | .nil,_,_,r=>r
 | .own t l n,_,h,⟨hn,base,cap,e,h1,h2,h3,h4⟩=>⟨hn,base,cap,e,h1,h2,h3,h4.imp (fun q=>q) fun⟨b,arr,ty,k1,k2,k3,k4,k5,k6⟩=>⟨b,arr,ty,k1,k2,k3,k4,k5,fun i y hy=>by
  obtain⟨us,p1,p2⟩:=k6 i y hy
  exact⟨us,rep_flat (I:=I) (w:=w) t y us h p1,p2⟩⟩⟩
 | .junk,_,h,_=>by simp[flatC] at h
 | .sl _ _,_,h,_=>by simp[flatC] at h
 | .lsl _ _ _ _ _,_,h,_=>by simp[flatC] at h
 | .csl _ _ _ _ _,_,h,_=>by simp[flatC] at h
 | .lptr _ _ _,_,h,_=>by simp[flatC] at h
 | .eptr _ _ _ _ _,_,h,_=>by simp[flatC] at h
 | .pptr _ _ _,_,h,_=>by simp[flatC] at h
 | .ub _,_,h,_=>by simp[flatC] at h
def plainC:AC→AC
 | .own t l _=> .sl t l
 | c=>c
def plainV:AV→AV
 | .one c=> .one (plainC c)
 | .agg cs=> .agg (cs.map plainC)
 | .tup xs=> .tup (xs.map fun x=>(x.1,x.2.map plainC))
theorem mapR {x y:Cx} {lo lo':Nat} {bo bo':Option Nat} {p:AC→Bool} {g:AC→AC} (hj:g .junk= .junk) (h:∀c v,p c=true→RepR x lo bo c v→RepR y lo' bo' (g c) v) {r:AV} {v:Value} (hp:r.all p=true) (hr:RepRV x lo bo r v):
  RepRV y lo' bo' (match r with | .one c=> .one (g c) | .agg cs=> .agg (cs.map g) | .tup xs=> .tup (xs.map fun x=>(x.1,x.2.map g))) v:=by
 have l:∀{cs:List AC} {vs:List Value},cs.all p=true→All2 (RepR x lo bo) cs vs→All2 (RepR y lo' bo') (cs.map g) vs:=by
  intro cs
  induction cs with
  | nil=>intro vs _ h;cases vs <;> first | trivial | exact h.elim
  | cons c cs ih=>intro vs hc hh;cases vs with
   | nil=>exact hh.elim
   | cons u us=>
    simp only[List.all_cons,Bool.and_eq_true] at hc
    exact⟨h _ _ hc.1 hh.1,ih hc.2 hh.2⟩
 cases r with
 | one c=>
  rcases hr with rfl | hr
  ·exact .inl hj
  ·exact .inr (h _ _ hp hr)
 | agg cs=>obtain⟨arr,e,hr⟩:=hr;exact⟨arr,e,l hp hr⟩
 | tup xs=>
  obtain⟨arr,e,hr⟩:=hr
  refine⟨arr,e,?_⟩
  have key:∀(xs:List (Bool×List AC)) (us:List Value),(xs.all fun x=>x.2.all p)=true→All2 (fun z q=>RepR1 x lo bo (mk1 z) q) xs us→All2 (fun z q=>RepR1 y lo' bo' (mk1 z) q) (xs.map fun x=>(x.1,x.2.map g)) us:=by
   intro xs
   induction xs with
   | nil=>intro us _ hh;cases us <;> first | trivial | exact hh.elim
   | cons z xs ih=>
    intro us hz hh
    cases us with
    | nil=>exact hh.elim
    | cons q us=>
     simp only[List.all_cons,Bool.and_eq_true] at hz
     refine⟨?_,ih us hz.2 hh.2⟩
     obtain⟨t,cs⟩:=z
     have h3:=hh.1
     cases t with
     | true=>obtain⟨arr',e',h3⟩:=h3;exact⟨arr',e',l hz.1 h3⟩
     | false=>
      cases cs with
      | nil=>exact Or.inl rfl
      | cons c cs=>
       simp only[List.all_cons,Bool.and_eq_true] at hz
       rcases h3 with e1 | h3
       ·have e1:c= .junk:=e1
        subst e1;exact .inl hj
       ·exact .inr (h _ _ hz.1.1 h3)
  exact key xs arr.toList hp hr
theorem acall_flat {f:FuncId} {args:List AV} {r:AV} (hr:r.all flatC=true) (h:ACall P false f args r):ACall P true f args r:=by
 refine⟨h.1,h.2.1,fun w I vs hI hargs=>(h.2.2 w I vs hI hargs).mono fun e w' ⟨u,bo,he,hb,hu⟩=>⟨u,bo,he,hb,?_⟩⟩
 have:=mapR (g:=fun c=>c) (y:=nocx w' fun b=>((true=false∧I b)∨w.heap.size≤b)∧b<w'.heap.size∧bo≠some b) rfl (fun c v hc=>flatC_rep hc) hr hu
 cases r <;> simpa using this
theorem plainC_rep {w:World} {J:Nat→Prop} {lo:Nat} {bo:Option Nat}:∀{c:AC} {v:Value},pureR c=true→RepR (nocx w fun b=>(J b∨lo≤b)∧b<w.heap.size∧bo≠some b) lo bo c v→RepR (nocx w fun b=>(J b∨lo≤b)∧b<w.heap.size∧(none:Option Nat)≠some b) lo none (plainC c) v
 | .own t l n,v,_,⟨hn,base,cap,e,h1,h2,h3,h4⟩=>by
  refine⟨base,cap,by rw[e],h1,h3,?_⟩
  rcases h4 with⟨_,q,_⟩ |⟨b,arr,ty,k1,k2,k3,k4,k5,k6⟩
  ·exact .inl q
  ·have hlt:b<w.heap.size:=by
    rcases Nat.lt_or_ge b w.heap.size with h' | h'
    ·exact h'
    ·have k4':w.heap[b]? =_:=k4
     simp[Array.getElem?_eq_none h'] at k4'
   refine .inr ⟨b,0,k3,⟨.inr k2,hlt,by simp⟩,fun i y hy=>?_⟩
   obtain⟨us,p1,p2⟩:=k6 i y hy
   exact⟨us,rep_mono (w':=w) (fun b hb=>⟨⟨hb.1,hb.2.1,by simp⟩,rfl⟩) _ _ _ p1,by rw[Nat.zero_add];exact p2⟩
 | .int _ _,_,_,r=>r
 | .bool _,_,_,r=>r
 | .fn _,_,_,r=>r
 | .nil,_,_,r=>r
 | .junk,_,_,r=>r
 | .sl _ _,_,_,r=>rep_mono (w':=w) (fun b hb=>⟨⟨hb.1,hb.2.1,by simp⟩,rfl⟩) _ _ _ r
 | .lsl _ _ _ _ _,_,h,_=>by simp[pureR,pureC] at h
 | .csl _ _ _ _ _,_,h,_=>by simp[pureR,pureC] at h
 | .lptr _ _ _,_,h,_=>by simp[pureR,pureC] at h
 | .eptr _ _ _ _ _,_,h,_=>by simp[pureR,pureC] at h
 | .pptr _ _ _,_,h,_=>by simp[pureR,pureC] at h
 | .ub _,_,h,_=>by simp[pureR,pureC] at h
theorem acall_plain {fl:Bool} {f:FuncId} {args:List AV} {r:AV} (h:ACall P fl f args r):ACall P fl f args (plainV r):=by
 have hc:∀c,pureR c=true→pureR (plainC c)=true:=fun c hc=>by cases c <;> simp_all [plainC,pureR,pureC]
 have hcs:∀{cs:List AC},cs.all pureR=true→(cs.map plainC).all pureR=true:=fun {cs} h=>by
  rw[List.all_eq_true] at h ⊢
  intro x hx
  obtain⟨y,hy,rfl⟩:=List.mem_map.1 hx
  exact hc y (h y hy)
 refine⟨h.1,⟨?_,?_⟩,fun w I vs hI hargs=>(h.2.2 w I vs hI hargs).mono fun e w' ⟨u,bo,he,hb,hu⟩=>⟨u,none,he,hb,?_⟩⟩
 ·have:=h.2.1.1
  cases r with
  | one c=>exact hc c this
  | agg cs=>exact hcs this
  | tup xs=>
   simp only[plainV,AV.all,List.all_map] at this ⊢
   rw[List.all_eq_true] at this ⊢
   exact fun x hx=>hcs (this x hx)
 ·have:=h.2.1.2
  cases r with
  | one c=>rfl
  | agg cs=>rfl
  | tup xs=>
   simp only[plainV,AV.wf,List.all_map] at this ⊢
   rw[List.all_eq_true] at this ⊢
   exact fun x hx=>by simpa using this x hx
 ·have:=mapR (g:=plainC) (bo':=none) (lo':=w.heap.size) (y:=nocx w' fun b=>((fl=false∧I b)∨w.heap.size≤b)∧b<w'.heap.size∧(none:Option Nat)≠some b) rfl (fun c v hc=>plainC_rep (J:=fun b=>fl=false∧I b) hc) h.2.1.1 hu
  cases r <;> exact this
end
end Go.Abs
