/- Part 7 of a proof. Conditions: each theorem's own. -/
import Derived.Laws.Tables
import Derived.Great.BuildSlice
import Derived.DataShut
import Derived.Test.YtpccjlcpbehglaaGreatPk05
set_option linter.all false
set_option maxHeartbeats 8000000
namespace Go.Abs
open Go.RowKit
theorem foldl_put:∀(l:List Value) (off k:Nat) (c:Array Value),((l.zipIdx k).foldl (fun (cs:Array Value) (x:Value×Nat)=>cs.setIfInBounds (off+x.2) x.1) c).toList=putN c.toList (off+k) l
 | [],off,k,c=>by simp[putN_nil]
 | v::l,off,k,c=>by
  rw[List.zipIdx_cons,List.foldl_cons,foldl_put l off (k+1),Array.toList_setIfInBounds,←Nat.add_assoc,putN_set]
theorem fill_step {place:Nat→Option (Nat×Nat)} {c:Array Value} {i:Nat} {v:Value} {r:List (Nat×Value)} {off n:Nat} (hp:place i=some (off,n)) (hn:v.cells.size=n) (hf:off+n≤c.size):
  ∃c',c'.toList=putN c.toList off v.cells.toList∧Instr.fill place c ((i,v)::r)=Instr.fill place c' r:=by
 refine⟨v.cells.zipIdx.foldl (fun cs (x,j)=>cs.setIfInBounds (off+j) x) c,?_,?_⟩
 ·have:=foldl_put v.cells.toList off 0 c
  rw[Nat.add_zero] at this
  rw[←this,←Array.foldl_toList,Array.toList_zipIdx]
 ·have h1:¬(v.cells.size≠n∨off+v.cells.size>c.size):=by omega
  rw[Instr.fill]
  simp only[hp]
  rw[if_neg (by simpa using h1)]
theorem length_putN {α:Type}:∀(l:List α) (o:Nat) (xs:List α),(putN l o xs).length=l.length
 | _,0,[]=>by rw[putN_nil]
 | [],0,_::_=>rfl
 | _::cs,0,_::xs=>by simp[putN,length_putN cs 0 xs]
 | [],_+1,_=>rfl
 | _::cs,o+1,xs=>by simp[putN,length_putN cs o xs]
section
variable {P:Program} {E:Env} {TI:TypeId→Info}
theorem fillC_rep {x:Cx} {s:St} {a:Act} (hev:∀o,RepV x (ev s.sl o) (a.eval o)) {places:List (Nat×Nat×Bool)} {pl:Nat→Option (Nat×Nat)} (hpl:∀(i o n:Nat) (g:Bool),places[i]? =some (o,n,g)→pl i=some (o,n)):
  ∀(parts:List (Nat×Operand)) (cs r:List AC) (c:Array Value),fillC places (ev s.sl) parts cs=some r→All2 (RepC x) cs c.toList→
   ∃c',Instr.fill pl c (parts.map fun p=>(p.1,a.eval p.2))=some c'∧All2 (RepC x) r c'.toList
 | [],cs,r,c,h,hr=>⟨c,rfl,by simp[fillC] at h;subst h;exact hr⟩
 | (i,o)::parts,cs,r,c,h,hr=>by
  simp only[fillC] at h
  split at h
  ·rename_i off n g hp
   split at h
   ·rename_i hc
    obtain⟨h1,h2,h3⟩:=hc
    have hnt:∀xs,ev s.sl o≠ .tup xs:=fun xs e=>by rw[e] at h2;simp[AV.full] at h2
    have hcs:=(repV1_of (hev o) hnt).cells h2
    have hsz:(a.eval o).cells.size=n:=by have:=hcs.length;rw[h1] at this;simpa using this.symm
    have hl:=hr.length
    simp only[Array.length_toList] at hl
    obtain⟨c',q1,q2⟩:=fill_step (c:=c) (r:=parts.map fun p=>(p.1,a.eval p.2)) (hpl i off n g hp) hsz (by omega)
    obtain⟨c'',p1,p2⟩:=fillC_rep hev hpl parts _ r c' h (by rw[q1];exact hr.putN off hcs)
    exact⟨c'',by rw[List.map_cons,q2];exact p1,p2⟩
   ·cases h
  ·cases h
theorem sound_build (hT:∀t,TyOK P t (TI t)) {o:Oper} {t:TypeId} {parts:Array (Nat×Operand)} (ho:o.op= .build t parts):Sound P E TI o:=by
 intro w0 X β s a w S f h N Q hN
 simp only[aop,ho] at h
 obtain⟨⟨hk,hke⟩,h⟩:=h
 obtain⟨ti,z,d,h1,h2,h3,h4,h5,h6,h7⟩:=(hT t).info hk
 split at h
 ·rename_i cs hf
  subst h
  have hne:(TI t).fields≠[]:=fun e=>by simp[e] at hke
  obtain⟨fs,hu,hlen,hfs⟩:=(hT t).fields hk hne
  have hplaces:∃places,fs.toList.mapM (fun f=>(P.info? f.type).map fun i=>(f.offset,i.size))=some places∧∀(i o n:Nat) (g:Bool),(TI t).fields[i]? =some (o,n,g)→places[i]? =some (o,n):=by
   refine⟨(TI t).fields.map fun x=>(x.1,x.2.1),mapM_some_of_get _ _ (by simpa using hlen) fun i x hx=>?_,fun i o n g hi=>by simp[hi]⟩
   have hi:i<(TI t).fields.length:=by
    rcases Nat.lt_or_ge i fs.toList.length with h9 | h9
    ·simpa [hlen] using h9
    ·rw[List.getElem?_eq_none h9] at hx;cases hx
   obtain⟨fl,d',e1,e2,e3,_⟩:=hfs i (TI t).fields[i].1 (TI t).fields[i].2.1 (TI t).fields[i].2.2 (by simp[hi])
   have:x=fl:=by have h10:fs[i]? =some x:=by simpa using hx
                 rw[e1] at h10;exact (Option.some.inj h10).symm
   subst this
   cases hq:P.info? x.type with
   | none=>simp[hq] at e3
   | some ti'=>
    have:ti'.size=(TI t).fields[i].2.1:=by simpa [hq] using e3
    simp[hi,e2,this]
  obtain⟨places,hp1,hp2⟩:=hplaces
  obtain⟨c',q1,q2⟩:=fillC_rep (ev_rep S.slots) (pl:=fun i=>places.toArray[i]?) (fun i o n g hi=>by simpa using hp2 i o n g hi) parts.toList _ _ z.cells hf (h4 _)
  have hb:P.built t (parts.map fun (i,x)=>(i,a.eval x)).toList=some c':=by
   unfold Program.built
   simp only[h1,hu,h3,hp1]
   simpa using q1
  refine wp_value (u:= .agg c') (w':=w) ?_ (hN _ _ _ (S.val ⟨c',rfl,q2⟩))
  simp[execOp,ho,run_build w t _ c' hb]
 ·exact h.elim
theorem putN_mid:∀(pre mid post vs:List Value),vs.length=mid.length→putN (pre++(mid++post)) pre.length vs=pre++(vs++post)
 | [],[],post,[],_=>by cases post <;> rfl
 | [],m::mid,post,v::vs,h=>by
  have:=putN_mid [] mid post vs (by simpa using h)
  simp only[List.nil_append,List.length_nil] at this
  simp[putN,this]
 | p::pre,mid,post,vs,h=>by simp[putN,putN_mid pre mid post vs h]
 | [],[],_,_::_,h=>by simp at h
 | [],_::_,_,[],h=>by simp at h
theorem fill_seq {n:Nat}:∀(vs:List Value) (k:Nat) (c:Array Value),(∀v∈vs,v.cells.size=n)→c.size=(k+vs.length)*n→
  ∃c',Instr.fill (fun i=>some (i*n,n)) c (vs.zipIdx k |>.map fun x=>(x.2,x.1))=some c'∧c'.toList=c.toList.take (k*n)++vs.flatMap (·.cells.toList)
 | [],k,c,_,hs=>⟨c,rfl,by simp at hs;rw[←hs,List.take_of_length_le (by simp)];simp⟩
 | v::vs,k,c,hv,hs=>by
  have hvn:=hv v (by simp)
  have hs':c.size=k*n+(n+vs.length*n):=by rw[hs,List.length_cons,Nat.add_mul,Nat.succ_mul];omega
  obtain⟨c',q1,q2⟩:=fill_step (place:=fun i=>some (i*n,n)) (c:=c) (i:=k) (v:=v) (r:=(vs.zipIdx (k+1)).map fun x=>(x.2,x.1)) (off:=k*n) (n:=n) rfl hvn (by omega)
  have hl:c.toList.length=k*n+(n+vs.length*n):=by simpa using hs'
  have e1:c.toList=c.toList.take (k*n)++((c.toList.drop (k*n)).take n++c.toList.drop (k*n+n)):=by
   rw[←List.drop_drop,List.take_append_drop,List.take_append_drop]
  have hpre:(c.toList.take (k*n)).length=k*n:=by simp[hl]
  have hmid:v.cells.toList.length=((c.toList.drop (k*n)).take n).length:=by simp[hvn,hl]
  have e2:c'.toList=c.toList.take (k*n)++(v.cells.toList++c.toList.drop (k*n+n)):=by
   rw[q1]
   conv=>lhs;rw[e1]
   have:=putN_mid (c.toList.take (k*n)) ((c.toList.drop (k*n)).take n) (c.toList.drop (k*n+n)) v.cells.toList hmid
   rwa [hpre] at this
  have hcs:c'.size=(k+1+vs.length)*n:=by
   have:c'.toList.length=c.toList.length:=by rw[q1,length_putN]
   simp only[Array.length_toList] at this
   rw[this,hs',Nat.add_mul,Nat.add_mul];omega
  obtain⟨c'',p1,p2⟩:=fill_seq vs (k+1) c' (fun u hu=>hv u (by simp[hu])) hcs
  refine⟨c'',by rw[List.zipIdx_cons,List.map_cons,q2];exact p1,?_⟩
  rw[p2,e2,List.flatMap_cons]
  have:(c.toList.take (k*n)++(v.cells.toList++c.toList.drop (k*n+n))).take ((k+1)*n)=c.toList.take (k*n)++v.cells.toList:=by
   rw[←List.append_assoc,List.take_left']
   simp[hpre,hvn,Nat.add_mul]
  rw[this,List.append_assoc]
theorem sound_buildSlice (hT:∀t,TyOK P t (TI t)) {o:Oper} {t:TypeId} {len:Nat} {parts:Array (Nat×Operand)} (ho:o.op= .buildSlice t len parts) (hd:o.dst≠none):Sound P E TI o:=by
 intro w0 X β s a w S f h N Q hN
 simp only[aop,ho] at h
 obtain⟨hk,h16,xs,hxs,h⟩:=h
 obtain⟨hxl,hlen,hfull,hall⟩:=hxs ()
 obtain⟨hu,ei,z,g1,g2,g3,g4,g5,g6⟩:=(hT t).sl hk
 have hpz:=T.size_pos (TI t).elem
 have hzs:z.cells.size=(TI t).elem.size:=by have:=(g6 (cx X w β (nthb s.bk))).length;rw[cells_length] at this;simpa using this.symm
 have hvals:∀(ps:List (Nat×Operand)) (k:Nat) (ys:List (el (TI t).elem)),(ps.all fun p=>(ev s.sl p.2).full)=true→allC2 (ps.map fun p=>(p.1,(ev s.sl p.2).cs)) k (ys.map (cells _))→
   (ps.map fun p=>(p.1,a.eval p.2))=((ps.map fun p=>a.eval p.2).zipIdx k).map (fun x=>(x.2,x.1))∧(∀v∈ps.map fun p=>a.eval p.2,v.cells.size=(TI t).elem.size)∧
   RowsF w (cx X w β (nthb s.bk)).I (TI t).elem ys ((ps.map fun p=>a.eval p.2).flatMap (·.cells.toList))∧ys.length=ps.length:=by
  intro ps
  induction ps with
  | nil=>intro k ys _ h2;cases ys with
   | nil=>exact⟨rfl,by simp,rfl,rfl⟩
   | cons y ys=>exact h2.elim
  | cons p ps ih=>
   intro k ys h1 h2
   cases ys with
   | nil=>exact h2.elim
   | cons y ys=>
    obtain⟨e1,e2,e3⟩:=h2
    simp only[List.all_cons,Bool.and_eq_true] at h1
    have hnt:∀xs,ev s.sl p.2≠ .tup xs:=fun xs e=>by rw[e] at h1;simp[AV.full] at h1
    have hcs:=allC_rep (fun _ _ _=>leC_rep) e2 ((repV1_of (ev_rep S.slots p.2) hnt).cells h1.1)
    obtain⟨q1,q2,q3,q4⟩:=ih (k+1) ys h1.2 e3
    have e1':p.1=k:=e1
    refine⟨by rw[List.map_cons,List.map_cons,List.zipIdx_cons,List.map_cons,q1,e1'],fun v hv=>?_,⟨_,_,by rw[List.map_cons,List.flatMap_cons],(rep_cells _ _ _ _).2 hcs,q3⟩,by simp[q4]⟩
    rcases List.mem_cons.1 hv with rfl | hv
    ·have:=hcs.length;rw[cells_length] at this;simpa using this.symm
    ·exact q2 v hv
 obtain⟨q1,q2,q3,q4⟩:=hvals parts.toList 0 xs hfull hall
 have hpl:parts.toList.length=len:=by omega
 have hmul:len*(TI t).elem.size≤1048576*16:=Nat.mul_le_mul hlen h16
 have hrun:∃arr,(execOp a.eval o).run P w= .ok (.value (.slice (some ⟨w.heap.size,0,none⟩) len len)) (w.alloc (.cells arr (TI t).eid))∧arr.toList=(parts.toList.map fun p=>a.eval p.2).flatMap (·.cells.toList):=by
  by_cases h0:len=0
  ·subst h0
   have hp0:parts= #[]:=by apply Array.ext';exact List.eq_nil_of_length_eq_zero hpl
   subst hp0
   refine⟨#[],?_,rfl⟩
   simp[execOp,ho,Instr.buildSlice,run_underlying hu,sizeOf,typeInfo,g1,Instr.fill,newRow,Array.range_zero']
  ·obtain⟨c',p1,p2⟩:=fill_seq (n:=(TI t).elem.size) (parts.toList.map fun p=>a.eval p.2) 0 ((Array.range (len*ei.size)).map (z.cells[· % z.cells.size]!)) q2 (by simp[hpl,g2])
   refine⟨c',?_,by simpa using p2⟩
   have:=run_buildSlice (P:=P) w t (TI t).eid len (parts.map fun (i,x)=>(i,a.eval x)) c' ei z hu g1 g5 (by rw[g2];omega) (by rw[g2];exact Nat.mul_ne_zero h0 (by omega))
    (by rw[←p1,←q1,g2];simp)
   simp[execOp,ho,this]
 obtain⟨arr,hrun,harr⟩:=hrun
 obtain⟨q,hq⟩:=Option.ne_none_iff_exists'.1 hd
 have hdq:dstOf o=q:=by simp[dstOf,hq]
 have hsz:arr.size=len*(TI t).elem.size:=by
  have:=q3.length
  rw[←harr,hxl] at this
  simpa using this
 have hB:∀y:Cx,(cx X w β (nthb s.bk)).le y→y.w=w.alloc (.cells arr (TI t).eid)→y.β q=some w.heap.size→RepB y q (.arr (ver (nthb s.bk) q+1) (TI t).elem xs):=by
  intro y hle hw hb
  refine Or.inr ⟨_,arr,_,hb,by rw[hw];exact heap_alloc_new w _,fun i u hi=>?_⟩
  have hr:y.w.rangeAt w.heap.size 0 ((parts.toList.map fun p=>a.eval p.2).flatMap (·.cells.toList)):=by
   intro j v hj
   rw[hw,World.cell?_alloc_new,←harr] at*
   simpa using hj
  obtain⟨us,p1,p2⟩:=rowsF_to (RowsF.mono hle.I q3) hr i u hi
  exact⟨us,p1,by simpa using p2⟩
 have hmax:len≤maxLen:=by unfold maxLen;omega
 rcases h with h | h
 ·subst h
  rw[hdq,hq] at hN
  obtain⟨β',S'⟩:=S.new (dst:=q) (d:=q) rfl (av:= .one (.lsl (TI t).elem q (ver (nthb s.bk) q+1) 0 len)) (blk:= .arr (ver (nthb s.bk) q+1) (TI t).elem xs) (rd:=[q])
   (u:= .slice (some ⟨w.heap.size,0,none⟩) len len) (w':=w.alloc (.cells arr (TI t).eid)) (arr:=arr) (e:=(TI t).eid) rfl rfl rfl rfl rfl (by show xs.length≤_;omega) hB
   (fun y _ hw hb hc=>Or.inr ⟨⟨rfl,by omega⟩,fun _=>⟨_,_,rfl,Nat.le_refl _,hmax,by simp,.inr ⟨_,_,_,hb,by rw[Nat.zero_mul],by rw[hw];exact heap_alloc_new w _,by rw[hsz,Nat.zero_add];exact Nat.le_refl _⟩⟩⟩)
  exact wp_value hrun (by rw[hq];exact hN _ _ _ S')
 ·subst h
  have hβlt:∀k b,live (nthb s.bk) k→β k=some b→b<w.heap.size:=fun k b ⟨blk',hk',hl⟩ hb=>by
   have hlt:∀b o,w.heap[b]? =some o→b<w.heap.size:=fun b o h=>by
    rcases Nat.lt_or_ge b w.heap.size with h' | h'
    ·exact h'
    ·simp[Array.getElem?_eq_none h'] at h
   have r:=S.blocks k blk' hk'
   cases blk' with
   | dead _=>simp[Blk.live] at hl
   | var _ _=>obtain⟨b',arr,e,h1,h2,_⟩:=r;obtain rfl:b=b':=Option.some.inj (hb.symm.trans h1);exact hlt b _ h2
   | arr _ _ _=>
    rcases r with⟨h1,_⟩ |⟨b',arr,e,h1,h2,_⟩
    ·exact absurd (hb.symm.trans h1) (by simp)
    ·obtain rfl:b=b':=Option.some.inj (hb.symm.trans h1);exact hlt b _ h2
  have hheap:∀b,b<w.heap.size→(w.alloc (.cells arr (TI t).eid)).heap[b]? =w.heap[b]? :=fun b hb=>Below.heap_alloc _ _ _ hb
  have hgrow:w.heap.size≤(w.alloc (.cells arr (TI t).eid)).heap.size:=by simp
  have hI:∀b,(cx X w β (nthb s.bk)).I b→(cx X (w.alloc (.cells arr (TI t).eid)) β (nthb s.bk)).I b∧(w.alloc (.cells arr (TI t).eid)).heap[b]? =w.heap[b]? :=fun b hb=>⟨⟨⟨Nat.lt_of_lt_of_le hb.1.1 hgrow,hb.1.2⟩,hb.2⟩,hheap b hb.1.1⟩
  have S':=S.ext (dst:=o.dst) (v:= .one (.sl (TI t).elem xs)) (u:= .slice (some ⟨w.heap.size,0,none⟩) len len) (rd:=[]) (w':=w.alloc (.cells arr (TI t).eid)) hheap hgrow rfl rfl rfl (Or.inr (by
   refine⟨some ⟨w.heap.size,0,none⟩,len,by rw[hxl],by omega,by omega,.inr ⟨w.heap.size,0,rfl,⟨⟨by simp,fun id hl hb=>?_⟩,S.fresh _ S.size⟩,fun i u hi=>?_⟩⟩
   ·exact absurd (hβlt id _ hl hb) (by omega)
   ·have hr:(w.alloc (.cells arr (TI t).eid)).rangeAt w.heap.size 0 ((parts.toList.map fun p=>a.eval p.2).flatMap (·.cells.toList)):=by
     intro j v hj
     rw[World.cell?_alloc_new,←harr] at*
     simpa using hj
    exact rowsF_to (RowsF.mono hI q3) hr i u hi))
  exact wp_value hrun (hN _ _ _ S')
end
end Go.Abs
namespace Go.Abs
open Go.RowKit
section
variable {P:Program} {TI:TypeId→Info}
theorem call_run {a:Act} {w:World} {o:Oper} {c:Call} {x:Operand} {g:FuncId} (ho:o.op= .call c) (hc:c.callee= .value x) (hx:a.eval x= .func (.func g) #[] #[]) (hf:Callee P g):
  (execOp a.eval o).run P w= .ok (.enter g (c.args.map a.eval)) w:=by
 obtain⟨fn,body,h1,h2,h3⟩:=hf
 have h4 : fn.name ≠ "runtime.NumGoroutine" := by simpa using h2
 simp[execOp,ho,resolve,hc,hx,Deferred.ofValue,invoke,callFunc,h1,h4,h3]
theorem wp_call {a:Act} {w:World} {o:Oper} {c:Call} {x:Operand} {g:FuncId} {N:Act→World→Prop} {Q:Exit→Act→World→Prop} (ho:o.op= .call c) (hc:c.callee= .value x) (hx:a.eval x= .func (.func g) #[] #[]) (hf:Callee P g)
  {R:Ending→World→Prop} (h:Calls P g (c.args.map a.eval) w R) (hR:∀e w',R e w'→∃u,e= .returned u∧N (a.put o.dst u) w'):o.wp P a w N Q:=by
 unfold Oper.wp
 rw[call_run ho hc hx hf,Oper.upon_enter]
 exact h.mono fun e w' hr=>by obtain⟨u,rfl,hn⟩:=hR e w' hr;exact hn
theorem pure_rep {x y:Cx} (h:∀b,x.I b→y.I b∧y.w.heap[b]? =x.w.heap[b]?):∀{c:AC} {v:Value},pureC c=true→RepC x c v→RepC y c v
 | .junk,_,_,r=>r
 | .int _ _,_,_,r=>r
 | .bool _,_,_,r=>r
 | .fn _,_,_,r=>r
 | .nil,_,_,r=>r
 | .sl _ _,_,_,r=>rep_mono h _ _ _ r
 | .lsl _ _ _ _ _,_,e,_=>by simp[pureC] at e
 | .csl _ _ _ _ _,_,e,_=>by simp[pureC] at e
 | .lptr _ _ _,_,e,_=>by simp[pureC] at e
 | .eptr _ _ _ _ _,_,e,_=>by simp[pureC] at e
 | .pptr _ _ _,_,e,_=>by simp[pureC] at e
 | .ub _,_,e,_=>by simp[pureC] at e
 | .own _ _ _,_,e,_=>by simp[pureC] at e
theorem leC_pure:∀{c d:AC},leC c d→pureC d=true
 | .int _ _,_,h=>by rw[show _=_ from h];rfl
 | .bool _,_,h=>by rw[show _=_ from h];rfl
 | .fn _,_,h=>by rw[show _=_ from h];rfl
 | .sl _ _,_,h=>by rw[show _=_ from h];rfl
 | .nil,_,h=>by rcases h with rfl |⟨t,rfl⟩ <;> rfl
 | .junk,_,h=>h.elim
 | .lsl _ _ _ _ _,_,h=>h.elim
 | .csl _ _ _ _ _,_,h=>h.elim
 | .lptr _ _ _,_,h=>h.elim
 | .eptr _ _ _ _ _,_,h=>h.elim
 | .pptr _ _ _,_,h=>h.elim
 | .ub _,_,h=>h.elim
 | .own _ _ _,_,h=>h.elim
theorem allC_pure:∀{l m:List AC},allC leC l m→m.all pureC=true
 | [],[],_=>rfl
 | _::_,_::_,h=>by simp[leC_pure h.1,allC_pure h.2]
 | [],_::_,h=>h.elim
 | _::_,[],h=>h.elim
theorem All2.pure {x y:Cx} (h:∀b,x.I b→y.I b∧y.w.heap[b]? =x.w.heap[b]?):∀{cs:List AC} {vs:List Value},cs.all pureC=true→All2 (RepC x) cs vs→All2 (RepC y) cs vs
 | [],[],_,_=>trivial
 | _::_,_::_,e,r=>by simp only[List.all_cons,Bool.and_eq_true] at e;exact⟨pure_rep h e.1 r.1,All2.pure h e.2 r.2⟩
 | [],_::_,_,r=>r.elim
 | _::_,[],_,r=>r.elim
theorem args_le {x y:Cx} (h:∀b,x.I b→y.I b∧y.w.heap[b]? =x.w.heap[b]?):∀{l m:List AV} {vs:List Value},allV leC l m→All2 (RepV x) l vs→All2 (RepV y) m vs
 | [],[],[],_,_=>trivial
 | .one c::_,.one d::_,_::_,hl,r=>⟨Or.inr (pure_rep h (leC_pure hl.1) (leC_rep hl.1 (repV_one r.1 (by intro e;subst e;exact hl.1.elim)))),args_le h hl.2 r.2⟩
 | .agg c::_,.agg d::_,_::_,hl,r=>by
  obtain⟨arr,e,hr⟩:=r.1
  exact⟨⟨arr,e,All2.pure h (allC_pure hl.1) (allC_rep (fun _ _ _=>leC_rep) hl.1 hr)⟩,args_le h hl.2 r.2⟩
 | [],_::_,_,hl,_=>hl.elim
 | _::_,[],_,hl,_=>hl.elim
 | .one _::_,.agg _::_,_,hl,_=>hl.1.elim
 | .one _::_,.tup _::_,_,hl,_=>hl.1.elim
 | .agg _::_,.one _::_,_,hl,_=>hl.1.elim
 | .agg _::_,.tup _::_,_,hl,_=>hl.1.elim
 | .tup _::_,.one _::_,_,hl,_=>hl.1.elim
 | .tup _::_,.agg _::_,_,hl,_=>hl.1.elim
 | .tup _::_,.tup _::_,_,hl,_=>hl.1.elim
 | [],[],_::_,_,r=>r.elim
 | .one _::_,.one _::_,[],_,r=>r.elim
 | .agg _::_,.agg _::_,[],_,r=>r.elim
theorem snapC_rep {w0:World} {X:WX} {β:Nat→Option Nat} {s:St} {a:Act} {w:World} (S:SimB w0 X β s a w) {J:Nat→Prop} (hJ:∀b,(cx X w β (nthb s.bk)).I b→J b):∀{c d:AC} {v:Value},(∀id b,id∈idsC c→live (nthb s.bk) id→β id=some b→b<w.heap.size→J b)→snapC (nthb s.bk) c d→RepC (cx X w β (nthb s.bk)) c v→RepC (nocx w J) d v
 | .int _ _,_,_,_,h,r=>by rw[show _=_ from h];exact r
 | .bool _,_,_,_,h,r=>by rw[show _=_ from h];exact r
 | .fn _,_,_,_,h,r=>by rw[show _=_ from h];exact r
 | .sl t l,_,v,_,h,r=>by
  rw[show _=_ from h]
  exact rep_mono (w':=w) (fun b hb=>⟨hJ b hb,rfl⟩) (.sl t) l [v] r
 | .nil,_,_,_,h,r=>by
  rcases h with rfl |⟨t,rfl⟩
  ·exact r
  ·rw[show _=_ from r];exact⟨none,0,rfl,Nat.le_refl _,by simp,.inl rfl⟩
 | .lsl t id vv off len,d,v,hids,⟨l,hb,hle,h⟩,r=>by
  subst h
  have hlt:∀b o,w.heap[b]? =some o→b<w.heap.size:=fun b o h=>by
   rcases Nat.lt_or_ge b w.heap.size with h' | h'
   ·exact h'
   ·simp[Array.getElem?_eq_none h'] at h
  obtain⟨base,cap,hs,h1,h2,h3⟩:=lsl_val r (ver_of hb).symm
  have hlen:((l.drop off).take len).length=len:=by simp;omega
  subst hs
  refine⟨base,cap,by rw[hlen],by rw[hlen];exact h1,?_,?_⟩
  ·have:=S.lens id _ hb;simp only[Blk.short] at this;omega
  ·by_cases h0:len=0
   ·left;subst h0;simp
   ·rcases h3 with rfl |⟨b,arr,e,q1,rfl,q3,q4⟩
    ·omega
    rcases S.blocks id _ hb with⟨p1,p2⟩ |⟨b',arr',e',p1,p2,p3⟩
    ·exact absurd (p1.symm.trans q1) (by simp)
    obtain rfl:b'=b:=Option.some.inj (p1.symm.trans q1)
    refine .inr ⟨b',off*t.size,rfl,hids id b' (by simp[idsC]) ⟨_,hb,rfl⟩ p1 (hlt _ _ q3),fun i y hy=>?_⟩
    have hy':l[off+i]? =some y:=by
     rw[List.getElem?_take] at hy
     split at hy
     ·simpa using hy
     ·cases hy
    obtain⟨us,k1,k2⟩:=p3 _ y hy'
    exact⟨us,rep_mono (w':=w) (fun b hb=>⟨hJ b hb,rfl⟩) _ _ _ k1,by rw[←Nat.add_mul];exact k2⟩
 | .junk,_,_,_,h,_=>h.elim
 | .csl _ _ _ _ _,_,_,_,h,_=>h.elim
 | .lptr _ _ _,_,_,_,h,_=>h.elim
 | .eptr _ _ _ _ _,_,_,_,h,_=>h.elim
 | .pptr _ _ _,_,_,_,h,_=>h.elim
 | .ub _,_,_,_,h,_=>h.elim
 | .own _ _ _,_,_,_,h,_=>h.elim
end
end Go.Abs
