/- Part 6 of a proof. Conditions: each theorem's own. -/
import Derived.Laws.Tables
import Derived.Great.BuildSlice
import Derived.DataShut
import Derived.Test.YtjpiilcgomggaaaGreatPk04
set_option linter.all false
set_option maxHeartbeats 8000000
namespace Go.Abs
open Go.RowKit
theorem QP:∀(l:List Value) (off k:Nat) (c:Array Value),((l.zipIdx k).foldl (fun (cs:Array Value) (x:Value×Nat)=>cs.setIfInBounds (off+x.2) x.1) c).toList=CI c.toList (off+k) l
 | [],off,k,c=>by simp[M7]
 | v::l,off,k,c=>by
  rw[List.zipIdx_cons,List.foldl_cons,QP l off (k+1),Array.toList_setIfInBounds,<-Nat.add_assoc,M8]
theorem QL {place:Nat->Option (Nat×Nat)} {c:Array Value} {i:Nat} {v:Value} {r:List (Nat×Value)} {off n:Nat} (d:place i=some (off,n)) (g:v.cells.size=n) (f:off+n<=c.size):
  ∃a,a.toList=CI c.toList off v.cells.toList/\Instr.fill place c ((i,v)::r)=Instr.fill place a r:=by
 refine⟨v.cells.zipIdx.foldl (fun cs (x,j)=>cs.setIfInBounds (off+j) x) c,?_,?_⟩
 ·have:=QP v.cells.toList off 0 c;rw[Nat.add_zero] at this;rw[<-this,<-Array.foldl_toList,Array.toList_zipIdx]
 have b:¬(v.cells.size≠n\/off+v.cells.size>c.size):=by omega
 rw[Instr.fill];simp only[d];rw[if_neg (by simpa using b)]
theorem Mc {α:Type}:∀(l:List α) (o:Nat) (xs:List α),(CI l o xs).length=l.length
 | _,0,[]=>by rw[M7]
 | [],0,_::_=>rfl
 | _::cs,0,_::xs=>by simp[CI,Mc cs 0 xs]
 | [],_+1,_=>rfl
 | _::cs,o+1,xs=>by simp[CI,Mc cs o xs]
section
variable {P:Program} {E:Env} {TI:TypeId->Info}
theorem QJ {x:Cx} {s:St} {a:Act} (f:∀o,At x (ev s.sl o) (a.eval o)) {b:List (Nat×Nat×Bool)} {pl:Nat->Option (Nat×Nat)} (j:∀(i o n:Nat) (g:Bool),b[i]? =some (o,n,g)->pl i=some (o,n)):
  ∀(parts:List (Nat×Operand)) (cs r:List AC) (c:Array Value),FB b (ev s.sl) parts cs=some r->AO (Af x) cs c.toList->
   ∃k,Instr.fill pl c (parts.map fun p=>(p.1,a.eval p.2))=some k/\AO (Af x) r k.toList
 | [],cs,r,c,h,l=>⟨c,rfl,by simp[FB] at h;subst h;exact l⟩
 | (i,o)::parts,cs,r,c,h,l=>by
  simp only[FB] at h
  split at h
  ·rename_i off n g z
   split at h
   ·rename_i w
    obtain⟨v,q,F⟩:=w;have t:∀xs,ev s.sl o≠ .AG xs:=fun xs e=>by rw[e] at q;simp[AV.full] at q
    have d:=(Iz (f o) t).cells q;have u:(a.eval o).cells.size=n:=by have:=d.length;rw[v] at this;simpa using this.symm
    have y:=l.length;simp only[Array.length_toList] at y;obtain⟨k,C,D⟩:=QL (c:=c) (r:=parts.map fun p=>(p.1,a.eval p.2)) (j i off n g z) u (by omega);obtain⟨m,A,B⟩:=QJ f j parts _ r k h (by rw[C];exact l.CI off d);exact⟨m,by rw[List.map_cons,D];exact A,B⟩
   cases h
  cases h
theorem ZF (hT:∀t,Ce P t (TI t)) {o:Oper} {t:TypeId} {parts:Array (Nat×Operand)} (F:o.op= .build t parts):Sound P E TI o:=by
 intro w0 X β s a w S f h N Q O;simp only[BP,F] at h;obtain⟨⟨D,r⟩,h⟩:=h;obtain⟨ti,z,d,K,Y,L,M,Z,h6,h7⟩:=(hT t).info D
 split at h
 ·rename_i cs T
  subst h;have v:(TI t).fields≠[]:=fun e=>by simp[e] at r
  obtain⟨m,hu,hlen,q⟩:=(hT t).fields D v
  have c:∃b,m.toList.mapM (fun f=>(P.info? f.type).map fun i=>(f.offset,i.size))=some b/\∀(i o n:Nat) (g:Bool),(TI t).fields[i]? =some (o,n,g)->b[i]? =some (o,n):=by
   refine⟨(TI t).fields.map fun x=>(x.1,x.2.1),mapM_some_of_get _ _ (by simpa using hlen) fun i x hx=>?_,fun i o n g j=>by simp[j]⟩
   have j:i<(TI t).fields.length:=by
    rcases Nat.lt_or_ge i m.toList.length with p | p
    ·simpa [hlen] using p
    rw[List.getElem?_eq_none p] at hx;cases hx
   obtain⟨J,W,H,I,C,_⟩:=q i (TI t).fields[i].1 (TI t).fields[i].2.1 (TI t).fields[i].2.2 (by simp[j])
   have:x=J:=by have k:m[i]? =some x:=by simpa using hx
                rw[H] at k;exact (Option.some.inj k).symm
   subst this;cases G:P.info? x.type with
   | none=>simp[G] at C
   | some B=>
    have:B.size=(TI t).fields[i].2.1:=by simpa [G] using C
    simp[j,I,this]
  obtain⟨b,y,A⟩:=c;obtain⟨l,U,V⟩:=QJ (Bm S.BS) (pl:=fun i=>b.toArray[i]?) (fun i o n g j=>by simpa using A i o n g j) parts.toList _ _ z.cells T (M _)
  have R:P.built t (parts.map fun (i,x)=>(i,a.eval x)).toList=some l:=by
   unfold Program.built;simp only[K,hu,L,y];simpa using U
  refine BT (u:= .agg l) (w':=w) ?_ (O _ _ _ (S.val ⟨l,rfl,V⟩));simp[execOp,F,run_build w t _ l R]
 exact h.elim
theorem M6:∀(pre aj post a:List Value),a.length=aj.length->CI (pre++(aj++post)) pre.length a=pre++(a++post)
 | [],[],post,[],_=>by cases post <;> rfl
 | [],m::aj,post,v::a,h=>by
  have:=M6 [] aj post a (by simpa using h);simp only[List.nil_append,List.length_nil] at this;simp[CI,this]
 | p::pre,aj,post,a,h=>by simp[CI,M6 pre aj post a h]
 |[],[],_,_::_,h|[],_::_,_,[],h=>by simp at h
theorem QK {n:Nat}:∀(a:List Value) (k:Nat) (c:Array Value),(∀v∈a,v.cells.size=n)->c.size=(k+a.length)*n->
  ∃d,Instr.fill (fun i=>some (i*n,n)) c (a.zipIdx k |>.map fun x=>(x.2,x.1))=some d/\d.toList=c.toList.take (k*n)++a.flatMap (·.cells.toList)
 | [],k,c,_,j=>⟨c,rfl,by simp at j;rw[<-j,List.take_of_length_le (by simp)];simp⟩
 | v::a,k,c,p,j=>by
  have f:=p v (by simp);have h:c.size=k*n+(n+a.length*n):=by rw[j,List.length_cons,Nat.add_mul,Nat.succ_mul];omega
  obtain⟨d,q,z⟩:=QL (place:=fun i=>some (i*n,n)) (c:=c) (i:=k) (v:=v) (r:=(a.zipIdx (k+1)).map fun x=>(x.2,x.1)) (off:=k*n) (n:=n) rfl f (by omega);have o:c.toList.length=k*n+(n+a.length*n):=by simpa using h
  have s:c.toList=c.toList.take (k*n)++((c.toList.drop (k*n)).take n++c.toList.drop (k*n+n)):=by
   rw[<-List.drop_drop,List.take_append_drop,List.take_append_drop]
  have b:(c.toList.take (k*n)).length=k*n:=by simp[o]
  have g:v.cells.toList.length=((c.toList.drop (k*n)).take n).length:=by simp[f,o]
  have t:d.toList=c.toList.take (k*n)++(v.cells.toList++c.toList.drop (k*n+n)):=by
   rw[q];conv=>lhs;rw[s]
   have:=M6 (c.toList.take (k*n)) ((c.toList.drop (k*n)).take n) (c.toList.drop (k*n+n)) v.cells.toList g;rwa [b] at this
  have m:d.size=(k+1+a.length)*n:=by
   have:d.toList.length=c.toList.length:=by rw[q,Mc]
   simp only[Array.length_toList] at this;rw[this,h,Nat.add_mul,Nat.add_mul];omega
  obtain⟨l,w,y⟩:=QK a (k+1) d (fun u hu=>p u (by simp[hu])) m;refine⟨l,by rw[List.zipIdx_cons,List.map_cons,z];exact w,?_⟩;rw[y,t,List.flatMap_cons]
  have:(c.toList.take (k*n)++(v.cells.toList++c.toList.drop (k*n+n))).take ((k+1)*n)=c.toList.take (k*n)++v.cells.toList:=by
   rw[<-List.append_assoc,List.take_left'];simp[b,f,Nat.add_mul]
  rw[this,List.append_assoc]
theorem ZG (hT:∀t,Ce P t (TI t)) {o:Oper} {t:TypeId} {len:Nat} {parts:Array (Nat×Operand)} (ho:o.op= .buildSlice t len parts) (hd:o.dst≠none):Sound P E TI o:=by
 intro w0 X β s a w S f h N Q hN;simp only[BP,ho] at h;obtain⟨hk,Z,xs,a8,h⟩:=h;obtain⟨U,hlen,G,K⟩:=a8 ();obtain⟨hu,ei,z,g1,g2,g3,g4,g5,g6⟩:=(hT t).sl hk;have aa:=T.size_pos (TI t).elem;have ab:z.cells.size=(TI t).elem.size:=by have:=(g6 (cx X w β (AD s.bk))).length;rw[Ef] at this;simpa using this.symm
 have H:∀(C:List (Nat×Operand)) (k:Nat) (ys:List (el (TI t).elem)),(C.all fun p=>(ev s.sl p.2).full)=true->Ll (C.map fun p=>(p.1,(ev s.sl p.2).cs)) k (ys.map (cells _))->
   (C.map fun p=>(p.1,a.eval p.2))=((C.map fun p=>a.eval p.2).zipIdx k).map (fun x=>(x.2,x.1))/\(∀v∈C.map fun p=>a.eval p.2,v.cells.size=(TI t).elem.size)/\
   Bz w (cx X w β (AD s.bk)).I (TI t).elem ys ((C.map fun p=>a.eval p.2).flatMap (·.cells.toList))/\ys.length=C.length:=by
  intro C
  induction C with
  | nil=>intro k ys _ F;cases ys with
   | nil=>exact⟨rfl,by simp,rfl,rfl⟩
   | cons y ys=>exact F.elim
  | cons p C ih=>
   intro k ys l F;cases ys with
   | nil=>exact F.elim
   | cons y ys=>
    obtain⟨e1,e2,e3⟩:=F;simp only[List.all_cons,Bool.and_eq_true] at l;have a5:∀xs,ev s.sl p.2≠ .AG xs:=fun xs e=>by rw[e] at l;simp[AV.full] at l
    have L:=JY (fun _ _ _=>KI) e2 ((Iz (Bm S.BS p.2) a5).cells l.1);obtain⟨q1,q2,V,q4⟩:=ih (k+1) ys l.2 e3;have Y:p.1=k:=e1;refine⟨by rw[List.map_cons,List.map_cons,List.zipIdx_cons,List.map_cons,q1,Y],fun v hv=>?_,⟨_,_,by rw[List.map_cons,List.flatMap_cons],(FK _ _ _ _).2 L,V⟩,by simp[q4]⟩;rcases List.mem_cons.1 hv with rfl | hv
    ·have:=L.length;rw[Ef] at this;simpa using this.symm
    exact q2 v hv
 obtain⟨q1,q2,V,q4⟩:=H parts.toList 0 xs G K;have R:parts.toList.length=len:=by omega
 have hmul:len*(TI t).elem.size<=1048576*16:=Nat.mul_le_mul hlen Z
 have g:∃arr,(execOp a.eval o).run P w= .ok (.value (.slice (some ⟨w.heap.size,0,none⟩) len len)) (w.alloc (.cells arr (TI t).B7))/\arr.toList=(parts.toList.map fun p=>a.eval p.2).flatMap (·.cells.toList):=by
  by_cases h0:len=0
  ·subst h0;have a6:parts= #[]:=by apply Array.ext';exact List.eq_nil_of_length_eq_zero R
   subst a6;refine⟨#[],?_,rfl⟩;simp[execOp,ho,Instr.buildSlice,run_underlying hu,sizeOf,typeInfo,g1,Instr.fill,newRow,Array.range_zero']
  obtain⟨c',p1,p2⟩:=QK (n:=(TI t).elem.size) (parts.toList.map fun p=>a.eval p.2) 0 ((Array.range (len*ei.size)).map (z.cells[· % z.cells.size]!)) q2 (by simp[R,g2]);refine⟨c',?_,by simpa using p2⟩
  have:=run_buildSlice (P:=P) w t (TI t).B7 len (parts.map fun (i,x)=>(i,a.eval x)) c' ei z hu g1 g5 (by rw[g2];omega) (by rw[g2];exact Nat.mul_ne_zero h0 (by omega))
   (by rw[<-p1,<-q1,g2];simp)
  simp[execOp,ho,this]
 obtain⟨arr,g,m⟩:=g;obtain⟨q,hq⟩:=Option.ne_none_iff_exists'.1 hd;have a1:Ax o=q:=by simp[Ax,hq]
 have a7:arr.size=len*(TI t).elem.size:=by
  have:=V.length;rw[<-m,U] at this;simpa using this
 have hB:∀y:Cx,(cx X w β (AD s.bk)).le y->y.w=w.alloc (.cells arr (TI t).B7)->y.β q=some w.heap.size->Bx y q (.arr (AM (AD s.bk) q+1) (TI t).elem xs):=by
  intro y hle hw c;refine Or.inr ⟨_,arr,_,c,by rw[hw];exact heap_alloc_new w _,fun i u hi=>?_⟩
  have hr:y.w.rangeAt w.heap.size 0 ((parts.toList.map fun p=>a.eval p.2).flatMap (·.cells.toList)):=by
   intro j v hj;rw[hw,World.cell?_alloc_new,<-m] at*;simpa using hj
  obtain⟨us,p1,p2⟩:=I2 (Bz.mono hle.I V) hr i u hi;exact⟨us,p1,by simpa using p2⟩
 have O:len<=maxLen:=by unfold maxLen;omega
 rcases h with h | h
 ·subst h;rw[a1,hq] at hN
  obtain⟨ad,W⟩:=S.new (dst:=q) (d:=q) rfl (av:= .one (.AL (TI t).elem q (AM (AD s.bk) q+1) 0 len)) (As:= .arr (AM (AD s.bk) q+1) (TI t).elem xs) (rd:=[q])
   (u:= .slice (some ⟨w.heap.size,0,none⟩) len len) (w':=w.alloc (.cells arr (TI t).B7)) (arr:=arr) (e:=(TI t).B7) rfl rfl rfl rfl rfl (by show xs.length<=_;omega) hB
   (fun y _ hw c hc=>Or.inr ⟨⟨rfl,by omega⟩,fun _=>⟨_,_,rfl,Nat.le_refl _,O,by simp,.inr ⟨_,_,_,c,by rw[Nat.zero_mul],by rw[hw];exact heap_alloc_new w _,by rw[a7,Nat.zero_add];exact Nat.le_refl _⟩⟩⟩)
  exact BT g (by rw[hq];exact hN _ _ _ W)
 subst h
 have J:∀k b,live (AD s.bk) k->β k=some b->b<w.heap.size:=fun k b ⟨D,a2,hl⟩ c=>by
  have M:∀b o,w.heap[b]? =some o->b<w.heap.size:=fun b o h=>by
   rcases Nat.lt_or_ge b w.heap.size with h' | h'
   ·exact h'
   simp[Array.getElem?_eq_none h'] at h
  have r:=S.blocks k D a2;cases D with
  | dead _=>simp[AH.live] at hl
  | var _ _=>obtain⟨b',arr,e,l,F,_⟩:=r;obtain rfl:b=b':=Option.some.inj (c.symm.trans l);exact M b _ F
  | arr _ _ _=>
   rcases r with⟨l,_⟩ |⟨b',arr,e,l,F,_⟩
   ·exact absurd (c.symm.trans l) (by simp)
   obtain rfl:b=b':=Option.some.inj (c.symm.trans l);exact M b _ F
 have B:∀b,b<w.heap.size->(w.alloc (.cells arr (TI t).B7)).heap[b]? =w.heap[b]? :=fun b c=>Below.heap_alloc _ _ _ c
 have A:w.heap.size<=(w.alloc (.cells arr (TI t).B7)).heap.size:=by simp
 have hI:∀b,(cx X w β (AD s.bk)).I b->(cx X (w.alloc (.cells arr (TI t).B7)) β (AD s.bk)).I b/\(w.alloc (.cells arr (TI t).B7)).heap[b]? =w.heap[b]? :=fun b c=>⟨⟨⟨Nat.lt_of_lt_of_le c.1.1 A,c.1.2⟩,c.2⟩,B b c.1.1⟩
 have W:=S.ext (dst:=o.dst) (v:= .one (.sl (TI t).elem xs)) (u:= .slice (some ⟨w.heap.size,0,none⟩) len len) (rd:=[]) (w':=w.alloc (.cells arr (TI t).B7)) B A rfl rfl rfl (Or.inr (by
  refine⟨some ⟨w.heap.size,0,none⟩,len,by rw[U],by omega,by omega,.inr ⟨w.heap.size,0,rfl,⟨⟨by simp,fun id hl c=>?_⟩,S.fresh _ S.size⟩,fun i u hi=>?_⟩⟩
  ·exact absurd (J id _ hl c) (by omega)
  have hr:(w.alloc (.cells arr (TI t).B7)).rangeAt w.heap.size 0 ((parts.toList.map fun p=>a.eval p.2).flatMap (·.cells.toList)):=by
   intro j v hj;rw[World.cell?_alloc_new,<-m] at*;simpa using hj
  exact I2 (Bz.mono hI V) hr i u hi))
 exact BT g (hN _ _ _ W)
end
end Go.Abs
namespace Go.Abs
open Go.RowKit
section
variable {P:Program} {TI:TypeId->Info}
theorem WA {a:Act} {w:World} {o:Oper} {c:Call} {x:Operand} {g:FuncId} (k:o.op= .call c) (i:c.callee= .value x) (hx:a.eval x= .func (.func g) #[] #[]) (j:Callee P g):
  (execOp a.eval o).run P w= .ok (.enter g (c.args.map a.eval)) w:=by
 obtain⟨fn,body,b,d,f⟩:=j;have h : fn.name ≠ "runtime.NumGoroutine" := by simpa using d
 simp[execOp,k,resolve,i,hx,Deferred.ofValue,invoke,callFunc,b,h,f]
theorem LH {a:Act} {w:World} {o:Oper} {c:Call} {x:Operand} {g:FuncId} {N:Act->World->Prop} {Q:Exit->Act->World->Prop} (i:o.op= .call c) (b:c.callee= .value x) (hx:a.eval x= .func (.func g) #[] #[]) (d:Callee P g)
  {R:Ending->World->Prop} (h:Calls P g (c.args.map a.eval) w R) (hR:∀e w',R e w'->∃u,e= .returned u/\N (a.put o.dst u) w'):o.wp P a w N Q:=by
 unfold Oper.wp;rw[WA i b hx d,Oper.upon_enter];exact h.mono fun e w' j=>by obtain⟨u,rfl,f⟩:=hR e w' j;exact f
theorem Ir {x y:Cx} (h:∀b,x.I b->y.I b/\y.w.heap[b]? =x.w.heap[b]?):∀{c:AC} {v:Value},Ah c=true->Af x c v->Af y c v
 |.A4,_,_,r|.int _ _,_,_,r|.bool _,_,_,r|.fn _,_,_,r|.nil,_,_,r=>r
 | .sl _ _,_,_,r=>Bi h _ _ _ r
 |.AL _ _ _ _ _,_,e,_|.CD _ _ _ _ _,_,e,_|.An _ _ _,_,e,_|.Bv _ _ _ _ _,_,e,_|.CN _ _ _,_,e,_|.ub _,_,e,_|.own _ _ _,_,e,_=>by simp[Ah] at e
theorem Qq:∀{c d:AC},Ak c d->Ah d=true
 |.int _ _,_,h|.bool _,_,h|.fn _,_,h|.sl _ _,_,h=>by rw[show _=_ from h];rfl
 | .nil,_,h=>by rcases h with rfl |⟨t,rfl⟩ <;> rfl
 |.A4,_,h|.AL _ _ _ _ _,_,h|.CD _ _ _ _ _,_,h|.An _ _ _,_,h|.Bv _ _ _ _ _,_,h|.CN _ _ _,_,h|.ub _,_,h|.own _ _ _,_,h=>h.elim
theorem Oz:∀{l m:List AC},Ae Ak l m->m.all Ah=true
 | [],[],_=>rfl
 | _::_,_::_,h=>by simp[Qq h.1,Oz h.2]
 |[],_::_,h|_::_,[],h=>h.elim
theorem AO.pure {x y:Cx} (h:∀b,x.I b->y.I b/\y.w.heap[b]? =x.w.heap[b]?):∀{cs:List AC} {a:List Value},cs.all Ah=true->AO (Af x) cs a->AO (Af y) cs a
 | [],[],_,_=>trivial
 | _::_,_::_,e,r=>by simp only[List.all_cons,Bool.and_eq_true] at e;exact⟨Ir h e.1 r.1,AO.pure h e.2 r.2⟩
 |[],_::_,_,r|_::_,[],_,r=>r.elim
theorem Lo {x y:Cx} (h:∀b,x.I b->y.I b/\y.w.heap[b]? =x.w.heap[b]?):∀{l m:List AV} {f:List Value},Ed Ak l m->AO (At x) l f->AO (At y) m f
 | [],[],[],_,_=>trivial
 | .one c::_,.one d::_,_::_,a,r=>⟨Or.inr (Ir h (Qq a.1) (KI a.1 (A0 r.1 (by intro e;subst e;exact a.1.elim)))),Lo h a.2 r.2⟩
 | .agg c::_,.agg d::_,_::_,a,r=>by
  obtain⟨arr,e,g⟩:=r.1;exact⟨⟨arr,e,AO.pure h (Oz a.1) (JY (fun _ _ _=>KI) a.1 g)⟩,Lo h a.2 r.2⟩
 |[],_::_,_,a,_|_::_,[],_,a,_=>a.elim
 |.one _::_,.agg _::_,_,a,_|.one _::_,.AG _::_,_,a,_|.agg _::_,.one _::_,_,a,_|.agg _::_,.AG _::_,_,a,_|.AG _::_,.one _::_,_,a,_|.AG _::_,.agg _::_,_,a,_|.AG _::_,.AG _::_,_,a,_=>a.1.elim
 |[],[],_::_,_,r|.one _::_,.one _::_,[],_,r|.agg _::_,.agg _::_,[],_,r=>r.elim
theorem Sp {w0:World} {X:WX} {β:Nat->Option Nat} {s:St} {a:Act} {w:World} (S:Aw w0 X β s a w) {J:Nat->Prop} (q:∀b,(cx X w β (AD s.bk)).I b->J b):∀{c d:AC} {v:Value},(∀id b,id∈BV c->live (AD s.bk) id->β id=some b->b<w.heap.size->J b)->DF (AD s.bk) c d->Af (cx X w β (AD s.bk)) c v->Af (CM w J) d v
 |.int _ _,_,_,_,h,r|.bool _,_,_,_,h,r|.fn _,_,_,_,h,r=>by rw[show _=_ from h];exact r
 | .sl t l,_,v,_,h,r=>by
  rw[show _=_ from h];exact Bi (w':=w) (fun b f=>⟨q b f,rfl⟩) (.sl t) l [v] r
 | .nil,_,_,_,h,r=>by
  rcases h with rfl |⟨t,rfl⟩
  ·exact r
  rw[show _=_ from r];exact⟨none,0,rfl,Nat.le_refl _,by simp,.inl rfl⟩
 | .AL t id vv off len,d,v,g,⟨l,f,hle,h⟩,r=>by
  subst h
  have m:∀b o,w.heap[b]? =some o->b<w.heap.size:=fun b o h=>by
   rcases Nat.lt_or_ge b w.heap.size with h' | h'
   ·exact h'
   simp[Array.getElem?_eq_none h'] at h
  obtain⟨base,cap,B,z,G,A⟩:=KO r (DZ f).symm;have hlen:((l.drop off).take len).length=len:=by simp;omega
  subst B;refine⟨base,cap,by rw[hlen],by rw[hlen];exact z,?_,?_⟩
  ·have:=S.lens id _ f;simp only[AH.short] at this;omega
  by_cases x:len=0
  ·left;subst x;simp
  rcases A with rfl |⟨b,arr,e,u,rfl,F,H⟩
  ·omega
  rcases S.blocks id _ f with⟨k,C⟩ |⟨b',p,e',k,C,D⟩
  ·exact absurd (k.symm.trans u) (by simp)
  obtain rfl:b'=b:=Option.some.inj (k.symm.trans u);refine .inr ⟨b',off*t.size,rfl,g id b' (by simp[BV]) ⟨_,f,rfl⟩ k (m _ _ F),fun i y j=>?_⟩
  have n:l[off+i]? =some y:=by
   rw[List.getElem?_take] at j
   split at j
   ·simpa using j
   cases j
  obtain⟨us,k1,k2⟩:=D _ y n;exact⟨us,Bi (w':=w) (fun b f=>⟨q b f,rfl⟩) _ _ _ k1,by rw[<-Nat.add_mul];exact k2⟩
 |.A4,_,_,_,h,_|.CD _ _ _ _ _,_,_,_,h,_|.An _ _ _,_,_,_,h,_|.Bv _ _ _ _ _,_,_,_,h,_|.CN _ _ _,_,_,_,h,_|.ub _,_,_,_,h,_|.own _ _ _,_,_,_,h,_=>h.elim
end
end Go.Abs
