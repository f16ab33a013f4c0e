/- Part 6 of a proof. Conditions: each theorem's own. -/
import Derived.Laws.Tables
import Derived.Great.BuildSlice
import Derived.DataShut
import Derived.Test.YtoonaidhfikkeaaGreatPk04
set_option linter.all false
set_option maxHeartbeats 8000000
namespace Go.Abs
open Go.RowKit
theorem QU:∀(l:List Value) (off k:Nat) (c:Array Value),((l.zipIdx k).foldl (fun (cs:Array Value) (x:Value×Nat)=>cs.setIfInBounds (off+x.2) x.1) c).toList=CN c.toList (off+k) l
 | [],off,k,c=>by simp[NB]
 | v::l,off,k,c=>by
  rw[List.zipIdx_cons,List.foldl_cons,QU l off (k+1),Array.toList_setIfInBounds,<-Nat.add_assoc,NC]
theorem QO {place:Nat->Option (Nat×Nat)} {c:Array Value} {i:Nat} {v:Value} {r:List (Nat×Value)} {off n:Nat} (d:place i=some (off,n)) (g:v.cells.size=n) (f:off+n<=c.size):
  ∃a,a.toList=CN c.toList off v.cells.toList/\Instr.fill place c ((i,v)::r)=Instr.fill place a r:=by
 refine⟨v.cells.zipIdx.foldl (fun cs (x,j)=>cs.setIfInBounds (off+j) x) c,?_,?_⟩
 ·have:=QU v.cells.toList off 0 c;rw[Nat.add_zero] at this;rw[<-this,<-Array.foldl_toList,Array.toList_zipIdx]
 have b:¬(v.cells.size≠n\/off+v.cells.size>c.size):=by omega
 rw[Instr.fill];simp only[d];rw[if_neg (by simpa using b)]
theorem Mf {α:Type}:∀(l:List α) (o:Nat) (xs:List α),(CN l o xs).length=l.length
 | _,0,[]=>by rw[NB]
 | [],0,_::_=>rfl
 | _::cs,0,_::xs=>by simp[CN,Mf cs 0 xs]
 | [],_+1,_=>rfl
 | _::cs,o+1,xs=>by simp[CN,Mf cs o xs]
section
variable {P:Program} {E:Env} {TI:TypeId->Info}
theorem QM {x:Cx} {s:St} {a:Act} (f:∀o,Au x (ev s.sl o) (a.eval o)) {b:List (Nat×Nat×Bool)} {pl:Nat->Option (Nat×Nat)} (j:∀(i o n:Nat) (g:Bool),b[i]? =some (o,n,g)->pl i=some (o,n)):
  ∀(parts:List (Nat×Operand)) (cs r:List AC) (c:Array Value),FG b (ev s.sl) parts cs=some r->AO (Ae x) cs c.toList->
   ∃k,Instr.fill pl c (parts.map fun p=>(p.1,a.eval p.2))=some k/\AO (Ae x) r k.toList
 | [],cs,r,c,h,l=>⟨c,rfl,by simp[FG] at h;subst h;exact l⟩
 | (i,o)::parts,cs,r,c,h,l=>by
  simp only[FG] at h
  split at h
  ·rename_i off n g z
   split at h
   ·rename_i w
    obtain⟨v,q,F⟩:=w;have t:∀xs,ev s.sl o≠ .AF xs:=fun xs e=>by rw[e] at q;simp[AV.full] at q
    have d:=(Iz (f o) t).cells q;have u:(a.eval o).cells.size=n:=by have:=d.length;rw[v] at this;simpa using this.symm
    have y:=l.length;simp only[Array.length_toList] at y;obtain⟨k,C,D⟩:=QO (c:=c) (r:=parts.map fun p=>(p.1,a.eval p.2)) (j i off n g z) u (by omega);obtain⟨m,A,B⟩:=QM f j parts _ r k h (by rw[C];exact l.CN off d);exact⟨m,by rw[List.map_cons,D];exact A,B⟩
   cases h
  cases h
theorem ZN (F:∀t,Cg P t (TI t)) {o:Oper} {t:TypeId} {parts:Array (Nat×Operand)} (H:o.op= .build t parts):Sound P E TI o:=by
 intro w0 X β s a w S f h N Q T;simp only[BS,H] at h;obtain⟨⟨G,r⟩,h⟩:=h;obtain⟨ti,z,d,M,Z,O,R,h5,h6,h7⟩:=(F t).info G
 split at h
 ·rename_i cs U
  subst h;have v:(TI t).fields≠[]:=fun e=>by simp[e] at r
  obtain⟨m,hu,hlen,q⟩:=(F t).fields G v
  have c:∃b,m.toList.mapM (fun f=>(P.info? f.type).map fun i=>(f.offset,i.size))=some b/\∀(i o n:Nat) (g:Bool),(TI t).fields[i]? =some (o,n,g)->b[i]? =some (o,n):=by
   refine⟨(TI t).fields.map fun x=>(x.1,x.2.1),mapM_some_of_get _ _ (by simpa using hlen) fun i x B=>?_,fun i o n g j=>by simp[j]⟩
   have j:i<(TI t).fields.length:=by
    rcases Nat.lt_or_ge i m.toList.length with p | p
    ·simpa [hlen] using p
    rw[List.getElem?_eq_none p] at B;cases B
   obtain⟨L,Y,J,K,D,_⟩:=q i (TI t).fields[i].1 (TI t).fields[i].2.1 (TI t).fields[i].2.2 (by simp[j])
   have:x=L:=by have k:m[i]? =some x:=by simpa using B
                rw[J] at k;exact (Option.some.inj k).symm
   subst this;cases I:P.info? x.type with
   | none=>simp[I] at D
   | some C=>
    have:C.size=(TI t).fields[i].2.1:=by simpa [I] using D
    simp[j,K,this]
  obtain⟨b,y,A⟩:=c;obtain⟨l,V,W⟩:=QM (Br S.BV) (pl:=fun i=>b.toArray[i]?) (fun i o n g j=>by simpa using A i o n g j) parts.toList _ _ z.cells U (R _)
  have hb:P.built t (parts.map fun (i,x)=>(i,a.eval x)).toList=some l:=by
   unfold Program.built;simp only[M,hu,O,y];simpa using V
  refine BW (u:= .agg l) (w':=w) ?_ (T _ _ _ (S.val ⟨l,rfl,W⟩));simp[execOp,H,run_build w t _ l hb]
 exact h.elim
theorem NA:∀(pre a post b:List Value),b.length=a.length->CN (pre++(a++post)) pre.length b=pre++(b++post)
 | [],[],post,[],_=>by cases post <;> rfl
 | [],m::a,post,v::b,h=>by
  have:=NA [] a post b (by simpa using h);simp only[List.nil_append,List.length_nil] at this;simp[CN,this]
 | p::pre,a,post,b,h=>by simp[CN,NA pre a post b h]
 |[],[],_,_::_,h|[],_::_,_,[],h=>by simp at h
theorem QN {n:Nat}:∀(a:List Value) (k:Nat) (c:Array Value),(∀v∈a,v.cells.size=n)->c.size=(k+a.length)*n->
  ∃d,Instr.fill (fun i=>some (i*n,n)) c (a.zipIdx k |>.map fun x=>(x.2,x.1))=some d/\d.toList=c.toList.take (k*n)++a.flatMap (·.cells.toList)
 | [],k,c,_,j=>⟨c,rfl,by simp at j;rw[<-j,List.take_of_length_le (by simp)];simp⟩
 | v::a,k,c,p,j=>by
  have f:=p v (by simp);have h:c.size=k*n+(n+a.length*n):=by rw[j,List.length_cons,Nat.add_mul,Nat.succ_mul];omega
  obtain⟨d,q,z⟩:=QO (place:=fun i=>some (i*n,n)) (c:=c) (i:=k) (v:=v) (r:=(a.zipIdx (k+1)).map fun x=>(x.2,x.1)) (off:=k*n) (n:=n) rfl f (by omega);have o:c.toList.length=k*n+(n+a.length*n):=by simpa using h
  have s:c.toList=c.toList.take (k*n)++((c.toList.drop (k*n)).take n++c.toList.drop (k*n+n)):=by
   rw[<-List.drop_drop,List.take_append_drop,List.take_append_drop]
  have b:(c.toList.take (k*n)).length=k*n:=by simp[o]
  have g:v.cells.toList.length=((c.toList.drop (k*n)).take n).length:=by simp[f,o]
  have t:d.toList=c.toList.take (k*n)++(v.cells.toList++c.toList.drop (k*n+n)):=by
   rw[q];conv=>lhs;rw[s]
   have:=NA (c.toList.take (k*n)) ((c.toList.drop (k*n)).take n) (c.toList.drop (k*n+n)) v.cells.toList g;rwa [b] at this
  have m:d.size=(k+1+a.length)*n:=by
   have:d.toList.length=c.toList.length:=by rw[q,Mf]
   simp only[Array.length_toList] at this;rw[this,h,Nat.add_mul,Nat.add_mul];omega
  obtain⟨l,w,y⟩:=QN a (k+1) d (fun u hu=>p u (by simp[hu])) m;refine⟨l,by rw[List.zipIdx_cons,List.map_cons,z];exact w,?_⟩;rw[y,t,List.flatMap_cons]
  have:(c.toList.take (k*n)++(v.cells.toList++c.toList.drop (k*n+n))).take ((k+1)*n)=c.toList.take (k*n)++v.cells.toList:=by
   rw[<-List.append_assoc,List.take_left'];simp[b,f,Nat.add_mul]
  rw[this,List.append_assoc]
theorem ZO (hT:∀t,Cg P t (TI t)) {o:Oper} {t:TypeId} {len:Nat} {parts:Array (Nat×Operand)} (ho:o.op= .buildSlice t len parts) (hd:o.dst≠none):Sound P E TI o:=by
 intro w0 X β s a w S f h N Q Z;simp only[BS,ho] at h;obtain⟨hk,Y,xs,a8,h⟩:=h;obtain⟨R,hlen,F,J⟩:=a8 ();obtain⟨hu,ei,z,g1,g2,g3,g4,g5,g6⟩:=(hT t).sl hk;have aa:=T.size_pos (TI t).elem;have ab:z.cells.size=(TI t).elem.size:=by have:=(g6 (cx X w β (AD s.bk))).length;rw[Ee] at this;simpa using this.symm
 have G:∀(B:List (Nat×Operand)) (k:Nat) (ys:List (el (TI t).elem)),(B.all fun p=>(ev s.sl p.2).full)=true->Ln (B.map fun p=>(p.1,(ev s.sl p.2).cs)) k (ys.map (cells _))->
   (B.map fun p=>(p.1,a.eval p.2))=((B.map fun p=>a.eval p.2).zipIdx k).map (fun x=>(x.2,x.1))/\(∀v∈B.map fun p=>a.eval p.2,v.cells.size=(TI t).elem.size)/\
   Bl w (cx X w β (AD s.bk)).I (TI t).elem ys ((B.map fun p=>a.eval p.2).flatMap (·.cells.toList))/\ys.length=B.length:=by
  intro B
  induction B with
  | nil=>intro k ys _ D;cases ys with
   | nil=>exact⟨rfl,by simp,rfl,rfl⟩
   | cons y ys=>exact D.elim
  | cons p B ih=>
   intro k ys g D;cases ys with
   | nil=>exact D.elim
   | cons y ys=>
    obtain⟨e1,e2,e3⟩:=D;simp only[List.all_cons,Bool.and_eq_true] at g;have a5:∀xs,ev s.sl p.2≠ .AF xs:=fun xs e=>by rw[e] at g;simp[AV.full] at g
    have K:=JY (fun _ _ _=>KF) e2 ((Iz (Br S.BV p.2) a5).cells g.1);obtain⟨q1,q2,U,q4⟩:=ih (k+1) ys g.2 e3;have W:p.1=k:=e1;refine⟨by rw[List.map_cons,List.map_cons,List.zipIdx_cons,List.map_cons,q1,W],fun v hv=>?_,⟨_,_,by rw[List.map_cons,List.flatMap_cons],(FO _ _ _ _).2 K,U⟩,by simp[q4]⟩;rcases List.mem_cons.1 hv with rfl | hv
    ·have:=K.length;rw[Ee] at this;simpa using this.symm
    exact q2 v hv
 obtain⟨q1,q2,U,q4⟩:=G parts.toList 0 xs F J;have O:parts.toList.length=len:=by omega
 have hmul:len*(TI t).elem.size<=1048576*16:=Nat.mul_le_mul hlen Y
 have c:∃arr,(execOp a.eval o).run P w= .ok (.value (.slice (some ⟨w.heap.size,0,none⟩) len len)) (w.alloc (.cells arr (TI t).CD))/\arr.toList=(parts.toList.map fun p=>a.eval p.2).flatMap (·.cells.toList):=by
  by_cases h0:len=0
  ·subst h0;have a6:parts= #[]:=by apply Array.ext';exact List.eq_nil_of_length_eq_zero O
   subst a6;refine⟨#[],?_,rfl⟩;simp[execOp,ho,Instr.buildSlice,run_underlying hu,sizeOf,typeInfo,g1,Instr.fill,newRow,Array.range_zero']
  obtain⟨c',p1,p2⟩:=QN (n:=(TI t).elem.size) (parts.toList.map fun p=>a.eval p.2) 0 ((Array.range (len*ei.size)).map (z.cells[· % z.cells.size]!)) q2 (by simp[O,g2]);refine⟨c',?_,by simpa using p2⟩
  have:=run_buildSlice (P:=P) w t (TI t).CD len (parts.map fun (i,x)=>(i,a.eval x)) c' ei z hu g1 g5 (by rw[g2];omega) (by rw[g2];exact Nat.mul_ne_zero h0 (by omega))
   (by rw[<-p1,<-q1,g2];simp)
  simp[execOp,ho,this]
 obtain⟨arr,c,l⟩:=c;obtain⟨q,hq⟩:=Option.ne_none_iff_exists'.1 hd;have a1:Aw o=q:=by simp[Aw,hq]
 have a7:arr.size=len*(TI t).elem.size:=by
  have:=U.length;rw[<-l,R] at this;simpa using this
 have hB:∀y:Cx,(cx X w β (AD s.bk)).le y->y.w=w.alloc (.cells arr (TI t).CD)->y.β q=some w.heap.size->B5 y q (.arr (AN (AD s.bk) q+1) (TI t).elem xs):=by
  intro y hle hw hb;refine Or.inr ⟨_,arr,_,hb,by rw[hw];exact heap_alloc_new w _,fun i u hi=>?_⟩
  have hr:y.w.rangeAt w.heap.size 0 ((parts.toList.map fun p=>a.eval p.2).flatMap (·.cells.toList)):=by
   intro j v hj;rw[hw,World.cell?_alloc_new,<-l] at*;simpa using hj
  obtain⟨us,p1,p2⟩:=I2 (Bl.mono hle.I U) hr i u hi;exact⟨us,p1,by simpa using p2⟩
 have M:len<=maxLen:=by unfold maxLen;omega
 rcases h with h | h
 ·subst h;rw[a1,hq] at Z
  obtain⟨ad,V⟩:=S.new (dst:=q) (d:=q) rfl (av:= .one (.AM (TI t).elem q (AN (AD s.bk) q+1) 0 len)) (As:= .arr (AN (AD s.bk) q+1) (TI t).elem xs) (rd:=[q])
   (u:= .slice (some ⟨w.heap.size,0,none⟩) len len) (w':=w.alloc (.cells arr (TI t).CD)) (arr:=arr) (e:=(TI t).CD) rfl rfl rfl rfl rfl (by show xs.length<=_;omega) hB
   (fun y _ hw hb hc=>Or.inr ⟨⟨rfl,by omega⟩,fun _=>⟨_,_,rfl,Nat.le_refl _,M,by simp,.inr ⟨_,_,_,hb,by rw[Nat.zero_mul],by rw[hw];exact heap_alloc_new w _,by rw[a7,Nat.zero_add];exact Nat.le_refl _⟩⟩⟩)
  exact BW c (by rw[hq];exact Z _ _ _ V)
 subst h
 have H:∀k b,live (AD s.bk) k->β k=some b->b<w.heap.size:=fun k b ⟨C,a2,hl⟩ hb=>by
  have L:∀b o,w.heap[b]? =some o->b<w.heap.size:=fun b o h=>by
   rcases Nat.lt_or_ge b w.heap.size with h' | h'
   ·exact h'
   simp[Array.getElem?_eq_none h'] at h
  have r:=S.blocks k C a2;cases C with
  | dead _=>simp[AH.live] at hl
  | var _ _=>obtain⟨b',arr,e,g,D,_⟩:=r;obtain rfl:b=b':=Option.some.inj (hb.symm.trans g);exact L b _ D
  | arr _ _ _=>
   rcases r with⟨g,_⟩ |⟨b',arr,e,g,D,_⟩
   ·exact absurd (hb.symm.trans g) (by simp)
   obtain rfl:b=b':=Option.some.inj (hb.symm.trans g);exact L b _ D
 have A:∀b,b<w.heap.size->(w.alloc (.cells arr (TI t).CD)).heap[b]? =w.heap[b]? :=fun b hb=>Below.heap_alloc _ _ _ hb
 have m:w.heap.size<=(w.alloc (.cells arr (TI t).CD)).heap.size:=by simp
 have hI:∀b,(cx X w β (AD s.bk)).I b->(cx X (w.alloc (.cells arr (TI t).CD)) β (AD s.bk)).I b/\(w.alloc (.cells arr (TI t).CD)).heap[b]? =w.heap[b]? :=fun b hb=>⟨⟨⟨Nat.lt_of_lt_of_le hb.1.1 m,hb.1.2⟩,hb.2⟩,A b hb.1.1⟩
 have V:=S.ext (dst:=o.dst) (v:= .one (.sl (TI t).elem xs)) (u:= .slice (some ⟨w.heap.size,0,none⟩) len len) (rd:=[]) (w':=w.alloc (.cells arr (TI t).CD)) A m rfl rfl rfl (Or.inr (by
  refine⟨some ⟨w.heap.size,0,none⟩,len,by rw[R],by omega,by omega,.inr ⟨w.heap.size,0,rfl,⟨⟨by simp,fun id hl hb=>?_⟩,S.fresh _ S.size⟩,fun i u hi=>?_⟩⟩
  ·exact absurd (H id _ hl hb) (by omega)
  have hr:(w.alloc (.cells arr (TI t).CD)).rangeAt w.heap.size 0 ((parts.toList.map fun p=>a.eval p.2).flatMap (·.cells.toList)):=by
   intro j v hj;rw[World.cell?_alloc_new,<-l] at*;simpa using hj
  exact I2 (Bl.mono hI U) hr i u hi))
 exact BW c (Z _ _ _ V)
end
end Go.Abs
namespace Go.Abs
open Go.RowKit
section
variable {P:Program} {TI:TypeId->Info}
theorem WK {a:Act} {w:World} {o:Oper} {c:Call} {x:Operand} {g:FuncId} (k:o.op= .call c) (i:c.callee= .value x) (l:a.eval x= .func (.func g) #[] #[]) (j:Callee P g):
  (execOp a.eval o).run P w= .ok (.enter g (c.args.map a.eval)) w:=by
 obtain⟨fn,body,b,d,f⟩:=j;have h : fn.name ≠ "runtime.NumGoroutine" := by simpa using d
 simp[execOp,k,resolve,i,l,Deferred.ofValue,invoke,callFunc,b,h,f]
theorem LD {a:Act} {w:World} {o:Oper} {c:Call} {x:Operand} {g:FuncId} {N:Act->World->Prop} {Q:Exit->Act->World->Prop} (i:o.op= .call c) (b:c.callee= .value x) (k:a.eval x= .func (.func g) #[] #[]) (d:Callee P g)
  {R:Ending->World->Prop} (h:Calls P g (c.args.map a.eval) w R) (hR:∀e w',R e w'->∃u,e= .returned u/\N (a.put o.dst u) w'):o.wp P a w N Q:=by
 unfold Oper.wp;rw[WK i b k d,Oper.upon_enter];exact h.mono fun e w' j=>by obtain⟨u,rfl,f⟩:=hR e w' j;exact f
theorem It {x y:Cx} (h:∀b,x.I b->y.I b/\y.w.heap[b]? =x.w.heap[b]?):∀{c:AC} {v:Value},Ai c=true->Ae x c v->Ae y c v
 |.BB,_,_,r|.int _ _,_,_,r|.bool _,_,_,r|.fn _,_,_,r|.nil,_,_,r=>r
 | .sl _ _,_,_,r=>Bo h _ _ _ r
 |.AM _ _ _ _ _,_,e,_|.CI _ _ _ _ _,_,e,_|.Am _ _ _,_,e,_|.B3 _ _ _ _ _,_,e,_|.CU _ _ _,_,e,_|.ub _,_,e,_|.own _ _ _,_,e,_=>by simp[Ai] at e
theorem Qp:∀{c d:AC},Ak c d->Ai d=true
 |.int _ _,_,h|.bool _,_,h|.fn _,_,h|.sl _ _,_,h=>by rw[show _=_ from h];rfl
 | .nil,_,h=>by rcases h with rfl |⟨t,rfl⟩ <;> rfl
 |.BB,_,h|.AM _ _ _ _ _,_,h|.CI _ _ _ _ _,_,h|.Am _ _ _,_,h|.B3 _ _ _ _ _,_,h|.CU _ _ _,_,h|.ub _,_,h|.own _ _ _,_,h=>h.elim
theorem O8:∀{l m:List AC},Ac Ak l m->m.all Ai=true
 | [],[],_=>rfl
 | _::_,_::_,h=>by simp[Qp h.1,O8 h.2]
 |[],_::_,h|_::_,[],h=>h.elim
theorem AO.pure {x y:Cx} (h:∀b,x.I b->y.I b/\y.w.heap[b]? =x.w.heap[b]?):∀{cs:List AC} {a:List Value},cs.all Ai=true->AO (Ae x) cs a->AO (Ae y) cs a
 | [],[],_,_=>trivial
 | _::_,_::_,e,r=>by simp only[List.all_cons,Bool.and_eq_true] at e;exact⟨It h e.1 r.1,AO.pure h e.2 r.2⟩
 |[],_::_,_,r|_::_,[],_,r=>r.elim
theorem Lq {x y:Cx} (h:∀b,x.I b->y.I b/\y.w.heap[b]? =x.w.heap[b]?):∀{l m:List AV} {f:List Value},Ed Ak l m->AO (Au x) l f->AO (Au y) m f
 | [],[],[],_,_=>trivial
 | .one c::_,.one d::_,_::_,a,r=>⟨Or.inr (It h (Qp a.1) (KF a.1 (A0 r.1 (by intro e;subst e;exact a.1.elim)))),Lq h a.2 r.2⟩
 | .agg c::_,.agg d::_,_::_,a,r=>by
  obtain⟨arr,e,g⟩:=r.1;exact⟨⟨arr,e,AO.pure h (O8 a.1) (JY (fun _ _ _=>KF) a.1 g)⟩,Lq h a.2 r.2⟩
 |[],_::_,_,a,_|_::_,[],_,a,_=>a.elim
 |.one _::_,.agg _::_,_,a,_|.one _::_,.AF _::_,_,a,_|.agg _::_,.one _::_,_,a,_|.agg _::_,.AF _::_,_,a,_|.AF _::_,.one _::_,_,a,_|.AF _::_,.agg _::_,_,a,_|.AF _::_,.AF _::_,_,a,_=>a.1.elim
 |[],[],_::_,_,r|.one _::_,.one _::_,[],_,r|.agg _::_,.agg _::_,[],_,r=>r.elim
theorem Ss {w0:World} {X:WX} {β:Nat->Option Nat} {s:St} {a:Act} {w:World} (S:Av w0 X β s a w) {J:Nat->Prop} (p:∀b,(cx X w β (AD s.bk)).I b->J b):∀{c d:AC} {v:Value},(∀id b,id∈BY c->live (AD s.bk) id->β id=some b->b<w.heap.size->J b)->DG (AD s.bk) c d->Ae (cx X w β (AD s.bk)) c v->Ae (CT w J) d v
 |.int _ _,_,_,_,h,r|.bool _,_,_,_,h,r|.fn _,_,_,_,h,r=>by rw[show _=_ from h];exact r
 | .sl t l,_,v,_,h,r=>by
  rw[show _=_ from h];exact Bo (w':=w) (fun b hb=>⟨p b hb,rfl⟩) (.sl t) l [v] r
 | .nil,_,_,_,h,r=>by
  rcases h with rfl |⟨t,rfl⟩
  ·exact r
  rw[show _=_ from r];exact⟨none,0,rfl,Nat.le_refl _,by simp,.inl rfl⟩
 | .AM t id vv off len,d,v,f,⟨l,hb,hle,h⟩,r=>by
  subst h
  have k:∀b o,w.heap[b]? =some o->b<w.heap.size:=fun b o h=>by
   rcases Nat.lt_or_ge b w.heap.size with h' | h'
   ·exact h'
   simp[Array.getElem?_eq_none h'] at h
  obtain⟨base,cap,A,x,F,z⟩:=KL r (Db hb).symm;have hlen:((l.drop off).take len).length=len:=by simp;omega
  subst A;refine⟨base,cap,by rw[hlen],by rw[hlen];exact x,?_,?_⟩
  ·have:=S.lens id _ hb;simp only[AH.short] at this;omega
  by_cases u:len=0
  ·left;subst u;simp
  rcases z with rfl |⟨b,arr,e,q,rfl,D,G⟩
  ·omega
  rcases S.blocks id _ hb with⟨j,B⟩ |⟨b',n,e',j,B,C⟩
  ·exact absurd (j.symm.trans q) (by simp)
  obtain rfl:b'=b:=Option.some.inj (j.symm.trans q);refine .inr ⟨b',off*t.size,rfl,f id b' (by simp[BY]) ⟨_,hb,rfl⟩ j (k _ _ D),fun i y g=>?_⟩
  have m:l[off+i]? =some y:=by
   rw[List.getElem?_take] at g
   split at g
   ·simpa using g
   cases g
  obtain⟨us,k1,k2⟩:=C _ y m;exact⟨us,Bo (w':=w) (fun b hb=>⟨p b hb,rfl⟩) _ _ _ k1,by rw[<-Nat.add_mul];exact k2⟩
 |.BB,_,_,_,h,_|.CI _ _ _ _ _,_,_,_,h,_|.Am _ _ _,_,_,_,h,_|.B3 _ _ _ _ _,_,_,_,h,_|.CU _ _ _,_,_,_,h,_|.ub _,_,_,_,h,_|.own _ _ _,_,_,_,h,_=>h.elim
end
end Go.Abs
