/- Part 7 of a proof. Conditions: each theorem's own. -/
import Derived.Laws.Tables
import Derived.Great.BuildSlice
import Derived.DataShut
import Derived.Test.YtfilemenbchajaaGreatPk05
set_option linter.all false
set_option maxHeartbeats 8000000
set_option maxRecDepth 20000
namespace Go.Abs
open Go.RowKit
theorem Sw:∀(l:List Value) (off k:Nat) (c:Array Value),((l.zipIdx k).foldl (fun (cs:Array Value) (x:Value×Nat)=>cs.setIfInBounds (off+x.2) x.1) c).toList=C3 c.toList (off+k) l
 | [],off,k,c=>by simp[O8]
 | v::l,off,k,c=>by
  rw[List.zipIdx_cons,List.foldl_cons,Sw l off (k+1),Array.toList_setIfInBounds,<-Nat.add_assoc,O9]
theorem Sr {place:Nat->Option (Nat×Nat)} {c:Array Value} {i:Nat} {v:Value} {r:List (Nat×Value)} {off n:Nat} (d:place i=some (off,n)) (g:v.cells.size=n) (f:off+n<=c.size):
  ∃a,a.toList=C3 c.toList off v.cells.toList/\Instr.fill place c ((i,v)::r)=Instr.fill place a r:=by
 refine⟨v.cells.zipIdx.foldl (fun cs (x,j)=>cs.setIfInBounds (off+j) x) c,?_,?_⟩
 ·have:=Sw v.cells.toList off 0 c;rw[Nat.add_zero] at this;rw[<-this,<-Array.foldl_toList,Array.toList_zipIdx]
 have b:¬(v.cells.size≠n\/off+v.cells.size>c.size):=by omega
 rw[Instr.fill];simp only[d];rw[if_neg (by simpa using b)]
theorem OW {α:Type}:∀(l:List α) (o:Nat) (xs:List α),(C3 l o xs).length=l.length
 | _,0,[]=>by rw[O8]
 | [],0,_::_=>rfl
 | _::cs,0,_::xs=>by simp[C3,OW cs 0 xs]
 | [],_+1,_=>rfl
 | _::cs,o+1,xs=>by simp[C3,OW cs o xs]
section
variable {P:Program} {E:Env} {TI:TypeId->Info}
theorem So {x:Cx} {s:St} {a:Act} (f:∀o,BQ x (ev s.sl o) (a.eval o)) {b:List (Nat×Nat×Bool)} {pl:Nat->Option (Nat×Nat)} (j:∀(i o n:Nat) (g:Bool),b[i]? =some (o,n,g)->pl i=some (o,n)):
  ∀(parts:List (Nat×Operand)) (cs r:List AC) (c:Array Value),F9 b (ev s.sl) parts cs=some r->AY (Az x) cs c.toList->
   ∃k,Instr.fill pl c (parts.map fun p=>(p.1,a.eval p.2))=some k/\AY (Az x) r k.toList
 | [],cs,r,c,h,l=>⟨c,rfl,by simp[F9] at h;subst h;exact l⟩
 | (i,o)::parts,cs,r,c,h,l=>by
  simp only[F9] at h
  split at h
  ·rename_i off n g z
   split at h
   ·rename_i w
    obtain⟨v,q,h3⟩:=w;have t:∀xs,ev s.sl o≠ .AE xs:=fun xs e=>by rw[e] at q;simp[AV.full] at q
    have d:=(KW (f o) t).cells q;have u:(a.eval o).cells.size=n:=by have:=d.length;rw[v] at this;simpa using this.symm
    have y:=l.length;simp only[Array.length_toList] at y;obtain⟨k,C,D⟩:=Sr (c:=c) (r:=parts.map fun p=>(p.1,a.eval p.2)) (j i off n g z) u (by omega);obtain⟨m,A,B⟩:=So f j parts _ r k h (by rw[C];exact l.C3 off d);exact⟨m,by rw[List.map_cons,D];exact A,B⟩
   cases h
  cases h
theorem fK (D:∀t,DI P t (TI t)) {o:Oper} {t:TypeId} {parts:Array (Nat×Operand)} (G:o.op= .build t parts):Sound P E TI o:=by
 intro w0 X β s a w S f h N Q O;simp only[Bv,G] at h;obtain⟨⟨F,q⟩,h⟩:=h;obtain⟨ti,z,d,L,W,h3,M,Y,Z,h7⟩:=(D t).info F
 split at h
 ·rename_i cs R
  subst h;have r:(TI t).fields≠[]:=fun e=>by simp[e] at q
  obtain⟨fs,hu,hlen,p⟩:=(D t).fields F r
  have c:∃b,fs.toList.mapM (fun f=>(P.info? f.type).map fun i=>(f.offset,i.size))=some b/\∀(i o n:Nat) (g:Bool),(TI t).fields[i]? =some (o,n,g)->b[i]? =some (o,n):=by
   refine⟨(TI t).fields.map fun x=>(x.1,x.2.1),mapM_some_of_get _ _ (by simpa using hlen) fun i x A=>?_,fun i o n g j=>by simp[j]⟩
   have j:i<(TI t).fields.length:=by
    rcases Nat.lt_or_ge i fs.toList.length with m | m
    ·simpa [hlen] using m
    rw[List.getElem?_eq_none m] at A;cases A
   obtain⟨K,V,I,J,C,_⟩:=p i (TI t).fields[i].1 (TI t).fields[i].2.1 (TI t).fields[i].2.2 (by simp[j])
   have:x=K:=by have k:fs[i]? =some x:=by simpa using A
                rw[I] at k;exact (Option.some.inj k).symm
   subst this;cases H:P.info? x.type with
   | none=>simp[H] at C
   | some B=>
    have:B.size=(TI t).fields[i].2.1:=by simpa [H] using C
    simp[j,J,this]
  obtain⟨b,v,y⟩:=c;obtain⟨l,T,U⟩:=So (CU S.Bx) (pl:=fun i=>b.toArray[i]?) (fun i o n g j=>by simpa using y i o n g j) parts.toList _ _ z.cells R (M _)
  have hb:P.built t (parts.map fun (i,x)=>(i,a.eval x)).toList=some l:=by
   unfold Program.built;simp only[L,hu,h3,v];simpa using T
  refine By (u:= .agg l) (w':=w) ?_ (O _ _ _ (S.val ⟨l,rfl,U⟩));simp[execOp,G,run_build w t _ l hb]
 exact h.elim
theorem O7:∀(pre a post vs:List Value),vs.length=a.length->C3 (pre++(a++post)) pre.length vs=pre++(vs++post)
 | [],[],post,[],_=>by cases post <;> rfl
 | [],m::a,post,v::vs,h=>by
  have:=O7 [] a post vs (by simpa using h);simp only[List.nil_append,List.length_nil] at this;simp[C3,this]
 | p::pre,a,post,vs,h=>by simp[C3,O7 pre a post vs h]
 |[],[],_,_::_,h|[],_::_,_,[],h=>by simp at h
theorem Sp {n:Nat}:∀(vs:List Value) (k:Nat) (c:Array Value),(∀v∈vs,v.cells.size=n)->c.size=(k+vs.length)*n->
  ∃b,Instr.fill (fun i=>some (i*n,n)) c (vs.zipIdx k |>.map fun x=>(x.2,x.1))=some b/\b.toList=c.toList.take (k*n)++vs.flatMap (·.cells.toList)
 | [],k,c,_,h=>⟨c,rfl,by simp at h;rw[<-h,List.take_of_length_le (by simp)];simp⟩
 | v::vs,k,c,o,h=>by
  have d:=o v (by simp);have g:c.size=k*n+(n+vs.length*n):=by rw[h,List.length_cons,Nat.add_mul,Nat.succ_mul];omega
  obtain⟨b,p,y⟩:=Sr (place:=fun i=>some (i*n,n)) (c:=c) (i:=k) (v:=v) (r:=(vs.zipIdx (k+1)).map fun x=>(x.2,x.1)) (off:=k*n) (n:=n) rfl d (by omega);have m:c.toList.length=k*n+(n+vs.length*n):=by simpa using g
  have q:c.toList=c.toList.take (k*n)++((c.toList.drop (k*n)).take n++c.toList.drop (k*n+n)):=by
   rw[<-List.drop_drop,List.take_append_drop,List.take_append_drop]
  have a:(c.toList.take (k*n)).length=k*n:=by simp[m]
  have f:v.cells.toList.length=((c.toList.drop (k*n)).take n).length:=by simp[d,m]
  have s:b.toList=c.toList.take (k*n)++(v.cells.toList++c.toList.drop (k*n+n)):=by
   rw[p];conv=>lhs;rw[q]
   have:=O7 (c.toList.take (k*n)) ((c.toList.drop (k*n)).take n) (c.toList.drop (k*n+n)) v.cells.toList f;rwa [a] at this
  have l:b.size=(k+1+vs.length)*n:=by
   have:b.toList.length=c.toList.length:=by rw[p,OW]
   simp only[Array.length_toList] at this;rw[this,g,Nat.add_mul,Nat.add_mul];omega
  obtain⟨j,t,w⟩:=Sp vs (k+1) b (fun u hu=>o u (by simp[hu])) l;refine⟨j,by rw[List.zipIdx_cons,List.map_cons,y];exact t,?_⟩;rw[w,s,List.flatMap_cons]
  have:(c.toList.take (k*n)++(v.cells.toList++c.toList.drop (k*n+n))).take ((k+1)*n)=c.toList.take (k*n)++v.cells.toList:=by
   rw[<-List.append_assoc,List.take_left'];simp[a,d,Nat.add_mul]
  rw[this,List.append_assoc]
theorem fL (hT:∀t,DI P t (TI t)) {o:Oper} {t:TypeId} {len:Nat} {parts:Array (Nat×Operand)} (ho:o.op= .buildSlice t len parts) (hd:o.dst≠none):Sound P E TI o:=by
 intro w0 X β s a w S f h N Q Z;simp only[Bv,ho] at h;obtain⟨hk,Y,xs,a8,h⟩:=h;obtain⟨R,hlen,F,J⟩:=a8 ();obtain⟨hu,ei,z,g1,g2,g3,g4,g5,g6⟩:=(hT t).sl hk;have aa:=T.size_pos (TI t).elem;have ab:z.cells.size=(TI t).elem.size:=by have:=(g6 (cx X w β (AF s.bk))).length;rw[FV] at this;simpa using this.symm
 have G:∀(B:List (Nat×Operand)) (k:Nat) (ys:List (el (TI t).elem)),(B.all fun p=>(ev s.sl p.2).full)=true->Na (B.map fun p=>(p.1,(ev s.sl p.2).cs)) k (ys.map (cells _))->
   (B.map fun p=>(p.1,a.eval p.2))=((B.map fun p=>a.eval p.2).zipIdx k).map (fun x=>(x.2,x.1))/\(∀v∈B.map fun p=>a.eval p.2,v.cells.size=(TI t).elem.size)/\
   Ck w (cx X w β (AF s.bk)).I (TI t).elem ys ((B.map fun p=>a.eval p.2).flatMap (·.cells.toList))/\ys.length=B.length:=by
  intro B
  induction B with
  | nil=>intro k ys _ D;cases ys with
   | nil=>exact⟨rfl,by simp,rfl,rfl⟩
   | cons y ys=>exact D.elim
  | cons p B ih=>
   intro k ys g D;cases ys with
   | nil=>exact D.elim
   | cons y ys=>
    obtain⟨e1,e2,e3⟩:=D;simp only[List.all_cons,Bool.and_eq_true] at g;have a5:∀xs,ev s.sl p.2≠ .AE xs:=fun xs e=>by rw[e] at g;simp[AV.full] at g
    have K:=LK (fun _ _ _=>L3) e2 ((KW (CU S.Bx p.2) a5).cells g.1);obtain⟨q1,q2,U,q4⟩:=ih (k+1) ys g.2 e3;have W:p.1=k:=e1;refine⟨by rw[List.map_cons,List.map_cons,List.zipIdx_cons,List.map_cons,q1,W],fun v hv=>?_,⟨_,_,by rw[List.map_cons,List.flatMap_cons],(GM _ _ _ _).2 K,U⟩,by simp[q4]⟩;rcases List.mem_cons.1 hv with rfl | hv
    ·have:=K.length;rw[FV] at this;simpa using this.symm
    exact q2 v hv
 obtain⟨q1,q2,U,q4⟩:=G parts.toList 0 xs F J;have O:parts.toList.length=len:=by omega
 have hmul:len*(TI t).elem.size<=1048576*16:=Nat.mul_le_mul hlen Y
 have c:∃arr,(execOp a.eval o).run P w= .ok (.value (.slice (some ⟨w.heap.size,0,none⟩) len len)) (w.alloc (.cells arr (TI t).Cs))/\arr.toList=(parts.toList.map fun p=>a.eval p.2).flatMap (·.cells.toList):=by
  by_cases h0:len=0
  ·subst h0;have a6:parts= #[]:=by apply Array.ext';exact List.eq_nil_of_length_eq_zero O
   subst a6;refine⟨#[],?_,rfl⟩;simp[execOp,ho,Instr.buildSlice,run_underlying hu,sizeOf,typeInfo,g1,Instr.fill,newRow,Array.range_zero']
  obtain⟨c',p1,p2⟩:=Sp (n:=(TI t).elem.size) (parts.toList.map fun p=>a.eval p.2) 0 ((Array.range (len*ei.size)).map (z.cells[· % z.cells.size]!)) q2 (by simp[O,g2]);refine⟨c',?_,by simpa using p2⟩
  have:=run_buildSlice (P:=P) w t (TI t).Cs len (parts.map fun (i,x)=>(i,a.eval x)) c' ei z hu g1 g5 (by rw[g2];omega) (by rw[g2];exact Nat.mul_ne_zero h0 (by omega))
   (by rw[<-p1,<-q1,g2];simp)
  simp[execOp,ho,this]
 obtain⟨arr,c,l⟩:=c;obtain⟨q,hq⟩:=Option.ne_none_iff_exists'.1 hd;have a1:BS o=q:=by simp[BS,hq]
 have a7:arr.size=len*(TI t).elem.size:=by
  have:=U.length;rw[<-l,R] at this;simpa using this
 have hB:∀y:Cx,(cx X w β (AF s.bk)).le y->y.w=w.alloc (.cells arr (TI t).Cs)->y.β q=some w.heap.size->Ci y q (.arr (AW (AF s.bk) q+1) (TI t).elem xs):=by
  intro y hle hw hb;refine Or.inr ⟨_,arr,_,hb,by rw[hw];exact heap_alloc_new w _,fun i u hi=>?_⟩
  have hr:y.w.rangeAt w.heap.size 0 ((parts.toList.map fun p=>a.eval p.2).flatMap (·.cells.toList)):=by
   intro j v hj;rw[hw,World.cell?_alloc_new,<-l] at*;simpa using hj
  obtain⟨us,p1,p2⟩:=Kb (Ck.mono hle.I U) hr i u hi;exact⟨us,p1,by simpa using p2⟩
 have M:len<=maxLen:=by unfold maxLen;omega
 rcases h with h | h
 ·subst h;rw[a1,hq] at Z
  obtain⟨ad,V⟩:=S.new (dst:=q) (d:=q) rfl (av:= .one (.AT (TI t).elem q (AW (AF s.bk) q+1) 0 len)) (BO:= .arr (AW (AF s.bk) q+1) (TI t).elem xs) (rd:=[q])
   (u:= .slice (some ⟨w.heap.size,0,none⟩) len len) (w':=w.alloc (.cells arr (TI t).Cs)) (arr:=arr) (e:=(TI t).Cs) rfl rfl rfl rfl rfl (by show xs.length<=_;omega) hB
   (fun y _ hw hb hc=>Or.inr ⟨⟨rfl,by omega⟩,fun _=>⟨_,_,rfl,Nat.le_refl _,M,by simp,.inr ⟨_,_,_,hb,by rw[Nat.zero_mul],by rw[hw];exact heap_alloc_new w _,by rw[a7,Nat.zero_add];exact Nat.le_refl _⟩⟩⟩)
  exact By c (by rw[hq];exact Z _ _ _ V)
 subst h
 have H:∀k b,live (AF s.bk) k->β k=some b->b<w.heap.size:=fun k b ⟨C,a2,hl⟩ hb=>by
  have L:∀b o,w.heap[b]? =some o->b<w.heap.size:=fun b o h=>by
   rcases Nat.lt_or_ge b w.heap.size with h' | h'
   ·exact h'
   simp[Array.getElem?_eq_none h'] at h
  have r:=S.blocks k C a2;cases C with
  | dead _=>simp[AM.live] at hl
  | var _ _=>obtain⟨b',arr,e,g,D,_⟩:=r;obtain rfl:b=b':=Option.some.inj (hb.symm.trans g);exact L b _ D
  | arr _ _ _=>
   rcases r with⟨g,_⟩ |⟨b',arr,e,g,D,_⟩
   ·exact absurd (hb.symm.trans g) (by simp)
   obtain rfl:b=b':=Option.some.inj (hb.symm.trans g);exact L b _ D
 have A:∀b,b<w.heap.size->(w.alloc (.cells arr (TI t).Cs)).heap[b]? =w.heap[b]? :=fun b hb=>Below.heap_alloc _ _ _ hb
 have m:w.heap.size<=(w.alloc (.cells arr (TI t).Cs)).heap.size:=by simp
 have hI:∀b,(cx X w β (AF s.bk)).I b->(cx X (w.alloc (.cells arr (TI t).Cs)) β (AF s.bk)).I b/\(w.alloc (.cells arr (TI t).Cs)).heap[b]? =w.heap[b]? :=fun b hb=>⟨⟨⟨Nat.lt_of_lt_of_le hb.1.1 m,hb.1.2⟩,hb.2⟩,A b hb.1.1⟩
 have V:=S.ext (dst:=o.dst) (v:= .one (.sl (TI t).elem xs)) (u:= .slice (some ⟨w.heap.size,0,none⟩) len len) (rd:=[]) (w':=w.alloc (.cells arr (TI t).Cs)) A m rfl rfl rfl (Or.inr (by
  refine⟨some ⟨w.heap.size,0,none⟩,len,by rw[R],by omega,by omega,.inr ⟨w.heap.size,0,rfl,⟨⟨by simp,fun id hl hb=>?_⟩,S.fresh _ S.size⟩,fun i u hi=>?_⟩⟩
  ·exact absurd (H id _ hl hb) (by omega)
  have hr:(w.alloc (.cells arr (TI t).Cs)).rangeAt w.heap.size 0 ((parts.toList.map fun p=>a.eval p.2).flatMap (·.cells.toList)):=by
   intro j v hj;rw[World.cell?_alloc_new,<-l] at*;simpa using hj
  exact Kb (Ck.mono hI U) hr i u hi))
 exact By c (Z _ _ _ V)
end
end Go.Abs
namespace Go.Abs
open Go.RowKit
section
variable {P:Program} {TI:TypeId->Info}
theorem ZK {a:Act} {w:World} {o:Oper} {c:Call} {x:Operand} {g:FuncId} (j:o.op= .call c) (h:c.callee= .value x) (k:a.eval x= .func (.func g) #[] #[]) (i:Callee P g):
  (execOp a.eval o).run P w= .ok (.enter g (c.args.map a.eval)) w:=by
 obtain⟨fn,body,b,d,h3⟩:=i;have f : fn.name ≠ "runtime.NumGoroutine" := by simpa using d
 simp[execOp,j,resolve,h,k,Deferred.ofValue,invoke,callFunc,b,f,h3]
theorem M4 {a:Act} {w:World} {o:Oper} {c:Call} {x:Operand} {g:FuncId} {N:Act->World->Prop} {Q:Exit->Act->World->Prop} (i:o.op= .call c) (b:c.callee= .value x) (k:a.eval x= .func (.func g) #[] #[]) (d:Callee P g)
  {R:Ending->World->Prop} (h:Calls P g (c.args.map a.eval) w R) (hR:∀e w',R e w'->∃u,e= .returned u/\N (a.put o.dst u) w'):o.wp P a w N Q:=by
 unfold Oper.wp;rw[ZK i b k d,Oper.upon_enter];exact h.mono fun e w' j=>by obtain⟨u,rfl,f⟩:=hR e w' j;exact f
theorem KQ {x y:Cx} (h:∀b,x.I b->y.I b/\y.w.heap[b]? =x.w.heap[b]?):∀{c:AC} {v:Value},BD c=true->Az x c v->Az y c v
 |.BZ,_,_,r|.int _ _,_,_,r|.bool _,_,_,r|.fn _,_,_,r|.nil,_,_,r=>r
 | .sl _ _,_,_,r=>CR h _ _ _ r
 |.AT _ _ _ _ _,_,e,_|.Cw _ _ _ _ _,_,e,_|.AD _ _ _,_,e,_|.Cd _ _ _ _ _,_,e,_|.C8 _ _ _,_,e,_|.ub _,_,e,_|.own _ _ _,_,e,_=>by simp[BD] at e
theorem TM:∀{c d:AC},BF c d->BD d=true
 |.int _ _,_,h|.bool _,_,h|.fn _,_,h|.sl _ _,_,h=>by rw[show _=_ from h];rfl
 | .nil,_,h=>by rcases h with rfl |⟨t,rfl⟩ <;> rfl
 |.BZ,_,h|.AT _ _ _ _ _,_,h|.Cw _ _ _ _ _,_,h|.AD _ _ _,_,h|.Cd _ _ _ _ _,_,h|.C8 _ _ _,_,h|.ub _,_,h|.own _ _ _,_,h=>h.elim
theorem RK:∀{l m:List AC},Aw BF l m->m.all BD=true
 | [],[],_=>rfl
 | _::_,_::_,h=>by simp[TM h.1,RK h.2]
 |[],_::_,h|_::_,[],h=>h.elim
theorem AY.pure {x y:Cx} (h:∀b,x.I b->y.I b/\y.w.heap[b]? =x.w.heap[b]?):∀{cs:List AC} {vs:List Value},cs.all BD=true->AY (Az x) cs vs->AY (Az y) cs vs
 | [],[],_,_=>trivial
 | _::_,_::_,e,r=>by simp only[List.all_cons,Bool.and_eq_true] at e;exact⟨KQ h e.1 r.1,AY.pure h e.2 r.2⟩
 |[],_::_,_,r|_::_,[],_,r=>r.elim
theorem Nf {x y:Cx} (h:∀b,x.I b->y.I b/\y.w.heap[b]? =x.w.heap[b]?):∀{l m:List AV} {vs:List Value},FT BF l m->AY (BQ x) l vs->AY (BQ y) m vs
 | [],[],[],_,_=>trivial
 | .one c::_,.one d::_,_::_,a,r=>⟨Or.inr (KQ h (TM a.1) (L3 a.1 (BX r.1 (by intro e;subst e;exact a.1.elim)))),Nf h a.2 r.2⟩
 | .agg c::_,.agg d::_,_::_,a,r=>by
  obtain⟨arr,e,f⟩:=r.1;exact⟨⟨arr,e,AY.pure h (RK a.1) (LK (fun _ _ _=>L3) a.1 f)⟩,Nf h a.2 r.2⟩
 |[],_::_,_,a,_|_::_,[],_,a,_=>a.elim
 |.one _::_,.agg _::_,_,a,_|.one _::_,.AE _::_,_,a,_|.agg _::_,.one _::_,_,a,_|.agg _::_,.AE _::_,_,a,_|.AE _::_,.one _::_,_,a,_|.AE _::_,.agg _::_,_,a,_|.AE _::_,.AE _::_,_,a,_=>a.1.elim
 |[],[],_::_,_,r|.one _::_,.one _::_,[],_,r|.agg _::_,.agg _::_,[],_,r=>r.elim
theorem Vs {w0:World} {X:WX} {β:Nat->Option Nat} {s:St} {a:Act} {w:World} (S:BR w0 X β s a w) {J:Nat->Prop} (p:∀b,(cx X w β (AF s.bk)).I b->J b):∀{c d:AC} {v:Value},(∀id b,id∈B4 c->live (AF s.bk) id->β id=some b->b<w.heap.size->J b)->D4 (AF s.bk) c d->Az (cx X w β (AF s.bk)) c v->Az (C7 w J) d v
 |.int _ _,_,_,_,h,r|.bool _,_,_,_,h,r|.fn _,_,_,_,h,r=>by rw[show _=_ from h];exact r
 | .sl t l,_,v,_,h,r=>by
  rw[show _=_ from h];exact CR (w':=w) (fun b hb=>⟨p b hb,rfl⟩) (.sl t) l [v] r
 | .nil,_,_,_,h,r=>by
  rcases h with rfl |⟨t,rfl⟩
  ·exact r
  rw[show _=_ from r];exact⟨none,0,rfl,Nat.le_refl _,by simp,.inl rfl⟩
 | .AT t id vv off len,d,v,f,⟨l,hb,hle,h⟩,r=>by
  subst h
  have k:∀b o,w.heap[b]? =some o->b<w.heap.size:=fun b o h=>by
   rcases Nat.lt_or_ge b w.heap.size with h' | h'
   ·exact h'
   simp[Array.getElem?_eq_none h'] at h
  obtain⟨base,cap,z,x,D,h3⟩:=MB r (ET hb).symm;have hlen:((l.drop off).take len).length=len:=by simp;omega
  subst z;refine⟨base,cap,by rw[hlen],by rw[hlen];exact x,?_,?_⟩
  ·have:=S.lens id _ hb;simp only[AM.short] at this;omega
  by_cases u:len=0
  ·left;subst u;simp
  rcases h3 with rfl |⟨b,arr,e,q,rfl,C,F⟩
  ·omega
  rcases S.blocks id _ hb with⟨j,A⟩ |⟨b',n,e',j,A,B⟩
  ·exact absurd (j.symm.trans q) (by simp)
  obtain rfl:b'=b:=Option.some.inj (j.symm.trans q);refine .inr ⟨b',off*t.size,rfl,f id b' (by simp[B4]) ⟨_,hb,rfl⟩ j (k _ _ C),fun i y g=>?_⟩
  have m:l[off+i]? =some y:=by
   rw[List.getElem?_take] at g
   split at g
   ·simpa using g
   cases g
  obtain⟨us,k1,k2⟩:=B _ y m;exact⟨us,CR (w':=w) (fun b hb=>⟨p b hb,rfl⟩) _ _ _ k1,by rw[<-Nat.add_mul];exact k2⟩
 |.BZ,_,_,_,h,_|.Cw _ _ _ _ _,_,_,_,h,_|.AD _ _ _,_,_,_,h,_|.Cd _ _ _ _ _,_,_,_,h,_|.C8 _ _ _,_,_,_,h,_|.ub _,_,_,_,h,_|.own _ _ _,_,_,_,h,_=>h.elim
end
end Go.Abs
