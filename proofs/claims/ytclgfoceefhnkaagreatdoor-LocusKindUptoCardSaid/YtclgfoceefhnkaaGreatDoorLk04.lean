/- Part 5 of a proof. Conditions: each theorem's own. -/
import Derived.Laws.Tables
import Derived.Great.BuildSlice
import Derived.DataShut
import Derived.Test.YtclgfoceefhnkaaGreatDoorLk03
set_option linter.all false
set_option maxHeartbeats 80000000
set_option maxRecDepth 20000
namespace Go.Abs
open Go.RowKit
theorem TU:∀(l:List Value) (off k:Nat) (c:Array Value),((l.zipIdx k).foldl (fun (cs:Array Value) (x:Value×Nat)=>cs.setIfInBounds (off+x.2) x.1) c).toList=CR c.toList (off+k) l
 | [],off,k,c=>by simp[Ke]
 | v::l,off,k,c=>by
  rw[List.zipIdx_cons,List.foldl_cons,TU l off (k+1),Array.toList_setIfInBounds,<-Nat.add_assoc,PL]
theorem TM {place:Nat->Option (Nat×Nat)} {c:Array Value} {i:Nat} {v:Value} {r:List (Nat×Value)} {off n:Nat} (d:place i=some (off,n)) (g:v.cells.size=n) (f:off+n<=c.size):
  ∃a,a.toList=CR c.toList off v.cells.toList/\Instr.fill place c ((i,v)::r)=Instr.fill place a r:=by
 refine⟨v.cells.zipIdx.foldl (fun cs (x,j)=>cs.setIfInBounds (off+j) x) c,?_,?_⟩
 ·have:=TU v.cells.toList off 0 c;rw[Nat.add_zero] at this;rw[<-this,<-Array.foldl_toList,Array.toList_zipIdx]
 have b:¬(v.cells.size≠n\/off+v.cells.size>c.size):=by omega
 rw[Instr.fill];simp only[d];rw[if_neg (by simpa using b)]
theorem Ol {α:Type}:∀(l:List α) (o:Nat) (xs:List α),(CR l o xs).length=l.length
 | _,0,[]=>by rw[Ke]
 | [],0,_::_=>rfl
 | _::cs,0,_::xs=>by simp[CR,Ol cs 0 xs]
 | [],_+1,_=>rfl
 | _::cs,o+1,xs=>by simp[CR,Ol cs o xs]
section
variable {P:Program} {E:Env} {TI:TypeId->Info}
theorem OM {x:Cx} {s:St} {a:Act} (f:∀o,BF x (ev s.sl o) (a.eval o)) {b:List (Nat×Nat×Bool)} {pl:Nat->Option (Nat×Nat)} (j:∀(i o n:Nat) (g:Bool),b[i]? =some (o,n,g)->pl i=some (o,n)):
  ∀(parts:List (Nat×Operand)) (cs r:List AC) (c:Array Value),F1 b (ev s.sl) parts cs=some r->AT (Ai x) cs c.toList->
   ∃k,Instr.fill pl c (parts.map fun p=>(p.1,a.eval p.2))=some k/\AT (Ai x) r k.toList
 | [],cs,r,c,h,l=>⟨c,rfl,by simp[F1] at h;subst h;exact l⟩
 | (i,o)::parts,cs,r,c,h,l=>by
  simp only[F1] at h
  split at h
  ·rename_i off n g z
   split at h
   ·rename_i w
    obtain⟨v,q,F⟩:=w;have t:∀xs,ev s.sl o≠ .AJ xs:=fun xs e=>by rw[e] at q;simp[AV.full] at q
    have d:=(JM (f o) t).cells q;have u:(a.eval o).cells.size=n:=by have:=d.length;rw[v] at this;simpa using this.symm
    have y:=l.length;simp only[Array.length_toList] at y;obtain⟨k,C,D⟩:=TM (c:=c) (r:=parts.map fun p=>(p.1,a.eval p.2)) (j i off n g z) u (by omega);obtain⟨m,A,B⟩:=OM f j parts _ r k h (by rw[C];exact l.CR off d);exact⟨m,by rw[List.map_cons,D];exact A,B⟩
   cases h
  cases h
theorem fY (v:∀t,Cw P t (TI t)) {o:Oper} {t:TypeId} {parts:Array (Nat×Operand)} (K:o.op= .build t parts):Sound P E TI o:=by
 intro w0 X β s a w S f h N Q W;simp only[B5,K] at h;cases m:(TI t).arr with
 | some q=>
  simp only[m] at h;obtain⟨y,h⟩:=h;obtain⟨ti,z,d,B,h2,C,D,h5,h6,h7⟩:=(v t).info y;obtain⟨e,ei,Y,hu,g1,g2,_⟩:=(v t).arr q m
  split at h
  ·rename_i cs G
   subst h
   obtain⟨l,R,T⟩:=OM (Bx S) (pl:=fun i=>some (i*q.2.1,q.2.1)) (fun i o n g c=>by
    rw[Rv,List.getElem?_map] at c;cases p:(List.range q.1)[i]? with
    | none=>rw[p] at c;cases c
    | some j=>
     rw[p] at c;have hj:j=i:=by rw[List.getElem?_eq_some_iff] at p;obtain⟨_,p⟩:=p;simpa using p.symm
     subst hj;have e1:=Option.some.inj c;simp only[Prod.mk.injEq] at e1;obtain⟨rfl,rfl,_⟩:=e1
     rfl) parts.toList _ _ z.cells G (D _)
   refine BX (u:= .agg l) (w':=w) ?_ (W _ _ _ (S.val ⟨l,rfl,T⟩));simp[execOp,K,Instr.build,zeroValue,typeInfo,B,C,run_underlying hu,sizeOf,g1,g2,R]
  exact h.elim
 | none=>
 simp only[m] at h;obtain⟨⟨y,I⟩,h⟩:=h;obtain⟨ti,z,d,B,h2,C,D,h5,h6,h7⟩:=(v t).info y
 split at h
 ·rename_i cs G
  subst h;have J:(TI t).fields≠[]:=fun e=>by simp[e] at I
  obtain⟨A,hu,hlen,H⟩:=(v t).fields y J
  have k:∃b,A.toList.mapM (fun f=>(P.info? f.type).map fun i=>(f.offset,i.size))=some b/\∀(i o n:Nat) (g:Bool),(TI t).fields[i]? =some (o,n,g)->b[i]? =some (o,n):=by
   refine⟨(TI t).fields.map fun x=>(x.1,x.2.1),mapM_some_of_get _ _ (by simpa using hlen) fun i x O=>?_,fun i o n g c=>by simp[c]⟩
   have c:i<(TI t).fields.length:=by
    rcases Nat.lt_or_ge i A.toList.length with F | F
    ·simpa [hlen] using F
    rw[List.getElem?_eq_none F] at O;cases O
   obtain⟨fl,Y,e1,Z,V,_⟩:=H i (TI t).fields[i].1 (TI t).fields[i].2.1 (TI t).fields[i].2.2 (by simp[c])
   have:x=fl:=by have r:A[i]? =some x:=by simpa using O
                 rw[e1] at r;exact (Option.some.inj r).symm
   subst this;cases m:P.info? x.type with
   | none=>simp[m] at V
   | some U=>
    have:U.size=(TI t).fields[i].2.1:=by simpa [m] using V
    simp[c,Z,this]
  obtain⟨b,L,M⟩:=k;obtain⟨l,R,T⟩:=OM (Bx S) (pl:=fun i=>b.toArray[i]?) (fun i o n g c=>by simpa using M i o n g c) parts.toList _ _ z.cells G (D _)
  have hb:P.built t (parts.map fun (i,x)=>(i,a.eval x)).toList=some l:=by
   unfold Program.built;simp only[B,hu,C,L];simpa using R
  refine BX (u:= .agg l) (w':=w) ?_ (W _ _ _ (S.val ⟨l,rfl,T⟩));simp[execOp,K,run_build w t _ l hb]
 exact h.elim
theorem PK:∀(pre a post vs:List Value),vs.length=a.length->CR (pre++(a++post)) pre.length vs=pre++(vs++post)
 | [],[],post,[],_=>by cases post <;> rfl
 | [],m::a,post,v::vs,h=>by
  have:=PK [] a post vs (by simpa using h);simp only[List.nil_append,List.length_nil] at this;simp[CR,this]
 | p::pre,a,post,vs,h=>by simp[CR,PK pre a post vs h]
 |[],[],_,_::_,h|[],_::_,_,[],h=>by simp at h
theorem ON {n:Nat}:∀(vs:List Value) (k:Nat) (c:Array Value),(∀v∈vs,v.cells.size=n)->c.size=(k+vs.length)*n->
  ∃b,Instr.fill (fun i=>some (i*n,n)) c (vs.zipIdx k |>.map fun x=>(x.2,x.1))=some b/\b.toList=c.toList.take (k*n)++vs.flatMap (·.cells.toList)
 | [],k,c,_,h=>⟨c,rfl,by simp at h;rw[<-h,List.take_of_length_le (by simp)];simp⟩
 | v::vs,k,c,o,h=>by
  have d:=o v (by simp);have g:c.size=k*n+(n+vs.length*n):=by rw[h,List.length_cons,Nat.add_mul,Nat.succ_mul];omega
  obtain⟨b,p,w⟩:=TM (place:=fun i=>some (i*n,n)) (c:=c) (i:=k) (v:=v) (r:=(vs.zipIdx (k+1)).map fun x=>(x.2,x.1)) (off:=k*n) (n:=n) rfl d (by omega);have m:c.toList.length=k*n+(n+vs.length*n):=by simpa using g
  have e1:c.toList=c.toList.take (k*n)++((c.toList.drop (k*n)).take n++c.toList.drop (k*n+n)):=by
   rw[<-List.drop_drop,List.take_append_drop,List.take_append_drop]
  have a:(c.toList.take (k*n)).length=k*n:=by simp[m]
  have f:v.cells.toList.length=((c.toList.drop (k*n)).take n).length:=by simp[d,m]
  have q:b.toList=c.toList.take (k*n)++(v.cells.toList++c.toList.drop (k*n+n)):=by
   rw[p];conv=>lhs;rw[e1]
   have:=PK (c.toList.take (k*n)) ((c.toList.drop (k*n)).take n) (c.toList.drop (k*n+n)) v.cells.toList f;rwa [a] at this
  have l:b.size=(k+1+vs.length)*n:=by
   have:b.toList.length=c.toList.length:=by rw[p,Ol]
   simp only[Array.length_toList] at this;rw[this,g,Nat.add_mul,Nat.add_mul];omega
  obtain⟨j,s,t⟩:=ON vs (k+1) b (fun u hu=>o u (by simp[hu])) l;refine⟨j,by rw[List.zipIdx_cons,List.map_cons,w];exact s,?_⟩;rw[t,q,List.flatMap_cons]
  have:(c.toList.take (k*n)++(v.cells.toList++c.toList.drop (k*n+n))).take ((k+1)*n)=c.toList.take (k*n)++v.cells.toList:=by
   rw[<-List.append_assoc,List.take_left'];simp[a,d,Nat.add_mul]
  rw[this,List.append_assoc]
theorem VY {x:Cx}:∀{l:List AV} {vs:List Value} {ps:List (Nat×Nat×Nat)},DT l=some ps->AT (BF x) l vs->AT (FN x) ps vs
 | [],[],ps,h,_=>by obtain rfl:=Option.some.inj h;trivial
 | .one (.Ae id v o)::r,u::vs,ps,h,a=>by
  simp only[DT] at h
  split at h
  ·rename_i qs b
   obtain rfl:=Option.some.inj h;exact⟨BA a.1 (by simp),VY b a.2⟩
  cases h
 |[],_::_,_,_,h|_::_,[],_,_,h=>h.elim
 |.agg _::_,_::_,_,h,_|.AJ _::_,_::_,_,h,_|.one .BN::_,_::_,_,h,_|.one (.int _ _)::_,_::_,_,h,_|.one (.bool _)::_,_::_,_,h,_|.one (.fn _)::_,_::_,_,h,_|.one .nil::_,_::_,_,h,_|.one (.sl _ _)::_,_::_,_,h,_|.one (.AQ _ _ _ _ _)::_,_::_,_,h,_|.one (.Co _ _ _ _ _)::_,_::_,_,h,_|.one (.Ca _ _ _ _ _)::_,_::_,_,h,_|.one (.BW _ _ _)::_,_::_,_,h,_|.one (.ub _)::_,_::_,_,h,_|.one (.own _ _ _)::_,_::_,_,h,_|.one (.CU _ _)::_,_::_,_,h,_|.one (.CJ _ _)::_,_::_,_,h,_|.one (.str _)::_,_::_,_,h,_|.one (.Ch _)::_,_::_,_,h,_|.one (.Cp _)::_,_::_,_,h,_=>by simp[DT] at h
theorem VX {x:Cx}:∀{ps:List (Nat×Nat×Nat)} {vs:List Value},AT (FN x) ps vs->∀v∈vs,v.oneCell'=true
 | [],[],_,_,h=>by simp at h
 | _::_,u::vs,h,v,a=>by
  rcases List.mem_cons.1 a with rfl | a
  ·exact h.1.1.1
  exact VX h.2 v a
 |[],_::_,h,_,_|_::_,[],h,_,_=>h.elim
theorem SM:∀(vs:List Value),(∀v∈vs,v.oneCell'=true)->vs.flatMap (·.cells.toList)=vs
 | [],_=>rfl
 | v::vs,h=>by rw[List.flatMap_cons,SM vs (fun u hu=>h u (List.mem_cons_of_mem _ hu)),Mc (h v (List.mem_cons_self ..))];rfl
theorem XQ {α:Type}:∀(ps:List (Nat×α)) (k:Nat),ps.map (·.1)=List.range' k ps.length->ps=((ps.map (·.2)).zipIdx k).map fun x=>(x.2,x.1)
 | [],_,_=>rfl
 | p::ps,k,h=>by
  rw[List.map_cons,List.length_cons,List.range'_succ,List.cons.injEq] at h;rw[List.map_cons,List.zipIdx_cons,List.map_cons,<-XQ ps (k+1) h.2,<-h.1]
theorem fZ (hT:∀t,Cw P t (TI t)) {o:Oper} {t:TypeId} {len:Nat} {parts:Array (Nat×Operand)} (V:o.op= .buildSlice t len parts) (K:(TI t).pt=true):Sound P E TI o:=by
 intro w0 X β s a w S f h N Q hN;simp only[B5,V,K] at h
 split at h
 ·rename_i ps Y
  obtain⟨hc,h⟩:=h;obtain⟨J,hlen,R⟩:=hc ();subst h;obtain⟨hu,ei,z,g2,O,g5,g6⟩:=(hT t).pt K;have q:=VY (vs:=(parts.toList.map (·.2)).map a.eval) (by rw[List.map_map];exact Y) (OJ (Bx S) (parts.toList.map (·.2)))
  generalize D:(parts.toList.map (·.2)).map a.eval=vs at q
  have A:=VX q;have L:vs.length=len:=by rw[<-q.length,J]
  have B:parts.toList.length=len:=by rw[<-L,<-D];simp
  have M:(parts.toList.map fun p=>(p.1,a.eval p.2))=(vs.zipIdx 0).map fun x=>(x.2,x.1):=by
   have m:=XQ (parts.toList.map fun p=>(p.1,a.eval p.2)) 0 (by rw[List.map_map,List.length_map,B,<-List.range_eq_range'];exact R);rw[List.map_map] at m;have H:(parts.toList.map ((·.2) ∘ fun p=>(p.1,a.eval p.2)))=vs:=by rw[<-D,List.map_map];rfl
   rw[H] at m;exact m
  have l:∃arr,(execOp a.eval o).run P w= .ok (.value (.slice (some ⟨w.heap.size,0,none⟩) len len)) (w.alloc (.cells arr (TI t).Bw))/\arr.toList=vs:=by
   by_cases h0:len=0
   ·subst h0;have W:parts= #[]:=by apply Array.ext';exact List.eq_nil_of_length_eq_zero B
    subst W;refine⟨#[],?_,by rw[<-D];rfl⟩;simp[execOp,V,Instr.buildSlice,run_underlying hu,sizeOf,typeInfo,g2,Instr.fill,newRow,Array.range_zero']
   obtain⟨Z,p1,p2⟩:=ON (n:=1) vs 0 ((Array.range (len*ei.size)).map (z.cells[· % z.cells.size]!)) (fun v hv=>by rw[Mc (A v hv)];rfl) (by simp[L,O]);refine⟨Z,?_,by rw[p2,SM vs A];simp⟩
   have:=run_buildSlice (P:=P) w t (TI t).Bw len (parts.map fun (i,x)=>(i,a.eval x)) Z ei z hu g2 g5 (by rw[O];omega) (by rw[O];omega)
    (by rw[<-p1,<-M,O];simp)
   simp[execOp,V,this]
  obtain⟨arr,l,I⟩:=l
  have C:∀b o,w.heap[b]? =some o->b<w.heap.size:=fun b o h=>by
   rcases Nat.lt_or_ge b w.heap.size with h' | h'
   ·exact h'
   simp[Array.getElem?_eq_none h'] at h
  have F:∀k b,live (AF s.bk) k->β k=some b->b<w.heap.size:=fun k b ⟨y,T,U⟩ d=>by
   have r:=S.blocks k y T;cases y with
   | dead _=>simp[AG.live] at U
   | var _ _=>obtain⟨b',arr,e,m,H,_⟩:=r;obtain rfl:b=b':=Option.some.inj (d.symm.trans m);exact C b _ H
   | arr _ _ _=>
    rcases r with⟨m,_⟩ |⟨b',arr,e,m,H,_⟩
    ·exact absurd (d.symm.trans m) (by simp)
    obtain rfl:b=b':=Option.some.inj (d.symm.trans m);exact C b _ H
  have c:∀b,b<w.heap.size->(w.alloc (.cells arr (TI t).Bw)).heap[b]? =w.heap[b]? :=fun b d=>Below.heap_alloc _ _ _ d
  have g:w.heap.size<=(w.alloc (.cells arr (TI t).Bw)).heap.size:=by simp
  have hle:(cx X w β (AF s.bk)).le (cx X (w.alloc (.cells arr (TI t).Bw)) β (AF s.bk)):=
   ⟨fun _=>Nat.le_refl _,fun _ _=>rfl,fun id b G e _ _ hh=>⟨G,(c b (C b _ hh)).trans hh,rfl⟩,fun b d=>⟨⟨⟨Nat.lt_of_lt_of_le d.1.1 g,d.1.2⟩,d.2⟩,c b d.1.1⟩,fun b d=>⟨⟨Nat.lt_of_lt_of_le d.1 g,d.2⟩,c b d.1⟩⟩
  have S':=S.ext (dst:=o.dst) (v:= .one (.Ch ps)) (u:= .slice (some ⟨w.heap.size,0,none⟩) len len) (rd:=[]) (w':=w.alloc (.cells arr (TI t).Bw)) c g rfl rfl rfl (Or.inr (by
   refine⟨w.heap.size,0,len,vs,by rw[J],by omega,⟨by simp,fun id U d=>?_⟩,q.mono fun _ _=>FN.mono hle,?_⟩
   ·exact absurd (F id _ U d) (by omega)
   intro j v hj
   show (w.alloc (.cells arr (TI t).Bw)).cell? _=_
   rw[World.cell?_alloc_new];rw[<-I] at hj;simpa using hj))
  exact BX l (hN _ _ _ S')
 exact h.elim
theorem fa (hT:∀t,Cw P t (TI t)) {o:Oper} {t:TypeId} {len:Nat} {parts:Array (Nat×Operand)} (Y:o.op= .buildSlice t len parts) (hd:o.dst≠none):Sound P E TI o:=by
 intro w0 X β s a w S f h N Q W;cases R:(TI t).pt
 case true=>exact fZ hT Y R S h W
 simp only[B5,Y] at h;simp only[R] at h;obtain⟨hk,a2,xs,ab,h⟩:=h;obtain⟨U,hlen,F,J⟩:=ab ();obtain⟨hu,ei,z,g1,g2,g3,g4,g5,g6⟩:=(hT t).sl hk;have ad:=T.size_pos (TI t).elem;have ae:z.cells.size=(TI t).elem.size:=by have:=(g6 (cx X w β (AF s.bk))).length;rw[FU] at this;simpa using this.symm
 have G:∀(ps:List (Nat×Operand)) (k:Nat) (ys:List (el (TI t).elem)),(ps.all fun p=>(ev s.sl p.2).full)=true->Nh (ps.map fun p=>(p.1,(ev s.sl p.2).cs)) k (ys.map (cells _))->
   (ps.map fun p=>(p.1,a.eval p.2))=((ps.map fun p=>a.eval p.2).zipIdx k).map (fun x=>(x.2,x.1))/\(∀v∈ps.map fun p=>a.eval p.2,v.cells.size=(TI t).elem.size)/\
   Cr w (cx X w β (AF s.bk)).I (TI t).elem ys ((ps.map fun p=>a.eval p.2).flatMap (·.cells.toList))/\ys.length=ps.length:=by
  intro ps
  induction ps with
  | nil=>intro k ys _ D;cases ys with
   | nil=>exact⟨rfl,by simp,rfl,rfl⟩
   | cons y ys=>exact D.elim
  | cons p ps ih=>
   intro k ys l D;cases ys with
   | nil=>exact D.elim
   | cons y ys=>
    obtain⟨e1,e2,e3⟩:=D;simp only[List.all_cons,Bool.and_eq_true] at l;have a7:∀xs,ev s.sl p.2≠ .AJ xs:=fun xs e=>by rw[e] at l;simp[AV.full] at l
    have K:=Jz (fun _ _ _=>KQ) e2 ((JM (Bx S p.2) a7).cells l.1);obtain⟨q1,q2,V,q4⟩:=ih (k+1) ys l.2 e3;have a1:p.1=k:=e1;refine⟨by rw[List.map_cons,List.map_cons,List.zipIdx_cons,List.map_cons,q1,a1],fun v hv=>?_,⟨_,_,by rw[List.map_cons,List.flatMap_cons],(EF _ _ _ _).2 K,V⟩,by simp[q4]⟩;rcases List.mem_cons.1 hv with rfl | hv
    ·have:=K.length;rw[FU] at this;simpa using this.symm
    exact q2 v hv
 obtain⟨q1,q2,V,q4⟩:=G parts.toList 0 xs F J;have O:parts.toList.length=len:=by omega
 have hmul:len*(TI t).elem.size<=524288*32:=Nat.mul_le_mul hlen a2
 have g:∃arr,(execOp a.eval o).run P w= .ok (.value (.slice (some ⟨w.heap.size,0,none⟩) len len)) (w.alloc (.cells arr (TI t).Bw))/\arr.toList=(parts.toList.map fun p=>a.eval p.2).flatMap (·.cells.toList):=by
  by_cases h0:len=0
  ·subst h0;have a8:parts= #[]:=by apply Array.ext';exact List.eq_nil_of_length_eq_zero O
   subst a8;refine⟨#[],?_,rfl⟩;simp[execOp,Y,Instr.buildSlice,run_underlying hu,sizeOf,typeInfo,g1,Instr.fill,newRow,Array.range_zero']
  obtain⟨c',p1,p2⟩:=ON (n:=(TI t).elem.size) (parts.toList.map fun p=>a.eval p.2) 0 ((Array.range (len*ei.size)).map (z.cells[· % z.cells.size]!)) q2 (by simp[O,g2]);refine⟨c',?_,by simpa using p2⟩
  have:=run_buildSlice (P:=P) w t (TI t).Bw len (parts.map fun (i,x)=>(i,a.eval x)) c' ei z hu g1 g5 (by rw[g2];omega) (by rw[g2];exact Nat.mul_ne_zero h0 (by omega))
   (by rw[<-p1,<-q1,g2];simp)
  simp[execOp,Y,this]
 obtain⟨arr,g,m⟩:=g;obtain⟨q,hq⟩:=Option.ne_none_iff_exists'.1 hd;have a5:BP o=q:=by simp[BP,hq]
 have aa:arr.size=len*(TI t).elem.size:=by
  have:=V.length;rw[<-m,U] at this;simpa using this
 have hB:∀y:Cx,(cx X w β (AF s.bk)).le y->y.w=w.alloc (.cells arr (TI t).Bw)->y.β q=some w.heap.size->CM y q (.arr (AK (AF s.bk) q+1) (TI t).elem xs):=by
  intro y hle hw c;refine Or.inr ⟨_,arr,_,c,by rw[hw];exact heap_alloc_new w _,fun i u hi=>?_⟩
  have hr:y.w.rangeAt w.heap.size 0 ((parts.toList.map fun p=>a.eval p.2).flatMap (·.cells.toList)):=by
   intro j v hj;rw[hw,World.cell?_alloc_new,<-m] at*;simpa using hj
  obtain⟨us,p1,p2⟩:=Ko (Cr.mono hle.I V) hr i u hi;exact⟨us,p1,by simpa using p2⟩
 have M:len<=maxLen:=by unfold maxLen;omega
 rcases h with h | h
 ·subst h;rw[a5,hq] at W
  obtain⟨β',Z⟩:=S.new (dst:=q) (d:=q) rfl (av:= .one (.AQ (TI t).elem q (AK (AF s.bk) q+1) 0 len)) (Au:= .arr (AK (AF s.bk) q+1) (TI t).elem xs) (rd:=[q])
   (u:= .slice (some ⟨w.heap.size,0,none⟩) len len) (w':=w.alloc (.cells arr (TI t).Bw)) (arr:=arr) (e:=(TI t).Bw) rfl rfl rfl rfl rfl (by show xs.length<=_;omega) hB
   (fun y _ hw c hc=>Or.inr ⟨⟨rfl,by omega⟩,fun _=>⟨_,_,rfl,Nat.le_refl _,M,by simp,.inr ⟨_,_,_,c,by rw[Nat.zero_mul],by rw[hw];exact heap_alloc_new w _,by rw[aa,Nat.zero_add];exact Nat.le_refl _⟩⟩⟩)
  exact BX g (by rw[hq];exact W _ _ _ Z)
 subst h
 have H:∀k b,live (AF s.bk) k->β k=some b->b<w.heap.size:=fun k b ⟨C,a6,hl⟩ c=>by
  have L:∀b o,w.heap[b]? =some o->b<w.heap.size:=fun b o h=>by
   rcases Nat.lt_or_ge b w.heap.size with h' | h'
   ·exact h'
   simp[Array.getElem?_eq_none h'] at h
  have r:=S.blocks k C a6;cases C with
  | dead _=>simp[AG.live] at hl
  | var _ _=>obtain⟨b',arr,e,l,D,_⟩:=r;obtain rfl:b=b':=Option.some.inj (c.symm.trans l);exact L b _ D
  | arr _ _ _=>
   rcases r with⟨l,_⟩ |⟨b',arr,e,l,D,_⟩
   ·exact absurd (c.symm.trans l) (by simp)
   obtain rfl:b=b':=Option.some.inj (c.symm.trans l);exact L b _ D
 have B:∀b,b<w.heap.size->(w.alloc (.cells arr (TI t).Bw)).heap[b]? =w.heap[b]? :=fun b c=>Below.heap_alloc _ _ _ c
 have A:w.heap.size<=(w.alloc (.cells arr (TI t).Bw)).heap.size:=by simp
 have hI:∀b,(cx X w β (AF s.bk)).I b->(cx X (w.alloc (.cells arr (TI t).Bw)) β (AF s.bk)).I b/\(w.alloc (.cells arr (TI t).Bw)).heap[b]? =w.heap[b]? :=fun b c=>⟨⟨⟨Nat.lt_of_lt_of_le c.1.1 A,c.1.2⟩,c.2⟩,B b c.1.1⟩
 have Z:=S.ext (dst:=o.dst) (v:= .one (.sl (TI t).elem xs)) (u:= .slice (some ⟨w.heap.size,0,none⟩) len len) (rd:=[]) (w':=w.alloc (.cells arr (TI t).Bw)) B A rfl rfl rfl (Or.inr (by
  refine⟨some ⟨w.heap.size,0,none⟩,len,by rw[U],by omega,by omega,.inr ⟨w.heap.size,0,rfl,⟨⟨by simp,fun id hl c=>?_⟩,S.fresh.1 _ S.size⟩,fun i u hi=>?_⟩⟩
  ·exact absurd (H id _ hl c) (by omega)
  have hr:(w.alloc (.cells arr (TI t).Bw)).rangeAt w.heap.size 0 ((parts.toList.map fun p=>a.eval p.2).flatMap (·.cells.toList)):=by
   intro j v hj;rw[World.cell?_alloc_new,<-m] at*;simpa using hj
  exact Ko (Cr.mono hI V) hr i u hi))
 exact BX g (W _ _ _ Z)
end
section
variable {P:Program} {TI:TypeId->Info}
theorem Z5 {a:Act} {w:World} {o:Oper} {c:Call} {x:Operand} {g:FuncId} {cap:Array Value} (k:o.op= .call c) (i:c.callee= .value x) (l:a.eval x= .func (.func g) #[] cap) (j:Callee P g):
  (execOp a.eval o).run P w= .ok (.enter g (c.args.map a.eval++cap)) w:=by
 obtain⟨fn,body,b,d,f⟩:=j;have h : fn.name ≠ "runtime.NumGoroutine" := by simpa using d
 simp[execOp,k,resolve,i,l,Deferred.ofValue,invoke,callFunc,b,h,f]
theorem Jf {a:Act} {w:World} {o:Oper} {c:Call} {x:Operand} {g:FuncId} {cap:Array Value} {N:Act->World->Prop} {Q:Exit->Act->World->Prop} (i:o.op= .call c) (b:c.callee= .value x) (k:a.eval x= .func (.func g) #[] cap) (d:Callee P g)
  {R:Ending->World->Prop} (h:Calls P g (c.args.map a.eval++cap) w R) (hR:∀e w',R e w'->∃u,e= .returned u/\N (a.put o.dst u) w'):o.wp P a w N Q:=by
 unfold Oper.wp;rw[Z5 i b k d,Oper.upon_enter];exact h.mono fun e w' j=>by obtain⟨u,rfl,f⟩:=hR e w' j;exact f
theorem Kd {x y:Cx} (h:∀b,x.I b->y.I b/\y.w.heap[b]? =x.w.heap[b]?):∀{c:AC} {v:Value},Ao c=true->Ai x c v->Ai y c v
 |.BN,_,_,r|.int _ _,_,_,r|.bool _,_,_,r|.fn _,_,_,r|.nil,_,_,r=>r
 | .sl _ _,_,_,r=>By h _ _ _ r
 |.AQ _ _ _ _ _,_,e,_|.Co _ _ _ _ _,_,e,_|.Ae _ _ _,_,e,_|.Ca _ _ _ _ _,_,e,_=>by simp[Ao] at e
 | .BW t y _,_,_,⟨b,o,us,e,a,f,d⟩=>⟨b,o,us,e,(h b a).1,By h t y us f,rangeAt_of_block (h b a).2 d⟩
 | .CJ _ _,_,_,⟨us,e,r⟩=>⟨us,e,r.mono fun _ _=>EV.mono h⟩
 | .str _,_,_,r=>r
 |.CU _ _,_,e,_|.Ch _,_,e,_|.Cp _,_,e,_|.ub _,_,e,_|.own _ _ _,_,e,_=>by simp[Ao] at e
theorem UM:∀{c d:AC},BG c d->Ao d=true
 |.int _ _,_,h|.bool _,_,h|.fn _,_,h|.sl _ _,_,h=>by rw[show _=_ from h];rfl
 | .nil,_,h=>by rcases h with rfl |⟨t,rfl⟩ <;> rfl
 |.BN,_,h|.AQ _ _ _ _ _,_,h|.Co _ _ _ _ _,_,h|.Ae _ _ _,_,h|.Ca _ _ _ _ _,_,h=>h.elim
 |.BW _ _ _,_,h|.CJ _ _,_,h|.str _,_,h=>by rw[show _=_ from h];rfl
 |.CU _ _,_,h|.Ch _,_,h|.Cp _,_,h|.ub _,_,h|.own _ _ _,_,h=>h.elim
theorem Ri:∀{l m:List AC},Aq BG l m->m.all Ao=true
 | [],[],_=>rfl
 | _::_,_::_,h=>by simp[UM h.1,Ri h.2]
 |[],_::_,h|_::_,[],h=>h.elim
theorem AT.pure {x y:Cx} (h:∀b,x.I b->y.I b/\y.w.heap[b]? =x.w.heap[b]?):∀{cs:List AC} {vs:List Value},cs.all Ao=true->AT (Ai x) cs vs->AT (Ai y) cs vs
 | [],[],_,_=>trivial
 | _::_,_::_,e,r=>by simp only[List.all_cons,Bool.and_eq_true] at e;exact⟨Kd h e.1 r.1,AT.pure h e.2 r.2⟩
 |[],_::_,_,r|_::_,[],_,r=>r.elim
theorem Nn {x y:Cx} (h:∀b,x.I b->y.I b/\y.w.heap[b]? =x.w.heap[b]?):∀{l m:List AV} {vs:List Value},C6 BG l m->AT (BF x) l vs->AT (BF y) m vs
 | [],[],[],_,_=>trivial
 | .one c::_,.one d::_,_::_,a,r=>⟨Or.inr (Kd h (UM a.1) (KQ a.1 (BA r.1 (by intro e;subst e;exact a.1.elim)))),Nn h a.2 r.2⟩
 | .agg c::_,.agg d::_,_::_,a,r=>by
  obtain⟨arr,e,f⟩:=r.1;exact⟨⟨arr,e,AT.pure h (Ri a.1) (Jz (fun _ _ _=>KQ) a.1 f)⟩,Nn h a.2 r.2⟩
 |[],_::_,_,a,_|_::_,[],_,a,_=>a.elim
 |.one _::_,.agg _::_,_,a,_|.one _::_,.AJ _::_,_,a,_|.agg _::_,.one _::_,_,a,_|.agg _::_,.AJ _::_,_,a,_|.AJ _::_,.one _::_,_,a,_|.AJ _::_,.agg _::_,_,a,_|.AJ _::_,.AJ _::_,_,a,_=>a.1.elim
 |[],[],_::_,_,r|.one _::_,.one _::_,[],_,r|.agg _::_,.agg _::_,[],_,r=>r.elim
theorem Pt {w0:World} {X:WX} {β:Nat->Option Nat} {s:St} {a:Act} {w:World} (S:BB w0 X β s a w) {J:Nat->Prop} (k:∀b,(cx X w β (AF s.bk)).I b->J b):∀{ps:List (Nat×Nat)} {qs:List ((t:T)×el t)} {us:List Value},
  (∀id b,id∈ps.map (·.1)->live (AF s.bk) id->β id=some b->b<w.heap.size->J b)->Kw (AF s.bk) ps qs->AT (Jh (cx X w β (AF s.bk))) ps us->AT (EV w J) qs us
 | [],[],[],_,_,_=>trivial
 | p::ps,⟨t,y⟩::qs,u::us,l,h,r=>by
  refine⟨?_,Pt S k (fun id b d=>l id b (List.mem_cons_of_mem _ d)) h.2 r.2⟩;obtain⟨c,_⟩:=h;obtain⟨b,g,hu⟩:=r.1.2 (Cv c).symm;obtain⟨b',arr,e,m,o,q⟩:=S.blocks p.1 _ c;obtain rfl:b'=b:=Option.some.inj (m.symm.trans g)
  have f:b'<w.heap.size:=by
   rcases Nat.lt_or_ge b' w.heap.size with h' | h'
   ·exact h'
   have i:w.heap[b']? =_:=o;simp[Array.getElem?_eq_none h'] at i
  refine⟨b',0,arr.toList,hu,l p.1 b' (by simp) ⟨_,c,rfl⟩ m f,By (w':=w) (fun b c=>⟨k b c,rfl⟩) _ _ _ ((EF _ t y arr.toList).2 q),?_⟩;have j:=Mm (off:=0) (n:=arr.size) o;rw[List.drop_zero,List.take_of_length_le (by simp)] at j;exact j
 |[],_::_,_,_,h,_|_::_,[],_,_,h,_=>h.elim
 |[],[],_::_,_,_,r|_::_,_::_,[],_,_,r=>r.elim
theorem Ps {w0:World} {X:WX} {β:Nat->Option Nat} {s:St} {a:Act} {w:World} (S:BB w0 X β s a w) {J:Nat->Prop} (n:∀b,(cx X w β (AF s.bk)).I b->J b):∀{c d:AC} {v:Value},(∀id b,id∈Bk c->live (AF s.bk) id->β id=some b->b<w.heap.size->J b)->DC (AF s.bk) c d->Ai (cx X w β (AF s.bk)) c v->Ai (Cb w J) d v
 |.int _ _,_,_,_,h,r|.bool _,_,_,_,h,r|.fn _,_,_,_,h,r=>by rw[show _=_ from h];exact r
 | .sl t l,_,v,_,h,r=>by
  rw[show _=_ from h];exact By (w':=w) (fun b j=>⟨n b j,rfl⟩) (.sl t) l [v] r
 | .nil,_,_,_,h,r=>by
  rcases h with rfl |⟨t,rfl⟩
  ·exact r
  rw[show _=_ from r];exact⟨none,0,rfl,Nat.le_refl _,by simp,.inl rfl⟩
 | .AQ t id vv off len,d,v,g,⟨l,j,hle,h⟩,r=>by
  subst h
  have A:∀b o,w.heap[b]? =some o->b<w.heap.size:=fun b o h=>by
   rcases Nat.lt_or_ge b w.heap.size with h' | h'
   ·exact h'
   simp[Array.getElem?_eq_none h'] at h
  obtain⟨base,cap,M,m,k,u⟩:=I7 r (Cv j).symm;have hlen:((l.drop off).take len).length=len:=by simp;omega
  subst M;refine⟨base,cap,by rw[hlen],by rw[hlen];exact m,?_,?_⟩
  ·have:=S.lens id _ j;simp only[AG.short] at this;omega
  by_cases F:len=0
  ·left;subst F;simp
  rcases u with rfl |⟨b,arr,e,D,rfl,Q,R⟩
  ·omega
  rcases S.blocks id _ j with⟨q,N⟩ |⟨b',C,e',q,N,O⟩
  ·exact absurd (q.symm.trans D) (by simp)
  obtain rfl:b'=b:=Option.some.inj (q.symm.trans D);refine .inr ⟨b',off*t.size,rfl,g id b' (by simp[Bk]) ⟨_,j,rfl⟩ q (A _ _ Q),fun i y p=>?_⟩
  have B:l[off+i]? =some y:=by
   rw[List.getElem?_take] at p
   split at p
   ·simpa using p
   cases p
  obtain⟨us,k1,k2⟩:=O _ y B;exact⟨us,By (w':=w) (fun b j=>⟨n b j,rfl⟩) _ _ _ k1,by rw[<-Nat.add_mul];exact k2⟩
 |.BN,_,_,_,h,_|.Co _ _ _ _ _,_,_,_,h,_=>h.elim
 | .Ae id v off,_,val,g,⟨L,t,x,j,H⟩,r=>by
  subst L H;have G:=Pt S n (ps:=[(id,v)]) (qs:=[⟨t,x⟩]) (us:=[val]) (fun i b K=>g i b (by simpa [Bk] using K)) ⟨j,trivial⟩ ⟨r,trivial⟩;obtain⟨b,o,us,e,m,k,u⟩:=G.1;exact⟨b,o,us,e,m,k,u⟩
 |.Ca _ _ _ _ _,_,_,_,h,_|.BW _ _ _,_,_,_,h,_=>h.elim
 | .CJ _ _,_,_,_,h,⟨us,e,r⟩=>by rw[show _=_ from h];exact⟨us,e,r.mono fun _ _=>EV.mono fun b j=>⟨n b j,rfl⟩⟩
 | .str _,_,_,_,h,r=>by rw[show _=_ from h];exact r
 | .CU f ps,d,v,g,h,⟨us,e,r⟩=>by
  rcases h with⟨qs,m,k⟩ | k
  ·subst k;exact⟨us,e,Pt S n (fun id b z=>g id b z) m r⟩
  subst k;rw[e];rfl
 |.ub _,_,_,_,h,_|.Ch _,_,_,_,h,_|.Cp _,_,_,_,h,_|.own _ _ _,_,_,_,h,_=>h.elim
end
end Go.Abs
