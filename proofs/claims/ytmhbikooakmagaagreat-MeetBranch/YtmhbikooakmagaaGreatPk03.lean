/- Part 4 of a proof. Conditions: each theorem's own. -/
import Derived.Laws.Tables
import Derived.Great.BuildSlice
import Derived.DataShut
import Derived.Test.YtmhbikooakmagaaGreatPk02
set_option linter.all false
set_option maxHeartbeats 8000000
set_option maxRecDepth 20000
namespace Go.Abs
open Go.RowKit
section
variable {P:Program} {E:Env} {TI:TypeId->Info}
theorem QN {x:Cx} {s:St} {a:Act} (h:∀o,Bu x (ev s.sl o) (a.eval o)):∀(l:List Operand),Ai (Bu x) (l.map (ev s.sl)) (l.map a.eval)
 | []=>trivial
 | o::l=>⟨h o,QN h l⟩
theorem JH {a:Act} {w:World} {o:Oper} {c:Call} {b:Builtin} {u:Value} {w':World} (d:o.op= .call c) (hb:c.callee= .builtin b) (h:(builtin b c.argTypes o.type (c.args.map fun | .const _=>true | _=>false) (c.args.map a.eval)).run P w= .ok (.value u) w'):
  (execOp a.eval o).run P w= .ok (.value u) w':=by
 simp only[execOp,d,resolve,hb,Sem.run_bind,Sem.run_pure,Result.andThen_ok,invoke];exact h
theorem Oj {x:Cx} {t:T} {id AR off len:Nat} {v:Value} (h:BR x (.AS t id AR off len) v) (f:AR=x.cv id):∃base cap,v= .slice base len cap/\len<=cap/\cap<=maxLen/\
  (cap=0\/∃b arr e,x.β id=some b/\base=some ⟨b,off*t.size,none⟩/\x.w.heap[b]? =some (.cells arr e (0,0))/\(off+cap)*t.size<=arr.size):=by
 obtain⟨base,cap,a,c,h3,_,d⟩:=h.2 f;exact⟨base,cap,a,c,h3,d⟩
theorem WK {x:Cx} {t:T} {id AR off len:Nat} {v:Value} (h:BR x (.Df t id AR off len) v) (g:AR=x.cv id):∃base cap,v= .slice base len cap/\len<=cap/\cap<=maxLen/\cap=len/\
  (cap=0\/∃b arr e,x.β id=some b/\base=some ⟨b,off*t.size,none⟩/\x.w.heap[b]? =some (.cells arr e (0,0))/\(off+cap)*t.size<=arr.size):=by
 obtain⟨base,cap,a,c,h3,f,d⟩:=h.2 g;exact⟨base,cap,a,c,h3,f rfl,d⟩
theorem Z5 (hT:∀t,D1 P t (TI t)) {o:Oper} {c:Call} {b:Builtin} (ho:o.op= .call c) (hc:c.callee= .builtin b) (hd:o.dst≠none)
  {w0:World} {X:WX} {β:Nat->Option Nat} {s:St} {a:Act} {w:World} (S:Bo w0 X β s a w) {f:B3} (h:Fo TI b c.argTypes.toList (c.args.toList.map (ev s.sl)) (Bv o) (AH s.bk) (fun g=>g=f))
  {N:Act->World->Prop} {Q:Exit->Act->World->Prop} (V:∀β' a' w',Bo w0 X β' (s.app o.dst f) a' w'->N a' w'):o.wp P a w N Q:=by
 have d:=QN (C1 S.CW) c.args.toList
 generalize hA:c.args.toList.map (ev s.sl)=A at h d
 generalize hU:c.args.toList.map a.eval=U at d
 have F:c.args.map a.eval=U.toArray:=by rw[<-hU];exact Array.ext' (by simp)
 have K:∀Z,c.argTypes.toList=Z->c.argTypes=Z.toArray:=fun Z e=>by subst e;exact Array.ext' rfl
 obtain⟨q,hq⟩:=Option.ne_none_iff_exists'.1 hd;have ad:Bv o=q:=by simp[Bv,hq]
 have p:∀{t0:TypeId} {base:Option Addr} {n cap:Nat},c.argTypes.toList=[t0]->(TI t0).sl=true->U=[.slice base n cap]->b= .len->(execOp a.eval o).run P w= .ok (.value (.int .i64 n)) w:=by
  intro t0 base n cap D h2 h3 h4;subst h4;refine JH ho hc ?_;rw[K _ D,F,h3];simp[builtin,Builtin.len_,run_underlying ((hT t0).sl h2).1,goInt]
 generalize r:c.argTypes.toList=Z at h
 unfold Fo at h
 split at h
 ·rename_i t0 t l
  match U,d with
  | [v],⟨G,_⟩=>
   obtain⟨D,h⟩:=h;obtain⟨base,cap,hv,h2,h3,h4⟩:=By G (by simp);have hv:v= .slice base l.length cap:=by simpa using hv
   obtain rfl:=h _ ⟨rfl,h3⟩;exact Cc (p r D (by rw[hv]) rfl) (V _ _ _ (S.val (Or.inr rfl)))
 ·rename_i t0 t id v off len
  match U,d with
  | [u],⟨G,_⟩=>
   obtain⟨D,h⟩:=h
   split at h
   ·rename_i hv
    obtain⟨base,cap,H,_⟩:=WK (By G (by simp)) hv.symm;obtain rfl:=h _ ⟨rfl⟩;exact Cc (p r D (by rw[H]) rfl) (V _ _ _ (S.val (Or.inr rfl)))
   exact h.elim
 ·rename_i t0 t id v off len
  match U,d with
  | [u],⟨G,_⟩=>
   obtain⟨D,h⟩:=h
   split at h
   ·rename_i hv
    obtain⟨base,cap,H,_⟩:=Oj (By G (by simp)) hv.symm;obtain rfl:=h _ ⟨rfl⟩;exact Cc (p r D (by rw[H]) rfl) (V _ _ _ (S.val (Or.inr rfl)))
   exact h.elim
 ·rename_i t0
  match U,d with
  | [u],⟨G,_⟩=>
   obtain⟨D,h⟩:=h;have H:u= .slice none 0 0:=By G (by simp);subst h;exact Cc (p r D (by rw[H]) rfl) (V _ _ _ (S.val (Or.inr rfl)))
 ·rename_i t0
  match U,d with
  | [u],⟨G,_⟩=>
   obtain⟨D,h⟩:=h;have H:u= .slice none 0 0:=By G (by simp);subst h H;refine Cc (u:= .int .i64 0) (w':=w) (JH ho hc ?_) (V _ _ _ (S.val (Or.inr rfl)));rw[K _ r,F];simp[builtin,Builtin.cap_,run_underlying ((hT t0).sl D).1,goInt]
 ·rename_i k m k' n
  match U,d with
  | [u,u'],⟨G,I,_⟩=>
   have H:u= .int k m:=By G (by simp);have ai:u'= .int k' n:=By I (by simp);obtain rfl:=h _ rfl;subst H ai;refine Cc (u:= .int k (if n<m then n else m)) (w':=w) (JH ho hc ?_) (V _ _ _ (S.val (Or.inr rfl)));rw[F];simp[builtin,Builtin.min_,Builtin.min2]
 ·rename_i t0 t1 x
  match U,d with
  | [u,u'],⟨G,I,_⟩=>
   obtain⟨⟨h0,D⟩,l2,W,h⟩:=h;obtain⟨C,B⟩:=W ();have H:u= .slice none 0 0:=By G (by simp);obtain rfl:=h _ rfl;obtain⟨hu,ei,z,g1,g2,g3,g4,g5,g6⟩:=(hT t0).sl h0;obtain⟨M,_⟩:=(hT t1).sl D;have hx:BR (cx X w β (AH s.bk)) x u':=By I (by intro e;subst e;exact C.elim);have O:z.cells.size=(TI t0).elem.size:=by have:=(g6 (cx X w β (AH s.bk))).length;rw[He] at this;simpa using this.symm
   by_cases L:q<s.bk.length
   ·obtain⟨v',w',β',j,S'⟩:=S7 S (ty:=o.type) hu M g1 g5 g2 O g4 (base:=none) (len:=0) (cap:=0) (Nat.le_refl _) (by simp) (id:=q) (l:=[]) (l2:=l2) rfl (.inl rfl) hx C (by rw[Nat.zero_add,g3];exact B) (dst:=o.dst) (vv:=AR (AH s.bk) q+1) (rd:=q::Ci x) L rfl;refine Cc (u:=v') (w':=w') (JH ho hc ?_) (V β' _ _ ?_)
    ·rw[K _ r,F,H];simp[builtin,j]
    rw[ad];simpa using S'
   have R:s.bk.length<=q:=Nat.le_of_not_lt L;have h2:s.sl.length<=q:=by rw[S.len,<-S.IG];exact R
   obtain⟨news,af,ah⟩:=Z4 S M hx C
   have ae:s.app o.dst ⟨.one (.AS (TI t0).elem (Bv o) (AR (AH s.bk) (Bv o)+1) 0 l2.length),[(Bv o,.arr (AR (AH s.bk) (Bv o)+1) (TI t0).elem l2)],Bv o::Ci x⟩=s.app none ⟨.one .Bz,[],Bv o::Ci x⟩:=by
    rw[ad,hq];simp[St.app,GS,DB,Hu _ _ _ h2,Hu _ _ _ R]
   have ha:∀v,a.put o.dst v=a.put none undef:=by
    intro v;have:a.tmps.size<=q:=by rw[<-S.IG];exact R
    rw[hq];simp[Act.put,Array.setIfInBounds_eq_of_size_le this]
   rcases VM (P:=P) (ty:=o.type) (w:=w) (base:=none) (len:=0) (cap:=0) (olds:=[]) hu g1 g5 g2 O (Nat.le_refl _) (by simp) (.inl rfl) af (by rw[Nat.zero_add,g3];exact B) g4 with⟨_,j⟩ |⟨b',aj,ag,a5,j⟩ |⟨c',arr,w',D,h2,h3,h4,h5,h6,h7,h8,j⟩
   ·have J:(builtin .append c.argTypes o.type (c.args.map fun | .const _=>true | _=>false) (c.args.map a.eval)).run P w= .ok (.value (.slice none 0 0)) w:=by
     rw[K _ r,F,H];simp[builtin,j]
    exact Cc (JH ho hc J) (by rw[ha];exact V β _ w (by rw[ae];exact S.val (Jh _ _)))
   ·cases a5
   have J:(builtin .append c.argTypes o.type (c.args.map fun | .const _=>true | _=>false) (c.args.map a.eval)).run P w= .ok (.value (.slice (some ⟨w.heap.size,0,none⟩) (0+l2.length) c')) w':=by
    rw[K _ r,F,H];simp[builtin,j]
   exact Cc (JH ho hc J) (by rw[ha];exact V β _ w' (by rw[ae];exact S.ext (fun b hb=>by rw[h3,Array.getElem?_push,if_neg (by omega)]) (by rw[h3];simp) h4 h5 h6 (Jh _ _)))
 ·rename_i t0 t1 t id v off len x
  match U,d with
  | [u,u'],⟨G,I,_⟩=>
   obtain⟨⟨h0,D⟩,h⟩:=h
   split at h
   ·rename_i v' t' l hb
    split at h
    ·rename_i a6
     obtain⟨a8,a1,a2⟩:=a6;obtain rfl:=T.beq_eq a1;have Y:=T.beq_eq a2;obtain⟨l2,W,h⟩:=h;obtain⟨a7,hlen,C,B⟩:=W ();obtain rfl:=h _ _ ⟨rfl,rfl⟩;subst a7 a8;obtain⟨hu,ei,z,g1,g2,g3,g4,g5,g6⟩:=(hT t0).sl h0;obtain⟨M,_⟩:=(hT t1).sl D;rw[<-Y] at g2;have hx:BR (cx X w β (AH s.bk)) x u':=By I (by intro e;subst e;exact C.elim);have O:z.cells.size=t'.size:=by have:=(g6 (cx X w β (AH s.bk))).length;rw[He,<-Y] at this;simpa using this.symm
     obtain⟨base,cap,H,k1,k2,k4,k3⟩:=WK (By G (by simp)) (GB hb).symm
     have L:id<s.bk.length:=by
      rcases Nat.lt_or_ge id s.bk.length with R | R
      ·exact R
      rw[JZ _ _ R] at hb;cases hb
     obtain⟨aa,w',β',j,S'⟩:=S7 S (ty:=o.type) hu M g1 g5 g2 O g4 k1 k2 (id:=id) (l:=l.take len) (l2:=l2) (by simp;omega) (by
      rcases k3 with rfl |⟨b,arr,e,q1,q2,q3,q4⟩
      ·exact .inl rfl
      rcases S.blocks id _ hb with⟨p1,p2⟩ |⟨b',ab,e',p1,p2,p3⟩
      ·exact absurd (p1.symm.trans q1) (by simp)
      obtain rfl:b'=b:=Option.some.inj (p1.symm.trans q1);refine .inr ⟨b',arr,e,q1,⟨_,hb,rfl⟩,by simpa using q2,q3,by simpa using q4,fun i y hy=>p3 i y ?_⟩;rw[List.getElem?_take] at hy
      split at hy
      ·exact hy
      cases hy) hx C (by rw[g3];exact B) (dst:=o.dst) (vv:=v'+1) (rd:=id::Ci x) L (by rw[GB hb];rfl)
     refine Cc (u:=aa) (w':=w') (JH ho hc ?_) (V β' _ _ S');rw[K _ r,F,H];simp[builtin,j]
    exact h.elim
   exact h.elim
 ·rename_i t0 t1 t id v off len x
  match U,d with
  | [u,u'],⟨G,I,_⟩=>
   obtain⟨⟨h0,D⟩,h⟩:=h
   split at h
   ·rename_i v' t' l hb
    split at h
    ·rename_i a6
     obtain⟨a8,a1,a2⟩:=a6;obtain rfl:=T.beq_eq a1;have Y:=T.beq_eq a2;obtain⟨l2,W,h⟩:=h;obtain⟨a7,hlen,C,B⟩:=W ();obtain rfl:=h _ _ ⟨rfl,rfl⟩;subst a7 a8 hlen;obtain⟨hu,ei,z,g1,g2,g3,g4,g5,g6⟩:=(hT t0).sl h0;obtain⟨M,_⟩:=(hT t1).sl D;rw[<-Y] at g2;have hx:BR (cx X w β (AH s.bk)) x u':=By I (by intro e;subst e;exact C.elim);have O:z.cells.size=t'.size:=by have:=(g6 (cx X w β (AH s.bk))).length;rw[He,<-Y] at this;simpa using this.symm
     obtain⟨base,cap,H,k1,k2,k3⟩:=Oj (By G (by simp)) (GB hb).symm
     have L:id<s.bk.length:=by
      rcases Nat.lt_or_ge id s.bk.length with R | R
      ·exact R
      rw[JZ _ _ R] at hb;cases hb
     obtain⟨aa,w',β',j,S'⟩:=S7 S (ty:=o.type) hu M g1 g5 g2 O g4 k1 k2 (id:=id) (l:=l) (l2:=l2) rfl (by
      rcases k3 with rfl |⟨b,arr,e,q1,q2,q3,q4⟩
      ·exact .inl rfl
      rcases S.blocks id _ hb with⟨p1,p2⟩ |⟨b',ab,e',p1,p2,p3⟩
      ·exact absurd (p1.symm.trans q1) (by simp)
      obtain rfl:b'=b:=Option.some.inj (p1.symm.trans q1);exact .inr ⟨b',arr,e,q1,⟨_,hb,rfl⟩,by simpa using q2,q3,by simpa using q4,p3⟩) hx C (by rw[g3];exact B) (dst:=o.dst) (vv:=v'+1) (rd:=id::Ci x) L (by rw[GB hb];rfl)
     refine Cc (u:=aa) (w':=w') (JH ho hc ?_) (V β' _ _ S');rw[K _ r,F,H];simp[builtin,j]
    exact h.elim
   exact h.elim
 exact h.elim
end
theorem W0:∀(l:List Value) (off k:Nat) (c:Array Value),((l.zipIdx k).foldl (fun (cs:Array Value) (x:Value×Nat)=>cs.setIfInBounds (off+x.2) x.1) c).toList=Dj c.toList (off+k) l
 | [],off,k,c=>by simp[SL]
 | v::l,off,k,c=>by
  rw[List.zipIdx_cons,List.foldl_cons,W0 l off (k+1),Array.toList_setIfInBounds,<-Nat.add_assoc,SM]
theorem Ww {place:Nat->Option (Nat×Nat)} {c:Array Value} {i:Nat} {v:Value} {r:List (Nat×Value)} {off n:Nat} (d:place i=some (off,n)) (g:v.cells.size=n) (f:off+n<=c.size):
  ∃a,a.toList=Dj c.toList off v.cells.toList/\Instr.fill place c ((i,v)::r)=Instr.fill place a r:=by
 refine⟨v.cells.zipIdx.foldl (fun cs (x,j)=>cs.setIfInBounds (off+j) x) c,?_,?_⟩
 ·have:=W0 v.cells.toList off 0 c;rw[Nat.add_zero] at this;rw[<-this,<-Array.foldl_toList,Array.toList_zipIdx]
 have b:¬(v.cells.size≠n\/off+v.cells.size>c.size):=by omega
 rw[Instr.fill];simp only[d];rw[if_neg (by simpa using b)]
theorem RO {α:Type}:∀(l:List α) (o:Nat) (xs:List α),(Dj l o xs).length=l.length
 | _,0,[]=>by rw[SL]
 | [],0,_::_=>rfl
 | _::cs,0,_::xs=>by simp[Dj,RO cs 0 xs]
 | [],_+1,_=>rfl
 | _::cs,o+1,xs=>by simp[Dj,RO cs o xs]
section
variable {P:Program} {E:Env} {TI:TypeId->Info}
theorem Wt {x:Cx} {s:St} {a:Act} (f:∀o,Bu x (ev s.sl o) (a.eval o)) {b:List (Nat×Nat×Bool)} {pl:Nat->Option (Nat×Nat)} (j:∀(i o n:Nat) (g:Bool),b[i]? =some (o,n,g)->pl i=some (o,n)):
  ∀(parts:List (Nat×Operand)) (cs r:List AC) (c:Array Value),IB b (ev s.sl) parts cs=some r->Ai (BR x) cs c.toList->
   ∃k,Instr.fill pl c (parts.map fun p=>(p.1,a.eval p.2))=some k/\Ai (BR x) r k.toList
 | [],cs,r,c,h,l=>⟨c,rfl,by simp[IB] at h;subst h;exact l⟩
 | (i,o)::parts,cs,r,c,h,l=>by
  simp only[IB] at h
  split at h
  ·rename_i off n g y
   split at h
   ·rename_i hc
    obtain⟨v,q,h3⟩:=hc;have t:∀xs,ev s.sl o≠ .AF xs:=fun xs e=>by rw[e] at q;simp[AV.full] at q
    have d:=(ND (f o) t).cells q;have u:(a.eval o).cells.size=n:=by have:=d.length;rw[v] at this;simpa using this.symm
    have w:=l.length;simp only[Array.length_toList] at w;obtain⟨k,B,C⟩:=Ww (c:=c) (r:=parts.map fun p=>(p.1,a.eval p.2)) (j i off n g y) u (by omega);obtain⟨m,z,A⟩:=Wt f j parts _ r k h (by rw[B];exact l.Dj off d);exact⟨m,by rw[List.map_cons,C];exact z,A⟩
   cases h
  cases h
theorem nJ (D:∀t,D1 P t (TI t)) {o:Oper} {t:TypeId} {parts:Array (Nat×Operand)} (G:o.op= .build t parts):Sound P E TI o:=by
 intro w0 X β s a w S f h N Q L;simp only[Ca,G] at h;obtain⟨⟨F,q⟩,h⟩:=h;obtain⟨Z,z,d,J,U,h3,K,V,W,Y⟩:=(D t).info F
 split at h
 ·rename_i cs M
  subst h;have r:(TI t).fields≠[]:=fun e=>by simp[e] at q
  obtain⟨fs,hu,hlen,p⟩:=(D t).fields F r
  have c:∃b,fs.toList.mapM (fun f=>(P.info? f.type).map fun i=>(f.offset,i.size))=some b/\∀(i o n:Nat) (g:Bool),(TI t).fields[i]? =some (o,n,g)->b[i]? =some (o,n):=by
   refine⟨(TI t).fields.map fun x=>(x.1,x.2.1),mapM_some_of_get _ _ (by simpa using hlen) fun i x A=>?_,fun i o n g j=>by simp[j]⟩
   have j:i<(TI t).fields.length:=by
    rcases Nat.lt_or_ge i fs.toList.length with m | m
    ·simpa [hlen] using m
    rw[List.getElem?_eq_none m] at A;cases A
   obtain⟨fl,T,I,e2,C,_⟩:=p i (TI t).fields[i].1 (TI t).fields[i].2.1 (TI t).fields[i].2.2 (by simp[j])
   have:x=fl:=by have k:fs[i]? =some x:=by simpa using A
                 rw[I] at k;exact (Option.some.inj k).symm
   subst this;cases H:P.info? x.type with
   | none=>simp[H] at C
   | some B=>
    have:B.size=(TI t).fields[i].2.1:=by simpa [H] using C
    simp[j,e2,this]
  obtain⟨b,v,y⟩:=c;obtain⟨l,O,R⟩:=Wt (C1 S.CW) (pl:=fun i=>b.toArray[i]?) (fun i o n g j=>by simpa using y i o n g j) parts.toList _ _ z.cells M (K _)
  have hb:P.built t (parts.map fun (i,x)=>(i,a.eval x)).toList=some l:=by
   unfold Program.built;simp only[J,hu,h3,v];simpa using O
  refine Cc (u:= .agg l) (w':=w) ?_ (L _ _ _ (S.val ⟨l,rfl,R⟩));simp[execOp,G,run_build w t _ l hb]
 exact h.elim
theorem SK:∀(pre a post vs:List Value),vs.length=a.length->Dj (pre++(a++post)) pre.length vs=pre++(vs++post)
 | [],[],post,[],_=>by cases post <;> rfl
 | [],m::a,post,v::vs,h=>by
  have:=SK [] a post vs (by simpa using h);simp only[List.nil_append,List.length_nil] at this;simp[Dj,this]
 | p::pre,a,post,vs,h=>by simp[Dj,SK pre a post vs h]
 |[],[],_,_::_,h|[],_::_,_,[],h=>by simp at h
theorem Wu {n:Nat}:∀(vs:List Value) (k:Nat) (c:Array Value),(∀v∈vs,v.cells.size=n)->c.size=(k+vs.length)*n->
  ∃b,Instr.fill (fun i=>some (i*n,n)) c (vs.zipIdx k |>.map fun x=>(x.2,x.1))=some b/\b.toList=c.toList.take (k*n)++vs.flatMap (·.cells.toList)
 | [],k,c,_,h=>⟨c,rfl,by simp at h;rw[<-h,List.take_of_length_le (by simp)];simp⟩
 | v::vs,k,c,o,h=>by
  have d:=o v (by simp);have g:c.size=k*n+(n+vs.length*n):=by rw[h,List.length_cons,Nat.add_mul,Nat.succ_mul];omega
  obtain⟨b,p,w⟩:=Ww (place:=fun i=>some (i*n,n)) (c:=c) (i:=k) (v:=v) (r:=(vs.zipIdx (k+1)).map fun x=>(x.2,x.1)) (off:=k*n) (n:=n) rfl d (by omega);have m:c.toList.length=k*n+(n+vs.length*n):=by simpa using g
  have q:c.toList=c.toList.take (k*n)++((c.toList.drop (k*n)).take n++c.toList.drop (k*n+n)):=by
   rw[<-List.drop_drop,List.take_append_drop,List.take_append_drop]
  have a:(c.toList.take (k*n)).length=k*n:=by simp[m]
  have f:v.cells.toList.length=((c.toList.drop (k*n)).take n).length:=by simp[d,m]
  have e2:b.toList=c.toList.take (k*n)++(v.cells.toList++c.toList.drop (k*n+n)):=by
   rw[p];conv=>lhs;rw[q]
   have:=SK (c.toList.take (k*n)) ((c.toList.drop (k*n)).take n) (c.toList.drop (k*n+n)) v.cells.toList f;rwa [a] at this
  have l:b.size=(k+1+vs.length)*n:=by
   have:b.toList.length=c.toList.length:=by rw[p,RO]
   simp only[Array.length_toList] at this;rw[this,g,Nat.add_mul,Nat.add_mul];omega
  obtain⟨j,s,t⟩:=Wu vs (k+1) b (fun u hu=>o u (by simp[hu])) l;refine⟨j,by rw[List.zipIdx_cons,List.map_cons,w];exact s,?_⟩;rw[t,e2,List.flatMap_cons]
  have:(c.toList.take (k*n)++(v.cells.toList++c.toList.drop (k*n+n))).take ((k+1)*n)=c.toList.take (k*n)++v.cells.toList:=by
   rw[<-List.append_assoc,List.take_left'];simp[a,d,Nat.add_mul]
  rw[this,List.append_assoc]
theorem nK (hT:∀t,D1 P t (TI t)) {o:Oper} {t:TypeId} {len:Nat} {parts:Array (Nat×Operand)} (ho:o.op= .buildSlice t len parts) (hd:o.dst≠none):Sound P E TI o:=by
 intro w0 X β s a w S f h N Q Z;simp only[Ca,ho] at h;obtain⟨hk,Y,xs,a8,h⟩:=h;obtain⟨R,hlen,F,J⟩:=a8 ();obtain⟨hu,ei,z,g1,g2,g3,g4,g5,g6⟩:=(hT t).sl hk;have aa:=T.size_pos (TI t).elem;have ab:z.cells.size=(TI t).elem.size:=by have:=(g6 (cx X w β (AH s.bk))).length;rw[He] at this;simpa using this.symm
 have G:∀(B:List (Nat×Operand)) (k:Nat) (ys:List (el (TI t).elem)),(B.all fun p=>(ev s.sl p.2).full)=true->QH (B.map fun p=>(p.1,(ev s.sl p.2).cs)) k (ys.map (cells _))->
   (B.map fun p=>(p.1,a.eval p.2))=((B.map fun p=>a.eval p.2).zipIdx k).map (fun x=>(x.2,x.1))/\(∀v∈B.map fun p=>a.eval p.2,v.cells.size=(TI t).elem.size)/\
   DP w (cx X w β (AH s.bk)).I (TI t).elem ys ((B.map fun p=>a.eval p.2).flatMap (·.cells.toList))/\ys.length=B.length:=by
  intro B
  induction B with
  | nil=>intro k ys _ D;cases ys with
   | nil=>exact⟨rfl,by simp,rfl,rfl⟩
   | cons y ys=>exact D.elim
  | cons p B ih=>
   intro k ys g D;cases ys with
   | nil=>exact D.elim
   | cons y ys=>
    obtain⟨e1,e2,e3⟩:=D;simp only[List.all_cons,Bool.and_eq_true] at g;have a5:∀xs,ev s.sl p.2≠ .AF xs:=fun xs e=>by rw[e] at g;simp[AV.full] at g
    have K:=Nz (fun _ _ _=>Od) e2 ((ND (C1 S.CW p.2) a5).cells g.1);obtain⟨q1,q2,U,q4⟩:=ih (k+1) ys g.2 e3;have W:p.1=k:=e1;refine⟨by rw[List.map_cons,List.map_cons,List.zipIdx_cons,List.map_cons,q1,W],fun v hv=>?_,⟨_,_,by rw[List.map_cons,List.flatMap_cons],(IP _ _ _ _).2 K,U⟩,by simp[q4]⟩;rcases List.mem_cons.1 hv with rfl | hv
    ·have:=K.length;rw[He] at this;simpa using this.symm
    exact q2 v hv
 obtain⟨q1,q2,U,q4⟩:=G parts.toList 0 xs F J;have O:parts.toList.length=len:=by omega
 have hmul:len*(TI t).elem.size<=524288*32:=Nat.mul_le_mul hlen Y
 have c:∃arr,(execOp a.eval o).run P w= .ok (.value (.slice (some ⟨w.heap.size,0,none⟩) len len)) (w.alloc (.cells arr (TI t).DR))/\arr.toList=(parts.toList.map fun p=>a.eval p.2).flatMap (·.cells.toList):=by
  by_cases h0:len=0
  ·subst h0;have a6:parts= #[]:=by apply Array.ext';exact List.eq_nil_of_length_eq_zero O
   subst a6;refine⟨#[],?_,rfl⟩;simp[execOp,ho,Instr.buildSlice,run_underlying hu,sizeOf,typeInfo,g1,Instr.fill,newRow,Array.range_zero']
  obtain⟨c',p1,p2⟩:=Wu (n:=(TI t).elem.size) (parts.toList.map fun p=>a.eval p.2) 0 ((Array.range (len*ei.size)).map (z.cells[· % z.cells.size]!)) q2 (by simp[O,g2]);refine⟨c',?_,by simpa using p2⟩
  have:=run_buildSlice (P:=P) w t (TI t).DR len (parts.map fun (i,x)=>(i,a.eval x)) c' ei z hu g1 g5 (by rw[g2];omega) (by rw[g2];exact Nat.mul_ne_zero h0 (by omega))
   (by rw[<-p1,<-q1,g2];simp)
  simp[execOp,ho,this]
 obtain⟨arr,c,l⟩:=c;obtain⟨q,hq⟩:=Option.ne_none_iff_exists'.1 hd;have a1:Bv o=q:=by simp[Bv,hq]
 have a7:arr.size=len*(TI t).elem.size:=by
  have:=U.length;rw[<-l,R] at this;simpa using this
 have hB:∀y:Cx,(cx X w β (AH s.bk)).le y->y.w=w.alloc (.cells arr (TI t).DR)->y.β q=some w.heap.size->DJ y q (.arr (AR (AH s.bk) q+1) (TI t).elem xs):=by
  intro y hle hw hb;refine Or.inr ⟨_,arr,_,hb,by rw[hw];exact heap_alloc_new w _,fun i u hi=>?_⟩
  have hr:y.w.rangeAt w.heap.size 0 ((parts.toList.map fun p=>a.eval p.2).flatMap (·.cells.toList)):=by
   intro j v hj;rw[hw,World.cell?_alloc_new,<-l] at*;simpa using hj
  obtain⟨us,p1,p2⟩:=NK (DP.mono hle.I U) hr i u hi;exact⟨us,p1,by simpa using p2⟩
 have M:len<=maxLen:=by unfold maxLen;omega
 rcases h with h | h
 ·subst h;rw[a1,hq] at Z
  obtain⟨β',V⟩:=S.new (dst:=q) (d:=q) rfl (av:= .one (.AS (TI t).elem q (AR (AH s.bk) q+1) 0 len)) (Bp:= .arr (AR (AH s.bk) q+1) (TI t).elem xs) (rd:=[q])
   (u:= .slice (some ⟨w.heap.size,0,none⟩) len len) (w':=w.alloc (.cells arr (TI t).DR)) (arr:=arr) (e:=(TI t).DR) rfl rfl rfl rfl rfl (by show xs.length<=_;omega) hB
   (fun y _ hw hb hc=>Or.inr ⟨⟨rfl,by omega⟩,fun _=>⟨_,_,rfl,Nat.le_refl _,M,by simp,.inr ⟨_,_,_,hb,by rw[Nat.zero_mul],by rw[hw];exact heap_alloc_new w _,by rw[a7,Nat.zero_add];exact Nat.le_refl _⟩⟩⟩)
  exact Cc c (by rw[hq];exact Z _ _ _ V)
 subst h
 have H:∀k b,live (AH s.bk) k->β k=some b->b<w.heap.size:=fun k b ⟨C,a2,hl⟩ hb=>by
  have L:∀b o,w.heap[b]? =some o->b<w.heap.size:=fun b o h=>by
   rcases Nat.lt_or_ge b w.heap.size with h' | h'
   ·exact h'
   simp[Array.getElem?_eq_none h'] at h
  have r:=S.blocks k C a2;cases C with
  | dead _=>simp[AM.live] at hl
  | var _ _=>obtain⟨b',arr,e,g,D,_⟩:=r;obtain rfl:b=b':=Option.some.inj (hb.symm.trans g);exact L b _ D
  | arr _ _ _=>
   rcases r with⟨g,_⟩ |⟨b',arr,e,g,D,_⟩
   ·exact absurd (hb.symm.trans g) (by simp)
   obtain rfl:b=b':=Option.some.inj (hb.symm.trans g);exact L b _ D
 have A:∀b,b<w.heap.size->(w.alloc (.cells arr (TI t).DR)).heap[b]? =w.heap[b]? :=fun b hb=>Below.heap_alloc _ _ _ hb
 have m:w.heap.size<=(w.alloc (.cells arr (TI t).DR)).heap.size:=by simp
 have hI:∀b,(cx X w β (AH s.bk)).I b->(cx X (w.alloc (.cells arr (TI t).DR)) β (AH s.bk)).I b/\(w.alloc (.cells arr (TI t).DR)).heap[b]? =w.heap[b]? :=fun b hb=>⟨⟨⟨Nat.lt_of_lt_of_le hb.1.1 m,hb.1.2⟩,hb.2⟩,A b hb.1.1⟩
 have V:=S.ext (dst:=o.dst) (v:= .one (.sl (TI t).elem xs)) (u:= .slice (some ⟨w.heap.size,0,none⟩) len len) (rd:=[]) (w':=w.alloc (.cells arr (TI t).DR)) A m rfl rfl rfl (Or.inr (by
  refine⟨some ⟨w.heap.size,0,none⟩,len,by rw[R],by omega,by omega,.inr ⟨w.heap.size,0,rfl,⟨⟨by simp,fun id hl hb=>?_⟩,S.fresh _ S.size⟩,fun i u hi=>?_⟩⟩
  ·exact absurd (H id _ hl hb) (by omega)
  have hr:(w.alloc (.cells arr (TI t).DR)).rangeAt w.heap.size 0 ((parts.toList.map fun p=>a.eval p.2).flatMap (·.cells.toList)):=by
   intro j v hj;rw[World.cell?_alloc_new,<-l] at*;simpa using hj
  exact NK (DP.mono hI U) hr i u hi))
 exact Cc c (Z _ _ _ V)
end
section
variable {P:Program} {TI:TypeId->Info}
theorem fp {a:Act} {w:World} {o:Oper} {c:Call} {x:Operand} {g:FuncId} (i:o.op= .call c) (hc:c.callee= .value x) (j:a.eval x= .func (.func g) #[] #[]) (h:Callee P g):
  (execOp a.eval o).run P w= .ok (.enter g (c.args.map a.eval)) w:=by
 obtain⟨fn,body,b,d,h3⟩:=h;have f : fn.name ≠ "runtime.NumGoroutine" := by simpa using d
 simp[execOp,i,resolve,hc,j,Deferred.ofValue,invoke,callFunc,b,f,h3]
theorem Pc {a:Act} {w:World} {o:Oper} {c:Call} {x:Operand} {g:FuncId} {N:Act->World->Prop} {Q:Exit->Act->World->Prop} (f:o.op= .call c) (hc:c.callee= .value x) (j:a.eval x= .func (.func g) #[] #[]) (b:Callee P g)
  {R:Ending->World->Prop} (h:Calls P g (c.args.map a.eval) w R) (hR:∀e w',R e w'->∃u,e= .returned u/\N (a.put o.dst u) w'):o.wp P a w N Q:=by
 unfold Oper.wp;rw[fp f hc j b,Oper.upon_enter];exact h.mono fun e w' i=>by obtain⟨u,rfl,d⟩:=hR e w' i;exact d
theorem Mx {x y:Cx} (h:∀b,x.I b->y.I b/\y.w.heap[b]? =x.w.heap[b]?):∀{c:AC} {v:Value},BZ c=true->BR x c v->BR y c v
 |.Bz,_,_,r|.int _ _,_,_,r|.bool _,_,_,r|.fn _,_,_,r|.nil,_,_,r=>r
 | .sl _ _,_,_,r=>C0 h _ _ _ r
 |.AS _ _ _ _ _,_,e,_|.Df _ _ _ _ _,_,e,_|.Ag _ _ _,_,e,_|.DE _ _ _ _ _,_,e,_|.Dp _ _ _,_,e,_|.ub _,_,e,_|.own _ _ _,_,e,_=>by simp[BZ] at e
theorem XZ:∀{c d:AC},Bm c d->BZ d=true
 |.int _ _,_,h|.bool _,_,h|.fn _,_,h|.sl _ _,_,h=>by rw[show _=_ from h];rfl
 | .nil,_,h=>by rcases h with rfl |⟨t,rfl⟩ <;> rfl
 |.Bz,_,h|.AS _ _ _ _ _,_,h|.Df _ _ _ _ _,_,h|.Ag _ _ _,_,h|.DE _ _ _ _ _,_,h|.Dp _ _ _,_,h|.ub _,_,h|.own _ _ _,_,h=>h.elim
theorem VH:∀{l m:List AC},BV Bm l m->m.all BZ=true
 | [],[],_=>rfl
 | _::_,_::_,h=>by simp[XZ h.1,VH h.2]
 |[],_::_,h|_::_,[],h=>h.elim
theorem Ai.pure {x y:Cx} (h:∀b,x.I b->y.I b/\y.w.heap[b]? =x.w.heap[b]?):∀{cs:List AC} {vs:List Value},cs.all BZ=true->Ai (BR x) cs vs->Ai (BR y) cs vs
 | [],[],_,_=>trivial
 | _::_,_::_,e,r=>by simp only[List.all_cons,Bool.and_eq_true] at e;exact⟨Mx h e.1 r.1,Ai.pure h e.2 r.2⟩
 |[],_::_,_,r|_::_,[],_,r=>r.elim
theorem QL {x y:Cx} (h:∀b,x.I b->y.I b/\y.w.heap[b]? =x.w.heap[b]?):∀{l m:List AV} {vs:List Value},GK Bm l m->Ai (Bu x) l vs->Ai (Bu y) m vs
 | [],[],[],_,_=>trivial
 | .one c::_,.one d::_,_::_,a,r=>⟨Or.inr (Mx h (XZ a.1) (Od a.1 (By r.1 (by intro e;subst e;exact a.1.elim)))),QL h a.2 r.2⟩
 | .agg c::_,.agg d::_,_::_,a,r=>by
  obtain⟨arr,e,f⟩:=r.1;exact⟨⟨arr,e,Ai.pure h (VH a.1) (Nz (fun _ _ _=>Od) a.1 f)⟩,QL h a.2 r.2⟩
 |[],_::_,_,a,_|_::_,[],_,a,_=>a.elim
 |.one _::_,.agg _::_,_,a,_|.one _::_,.AF _::_,_,a,_|.agg _::_,.one _::_,_,a,_|.agg _::_,.AF _::_,_,a,_|.AF _::_,.one _::_,_,a,_|.AF _::_,.agg _::_,_,a,_|.AF _::_,.AF _::_,_,a,_=>a.1.elim
 |[],[],_::_,_,r|.one _::_,.one _::_,[],_,r|.agg _::_,.agg _::_,[],_,r=>r.elim
theorem Z3 {w0:World} {X:WX} {β:Nat->Option Nat} {s:St} {a:Act} {w:World} (S:Bo w0 X β s a w) {J:Nat->Prop} (p:∀b,(cx X w β (AH s.bk)).I b->J b):∀{c d:AC} {v:Value},(∀id b,id∈Ci c->live (AH s.bk) id->β id=some b->b<w.heap.size->J b)->Fh (AH s.bk) c d->BR (cx X w β (AH s.bk)) c v->BR (Dm w J) d v
 |.int _ _,_,_,_,h,r|.bool _,_,_,_,h,r|.fn _,_,_,_,h,r=>by rw[show _=_ from h];exact r
 | .sl t l,_,v,_,h,r=>by
  rw[show _=_ from h];exact C0 (w':=w) (fun b hb=>⟨p b hb,rfl⟩) (.sl t) l [v] r
 | .nil,_,_,_,h,r=>by
  rcases h with rfl |⟨t,rfl⟩
  ·exact r
  rw[show _=_ from r];exact⟨none,0,rfl,Nat.le_refl _,by simp,.inl rfl⟩
 | .AS t id vv off len,d,v,f,⟨l,hb,hle,h⟩,r=>by
  subst h
  have k:∀b o,w.heap[b]? =some o->b<w.heap.size:=fun b o h=>by
   rcases Nat.lt_or_ge b w.heap.size with h' | h'
   ·exact h'
   simp[Array.getElem?_eq_none h'] at h
  obtain⟨base,cap,z,x,D,h3⟩:=Oj r (GB hb).symm;have hlen:((l.drop off).take len).length=len:=by simp;omega
  subst z;refine⟨base,cap,by rw[hlen],by rw[hlen];exact x,?_,?_⟩
  ·have:=S.lens id _ hb;simp only[AM.short] at this;omega
  by_cases u:len=0
  ·left;subst u;simp
  rcases h3 with rfl |⟨b,arr,e,q,rfl,C,F⟩
  ·omega
  rcases S.blocks id _ hb with⟨j,A⟩ |⟨b',n,e',j,A,B⟩
  ·exact absurd (j.symm.trans q) (by simp)
  obtain rfl:b'=b:=Option.some.inj (j.symm.trans q);refine .inr ⟨b',off*t.size,rfl,f id b' (by simp[Ci]) ⟨_,hb,rfl⟩ j (k _ _ C),fun i y g=>?_⟩
  have m:l[off+i]? =some y:=by
   rw[List.getElem?_take] at g
   split at g
   ·simpa using g
   cases g
  obtain⟨us,k1,k2⟩:=B _ y m;exact⟨us,C0 (w':=w) (fun b hb=>⟨p b hb,rfl⟩) _ _ _ k1,by rw[<-Nat.add_mul];exact k2⟩
 |.Bz,_,_,_,h,_|.Df _ _ _ _ _,_,_,_,h,_|.Ag _ _ _,_,_,_,h,_|.DE _ _ _ _ _,_,_,_,h,_|.Dp _ _ _,_,_,_,h,_|.ub _,_,_,_,h,_|.own _ _ _,_,_,_,h,_=>h.elim
end
end Go.Abs
