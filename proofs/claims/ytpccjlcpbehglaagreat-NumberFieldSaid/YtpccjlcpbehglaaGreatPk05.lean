/- Part 6 of a proof. Conditions: each theorem's own. -/
import Derived.Test.YtpccjlcpbehglaaGreatPk04
set_option linter.all false
set_option maxHeartbeats 8000000
namespace Go.Abs
open Go.RowKit
section
variable {P:Program} {E:Env} {TI:TypeId→Info}
theorem sound_makeSlice (hT:∀t,TyOK P t (TI t)) {o:Oper} {t:TypeId} {x y:Operand} (ho:o.op= .makeSlice t x y) (hd:o.dst≠none):Sound P E TI o:=by
 intro w0 X β s a w S f h N Q hN
 simp only[aop,ho] at h
 obtain⟨hk,h⟩:=h
 obtain⟨hu,ei,z,g1,g2,g3,g4,g5,g6⟩:=(hT t).sl hk
 have hx:=ev_rep S.slots x
 have hy:=ev_rep S.slots y
 split at h
 ·rename_i k n k' m he he'
  rw[he] at hx;rw[he'] at hy
  have hx':a.eval x= .int k n:=repV_one hx (by simp)
  have hy':a.eval y= .int k' m:=repV_one hy (by simp)
  obtain⟨hc,h⟩:=h
  obtain⟨h0,h1,h2⟩:=hc ()
  obtain rfl:=h _ _ ⟨rfl,rfl⟩
  unfold fits at h2
  have hpos:0<ei.bytes:=g4
  have hmm:m.toNat≤140737488355328:=Nat.le_trans (Nat.le_mul_of_pos_right _ (by omega)) h2
  have hb:(ei.bytes:Int)*m≤281474976710656:=by
   have e1:((ei.bytes*m.toNat:Nat):Int)≤281474976710656:=by rw[Nat.mul_comm,g3];omega
   rw[Int.natCast_mul] at e1
   rwa [Int.toNat_of_nonneg (by omega)] at e1
  have hrun:=run_make (P:=P) w t _ ei z hu g1 g5 k k' n m h0 h1 hb (by omega)
  obtain⟨q,hq⟩:=Option.ne_none_iff_exists'.1 hd
  have hdq:dstOf o=q:=by simp[dstOf,hq]
  rw[hdq,hq] at hN
  have hzl:z.cells.toList.length=(TI t).elem.size:=by
   have:=(g6 (cx X w β (nthb s.bk))).length
   rw[cells_length] at this;exact this.symm
  have hzs:z.cells.size=ei.size:=by simp only[Array.length_toList] at hzl;omega
  have hpz:=T.size_pos (TI t).elem
  have hcell:∀i j,i<m.toNat→j<(TI t).elem.size→(madeCells z.cells (m.toNat*ei.size))[i*(TI t).elem.size+j]? =z.cells[j]? :=by
   intro i j hi hj
   have h9:i*(TI t).elem.size+j<m.toNat*ei.size:=by
    rw[g2]
    have:(i+1)*(TI t).elem.size≤m.toNat*(TI t).elem.size:=Nat.mul_le_mul_right _ hi
    rw[Nat.add_mul] at this;omega
   have h10:(i*(TI t).elem.size+j)%z.cells.size=j:=by
    rw[hzs,g2,Nat.add_comm,Nat.add_mul_mod_self_right,Nat.mod_eq_of_lt hj]
   have h11:j<z.cells.size:=by omega
   simp only[madeCells,Array.getElem?_map]
   rw[Array.getElem?_range]
   simp[h9,h10,h11]
  have hB:∀y:Cx,y.w=w.alloc (.cells (madeCells z.cells (m.toNat*ei.size)) (TI t).eid)→y.β q=some w.heap.size→RepB y q (.arr (ver (nthb s.bk) q+1) (TI t).elem (List.replicate n.toNat (TI t).zel)):=by
   intro y hw hb
   refine Or.inr ⟨_,_,_,hb,by rw[hw];exact heap_alloc_new w _,fun i u hi=>?_⟩
   have hi':i<n.toNat:=by
    rcases Nat.lt_or_ge i n.toNat with h9 | h9
    ·exact h9
    ·rw[List.getElem?_eq_none (by simpa using h9)] at hi;cases hi
   have:u=(TI t).zel:=by simpa [List.getElem?_replicate,hi',eq_comm] using hi
   subst this
   refine⟨z.cells.toList,(rep_cells y _ _ _).2 (g6 y),fun j v hj=>?_⟩
   have hj':j<(TI t).elem.size:=by
    rcases Nat.lt_or_ge j (TI t).elem.size with h9 | h9
    ·exact h9
    ·rw[List.getElem?_eq_none (by omega)] at hj;cases hj
   rw[hw,World.cell?_alloc_new,hcell i j (by omega) hj']
   simpa using hj
  obtain⟨β',S'⟩:=S.new (dst:=q) (d:=q) rfl (av:= .one (.lsl (TI t).elem q (ver (nthb s.bk) q+1) 0 n.toNat)) (blk:= .arr (ver (nthb s.bk) q+1) (TI t).elem (List.replicate n.toNat (TI t).zel)) (rd:=[q])
   (u:= .slice (some ⟨w.heap.size,0,none⟩) n.toNat m.toNat)
   (w':=w.alloc (.cells (madeCells z.cells (m.toNat*ei.size)) (TI t).eid)) (arr:=madeCells z.cells (m.toNat*ei.size)) (e:=(TI t).eid) rfl rfl rfl rfl rfl (by simp[Blk.short];omega)
   (fun y _ hw hb=>hB y hw hb)
   (fun y _ hw hb hc=>Or.inr ⟨⟨rfl,by omega⟩,fun _=>⟨_,_,rfl,by omega,by unfold maxLen;omega,by simp,.inr ⟨_,_,_,hb,by rw[Nat.zero_mul],by rw[hw];exact heap_alloc_new w _,by rw[size_madeCells,g2,Nat.zero_add];exact Nat.le_refl _⟩⟩⟩)
  refine wp_value (u:= .slice (some ⟨w.heap.size,0,none⟩) n.toNat m.toNat) (w':=w.alloc (.cells (madeCells z.cells (m.toNat*ei.size)) (TI t).eid)) ?_ (by rw[hq];exact hN _ _ _ S')
  simp[execOp,ho,hx',hy',hrun]
 ·exact h.elim
theorem sound_app {w0:World} {X:WX} {β:Nat→Option Nat} {s:St} {a:Act} {w:World} (S:SimB w0 X β s a w) {t tx ty e e2:TypeId} {ei:TypeInfo} {z:Value} {u:T} (ht:P.underlying t=some (.slice e)) (hx2:P.underlying tx=some (.slice e2)) (hi:P.info? e=some ei)
  (hz:ei.zero=some z) (hsize:ei.size=u.size) (hzs:z.cells.size=u.size) (hpos:0<ei.bytes)
  {base:Option Addr} {len cap:Nat} (hlc:len≤cap) (hcm:cap≤maxLen) {id:Nat} {l l2:List (el u)} (hll:l.length=len)
  (hb:(cap=0)∨∃b arr e',β id=some b∧live (nthb s.bk) id∧base=some ⟨b,0,none⟩∧w.heap[b]? =some (.cells arr e' (0,0))∧cap*u.size≤arr.size∧
   ∀(i:Nat) (y:el u),l[i]? =some y→∃us,rep w (cx X w β (nthb s.bk)).I u y us∧w.rangeAt b (i*u.size) us)
  {c:AC} {x:Value} (hr:RepC (cx X w β (nthb s.bk)) c x) (hsn:snapC (nthb s.bk) c (.sl u l2)) (hfit:fits (len+l2.length) ei.bytes)
  {dst:Option Nat} {vv:Nat} {rd:List Nat} (hid:id<s.bk.length) (hvv:vv=ver (nthb s.bk) id+1):
  ∃v' w' β',(Builtin.append_ #[t,tx] ty #[.slice base len cap,x]).run P w= .ok v' w'∧
   SimB w0 X β' (s.app dst ⟨.one (.lsl u id vv 0 (l++l2).length),[(id,.arr vv u (l++l2))],rd⟩) (a.put dst v') w':=by
 obtain⟨news,hs,hrows⟩:=snap_src S hx2 hr hsn
 have holds:∃olds,RowsF w (cx X w β (nthb s.bk)).I u l olds∧(cap=0∨∃b off arr e',base=some ⟨b,off,none⟩∧w.heap[b]? =some (.cells arr e' (0,0))∧off+cap*u.size≤arr.size∧w.rangeAt b off olds):=by
  rcases hb with rfl |⟨b,arr,e',h1,_,h2,h3,h4,h5⟩
  ·have:l=[]:=List.eq_nil_of_length_eq_zero (by omega)
   subst this
   exact⟨[],rfl,.inl rfl⟩
  ·obtain⟨fl,q1,q2⟩:=rowsF_of (off:=0) (fun i y hy=>by simpa using h5 i y hy)
   exact⟨fl,q1,.inr ⟨b,0,arr,e',h2,h3,by omega,q2⟩⟩
 obtain⟨olds,ho1,ho2⟩:=holds
 have hbl:(len+l2.length)*ei.bytes≤140737488355328:=hfit
 have h47:len+l2.length≤140737488355328:=Nat.le_trans (Nat.le_mul_of_pos_right _ hpos) hbl
 have hlen:(l++l2).length=len+l2.length:=by simp[hll]
 have hsh:(Blk.arr vv u (l++l2)).short:=by show (l++l2).length≤_;omega
 have hlt:∀b o,w.heap[b]? =some o→b<w.heap.size:=fun b o h=>by
  rcases Nat.lt_or_ge b w.heap.size with h' | h'
  ·exact h'
  ·simp[Array.getElem?_eq_none h'] at h
 rcases append_core (P:=P) (ty:=ty) ht hi hz hsize hzs hlc (by rw[ho1.length,hll]) ho2 hs hbl hpos with⟨hm,hrun⟩ |⟨b',off',hroom,hbase,hrun⟩ |⟨c',arr,w',h1,h2,h3,h4,h5,h6,h7,h8,hrun⟩
 ·have hl2:l2=[]:=List.eq_nil_of_length_eq_zero hm
  subst hl2
  rcases hb with rfl |⟨b,arr,e',hbid,hlive,rfl,hh,hsz,hrow⟩
  ·have hl0:l=[]:=List.eq_nil_of_length_eq_zero (by omega)
   subst hl0
   refine⟨_,w,fun k=>if k=id then none else β k,hrun,S.write hid hsh (fun k hk=>by simp[hk]) (by simp[Blk.ver];omega) (fun e=>by simp[Blk.ver] at e;omega) (fun _ _ _=>rfl) (Nat.le_refl _)
    (fun b arr e hh=>⟨arr,hh,rfl⟩) rfl rfl rfl (fun _ b hb=>by simp at hb) (fun _=>Or.inl ⟨by show (if id=id then _ else _)=_;simp,rfl⟩) (fun _=>Or.inr ⟨⟨rfl,?_⟩,fun _=>?_⟩)⟩
   ·show vv≤ver _ id;rw[ver_set _ _ _ hid,if_pos rfl];simp[Blk.ver]
   ·exact⟨base,0,by simp at hll;simp[hll.symm],by simp,by simp,by simp,.inl rfl⟩
  ·refine⟨_,w,β,hrun,S.write hid hsh (fun _ _=>rfl) (by simp[Blk.ver];omega) (fun _=>⟨rfl,fun _=>hlive⟩) (fun _ _ _=>rfl) (Nat.le_refl _) (fun b arr e hh=>⟨arr,hh,rfl⟩) rfl rfl rfl (fun _ b hb=> .inl ⟨hb,hlive⟩)
    (fun hle=>Or.inr ⟨b,arr,e',hbid,hh,fun i y hy=>?_⟩) (fun _=>Or.inr ⟨⟨rfl,?_⟩,fun _=>?_⟩)⟩
   ·rw[List.append_nil] at hy
    obtain⟨us,q1,q2⟩:=hrow i y hy
    exact⟨us,rep_mono hle.I _ _ _ q1,q2⟩
   ·show vv≤ver _ id;rw[ver_set _ _ _ hid,if_pos rfl];simp[Blk.ver]
   ·exact⟨some ⟨b,0,none⟩,cap,by simp[hll],by simp[hll,hlc],hcm,by simp,.inr ⟨b,arr,e',hbid,by simp,hh,by simpa using hsz⟩⟩
 ·rcases hb with rfl |⟨b,arr,e',hbid,hlive,hbase2,hh,hsz,hrow⟩
  ·have hl2:l2.length=0:=by omega
   have hn0:news=[]:=by have:=hs.newsLen;rw[hl2,Nat.zero_mul] at this;exact List.eq_nil_of_length_eq_zero this
   have hl20:l2=[]:=List.eq_nil_of_length_eq_zero hl2
   have hl0:l=[]:=List.eq_nil_of_length_eq_zero (by omega)
   subst hl20 hl0 hn0
   refine⟨_,_,fun k=>if k=id then none else β k,hrun,S.write hid hsh (fun k hk=>by simp[hk]) (by simp[Blk.ver];omega) (fun e=>by simp[Blk.ver] at e;omega) (fun _ _ _=>rfl) (Nat.le_refl _)
    (fun b arr e hh=>⟨arr,hh,rfl⟩) rfl rfl rfl (fun _ b hb=>by simp at hb) (fun _=>Or.inl ⟨by show (if id=id then _ else _)=_;simp,rfl⟩) (fun _=>Or.inr ⟨⟨rfl,?_⟩,fun _=>?_⟩)⟩
   ·show vv≤ver _ id;rw[ver_set _ _ _ hid,if_pos rfl];simp[Blk.ver]
   ·simp at hll;subst hll
    exact⟨base,0,by simp,by simp,by simp,by simp,.inl rfl⟩
  ·obtain⟨rfl,rfl⟩:b'=b∧off'=0:=by rw[hbase2] at hbase;simp at hbase;exact⟨hbase.1.symm,hbase.2.symm⟩
   obtain⟨c1,c2,c3,c4⟩:=setCells_same b' news (0+len*u.size) w
   obtain⟨arr',q1,q2,q3⟩:=setCells_block b' news (0+len*u.size) w arr e' hh
   have hnl:=hs.newsLen
   have hfit2:(len+l2.length)*u.size≤arr.size:=Nat.le_trans (Nat.mul_le_mul_right _ hroom) hsz
   refine⟨_,_,β,hrun,S.write hid hsh (fun _ _=>rfl) (by simp[Blk.ver];omega) (fun _=>⟨rfl,fun _=>hlive⟩) (fun k hk hne=>setCells_other b' _ _ _ k (fun e=>hne hlive (e ▸ hbid))) (by omega) (fun k arr2 e2 hh2=>?_) c1 c2 c3 (fun _ b hb=> .inl ⟨hb,hlive⟩)
    (fun hle=>Or.inr ⟨b',arr',e',hbid,q1,fun i y hy=>?_⟩) (fun _=>Or.inr ⟨⟨rfl,?_⟩,fun _=>?_⟩)⟩
   ·by_cases e1:k=b'
    ·subst e1
     obtain⟨arr3,p1,p2,p3⟩:=setCells_block k news (0+len*u.size) w arr2 e2 hh2
     exact⟨arr3,p1,p3⟩
    ·exact⟨arr2,(setCells_other b' _ _ _ k e1).trans hh2,rfl⟩
   ·rcases Nat.lt_or_ge i l.length with h9 | h9
    ·rw[List.getElem?_append_left h9] at hy
     obtain⟨us,p1,p2⟩:=hrow i y hy
     refine⟨us,rep_mono hle.I _ _ _ p1,fun j v hj=>?_⟩
     have hul:=rep_length _ _ _ p1
     have hj':j<us.length:=by
      rcases Nat.lt_or_ge j us.length with h9 | h9
      ·exact h9
      ·simp[List.getElem?_eq_none h9] at hj
     have hlt2:i*u.size+j<len*u.size:=by
      have:(i+1)*u.size≤len*u.size:=Nat.mul_le_mul_right _ (by omega)
      rw[Nat.add_mul] at this;omega
     show (w.setCells b' (0+len*u.size) news).cell? _=_
     rw[World.cell?_setCells_out b' _ _ w _ (fun _ _=> .inl (by show i*u.size+j<_;omega))]
     exact p2 j v hj
    ·rw[List.getElem?_append_right h9] at hy
     have hrg:(w.setCells b' (0+len*u.size) news).rangeAt b' (0+len*u.size) news:=by
      intro j v hj
      have hj':j<news.length:=by
       rcases Nat.lt_or_ge j news.length with h9 | h9
       ·exact h9
       ·simp[List.getElem?_eq_none h9] at hj
      rw[World.cell?_setCells_in b' news _ w (fun m hm=>(there_of_block hh (n:=news.length) (by rw[hnl];rw[Nat.add_mul] at hfit2;omega) m hm).1) j hj']
      simp[List.getElem?_eq_getElem hj'] at hj;simpa using hj
     obtain⟨us,p1,p2⟩:=rowsF_to (RowsF.mono hle.I hrows) hrg _ y hy
     refine⟨us,p1,?_⟩
     rwa [show 0+len*u.size+(i-l.length)*u.size=i*u.size by rw[hll] at h9 ⊢;rw[Nat.zero_add,←Nat.add_mul];congr 1;omega] at p2
   ·show vv≤ver _ id;rw[ver_set _ _ _ hid,if_pos rfl];simp[Blk.ver]
   ·exact⟨some ⟨b',0,none⟩,cap,by rw[hlen,hbase],by rw[hlen];exact hroom,hcm,by simp,.inr ⟨b',arr',e',hbid,by simp,q1,by simp;omega⟩⟩
 ·have hget:∀b,b<w.heap.size→w'.heap[b]? =w.heap[b]? :=fun b hb=>by rw[h3,Array.getElem?_push,if_neg (by omega)]
  have hnew:w'.heap[w.heap.size]? =some (.cells arr e (0,0)):=by rw[h3];simp
  refine⟨_,w',fun k=>if k=id then some w.heap.size else β k,hrun,S.write hid hsh (fun k hk=>by simp[hk]) (by simp[Blk.ver];omega) (fun e=>by simp[Blk.ver] at e;omega) (fun b hb _=>hget b hb) (by rw[h3];simp)
   (fun b arr' e' hh=>⟨arr',(hget b (hlt b _ hh)).trans hh,rfl⟩) h4 h5 h6 (fun _ b hb=> .inr (by simp at hb;omega)) (fun hle=>Or.inr ⟨w.heap.size,arr,e,by show (if id=id then _ else _)=_;simp,hnew,fun i y hy=>?_⟩) (fun _=>Or.inr ⟨⟨rfl,?_⟩,fun _=>?_⟩)⟩
  ·obtain⟨us,p1,p2⟩:=rowsF_to ((RowsF.mono hle.I ho1).append (RowsF.mono hle.I hrows)) h8 i y hy
   exact⟨us,p1,by simpa using p2⟩
  ·show vv≤ver _ id;rw[ver_set _ _ _ hid,if_pos rfl];simp[Blk.ver]
  ·exact⟨some ⟨w.heap.size,0,none⟩,c',by rw[hlen],by rw[hlen];exact h1,h2,by simp,.inr ⟨w.heap.size,arr,e,by show (if id=id then _ else _)=_;simp,by simp,hnew,by rw[h7];simp⟩⟩
end
end Go.Abs
namespace Go.Abs
open Go.RowKit
section
variable {P:Program} {E:Env} {TI:TypeId→Info}
theorem args_rep {x:Cx} {s:St} {a:Act} (h:∀o,RepV x (ev s.sl o) (a.eval o)):∀(l:List Operand),All2 (RepV x) (l.map (ev s.sl)) (l.map a.eval)
 | []=>trivial
 | o::l=>⟨h o,args_rep h l⟩
theorem builtin_run {a:Act} {w:World} {o:Oper} {c:Call} {b:Builtin} {u:Value} {w':World} (ho:o.op= .call c) (hb:c.callee= .builtin b) (h:(builtin b c.argTypes o.type (c.args.map fun | .const _=>true | _=>false) (c.args.map a.eval)).run P w= .ok (.value u) w'):
  (execOp a.eval o).run P w= .ok (.value u) w':=by
 simp only[execOp,ho,resolve,hb,Sem.run_bind,Sem.run_pure,Result.andThen_ok,invoke]
 exact h
theorem lsl_val {x:Cx} {t:T} {id ver off len:Nat} {v:Value} (h:RepC x (.lsl t id ver off len) v) (hv:ver=x.cv id):∃base cap,v= .slice base len cap∧len≤cap∧cap≤maxLen∧
  (cap=0∨∃b arr e,x.β id=some b∧base=some ⟨b,off*t.size,none⟩∧x.w.heap[b]? =some (.cells arr e (0,0))∧(off+cap)*t.size≤arr.size):=by
 obtain⟨base,cap,h1,h2,h3,_,h4⟩:=h.2 hv
 exact⟨base,cap,h1,h2,h3,h4⟩
theorem csl_val {x:Cx} {t:T} {id ver off len:Nat} {v:Value} (h:RepC x (.csl t id ver off len) v) (hv:ver=x.cv id):∃base cap,v= .slice base len cap∧len≤cap∧cap≤maxLen∧cap=len∧
  (cap=0∨∃b arr e,x.β id=some b∧base=some ⟨b,off*t.size,none⟩∧x.w.heap[b]? =some (.cells arr e (0,0))∧(off+cap)*t.size≤arr.size):=by
 obtain⟨base,cap,h1,h2,h3,h5,h4⟩:=h.2 hv
 exact⟨base,cap,h1,h2,h3,h5 rfl,h4⟩
theorem sound_builtin0 (hT:∀t,TyOK P t (TI t)) {o:Oper} {c:Call} {b:Builtin} (ho:o.op= .call c) (hc:c.callee= .builtin b) (hd:o.dst≠none)
  {w0:World} {X:WX} {β:Nat→Option Nat} {s:St} {a:Act} {w:World} (S:SimB w0 X β s a w) {f:Eff} (h:abuiltin TI b c.argTypes.toList (c.args.toList.map (ev s.sl)) (dstOf o) (nthb s.bk) (fun g=>g=f))
  {N:Act→World→Prop} {Q:Exit→Act→World→Prop} (hN:∀β' a' w',SimB w0 X β' (s.app o.dst f) a' w'→N a' w'):o.wp P a w N Q:=by
 have hargs:=args_rep (ev_rep S.slots) c.args.toList
 generalize hA:c.args.toList.map (ev s.sl)=A at h hargs
 generalize hU:c.args.toList.map a.eval=U at hargs
 have hU':c.args.map a.eval=U.toArray:=by rw[←hU];exact Array.ext' (by simp)
 have hty:∀tys,c.argTypes.toList=tys→c.argTypes=tys.toArray:=fun tys e=>by subst e;exact Array.ext' rfl
 obtain⟨q,hq⟩:=Option.ne_none_iff_exists'.1 hd
 have hdq:dstOf o=q:=by simp[dstOf,hq]
 have lenrun:∀{t0:TypeId} {base:Option Addr} {n cap:Nat},c.argTypes.toList=[t0]→(TI t0).sl=true→U=[.slice base n cap]→b= .len→(execOp a.eval o).run P w= .ok (.value (.int .i64 n)) w:=by
  intro t0 base n cap h1 h2 h3 h4
  subst h4
  refine builtin_run ho hc ?_
  rw[hty _ h1,hU',h3]
  simp[builtin,Builtin.len_,run_underlying ((hT t0).sl h2).1,goInt]
 generalize hTy:c.argTypes.toList=tys at h
 unfold abuiltin at h
 split at h
 ·rename_i t0 t l
  match U,hargs with
  | [v],⟨hr,_⟩=>
   obtain⟨h1,h⟩:=h
   obtain⟨base,cap,hv,h2,h3,h4⟩:=repV_one hr (by simp)
   have hv:v= .slice base l.length cap:=by simpa using hv
   obtain rfl:=h _ ⟨rfl,h3⟩
   exact wp_value (lenrun hTy h1 (by rw[hv]) rfl) (hN _ _ _ (S.val (Or.inr rfl)))
 ·rename_i t0 t id v off len
  match U,hargs with
  | [u],⟨hr,_⟩=>
   obtain⟨h1,h⟩:=h
   split at h
   ·rename_i hv
    obtain⟨base,cap,hs,_⟩:=csl_val (repV_one hr (by simp)) hv.symm
    obtain rfl:=h _ ⟨rfl⟩
    exact wp_value (lenrun hTy h1 (by rw[hs]) rfl) (hN _ _ _ (S.val (Or.inr rfl)))
   ·exact h.elim
 ·rename_i t0 t id v off len
  match U,hargs with
  | [u],⟨hr,_⟩=>
   obtain⟨h1,h⟩:=h
   split at h
   ·rename_i hv
    obtain⟨base,cap,hs,_⟩:=lsl_val (repV_one hr (by simp)) hv.symm
    obtain rfl:=h _ ⟨rfl⟩
    exact wp_value (lenrun hTy h1 (by rw[hs]) rfl) (hN _ _ _ (S.val (Or.inr rfl)))
   ·exact h.elim
 ·rename_i t0
  match U,hargs with
  | [u],⟨hr,_⟩=>
   obtain⟨h1,h⟩:=h
   have hs:u= .slice none 0 0:=repV_one hr (by simp)
   subst h
   exact wp_value (lenrun hTy h1 (by rw[hs]) rfl) (hN _ _ _ (S.val (Or.inr rfl)))
 ·rename_i t0
  match U,hargs with
  | [u],⟨hr,_⟩=>
   obtain⟨h1,h⟩:=h
   have hs:u= .slice none 0 0:=repV_one hr (by simp)
   subst h hs
   refine wp_value (u:= .int .i64 0) (w':=w) (builtin_run ho hc ?_) (hN _ _ _ (S.val (Or.inr rfl)))
   rw[hty _ hTy,hU']
   simp[builtin,Builtin.cap_,run_underlying ((hT t0).sl h1).1,goInt]
 ·rename_i k m k' n
  match U,hargs with
  | [u,u'],⟨hr,hr',_⟩=>
   have hs:u= .int k m:=repV_one hr (by simp)
   have hs':u'= .int k' n:=repV_one hr' (by simp)
   obtain rfl:=h _ rfl
   subst hs hs'
   refine wp_value (u:= .int k (if n<m then n else m)) (w':=w) (builtin_run ho hc ?_) (hN _ _ _ (S.val (Or.inr rfl)))
   rw[hU']
   simp[builtin,Builtin.min_,Builtin.min2]
 ·rename_i t0 t1 x
  match U,hargs with
  | [u,u'],⟨hr,hr',_⟩=>
   obtain⟨⟨h0,h1⟩,l2,hl2,h⟩:=h
   obtain⟨hsn,hfit⟩:=hl2 ()
   have hs:u= .slice none 0 0:=repV_one hr (by simp)
   obtain rfl:=h _ rfl
   obtain⟨hu,ei,z,g1,g2,g3,g4,g5,g6⟩:=(hT t0).sl h0
   obtain⟨hu',_⟩:=(hT t1).sl h1
   have hx:RepC (cx X w β (nthb s.bk)) x u':=repV_one hr' (by intro e;subst e;exact hsn.elim)
   have hzs:z.cells.size=(TI t0).elem.size:=by have:=(g6 (cx X w β (nthb s.bk))).length;rw[cells_length] at this;simpa using this.symm
   by_cases hid:q<s.bk.length
   ·obtain⟨v',w',β',hrun,S'⟩:=sound_app S (ty:=o.type) hu hu' g1 g5 g2 hzs g4 (base:=none) (len:=0) (cap:=0) (Nat.le_refl _) (by simp) (id:=q) (l:=[]) (l2:=l2) rfl (.inl rfl) hx hsn (by rw[Nat.zero_add,g3];exact hfit) (dst:=o.dst) (vv:=ver (nthb s.bk) q+1) (rd:=q::idsC x) hid rfl
    refine wp_value (u:=v') (w':=w') (builtin_run ho hc ?_) (hN β' _ _ ?_)
    ·rw[hty _ hTy,hU',hs]
     simp[builtin,hrun]
    ·rw[hdq];simpa using S'
   ·
    have h9:s.bk.length≤q:=Nat.le_of_not_lt hid
    have h2:s.sl.length≤q:=by rw[S.len,←S.lenb];exact h9
    obtain⟨news,hsrc,hrows⟩:=snap_src S hu' hx hsn
    have hs2:s.app o.dst ⟨.one (.lsl (TI t0).elem (dstOf o) (ver (nthb s.bk) (dstOf o)+1) 0 l2.length),[(dstOf o,.arr (ver (nthb s.bk) (dstOf o)+1) (TI t0).elem l2)],dstOf o::idsC x⟩=s.app none ⟨.one .junk,[],dstOf o::idsC x⟩:=by
     rw[hdq,hq];simp[St.app,putD,putWs,setn_ge _ _ _ h2,setn_ge _ _ _ h9]
    have ha:∀v,a.put o.dst v=a.put none undef:=by
     intro v
     have:a.tmps.size≤q:=by rw[←S.lenb];exact h9
     rw[hq];simp[Act.put,Array.setIfInBounds_eq_of_size_le this]
    rcases append_core (P:=P) (ty:=o.type) (w:=w) (base:=none) (len:=0) (cap:=0) (olds:=[]) hu g1 g5 g2 hzs (Nat.le_refl _) (by simp) (.inl rfl) hsrc (by rw[Nat.zero_add,g3];exact hfit) g4 with⟨_,hrun⟩ |⟨b',off',hroom,hbase,hrun⟩ |⟨c',arr,w',h1,h2,h3,h4,h5,h6,h7,h8,hrun⟩
    ·have hrun':(builtin .append c.argTypes o.type (c.args.map fun | .const _=>true | _=>false) (c.args.map a.eval)).run P w= .ok (.value (.slice none 0 0)) w:=by
      rw[hty _ hTy,hU',hs];simp[builtin,hrun]
     exact wp_value (builtin_run ho hc hrun') (by rw[ha];exact hN β _ w (by rw[hs2];exact S.val (repV_junk _ _)))
    ·cases hbase
    ·have hrun':(builtin .append c.argTypes o.type (c.args.map fun | .const _=>true | _=>false) (c.args.map a.eval)).run P w= .ok (.value (.slice (some ⟨w.heap.size,0,none⟩) (0+l2.length) c')) w':=by
      rw[hty _ hTy,hU',hs];simp[builtin,hrun]
     exact wp_value (builtin_run ho hc hrun') (by rw[ha];exact hN β _ w' (by rw[hs2];exact S.ext (fun b hb=>by rw[h3,Array.getElem?_push,if_neg (by omega)]) (by rw[h3];simp) h4 h5 h6 (repV_junk _ _)))
 ·rename_i t0 t1 t id v off len x
  match U,hargs with
  | [u,u'],⟨hr,hr',_⟩=>
   obtain⟨⟨h0,h1⟩,h⟩:=h
   split at h
   ·rename_i v' t' l hb
    split at h
    ·rename_i hcc
     obtain⟨hv',hb1,hb2⟩:=hcc
     obtain rfl:=T.beq_eq hb1
     have hte:=T.beq_eq hb2
     obtain⟨l2,hl2,h⟩:=h
     obtain⟨ho0,hlen,hsn,hfit⟩:=hl2 ()
     obtain rfl:=h _ _ ⟨rfl,rfl⟩
     subst ho0 hv'
     obtain⟨hu,ei,z,g1,g2,g3,g4,g5,g6⟩:=(hT t0).sl h0
     obtain⟨hu',_⟩:=(hT t1).sl h1
     rw[←hte] at g2
     have hx:RepC (cx X w β (nthb s.bk)) x u':=repV_one hr' (by intro e;subst e;exact hsn.elim)
     have hzs:z.cells.size=t'.size:=by have:=(g6 (cx X w β (nthb s.bk))).length;rw[cells_length,←hte] at this;simpa using this.symm
     obtain⟨base,cap,hs,k1,k2,k4,k3⟩:=csl_val (repV_one hr (by simp)) (ver_of hb).symm
     have hid:id<s.bk.length:=by
      rcases Nat.lt_or_ge id s.bk.length with h9 | h9
      ·exact h9
      ·rw[nthb_ge _ _ h9] at hb;cases hb
     obtain⟨v'',w',β',hrun,S'⟩:=sound_app S (ty:=o.type) hu hu' g1 g5 g2 hzs g4 k1 k2 (id:=id) (l:=l.take len) (l2:=l2) (by simp;omega) (by
      rcases k3 with rfl |⟨b,arr,e,q1,q2,q3,q4⟩
      ·exact .inl rfl
      ·rcases S.blocks id _ hb with⟨p1,p2⟩ |⟨b',arr',e',p1,p2,p3⟩
       ·exact absurd (p1.symm.trans q1) (by simp)
       ·obtain rfl:b'=b:=Option.some.inj (p1.symm.trans q1)
        refine .inr ⟨b',arr,e,q1,⟨_,hb,rfl⟩,by simpa using q2,q3,by simpa using q4,fun i y hy=>p3 i y ?_⟩
        rw[List.getElem?_take] at hy
        split at hy
        ·exact hy
        ·cases hy) hx hsn (by rw[g3];exact hfit) (dst:=o.dst) (vv:=v'+1) (rd:=id::idsC x) hid (by rw[ver_of hb];rfl)
     refine wp_value (u:=v'') (w':=w') (builtin_run ho hc ?_) (hN β' _ _ S')
     rw[hty _ hTy,hU',hs]
     simp[builtin,hrun]
    ·exact h.elim
   ·exact h.elim
 ·rename_i t0 t1 t id v off len x
  match U,hargs with
  | [u,u'],⟨hr,hr',_⟩=>
   obtain⟨⟨h0,h1⟩,h⟩:=h
   split at h
   ·rename_i v' t' l hb
    split at h
    ·rename_i hcc
     obtain⟨hv',hb1,hb2⟩:=hcc
     obtain rfl:=T.beq_eq hb1
     have hte:=T.beq_eq hb2
     obtain⟨l2,hl2,h⟩:=h
     obtain⟨ho0,hlen,hsn,hfit⟩:=hl2 ()
     obtain rfl:=h _ _ ⟨rfl,rfl⟩
     subst ho0 hv' hlen
     obtain⟨hu,ei,z,g1,g2,g3,g4,g5,g6⟩:=(hT t0).sl h0
     obtain⟨hu',_⟩:=(hT t1).sl h1
     rw[←hte] at g2
     have hx:RepC (cx X w β (nthb s.bk)) x u':=repV_one hr' (by intro e;subst e;exact hsn.elim)
     have hzs:z.cells.size=t'.size:=by have:=(g6 (cx X w β (nthb s.bk))).length;rw[cells_length,←hte] at this;simpa using this.symm
     obtain⟨base,cap,hs,k1,k2,k3⟩:=lsl_val (repV_one hr (by simp)) (ver_of hb).symm
     have hid:id<s.bk.length:=by
      rcases Nat.lt_or_ge id s.bk.length with h9 | h9
      ·exact h9
      ·rw[nthb_ge _ _ h9] at hb;cases hb
     obtain⟨v'',w',β',hrun,S'⟩:=sound_app S (ty:=o.type) hu hu' g1 g5 g2 hzs g4 k1 k2 (id:=id) (l:=l) (l2:=l2) rfl (by
      rcases k3 with rfl |⟨b,arr,e,q1,q2,q3,q4⟩
      ·exact .inl rfl
      ·rcases S.blocks id _ hb with⟨p1,p2⟩ |⟨b',arr',e',p1,p2,p3⟩
       ·exact absurd (p1.symm.trans q1) (by simp)
       ·obtain rfl:b'=b:=Option.some.inj (p1.symm.trans q1)
        exact .inr ⟨b',arr,e,q1,⟨_,hb,rfl⟩,by simpa using q2,q3,by simpa using q4,p3⟩) hx hsn (by rw[g3];exact hfit) (dst:=o.dst) (vv:=v'+1) (rd:=id::idsC x) hid (by rw[ver_of hb];rfl)
     refine wp_value (u:=v'') (w':=w') (builtin_run ho hc ?_) (hN β' _ _ S')
     rw[hty _ hTy,hU',hs]
     simp[builtin,hrun]
    ·exact h.elim
   ·exact h.elim
 ·exact h.elim
end
end Go.Abs
