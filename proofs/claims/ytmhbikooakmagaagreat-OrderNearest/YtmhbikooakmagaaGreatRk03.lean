/- Part 4 of a proof. Conditions: each theorem's own. -/
import Derived.Laws.Tables
import Derived.Great.BuildSlice
import Derived.DataShut
import Derived.Test.YtmhbikooakmagaaGreatRk02
set_option linter.all false
set_option maxHeartbeats 8000000
set_option maxRecDepth 20000
namespace Go.Abs
open Go.RowKit
section
variable {P:Program} {E:Env} {TI:TypeId->Info}
theorem mv (hT:∀t,DW P t (TI t)) {o:Oper} {t:TypeId} {x y:Operand} (V:o.op= .makeSlice t x y) (hd:o.dst≠none):Sound P E TI o:=by
 intro w0 X β s a w S f h N Q R;simp only[CG,V] at h;obtain⟨hk,h⟩:=h;obtain⟨hu,b,z,g1,g2,g3,g4,g5,M⟩:=(hT t).sl hk;have Y:=CY S.B6 x;have Z:=CY S.B6 y
 split at h
 ·rename_i k n k' m he C
  rw[he] at Y;rw[C] at Z;have H:a.eval x= .int k n:=BN Y (by simp);have I:a.eval y= .int k' m:=BN Z (by simp);obtain⟨U,h⟩:=h;obtain⟨h0,h1,O⟩:=U ();obtain rfl:=h _ _ ⟨rfl,rfl⟩;unfold fits at O;have W:0<b.bytes:=g4;have a1:m.toNat<=140737488355328:=Nat.le_trans (Nat.le_mul_of_pos_right _ (by omega)) O
  have hb:(b.bytes:Int)*m<=281474976710656:=by
   have L:((b.bytes*m.toNat:Nat):Int)<=281474976710656:=by rw[Nat.mul_comm,g3];omega
   rw[Int.natCast_mul] at L;rwa [Int.toNat_of_nonneg (by omega)] at L
  have p:=run_make (P:=P) w t _ b z hu g1 g5 k k' n m h0 h1 hb (by omega);obtain⟨q,G⟩:=Option.ne_none_iff_exists'.1 hd;have B:BQ o=q:=by simp[BQ,G]
  rw[B,G] at R
  have J:z.cells.toList.length=(TI t).elem.size:=by
   have:=(M (cx X w β (AF s.bk))).length;rw[GA] at this;exact this.symm
  have K:z.cells.size=b.size:=by simp only[Array.length_toList] at J;omega
  have a2:=T.size_pos (TI t).elem
  have g:∀i j,i<m.toNat->j<(TI t).elem.size->(madeCells z.cells (m.toNat*b.size))[i*(TI t).elem.size+j]? =z.cells[j]? :=by
   intro i j hi l
   have c:i*(TI t).elem.size+j<m.toNat*b.size:=by
    rw[g2];have:(i+1)*(TI t).elem.size<=m.toNat*(TI t).elem.size:=Nat.mul_le_mul_right _ hi;rw[Nat.add_mul] at this;omega
   have r:(i*(TI t).elem.size+j)%z.cells.size=j:=by
    rw[K,g2,Nat.add_comm,Nat.add_mul_mod_self_right,Nat.mod_eq_of_lt l]
   have A:j<z.cells.size:=by omega
   simp only[madeCells,Array.getElem?_map];rw[Array.getElem?_range];simp[c,r,A]
  have hB:∀y:Cx,y.w=w.alloc (.cells (madeCells z.cells (m.toNat*b.size)) (TI t).Ct)->y.β q=some w.heap.size->Cc y q (.arr (AQ (AF s.bk) q+1) (TI t).elem (List.replicate n.toNat (TI t).By)):=by
   intro y hw hb;refine Or.inr ⟨_,_,_,hb,by rw[hw];exact heap_alloc_new w _,fun i u hi=>?_⟩
   have D:i<n.toNat:=by
    rcases Nat.lt_or_ge i n.toNat with c | c
    ·exact c
    rw[List.getElem?_eq_none (by simpa using c)] at hi;cases hi
   have:u=(TI t).By:=by simpa [List.getElem?_replicate,D,eq_comm] using hi
   subst this;refine⟨z.cells.toList,(Gr y _ _ _).2 (M y),fun j v l=>?_⟩
   have F:j<(TI t).elem.size:=by
    rcases Nat.lt_or_ge j (TI t).elem.size with c | c
    ·exact c
    rw[List.getElem?_eq_none (by omega)] at l;cases l
   rw[hw,World.cell?_alloc_new,g i j (by omega) F];simpa using l
  obtain⟨β',S'⟩:=S.new (dst:=q) (d:=q) rfl (av:= .one (.AN (TI t).elem q (AQ (AF s.bk) q+1) 0 n.toNat)) (BL:= .arr (AQ (AF s.bk) q+1) (TI t).elem (List.replicate n.toNat (TI t).By)) (rd:=[q])
   (u:= .slice (some ⟨w.heap.size,0,none⟩) n.toNat m.toNat)
   (w':=w.alloc (.cells (madeCells z.cells (m.toNat*b.size)) (TI t).Ct)) (arr:=madeCells z.cells (m.toNat*b.size)) (e:=(TI t).Ct) rfl rfl rfl rfl rfl (by simp[AL.short];omega)
   (fun y _ hw hb=>hB y hw hb)
   (fun y _ hw hb U=>Or.inr ⟨⟨rfl,by omega⟩,fun _=>⟨_,_,rfl,by omega,by unfold maxLen;omega,by simp,.inr ⟨_,_,_,hb,by rw[Nat.zero_mul],by rw[hw];exact heap_alloc_new w _,by rw[size_madeCells,g2,Nat.zero_add];exact Nat.le_refl _⟩⟩⟩)
  refine B8 (u:= .slice (some ⟨w.heap.size,0,none⟩) n.toNat m.toNat) (w':=w.alloc (.cells (madeCells z.cells (m.toNat*b.size)) (TI t).Ct)) ?_ (by rw[G];exact R _ _ _ S');simp[execOp,V,H,I,p]
 exact h.elim
theorem Oz {w0:World} {X:WX} {β:Nat->Option Nat} {s:St} {a:Act} {w:World} (S:BI w0 X β s a w) {t tx ty e e2:TypeId} {ei:TypeInfo} {z:Value} {u:T} (ht:P.underlying t=some (.slice e)) (al:P.underlying tx=some (.slice e2)) (hi:P.info? e=some ei)
  (hz:ei.zero=some z) (Y:ei.size=u.size) (an:z.cells.size=u.size) (Q:0<ei.bytes)
  {base:Option Addr} {len cap:Nat} (aa:len<=cap) (a5:cap<=maxLen) {id:Nat} {l l2:List (el u)} (r:l.length=len)
  (hb:(cap=0)\/∃b arr e',β id=some b/\live (AF s.bk) id/\base=some ⟨b,0,none⟩/\w.heap[b]? =some (.cells arr e' (0,0))/\cap*u.size<=arr.size/\
   ∀(i:Nat) (y:el u),l[i]? =some y->∃us,rep w (cx X w β (AF s.bk)).I u y us/\w.rangeAt b (i*u.size) us)
  {c:AC} {x:Value} (hr:Ap (cx X w β (AF s.bk)) c x) (ak:Du (AF s.bk) c (.sl u l2)) (a6:fits (len+l2.length) ei.bytes)
  {dst:Option Nat} {vv:Nat} {rd:List Nat} (p:id<s.bk.length) (au:vv=AQ (AF s.bk) id+1):
  ∃v' w' β',(Builtin.append_ #[t,tx] ty #[.slice base len cap,x]).run P w= .ok v' w'/\
   BI w0 X β' (s.app dst ⟨.one (.AN u id vv 0 (l++l2).length),[(id,.arr vv u (l++l2))],rd⟩) (a.put dst v') w':=by
 obtain⟨news,hs,G⟩:=Zs S al hr ak
 have holds:∃olds,C7 w (cx X w β (AF s.bk)).I u l olds/\(cap=0\/∃b off arr e',base=some ⟨b,off,none⟩/\w.heap[b]? =some (.cells arr e' (0,0))/\off+cap*u.size<=arr.size/\w.rangeAt b off olds):=by
  rcases hb with rfl |⟨b,arr,e',h1,_,h2,h3,h4,h5⟩
  ·have:l=[]:=List.eq_nil_of_length_eq_zero (by omega);subst this;exact⟨[],rfl,.inl rfl⟩
  obtain⟨fl,q1,q2⟩:=SJ (off:=0) (fun i y J=>by simpa using h5 i y J);exact⟨fl,q1,.inr ⟨b,0,arr,e',h2,h3,by omega,q2⟩⟩
 obtain⟨olds,ab,ai⟩:=holds;have a2:(len+l2.length)*ei.bytes<=140737488355328:=a6;have aq:len+l2.length<=140737488355328:=Nat.le_trans (Nat.le_mul_of_pos_right _ Q) a2;have hlen:(l++l2).length=len+l2.length:=by simp[r]
 have H:(AL.arr vv u (l++l2)).short:=by show (l++l2).length<=_;omega
 have ae:∀b o,w.heap[b]? =some o->b<w.heap.size:=fun b o h=>by
  rcases Nat.lt_or_ge b w.heap.size with h' | h'
  ·exact h'
  simp[Array.getElem?_eq_none h'] at h
 rcases UY (P:=P) (ty:=ty) ht hi hz Y an aa (by rw[ab.length,r]) ai hs a2 Q with⟨hm,g⟩ |⟨b',ad,D,f,g⟩ |⟨c',arr,w',h1,h2,h3,h4,h5,h6,h7,h8,g⟩
 ·have L:l2=[]:=List.eq_nil_of_length_eq_zero hm;subst L;rcases hb with rfl |⟨b,arr,e',q,d,rfl,B,Z,F⟩
  ·have W:l=[]:=List.eq_nil_of_length_eq_zero (by omega);subst W
   refine⟨_,w,fun k=>if k=id then none else β k,g,S.write p H (fun k hk=>by simp[hk]) (by simp[AL.AQ];omega) (fun e=>by simp[AL.AQ] at e;omega) (fun _ _ _=>rfl) (Nat.le_refl _)
    (fun b arr e B=>⟨arr,B,rfl⟩) rfl rfl rfl (fun _ b hb=>by simp at hb) (fun _=>Or.inl ⟨by show (if id=id then _ else _)=_;simp,rfl⟩) (fun _=>Or.inr ⟨⟨rfl,?_⟩,fun _=>?_⟩)⟩
   ·show vv<=AQ _ id;rw[Ew _ _ _ p,if_pos rfl];simp[AL.AQ]
   exact⟨base,0,by simp at r;simp[r.symm],by simp,by simp,by simp,.inl rfl⟩
  refine⟨_,w,β,g,S.write p H (fun _ _=>rfl) (by simp[AL.AQ];omega) (fun _=>⟨rfl,fun _=>d⟩) (fun _ _ _=>rfl) (Nat.le_refl _) (fun b arr e B=>⟨arr,B,rfl⟩) rfl rfl rfl (fun _ b hb=> .inl ⟨hb,d⟩)
   (fun hle=>Or.inr ⟨b,arr,e',q,B,fun i y J=>?_⟩) (fun _=>Or.inr ⟨⟨rfl,?_⟩,fun _=>?_⟩)⟩
  ·rw[List.append_nil] at J;obtain⟨us,q1,q2⟩:=F i y J;exact⟨us,CD hle.I _ _ _ q1,q2⟩
  ·show vv<=AQ _ id;rw[Ew _ _ _ p,if_pos rfl];simp[AL.AQ]
  exact⟨some ⟨b,0,none⟩,cap,by simp[r],by simp[r,aa],a5,by simp,.inr ⟨b,arr,e',q,by simp,B,by simpa using Z⟩⟩
 ·rcases hb with rfl |⟨b,arr,e',q,d,K,B,Z,F⟩
  ·have L:l2.length=0:=by omega
   have af:news=[]:=by have:=hs.newsLen;rw[L,Nat.zero_mul] at this;exact List.eq_nil_of_length_eq_zero this
   have a8:l2=[]:=List.eq_nil_of_length_eq_zero L;have W:l=[]:=List.eq_nil_of_length_eq_zero (by omega);subst a8 W af
   refine⟨_,_,fun k=>if k=id then none else β k,g,S.write p H (fun k hk=>by simp[hk]) (by simp[AL.AQ];omega) (fun e=>by simp[AL.AQ] at e;omega) (fun _ _ _=>rfl) (Nat.le_refl _)
    (fun b arr e B=>⟨arr,B,rfl⟩) rfl rfl rfl (fun _ b hb=>by simp at hb) (fun _=>Or.inl ⟨by show (if id=id then _ else _)=_;simp,rfl⟩) (fun _=>Or.inr ⟨⟨rfl,?_⟩,fun _=>?_⟩)⟩
   ·show vv<=AQ _ id;rw[Ew _ _ _ p,if_pos rfl];simp[AL.AQ]
   simp at r;subst r;exact⟨base,0,by simp,by simp,by simp,by simp,.inl rfl⟩
  obtain⟨rfl,rfl⟩:b'=b/\ad=0:=by rw[K] at f;simp at f;exact⟨f.1.symm,f.2.symm⟩
  obtain⟨c1,c2,c3,c4⟩:=Iq b' news (0+len*u.size) w;obtain⟨A,q1,q2,q3⟩:=GM b' news (0+len*u.size) w arr e' B;have ah:=hs.newsLen;have U:(len+l2.length)*u.size<=arr.size:=Nat.le_trans (Nat.mul_le_mul_right _ D) Z
  refine⟨_,_,β,g,S.write p H (fun _ _=>rfl) (by simp[AL.AQ];omega) (fun _=>⟨rfl,fun _=>d⟩) (fun k hk ag=>HT b' _ _ _ k (fun e=>ag d (e ▸ q))) (by omega) (fun k M e2 a7=>?_) c1 c2 c3 (fun _ b hb=> .inl ⟨hb,d⟩)
   (fun hle=>Or.inr ⟨b',A,e',q,q1,fun i y J=>?_⟩) (fun _=>Or.inr ⟨⟨rfl,?_⟩,fun _=>?_⟩)⟩
  ·by_cases e1:k=b'
   ·subst e1;obtain⟨a1,R,p2,p3⟩:=GM k news (0+len*u.size) w M e2 a7;exact⟨a1,R,p3⟩
   exact⟨M,(HT b' _ _ _ k e1).trans a7,rfl⟩
  ·rcases Nat.lt_or_ge i l.length with C | C
   ·rw[List.getElem?_append_left C] at J;obtain⟨us,R,p2⟩:=F i y J;refine⟨us,CD hle.I _ _ _ R,fun j v hj=>?_⟩;have ar:=Io _ _ _ R
    have V:j<us.length:=by
     rcases Nat.lt_or_ge j us.length with C | C
     ·exact C
     simp[List.getElem?_eq_none C] at hj
    have ao:i*u.size+j<len*u.size:=by
     have:(i+1)*u.size<=len*u.size:=Nat.mul_le_mul_right _ (by omega);rw[Nat.add_mul] at this;omega
    show (w.setCells b' (0+len*u.size) news).cell? _=_
    rw[World.cell?_setCells_out b' _ _ w _ (fun _ _=> .inl (by show i*u.size+j<_;omega))];exact p2 j v hj
   rw[List.getElem?_append_right C] at J
   have aj:(w.setCells b' (0+len*u.size) news).rangeAt b' (0+len*u.size) news:=by
    intro j v hj
    have V:j<news.length:=by
     rcases Nat.lt_or_ge j news.length with C | C
     ·exact C
     simp[List.getElem?_eq_none C] at hj
    rw[World.cell?_setCells_in b' news _ w (fun m hm=>(Mi B (n:=news.length) (by rw[ah];rw[Nat.add_mul] at U;omega) m hm).1) j V];simp[List.getElem?_eq_getElem V] at hj;simpa using hj
   obtain⟨us,R,p2⟩:=MY (C7.mono hle.I G) aj _ y J;refine⟨us,R,?_⟩;rwa [show 0+len*u.size+(i-l.length)*u.size=i*u.size by rw[r] at C ⊢;rw[Nat.zero_add,<-Nat.add_mul];congr 1;omega] at p2
  ·show vv<=AQ _ id;rw[Ew _ _ _ p,if_pos rfl];simp[AL.AQ]
  exact⟨some ⟨b',0,none⟩,cap,by rw[hlen,f],by rw[hlen];exact D,a5,by simp,.inr ⟨b',A,e',q,by simp,q1,by simp;omega⟩⟩
 have N:∀b,b<w.heap.size->w'.heap[b]? =w.heap[b]? :=fun b hb=>by rw[h3,Array.getElem?_push,if_neg (by omega)]
 have O:w'.heap[w.heap.size]? =some (.cells arr e (0,0)):=by rw[h3];simp
 refine⟨_,w',fun k=>if k=id then some w.heap.size else β k,g,S.write p H (fun k hk=>by simp[hk]) (by simp[AL.AQ];omega) (fun e=>by simp[AL.AQ] at e;omega) (fun b hb _=>N b hb) (by rw[h3];simp)
  (fun b A e' B=>⟨A,(N b (ae b _ B)).trans B,rfl⟩) h4 h5 h6 (fun _ b hb=> .inr (by simp at hb;omega)) (fun hle=>Or.inr ⟨w.heap.size,arr,e,by show (if id=id then _ else _)=_;simp,O,fun i y J=>?_⟩) (fun _=>Or.inr ⟨⟨rfl,?_⟩,fun _=>?_⟩)⟩
 ·obtain⟨us,R,p2⟩:=MY ((C7.mono hle.I ab).append (C7.mono hle.I G)) h8 i y J;exact⟨us,R,by simpa using p2⟩
 ·show vv<=AQ _ id;rw[Ew _ _ _ p,if_pos rfl];simp[AL.AQ]
 exact⟨some ⟨w.heap.size,0,none⟩,c',by rw[hlen],by rw[hlen];exact h1,h2,by simp,.inr ⟨w.heap.size,arr,e,by show (if id=id then _ else _)=_;simp,by simp,O,by rw[h7];simp⟩⟩
end
section
variable {P:Program} {E:Env} {TI:TypeId->Info}
theorem NS {x:Cx} {s:St} {a:Act} (h:∀o,BK x (ev s.sl o) (a.eval o)):∀(l:List Operand),AS (BK x) (l.map (ev s.sl)) (l.map a.eval)
 | []=>trivial
 | o::l=>⟨h o,NS h l⟩
theorem G9 {a:Act} {w:World} {o:Oper} {c:Call} {b:Builtin} {u:Value} {w':World} (d:o.op= .call c) (hb:c.callee= .builtin b) (h:(builtin b c.argTypes o.type (c.args.map fun | .const _=>true | _=>false) (c.args.map a.eval)).run P w= .ok (.value u) w'):
  (execOp a.eval o).run P w= .ok (.value u) w':=by
 simp only[execOp,d,resolve,hb,Sem.run_bind,Sem.run_pure,Result.andThen_ok,invoke];exact h
theorem KW {x:Cx} {t:T} {id AQ off len:Nat} {v:Value} (h:Ap x (.AN t id AQ off len) v) (f:AQ=x.cv id):∃base cap,v= .slice base len cap/\len<=cap/\cap<=maxLen/\
  (cap=0\/∃b arr e,x.β id=some b/\base=some ⟨b,off*t.size,none⟩/\x.w.heap[b]? =some (.cells arr e (0,0))/\(off+cap)*t.size<=arr.size):=by
 obtain⟨base,cap,a,c,h3,_,d⟩:=h.2 f;exact⟨base,cap,a,c,h3,d⟩
theorem Va {x:Cx} {t:T} {id AQ off len:Nat} {v:Value} (h:Ap x (.C9 t id AQ off len) v) (g:AQ=x.cv id):∃base cap,v= .slice base len cap/\len<=cap/\cap<=maxLen/\cap=len/\
  (cap=0\/∃b arr e,x.β id=some b/\base=some ⟨b,off*t.size,none⟩/\x.w.heap[b]? =some (.cells arr e (0,0))/\(off+cap)*t.size<=arr.size):=by
 obtain⟨base,cap,a,c,h3,f,d⟩:=h.2 g;exact⟨base,cap,a,c,h3,f rfl,d⟩
theorem Zu (hT:∀t,DW P t (TI t)) {o:Oper} {c:Call} {b:Builtin} (Z:o.op= .call c) (Y:c.callee= .builtin b) (hd:o.dst≠none)
  {w0:World} {X:WX} {β:Nat->Option Nat} {s:St} {a:Act} {w:World} (S:BI w0 X β s a w) {f:BW} (h:Ek TI b c.argTypes.toList (c.args.toList.map (ev s.sl)) (BQ o) (AF s.bk) (fun g=>g=f))
  {N:Act->World->Prop} {Q:Exit->Act->World->Prop} (O:∀β' a' w',BI w0 X β' (s.app o.dst f) a' w'->N a' w'):o.wp P a w N Q:=by
 have d:=NS (CY S.B6) c.args.toList
 generalize hA:c.args.toList.map (ev s.sl)=A at h d
 generalize hU:c.args.toList.map a.eval=U at d
 have C:c.args.map a.eval=U.toArray:=by rw[<-hU];exact Array.ext' (by simp)
 have J:∀a1,c.argTypes.toList=a1->c.argTypes=a1.toArray:=fun a1 e=>by subst e;exact Array.ext' rfl
 obtain⟨q,hq⟩:=Option.ne_none_iff_exists'.1 hd;have af:BQ o=q:=by simp[BQ,hq]
 have p:∀{t0:TypeId} {base:Option Addr} {n cap:Nat},c.argTypes.toList=[t0]->(TI t0).sl=true->U=[.slice base n cap]->b= .len->(execOp a.eval o).run P w= .ok (.value (.int .i64 n)) w:=by
  intro t0 base n cap H h2 h3 h4;subst h4;refine G9 Z Y ?_;rw[J _ H,C,h3];simp[builtin,Builtin.len_,run_underlying ((hT t0).sl h2).1,goInt]
 generalize r:c.argTypes.toList=a1 at h
 unfold Ek at h
 split at h
 ·rename_i t0 t l
  match U,d with
  | [v],⟨D,_⟩=>
   obtain⟨H,h⟩:=h;obtain⟨base,cap,hv,h2,h3,h4⟩:=BN D (by simp);have hv:v= .slice base l.length cap:=by simpa using hv
   obtain rfl:=h _ ⟨rfl,h3⟩;exact B8 (p r H (by rw[hv]) rfl) (O _ _ _ (S.val (Or.inr rfl)))
 ·rename_i t0 t id v off len
  match U,d with
  | [u],⟨D,_⟩=>
   obtain⟨H,h⟩:=h
   split at h
   ·rename_i hv
    obtain⟨base,cap,hs,_⟩:=Va (BN D (by simp)) hv.symm;obtain rfl:=h _ ⟨rfl⟩;exact B8 (p r H (by rw[hs]) rfl) (O _ _ _ (S.val (Or.inr rfl)))
   exact h.elim
 ·rename_i t0 t id v off len
  match U,d with
  | [u],⟨D,_⟩=>
   obtain⟨H,h⟩:=h
   split at h
   ·rename_i hv
    obtain⟨base,cap,hs,_⟩:=KW (BN D (by simp)) hv.symm;obtain rfl:=h _ ⟨rfl⟩;exact B8 (p r H (by rw[hs]) rfl) (O _ _ _ (S.val (Or.inr rfl)))
   exact h.elim
 ·rename_i t0
  match U,d with
  | [u],⟨D,_⟩=>
   obtain⟨H,h⟩:=h;have hs:u= .slice none 0 0:=BN D (by simp);subst h;exact B8 (p r H (by rw[hs]) rfl) (O _ _ _ (S.val (Or.inr rfl)))
 ·rename_i t0
  match U,d with
  | [u],⟨D,_⟩=>
   obtain⟨H,h⟩:=h;have hs:u= .slice none 0 0:=BN D (by simp);subst h hs;refine B8 (u:= .int .i64 0) (w':=w) (G9 Z Y ?_) (O _ _ _ (S.val (Or.inr rfl)));rw[J _ r,C];simp[builtin,Builtin.cap_,run_underlying ((hT t0).sl H).1,goInt]
 ·rename_i k m k' n
  match U,d with
  | [u,u'],⟨D,F,_⟩=>
   have hs:u= .int k m:=BN D (by simp);have aa:u'= .int k' n:=BN F (by simp);obtain rfl:=h _ rfl;subst hs aa;refine B8 (u:= .int k (if n<m then n else m)) (w':=w) (G9 Z Y ?_) (O _ _ _ (S.val (Or.inr rfl)));rw[C];simp[builtin,Builtin.min_,Builtin.min2]
 ·rename_i k m k' n
  match U,d with
  | [u,u'],⟨D,F,_⟩=>
   have hs:u= .int k m:=BN D (by simp);have aa:u'= .int k' n:=BN F (by simp);obtain rfl:=h _ rfl;subst hs aa;refine B8 (u:= .int k (if n>m then n else m)) (w':=w) (G9 Z Y ?_) (O _ _ _ (S.val (Or.inr rfl)));rw[C];simp[builtin,Builtin.max_,Builtin.max2]
 ·rename_i t0 t1 x
  match U,d with
  | [u,u'],⟨D,F,_⟩=>
   obtain⟨⟨h0,H⟩,l2,V,h⟩:=h;obtain⟨G,B⟩:=V ();have hs:u= .slice none 0 0:=BN D (by simp);obtain rfl:=h _ rfl;obtain⟨hu,ei,z,g1,g2,g3,g4,g5,g6⟩:=(hT t0).sl h0;obtain⟨L,_⟩:=(hT t1).sl H;have hx:Ap (cx X w β (AF s.bk)) x u':=BN F (by intro e;subst e;exact G.elim);have M:z.cells.size=(TI t0).elem.size:=by have:=(g6 (cx X w β (AF s.bk))).length;rw[GA] at this;simpa using this.symm
   by_cases K:q<s.bk.length
   ·obtain⟨v',w',β',j,S'⟩:=Oz S (ty:=o.type) hu L g1 g5 g2 M g4 (base:=none) (len:=0) (cap:=0) (Nat.le_refl _) (by simp) (id:=q) (l:=[]) (l2:=l2) rfl (.inl rfl) hx G (by rw[Nat.zero_add,g3];exact B) (dst:=o.dst) (vv:=AQ (AF s.bk) q+1) (rd:=q::B3 x) K rfl;refine B8 (u:=v') (w':=w') (G9 Z Y ?_) (O β' _ _ ?_)
    ·rw[J _ r,C,hs];simp[builtin,j]
    rw[af];simpa using S'
   have R:s.bk.length<=q:=Nat.le_of_not_lt K;have h2:s.sl.length<=q:=by rw[S.len,<-S.HG];exact R
   obtain⟨news,ah,aj⟩:=Zs S L hx G
   have ag:s.app o.dst ⟨.one (.AN (TI t0).elem (BQ o) (AQ (AF s.bk) (BQ o)+1) 0 l2.length),[(BQ o,.arr (AQ (AF s.bk) (BQ o)+1) (TI t0).elem l2)],BQ o::B3 x⟩=s.app none ⟨.one .BY,[],BQ o::B3 x⟩:=by
    rw[af,hq];simp[St.app,FK,Cq,Gu _ _ _ h2,Gu _ _ _ R]
   have ha:∀v,a.put o.dst v=a.put none undef:=by
    intro v;have:a.tmps.size<=q:=by rw[<-S.HG];exact R
    rw[hq];simp[Act.put,Array.setIfInBounds_eq_of_size_le this]
   rcases UY (P:=P) (ty:=o.type) (w:=w) (base:=none) (len:=0) (cap:=0) (olds:=[]) hu g1 g5 g2 M (Nat.le_refl _) (by simp) (.inl rfl) ah (by rw[Nat.zero_add,g3];exact B) g4 with⟨_,j⟩ |⟨b',ak,ai,a6,j⟩ |⟨c',arr,w',H,h2,h3,h4,h5,h6,h7,h8,j⟩
   ·have I:(builtin .append c.argTypes o.type (c.args.map fun | .const _=>true | _=>false) (c.args.map a.eval)).run P w= .ok (.value (.slice none 0 0)) w:=by
     rw[J _ r,C,hs];simp[builtin,j]
    exact B8 (G9 Z Y I) (by rw[ha];exact O β _ w (by rw[ag];exact S.val (Im _ _)))
   ·cases a6
   have I:(builtin .append c.argTypes o.type (c.args.map fun | .const _=>true | _=>false) (c.args.map a.eval)).run P w= .ok (.value (.slice (some ⟨w.heap.size,0,none⟩) (0+l2.length) c')) w':=by
    rw[J _ r,C,hs];simp[builtin,j]
   exact B8 (G9 Z Y I) (by rw[ha];exact O β _ w' (by rw[ag];exact S.ext (fun b hb=>by rw[h3,Array.getElem?_push,if_neg (by omega)]) (by rw[h3];simp) h4 h5 h6 (Im _ _)))
 ·rename_i t0 t1 t id v off len x
  match U,d with
  | [u,u'],⟨D,F,_⟩=>
   obtain⟨⟨h0,H⟩,h⟩:=h
   split at h
   ·rename_i v' t' l hb
    split at h
    ·rename_i a7
     obtain⟨ab,a2,a5⟩:=a7;obtain rfl:=T.beq_eq a2;have W:=T.beq_eq a5;obtain⟨l2,V,h⟩:=h;obtain⟨a8,hlen,G,B⟩:=V ();obtain rfl:=h _ _ ⟨rfl,rfl⟩;subst a8 ab;obtain⟨hu,ei,z,g1,g2,g3,g4,g5,g6⟩:=(hT t0).sl h0;obtain⟨L,_⟩:=(hT t1).sl H;rw[<-W] at g2;have hx:Ap (cx X w β (AF s.bk)) x u':=BN F (by intro e;subst e;exact G.elim);have M:z.cells.size=t'.size:=by have:=(g6 (cx X w β (AF s.bk))).length;rw[GA,<-W] at this;simpa using this.symm
     obtain⟨base,cap,hs,k1,k2,k4,k3⟩:=Va (BN D (by simp)) (EB hb).symm
     have K:id<s.bk.length:=by
      rcases Nat.lt_or_ge id s.bk.length with R | R
      ·exact R
      rw[HM _ _ R] at hb;cases hb
     obtain⟨ad,w',β',j,S'⟩:=Oz S (ty:=o.type) hu L g1 g5 g2 M g4 k1 k2 (id:=id) (l:=l.take len) (l2:=l2) (by simp;omega) (by
      rcases k3 with rfl |⟨b,arr,e,q1,q2,q3,q4⟩
      ·exact .inl rfl
      rcases S.blocks id _ hb with⟨p1,p2⟩ |⟨b',ae,e',p1,p2,p3⟩
      ·exact absurd (p1.symm.trans q1) (by simp)
      obtain rfl:b'=b:=Option.some.inj (p1.symm.trans q1);refine .inr ⟨b',arr,e,q1,⟨_,hb,rfl⟩,by simpa using q2,q3,by simpa using q4,fun i y hy=>p3 i y ?_⟩;rw[List.getElem?_take] at hy
      split at hy
      ·exact hy
      cases hy) hx G (by rw[g3];exact B) (dst:=o.dst) (vv:=v'+1) (rd:=id::B3 x) K (by rw[EB hb];rfl)
     refine B8 (u:=ad) (w':=w') (G9 Z Y ?_) (O β' _ _ S');rw[J _ r,C,hs];simp[builtin,j]
    exact h.elim
   exact h.elim
 ·rename_i t0 t1 t id v off len x
  match U,d with
  | [u,u'],⟨D,F,_⟩=>
   obtain⟨⟨h0,H⟩,h⟩:=h
   split at h
   ·rename_i v' t' l hb
    split at h
    ·rename_i a7
     obtain⟨ab,a2,a5⟩:=a7;obtain rfl:=T.beq_eq a2;have W:=T.beq_eq a5;obtain⟨l2,V,h⟩:=h;obtain⟨a8,hlen,G,B⟩:=V ();obtain rfl:=h _ _ ⟨rfl,rfl⟩;subst a8 ab hlen;obtain⟨hu,ei,z,g1,g2,g3,g4,g5,g6⟩:=(hT t0).sl h0;obtain⟨L,_⟩:=(hT t1).sl H;rw[<-W] at g2;have hx:Ap (cx X w β (AF s.bk)) x u':=BN F (by intro e;subst e;exact G.elim);have M:z.cells.size=t'.size:=by have:=(g6 (cx X w β (AF s.bk))).length;rw[GA,<-W] at this;simpa using this.symm
     obtain⟨base,cap,hs,k1,k2,k3⟩:=KW (BN D (by simp)) (EB hb).symm
     have K:id<s.bk.length:=by
      rcases Nat.lt_or_ge id s.bk.length with R | R
      ·exact R
      rw[HM _ _ R] at hb;cases hb
     obtain⟨ad,w',β',j,S'⟩:=Oz S (ty:=o.type) hu L g1 g5 g2 M g4 k1 k2 (id:=id) (l:=l) (l2:=l2) rfl (by
      rcases k3 with rfl |⟨b,arr,e,q1,q2,q3,q4⟩
      ·exact .inl rfl
      rcases S.blocks id _ hb with⟨p1,p2⟩ |⟨b',ae,e',p1,p2,p3⟩
      ·exact absurd (p1.symm.trans q1) (by simp)
      obtain rfl:b'=b:=Option.some.inj (p1.symm.trans q1);exact .inr ⟨b',arr,e,q1,⟨_,hb,rfl⟩,by simpa using q2,q3,by simpa using q4,p3⟩) hx G (by rw[g3];exact B) (dst:=o.dst) (vv:=v'+1) (rd:=id::B3 x) K (by rw[EB hb];rfl)
     refine B8 (u:=ad) (w':=w') (G9 Z Y ?_) (O β' _ _ S');rw[J _ r,C,hs];simp[builtin,j]
    exact h.elim
   exact h.elim
 exact h.elim
theorem mV (hT:∀t,DW P t (TI t)) {o:Oper} {c:Call} (ho:o.op= .call c) (hc:c.callee= .builtin .append) (hd:o.dst≠none)
  {w0:World} {X:WX} {β:Nat->Option Nat} {s:St} {a:Act} {w:World} (S:BI w0 X β s a w) {f:BW} (h:GV TI c.argTypes.toList (c.args.toList.map (ev s.sl)) (AF s.bk) (fun g=>g=f))
  {N:Act->World->Prop} {Q:Exit->Act->World->Prop} (hN:∀β' a' w',BI w0 X β' (s.app o.dst f) a' w'->N a' w'):o.wp P a w N Q:=by
 have d:=NS (CY S.B6) c.args.toList
 generalize hA:c.args.toList.map (ev s.sl)=A at h d
 generalize hU:c.args.toList.map a.eval=U at d
 have D:c.args.map a.eval=U.toArray:=by rw[<-hU];exact Array.ext' (by simp)
 have M:∀j,c.argTypes.toList=j->c.argTypes=j.toArray:=fun j e=>by subst e;exact Array.ext' rfl
 obtain⟨q,hq⟩:=Option.ne_none_iff_exists'.1 hd;have a2:BQ o=q:=by simp[BQ,hq]
 generalize C:c.argTypes.toList=j at h
 unfold GV at h
 split at h
 ·rename_i t0 t1 t id v off len x
  match U,d with
  | [u,u'],⟨hr,L,_⟩=>
   obtain⟨⟨h0,h1⟩,h⟩:=h
   split at h
   ·rename_i v' t' l hb
    split at h
    ·rename_i H
     obtain⟨R,F,G⟩:=H;obtain rfl:=T.beq_eq F;have p:=T.beq_eq G;obtain⟨l2,J,h⟩:=h;obtain⟨K,hlen,n,k⟩:=J ();obtain rfl:=h _ _ ⟨rfl,rfl⟩;subst K R;obtain⟨hu,ei,z,g1,g2,g3,g4,g5,g6⟩:=(hT t0).sl h0;obtain⟨O,_⟩:=(hT t1).sl h1;rw[<-p] at g2;have hx:Ap (cx X w β (AF s.bk)) x u':=BN L (by intro e;subst e;exact n.elim);have V:z.cells.size=t'.size:=by have:=(g6 (cx X w β (AF s.bk))).length;rw[GA,<-p] at this;simpa using this.symm
     obtain⟨base,cap,hs,k1,k2,k3⟩:=KW (BN hr (by simp)) (EB hb).symm
     have I:id<s.bk.length:=by
      rcases Nat.lt_or_ge id s.bk.length with B | B
      ·exact B
      rw[HM _ _ B] at hb;cases hb
     obtain⟨Z,w',β',m,S'⟩:=Oz S (ty:=o.type) hu O g1 g5 g2 V g4 k1 k2 (id:=id) (l:=l.take len) (l2:=l2) (by simp;omega) (by
      rcases k3 with rfl |⟨b,arr,e,Y,q2,q3,q4⟩
      ·exact .inl rfl
      rcases S.blocks id _ hb with⟨W,p2⟩ |⟨b',a1,e',W,p2,p3⟩
      ·exact absurd (W.symm.trans Y) (by simp)
      obtain rfl:b'=b:=Option.some.inj (W.symm.trans Y);refine .inr ⟨b',arr,e,Y,⟨_,hb,rfl⟩,by simpa using q2,q3,by simpa using q4,fun i y r=>p3 i y ?_⟩;rw[List.getElem?_take] at r
      split at r
      ·exact r
      cases r) hx n (by rw[g3];exact k) (dst:=o.dst) (vv:=v'+1) (rd:=id::B3 x) I (by rw[EB hb];rfl)
     refine B8 (u:=Z) (w':=w') (G9 ho hc ?_) (hN β' _ _ S');rw[M _ C,D,hs];simp[builtin,m]
    exact h.elim
   exact h.elim
 exact h.elim
end
theorem WO:∀(l:List Value) (off k:Nat) (c:Array Value),((l.zipIdx k).foldl (fun (cs:Array Value) (x:Value×Nat)=>cs.setIfInBounds (off+x.2) x.1) c).toList=DK c.toList (off+k) l
 | [],off,k,c=>by simp[R5]
 | v::l,off,k,c=>by
  rw[List.zipIdx_cons,List.foldl_cons,WO l off (k+1),Array.toList_setIfInBounds,<-Nat.add_assoc,R6]
theorem WI {place:Nat->Option (Nat×Nat)} {c:Array Value} {i:Nat} {v:Value} {r:List (Nat×Value)} {off n:Nat} (d:place i=some (off,n)) (g:v.cells.size=n) (f:off+n<=c.size):
  ∃a,a.toList=DK c.toList off v.cells.toList/\Instr.fill place c ((i,v)::r)=Instr.fill place a r:=by
 refine⟨v.cells.zipIdx.foldl (fun cs (x,j)=>cs.setIfInBounds (off+j) x) c,?_,?_⟩
 ·have:=WO v.cells.toList off 0 c;rw[Nat.add_zero] at this;rw[<-this,<-Array.foldl_toList,Array.toList_zipIdx]
 have b:¬(v.cells.size≠n\/off+v.cells.size>c.size):=by omega
 rw[Instr.fill];simp only[d];rw[if_neg (by simpa using b)]
theorem RA {α:Type}:∀(l:List α) (o:Nat) (xs:List α),(DK l o xs).length=l.length
 | _,0,[]=>by rw[R5]
 | [],0,_::_=>rfl
 | _::cs,0,_::xs=>by simp[DK,RA cs 0 xs]
 | [],_+1,_=>rfl
 | _::cs,o+1,xs=>by simp[DK,RA cs o xs]
section
variable {P:Program} {E:Env} {TI:TypeId->Info}
theorem WG {x:Cx} {s:St} {a:Act} (f:∀o,BK x (ev s.sl o) (a.eval o)) {b:List (Nat×Nat×Bool)} {pl:Nat->Option (Nat×Nat)} (j:∀(i o n:Nat) (g:Bool),b[i]? =some (o,n,g)->pl i=some (o,n)):
  ∀(parts:List (Nat×Operand)) (cs r:List AC) (c:Array Value),HC b (ev s.sl) parts cs=some r->AS (Ap x) cs c.toList->
   ∃k,Instr.fill pl c (parts.map fun p=>(p.1,a.eval p.2))=some k/\AS (Ap x) r k.toList
 | [],cs,r,c,h,l=>⟨c,rfl,by simp[HC] at h;subst h;exact l⟩
 | (i,o)::parts,cs,r,c,h,l=>by
  simp only[HC] at h
  split at h
  ·rename_i off n g z
   split at h
   ·rename_i w
    obtain⟨v,q,h3⟩:=w;have t:∀xs,ev s.sl o≠ .AG xs:=fun xs e=>by rw[e] at q;simp[AV.full] at q
    have d:=(MP (f o) t).cells q;have u:(a.eval o).cells.size=n:=by have:=d.length;rw[v] at this;simpa using this.symm
    have y:=l.length;simp only[Array.length_toList] at y;obtain⟨k,C,D⟩:=WI (c:=c) (r:=parts.map fun p=>(p.1,a.eval p.2)) (j i off n g z) u (by omega);obtain⟨m,A,B⟩:=WG f j parts _ r k h (by rw[C];exact l.DK off d);exact⟨m,by rw[List.map_cons,D];exact A,B⟩
   cases h
  cases h
theorem mc (C:∀t,DW P t (TI t)) {o:Oper} {t:TypeId} {parts:Array (Nat×Operand)} (F:o.op= .build t parts):Sound P E TI o:=by
 intro w0 X β s a w S f h N Q M;simp only[CG,F] at h;obtain⟨⟨D,p⟩,h⟩:=h;obtain⟨ti,z,d,K,V,h3,L,W,Y,Z⟩:=(C t).info D
 split at h
 ·rename_i cs O
  subst h;have q:(TI t).fields≠[]:=fun e=>by simp[e] at p
  obtain⟨fs,hu,hlen,m⟩:=(C t).fields D q
  have c:∃b,fs.toList.mapM (fun f=>(P.info? f.type).map fun i=>(f.offset,i.size))=some b/\∀(i o n:Nat) (g:Bool),(TI t).fields[i]? =some (o,n,g)->b[i]? =some (o,n):=by
   refine⟨(TI t).fields.map fun x=>(x.1,x.2.1),mapM_some_of_get _ _ (by simpa using hlen) fun i x y=>?_,fun i o n g hi=>by simp[hi]⟩
   have hi:i<(TI t).fields.length:=by
    rcases Nat.lt_or_ge i fs.toList.length with l | l
    ·simpa [hlen] using l
    rw[List.getElem?_eq_none l] at y;cases y
   obtain⟨J,U,H,I,B,_⟩:=m i (TI t).fields[i].1 (TI t).fields[i].2.1 (TI t).fields[i].2.2 (by simp[hi])
   have:x=J:=by have j:fs[i]? =some x:=by simpa using y
                rw[H] at j;exact (Option.some.inj j).symm
   subst this;cases G:P.info? x.type with
   | none=>simp[G] at B
   | some A=>
    have:A.size=(TI t).fields[i].2.1:=by simpa [G] using B
    simp[hi,I,this]
  obtain⟨b,r,v⟩:=c;obtain⟨k,R,T⟩:=WG (CY S.B6) (pl:=fun i=>b.toArray[i]?) (fun i o n g hi=>by simpa using v i o n g hi) parts.toList _ _ z.cells O (L _)
  have hb:P.built t (parts.map fun (i,x)=>(i,a.eval x)).toList=some k:=by
   unfold Program.built;simp only[K,hu,h3,r];simpa using R
  refine B8 (u:= .agg k) (w':=w) ?_ (M _ _ _ (S.val ⟨k,rfl,T⟩));simp[execOp,F,run_build w t _ k hb]
 exact h.elim
theorem R3:∀(pre a post vs:List Value),vs.length=a.length->DK (pre++(a++post)) pre.length vs=pre++(vs++post)
 | [],[],post,[],_=>by cases post <;> rfl
 | [],m::a,post,v::vs,h=>by
  have:=R3 [] a post vs (by simpa using h);simp only[List.nil_append,List.length_nil] at this;simp[DK,this]
 | p::pre,a,post,vs,h=>by simp[DK,R3 pre a post vs h]
 |[],[],_,_::_,h|[],_::_,_,[],h=>by simp at h
theorem WH {n:Nat}:∀(vs:List Value) (k:Nat) (c:Array Value),(∀v∈vs,v.cells.size=n)->c.size=(k+vs.length)*n->
  ∃b,Instr.fill (fun i=>some (i*n,n)) c (vs.zipIdx k |>.map fun x=>(x.2,x.1))=some b/\b.toList=c.toList.take (k*n)++vs.flatMap (·.cells.toList)
 | [],k,c,_,hs=>⟨c,rfl,by simp at hs;rw[<-hs,List.take_of_length_le (by simp)];simp⟩
 | v::vs,k,c,m,hs=>by
  have d:=m v (by simp);have g:c.size=k*n+(n+vs.length*n):=by rw[hs,List.length_cons,Nat.add_mul,Nat.succ_mul];omega
  obtain⟨b,o,w⟩:=WI (place:=fun i=>some (i*n,n)) (c:=c) (i:=k) (v:=v) (r:=(vs.zipIdx (k+1)).map fun x=>(x.2,x.1)) (off:=k*n) (n:=n) rfl d (by omega);have l:c.toList.length=k*n+(n+vs.length*n):=by simpa using g
  have p:c.toList=c.toList.take (k*n)++((c.toList.drop (k*n)).take n++c.toList.drop (k*n+n)):=by
   rw[<-List.drop_drop,List.take_append_drop,List.take_append_drop]
  have a:(c.toList.take (k*n)).length=k*n:=by simp[l]
  have f:v.cells.toList.length=((c.toList.drop (k*n)).take n).length:=by simp[d,l]
  have q:b.toList=c.toList.take (k*n)++(v.cells.toList++c.toList.drop (k*n+n)):=by
   rw[o];conv=>lhs;rw[p]
   have:=R3 (c.toList.take (k*n)) ((c.toList.drop (k*n)).take n) (c.toList.drop (k*n+n)) v.cells.toList f;rwa [a] at this
  have j:b.size=(k+1+vs.length)*n:=by
   have:b.toList.length=c.toList.length:=by rw[o,RA]
   simp only[Array.length_toList] at this;rw[this,g,Nat.add_mul,Nat.add_mul];omega
  obtain⟨h,s,t⟩:=WH vs (k+1) b (fun u hu=>m u (by simp[hu])) j;refine⟨h,by rw[List.zipIdx_cons,List.map_cons,w];exact s,?_⟩;rw[t,q,List.flatMap_cons]
  have:(c.toList.take (k*n)++(v.cells.toList++c.toList.drop (k*n+n))).take ((k+1)*n)=c.toList.take (k*n)++v.cells.toList:=by
   rw[<-List.append_assoc,List.take_left'];simp[a,d,Nat.add_mul]
  rw[this,List.append_assoc]
theorem me (hT:∀t,DW P t (TI t)) {o:Oper} {t:TypeId} {len:Nat} {parts:Array (Nat×Operand)} (ho:o.op= .buildSlice t len parts) (hd:o.dst≠none):Sound P E TI o:=by
 intro w0 X β s a w S f h N Q Y;simp only[CG,ho] at h;obtain⟨hk,W,xs,a7,h⟩:=h;obtain⟨O,hlen,D,H⟩:=a7 ();obtain⟨hu,ei,z,g1,g2,g3,g4,g5,g6⟩:=(hT t).sl hk;have a8:=T.size_pos (TI t).elem;have aa:z.cells.size=(TI t).elem.size:=by have:=(g6 (cx X w β (AF s.bk))).length;rw[GA] at this;simpa using this.symm
 have F:∀(ps:List (Nat×Operand)) (k:Nat) (ys:List (el (TI t).elem)),(ps.all fun p=>(ev s.sl p.2).full)=true->Pz (ps.map fun p=>(p.1,(ev s.sl p.2).cs)) k (ys.map (cells _))->
   (ps.map fun p=>(p.1,a.eval p.2))=((ps.map fun p=>a.eval p.2).zipIdx k).map (fun x=>(x.2,x.1))/\(∀v∈ps.map fun p=>a.eval p.2,v.cells.size=(TI t).elem.size)/\
   C7 w (cx X w β (AF s.bk)).I (TI t).elem ys ((ps.map fun p=>a.eval p.2).flatMap (·.cells.toList))/\ys.length=ps.length:=by
  intro ps
  induction ps with
  | nil=>intro k ys _ C;cases ys with
   | nil=>exact⟨rfl,by simp,rfl,rfl⟩
   | cons y ys=>exact C.elim
  | cons p ps ih=>
   intro k ys g C;cases ys with
   | nil=>exact C.elim
   | cons y ys=>
    obtain⟨e1,e2,e3⟩:=C;simp only[List.all_cons,Bool.and_eq_true] at g;have a2:∀xs,ev s.sl p.2≠ .AG xs:=fun xs e=>by rw[e] at g;simp[AV.full] at g
    have J:=NQ (fun _ _ _=>OI) e2 ((MP (CY S.B6 p.2) a2).cells g.1);obtain⟨q1,q2,R,q4⟩:=ih (k+1) ys g.2 e3;have V:p.1=k:=e1;refine⟨by rw[List.map_cons,List.map_cons,List.zipIdx_cons,List.map_cons,q1,V],fun v hv=>?_,⟨_,_,by rw[List.map_cons,List.flatMap_cons],(Gr _ _ _ _).2 J,R⟩,by simp[q4]⟩;rcases List.mem_cons.1 hv with rfl | hv
    ·have:=J.length;rw[GA] at this;simpa using this.symm
    exact q2 v hv
 obtain⟨q1,q2,R,q4⟩:=F parts.toList 0 xs D H;have M:parts.toList.length=len:=by omega
 have hmul:len*(TI t).elem.size<=524288*32:=Nat.mul_le_mul hlen W
 have c:∃arr,(execOp a.eval o).run P w= .ok (.value (.slice (some ⟨w.heap.size,0,none⟩) len len)) (w.alloc (.cells arr (TI t).Ct))/\arr.toList=(parts.toList.map fun p=>a.eval p.2).flatMap (·.cells.toList):=by
  by_cases h0:len=0
  ·subst h0;have a5:parts= #[]:=by apply Array.ext';exact List.eq_nil_of_length_eq_zero M
   subst a5;refine⟨#[],?_,rfl⟩;simp[execOp,ho,Instr.buildSlice,run_underlying hu,sizeOf,typeInfo,g1,Instr.fill,newRow,Array.range_zero']
  obtain⟨c',p1,p2⟩:=WH (n:=(TI t).elem.size) (parts.toList.map fun p=>a.eval p.2) 0 ((Array.range (len*ei.size)).map (z.cells[· % z.cells.size]!)) q2 (by simp[M,g2]);refine⟨c',?_,by simpa using p2⟩
  have:=run_buildSlice (P:=P) w t (TI t).Ct len (parts.map fun (i,x)=>(i,a.eval x)) c' ei z hu g1 g5 (by rw[g2];omega) (by rw[g2];exact Nat.mul_ne_zero h0 (by omega))
   (by rw[<-p1,<-q1,g2];simp)
  simp[execOp,ho,this]
 obtain⟨arr,c,l⟩:=c;obtain⟨q,hq⟩:=Option.ne_none_iff_exists'.1 hd;have Z:BQ o=q:=by simp[BQ,hq]
 have a6:arr.size=len*(TI t).elem.size:=by
  have:=R.length;rw[<-l,O] at this;simpa using this
 have hB:∀y:Cx,(cx X w β (AF s.bk)).le y->y.w=w.alloc (.cells arr (TI t).Ct)->y.β q=some w.heap.size->Cc y q (.arr (AQ (AF s.bk) q+1) (TI t).elem xs):=by
  intro y hle hw hb;refine Or.inr ⟨_,arr,_,hb,by rw[hw];exact heap_alloc_new w _,fun i u hi=>?_⟩
  have hr:y.w.rangeAt w.heap.size 0 ((parts.toList.map fun p=>a.eval p.2).flatMap (·.cells.toList)):=by
   intro j v hj;rw[hw,World.cell?_alloc_new,<-l] at*;simpa using hj
  obtain⟨us,p1,p2⟩:=MY (C7.mono hle.I R) hr i u hi;exact⟨us,p1,by simpa using p2⟩
 have L:len<=maxLen:=by unfold maxLen;omega
 rcases h with h | h
 ·subst h;rw[Z,hq] at Y
  obtain⟨β',U⟩:=S.new (dst:=q) (d:=q) rfl (av:= .one (.AN (TI t).elem q (AQ (AF s.bk) q+1) 0 len)) (BL:= .arr (AQ (AF s.bk) q+1) (TI t).elem xs) (rd:=[q])
   (u:= .slice (some ⟨w.heap.size,0,none⟩) len len) (w':=w.alloc (.cells arr (TI t).Ct)) (arr:=arr) (e:=(TI t).Ct) rfl rfl rfl rfl rfl (by show xs.length<=_;omega) hB
   (fun y _ hw hb hc=>Or.inr ⟨⟨rfl,by omega⟩,fun _=>⟨_,_,rfl,Nat.le_refl _,L,by simp,.inr ⟨_,_,_,hb,by rw[Nat.zero_mul],by rw[hw];exact heap_alloc_new w _,by rw[a6,Nat.zero_add];exact Nat.le_refl _⟩⟩⟩)
  exact B8 c (by rw[hq];exact Y _ _ _ U)
 subst h
 have G:∀k b,live (AF s.bk) k->β k=some b->b<w.heap.size:=fun k b ⟨B,a1,hl⟩ hb=>by
  have K:∀b o,w.heap[b]? =some o->b<w.heap.size:=fun b o h=>by
   rcases Nat.lt_or_ge b w.heap.size with h' | h'
   ·exact h'
   simp[Array.getElem?_eq_none h'] at h
  have r:=S.blocks k B a1;cases B with
  | dead _=>simp[AL.live] at hl
  | var _ _=>obtain⟨b',arr,e,g,C,_⟩:=r;obtain rfl:b=b':=Option.some.inj (hb.symm.trans g);exact K b _ C
  | arr _ _ _=>
   rcases r with⟨g,_⟩ |⟨b',arr,e,g,C,_⟩
   ·exact absurd (hb.symm.trans g) (by simp)
   obtain rfl:b=b':=Option.some.inj (hb.symm.trans g);exact K b _ C
 have A:∀b,b<w.heap.size->(w.alloc (.cells arr (TI t).Ct)).heap[b]? =w.heap[b]? :=fun b hb=>Below.heap_alloc _ _ _ hb
 have m:w.heap.size<=(w.alloc (.cells arr (TI t).Ct)).heap.size:=by simp
 have hI:∀b,(cx X w β (AF s.bk)).I b->(cx X (w.alloc (.cells arr (TI t).Ct)) β (AF s.bk)).I b/\(w.alloc (.cells arr (TI t).Ct)).heap[b]? =w.heap[b]? :=fun b hb=>⟨⟨⟨Nat.lt_of_lt_of_le hb.1.1 m,hb.1.2⟩,hb.2⟩,A b hb.1.1⟩
 have U:=S.ext (dst:=o.dst) (v:= .one (.sl (TI t).elem xs)) (u:= .slice (some ⟨w.heap.size,0,none⟩) len len) (rd:=[]) (w':=w.alloc (.cells arr (TI t).Ct)) A m rfl rfl rfl (Or.inr (by
  refine⟨some ⟨w.heap.size,0,none⟩,len,by rw[O],by omega,by omega,.inr ⟨w.heap.size,0,rfl,⟨⟨by simp,fun id hl hb=>?_⟩,S.fresh _ S.size⟩,fun i u hi=>?_⟩⟩
  ·exact absurd (G id _ hl hb) (by omega)
  have hr:(w.alloc (.cells arr (TI t).Ct)).rangeAt w.heap.size 0 ((parts.toList.map fun p=>a.eval p.2).flatMap (·.cells.toList)):=by
   intro j v hj;rw[World.cell?_alloc_new,<-l] at*;simpa using hj
  exact MY (C7.mono hI R) hr i u hi))
 exact B8 c (Y _ _ _ U)
end
section
variable {P:Program} {TI:TypeId->Info}
theorem fZ {a:Act} {w:World} {o:Oper} {c:Call} {x:Operand} {g:FuncId} {cap:Array Value} (j:o.op= .call c) (h:c.callee= .value x) (k:a.eval x= .func (.func g) #[] cap) (i:Callee P g):
  (execOp a.eval o).run P w= .ok (.enter g (c.args.map a.eval++cap)) w:=by
 obtain⟨fn,body,b,d,h3⟩:=i;have f : fn.name ≠ "runtime.NumGoroutine" := by simpa using d
 simp[execOp,j,resolve,h,k,Deferred.ofValue,invoke,callFunc,b,f,h3]
theorem Mq {a:Act} {w:World} {o:Oper} {c:Call} {x:Operand} {g:FuncId} {cap:Array Value} {N:Act->World->Prop} {Q:Exit->Act->World->Prop} (i:o.op= .call c) (b:c.callee= .value x) (k:a.eval x= .func (.func g) #[] cap) (d:Callee P g)
  {R:Ending->World->Prop} (h:Calls P g (c.args.map a.eval++cap) w R) (hR:∀e w',R e w'->∃u,e= .returned u/\N (a.put o.dst u) w'):o.wp P a w N Q:=by
 unfold Oper.wp;rw[fZ i b k d,Oper.upon_enter];exact h.mono fun e w' j=>by obtain⟨u,rfl,f⟩:=hR e w' j;exact f
theorem MH {x y:Cx} (h:∀b,x.I b->y.I b/\y.w.heap[b]? =x.w.heap[b]?):∀{c:AC} {v:Value},BB c=true->Ap x c v->Ap y c v
 |.BY,_,_,r|.int _ _,_,_,r|.bool _,_,_,r|.fn _,_,_,r|.nil,_,_,r=>r
 | .sl _ _,_,_,r=>CD h _ _ _ r
 |.AN _ _ _ _ _,_,e,_|.C9 _ _ _ _ _,_,e,_|.Ab _ _ _,_,e,_|.Ch _ _ _ _ _,_,e,_=>by simp[BB] at e
 | .CX t y _,_,_,⟨b,o,us,e,a,d,ha⟩=>⟨b,o,us,e,(h b a).1,CD h t y us d,rangeAt_of_block (h b a).2 ha⟩
 | .CZ _ _,_,_,⟨us,e,r⟩=>⟨us,e,r.mono fun _ _=>FR.mono h⟩
 |.Cy _ _,_,e,_|.ub _,_,e,_|.own _ _ _,_,e,_=>by simp[BB] at e
theorem W5:∀{c d:AC},BA c d->BB d=true
 |.int _ _,_,h|.bool _,_,h|.fn _,_,h|.sl _ _,_,h=>by rw[show _=_ from h];rfl
 | .nil,_,h=>by rcases h with rfl |⟨t,rfl⟩ <;> rfl
 |.BY,_,h|.AN _ _ _ _ _,_,h|.C9 _ _ _ _ _,_,h|.Ab _ _ _,_,h|.Ch _ _ _ _ _,_,h=>h.elim
 |.CX _ _ _,_,h|.CZ _ _,_,h=>by rw[show _=_ from h];rfl
 |.Cy _ _,_,h|.ub _,_,h|.own _ _ _,_,h=>h.elim
theorem UR:∀{l m:List AC},Ao BA l m->m.all BB=true
 | [],[],_=>rfl
 | _::_,_::_,h=>by simp[W5 h.1,UR h.2]
 |[],_::_,h|_::_,[],h=>h.elim
theorem AS.pure {x y:Cx} (h:∀b,x.I b->y.I b/\y.w.heap[b]? =x.w.heap[b]?):∀{cs:List AC} {vs:List Value},cs.all BB=true->AS (Ap x) cs vs->AS (Ap y) cs vs
 | [],[],_,_=>trivial
 | _::_,_::_,e,r=>by simp only[List.all_cons,Bool.and_eq_true] at e;exact⟨MH h e.1 r.1,AS.pure h e.2 r.2⟩
 |[],_::_,_,r|_::_,[],_,r=>r.elim
theorem P8 {x y:Cx} (h:∀b,x.I b->y.I b/\y.w.heap[b]? =x.w.heap[b]?):∀{l m:List AV} {vs:List Value},Em BA l m->AS (BK x) l vs->AS (BK y) m vs
 | [],[],[],_,_=>trivial
 | .one c::_,.one d::_,_::_,a,r=>⟨Or.inr (MH h (W5 a.1) (OI a.1 (BN r.1 (by intro e;subst e;exact a.1.elim)))),P8 h a.2 r.2⟩
 | .agg c::_,.agg d::_,_::_,a,r=>by
  obtain⟨arr,e,f⟩:=r.1;exact⟨⟨arr,e,AS.pure h (UR a.1) (NQ (fun _ _ _=>OI) a.1 f)⟩,P8 h a.2 r.2⟩
 |[],_::_,_,a,_|_::_,[],_,a,_=>a.elim
 |.one _::_,.agg _::_,_,a,_|.one _::_,.AG _::_,_,a,_|.agg _::_,.one _::_,_,a,_|.agg _::_,.AG _::_,_,a,_|.AG _::_,.one _::_,_,a,_|.AG _::_,.agg _::_,_,a,_|.AG _::_,.AG _::_,_,a,_=>a.1.elim
 |[],[],_::_,_,r|.one _::_,.one _::_,[],_,r|.agg _::_,.agg _::_,[],_,r=>r.elim
theorem Zr {w0:World} {X:WX} {β:Nat->Option Nat} {s:St} {a:Act} {w:World} (S:BI w0 X β s a w) {J:Nat->Prop} (k:∀b,(cx X w β (AF s.bk)).I b->J b):∀{ps:List (Nat×Nat)} {i:List ((t:T)×el t)} {us:List Value},
  (∀id b,id∈ps.map (·.1)->live (AF s.bk) id->β id=some b->b<w.heap.size->J b)->Md (AF s.bk) ps i->AS (Ms (cx X w β (AF s.bk))) ps us->AS (FR w J) i us
 | [],[],[],_,_,_=>trivial
 | p::ps,⟨t,y⟩::i,u::us,hi,h,r=>by
  refine⟨?_,Zr S k (fun id b c=>hi id b (List.mem_cons_of_mem _ c)) h.2 r.2⟩;obtain⟨hb,_⟩:=h;obtain⟨b,f,hu⟩:=r.1.2 (EB hb).symm;obtain⟨b',arr,e,l,m,o⟩:=S.blocks p.1 _ hb;obtain rfl:b'=b:=Option.some.inj (l.symm.trans f)
  have d:b'<w.heap.size:=by
   rcases Nat.lt_or_ge b' w.heap.size with h' | h'
   ·exact h'
   have g:w.heap[b']? =_:=m;simp[Array.getElem?_eq_none h'] at g
  refine⟨b',0,arr.toList,hu,hi p.1 b' (by simp) ⟨_,hb,rfl⟩ l d,CD (w':=w) (fun b hb=>⟨k b hb,rfl⟩) _ _ _ ((Gr _ t y arr.toList).2 o),?_⟩;have j:=R9 (off:=0) (n:=arr.size) m;rw[List.drop_zero,List.take_of_length_le (by simp)] at j;exact j
 |[],_::_,_,_,h,_|_::_,[],_,_,h,_=>h.elim
 |[],[],_::_,_,_,r|_::_,_::_,[],_,_,r=>r.elim
theorem Zp {w0:World} {X:WX} {β:Nat->Option Nat} {s:St} {a:Act} {w:World} (S:BI w0 X β s a w) {J:Nat->Prop} (j:∀b,(cx X w β (AF s.bk)).I b->J b):∀{c d:AC} {v:Value},(∀id b,id∈B3 c->live (AF s.bk) id->β id=some b->b<w.heap.size->J b)->Du (AF s.bk) c d->Ap (cx X w β (AF s.bk)) c v->Ap (DC w J) d v
 |.int _ _,_,_,_,h,r|.bool _,_,_,_,h,r|.fn _,_,_,_,h,r=>by rw[show _=_ from h];exact r
 | .sl t l,_,v,_,h,r=>by
  rw[show _=_ from h];exact CD (w':=w) (fun b hb=>⟨j b hb,rfl⟩) (.sl t) l [v] r
 | .nil,_,_,_,h,r=>by
  rcases h with rfl |⟨t,rfl⟩
  ·exact r
  rw[show _=_ from r];exact⟨none,0,rfl,Nat.le_refl _,by simp,.inl rfl⟩
 | .AN t id vv off len,d,v,g,⟨l,hb,hle,h⟩,r=>by
  subst h
  have q:∀b o,w.heap[b]? =some o->b<w.heap.size:=fun b o h=>by
   rcases Nat.lt_or_ge b w.heap.size with h' | h'
   ·exact h'
   simp[Array.getElem?_eq_none h'] at h
  obtain⟨base,cap,hs,n,z,h3⟩:=KW r (EB hb).symm;have hlen:((l.drop off).take len).length=len:=by simp;omega
  subst hs;refine⟨base,cap,by rw[hlen],by rw[hlen];exact n,?_,?_⟩
  ·have:=S.lens id _ hb;simp only[AL.short] at this;omega
  by_cases B:len=0
  ·left;subst B;simp
  rcases h3 with rfl |⟨b,arr,e,A,rfl,F,G⟩
  ·omega
  rcases S.blocks id _ hb with⟨m,C⟩ |⟨b',x,e',m,C,D⟩
  ·exact absurd (m.symm.trans A) (by simp)
  obtain rfl:b'=b:=Option.some.inj (m.symm.trans A);refine .inr ⟨b',off*t.size,rfl,g id b' (by simp[B3]) ⟨_,hb,rfl⟩ m (q _ _ F),fun i y k=>?_⟩
  have u:l[off+i]? =some y:=by
   rw[List.getElem?_take] at k
   split at k
   ·simpa using k
   cases k
  obtain⟨us,k1,k2⟩:=D _ y u;exact⟨us,CD (w':=w) (fun b hb=>⟨j b hb,rfl⟩) _ _ _ k1,by rw[<-Nat.add_mul];exact k2⟩
 |.BY,_,_,_,h,_|.C9 _ _ _ _ _,_,_,_,h,_|.Ab _ _ _,_,_,_,h,_|.Ch _ _ _ _ _,_,_,_,h,_|.CX _ _ _,_,_,_,h,_=>h.elim
 | .CZ _ _,_,_,_,h,⟨us,e,r⟩=>by rw[show _=_ from h];exact⟨us,e,r.mono fun _ _=>FR.mono fun b hb=>⟨j b hb,rfl⟩⟩
 | .Cy f ps,d,v,g,⟨H,n,z⟩,⟨us,e,r⟩=>by
  subst z;exact⟨us,e,Zr S j (fun id b p=>g id b p) n r⟩
 |.ub _,_,_,_,h,_|.own _ _ _,_,_,_,h,_=>h.elim
end
end Go.Abs
