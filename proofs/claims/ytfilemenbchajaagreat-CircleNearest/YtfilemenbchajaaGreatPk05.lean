/- Part 6 of a proof. Conditions: each theorem's own. -/
import Derived.Deep.AppendSrc
import Derived.Deep.Upon
import Derived.Test.YtfilemenbchajaaGreatPk04
set_option linter.all false
set_option maxHeartbeats 8000000
set_option maxRecDepth 20000
namespace Go.Abs
open Go.RowKit
def Ck (w:World) (I:Nat->Prop) (t:T):List (el t)->List Value->Prop
 | [],fl=>fl=[]
 | x::l,fl=>∃us r,fl=us++r/\rep w I t x us/\Ck w I t l r
section
variable {w:World} {I:Nat->Prop} {t:T}
theorem PG {b o:Nat} {us vs:List Value}:w.rangeAt b o (us++vs)↔w.rangeAt b o us/\w.rangeAt b (o+us.length) vs:=by
 constructor
 ·intro h;refine⟨fun j v a=>h j v ?_,fun j v a=>?_⟩
  ·rw[List.getElem?_append_left]
   ·exact a
   rcases Nat.lt_or_ge j us.length with c | c
   ·exact c
   simp[List.getElem?_eq_none c] at a
  rw[Nat.add_assoc];exact h (us.length+j) v (by rw[List.getElem?_append_right (by omega)];simpa using a)
 rintro⟨d,f⟩ j v a
 rcases Nat.lt_or_ge j us.length with c | c
 ·rw[List.getElem?_append_left c] at a;exact d j v a
 rw[List.getElem?_append_right c] at a;have:=f _ v a;rwa [show o+us.length+(j-us.length)=o+j by omega] at this
theorem Ck.length:∀{l:List (el t)} {a:List Value},Ck w I t l a->a.length=l.length*t.size
 | [],_,h=>by rw[show _=_ from h];simp
 | _::_,_,⟨us,r,e,b,c⟩=>by rw[e,List.length_append,HY _ _ _ b,Ck.length c,List.length_cons,Nat.succ_mul];omega
theorem Ck.one:∀{l:List (el t)} {a:List Value},Ck w I t l a->∀u∈a,u.oneCell'=true
 | [],_,h,u,hu=>by rw[show _=_ from h] at hu;simp at hu
 | _::_,_,⟨us,r,e,b,c⟩,u,hu=>by
  rw[e] at hu;rcases List.mem_append.1 hu with h | h
  ·exact Me _ _ _ b u h
  exact Ck.one c u h
theorem Ck.append:∀{l l':List (el t)} {b a:List Value},Ck w I t l b->Ck w I t l' a->Ck w I t (l++l') (b++a)
 | [],_,_,_,h,h'=>by rw[show _=_ from h];exact h'
 | _::_,_,_,_,⟨us,r,e,c,d⟩,h'=>⟨us,r++_,by rw[e,List.append_assoc],c,Ck.append d h'⟩
theorem Ck.mono {w':World} {a:Nat->Prop} (hm:∀b,I b->a b/\w'.heap[b]? =w.heap[b]?):∀{l:List (el t)} {c:List Value},Ck w I t l c->Ck w' a t l c
 | [],_,h=>h
 | _::_,_,⟨us,r,e,d,f⟩=>⟨us,r,e,CR hm _ _ _ d,Ck.mono hm f⟩
theorem PZ {b:Nat}:∀{l:List (el t)} {off:Nat},(∀(i:Nat) (x:el t),l[i]? =some x->∃us,rep w I t x us/\w.rangeAt b (off+i*t.size) us)->∃a,Ck w I t l a/\w.rangeAt b off a
 | [],_,_=>⟨[],rfl,fun j v g=>by simp at g⟩
 | x::l,off,h=>by
  obtain⟨us,c,d⟩:=h 0 x (by simp)
  obtain⟨a,h3,f⟩:=PZ (l:=l) (off:=off+t.size) fun i y k=>by
   obtain⟨us,g1,g2⟩:=h (i+1) y (by simpa using k);exact⟨us,g1,by rw[show off+t.size+i*t.size=off+(i+1)*t.size by rw[Nat.add_mul];omega];exact g2⟩
  refine⟨us++a,⟨us,a,rfl,c,h3⟩,PG.2 ⟨by simpa using d,?_⟩⟩;rw[HY _ _ _ c];exact f
theorem Kb {b:Nat}:∀{l:List (el t)} {g:List Value} {off:Nat},Ck w I t l g->w.rangeAt b off g->∀(i:Nat) (x:el t),l[i]? =some x->∃us,rep w I t x us/\w.rangeAt b (off+i*t.size) us
 | [],_,_,_,_,_,_,a=>by simp at a
 | _::_,_,_,⟨us,r,e,d,_⟩,c,0,x,a=>by
  simp at a;subst a;rw[e] at c;exact⟨us,d,by simpa using (PG.1 c).1⟩
 | _::_,_,off,⟨us,r,e,d,h⟩,c,i+1,x,a=>by
  rw[e] at c;have h3:=(PG.1 c).2;rw[HY _ _ _ d] at h3;obtain⟨f,g1,g2⟩:=Kb h h3 i x (by simpa using a);exact⟨f,g1,by rw[show off+(i+1)*t.size=off+t.size+i*t.size by rw[Nat.add_mul];omega];exact g2⟩
end
theorem Vt {P:Program} {w:World} {β:Nat->Option Nat} {s:St} {a:Act} {w0:World} {X:WX} (S:BR w0 X β s a w) {c:AC} {v:Value} {t:T} {l:List (el t)} {q e':TypeId} (y:P.underlying q=some (.slice e'))
  (A:Az (cx X w β (AF s.bk)) c v) (h:D4 (AF s.bk) c (.sl t l)):∃news,Src P t.size q v l.length news w/\Ck w (cx X w β (AF s.bk)).I t l news:=by
 have some:∀{b off n cap:Nat},v= .slice (some ⟨b,off,none⟩) n cap->n=l.length->(∀(i:Nat) (x:el t),l[i]? =some x->∃us,rep w (cx X w β (AF s.bk)).I t x us/\w.rangeAt b (off+i*t.size) us)->
   ∃news,Src P t.size q v l.length news w/\Ck w (cx X w β (AF s.bk)).I t l news:=by
  intro b off n cap f M r;obtain⟨F,m,g⟩:=PZ r;refine⟨F,?_,m⟩;rw[f,M];exact Src.ofSlice w y _ _ _ F m.length (fun j u hu=>by rw[Addr.add_mid];exact g j u hu) m.one
 have d:∀{base:Option Addr} {cap:Nat},v= .slice base 0 cap->l=[]->∃news,Src P t.size q v l.length news w/\Ck w (cx X w β (AF s.bk)).I t l news:=by
  intro base cap f L;subst L f;refine⟨[],?_,rfl⟩;cases base with
  | none=>exact Src.ofNil w y cap
  | some H=>exact Src.ofSlice w y H 0 cap [] (by simp) (fun j u hu=>by simp at hu) (by simp)
 cases c with
 | sl k l'=>
  have h:AC.sl t l=AC.sl k l':=h;simp only[AC.sl.injEq] at h;obtain⟨K,g⟩:=h;subst K;have h3:=eq_of_heq g;subst h3;obtain⟨base,cap,f,m,g,h3⟩:=A;have f:v= .slice base l.length cap:=by simpa using f
  rcases h3 with rfl |⟨b,off,rfl,R,r⟩
  ·exact d f rfl
  exact some f rfl r
 | nil=>
  rcases h with h |⟨k,h⟩
  ·cases h
  obtain⟨rfl,g⟩:t=k/\HEq l ([]:List (el k)):=by simpa using h
  obtain rfl:=eq_of_heq g;exact d (show v= .slice none 0 0 from A) rfl
 | AT k id vv off len=>
  obtain⟨l',hb,hle,h⟩:=h;obtain⟨rfl,g⟩:t=k/\HEq l ((l'.drop off).take len):=by simpa using h
  obtain rfl:=eq_of_heq g;have f:vv=AW (AF s.bk) id:=by rw[ET hb];rfl
  obtain⟨base,cap,G,m,g,_,h3⟩:=A.2 f;have hlen:((l'.drop off).take len).length=len:=by simp;omega
  by_cases z:len=0
  ·subst z;exact d G (by simp)
  rcases h3 with rfl |⟨b,arr,e,o,rfl,U,N⟩
  ·omega
  have B:=S.blocks id _ hb;rcases B with⟨g1,g2⟩ |⟨b',D,e',g1,g2,J⟩
  ·exact absurd (g1.symm.trans o) (by simp)
  obtain rfl:b'=b:=Option.some.inj (g1.symm.trans o);refine some G hlen.symm fun i x p=>?_
  have C:l'[off+i]? =Option.some x:=by
   rw[List.getElem?_take] at p
   split at p
   ·simpa using p
   cases p
  obtain⟨us,O,Q⟩:=J _ x C;exact⟨us,O,by rw[<-Nat.add_mul];exact Q⟩
 | _=>exact (show False by simp[D4] at h).elim
theorem RP {P:Program} {w:World} {t i ty e:TypeId} {a:TypeInfo} {z:Value} {n:Nat} (ht:P.underlying t=some (.slice e)) (C:P.info? e=some a) (N:a.zero=some z) (h:a.size=n) (J:z.cells.size=n)
  {base:Option Addr} {len cap:Nat} (F:len<=cap) {olds:List Value} (g:olds.length=len*n)
  (hb:cap=0\/∃b off arr e',base=some ⟨b,off,none⟩/\w.heap[b]? =some (.cells arr e' (0,0))/\off+cap*n<=arr.size/\w.rangeAt b off olds)
  {x:Value} {m:Nat} {news:List Value} (r:Src P n i x m news w) (d:(len+m)*a.bytes<=140737488355328) (o:0<a.bytes):
  (m=0/\(Builtin.append_ #[t,i] ty #[.slice base len cap,x]).run P w= .ok (.slice base len cap) w)\/
  (∃b off,len+m<=cap/\base=some ⟨b,off,none⟩/\(Builtin.append_ #[t,i] ty #[.slice base len cap,x]).run P w= .ok (.slice base (len+m) cap) (w.setCells b (off+len*n) news))\/
  (∃q arr w',len+m<=q/\q<=maxLen/\w'.heap=w.heap.push (.cells arr e (0,0))/\w'.os=w.os/\w'.tape=w.tape/\w'.output=w.output/\arr.size=q*n/\w'.rangeAt w.heap.size 0 (olds++news)/\
   (Builtin.append_ #[t,i] ty #[.slice base len cap,x]).run P w= .ok (.slice (some ⟨w.heap.size,0,none⟩) (len+m) q) w'):=by
 subst h;have l:=r.newsLen;have G:len+m<=140737488355328:=Nat.le_trans (Nat.le_mul_of_pos_right _ o) d
 by_cases hm:m=0
 ·subst hm;have:news=[]:=by simpa using l
  subst this;exact .inl ⟨rfl,run_append_nothing (P:=P) w t i ty e a ht C base len cap F x r⟩
 by_cases c:len+m<=cap
 ·rcases hb with rfl |⟨b,off,arr,e',rfl,B,H,K⟩
  ·omega
  have k:∀j,j<news.length->off+len*a.size+j<arr.size:=fun j f=>by
   have:(len+m)*a.size<=cap*a.size:=Nat.mul_le_mul_right _ c;rw[Nat.add_mul] at this;omega
  exact .inr (.inl ⟨b,off,c,rfl,run_append_room_src (P:=P) w t i ty e a ht C b off len cap x m news r c
   (fun j f=>by simp[World.cell?,B,k j f]) (fun j f=>by simp[World.frozen?,B])⟩)
 have hold:(Builtin.firstCells a.size len (.slice base len cap)).run P w.drew= .ok olds.toArray w.drew:=by
  rcases hb with rfl |⟨b,off,arr,e',rfl,B,H,K⟩
  ·obtain rfl:len=0:=by omega
   have:olds=[]:=by simpa using g
   subst this;cases base with
   | none=>exact run_firstCells_none w.drew a.size 0 0 0
   | some L=>exact run_firstCells_some w.drew a.size 0 L 0 0 [] (by simp) (fun j u hu=>by simp at hu)
  exact run_firstCells_some w.drew a.size len _ len cap olds g fun j u hu=>by rw[Addr.add_mid];simpa using K j u hu
 have s:len+m<=maxLen:=by unfold maxLen;omega
 have p:=run_append_grow_src (P:=P) w t i ty e a z ht C N base len cap olds hold x m news r (by omega) (by omega) (growslice_fits (by omega) d);have A:=grownCap_ge w (len+m) cap e;refine .inr (.inr ⟨grownCap w (len+m) cap e,(olds++news).toArray++Builtin.zeroCells z.cells (grownCap w (len+m) cap e-(len+m)),(w.drew.alloc (.cells ((olds++news).toArray++Builtin.zeroCells z.cells (grownCap w (len+m) cap e-(len+m))) e)),A,grownCap_le_maxLen w (len+m) cap e s,?_,rfl,rfl,rfl,?_,?_,p⟩)
 ·rfl
 ·simp only[Array.size_append,List.size_toArray,List.length_append,size_zeroCells,J,g,l,<-Nat.add_mul]
  congr 1;omega
 intro j v f;have M:(w.drew.alloc (.cells ((olds++news).toArray++Builtin.zeroCells z.cells (grownCap w (len+m) cap e-(len+m))) e)).cell? ⟨w.heap.size,j,none⟩=_:=World.cell?_alloc_new w.drew _ _ j;rw[Nat.zero_add,M]
 have D:j<(olds++news).length:=by
  rcases Nat.lt_or_ge j (olds++news).length with y | y
  ·exact y
  rw[List.getElem?_eq_none y] at f;cases f
 rw[Array.getElem?_append_left (by simpa using D)];simpa using f
end Go.Abs
namespace Go.Abs
open Go.RowKit
section
variable {P:Program} {E:Env} {TI:TypeId->Info}
theorem fT (hT:∀t,DI P t (TI t)) {o:Oper} {t:TypeId} {x y:Operand} (Y:o.op= .makeSlice t x y) (hd:o.dst≠none):Sound P E TI o:=by
 intro w0 X β s a w S f h N Q V;simp only[Bv,Y] at h;obtain⟨hk,h⟩:=h;obtain⟨hu,b,z,g1,g2,g3,g4,g5,R⟩:=(hT t).sl hk;have hx:=CU S.Bx x;have hy:=CU S.Bx y
 split at h
 ·rename_i k n k' m he D
  rw[he] at hx;rw[D] at hy;have J:a.eval x= .int k n:=BX hx (by simp);have K:a.eval y= .int k' m:=BX hy (by simp);obtain⟨W,h⟩:=h;obtain⟨h0,h1,U⟩:=W ();obtain rfl:=h _ _ ⟨rfl,rfl⟩;unfold fits at U;have Z:0<b.bytes:=g4;have a1:m.toNat<=140737488355328:=Nat.le_trans (Nat.le_mul_of_pos_right _ (by omega)) U
  have hb:(b.bytes:Int)*m<=281474976710656:=by
   have O:((b.bytes*m.toNat:Nat):Int)<=281474976710656:=by rw[Nat.mul_comm,g3];omega
   rw[Int.natCast_mul] at O;rwa [Int.toNat_of_nonneg (by omega)] at O
  have r:=run_make (P:=P) w t _ b z hu g1 g5 k k' n m h0 h1 hb (by omega);obtain⟨q,H⟩:=Option.ne_none_iff_exists'.1 hd;have C:BS o=q:=by simp[BS,H]
  rw[C,H] at V
  have L:z.cells.toList.length=(TI t).elem.size:=by
   have:=(R (cx X w β (AF s.bk))).length;rw[FV] at this;exact this.symm
  have M:z.cells.size=b.size:=by simp only[Array.length_toList] at L;omega
  have a2:=T.size_pos (TI t).elem
  have g:∀i j,i<m.toNat->j<(TI t).elem.size->(madeCells z.cells (m.toNat*b.size))[i*(TI t).elem.size+j]? =z.cells[j]? :=by
   intro i j l p
   have c:i*(TI t).elem.size+j<m.toNat*b.size:=by
    rw[g2];have:(i+1)*(TI t).elem.size<=m.toNat*(TI t).elem.size:=Nat.mul_le_mul_right _ l;rw[Nat.add_mul] at this;omega
   have A:(i*(TI t).elem.size+j)%z.cells.size=j:=by
    rw[M,g2,Nat.add_comm,Nat.add_mul_mod_self_right,Nat.mod_eq_of_lt p]
   have B:j<z.cells.size:=by omega
   simp only[madeCells,Array.getElem?_map];rw[Array.getElem?_range];simp[c,A,B]
  have hB:∀y:Cx,y.w=w.alloc (.cells (madeCells z.cells (m.toNat*b.size)) (TI t).Cs)->y.β q=some w.heap.size->Ci y q (.arr (AW (AF s.bk) q+1) (TI t).elem (List.replicate n.toNat (TI t).B8)):=by
   intro y hw hb;refine Or.inr ⟨_,_,_,hb,by rw[hw];exact heap_alloc_new w _,fun i u l=>?_⟩
   have F:i<n.toNat:=by
    rcases Nat.lt_or_ge i n.toNat with c | c
    ·exact c
    rw[List.getElem?_eq_none (by simpa using c)] at l;cases l
   have:u=(TI t).B8:=by simpa [List.getElem?_replicate,F,eq_comm] using l
   subst this;refine⟨z.cells.toList,(GM y _ _ _).2 (R y),fun j v p=>?_⟩
   have G:j<(TI t).elem.size:=by
    rcases Nat.lt_or_ge j (TI t).elem.size with c | c
    ·exact c
    rw[List.getElem?_eq_none (by omega)] at p;cases p
   rw[hw,World.cell?_alloc_new,g i j (by omega) G];simpa using p
  obtain⟨a5,S'⟩:=S.new (dst:=q) (d:=q) rfl (av:= .one (.AT (TI t).elem q (AW (AF s.bk) q+1) 0 n.toNat)) (BO:= .arr (AW (AF s.bk) q+1) (TI t).elem (List.replicate n.toNat (TI t).B8)) (rd:=[q])
   (u:= .slice (some ⟨w.heap.size,0,none⟩) n.toNat m.toNat)
   (w':=w.alloc (.cells (madeCells z.cells (m.toNat*b.size)) (TI t).Cs)) (arr:=madeCells z.cells (m.toNat*b.size)) (e:=(TI t).Cs) rfl rfl rfl rfl rfl (by simp[AM.short];omega)
   (fun y _ hw hb=>hB y hw hb)
   (fun y _ hw hb W=>Or.inr ⟨⟨rfl,by omega⟩,fun _=>⟨_,_,rfl,by omega,by unfold maxLen;omega,by simp,.inr ⟨_,_,_,hb,by rw[Nat.zero_mul],by rw[hw];exact heap_alloc_new w _,by rw[size_madeCells,g2,Nat.zero_add];exact Nat.le_refl _⟩⟩⟩)
  refine By (u:= .slice (some ⟨w.heap.size,0,none⟩) n.toNat m.toNat) (w':=w.alloc (.cells (madeCells z.cells (m.toNat*b.size)) (TI t).Cs)) ?_ (by rw[H];exact V _ _ _ S');simp[execOp,Y,J,K,r]
 exact h.elim
theorem Po {w0:World} {X:WX} {β:Nat->Option Nat} {s:St} {a:Act} {w:World} (S:BR w0 X β s a w) {t tx ty e e2:TypeId} {ei:TypeInfo} {z:Value} {u:T} (ht:P.underlying t=some (.slice e)) (al:P.underlying tx=some (.slice e2)) (hi:P.info? e=some ei)
  (hz:ei.zero=some z) (Y:ei.size=u.size) (an:z.cells.size=u.size) (Q:0<ei.bytes)
  {base:Option Addr} {len cap:Nat} (aa:len<=cap) (a5:cap<=maxLen) {id:Nat} {l l2:List (el u)} (r:l.length=len)
  (hb:(cap=0)\/∃b arr e',β id=some b/\live (AF s.bk) id/\base=some ⟨b,0,none⟩/\w.heap[b]? =some (.cells arr e' (0,0))/\cap*u.size<=arr.size/\
   ∀(i:Nat) (y:el u),l[i]? =some y->∃us,rep w (cx X w β (AF s.bk)).I u y us/\w.rangeAt b (i*u.size) us)
  {c:AC} {x:Value} (hr:Az (cx X w β (AF s.bk)) c x) (ak:D4 (AF s.bk) c (.sl u l2)) (a6:fits (len+l2.length) ei.bytes)
  {dst:Option Nat} {vv:Nat} {rd:List Nat} (p:id<s.bk.length) (av:vv=AW (AF s.bk) id+1):
  ∃v' w' ao,(Builtin.append_ #[t,tx] ty #[.slice base len cap,x]).run P w= .ok v' w'/\
   BR w0 X ao (s.app dst ⟨.one (.AT u id vv 0 (l++l2).length),[(id,.arr vv u (l++l2))],rd⟩) (a.put dst v') w':=by
 obtain⟨news,hs,G⟩:=Vt S al hr ak
 have holds:∃olds,Ck w (cx X w β (AF s.bk)).I u l olds/\(cap=0\/∃b off arr e',base=some ⟨b,off,none⟩/\w.heap[b]? =some (.cells arr e' (0,0))/\off+cap*u.size<=arr.size/\w.rangeAt b off olds):=by
  rcases hb with rfl |⟨b,arr,e',h1,_,h2,h3,h4,h5⟩
  ·have:l=[]:=List.eq_nil_of_length_eq_zero (by omega);subst this;exact⟨[],rfl,.inl rfl⟩
  obtain⟨fl,q1,q2⟩:=PZ (off:=0) (fun i y J=>by simpa using h5 i y J);exact⟨fl,q1,.inr ⟨b,0,arr,e',h2,h3,by omega,q2⟩⟩
 obtain⟨olds,ab,ai⟩:=holds;have a2:(len+l2.length)*ei.bytes<=140737488355328:=a6;have ar:len+l2.length<=140737488355328:=Nat.le_trans (Nat.le_mul_of_pos_right _ Q) a2;have hlen:(l++l2).length=len+l2.length:=by simp[r]
 have H:(AM.arr vv u (l++l2)).short:=by show (l++l2).length<=_;omega
 have ae:∀b o,w.heap[b]? =some o->b<w.heap.size:=fun b o h=>by
  rcases Nat.lt_or_ge b w.heap.size with h' | h'
  ·exact h'
  simp[Array.getElem?_eq_none h'] at h
 rcases RP (P:=P) (ty:=ty) ht hi hz Y an aa (by rw[ab.length,r]) ai hs a2 Q with⟨hm,g⟩ |⟨b',ad,D,f,g⟩ |⟨c',arr,w',h1,h2,h3,h4,h5,h6,h7,h8,g⟩
 ·have L:l2=[]:=List.eq_nil_of_length_eq_zero hm;subst L;rcases hb with rfl |⟨b,arr,e',q,d,rfl,B,Z,F⟩
  ·have W:l=[]:=List.eq_nil_of_length_eq_zero (by omega);subst W
   refine⟨_,w,fun k=>if k=id then none else β k,g,S.write p H (fun k hk=>by simp[hk]) (by simp[AM.AW];omega) (fun e=>by simp[AM.AW] at e;omega) (fun _ _ _=>rfl) (Nat.le_refl _)
    (fun b arr e B=>⟨arr,B,rfl⟩) rfl rfl rfl (fun _ b hb=>by simp at hb) (fun _=>Or.inl ⟨by show (if id=id then _ else _)=_;simp,rfl⟩) (fun _=>Or.inr ⟨⟨rfl,?_⟩,fun _=>?_⟩)⟩
   ·show vv<=AW _ id;rw[Eg _ _ _ p,if_pos rfl];simp[AM.AW]
   exact⟨base,0,by simp at r;simp[r.symm],by simp,by simp,by simp,.inl rfl⟩
  refine⟨_,w,β,g,S.write p H (fun _ _=>rfl) (by simp[AM.AW];omega) (fun _=>⟨rfl,fun _=>d⟩) (fun _ _ _=>rfl) (Nat.le_refl _) (fun b arr e B=>⟨arr,B,rfl⟩) rfl rfl rfl (fun _ b hb=> .inl ⟨hb,d⟩)
   (fun hle=>Or.inr ⟨b,arr,e',q,B,fun i y J=>?_⟩) (fun _=>Or.inr ⟨⟨rfl,?_⟩,fun _=>?_⟩)⟩
  ·rw[List.append_nil] at J;obtain⟨us,q1,q2⟩:=F i y J;exact⟨us,CR hle.I _ _ _ q1,q2⟩
  ·show vv<=AW _ id;rw[Eg _ _ _ p,if_pos rfl];simp[AM.AW]
  exact⟨some ⟨b,0,none⟩,cap,by simp[r],by simp[r,aa],a5,by simp,.inr ⟨b,arr,e',q,by simp,B,by simpa using Z⟩⟩
 ·rcases hb with rfl |⟨b,arr,e',q,d,K,B,Z,F⟩
  ·have L:l2.length=0:=by omega
   have af:news=[]:=by have:=hs.newsLen;rw[L,Nat.zero_mul] at this;exact List.eq_nil_of_length_eq_zero this
   have a8:l2=[]:=List.eq_nil_of_length_eq_zero L;have W:l=[]:=List.eq_nil_of_length_eq_zero (by omega);subst a8 W af
   refine⟨_,_,fun k=>if k=id then none else β k,g,S.write p H (fun k hk=>by simp[hk]) (by simp[AM.AW];omega) (fun e=>by simp[AM.AW] at e;omega) (fun _ _ _=>rfl) (Nat.le_refl _)
    (fun b arr e B=>⟨arr,B,rfl⟩) rfl rfl rfl (fun _ b hb=>by simp at hb) (fun _=>Or.inl ⟨by show (if id=id then _ else _)=_;simp,rfl⟩) (fun _=>Or.inr ⟨⟨rfl,?_⟩,fun _=>?_⟩)⟩
   ·show vv<=AW _ id;rw[Eg _ _ _ p,if_pos rfl];simp[AM.AW]
   simp at r;subst r;exact⟨base,0,by simp,by simp,by simp,by simp,.inl rfl⟩
  obtain⟨rfl,rfl⟩:b'=b/\ad=0:=by rw[K] at f;simp at f;exact⟨f.1.symm,f.2.symm⟩
  obtain⟨c1,c2,c3,c4⟩:=Pf b' news (0+len*u.size) w;obtain⟨A,q1,q2,q3⟩:=JG b' news (0+len*u.size) w arr e' B;have ah:=hs.newsLen;have U:(len+l2.length)*u.size<=arr.size:=Nat.le_trans (Nat.mul_le_mul_right _ D) Z
  refine⟨_,_,β,g,S.write p H (fun _ _=>rfl) (by simp[AM.AW];omega) (fun _=>⟨rfl,fun _=>d⟩) (fun k hk ag=>Kf b' _ _ _ k (fun e=>ag d (e ▸ q))) (by omega) (fun k M e2 a7=>?_) c1 c2 c3 (fun _ b hb=> .inl ⟨hb,d⟩)
   (fun hle=>Or.inr ⟨b',A,e',q,q1,fun i y J=>?_⟩) (fun _=>Or.inr ⟨⟨rfl,?_⟩,fun _=>?_⟩)⟩
  ·by_cases e1:k=b'
   ·subst e1;obtain⟨a1,R,p2,p3⟩:=JG k news (0+len*u.size) w M e2 a7;exact⟨a1,R,p3⟩
   exact⟨M,(Kf b' _ _ _ k e1).trans a7,rfl⟩
  ·rcases Nat.lt_or_ge i l.length with C | C
   ·rw[List.getElem?_append_left C] at J;obtain⟨us,R,p2⟩:=F i y J;refine⟨us,CR hle.I _ _ _ R,fun j v hj=>?_⟩;have au:=HY _ _ _ R
    have V:j<us.length:=by
     rcases Nat.lt_or_ge j us.length with C | C
     ·exact C
     simp[List.getElem?_eq_none C] at hj
    have aq:i*u.size+j<len*u.size:=by
     have:(i+1)*u.size<=len*u.size:=Nat.mul_le_mul_right _ (by omega);rw[Nat.add_mul] at this;omega
    show (w.setCells b' (0+len*u.size) news).cell? _=_
    rw[World.cell?_setCells_out b' _ _ w _ (fun _ _=> .inl (by show i*u.size+j<_;omega))];exact p2 j v hj
   rw[List.getElem?_append_right C] at J
   have aj:(w.setCells b' (0+len*u.size) news).rangeAt b' (0+len*u.size) news:=by
    intro j v hj
    have V:j<news.length:=by
     rcases Nat.lt_or_ge j news.length with C | C
     ·exact C
     simp[List.getElem?_eq_none C] at hj
    rw[World.cell?_setCells_in b' news _ w (fun m hm=>(Pv B (n:=news.length) (by rw[ah];rw[Nat.add_mul] at U;omega) m hm).1) j V];simp[List.getElem?_eq_getElem V] at hj;simpa using hj
   obtain⟨us,R,p2⟩:=Kb (Ck.mono hle.I G) aj _ y J;refine⟨us,R,?_⟩;rwa [show 0+len*u.size+(i-l.length)*u.size=i*u.size by rw[r] at C ⊢;rw[Nat.zero_add,<-Nat.add_mul];congr 1;omega] at p2
  ·show vv<=AW _ id;rw[Eg _ _ _ p,if_pos rfl];simp[AM.AW]
  exact⟨some ⟨b',0,none⟩,cap,by rw[hlen,f],by rw[hlen];exact D,a5,by simp,.inr ⟨b',A,e',q,by simp,q1,by simp;omega⟩⟩
 have N:∀b,b<w.heap.size->w'.heap[b]? =w.heap[b]? :=fun b hb=>by rw[h3,Array.getElem?_push,if_neg (by omega)]
 have O:w'.heap[w.heap.size]? =some (.cells arr e (0,0)):=by rw[h3];simp
 refine⟨_,w',fun k=>if k=id then some w.heap.size else β k,g,S.write p H (fun k hk=>by simp[hk]) (by simp[AM.AW];omega) (fun e=>by simp[AM.AW] at e;omega) (fun b hb _=>N b hb) (by rw[h3];simp)
  (fun b A e' B=>⟨A,(N b (ae b _ B)).trans B,rfl⟩) h4 h5 h6 (fun _ b hb=> .inr (by simp at hb;omega)) (fun hle=>Or.inr ⟨w.heap.size,arr,e,by show (if id=id then _ else _)=_;simp,O,fun i y J=>?_⟩) (fun _=>Or.inr ⟨⟨rfl,?_⟩,fun _=>?_⟩)⟩
 ·obtain⟨us,R,p2⟩:=Kb ((Ck.mono hle.I ab).append (Ck.mono hle.I G)) h8 i y J;exact⟨us,R,by simpa using p2⟩
 ·show vv<=AW _ id;rw[Eg _ _ _ p,if_pos rfl];simp[AM.AW]
 exact⟨some ⟨w.heap.size,0,none⟩,c',by rw[hlen],by rw[hlen];exact h1,h2,by simp,.inr ⟨w.heap.size,arr,e,by show (if id=id then _ else _)=_;simp,by simp,O,by rw[h7];simp⟩⟩
end
end Go.Abs
namespace Go.Abs
open Go.RowKit
section
variable {P:Program} {E:Env} {TI:TypeId->Info}
theorem Nh {x:Cx} {s:St} {a:Act} (h:∀o,BQ x (ev s.sl o) (a.eval o)):∀(l:List Operand),AY (BQ x) (l.map (ev s.sl)) (l.map a.eval)
 | []=>trivial
 | o::l=>⟨h o,Nh h l⟩
theorem G6 {a:Act} {w:World} {o:Oper} {c:Call} {b:Builtin} {u:Value} {w':World} (d:o.op= .call c) (hb:c.callee= .builtin b) (h:(builtin b c.argTypes o.type (c.args.map fun | .const _=>true | _=>false) (c.args.map a.eval)).run P w= .ok (.value u) w'):
  (execOp a.eval o).run P w= .ok (.value u) w':=by
 simp only[execOp,d,resolve,hb,Sem.run_bind,Sem.run_pure,Result.andThen_ok,invoke];exact h
theorem MB {x:Cx} {t:T} {id AW off len:Nat} {v:Value} (h:Az x (.AT t id AW off len) v) (f:AW=x.cv id):∃base cap,v= .slice base len cap/\len<=cap/\cap<=maxLen/\
  (cap=0\/∃b arr e,x.β id=some b/\base=some ⟨b,off*t.size,none⟩/\x.w.heap[b]? =some (.cells arr e (0,0))/\(off+cap)*t.size<=arr.size):=by
 obtain⟨base,cap,a,c,h3,_,d⟩:=h.2 f;exact⟨base,cap,a,c,h3,d⟩
theorem SL {x:Cx} {t:T} {id AW off len:Nat} {v:Value} (h:Az x (.Cw t id AW off len) v) (g:AW=x.cv id):∃base cap,v= .slice base len cap/\len<=cap/\cap<=maxLen/\cap=len/\
  (cap=0\/∃b arr e,x.β id=some b/\base=some ⟨b,off*t.size,none⟩/\x.w.heap[b]? =some (.cells arr e (0,0))/\(off+cap)*t.size<=arr.size):=by
 obtain⟨base,cap,a,c,h3,f,d⟩:=h.2 g;exact⟨base,cap,a,c,h3,f rfl,d⟩
theorem Vu (hT:∀t,DI P t (TI t)) {o:Oper} {c:Call} {b:Builtin} (ho:o.op= .call c) (hc:c.callee= .builtin b) (hd:o.dst≠none)
  {w0:World} {X:WX} {β:Nat->Option Nat} {s:St} {a:Act} {w:World} (S:BR w0 X β s a w) {f:Ba} (h:D8 TI b c.argTypes.toList (c.args.toList.map (ev s.sl)) (BS o) (AF s.bk) (fun g=>g=f))
  {N:Act->World->Prop} {Q:Exit->Act->World->Prop} (Y:∀M a' w',BR w0 X M (s.app o.dst f) a' w'->N a' w'):o.wp P a w N Q:=by
 have d:=Nh (CU S.Bx) c.args.toList
 generalize hA:c.args.toList.map (ev s.sl)=A at h d
 generalize hU:c.args.toList.map a.eval=U at d
 have F:c.args.map a.eval=U.toArray:=by rw[<-hU];exact Array.ext' (by simp)
 have L:∀a2,c.argTypes.toList=a2->c.argTypes=a2.toArray:=fun a2 e=>by subst e;exact Array.ext' rfl
 obtain⟨q,hq⟩:=Option.ne_none_iff_exists'.1 hd;have af:BS o=q:=by simp[BS,hq]
 have p:∀{t0:TypeId} {base:Option Addr} {n cap:Nat},c.argTypes.toList=[t0]->(TI t0).sl=true->U=[.slice base n cap]->b= .len->(execOp a.eval o).run P w= .ok (.value (.int .i64 n)) w:=by
  intro t0 base n cap D h2 h3 h4;subst h4;refine G6 ho hc ?_;rw[L _ D,F,h3];simp[builtin,Builtin.len_,run_underlying ((hT t0).sl h2).1,goInt]
 generalize r:c.argTypes.toList=a2 at h
 unfold D8 at h
 split at h
 ·rename_i t0 t l
  match U,d with
  | [v],⟨G,_⟩=>
   obtain⟨D,h⟩:=h;obtain⟨base,cap,hv,h2,h3,h4⟩:=BX G (by simp);have hv:v= .slice base l.length cap:=by simpa using hv
   obtain rfl:=h _ ⟨rfl,h3⟩;exact By (p r D (by rw[hv]) rfl) (Y _ _ _ (S.val (Or.inr rfl)))
 ·rename_i t0 t id v off len
  match U,d with
  | [u],⟨G,_⟩=>
   obtain⟨D,h⟩:=h
   split at h
   ·rename_i hv
    obtain⟨base,cap,H,_⟩:=SL (BX G (by simp)) hv.symm;obtain rfl:=h _ ⟨rfl⟩;exact By (p r D (by rw[H]) rfl) (Y _ _ _ (S.val (Or.inr rfl)))
   exact h.elim
 ·rename_i t0 t id v off len
  match U,d with
  | [u],⟨G,_⟩=>
   obtain⟨D,h⟩:=h
   split at h
   ·rename_i hv
    obtain⟨base,cap,H,_⟩:=MB (BX G (by simp)) hv.symm;obtain rfl:=h _ ⟨rfl⟩;exact By (p r D (by rw[H]) rfl) (Y _ _ _ (S.val (Or.inr rfl)))
   exact h.elim
 ·rename_i t0
  match U,d with
  | [u],⟨G,_⟩=>
   obtain⟨D,h⟩:=h;have H:u= .slice none 0 0:=BX G (by simp);subst h;exact By (p r D (by rw[H]) rfl) (Y _ _ _ (S.val (Or.inr rfl)))
 ·rename_i t0
  match U,d with
  | [u],⟨G,_⟩=>
   obtain⟨D,h⟩:=h;have H:u= .slice none 0 0:=BX G (by simp);subst h H;refine By (u:= .int .i64 0) (w':=w) (G6 ho hc ?_) (Y _ _ _ (S.val (Or.inr rfl)));rw[L _ r,F];simp[builtin,Builtin.cap_,run_underlying ((hT t0).sl D).1,goInt]
 ·rename_i k m k' n
  match U,d with
  | [u,u'],⟨G,J,_⟩=>
   have H:u= .int k m:=BX G (by simp);have ak:u'= .int k' n:=BX J (by simp);obtain rfl:=h _ rfl;subst H ak;refine By (u:= .int k (if n<m then n else m)) (w':=w) (G6 ho hc ?_) (Y _ _ _ (S.val (Or.inr rfl)));rw[F];simp[builtin,Builtin.min_,Builtin.min2]
 ·rename_i t0 t1 x
  match U,d with
  | [u,u'],⟨G,J,_⟩=>
   obtain⟨⟨h0,D⟩,l2,Z,h⟩:=h;obtain⟨C,B⟩:=Z ();have H:u= .slice none 0 0:=BX G (by simp);obtain rfl:=h _ rfl;obtain⟨hu,ei,z,g1,g2,g3,g4,g5,g6⟩:=(hT t0).sl h0;obtain⟨R,_⟩:=(hT t1).sl D;have hx:Az (cx X w β (AF s.bk)) x u':=BX J (by intro e;subst e;exact C.elim);have V:z.cells.size=(TI t0).elem.size:=by have:=(g6 (cx X w β (AF s.bk))).length;rw[FV] at this;simpa using this.symm
   by_cases O:q<s.bk.length
   ·obtain⟨v',w',M,j,S'⟩:=Po S (ty:=o.type) hu R g1 g5 g2 V g4 (base:=none) (len:=0) (cap:=0) (Nat.le_refl _) (by simp) (id:=q) (l:=[]) (l2:=l2) rfl (.inl rfl) hx C (by rw[Nat.zero_add,g3];exact B) (dst:=o.dst) (vv:=AW (AF s.bk) q+1) (rd:=q::B4 x) O rfl;refine By (u:=v') (w':=w') (G6 ho hc ?_) (Y M _ _ ?_)
    ·rw[L _ r,F,H];simp[builtin,j]
    rw[af];simpa using S'
   have W:s.bk.length<=q:=Nat.le_of_not_lt O;have h2:s.sl.length<=q:=by rw[S.len,<-S.Gf];exact W
   obtain⟨news,ah,aj⟩:=Vt S R hx C
   have ag:s.app o.dst ⟨.one (.AT (TI t0).elem (BS o) (AW (AF s.bk) (BS o)+1) 0 l2.length),[(BS o,.arr (AW (AF s.bk) (BS o)+1) (TI t0).elem l2)],BS o::B4 x⟩=s.app none ⟨.one .BZ,[],BS o::B4 x⟩:=by
    rw[af,hq];simp[St.app,Ed,CZ,Gr _ _ _ h2,Gr _ _ _ W]
   have ha:∀v,a.put o.dst v=a.put none undef:=by
    intro v;have:a.tmps.size<=q:=by rw[<-S.Gf];exact W
    rw[hq];simp[Act.put,Array.setIfInBounds_eq_of_size_le this]
   rcases RP (P:=P) (ty:=o.type) (w:=w) (base:=none) (len:=0) (cap:=0) (olds:=[]) hu g1 g5 g2 V (Nat.le_refl _) (by simp) (.inl rfl) ah (by rw[Nat.zero_add,g3];exact B) g4 with⟨_,j⟩ |⟨b',al,ai,a7,j⟩ |⟨c',arr,w',D,h2,h3,h4,h5,h6,h7,h8,j⟩
   ·have K:(builtin .append c.argTypes o.type (c.args.map fun | .const _=>true | _=>false) (c.args.map a.eval)).run P w= .ok (.value (.slice none 0 0)) w:=by
     rw[L _ r,F,H];simp[builtin,j]
    exact By (G6 ho hc K) (by rw[ha];exact Y β _ w (by rw[ag];exact S.val (HX _ _)))
   ·cases a7
   have K:(builtin .append c.argTypes o.type (c.args.map fun | .const _=>true | _=>false) (c.args.map a.eval)).run P w= .ok (.value (.slice (some ⟨w.heap.size,0,none⟩) (0+l2.length) c')) w':=by
    rw[L _ r,F,H];simp[builtin,j]
   exact By (G6 ho hc K) (by rw[ha];exact Y β _ w' (by rw[ag];exact S.ext (fun b hb=>by rw[h3,Array.getElem?_push,if_neg (by omega)]) (by rw[h3];simp) h4 h5 h6 (HX _ _)))
 ·rename_i t0 t1 t id v off len x
  match U,d with
  | [u,u'],⟨G,J,_⟩=>
   obtain⟨⟨h0,D⟩,h⟩:=h
   split at h
   ·rename_i v' t' l hb
    split at h
    ·rename_i a8
     obtain⟨ab,a5,a6⟩:=a8;obtain rfl:=T.beq_eq a5;have a1:=T.beq_eq a6;obtain⟨l2,Z,h⟩:=h;obtain⟨aa,hlen,C,B⟩:=Z ();obtain rfl:=h _ _ ⟨rfl,rfl⟩;subst aa ab;obtain⟨hu,ei,z,g1,g2,g3,g4,g5,g6⟩:=(hT t0).sl h0;obtain⟨R,_⟩:=(hT t1).sl D;rw[<-a1] at g2;have hx:Az (cx X w β (AF s.bk)) x u':=BX J (by intro e;subst e;exact C.elim);have V:z.cells.size=t'.size:=by have:=(g6 (cx X w β (AF s.bk))).length;rw[FV,<-a1] at this;simpa using this.symm
     obtain⟨base,cap,H,k1,k2,k4,k3⟩:=SL (BX G (by simp)) (ET hb).symm
     have O:id<s.bk.length:=by
      rcases Nat.lt_or_ge id s.bk.length with W | W
      ·exact W
      rw[HN _ _ W] at hb;cases hb
     obtain⟨ad,w',M,j,S'⟩:=Po S (ty:=o.type) hu R g1 g5 g2 V g4 k1 k2 (id:=id) (l:=l.take len) (l2:=l2) (by simp;omega) (by
      rcases k3 with rfl |⟨b,arr,e,q1,q2,q3,q4⟩
      ·exact .inl rfl
      rcases S.blocks id _ hb with⟨p1,p2⟩ |⟨b',ae,e',p1,p2,p3⟩
      ·exact absurd (p1.symm.trans q1) (by simp)
      obtain rfl:b'=b:=Option.some.inj (p1.symm.trans q1);refine .inr ⟨b',arr,e,q1,⟨_,hb,rfl⟩,by simpa using q2,q3,by simpa using q4,fun i y hy=>p3 i y ?_⟩;rw[List.getElem?_take] at hy
      split at hy
      ·exact hy
      cases hy) hx C (by rw[g3];exact B) (dst:=o.dst) (vv:=v'+1) (rd:=id::B4 x) O (by rw[ET hb];rfl)
     refine By (u:=ad) (w':=w') (G6 ho hc ?_) (Y M _ _ S');rw[L _ r,F,H];simp[builtin,j]
    exact h.elim
   exact h.elim
 ·rename_i t0 t1 t id v off len x
  match U,d with
  | [u,u'],⟨G,J,_⟩=>
   obtain⟨⟨h0,D⟩,h⟩:=h
   split at h
   ·rename_i v' t' l hb
    split at h
    ·rename_i a8
     obtain⟨ab,a5,a6⟩:=a8;obtain rfl:=T.beq_eq a5;have a1:=T.beq_eq a6;obtain⟨l2,Z,h⟩:=h;obtain⟨aa,hlen,C,B⟩:=Z ();obtain rfl:=h _ _ ⟨rfl,rfl⟩;subst aa ab hlen;obtain⟨hu,ei,z,g1,g2,g3,g4,g5,g6⟩:=(hT t0).sl h0;obtain⟨R,_⟩:=(hT t1).sl D;rw[<-a1] at g2;have hx:Az (cx X w β (AF s.bk)) x u':=BX J (by intro e;subst e;exact C.elim);have V:z.cells.size=t'.size:=by have:=(g6 (cx X w β (AF s.bk))).length;rw[FV,<-a1] at this;simpa using this.symm
     obtain⟨base,cap,H,k1,k2,k3⟩:=MB (BX G (by simp)) (ET hb).symm
     have O:id<s.bk.length:=by
      rcases Nat.lt_or_ge id s.bk.length with W | W
      ·exact W
      rw[HN _ _ W] at hb;cases hb
     obtain⟨ad,w',M,j,S'⟩:=Po S (ty:=o.type) hu R g1 g5 g2 V g4 k1 k2 (id:=id) (l:=l) (l2:=l2) rfl (by
      rcases k3 with rfl |⟨b,arr,e,q1,q2,q3,q4⟩
      ·exact .inl rfl
      rcases S.blocks id _ hb with⟨p1,p2⟩ |⟨b',ae,e',p1,p2,p3⟩
      ·exact absurd (p1.symm.trans q1) (by simp)
      obtain rfl:b'=b:=Option.some.inj (p1.symm.trans q1);exact .inr ⟨b',arr,e,q1,⟨_,hb,rfl⟩,by simpa using q2,q3,by simpa using q4,p3⟩) hx C (by rw[g3];exact B) (dst:=o.dst) (vv:=v'+1) (rd:=id::B4 x) O (by rw[ET hb];rfl)
     refine By (u:=ad) (w':=w') (G6 ho hc ?_) (Y M _ _ S');rw[L _ r,F,H];simp[builtin,j]
    exact h.elim
   exact h.elim
 exact h.elim
end
end Go.Abs
