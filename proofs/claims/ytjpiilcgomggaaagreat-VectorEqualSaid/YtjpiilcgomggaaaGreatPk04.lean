/- Part 5 of a proof. Conditions: each theorem's own. -/
import Derived.Deep.AppendSrc
import Derived.Deep.Upon
import Derived.Test.YtjpiilcgomggaaaGreatPk03
set_option linter.all false
set_option maxHeartbeats 8000000
namespace Go.Abs
open Go.RowKit
def Bz (w:World) (I:Nat->Prop) (t:T):List (el t)->List Value->Prop
 | [],fl=>fl=[]
 | x::l,fl=>∃us r,fl=us++r/\rep w I t x us/\Bz w I t l r
section
variable {w:World} {I:Nat->Prop} {t:T}
theorem NA {b o:Nat} {us d:List Value}:w.rangeAt b o (us++d)↔w.rangeAt b o us/\w.rangeAt b (o+us.length) d:=by
 constructor
 ·intro h;refine⟨fun j v a=>h j v ?_,fun j v a=>?_⟩
  ·rw[List.getElem?_append_left]
   ·exact a
   rcases Nat.lt_or_ge j us.length with c | c
   ·exact c
   simp[List.getElem?_eq_none c] at a
  rw[Nat.add_assoc];exact h (us.length+j) v (by rw[List.getElem?_append_right (by omega)];simpa using a)
 rintro⟨f,g⟩ j v a
 rcases Nat.lt_or_ge j us.length with c | c
 ·rw[List.getElem?_append_left c] at a;exact f j v a
 rw[List.getElem?_append_right c] at a;have:=g _ v a;rwa [show o+us.length+(j-us.length)=o+j by omega] at this
theorem Bz.length:∀{l:List (el t)} {a:List Value},Bz w I t l a->a.length=l.length*t.size
 | [],_,h=>by rw[show _=_ from h];simp
 | _::_,_,⟨us,r,e,b,c⟩=>by rw[e,List.length_append,GV _ _ _ b,Bz.length c,List.length_cons,Nat.succ_mul];omega
theorem Bz.one:∀{l:List (el t)} {a:List Value},Bz w I t l a->∀u∈a,u.oneCell'=true
 | [],_,h,u,hu=>by rw[show _=_ from h] at hu;simp at hu
 | _::_,_,⟨us,r,e,b,c⟩,u,hu=>by
  rw[e] at hu;rcases List.mem_append.1 hu with h | h
  ·exact Ko _ _ _ b u h
  exact Bz.one c u h
theorem Bz.append:∀{l l':List (el t)} {b a:List Value},Bz w I t l b->Bz w I t l' a->Bz w I t (l++l') (b++a)
 | [],_,_,_,h,h'=>by rw[show _=_ from h];exact h'
 | _::_,_,_,_,⟨us,r,e,c,d⟩,h'=>⟨us,r++_,by rw[e,List.append_assoc],c,Bz.append d h'⟩
theorem Bz.mono {w':World} {a:Nat->Prop} (hm:∀b,I b->a b/\w'.heap[b]? =w.heap[b]?):∀{l:List (el t)} {c:List Value},Bz w I t l c->Bz w' a t l c
 | [],_,h=>h
 | _::_,_,⟨us,r,e,d,f⟩=>⟨us,r,e,Bi hm _ _ _ d,Bz.mono hm f⟩
theorem NL {b:Nat}:∀{l:List (el t)} {off:Nat},(∀(i:Nat) (x:el t),l[i]? =some x->∃us,rep w I t x us/\w.rangeAt b (off+i*t.size) us)->∃a,Bz w I t l a/\w.rangeAt b off a
 | [],_,_=>⟨[],rfl,fun j v k=>by simp at k⟩
 | x::l,off,h=>by
  obtain⟨us,c,d⟩:=h 0 x (by simp)
  obtain⟨a,f,g⟩:=NL (l:=l) (off:=off+t.size) fun i y m=>by
   obtain⟨us,g1,g2⟩:=h (i+1) y (by simpa using m);exact⟨us,g1,by rw[show off+t.size+i*t.size=off+(i+1)*t.size by rw[Nat.add_mul];omega];exact g2⟩
  refine⟨us++a,⟨us,a,rfl,c,f⟩,NA.2 ⟨by simpa using d,?_⟩⟩;rw[GV _ _ _ c];exact g
theorem I2 {b:Nat}:∀{l:List (el t)} {f:List Value} {off:Nat},Bz w I t l f->w.rangeAt b off f->∀(i:Nat) (x:el t),l[i]? =some x->∃us,rep w I t x us/\w.rangeAt b (off+i*t.size) us
 | [],_,_,_,_,_,_,hx=>by simp at hx
 | _::_,_,_,⟨us,r,e,c,_⟩,a,0,x,hx=>by
  simp at hx;subst hx;rw[e] at a;exact⟨us,c,by simpa using (NA.1 a).1⟩
 | _::_,_,off,⟨us,r,e,c,h⟩,a,i+1,x,hx=>by
  rw[e] at a;have g:=(NA.1 a).2;rw[GV _ _ _ c] at g;obtain⟨d,g1,g2⟩:=I2 h g i x (by simpa using hx);exact⟨d,g1,by rw[show off+(i+1)*t.size=off+t.size+i*t.size by rw[Nat.add_mul];omega];exact g2⟩
end
theorem Sr {P:Program} {w:World} {β:Nat->Option Nat} {s:St} {a:Act} {w0:World} {X:WX} (S:Aw w0 X β s a w) {c:AC} {v:Value} {t:T} {l:List (el t)} {q e':TypeId} (y:P.underlying q=some (.slice e'))
  (A:Af (cx X w β (AD s.bk)) c v) (h:DF (AD s.bk) c (.sl t l)):∃news,Src P t.size q v l.length news w/\Bz w (cx X w β (AD s.bk)).I t l news:=by
 have some:∀{b off n cap:Nat},v= .slice (some ⟨b,off,none⟩) n cap->n=l.length->(∀(i:Nat) (x:el t),l[i]? =some x->∃us,rep w (cx X w β (AD s.bk)).I t x us/\w.rangeAt b (off+i*t.size) us)->
   ∃news,Src P t.size q v l.length news w/\Bz w (cx X w β (AD s.bk)).I t l news:=by
  intro b off n cap f N r;obtain⟨F,m,g⟩:=NL r;refine⟨F,?_,m⟩;rw[f,N];exact Src.ofSlice w y _ _ _ F m.length (fun j u hu=>by rw[Addr.add_mid];exact g j u hu) m.one
 have d:∀{base:Option Addr} {cap:Nat},v= .slice base 0 cap->l=[]->∃news,Src P t.size q v l.length news w/\Bz w (cx X w β (AD s.bk)).I t l news:=by
  intro base cap f M;subst M f;refine⟨[],?_,rfl⟩;cases base with
  | none=>exact Src.ofNil w y cap
  | some J=>exact Src.ofSlice w y J 0 cap [] (by simp) (fun j u hu=>by simp at hu) (by simp)
 cases c with
 | sl k l'=>
  have h:AC.sl t l=AC.sl k l':=h;simp only[AC.sl.injEq] at h;obtain⟨L,g⟩:=h;subst L;have o:=eq_of_heq g;subst o;obtain⟨base,cap,f,m,g,o⟩:=A;have f:v= .slice base l.length cap:=by simpa using f
  rcases o with rfl |⟨b,off,rfl,U,r⟩
  ·exact d f rfl
  exact some f rfl r
 | nil=>
  rcases h with h |⟨k,h⟩
  ·cases h
  obtain⟨rfl,g⟩:t=k/\HEq l ([]:List (el k)):=by simpa using h
  obtain rfl:=eq_of_heq g;exact d (show v= .slice none 0 0 from A) rfl
 | AL k id vv off len=>
  obtain⟨l',G,hle,h⟩:=h;obtain⟨rfl,g⟩:t=k/\HEq l ((l'.drop off).take len):=by simpa using h
  obtain rfl:=eq_of_heq g;have f:vv=AM (AD s.bk) id:=by rw[DZ G];rfl
  obtain⟨base,cap,H,m,g,_,o⟩:=A.2 f;have hlen:((l'.drop off).take len).length=len:=by simp;omega
  by_cases z:len=0
  ·subst z;exact d H (by simp)
  rcases o with rfl |⟨b,arr,e,p,rfl,V,O⟩
  ·omega
  have B:=S.blocks id _ G;rcases B with⟨g1,g2⟩ |⟨b',D,e',g1,g2,K⟩
  ·exact absurd (g1.symm.trans p) (by simp)
  obtain rfl:b'=b:=Option.some.inj (g1.symm.trans p);refine some H hlen.symm fun i x hx=>?_
  have C:l'[off+i]? =Option.some x:=by
   rw[List.getElem?_take] at hx
   split at hx
   ·simpa using hx
   cases hx
  obtain⟨us,Q,R⟩:=K _ x C;exact⟨us,Q,by rw[<-Nat.add_mul];exact R⟩
 | _=>exact (show False by simp[DF] at h).elim
theorem O4 {P:Program} {w:World} {t i ty e:TypeId} {a:TypeInfo} {z:Value} {n:Nat} (ht:P.underlying t=some (.slice e)) (C:P.info? e=some a) (O:a.zero=some z) (h:a.size=n) (J:z.cells.size=n)
  {base:Option Addr} {len cap:Nat} (F:len<=cap) {olds:List Value} (g:olds.length=len*n)
  (K:cap=0\/∃b off arr e',base=some ⟨b,off,none⟩/\w.heap[b]? =some (.cells arr e' (0,0))/\off+cap*n<=arr.size/\w.rangeAt b off olds)
  {x:Value} {m:Nat} {news:List Value} (r:Src P n i x m news w) (d:(len+m)*a.bytes<=140737488355328) (o:0<a.bytes):
  (m=0/\(Builtin.append_ #[t,i] ty #[.slice base len cap,x]).run P w= .ok (.slice base len cap) w)\/
  (∃b off,len+m<=cap/\base=some ⟨b,off,none⟩/\(Builtin.append_ #[t,i] ty #[.slice base len cap,x]).run P w= .ok (.slice base (len+m) cap) (w.setCells b (off+len*n) news))\/
  (∃q arr w',len+m<=q/\q<=maxLen/\w'.heap=w.heap.push (.cells arr e (0,0))/\w'.os=w.os/\w'.tape=w.tape/\w'.output=w.output/\arr.size=q*n/\w'.rangeAt w.heap.size 0 (olds++news)/\
   (Builtin.append_ #[t,i] ty #[.slice base len cap,x]).run P w= .ok (.slice (some ⟨w.heap.size,0,none⟩) (len+m) q) w'):=by
 subst h;have l:=r.newsLen;have G:len+m<=140737488355328:=Nat.le_trans (Nat.le_mul_of_pos_right _ o) d
 by_cases hm:m=0
 ·subst hm;have:news=[]:=by simpa using l
  subst this;exact .inl ⟨rfl,run_append_nothing (P:=P) w t i ty e a ht C base len cap F x r⟩
 by_cases c:len+m<=cap
 ·rcases K with rfl |⟨b,off,arr,e',rfl,B,H,L⟩
  ·omega
  have k:∀j,j<news.length->off+len*a.size+j<arr.size:=fun j f=>by
   have:(len+m)*a.size<=cap*a.size:=Nat.mul_le_mul_right _ c;rw[Nat.add_mul] at this;omega
  exact .inr (.inl ⟨b,off,c,rfl,run_append_room_src (P:=P) w t i ty e a ht C b off len cap x m news r c
   (fun j f=>by simp[World.cell?,B,k j f]) (fun j f=>by simp[World.frozen?,B])⟩)
 have hold:(Builtin.firstCells a.size len (.slice base len cap)).run P w.drew= .ok olds.toArray w.drew:=by
  rcases K with rfl |⟨b,off,arr,e',rfl,B,H,L⟩
  ·obtain rfl:len=0:=by omega
   have:olds=[]:=by simpa using g
   subst this;cases base with
   | none=>exact run_firstCells_none w.drew a.size 0 0 0
   | some M=>exact run_firstCells_some w.drew a.size 0 M 0 0 [] (by simp) (fun j u hu=>by simp at hu)
  exact run_firstCells_some w.drew a.size len _ len cap olds g fun j u hu=>by rw[Addr.add_mid];simpa using L j u hu
 have s:len+m<=maxLen:=by unfold maxLen;omega
 have p:=run_append_grow_src (P:=P) w t i ty e a z ht C O base len cap olds hold x m news r (by omega) (by omega) (growslice_fits (by omega) d);have A:=grownCap_ge w (len+m) cap e;refine .inr (.inr ⟨grownCap w (len+m) cap e,(olds++news).toArray++Builtin.zeroCells z.cells (grownCap w (len+m) cap e-(len+m)),(w.drew.alloc (.cells ((olds++news).toArray++Builtin.zeroCells z.cells (grownCap w (len+m) cap e-(len+m))) e)),A,grownCap_le_maxLen w (len+m) cap e s,?_,rfl,rfl,rfl,?_,?_,p⟩)
 ·rfl
 ·simp only[Array.size_append,List.size_toArray,List.length_append,size_zeroCells,J,g,l,<-Nat.add_mul]
  congr 1;omega
 intro j v f;have N:(w.drew.alloc (.cells ((olds++news).toArray++Builtin.zeroCells z.cells (grownCap w (len+m) cap e-(len+m))) e)).cell? ⟨w.heap.size,j,none⟩=_:=World.cell?_alloc_new w.drew _ _ j;rw[Nat.zero_add,N]
 have D:j<(olds++news).length:=by
  rcases Nat.lt_or_ge j (olds++news).length with y | y
  ·exact y
  rw[List.getElem?_eq_none y] at f;cases f
 rw[Array.getElem?_append_left (by simpa using D)];simpa using f
end Go.Abs
namespace Go.Abs
open Go.RowKit
section
variable {P:Program} {E:Env} {TI:TypeId->Info}
theorem ZO (hT:∀t,Ce P t (TI t)) {o:Oper} {t:TypeId} {x y:Operand} (Z:o.op= .makeSlice t x y) (hd:o.dst≠none):Sound P E TI o:=by
 intro w0 X β s a w S f h N Q W;simp only[BP,Z] at h;obtain⟨hk,h⟩:=h;obtain⟨hu,b,z,g1,g2,g3,g4,g5,U⟩:=(hT t).sl hk;have hx:=Bm S.BS x;have hy:=Bm S.BS y
 split at h
 ·rename_i k n k' m he F
  rw[he] at hx;rw[F] at hy;have K:a.eval x= .int k n:=A0 hx (by simp);have L:a.eval y= .int k' m:=A0 hy (by simp);obtain⟨Y,h⟩:=h;obtain⟨h0,h1,V⟩:=Y ();obtain rfl:=h _ _ ⟨rfl,rfl⟩;unfold fits at V;have a1:0<b.bytes:=g4;have a2:m.toNat<=140737488355328:=Nat.le_trans (Nat.le_mul_of_pos_right _ (by omega)) V
  have g:(b.bytes:Int)*m<=281474976710656:=by
   have R:((b.bytes*m.toNat:Nat):Int)<=281474976710656:=by rw[Nat.mul_comm,g3];omega
   rw[Int.natCast_mul] at R;rwa [Int.toNat_of_nonneg (by omega)] at R
  have A:=run_make (P:=P) w t _ b z hu g1 g5 k k' n m h0 h1 g (by omega);obtain⟨q,J⟩:=Option.ne_none_iff_exists'.1 hd;have D:Ax o=q:=by simp[Ax,J]
  rw[D,J] at W
  have M:z.cells.toList.length=(TI t).elem.size:=by
   have:=(U (cx X w β (AD s.bk))).length;rw[Ef] at this;exact this.symm
  have O:z.cells.size=b.size:=by simp only[Array.length_toList] at M;omega
  have a5:=T.size_pos (TI t).elem
  have l:∀i j,i<m.toNat->j<(TI t).elem.size->(madeCells z.cells (m.toNat*b.size))[i*(TI t).elem.size+j]? =z.cells[j]? :=by
   intro i j p r
   have c:i*(TI t).elem.size+j<m.toNat*b.size:=by
    rw[g2];have:(i+1)*(TI t).elem.size<=m.toNat*(TI t).elem.size:=Nat.mul_le_mul_right _ p;rw[Nat.add_mul] at this;omega
   have B:(i*(TI t).elem.size+j)%z.cells.size=j:=by
    rw[O,g2,Nat.add_comm,Nat.add_mul_mod_self_right,Nat.mod_eq_of_lt r]
   have C:j<z.cells.size:=by omega
   simp only[madeCells,Array.getElem?_map];rw[Array.getElem?_range];simp[c,B,C]
  have hB:∀y:Cx,y.w=w.alloc (.cells (madeCells z.cells (m.toNat*b.size)) (TI t).B7)->y.β q=some w.heap.size->Bx y q (.arr (AM (AD s.bk) q+1) (TI t).elem (List.replicate n.toNat (TI t).Bt)):=by
   intro y hw g;refine Or.inr ⟨_,_,_,g,by rw[hw];exact heap_alloc_new w _,fun i u p=>?_⟩
   have G:i<n.toNat:=by
    rcases Nat.lt_or_ge i n.toNat with c | c
    ·exact c
    rw[List.getElem?_eq_none (by simpa using c)] at p;cases p
   have:u=(TI t).Bt:=by simpa [List.getElem?_replicate,G,eq_comm] using p
   subst this;refine⟨z.cells.toList,(FK y _ _ _).2 (U y),fun j v r=>?_⟩
   have H:j<(TI t).elem.size:=by
    rcases Nat.lt_or_ge j (TI t).elem.size with c | c
    ·exact c
    rw[List.getElem?_eq_none (by omega)] at r;cases r
   rw[hw,World.cell?_alloc_new,l i j (by omega) H];simpa using r
  obtain⟨a6,S'⟩:=S.new (dst:=q) (d:=q) rfl (av:= .one (.AL (TI t).elem q (AM (AD s.bk) q+1) 0 n.toNat)) (As:= .arr (AM (AD s.bk) q+1) (TI t).elem (List.replicate n.toNat (TI t).Bt)) (rd:=[q])
   (u:= .slice (some ⟨w.heap.size,0,none⟩) n.toNat m.toNat)
   (w':=w.alloc (.cells (madeCells z.cells (m.toNat*b.size)) (TI t).B7)) (arr:=madeCells z.cells (m.toNat*b.size)) (e:=(TI t).B7) rfl rfl rfl rfl rfl (by simp[AH.short];omega)
   (fun y _ hw g=>hB y hw g)
   (fun y _ hw g Y=>Or.inr ⟨⟨rfl,by omega⟩,fun _=>⟨_,_,rfl,by omega,by unfold maxLen;omega,by simp,.inr ⟨_,_,_,g,by rw[Nat.zero_mul],by rw[hw];exact heap_alloc_new w _,by rw[size_madeCells,g2,Nat.zero_add];exact Nat.le_refl _⟩⟩⟩)
  refine BT (u:= .slice (some ⟨w.heap.size,0,none⟩) n.toNat m.toNat) (w':=w.alloc (.cells (madeCells z.cells (m.toNat*b.size)) (TI t).B7)) ?_ (by rw[J];exact W _ _ _ S');simp[execOp,Z,K,L,A]
 exact h.elim
theorem NW {w0:World} {X:WX} {β:Nat->Option Nat} {s:St} {a:Act} {w:World} (S:Aw w0 X β s a w) {t tx ty e e2:TypeId} {ei:TypeInfo} {z:Value} {u:T} (ht:P.underlying t=some (.slice e)) (an:P.underlying tx=some (.slice e2)) (hi:P.info? e=some ei)
  (hz:ei.zero=some z) (Z:ei.size=u.size) (ao:z.cells.size=u.size) (R:0<ei.bytes)
  {base:Option Addr} {len cap:Nat} (ab:len<=cap) (a6:cap<=maxLen) {id:Nat} {l l2:List (el u)} (r:l.length=len)
  (A:(cap=0)\/∃b arr e',β id=some b/\live (AD s.bk) id/\base=some ⟨b,0,none⟩/\w.heap[b]? =some (.cells arr e' (0,0))/\cap*u.size<=arr.size/\
   ∀(i:Nat) (y:el u),l[i]? =some y->∃us,rep w (cx X w β (AD s.bk)).I u y us/\w.rangeAt b (i*u.size) us)
  {c:AC} {x:Value} (hr:Af (cx X w β (AD s.bk)) c x) (al:DF (AD s.bk) c (.sl u l2)) (a7:fits (len+l2.length) ei.bytes)
  {dst:Option Nat} {vv:Nat} {rd:List Nat} (p:id<s.bk.length) (aw:vv=AM (AD s.bk) id+1):
  ∃v' w' aq,(Builtin.append_ #[t,tx] ty #[.slice base len cap,x]).run P w= .ok v' w'/\
   Aw w0 X aq (s.app dst ⟨.one (.AL u id vv 0 (l++l2).length),[(id,.arr vv u (l++l2))],rd⟩) (a.put dst v') w':=by
 obtain⟨news,hs,H⟩:=Sr S an hr al
 have holds:∃olds,Bz w (cx X w β (AD s.bk)).I u l olds/\(cap=0\/∃b off arr e',base=some ⟨b,off,none⟩/\w.heap[b]? =some (.cells arr e' (0,0))/\off+cap*u.size<=arr.size/\w.rangeAt b off olds):=by
  rcases A with rfl |⟨b,arr,e',h1,_,h2,h3,h4,h5⟩
  ·have:l=[]:=List.eq_nil_of_length_eq_zero (by omega);subst this;exact⟨[],rfl,.inl rfl⟩
  obtain⟨fl,q1,q2⟩:=NL (off:=0) (fun i y K=>by simpa using h5 i y K);exact⟨fl,q1,.inr ⟨b,0,arr,e',h2,h3,by omega,q2⟩⟩
 obtain⟨olds,ad,aj⟩:=holds;have a5:(len+l2.length)*ei.bytes<=140737488355328:=a7;have au:len+l2.length<=140737488355328:=Nat.le_trans (Nat.le_mul_of_pos_right _ R) a5;have hlen:(l++l2).length=len+l2.length:=by simp[r]
 have J:(AH.arr vv u (l++l2)).short:=by show (l++l2).length<=_;omega
 have af:∀b o,w.heap[b]? =some o->b<w.heap.size:=fun b o h=>by
  rcases Nat.lt_or_ge b w.heap.size with h' | h'
  ·exact h'
  simp[Array.getElem?_eq_none h'] at h
 rcases O4 (P:=P) (ty:=ty) ht hi hz Z ao ab (by rw[ad.length,r]) aj hs a5 R with⟨hm,g⟩ |⟨b',ae,F,f,g⟩ |⟨c',arr,w',h1,h2,h3,h4,h5,h6,h7,h8,g⟩
 ·have M:l2=[]:=List.eq_nil_of_length_eq_zero hm;subst M;rcases A with rfl |⟨b,arr,e',q,d,rfl,C,a1,G⟩
  ·have Y:l=[]:=List.eq_nil_of_length_eq_zero (by omega);subst Y
   refine⟨_,w,fun k=>if k=id then none else β k,g,S.write p J (fun k hk=>by simp[hk]) (by simp[AH.AM];omega) (fun e=>by simp[AH.AM] at e;omega) (fun _ _ _=>rfl) (Nat.le_refl _)
    (fun b arr e C=>⟨arr,C,rfl⟩) rfl rfl rfl (fun _ b A=>by simp at A) (fun _=>Or.inl ⟨by show (if id=id then _ else _)=_;simp,rfl⟩) (fun _=>Or.inr ⟨⟨rfl,?_⟩,fun _=>?_⟩)⟩
   ·show vv<=AM _ id;rw[Dm _ _ _ p,if_pos rfl];simp[AH.AM]
   exact⟨base,0,by simp at r;simp[r.symm],by simp,by simp,by simp,.inl rfl⟩
  refine⟨_,w,β,g,S.write p J (fun _ _=>rfl) (by simp[AH.AM];omega) (fun _=>⟨rfl,fun _=>d⟩) (fun _ _ _=>rfl) (Nat.le_refl _) (fun b arr e C=>⟨arr,C,rfl⟩) rfl rfl rfl (fun _ b A=> .inl ⟨A,d⟩)
   (fun hle=>Or.inr ⟨b,arr,e',q,C,fun i y K=>?_⟩) (fun _=>Or.inr ⟨⟨rfl,?_⟩,fun _=>?_⟩)⟩
  ·rw[List.append_nil] at K;obtain⟨us,q1,q2⟩:=G i y K;exact⟨us,Bi hle.I _ _ _ q1,q2⟩
  ·show vv<=AM _ id;rw[Dm _ _ _ p,if_pos rfl];simp[AH.AM]
  exact⟨some ⟨b,0,none⟩,cap,by simp[r],by simp[r,ab],a6,by simp,.inr ⟨b,arr,e',q,by simp,C,by simpa using a1⟩⟩
 ·rcases A with rfl |⟨b,arr,e',q,d,L,C,a1,G⟩
  ·have M:l2.length=0:=by omega
   have ag:news=[]:=by have:=hs.newsLen;rw[M,Nat.zero_mul] at this;exact List.eq_nil_of_length_eq_zero this
   have aa:l2=[]:=List.eq_nil_of_length_eq_zero M;have Y:l=[]:=List.eq_nil_of_length_eq_zero (by omega);subst aa Y ag
   refine⟨_,_,fun k=>if k=id then none else β k,g,S.write p J (fun k hk=>by simp[hk]) (by simp[AH.AM];omega) (fun e=>by simp[AH.AM] at e;omega) (fun _ _ _=>rfl) (Nat.le_refl _)
    (fun b arr e C=>⟨arr,C,rfl⟩) rfl rfl rfl (fun _ b A=>by simp at A) (fun _=>Or.inl ⟨by show (if id=id then _ else _)=_;simp,rfl⟩) (fun _=>Or.inr ⟨⟨rfl,?_⟩,fun _=>?_⟩)⟩
   ·show vv<=AM _ id;rw[Dm _ _ _ p,if_pos rfl];simp[AH.AM]
   simp at r;subst r;exact⟨base,0,by simp,by simp,by simp,by simp,.inl rfl⟩
  obtain⟨rfl,rfl⟩:b'=b/\ae=0:=by rw[L] at f;simp at f;exact⟨f.1.symm,f.2.symm⟩
  obtain⟨c1,c2,c3,c4⟩:=NQ b' news (0+len*u.size) w;obtain⟨B,q1,q2,q3⟩:=Hs b' news (0+len*u.size) w arr e' C;have ai:=hs.newsLen;have V:(len+l2.length)*u.size<=arr.size:=Nat.le_trans (Nat.mul_le_mul_right _ F) a1
  refine⟨_,_,β,g,S.write p J (fun _ _=>rfl) (by simp[AH.AM];omega) (fun _=>⟨rfl,fun _=>d⟩) (fun k hk ah=>I5 b' _ _ _ k (fun e=>ah d (e ▸ q))) (by omega) (fun k N e2 a8=>?_) c1 c2 c3 (fun _ b A=> .inl ⟨A,d⟩)
   (fun hle=>Or.inr ⟨b',B,e',q,q1,fun i y K=>?_⟩) (fun _=>Or.inr ⟨⟨rfl,?_⟩,fun _=>?_⟩)⟩
  ·by_cases e1:k=b'
   ·subst e1;obtain⟨a2,U,p2,p3⟩:=Hs k news (0+len*u.size) w N e2 a8;exact⟨a2,U,p3⟩
   exact⟨N,(I5 b' _ _ _ k e1).trans a8,rfl⟩
  ·rcases Nat.lt_or_ge i l.length with D | D
   ·rw[List.getElem?_append_left D] at K;obtain⟨us,U,p2⟩:=G i y K;refine⟨us,Bi hle.I _ _ _ U,fun j v hj=>?_⟩;have av:=GV _ _ _ U
    have W:j<us.length:=by
     rcases Nat.lt_or_ge j us.length with D | D
     ·exact D
     simp[List.getElem?_eq_none D] at hj
    have ar:i*u.size+j<len*u.size:=by
     have:(i+1)*u.size<=len*u.size:=Nat.mul_le_mul_right _ (by omega);rw[Nat.add_mul] at this;omega
    show (w.setCells b' (0+len*u.size) news).cell? _=_
    rw[World.cell?_setCells_out b' _ _ w _ (fun _ _=> .inl (by show i*u.size+j<_;omega))];exact p2 j v hj
   rw[List.getElem?_append_right D] at K
   have ak:(w.setCells b' (0+len*u.size) news).rangeAt b' (0+len*u.size) news:=by
    intro j v hj
    have W:j<news.length:=by
     rcases Nat.lt_or_ge j news.length with D | D
     ·exact D
     simp[List.getElem?_eq_none D] at hj
    rw[World.cell?_setCells_in b' news _ w (fun m hm=>(Nd C (n:=news.length) (by rw[ai];rw[Nat.add_mul] at V;omega) m hm).1) j W];simp[List.getElem?_eq_getElem W] at hj;simpa using hj
   obtain⟨us,U,p2⟩:=I2 (Bz.mono hle.I H) ak _ y K;refine⟨us,U,?_⟩;rwa [show 0+len*u.size+(i-l.length)*u.size=i*u.size by rw[r] at D ⊢;rw[Nat.zero_add,<-Nat.add_mul];congr 1;omega] at p2
  ·show vv<=AM _ id;rw[Dm _ _ _ p,if_pos rfl];simp[AH.AM]
  exact⟨some ⟨b',0,none⟩,cap,by rw[hlen,f],by rw[hlen];exact F,a6,by simp,.inr ⟨b',B,e',q,by simp,q1,by simp;omega⟩⟩
 have O:∀b,b<w.heap.size->w'.heap[b]? =w.heap[b]? :=fun b A=>by rw[h3,Array.getElem?_push,if_neg (by omega)]
 have Q:w'.heap[w.heap.size]? =some (.cells arr e (0,0)):=by rw[h3];simp
 refine⟨_,w',fun k=>if k=id then some w.heap.size else β k,g,S.write p J (fun k hk=>by simp[hk]) (by simp[AH.AM];omega) (fun e=>by simp[AH.AM] at e;omega) (fun b A _=>O b A) (by rw[h3];simp)
  (fun b B e' C=>⟨B,(O b (af b _ C)).trans C,rfl⟩) h4 h5 h6 (fun _ b A=> .inr (by simp at A;omega)) (fun hle=>Or.inr ⟨w.heap.size,arr,e,by show (if id=id then _ else _)=_;simp,Q,fun i y K=>?_⟩) (fun _=>Or.inr ⟨⟨rfl,?_⟩,fun _=>?_⟩)⟩
 ·obtain⟨us,U,p2⟩:=I2 ((Bz.mono hle.I ad).append (Bz.mono hle.I H)) h8 i y K;exact⟨us,U,by simpa using p2⟩
 ·show vv<=AM _ id;rw[Dm _ _ _ p,if_pos rfl];simp[AH.AM]
 exact⟨some ⟨w.heap.size,0,none⟩,c',by rw[hlen],by rw[hlen];exact h1,h2,by simp,.inr ⟨w.heap.size,arr,e,by show (if id=id then _ else _)=_;simp,by simp,Q,by rw[h7];simp⟩⟩
end
end Go.Abs
namespace Go.Abs
open Go.RowKit
section
variable {P:Program} {E:Env} {TI:TypeId->Info}
theorem Lq {x:Cx} {s:St} {a:Act} (h:∀o,At x (ev s.sl o) (a.eval o)):∀(l:List Operand),AO (At x) (l.map (ev s.sl)) (l.map a.eval)
 | []=>trivial
 | o::l=>⟨h o,Lq h l⟩
theorem F3 {a:Act} {w:World} {o:Oper} {c:Call} {b:Builtin} {u:Value} {w':World} (f:o.op= .call c) (d:c.callee= .builtin b) (h:(builtin b c.argTypes o.type (c.args.map fun | .const _=>true | _=>false) (c.args.map a.eval)).run P w= .ok (.value u) w'):
  (execOp a.eval o).run P w= .ok (.value u) w':=by
 simp only[execOp,f,resolve,d,Sem.run_bind,Sem.run_pure,Result.andThen_ok,invoke];exact h
theorem KO {x:Cx} {t:T} {id AM off len:Nat} {v:Value} (h:Af x (.AL t id AM off len) v) (g:AM=x.cv id):∃base cap,v= .slice base len cap/\len<=cap/\cap<=maxLen/\
  (cap=0\/∃b arr e,x.β id=some b/\base=some ⟨b,off*t.size,none⟩/\x.w.heap[b]? =some (.cells arr e (0,0))/\(off+cap)*t.size<=arr.size):=by
 obtain⟨base,cap,a,c,d,_,f⟩:=h.2 g;exact⟨base,cap,a,c,d,f⟩
theorem Pp {x:Cx} {t:T} {id AM off len:Nat} {v:Value} (h:Af x (.CD t id AM off len) v) (i:AM=x.cv id):∃base cap,v= .slice base len cap/\len<=cap/\cap<=maxLen/\cap=len/\
  (cap=0\/∃b arr e,x.β id=some b/\base=some ⟨b,off*t.size,none⟩/\x.w.heap[b]? =some (.cells arr e (0,0))/\(off+cap)*t.size<=arr.size):=by
 obtain⟨base,cap,a,c,d,g,f⟩:=h.2 i;exact⟨base,cap,a,c,d,g rfl,f⟩
theorem Ss (hT:∀t,Ce P t (TI t)) {o:Oper} {c:Call} {b:Builtin} (ho:o.op= .call c) (hc:c.callee= .builtin b) (hd:o.dst≠none)
  {w0:World} {X:WX} {β:Nat->Option Nat} {s:St} {a:Act} {w:World} (S:Aw w0 X β s a w) {f:A5} (h:DH TI b c.argTypes.toList (c.args.toList.map (ev s.sl)) (Ax o) (AD s.bk) (fun g=>g=f))
  {N:Act->World->Prop} {Q:Exit->Act->World->Prop} (Z:∀M a' w',Aw w0 X M (s.app o.dst f) a' w'->N a' w'):o.wp P a w N Q:=by
 have d:=Lq (Bm S.BS) c.args.toList
 generalize hA:c.args.toList.map (ev s.sl)=A at h d
 generalize hU:c.args.toList.map a.eval=U at d
 have F:c.args.map a.eval=U.toArray:=by rw[<-hU];exact Array.ext' (by simp)
 have L:∀a5,c.argTypes.toList=a5->c.argTypes=a5.toArray:=fun a5 e=>by subst e;exact Array.ext' rfl
 obtain⟨q,hq⟩:=Option.ne_none_iff_exists'.1 hd;have ag:Ax o=q:=by simp[Ax,hq]
 have p:∀{t0:TypeId} {base:Option Addr} {n cap:Nat},c.argTypes.toList=[t0]->(TI t0).sl=true->U=[.slice base n cap]->b= .len->(execOp a.eval o).run P w= .ok (.value (.int .i64 n)) w:=by
  intro t0 base n cap D h2 h3 h4;subst h4;refine F3 ho hc ?_;rw[L _ D,F,h3];simp[builtin,Builtin.len_,run_underlying ((hT t0).sl h2).1,goInt]
 generalize r:c.argTypes.toList=a5 at h
 unfold DH at h
 split at h
 ·rename_i t0 t l
  match U,d with
  | [v],⟨G,_⟩=>
   obtain⟨D,h⟩:=h;obtain⟨base,cap,hv,h2,h3,h4⟩:=A0 G (by simp);have hv:v= .slice base l.length cap:=by simpa using hv
   obtain rfl:=h _ ⟨rfl,h3⟩;exact BT (p r D (by rw[hv]) rfl) (Z _ _ _ (S.val (Or.inr rfl)))
 ·rename_i t0 t id v off len
  match U,d with
  | [u],⟨G,_⟩=>
   obtain⟨D,h⟩:=h
   split at h
   ·rename_i hv
    obtain⟨base,cap,H,_⟩:=Pp (A0 G (by simp)) hv.symm;obtain rfl:=h _ ⟨rfl⟩;exact BT (p r D (by rw[H]) rfl) (Z _ _ _ (S.val (Or.inr rfl)))
   exact h.elim
 ·rename_i t0 t id v off len
  match U,d with
  | [u],⟨G,_⟩=>
   obtain⟨D,h⟩:=h
   split at h
   ·rename_i hv
    obtain⟨base,cap,H,_⟩:=KO (A0 G (by simp)) hv.symm;obtain rfl:=h _ ⟨rfl⟩;exact BT (p r D (by rw[H]) rfl) (Z _ _ _ (S.val (Or.inr rfl)))
   exact h.elim
 ·rename_i t0
  match U,d with
  | [u],⟨G,_⟩=>
   obtain⟨D,h⟩:=h;have H:u= .slice none 0 0:=A0 G (by simp);subst h;exact BT (p r D (by rw[H]) rfl) (Z _ _ _ (S.val (Or.inr rfl)))
 ·rename_i t0
  match U,d with
  | [u],⟨G,_⟩=>
   obtain⟨D,h⟩:=h;have H:u= .slice none 0 0:=A0 G (by simp);subst h H;refine BT (u:= .int .i64 0) (w':=w) (F3 ho hc ?_) (Z _ _ _ (S.val (Or.inr rfl)));rw[L _ r,F];simp[builtin,Builtin.cap_,run_underlying ((hT t0).sl D).1,goInt]
 ·rename_i k m k' n
  match U,d with
  | [u,u'],⟨G,J,_⟩=>
   have H:u= .int k m:=A0 G (by simp);have al:u'= .int k' n:=A0 J (by simp);obtain rfl:=h _ rfl;subst H al;refine BT (u:= .int k (if n<m then n else m)) (w':=w) (F3 ho hc ?_) (Z _ _ _ (S.val (Or.inr rfl)));rw[F];simp[builtin,Builtin.min_,Builtin.min2]
 ·rename_i t0 t1 x
  match U,d with
  | [u,u'],⟨G,J,_⟩=>
   obtain⟨⟨h0,D⟩,l2,a1,h⟩:=h;obtain⟨C,B⟩:=a1 ();have H:u= .slice none 0 0:=A0 G (by simp);obtain rfl:=h _ rfl;obtain⟨hu,ei,z,g1,g2,g3,g4,g5,g6⟩:=(hT t0).sl h0;obtain⟨V,_⟩:=(hT t1).sl D;have hx:Af (cx X w β (AD s.bk)) x u':=A0 J (by intro e;subst e;exact C.elim);have W:z.cells.size=(TI t0).elem.size:=by have:=(g6 (cx X w β (AD s.bk))).length;rw[Ef] at this;simpa using this.symm
   by_cases R:q<s.bk.length
   ·obtain⟨v',w',M,j,S'⟩:=NW S (ty:=o.type) hu V g1 g5 g2 W g4 (base:=none) (len:=0) (cap:=0) (Nat.le_refl _) (by simp) (id:=q) (l:=[]) (l2:=l2) rfl (.inl rfl) hx C (by rw[Nat.zero_add,g3];exact B) (dst:=o.dst) (vv:=AM (AD s.bk) q+1) (rd:=q::BV x) R rfl;refine BT (u:=v') (w':=w') (F3 ho hc ?_) (Z M _ _ ?_)
    ·rw[L _ r,F,H];simp[builtin,j]
    rw[ag];simpa using S'
   have Y:s.bk.length<=q:=Nat.le_of_not_lt R;have h2:s.sl.length<=q:=by rw[S.len,<-S.Fa];exact Y
   obtain⟨news,ai,ak⟩:=Sr S V hx C
   have ah:s.app o.dst ⟨.one (.AL (TI t0).elem (Ax o) (AM (AD s.bk) (Ax o)+1) 0 l2.length),[(Ax o,.arr (AM (AD s.bk) (Ax o)+1) (TI t0).elem l2)],Ax o::BV x⟩=s.app none ⟨.one .A4,[],Ax o::BV x⟩:=by
    rw[ag,hq];simp[St.app,Di,Bq,Fo _ _ _ h2,Fo _ _ _ Y]
   have ha:∀v,a.put o.dst v=a.put none undef:=by
    intro v;have:a.tmps.size<=q:=by rw[<-S.Fa];exact Y
    rw[hq];simp[Act.put,Array.setIfInBounds_eq_of_size_le this]
   rcases O4 (P:=P) (ty:=o.type) (w:=w) (base:=none) (len:=0) (cap:=0) (olds:=[]) hu g1 g5 g2 W (Nat.le_refl _) (by simp) (.inl rfl) ai (by rw[Nat.zero_add,g3];exact B) g4 with⟨_,j⟩ |⟨b',an,aj,a8,j⟩ |⟨c',arr,w',D,h2,h3,h4,h5,h6,h7,h8,j⟩
   ·have K:(builtin .append c.argTypes o.type (c.args.map fun | .const _=>true | _=>false) (c.args.map a.eval)).run P w= .ok (.value (.slice none 0 0)) w:=by
     rw[L _ r,F,H];simp[builtin,j]
    exact BT (F3 ho hc K) (by rw[ha];exact Z β _ w (by rw[ah];exact S.val (GU _ _)))
   ·cases a8
   have K:(builtin .append c.argTypes o.type (c.args.map fun | .const _=>true | _=>false) (c.args.map a.eval)).run P w= .ok (.value (.slice (some ⟨w.heap.size,0,none⟩) (0+l2.length) c')) w':=by
    rw[L _ r,F,H];simp[builtin,j]
   exact BT (F3 ho hc K) (by rw[ha];exact Z β _ w' (by rw[ah];exact S.ext (fun b O=>by rw[h3,Array.getElem?_push,if_neg (by omega)]) (by rw[h3];simp) h4 h5 h6 (GU _ _)))
 ·rename_i t0 t1 t id v off len x
  match U,d with
  | [u,u'],⟨G,J,_⟩=>
   obtain⟨⟨h0,D⟩,h⟩:=h
   split at h
   ·rename_i v' t' l O
    split at h
    ·rename_i aa
     obtain⟨ad,a6,a7⟩:=aa;obtain rfl:=T.beq_eq a6;have a2:=T.beq_eq a7;obtain⟨l2,a1,h⟩:=h;obtain⟨ab,hlen,C,B⟩:=a1 ();obtain rfl:=h _ _ ⟨rfl,rfl⟩;subst ab ad;obtain⟨hu,ei,z,g1,g2,g3,g4,g5,g6⟩:=(hT t0).sl h0;obtain⟨V,_⟩:=(hT t1).sl D;rw[<-a2] at g2;have hx:Af (cx X w β (AD s.bk)) x u':=A0 J (by intro e;subst e;exact C.elim);have W:z.cells.size=t'.size:=by have:=(g6 (cx X w β (AD s.bk))).length;rw[Ef,<-a2] at this;simpa using this.symm
     obtain⟨base,cap,H,k1,k2,k4,k3⟩:=Pp (A0 G (by simp)) (DZ O).symm
     have R:id<s.bk.length:=by
      rcases Nat.lt_or_ge id s.bk.length with Y | Y
      ·exact Y
      rw[GL _ _ Y] at O;cases O
     obtain⟨ae,w',M,j,S'⟩:=NW S (ty:=o.type) hu V g1 g5 g2 W g4 k1 k2 (id:=id) (l:=l.take len) (l2:=l2) (by simp;omega) (by
      rcases k3 with rfl |⟨b,arr,e,q1,q2,q3,q4⟩
      ·exact .inl rfl
      rcases S.blocks id _ O with⟨p1,p2⟩ |⟨b',af,e',p1,p2,p3⟩
      ·exact absurd (p1.symm.trans q1) (by simp)
      obtain rfl:b'=b:=Option.some.inj (p1.symm.trans q1);refine .inr ⟨b',arr,e,q1,⟨_,O,rfl⟩,by simpa using q2,q3,by simpa using q4,fun i y hy=>p3 i y ?_⟩;rw[List.getElem?_take] at hy
      split at hy
      ·exact hy
      cases hy) hx C (by rw[g3];exact B) (dst:=o.dst) (vv:=v'+1) (rd:=id::BV x) R (by rw[DZ O];rfl)
     refine BT (u:=ae) (w':=w') (F3 ho hc ?_) (Z M _ _ S');rw[L _ r,F,H];simp[builtin,j]
    exact h.elim
   exact h.elim
 ·rename_i t0 t1 t id v off len x
  match U,d with
  | [u,u'],⟨G,J,_⟩=>
   obtain⟨⟨h0,D⟩,h⟩:=h
   split at h
   ·rename_i v' t' l O
    split at h
    ·rename_i aa
     obtain⟨ad,a6,a7⟩:=aa;obtain rfl:=T.beq_eq a6;have a2:=T.beq_eq a7;obtain⟨l2,a1,h⟩:=h;obtain⟨ab,hlen,C,B⟩:=a1 ();obtain rfl:=h _ _ ⟨rfl,rfl⟩;subst ab ad hlen;obtain⟨hu,ei,z,g1,g2,g3,g4,g5,g6⟩:=(hT t0).sl h0;obtain⟨V,_⟩:=(hT t1).sl D;rw[<-a2] at g2;have hx:Af (cx X w β (AD s.bk)) x u':=A0 J (by intro e;subst e;exact C.elim);have W:z.cells.size=t'.size:=by have:=(g6 (cx X w β (AD s.bk))).length;rw[Ef,<-a2] at this;simpa using this.symm
     obtain⟨base,cap,H,k1,k2,k3⟩:=KO (A0 G (by simp)) (DZ O).symm
     have R:id<s.bk.length:=by
      rcases Nat.lt_or_ge id s.bk.length with Y | Y
      ·exact Y
      rw[GL _ _ Y] at O;cases O
     obtain⟨ae,w',M,j,S'⟩:=NW S (ty:=o.type) hu V g1 g5 g2 W g4 k1 k2 (id:=id) (l:=l) (l2:=l2) rfl (by
      rcases k3 with rfl |⟨b,arr,e,q1,q2,q3,q4⟩
      ·exact .inl rfl
      rcases S.blocks id _ O with⟨p1,p2⟩ |⟨b',af,e',p1,p2,p3⟩
      ·exact absurd (p1.symm.trans q1) (by simp)
      obtain rfl:b'=b:=Option.some.inj (p1.symm.trans q1);exact .inr ⟨b',arr,e,q1,⟨_,O,rfl⟩,by simpa using q2,q3,by simpa using q4,p3⟩) hx C (by rw[g3];exact B) (dst:=o.dst) (vv:=v'+1) (rd:=id::BV x) R (by rw[DZ O];rfl)
     refine BT (u:=ae) (w':=w') (F3 ho hc ?_) (Z M _ _ S');rw[L _ r,F,H];simp[builtin,j]
    exact h.elim
   exact h.elim
 exact h.elim
end
end Go.Abs
