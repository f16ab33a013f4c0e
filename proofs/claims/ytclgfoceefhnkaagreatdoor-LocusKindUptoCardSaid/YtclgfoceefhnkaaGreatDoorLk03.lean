/- Part 4 of a proof. Conditions: each theorem's own. -/
import Derived.Deep.AppendSrc
import Derived.Deep.Upon
import Derived.Test.YtclgfoceefhnkaaGreatDoorLk02
set_option linter.all false
set_option maxHeartbeats 80000000
set_option maxRecDepth 20000
namespace Go.Abs
open Go.RowKit
theorem Ke {α:Type} (l:List α) (o:Nat):CR l o []=l:=by
 induction l generalizing o with
 | nil=>cases o <;> rfl
 | cons c l a=>cases o with
  | zero=>rfl
  | succ o=>simp[CR,a]
theorem PL {α:Type}:∀(l:List α) (o:Nat) (v:α) (r:List α),CR (l.set o v) (o+1) r=CR l o (v::r)
 |[],0,_,_|[],_+1,_,_=>rfl
 | c::l,0,v,r=>by simp[CR]
 | c::l,o+1,v,r=>by simp[CR,PL l o v r]
theorem AT.CR {α γ:Type} {R:α->γ->Prop}:∀{l:List α} {m:List γ} (o:Nat) {xs:List α} {ys:List γ},AT R l m->AT R xs ys->AT R (CR l o xs) (CR m o ys)
 |[],[],0,[],[],_,_|[],[],0,_::_,_::_,_,_|[],[],_+1,_,_,_,_=>trivial
 | _::_,_::_,0,[],[],h,_=>h
 | _::_,_::_,0,_::_,_::_,h,h'=>⟨h'.1,AT.CR 0 h.2 h'.2⟩
 | _::_,_::_,o+1,_,_,h,h'=>⟨h.1,AT.CR o h.2 h'⟩
 |[],_::_,_,_,_,h,_|_::_,[],_,_,_,h,_=>h.elim
 |_,_,0,[],_::_,_,h'|_,_,0,_::_,[],_,h'=>h'.elim
theorem OQ {α:Type}:∀(l:List α) (o:Nat) (xs:List α) (m:Nat),o+xs.length<=l.length->(CR l o xs)[m]? =if o<=m/\m<o+xs.length then xs[m-o]? else l[m]?
 | [],o,xs,m,h=>by
  have d:xs=[]:=List.eq_nil_of_length_eq_zero (by simp only[List.length_nil] at h;omega);subst d;rw[Ke,if_neg (by simp only[List.length_nil];omega)]
 | c::l,0,[],m,_=>by rw[Ke,if_neg (by simp)]
 | c::l,0,x::xs,m,h=>by
  have a:=OQ l 0 xs (m-1) (by simp only[List.length_cons] at h;omega);cases m with
  | zero=>simp[CR]
  | succ m=>simpa [CR] using a
 | c::l,o+1,xs,m,h=>by
  have a:=OQ l o xs (m-1) (by simp only[List.length_cons] at h;omega);cases m with
  | zero=>cases xs <;> simp[CR]
  | succ m=>
   have e:CR (c::l) (o+1) xs=c::CR l o xs:=by cases xs <;> rfl
   rw[e,List.getElem?_cons_succ];simp only[Nat.add_sub_cancel] at a;rw[a]
   by_cases b:o<=m/\m<o+xs.length
   ·rw[if_pos b,if_pos (by omega)];congr 1;omega
   rw[if_neg b,if_neg (by omega),List.getElem?_cons_succ]
theorem IL (b:Nat):∀(vs:List Value) (o:Nat) (w:World) (arr:Array Value) (e:TypeId),w.heap[b]? =some (.cells arr e (0,0))->
  ∃a,(w.setCells b o vs).heap[b]? =some (.cells a e (0,0))/\a.toList=CR arr.toList o vs/\a.size=arr.size
 | [],o,w,arr,e,h=>⟨arr,h,(Ke _ _).symm,rfl⟩
 | v::r,o,w,arr,e,h=>by
  have c:(w.setCell ⟨b,o,none⟩ v).heap[b]? =some (.cells (arr.setIfInBounds o v) e (0,0)):=by
   simp[World.setCell,Array.getElem?_modify,h]
  obtain⟨a,d,f,g⟩:=IL b r (o+1) _ _ e c;exact⟨a,d,by rw[f,Array.toList_setIfInBounds,PL],by simpa using g⟩
theorem Kt (b:Nat):∀(vs:List Value) (o:Nat) (w:World) (k:Nat),k≠b->(w.setCells b o vs).heap[k]? =w.heap[k]?
 | [],_,_,_,_=>rfl
 | v::r,o,w,k,h=>by
  rw[World.setCells,Kt b r (o+1) _ k h];simp[World.setCell,Array.getElem?_modify,Ne.symm h]
theorem Pk (b:Nat):∀(vs:List Value) (o:Nat) (w:World),(w.setCells b o vs).os=w.os/\(w.setCells b o vs).tape=w.tape/\(w.setCells b o vs).output=w.output/\(w.setCells b o vs).heap.size=w.heap.size
 | [],_,_=>⟨rfl,rfl,rfl,rfl⟩
 | v::r,o,w=>by
  obtain⟨a,c,d,f⟩:=Pk b r (o+1) (w.setCell ⟨b,o,none⟩ v);exact⟨a,c,d,f.trans (by simp[World.setCell])⟩
theorem M6 {w:World} {b off n:Nat} {arr:Array Value} {e:TypeId} (h:w.heap[b]? =some (.cells arr e (0,0))) (c:off+n<=arr.size):w.there b off n:=by
 intro j a;have:off+j<arr.size:=by omega
 simp[World.cell?,World.frozen?,h,this]
section
variable {P:Program} {E:Env} {TI:TypeId->Info}
theorem KQ {x:Cx}:∀{c d:AC} {v:Value},BG c d->Ai x c v->Ai x d v
 |.int _ _,_,_,h,r|.bool _,_,_,h,r|.fn _,_,_,h,r|.sl _ _,_,_,h,r=>by rw[show _=_ from h];exact r
 | .nil,_,_,h,r=>by
  rcases h with rfl |⟨t,rfl⟩
  ·exact r
  rw[show _=_ from r];exact⟨none,0,rfl,Nat.le_refl _,by simp,.inl rfl⟩
 |.BN,_,_,h,_|.AQ _ _ _ _ _,_,_,h,_|.Co _ _ _ _ _,_,_,h,_|.Ae _ _ _,_,_,h,_|.Ca _ _ _ _ _,_,_,h,_=>h.elim
 |.BW _ _ _,_,_,h,r|.CJ _ _,_,_,h,r|.str _,_,_,h,r=>by rw[show _=_ from h];exact r
 |.CU _ _,_,_,h,_|.Ch _,_,_,h,_|.Cp _,_,_,h,_|.ub _,_,_,h,_|.own _ _ _,_,_,h,_=>h.elim
theorem Jz {x:Cx} {R:AC->AC->Prop} (hR:∀c d v,R c d->Ai x c v->Ai x d v):∀{l m:List AC} {vs:List Value},Aq R l m->AT (Ai x) l vs->AT (Ai x) m vs
 | [],[],[],_,_=>trivial
 | _::_,_::_,_::_,h,r=>⟨hR _ _ _ h.1 r.1,Jz hR h.2 r.2⟩
 |[],_::_,_,h,_|_::_,[],_,h,_=>h.elim
 |[],[],_::_,_,r|_::_,_::_,[],_,r=>r.elim
theorem Cv {bk:Nat->Option AG} {id:Nat} {b:AG} (h:bk id=some b):AK bk id=b.AK:=by unfold AK;rw[h]
theorem fx (hT:∀t,Cw P t (TI t)) {o:Oper} {t:TypeId} {p x:Operand} (ho:o.op= .store t p x):Sound P E TI o:=by
 intro w0 X β s a w S f h N Q hN;simp only[B5,ho] at h;obtain⟨hk,h⟩:=h;have hp:=Bx S p;have hx:=Bx S x;obtain⟨ti,z,d,h1,h2,h3,h4,h5,h6,h7⟩:=(hT t).info hk
 have go:∀(id b q:Nat) (arr:Array Value) (e:TypeId) (Au:AG) (ys:List AC),a.eval p= .pointer (some ⟨b,q,none⟩)->id<s.bk.length->live (AF s.bk) id->β id=some b->w.heap[b]? =some (.cells arr e (0,0))->
   AT (Ai (cx X w β (AF s.bk))) ys (a.eval x).cells.toList->ys.length=(TI t).size->q+(TI t).size<=arr.size->Au.AK=AK (AF s.bk) id->Au.short->
   (∀y:Cx,(cx X w β (AF s.bk)).le y->y.w=w.setCells b q (a.eval x).cells.toList->y.β id=some b->CM y id Au)->∀rd,f=⟨.one .BN,[(id,Au)],rd⟩->o.wp P a w N Q:=by
  intro id b q arr e Au ys K ak hl C hh A hlen hq ax au hB rd hf;subst hf;have a8:(a.eval x).cells.size=ti.size:=by have:=A.length;simp only[Array.length_toList] at this;omega
  have ag:=eS (P:=P) (t:=t) (b:=b) (o:=q) (v:=a.eval x) h1 a8 (M6 hh (by omega)) (A.one);obtain⟨c1,c2,c3,c4⟩:=Pk b (a.eval x).cells.toList q w;refine iD (w':=w.setCells b q (a.eval x).cells.toList) (by simp[execOp,ho,K,ag]) (hN β _ _ ?_);refine S.write ak au (fun _ _=>rfl) (by omega) (fun _=>⟨rfl,fun _=>hl⟩) (fun k _ hk=>Kt b _ _ _ k (fun e=>hk hl (e ▸ C))) (by omega) (fun k B e' ad=>?_) c1 c2 c3 (fun _ k aq=> .inl ⟨aq,hl⟩) (fun hle=>hB _ hle rfl C) (fun _=>Hi _ _)
  by_cases e1:k=b
  ·subst e1;obtain⟨ab,g1,g2,Z⟩:=IL k (a.eval x).cells.toList q w B e' ad;exact⟨ab,g1,Z⟩
  exact⟨B,(Kt b _ _ _ k e1).trans ad,rfl⟩
 have J:∀{id:Nat} {b:AG},AF s.bk id=some b->id<s.bk.length:=fun {id b} C=>by
  rcases Nat.lt_or_ge id s.bk.length with h | h
  ·exact h
  rw[F8 _ _ h] at C;cases C
 split at h
 ·rename_i id v off he
  rw[he] at hp;have hr:=BA hp (by simp)
  split at h
  ·exact h.elim
  ·exact h.elim
  ·rename_i v' cs al an ao
   have C:AF s.bk id=some (.var v' cs):=by assumption
   split at h
   ·rename_i hc
    obtain⟨W,hlen,av⟩:=hc;subst W
    have g:(ev s.sl x).full=true:=by
     cases V:ev s.sl x with
     | one c=>cases c <;> simp_all [AV.full]
     | agg cs=>rfl
     | AJ xs=>simp_all
    have U:∀xs,ev s.sl x≠ .AJ xs:=fun xs e=>by rw[e] at g;simp[AV.full] at g
    have A:=(JM hx U).cells g;obtain⟨b,arr,e,g1,g2,Z⟩:=S.blocks id _ C;have V:v'=AK (AF s.bk) id:=(Cv C).symm;obtain⟨b',H,K⟩:=hr.2 V;obtain rfl:b=b':=Option.some.inj (g1.symm.trans H);have aj:=Z.length;simp only[Array.length_toList] at aj;refine go id b off arr e _ _ K (J C) ⟨_,C,rfl⟩ g1 g2 A hlen (by omega) (by simpa [AG.AK] using V) (by trivial) (fun y hle hw O=>?_) _ h.symm;obtain⟨B,q1,q2,q3⟩:=IL b (a.eval x).cells.toList off w arr e g2;refine⟨b,B,e,O,by rw[hw];exact q1,?_⟩;rw[q2];exact ((Z.mono fun _ _=>Ai.mono hle).CR off (A.mono fun _ _=>Ai.mono hle))
   exact h.elim
  exact h.elim
 ·rename_i u id v i k he
  rw[he] at hp;have hr:=BA hp (by simp)
  split at h
  ·exact h.elim
  ·exact h.elim
  ·rename_i v' u' l al an ao
   have C:AF s.bk id=some (.arr v' u' l):=by assumption
   split at h
   ·rename_i hc
    obtain⟨W,af,a8,aa⟩:=hc;subst W af;obtain rfl:=T.beq_eq aa;obtain⟨z',hz,h⟩:=h;obtain⟨hi,M⟩:=hz ()
    have g:(ev s.sl x).full=true:=by
     cases V:ev s.sl x with
     | one c=>cases c <;> simp_all [AV.full]
     | agg cs=>rfl
     | AJ xs=>simp_all
    have U:∀xs,ev s.sl x≠ .AJ xs:=fun xs e=>by rw[e] at g;simp[AV.full] at g
    have A:=Jz (fun _ _ _=>KQ) M ((JM hx U).cells g);have V:v'=AK (AF s.bk) id:=(Cv C).symm;obtain⟨b',H,K⟩:=hr.2 V;have ar:=S.blocks id _ C;rcases ar with⟨g1,g2⟩ |⟨b,arr,e,g1,g2,Z⟩
    ·exact absurd (g1.symm.trans H) (by simp)
    obtain rfl:b=b':=Option.some.inj (g1.symm.trans H);have hn:=T.size_pos u
    have a6:i*u.size+u.size<=arr.size:=by
     obtain⟨us,D,G⟩:=Z i l[i] (by simp[hi]);have ah:=Gf _ _ _ D;have a7:u.size-1<us.length:=by omega
     have:=G (u.size-1) us[u.size-1] (by simp[a7]);simp only[World.cell?,g2] at this
     have r:i*u.size+(u.size-1)<arr.size:=by
      rcases Nat.lt_or_ge (i*u.size+(u.size-1)) arr.size with r | r
      ·exact r
      simp[Array.getElem?_eq_none r] at this
     omega
    refine go id b (i*u.size) arr e _ _ K (J C) ⟨_,C,rfl⟩ g1 g2 A (by rw[FU];exact a8.symm) (by omega) (by simpa [AG.AK] using V) (by have:=S.lens id _ C;simpa [AG.short] using this) (fun y hle hw O=>?_) _ (h _ rfl).symm;refine Or.inr ?_;obtain⟨B,q1,q2,q3⟩:=IL b (a.eval x).cells.toList (i*u.size) w arr e g2;refine⟨b,B,e,O,by rw[hw];exact q1,fun j Y hj=>?_⟩;have a1:(a.eval x).cells.toList.length=u.size:=by rw[<-A.length,FU]
    by_cases R:j=i
    ·subst R;have:Y=z':=by simp[List.getElem?_set,hi] at hj;exact hj.symm
     subst this;refine⟨(a.eval x).cells.toList,((EF _ u Y _).2 (A.mono fun _ _=>Ai.mono hle)),fun m v hm=>?_⟩;rw[hw]
     have F:m<(a.eval x).cells.toList.length:=by
      rcases Nat.lt_or_ge m (a.eval x).cells.toList.length with r | r
      ·exact r
      simp[List.getElem?_eq_none r] at hm
     rw[World.cell?_setCells_in b _ (j*u.size) w (fun m hm=>(M6 g2 (n:=u.size) (by omega) m (by omega)).1) m F];simp[List.getElem?_eq_getElem F] at hm;simpa using hm
    have a5:l[j]? =some Y:=by simpa [List.getElem?_set,Ne.symm R] using hj
    obtain⟨us,D,G⟩:=Z j Y a5;refine⟨us,By hle.I u Y us D,fun m v hm=>?_⟩;have ah:=Gf _ _ _ D
    have F:m<us.length:=by
     rcases Nat.lt_or_ge m us.length with r | r
     ·exact r
     simp[List.getElem?_eq_none r] at hm
    rw[hw,World.cell?_setCells_out b _ (i*u.size) w _ (fun _ _=>?_)]
    ·exact G m v hm
    show j*u.size+m<i*u.size\/i*u.size+_<=j*u.size+m
    rw[a1];rcases Nat.lt_or_ge j i with r | r
    ·left
     have:(j+1)*u.size<=i*u.size:=Nat.mul_le_mul_right _ r;rw[Nat.add_mul] at this;omega
    right
    have:(i+1)*u.size<=j*u.size:=Nat.mul_le_mul_right _ (by omega);rw[Nat.add_mul] at this;omega
   split at h
   ·rename_i hc
    obtain⟨W,af,aa⟩:=hc;subst W;obtain rfl:=T.beq_eq aa;obtain⟨x0,z',hz,h⟩:=h;obtain⟨ae,ai,M⟩:=hz ();have hi:i<l.length:=(List.getElem?_eq_some_iff.1 ae).1
    have g:(ev s.sl x).full=true:=by
     cases V:ev s.sl x with
     | one c=>cases c <;> simp_all [AV.full]
     | agg cs=>rfl
     | AJ xs=>simp_all
    have U:∀xs,ev s.sl x≠ .AJ xs:=fun xs e=>by rw[e] at g;simp[AV.full] at g
    have A:=(JM hx U).cells g;have a1:(a.eval x).cells.toList.length=(TI t).size:=by rw[<-A.length,ai]
    have V:v'=AK (AF s.bk) id:=(Cv C).symm;obtain⟨b',H,K⟩:=hr.2 V;rcases S.blocks id _ C with⟨g1,g2⟩ |⟨b,arr,e,g1,g2,Z⟩
    ·exact absurd (g1.symm.trans H) (by simp)
    obtain rfl:b=b':=Option.some.inj (g1.symm.trans H);have hn:=T.size_pos u;obtain⟨L,D,G⟩:=Z i x0 ae;have aw:=Gf _ _ _ D
    have a6:i*u.size+u.size<=arr.size:=by
     have a7:u.size-1<L.length:=by omega
     have:=G (u.size-1) L[u.size-1] (by simp[a7]);simp only[World.cell?,g2] at this
     have r:i*u.size+(u.size-1)<arr.size:=by
      rcases Nat.lt_or_ge (i*u.size+(u.size-1)) arr.size with r | r
      ·exact r
      simp[Array.getElem?_eq_none r] at this
     omega
    refine go id b (i*u.size+k) arr e _ _ K (J C) ⟨_,C,rfl⟩ g1 g2 A ai (by omega) (by simpa [AG.AK] using V) (by have:=S.lens id _ C;simpa [AG.short] using this) (fun y hle hw O=>?_) _ (h _ rfl).symm;refine Or.inr ?_;obtain⟨B,q1,q2,q3⟩:=IL b (a.eval x).cells.toList (i*u.size+k) w arr e g2;refine⟨b,B,e,O,by rw[hw];exact q1,fun j Y hj=>?_⟩
    by_cases R:j=i
    ·subst R;have:Y=z':=by simp[List.getElem?_set,hi] at hj;exact hj.symm
     subst this;have a2:=Jz (fun _ _ _=>KQ) M (((EF (cx X w β (AF s.bk)) u x0 L).1 D).CR k A);refine⟨CR L k (a.eval x).cells.toList,((EF _ u Y _).2 (a2.mono fun _ _=>Ai.mono hle)),fun m v hm=>?_⟩;rw[hw];rw[OQ _ _ _ _ (by omega)] at hm
     split at hm
     ·rename_i hc
      have F:m-k<(a.eval x).cells.toList.length:=by omega
      have h8:=World.cell?_setCells_in b (a.eval x).cells.toList (j*u.size+k) w (fun m hm=>(M6 g2 (n:=(TI t).size) (by omega) m (by omega)).1) (m-k) F;rw[show j*u.size+k+(m-k)=j*u.size+m by omega] at h8;rw[h8,<-hm,List.getElem?_eq_getElem F]
     rename_i hc
     have F:m<L.length:=by
      rcases Nat.lt_or_ge m L.length with r | r
      ·exact r
      simp[List.getElem?_eq_none r] at hm
     rw[World.cell?_setCells_out b _ (j*u.size+k) w _ (fun _ _=>?_)]
     ·exact G m v hm
     show j*u.size+m<j*u.size+k\/j*u.size+k+_<=j*u.size+m
     rw[a1];omega
    have a5:l[j]? =some Y:=by simpa [List.getElem?_set,Ne.symm R] using hj
    obtain⟨us,D,G⟩:=Z j Y a5;refine⟨us,By hle.I u Y us D,fun m v hm=>?_⟩;have ah:=Gf _ _ _ D
    have F:m<us.length:=by
     rcases Nat.lt_or_ge m us.length with r | r
     ·exact r
     simp[List.getElem?_eq_none r] at hm
    rw[hw,World.cell?_setCells_out b _ (i*u.size+k) w _ (fun _ _=>?_)]
    ·exact G m v hm
    show j*u.size+m<i*u.size+k\/i*u.size+k+_<=j*u.size+m
    rw[a1];rcases Nat.lt_or_ge j i with r | r
    ·left
     have:(j+1)*u.size<=i*u.size:=Nat.mul_le_mul_right _ r;rw[Nat.add_mul] at this;omega
    right
    have:(i+1)*u.size<=j*u.size:=Nat.mul_le_mul_right _ (by omega);rw[Nat.add_mul] at this;omega
   exact h.elim
  exact h.elim
 exact h.elim
end
section
variable {P:Program} {E:Env} {TI:TypeId->Info}
theorem My {w:World} {t:TypeId} {a:TypeInfo} (h:P.info? t=some a):(sizeOf t).run P w= .ok a.size w:=by simp[sizeOf,typeInfo,h]
theorem fk (hT:∀t,Cw P t (TI t)) {o:Oper} {t:TypeId} {x i:Operand} (W:o.op= .indexAddr t x i):Sound P E TI o:=by
 intro w0 X β s a w S f h N Q M;simp only[B5,W] at h;cases H:(TI t).pt
 case true=>
  simp only[H] at h
  split at h
  ·rename_i ps k n he c
   obtain⟨p,U,h⟩:=h;obtain⟨m,V⟩:=U ();subst h;obtain⟨hu,ei,z,g1,g2,g3,g4⟩:=(hT t).pt H;have A:=Bx S x;have r:=Bx S i;rw[he] at A;rw[c] at r;have g:a.eval i= .int k n:=BA r (by simp);obtain⟨b,off,cap,us,B,L,hI,a2,J⟩:=BA A (by simp);obtain⟨u,K,a1⟩:=a2.get n.toNat p V;have O:n.toNat<ps.length:=(List.getElem?_eq_some_iff.1 V).1;have F:n<(ps.length:Int):=by omega
   refine BX (u:= .pointer (some ⟨b,off+n.toNat,none⟩)) (w':=w) ?_ (M _ _ _ (S.val (Or.inr ⟨b,off+n.toNat,u,rfl,hI,a1,?_⟩)))
   ·simp[execOp,W,B,g,Instr.indexAt,asIntOf,run_underlying hu,My g1,g2,m,F,Addr.add_mid]
   intro j v hj;cases j with
   | zero=>simp only[List.getElem?_cons_zero,Option.some.injEq] at hj;subst hj;simpa using J n.toNat _ K
   | succ j=>simp at hj
  exact h.elim
 simp only[H] at h;cases hq:(TI t).arr with
 | some q=>
  simp only[hq] at h;have A:=Bx S x;have r:=Bx S i;obtain⟨e,ei,d,hu,g1,g2,_,_,_,h2⟩:=(hT t).arr q hq
  have go:∀(b off:Nat) (k:IntKind) (n:Int),a.eval x= .pointer (some ⟨b,off,none⟩)->a.eval i= .int k n->0<=n->n.toNat<q.1->
    (execOp a.eval o).run P w= .ok (.value (.pointer (some ⟨b,off+n.toNat*q.2.1,none⟩))) w:=by
   intro b off k n B C Y L;have F:n<(q.1:Int):=by omega
   simp[execOp,W,B,C,Instr.indexAt,Instr.sureAddr,asIntOf,run_underlying hu,My g1,g2,Y,F,Addr.add_mid]
  split at h
  ·rename_i id v off k n he c
   rw[he] at A;rw[c] at r;have g:a.eval i= .int k n:=BA r (by simp)
   split at h
   ·rename_i B
    have J:=BA A (by simp);obtain⟨b,hb,U⟩:=J.2 B.symm;obtain⟨C,h⟩:=h;obtain⟨m,D⟩:=C ();subst h;exact BX (go b off k n U g m D) (M _ _ _ (S.val (Or.inr ⟨⟨rfl,J.1.2⟩,fun _=>⟨b,hb,rfl⟩⟩)))
   exact h.elim
  ·rename_i u y off k n he c
   rw[he] at A;rw[c] at r;have g:a.eval i= .int k n:=BA r (by simp);obtain⟨b,p,us,U,k1,k2,k3⟩:=BA A (by simp);obtain⟨C,h⟩:=h;obtain⟨m,D⟩:=C ();subst h;exact BX (go b (p+off) k n U g m D) (M _ _ _ (S.val (Or.inr ⟨b,p,us,by rw[Nat.add_assoc],k1,k2,k3⟩)))
  exact h.elim
 | none=>
 simp only[hq] at h;obtain⟨hk,h⟩:=h;obtain⟨hu,ei,z,g1,g2,g3,g4,g5,g6⟩:=(hT t).sl hk;have A:=Bx S x;have r:=Bx S i
 have go:∀(b off len cap:Nat) (k:IntKind) (n:Int),a.eval x= .slice (some ⟨b,off,none⟩) len cap->a.eval i= .int k n->0<=n->n<len->
   (execOp a.eval o).run P w= .ok (.value (.pointer (some ⟨b,off+n.toNat*(TI t).elem.size,none⟩))) w:=by
  intro b off len cap k n B C Y L;simp[execOp,W,B,C,Instr.indexAt,asIntOf,run_underlying hu,My g1,g2,Y,L,Addr.add_mid]
 split at h
 ·rename_i u l k n he c
  rw[he] at A;rw[c] at r;have g:a.eval i= .int k n:=BA r (by simp);obtain⟨base,cap,B,L,h2,Z⟩:=BA A (by simp);obtain⟨G,y,hy,h⟩:=h;obtain rfl:=T.beq_eq G;obtain⟨m,R⟩:=hy ();subst h
  have O:n.toNat<l.length:=by
   rcases Nat.lt_or_ge n.toNat l.length with h9 | h9
   ·exact h9
   simp[List.getElem?_eq_none h9] at R
  rcases Z with rfl |⟨b,off,rfl,hI,hc⟩
  ·simp at O
  obtain⟨us,a5,K⟩:=hc n.toNat y R;refine BX (go b off l.length cap k n (by simpa using B) g m (by omega)) (M _ _ _ (S.val (Or.inr ⟨b,off+n.toNat*(TI t).elem.size,us,by rw[Nat.add_zero],hI,a5,K⟩)))
 ·rename_i u id v off len k n he c
  rw[he] at A;rw[c] at r;have g:a.eval i= .int k n:=BA r (by simp);obtain⟨G,h⟩:=h;obtain rfl:=T.beq_eq G
  split at h
  ·rename_i B
   have J:=BA A (by simp);obtain⟨base,cap,hs,L,h2,_,Z⟩:=J.2 B.symm;obtain⟨C,h⟩:=h;obtain⟨m,D⟩:=C ();obtain rfl:=h _ rfl;rcases Z with rfl |⟨b,arr,e,hb,rfl,hh,a6⟩
   ·omega
   refine BX (go b (off*(TI t).elem.size) len cap k n hs g m (by omega)) (M _ _ _ (S.val (Or.inr ⟨⟨rfl,J.1.2⟩,fun _=>⟨b,hb,?_⟩⟩)));rw[Nat.add_mul,Nat.add_zero]
  exact h.elim
 exact h.elim
theorem JR {w:World} {k:IntKind} {n:Int} {y:Nat} {c:BoundsCode} (a:0<=n) (b:n<=y):(Instr.sliceBound (.int k n) y c).run P w= .ok n.toNat w:=by
 simp[Instr.sliceBound,asIntOf,a,b]
theorem La {w:World} {a:Act} {x:Cx} {lo A B:Option Operand} {s:St} (y:∀o,BF x (ev s.sl o) (a.eval o)) {len cap:Nat} (z:len<=cap) {R:Nat->Nat->Bool->Prop}
  (h:Fv len (lo.map (ev s.sl)) (A.map (ev s.sl)) (B.map (ev s.sl)) R) (C:Bool:=true):
  ∃(l q m:Nat) (c:Bool),(Instr.sliceBounds C len cap (lo.map a.eval) (A.map a.eval) (B.map a.eval)).run P w= .ok (l,q,m) w/\l<=q/\q<=len/\q<=m/\m<=cap/\(c=true->m=q/\l=0)/\(c=false->m=cap)/\R l q c:=by
 have b:∀{o:Operand} {k:IntKind} {n:Int},ev s.sl o= .one (.int k n)->a.eval o= .int k n:=fun {o k n} e=>by
  have:=y o;rw[e] at this;exact BA this (by simp)
 unfold Fv at h
 split at h
 ·rename_i e1 d f
  simp only[Option.map_eq_none_iff] at e1 d f;subst e1 d f;exact⟨0,len,cap,false,by simp[Instr.sliceBounds],Nat.zero_le _,Nat.le_refl _,z,Nat.le_refl _,by simp,fun _=>rfl,h _ rfl⟩
 ·rename_i k n e1 d f
  simp only[Option.map_eq_none_iff,Option.map_eq_some_iff] at e1 d f;obtain⟨p,rfl,e1⟩:=e1;subst d f;obtain⟨i,h⟩:=h;obtain⟨g,j⟩:=i ();have j:n<=(len:Int):=by omega
  exact⟨n.toNat,len,cap,false,by simp[Instr.sliceBounds,b e1,JR g j],by omega,Nat.le_refl _,z,Nat.le_refl _,by simp,fun _=>rfl,h _ _ ⟨rfl,rfl⟩⟩
 ·rename_i k n e1 d f
  simp only[Option.map_eq_none_iff,Option.map_eq_some_iff] at e1 d f;obtain⟨p,rfl,d⟩:=d;subst e1 f;obtain⟨i,h⟩:=h;obtain⟨g,j⟩:=i ();have r:n<=(cap:Int):=by omega
  exact⟨0,n.toNat,cap,false,by simp[Instr.sliceBounds,b d,JR g r],by omega,by omega,by omega,Nat.le_refl _,by simp,fun _=>rfl,h _ rfl⟩
 ·rename_i k n k' n' e1 d f
  simp only[Option.map_eq_none_iff,Option.map_eq_some_iff] at e1 d f;obtain⟨p,rfl,e1⟩:=e1;obtain⟨D,rfl,d⟩:=d;subst f;obtain⟨i,h⟩:=h;obtain⟨g,j,r⟩:=i ();have u:n'<=(cap:Int):=by omega
  have v:n<=(n'.toNat:Int):=by omega
  exact⟨n.toNat,n'.toNat,cap,false,by simp[Instr.sliceBounds,b e1,b d,JR (show 0<=n' by omega) u,JR g v],by omega,by omega,by omega,Nat.le_refl _,by simp,fun _=>rfl,h _ _ ⟨rfl,rfl⟩⟩
 ·rename_i k n k' n' e1 d f
  simp only[Option.map_eq_none_iff,Option.map_eq_some_iff] at e1 d f;obtain⟨p,rfl,d⟩:=d;obtain⟨D,rfl,f⟩:=f;subst e1;obtain⟨i,h⟩:=h;obtain⟨g,j,r⟩:=i ();subst j;have u:n<=(cap:Int):=by omega
  have v:n<=(n.toNat:Int):=by omega
  exact⟨0,n.toNat,n.toNat,true,by simp[Instr.sliceBounds,b d,b f,JR g u,JR g v],by omega,by omega,by omega,by omega,fun _=>⟨rfl,rfl⟩,by simp,h _ rfl⟩
 exact h.elim
theorem Zh {w:World} {a:Act} {x:Cx} {lo f d:Option Operand} {s:St} (b:∀o,BF x (ev s.sl o) (a.eval o)) {len:Nat} {R:Nat->Nat->Prop}
  (h:Fv len (lo.map (ev s.sl)) (f.map (ev s.sl)) (d.map (ev s.sl)) fun p q c=>c=false/\R p q):
  d=none/\∃l q,(Instr.sliceBounds false len len (lo.map a.eval) (f.map a.eval) none).run P w= .ok (l,q,len) w/\R l q:=by
 cases d with
 | some m=>
  exfalso
  unfold Fv at h
  split at h
  all_goals first
   | exact h.elim
   | (rename_i e;cases e)
   | exact Bool.noConfusion (h.2 _ rfl).1
 | none=>
  obtain⟨l,q,m,c,i,_,_,_,_,_,g,rfl,hR⟩:=La (P:=P) (w:=w) b (Nat.le_refl len) h false;obtain rfl:=g rfl;exact⟨rfl,l,q,i,hR⟩
theorem fw (Z:∀t,Cw P t (TI t)) {o:Oper} {t:TypeId} {x:Operand} {lo hi mx:Option Operand} (L:o.op= .slice t x lo hi mx):Sound P E TI o:=by
 intro w0 X β s a w S f h N Q r;simp only[B5,L] at h
 split at h
 ·rename_i z he
  have g:=Bx S x;rw[he] at g;have n:a.eval x= .string z:=BA g (by simp);obtain⟨J,h⟩:=h;have hu:=(Z t).MF J;obtain⟨rfl,p,q,d,hR⟩:=Zh (P:=P) (w:=w) (Bx S) (h _ rfl);obtain rfl:=hR _ rfl;refine BX (u:= .string (z.extract p q)) (w':=w) ?_ (r _ _ _ (S.val (Or.inr rfl)));simp[execOp,L,n,Instr.sliceAt,run_underlying hu,Instr.slice,d]
 obtain⟨J,h⟩:=h;obtain⟨hu,ei,z,g1,g2,g3,g4,g5,g6⟩:=(Z t).sl J;have g:=Bx S x
 have go:∀(base:Option Addr) (len cap l q m:Nat),a.eval x= .slice base len cap->(Instr.sliceBounds true len cap (lo.map a.eval) (hi.map a.eval) (mx.map a.eval)).run P w= .ok (l,q,m) w->
   (execOp a.eval o).run P w= .ok (.value (.slice (if m=l then base else base.map (·.add (l*(TI t).elem.size))) (q-l) (m-l))) w:=by
  intro base len cap l q m n d;simp[execOp,L,n,Instr.sliceAt,run_underlying hu,Instr.slice,d,My g1,g2]
 unfold HR at h
 split at h
 ·rename_i u l he
  rw[he] at g;obtain⟨base,cap,n,D,h2,F⟩:=BA g (by simp);obtain⟨i,h⟩:=h;obtain rfl:=T.beq_eq i;obtain⟨p,q,m,c,d,b1,b2,b3,V,B,W,hR⟩:=La (P:=P) (w:=w) (Bx S) D (h _ rfl);obtain rfl:=hR _ rfl;refine BX (go base l.length cap p q m (by simpa using n) d) (r _ _ _ (S.val (Or.inr ?_)));have hlen:((l.take q).drop p).length=q-p:=by simp;omega
  refine⟨_,m-p,by rw[hlen],by rw[hlen];omega,by rw[hlen];omega,?_⟩
  by_cases M:q=p
  ·left;subst M;simp
  right
  rcases F with rfl |⟨b,off,rfl,hI,hc⟩
  ·simp at b2;omega
  refine⟨b,off+p*(TI t).elem.size,by rw[if_neg (by omega)];simp[Addr.add_mid],hI,fun j y A=>?_⟩
  have H:l[p+j]? =some y:=by
   rw[List.getElem?_drop,List.getElem?_take] at A
   split at A
   ·exact A
   cases A
  obtain⟨us,O,R⟩:=hc (p+j) y H;exact⟨us,O,by rw[show off+p*(TI t).elem.size+j*(TI t).elem.size=off+(p+j)*(TI t).elem.size by rw[Nat.add_mul];omega];exact R⟩
 ·rename_i u id v off len he
  rw[he] at g;obtain⟨i,h⟩:=h;obtain rfl:=T.beq_eq i
  split at h
  ·rename_i U
   have k:=BA g (by simp);obtain⟨base,cap,hs,D,h2,_,F⟩:=k.2 U.symm;obtain⟨p,q,m,c,d,b1,b2,b3,V,B,W,hR⟩:=La (P:=P) (w:=w) (Bx S) D h;have hR:=hR _ _ ⟨rfl,rfl⟩;refine BX (go base len cap p q m hs d) ?_
   have Y:∀C,(C=true->m-p=q-p)->Fm w (β id) (TI t).elem.size (off+p) (q-p) C (.slice (if m=p then base else base.map (·.add (p*(TI t).elem.size))) (q-p) (m-p)):=by
    intro C G;refine⟨_,m-p,rfl,by omega,by omega,G,?_⟩
    by_cases K:m=p
    ·left;omega
    right
    rcases F with rfl |⟨b,arr,e,hb,rfl,hh,a1⟩
    ·omega
    refine⟨b,arr,e,hb,by rw[if_neg K];simp[Addr.add_mid,Nat.add_mul],hh,?_⟩;have:(off+p+(m-p))*(TI t).elem.size<=(off+cap)*(TI t).elem.size:=Nat.mul_le_mul_right _ (by omega);omega
   cases c with
   | true=>
    obtain rfl:=hR;exact r _ _ _ (S.val (Or.inr ⟨⟨rfl,k.1.2⟩,fun _=>Y true (fun _=>by have:=B rfl;omega)⟩))
   | false=>
    obtain rfl:=hR;exact r _ _ _ (S.val (Or.inr ⟨⟨rfl,k.1.2⟩,fun _=>Y false (by simp)⟩))
  exact h.elim
 ·rename_i he
  rw[he] at g;have n:a.eval x= .slice none 0 0:=BA g (by simp);obtain⟨p,q,m,c,d,b1,b2,b3,V,B,W,hR⟩:=La (P:=P) (w:=w) (cap:=0) (Bx S) (Nat.le_refl _) h;obtain rfl:=hR;have:p=0:=by omega
  have:q=0:=by omega
  have:m=0:=by omega
  subst_vars;exact BX (go none 0 0 0 0 0 n d) (r _ _ _ (S.val (Or.inr (by simp[Ai]))))
 exact h.elim
end
def Cr (w:World) (I:Nat->Prop) (t:T):List (el t)->List Value->Prop
 | [],fl=>fl=[]
 | x::l,fl=>∃us r,fl=us++r/\rep w I t x us/\Cr w I t l r
section
variable {w:World} {I:Nat->Prop} {t:T}
theorem PQ {b o:Nat} {us vs:List Value}:w.rangeAt b o (us++vs)↔w.rangeAt b o us/\w.rangeAt b (o+us.length) vs:=by
 constructor
 ·intro h;refine⟨fun j v a=>h j v ?_,fun j v a=>?_⟩
  ·rw[List.getElem?_append_left]
   ·exact a
   rcases Nat.lt_or_ge j us.length with c | c
   ·exact c
   simp[List.getElem?_eq_none c] at a
  rw[Nat.add_assoc];exact h (us.length+j) v (by rw[List.getElem?_append_right (by omega)];simpa using a)
 rintro⟨d,f⟩ j v a
 rcases Nat.lt_or_ge j us.length with c | c
 ·rw[List.getElem?_append_left c] at a;exact d j v a
 rw[List.getElem?_append_right c] at a;have:=f _ v a;rwa [show o+us.length+(j-us.length)=o+j by omega] at this
theorem Cr.length:∀{l:List (el t)} {a:List Value},Cr w I t l a->a.length=l.length*t.size
 | [],_,h=>by rw[show _=_ from h];simp
 | _::_,_,⟨us,r,e,b,c⟩=>by rw[e,List.length_append,Gf _ _ _ b,Cr.length c,List.length_cons,Nat.succ_mul];omega
theorem Cr.one:∀{l:List (el t)} {a:List Value},Cr w I t l a->∀u∈a,u.oneCell'=true
 | [],_,h,u,hu=>by rw[show _=_ from h] at hu;simp at hu
 | _::_,_,⟨us,r,e,b,c⟩,u,hu=>by
  rw[e] at hu;rcases List.mem_append.1 hu with h | h
  ·exact Mq _ _ _ b u h
  exact Cr.one c u h
theorem Cr.append:∀{l l':List (el t)} {b a:List Value},Cr w I t l b->Cr w I t l' a->Cr w I t (l++l') (b++a)
 | [],_,_,_,h,h'=>by rw[show _=_ from h];exact h'
 | _::_,_,_,_,⟨us,r,e,c,d⟩,h'=>⟨us,r++_,by rw[e,List.append_assoc],c,Cr.append d h'⟩
theorem Cr.mono {w':World} {a:Nat->Prop} (hm:∀b,I b->a b/\w'.heap[b]? =w.heap[b]?):∀{l:List (el t)} {c:List Value},Cr w I t l c->Cr w' a t l c
 | [],_,h=>h
 | _::_,_,⟨us,r,e,d,f⟩=>⟨us,r,e,By hm _ _ _ d,Cr.mono hm f⟩
theorem Pb {b:Nat}:∀{l:List (el t)} {off:Nat},(∀(i:Nat) (x:el t),l[i]? =some x->∃us,rep w I t x us/\w.rangeAt b (off+i*t.size) us)->∃a,Cr w I t l a/\w.rangeAt b off a
 | [],_,_=>⟨[],rfl,fun j v k=>by simp at k⟩
 | x::l,off,h=>by
  obtain⟨us,c,d⟩:=h 0 x (by simp)
  obtain⟨a,f,g⟩:=Pb (l:=l) (off:=off+t.size) fun i y m=>by
   obtain⟨us,g1,g2⟩:=h (i+1) y (by simpa using m);exact⟨us,g1,by rw[show off+t.size+i*t.size=off+(i+1)*t.size by rw[Nat.add_mul];omega];exact g2⟩
  refine⟨us++a,⟨us,a,rfl,c,f⟩,PQ.2 ⟨by simpa using d,?_⟩⟩;rw[Gf _ _ _ c];exact g
theorem Ko {b:Nat}:∀{l:List (el t)} {g:List Value} {off:Nat},Cr w I t l g->w.rangeAt b off g->∀(i:Nat) (x:el t),l[i]? =some x->∃us,rep w I t x us/\w.rangeAt b (off+i*t.size) us
 | [],_,_,_,_,_,_,a=>by simp at a
 | _::_,_,_,⟨us,r,e,d,_⟩,c,0,x,a=>by
  simp at a;subst a;rw[e] at c;exact⟨us,d,by simpa using (PQ.1 c).1⟩
 | _::_,_,off,⟨us,r,e,d,j⟩,c,i+1,x,a=>by
  rw[e] at c;have h:=(PQ.1 c).2;rw[Gf _ _ _ d] at h;obtain⟨f,g1,g2⟩:=Ko j h i x (by simpa using a);exact⟨f,g1,by rw[show off+(i+1)*t.size=off+t.size+i*t.size by rw[Nat.add_mul];omega];exact g2⟩
end
theorem Wd {P:Program} {w:World} {β:Nat->Option Nat} {s:St} {a:Act} {w0:World} {X:WX} (S:BB w0 X β s a w) {c:AC} {v:Value} {t:T} {l:List (el t)} {r e':TypeId} (z:P.underlying r=some (.slice e'))
  (B:Ai (cx X w β (AF s.bk)) c v) (h:DC (AF s.bk) c (.sl t l)):∃news,Src P t.size r v l.length news w/\Cr w (cx X w β (AF s.bk)).I t l news:=by
 have some:∀{b off n cap:Nat},v= .slice (some ⟨b,off,none⟩) n cap->n=l.length->(∀(i:Nat) (x:el t),l[i]? =some x->∃us,rep w (cx X w β (AF s.bk)).I t x us/\w.rangeAt b (off+i*t.size) us)->
   ∃news,Src P t.size r v l.length news w/\Cr w (cx X w β (AF s.bk)).I t l news:=by
  intro b off n cap f O y;obtain⟨G,m,g⟩:=Pb y;refine⟨G,?_,m⟩;rw[f,O];exact Src.ofSlice w z _ _ _ G m.length (fun j u hu=>by rw[Addr.add_mid];exact g j u hu) m.one
 have d:∀{base:Option Addr} {cap:Nat},v= .slice base 0 cap->l=[]->∃news,Src P t.size r v l.length news w/\Cr w (cx X w β (AF s.bk)).I t l news:=by
  intro base cap f N;subst N f;refine⟨[],?_,rfl⟩;cases base with
  | none=>exact Src.ofNil w z cap
  | some K=>exact Src.ofSlice w z K 0 cap [] (by simp) (fun j u hu=>by simp at hu) (by simp)
 cases c with
 | sl k l'=>
  have h:AC.sl t l=AC.sl k l':=h;simp only[AC.sl.injEq] at h;obtain⟨M,g⟩:=h;subst M;have o:=eq_of_heq g;subst o;obtain⟨base,cap,f,m,g,o⟩:=B;have f:v= .slice base l.length cap:=by simpa using f
  rcases o with rfl |⟨b,off,rfl,V,y⟩
  ·exact d f rfl
  exact some f rfl y
 | nil=>
  rcases h with h |⟨k,h⟩
  ·cases h
  obtain⟨rfl,g⟩:t=k/\HEq l ([]:List (el k)):=by simpa using h
  obtain rfl:=eq_of_heq g;exact d (show v= .slice none 0 0 from B) rfl
 | AQ k id vv off len=>
  obtain⟨l',H,hle,h⟩:=h;obtain⟨rfl,g⟩:t=k/\HEq l ((l'.drop off).take len):=by simpa using h
  obtain rfl:=eq_of_heq g;have f:vv=AK (AF s.bk) id:=by rw[Cv H];rfl
  obtain⟨base,cap,J,m,g,_,o⟩:=B.2 f;have hlen:((l'.drop off).take len).length=len:=by simp;omega
  by_cases A:len=0
  ·subst A;exact d J (by simp)
  rcases o with rfl |⟨b,arr,e,p,rfl,W,Q⟩
  ·omega
  have C:=S.blocks id _ H;rcases C with⟨g1,g2⟩ |⟨b',F,e',g1,g2,L⟩
  ·exact absurd (g1.symm.trans p) (by simp)
  obtain rfl:b'=b:=Option.some.inj (g1.symm.trans p);refine some J hlen.symm fun i x q=>?_
  have D:l'[off+i]? =Option.some x:=by
   rw[List.getElem?_take] at q
   split at q
   ·simpa using q
   cases q
  obtain⟨us,R,U⟩:=L _ x D;exact⟨us,R,by rw[<-Nat.add_mul];exact U⟩
 | _=>exact (show False by simp[DC] at h).elim
theorem Rr {P:Program} {w:World} {t i ty e:TypeId} {a:TypeInfo} {z:Value} {n:Nat} (ht:P.underlying t=some (.slice e)) (C:P.info? e=some a) (N:a.zero=some z) (h:a.size=n) (J:z.cells.size=n)
  {base:Option Addr} {len cap:Nat} (F:len<=cap) {olds:List Value} (g:olds.length=len*n)
  (K:cap=0\/∃b off arr e',base=some ⟨b,off,none⟩/\w.heap[b]? =some (.cells arr e' (0,0))/\off+cap*n<=arr.size/\w.rangeAt b off olds)
  {x:Value} {m:Nat} {news:List Value} (r:Src P n i x m news w) (d:(len+m)*a.bytes<=140737488355328) (o:0<a.bytes):
  (m=0/\(Builtin.append_ #[t,i] ty #[.slice base len cap,x]).run P w= .ok (.slice base len cap) w)\/
  (∃b off,len+m<=cap/\base=some ⟨b,off,none⟩/\(Builtin.append_ #[t,i] ty #[.slice base len cap,x]).run P w= .ok (.slice base (len+m) cap) (w.setCells b (off+len*n) news))\/
  (∃q arr w',len+m<=q/\q<=maxLen/\w'.heap=w.heap.push (.cells arr e (0,0))/\w'.os=w.os/\w'.tape=w.tape/\w'.output=w.output/\arr.size=q*n/\w'.rangeAt w.heap.size 0 (olds++news)/\
   (Builtin.append_ #[t,i] ty #[.slice base len cap,x]).run P w= .ok (.slice (some ⟨w.heap.size,0,none⟩) (len+m) q) w'):=by
 subst h;have l:=r.newsLen;have G:len+m<=140737488355328:=Nat.le_trans (Nat.le_mul_of_pos_right _ o) d
 by_cases hm:m=0
 ·subst hm;have:news=[]:=by simpa using l
  subst this;exact .inl ⟨rfl,run_append_nothing (P:=P) w t i ty e a ht C base len cap F x r⟩
 by_cases c:len+m<=cap
 ·rcases K with rfl |⟨b,off,arr,e',rfl,B,H,L⟩
  ·omega
  have k:∀j,j<news.length->off+len*a.size+j<arr.size:=fun j f=>by
   have:(len+m)*a.size<=cap*a.size:=Nat.mul_le_mul_right _ c;rw[Nat.add_mul] at this;omega
  exact .inr (.inl ⟨b,off,c,rfl,run_append_room_src (P:=P) w t i ty e a ht C b off len cap x m news r c
   (fun j f=>by simp[World.cell?,B,k j f]) (fun j f=>by simp[World.frozen?,B])⟩)
 have hold:(Builtin.firstCells a.size len (.slice base len cap)).run P w.drew= .ok olds.toArray w.drew:=by
  rcases K with rfl |⟨b,off,arr,e',rfl,B,H,L⟩
  ·obtain rfl:len=0:=by omega
   have:olds=[]:=by simpa using g
   subst this;cases base with
   | none=>exact run_firstCells_none w.drew a.size 0 0 0
   | some M=>exact run_firstCells_some w.drew a.size 0 M 0 0 [] (by simp) (fun j u hu=>by simp at hu)
  exact run_firstCells_some w.drew a.size len _ len cap olds g fun j u hu=>by rw[Addr.add_mid];simpa using L j u hu
 have s:len+m<=maxLen:=by unfold maxLen;omega
 have p:=run_append_grow_src (P:=P) w t i ty e a z ht C N base len cap olds hold x m news r (by omega) (by omega) (growslice_fits (by omega) d);have A:=grownCap_ge w (len+m) cap e;refine .inr (.inr ⟨grownCap w (len+m) cap e,(olds++news).toArray++Builtin.zeroCells z.cells (grownCap w (len+m) cap e-(len+m)),(w.drew.alloc (.cells ((olds++news).toArray++Builtin.zeroCells z.cells (grownCap w (len+m) cap e-(len+m))) e)),A,grownCap_le_maxLen w (len+m) cap e s,?_,rfl,rfl,rfl,?_,?_,p⟩)
 ·rfl
 ·simp only[Array.size_append,List.size_toArray,List.length_append,size_zeroCells,J,g,l,<-Nat.add_mul]
  congr 1;omega
 intro j v f;have e1:(w.drew.alloc (.cells ((olds++news).toArray++Builtin.zeroCells z.cells (grownCap w (len+m) cap e-(len+m))) e)).cell? ⟨w.heap.size,j,none⟩=_:=World.cell?_alloc_new w.drew _ _ j;rw[Nat.zero_add,e1]
 have D:j<(olds++news).length:=by
  rcases Nat.lt_or_ge j (olds++news).length with y | y
  ·exact y
  rw[List.getElem?_eq_none y] at f;cases f
 rw[Array.getElem?_append_left (by simpa using D)];simpa using f
section
variable {P:Program} {E:Env} {TI:TypeId->Info}
theorem fq (hT:∀t,Cw P t (TI t)) {o:Oper} {t:TypeId} {x y:Operand} (Y:o.op= .makeSlice t x y) (hd:o.dst≠none):Sound P E TI o:=by
 intro w0 X β s a w S f h N Q V;simp only[B5,Y] at h;obtain⟨hk,h⟩:=h;obtain⟨hu,b,z,g1,g2,g3,g4,g5,R⟩:=(hT t).sl hk;have hx:=Bx S x;have hy:=Bx S y
 split at h
 ·rename_i k n k' m he F
  rw[he] at hx;rw[F] at hy;have K:a.eval x= .int k n:=BA hx (by simp);have L:a.eval y= .int k' m:=BA hy (by simp);obtain⟨W,h⟩:=h;obtain⟨h0,h1,U⟩:=W ();obtain rfl:=h _ _ ⟨rfl,rfl⟩;unfold fits at U;have Z:0<b.bytes:=g4;have a1:m.toNat<=140737488355328:=Nat.le_trans (Nat.le_mul_of_pos_right _ (by omega)) U
  have g:(b.bytes:Int)*m<=281474976710656:=by
   have e1:((b.bytes*m.toNat:Nat):Int)<=281474976710656:=by rw[Nat.mul_comm,g3];omega
   rw[Int.natCast_mul] at e1;rwa [Int.toNat_of_nonneg (by omega)] at e1
  have A:=run_make (P:=P) w t _ b z hu g1 g5 k k' n m h0 h1 g (by omega);obtain⟨q,J⟩:=Option.ne_none_iff_exists'.1 hd;have D:BP o=q:=by simp[BP,J]
  rw[D,J] at V
  have M:z.cells.toList.length=(TI t).elem.size:=by
   have:=(R (cx X w β (AF s.bk))).length;rw[FU] at this;exact this.symm
  have O:z.cells.size=b.size:=by simp only[Array.length_toList] at M;omega
  have a2:=T.size_pos (TI t).elem
  have l:∀i j,i<m.toNat->j<(TI t).elem.size->(madeCells z.cells (m.toNat*b.size))[i*(TI t).elem.size+j]? =z.cells[j]? :=by
   intro i j p r
   have c:i*(TI t).elem.size+j<m.toNat*b.size:=by
    rw[g2];have:(i+1)*(TI t).elem.size<=m.toNat*(TI t).elem.size:=Nat.mul_le_mul_right _ p;rw[Nat.add_mul] at this;omega
   have B:(i*(TI t).elem.size+j)%z.cells.size=j:=by
    rw[O,g2,Nat.add_comm,Nat.add_mul_mod_self_right,Nat.mod_eq_of_lt r]
   have C:j<z.cells.size:=by omega
   simp only[madeCells,Array.getElem?_map];rw[Array.getElem?_range];simp[c,B,C]
  have hB:∀y:Cx,y.w=w.alloc (.cells (madeCells z.cells (m.toNat*b.size)) (TI t).Bw)->y.β q=some w.heap.size->CM y q (.arr (AK (AF s.bk) q+1) (TI t).elem (List.replicate n.toNat (TI t).Ba)):=by
   intro y hw g;refine Or.inr ⟨_,_,_,g,by rw[hw];exact heap_alloc_new w _,fun i u p=>?_⟩
   have G:i<n.toNat:=by
    rcases Nat.lt_or_ge i n.toNat with c | c
    ·exact c
    rw[List.getElem?_eq_none (by simpa using c)] at p;cases p
   have:u=(TI t).Ba:=by simpa [List.getElem?_replicate,G,eq_comm] using p
   subst this;refine⟨z.cells.toList,(EF y _ _ _).2 (R y),fun j v r=>?_⟩
   have H:j<(TI t).elem.size:=by
    rcases Nat.lt_or_ge j (TI t).elem.size with c | c
    ·exact c
    rw[List.getElem?_eq_none (by omega)] at r;cases r
   rw[hw,World.cell?_alloc_new,l i j (by omega) H];simpa using r
  obtain⟨β',S'⟩:=S.new (dst:=q) (d:=q) rfl (av:= .one (.AQ (TI t).elem q (AK (AF s.bk) q+1) 0 n.toNat)) (Au:= .arr (AK (AF s.bk) q+1) (TI t).elem (List.replicate n.toNat (TI t).Ba)) (rd:=[q])
   (u:= .slice (some ⟨w.heap.size,0,none⟩) n.toNat m.toNat)
   (w':=w.alloc (.cells (madeCells z.cells (m.toNat*b.size)) (TI t).Bw)) (arr:=madeCells z.cells (m.toNat*b.size)) (e:=(TI t).Bw) rfl rfl rfl rfl rfl (by simp[AG.short];omega)
   (fun y _ hw g=>hB y hw g)
   (fun y _ hw g W=>Or.inr ⟨⟨rfl,by omega⟩,fun _=>⟨_,_,rfl,by omega,by unfold maxLen;omega,by simp,.inr ⟨_,_,_,g,by rw[Nat.zero_mul],by rw[hw];exact heap_alloc_new w _,by rw[size_madeCells,g2,Nat.zero_add];exact Nat.le_refl _⟩⟩⟩)
  refine BX (u:= .slice (some ⟨w.heap.size,0,none⟩) n.toNat m.toNat) (w':=w.alloc (.cells (madeCells z.cells (m.toNat*b.size)) (TI t).Bw)) ?_ (by rw[J];exact V _ _ _ S');simp[execOp,Y,K,L,A]
 exact h.elim
theorem M0 {w0:World} {X:WX} {β:Nat->Option Nat} {s:St} {a:Act} {w:World} (S:BB w0 X β s a w) {t tx ty e e2:TypeId} {ei:TypeInfo} {z:Value} {u:T} (ht:P.underlying t=some (.slice e)) (an:P.underlying tx=some (.slice e2)) (hi:P.info? e=some ei)
  (hz:ei.zero=some z) (Z:ei.size=u.size) (ao:z.cells.size=u.size) (R:0<ei.bytes)
  {base:Option Addr} {len cap:Nat} (ab:len<=cap) (a6:cap<=maxLen) {id:Nat} {l l2:List (el u)} (r:l.length=len)
  (A:(cap=0)\/∃b arr e',β id=some b/\live (AF s.bk) id/\base=some ⟨b,0,none⟩/\w.heap[b]? =some (.cells arr e' (0,0))/\cap*u.size<=arr.size/\
   ∀(i:Nat) (y:el u),l[i]? =some y->∃us,rep w (cx X w β (AF s.bk)).I u y us/\w.rangeAt b (i*u.size) us)
  {c:AC} {x:Value} (hr:Ai (cx X w β (AF s.bk)) c x) (al:DC (AF s.bk) c (.sl u l2)) (a7:fits (len+l2.length) ei.bytes)
  {dst:Option Nat} {vv:Nat} {rd:List Nat} (p:id<s.bk.length) (av:vv=AK (AF s.bk) id+1):
  ∃v' w' β',(Builtin.append_ #[t,tx] ty #[.slice base len cap,x]).run P w= .ok v' w'/\
   BB w0 X β' (s.app dst ⟨.one (.AQ u id vv 0 (l++l2).length),[(id,.arr vv u (l++l2))],rd⟩) (a.put dst v') w':=by
 obtain⟨news,hs,H⟩:=Wd S an hr al
 have holds:∃olds,Cr w (cx X w β (AF s.bk)).I u l olds/\(cap=0\/∃b off arr e',base=some ⟨b,off,none⟩/\w.heap[b]? =some (.cells arr e' (0,0))/\off+cap*u.size<=arr.size/\w.rangeAt b off olds):=by
  rcases A with rfl |⟨b,arr,e',h1,_,h2,h3,h4,h5⟩
  ·have:l=[]:=List.eq_nil_of_length_eq_zero (by omega);subst this;exact⟨[],rfl,.inl rfl⟩
  obtain⟨fl,q1,q2⟩:=Pb (off:=0) (fun i y K=>by simpa using h5 i y K);exact⟨fl,q1,.inr ⟨b,0,arr,e',h2,h3,by omega,q2⟩⟩
 obtain⟨olds,ad,aj⟩:=holds;have a5:(len+l2.length)*ei.bytes<=140737488355328:=a7;have ar:len+l2.length<=140737488355328:=Nat.le_trans (Nat.le_mul_of_pos_right _ R) a5;have hlen:(l++l2).length=len+l2.length:=by simp[r]
 have J:(AG.arr vv u (l++l2)).short:=by show (l++l2).length<=_;omega
 have af:∀b o,w.heap[b]? =some o->b<w.heap.size:=fun b o h=>by
  rcases Nat.lt_or_ge b w.heap.size with h' | h'
  ·exact h'
  simp[Array.getElem?_eq_none h'] at h
 rcases Rr (P:=P) (ty:=ty) ht hi hz Z ao ab (by rw[ad.length,r]) aj hs a5 R with⟨hm,g⟩ |⟨b',ae,F,f,g⟩ |⟨c',arr,w',h1,h2,h3,h4,h5,h6,h7,h8,g⟩
 ·have M:l2=[]:=List.eq_nil_of_length_eq_zero hm;subst M;rcases A with rfl |⟨b,arr,e',q,d,rfl,C,a1,G⟩
  ·have Y:l=[]:=List.eq_nil_of_length_eq_zero (by omega);subst Y
   refine⟨_,w,fun k=>if k=id then none else β k,g,S.write p J (fun k hk=>by simp[hk]) (by simp[AG.AK];omega) (fun e=>by simp[AG.AK] at e;omega) (fun _ _ _=>rfl) (Nat.le_refl _)
    (fun b arr e C=>⟨arr,C,rfl⟩) rfl rfl rfl (fun _ b A=>by simp at A) (fun _=>Or.inl ⟨by show (if id=id then _ else _)=_;simp,rfl⟩) (fun _=>Or.inr ⟨⟨rfl,?_⟩,fun _=>?_⟩)⟩
   ·show vv<=AK _ id;rw[ET _ _ _ p,if_pos rfl];simp[AG.AK]
   exact⟨base,0,by simp at r;simp[r.symm],by simp,by simp,by simp,.inl rfl⟩
  refine⟨_,w,β,g,S.write p J (fun _ _=>rfl) (by simp[AG.AK];omega) (fun _=>⟨rfl,fun _=>d⟩) (fun _ _ _=>rfl) (Nat.le_refl _) (fun b arr e C=>⟨arr,C,rfl⟩) rfl rfl rfl (fun _ b A=> .inl ⟨A,d⟩)
   (fun hle=>Or.inr ⟨b,arr,e',q,C,fun i y K=>?_⟩) (fun _=>Or.inr ⟨⟨rfl,?_⟩,fun _=>?_⟩)⟩
  ·rw[List.append_nil] at K;obtain⟨us,q1,q2⟩:=G i y K;exact⟨us,By hle.I _ _ _ q1,q2⟩
  ·show vv<=AK _ id;rw[ET _ _ _ p,if_pos rfl];simp[AG.AK]
  exact⟨some ⟨b,0,none⟩,cap,by simp[r],by simp[r,ab],a6,by simp,.inr ⟨b,arr,e',q,by simp,C,by simpa using a1⟩⟩
 ·rcases A with rfl |⟨b,arr,e',q,d,L,C,a1,G⟩
  ·have M:l2.length=0:=by omega
   have ag:news=[]:=by have:=hs.newsLen;rw[M,Nat.zero_mul] at this;exact List.eq_nil_of_length_eq_zero this
   have aa:l2=[]:=List.eq_nil_of_length_eq_zero M;have Y:l=[]:=List.eq_nil_of_length_eq_zero (by omega);subst aa Y ag
   refine⟨_,_,fun k=>if k=id then none else β k,g,S.write p J (fun k hk=>by simp[hk]) (by simp[AG.AK];omega) (fun e=>by simp[AG.AK] at e;omega) (fun _ _ _=>rfl) (Nat.le_refl _)
    (fun b arr e C=>⟨arr,C,rfl⟩) rfl rfl rfl (fun _ b A=>by simp at A) (fun _=>Or.inl ⟨by show (if id=id then _ else _)=_;simp,rfl⟩) (fun _=>Or.inr ⟨⟨rfl,?_⟩,fun _=>?_⟩)⟩
   ·show vv<=AK _ id;rw[ET _ _ _ p,if_pos rfl];simp[AG.AK]
   simp at r;subst r;exact⟨base,0,by simp,by simp,by simp,by simp,.inl rfl⟩
  obtain⟨rfl,rfl⟩:b'=b/\ae=0:=by rw[L] at f;simp at f;exact⟨f.1.symm,f.2.symm⟩
  obtain⟨c1,c2,c3,c4⟩:=Pk b' news (0+len*u.size) w;obtain⟨B,q1,q2,q3⟩:=IL b' news (0+len*u.size) w arr e' C;have ai:=hs.newsLen;have V:(len+l2.length)*u.size<=arr.size:=Nat.le_trans (Nat.mul_le_mul_right _ F) a1
  refine⟨_,_,β,g,S.write p J (fun _ _=>rfl) (by simp[AG.AK];omega) (fun _=>⟨rfl,fun _=>d⟩) (fun k hk ah=>Kt b' _ _ _ k (fun e=>ah d (e ▸ q))) (by omega) (fun k N e2 a8=>?_) c1 c2 c3 (fun _ b A=> .inl ⟨A,d⟩)
   (fun hle=>Or.inr ⟨b',B,e',q,q1,fun i y K=>?_⟩) (fun _=>Or.inr ⟨⟨rfl,?_⟩,fun _=>?_⟩)⟩
  ·by_cases e1:k=b'
   ·subst e1;obtain⟨a2,U,p2,p3⟩:=IL k news (0+len*u.size) w N e2 a8;exact⟨a2,U,p3⟩
   exact⟨N,(Kt b' _ _ _ k e1).trans a8,rfl⟩
  ·rcases Nat.lt_or_ge i l.length with D | D
   ·rw[List.getElem?_append_left D] at K;obtain⟨us,U,p2⟩:=G i y K;refine⟨us,By hle.I _ _ _ U,fun j v hj=>?_⟩;have au:=Gf _ _ _ U
    have W:j<us.length:=by
     rcases Nat.lt_or_ge j us.length with D | D
     ·exact D
     simp[List.getElem?_eq_none D] at hj
    have aq:i*u.size+j<len*u.size:=by
     have:(i+1)*u.size<=len*u.size:=Nat.mul_le_mul_right _ (by omega);rw[Nat.add_mul] at this;omega
    show (w.setCells b' (0+len*u.size) news).cell? _=_
    rw[World.cell?_setCells_out b' _ _ w _ (fun _ _=> .inl (by show i*u.size+j<_;omega))];exact p2 j v hj
   rw[List.getElem?_append_right D] at K
   have ak:(w.setCells b' (0+len*u.size) news).rangeAt b' (0+len*u.size) news:=by
    intro j v hj
    have W:j<news.length:=by
     rcases Nat.lt_or_ge j news.length with D | D
     ·exact D
     simp[List.getElem?_eq_none D] at hj
    rw[World.cell?_setCells_in b' news _ w (fun m hm=>(M6 C (n:=news.length) (by rw[ai];rw[Nat.add_mul] at V;omega) m hm).1) j W];simp[List.getElem?_eq_getElem W] at hj;simpa using hj
   obtain⟨us,U,p2⟩:=Ko (Cr.mono hle.I H) ak _ y K;refine⟨us,U,?_⟩;rwa [show 0+len*u.size+(i-l.length)*u.size=i*u.size by rw[r] at D ⊢;rw[Nat.zero_add,<-Nat.add_mul];congr 1;omega] at p2
  ·show vv<=AK _ id;rw[ET _ _ _ p,if_pos rfl];simp[AG.AK]
  exact⟨some ⟨b',0,none⟩,cap,by rw[hlen,f],by rw[hlen];exact F,a6,by simp,.inr ⟨b',B,e',q,by simp,q1,by simp;omega⟩⟩
 have O:∀b,b<w.heap.size->w'.heap[b]? =w.heap[b]? :=fun b A=>by rw[h3,Array.getElem?_push,if_neg (by omega)]
 have Q:w'.heap[w.heap.size]? =some (.cells arr e (0,0)):=by rw[h3];simp
 refine⟨_,w',fun k=>if k=id then some w.heap.size else β k,g,S.write p J (fun k hk=>by simp[hk]) (by simp[AG.AK];omega) (fun e=>by simp[AG.AK] at e;omega) (fun b A _=>O b A) (by rw[h3];simp)
  (fun b B e' C=>⟨B,(O b (af b _ C)).trans C,rfl⟩) h4 h5 h6 (fun _ b A=> .inr (by simp at A;omega)) (fun hle=>Or.inr ⟨w.heap.size,arr,e,by show (if id=id then _ else _)=_;simp,Q,fun i y K=>?_⟩) (fun _=>Or.inr ⟨⟨rfl,?_⟩,fun _=>?_⟩)⟩
 ·obtain⟨us,U,p2⟩:=Ko ((Cr.mono hle.I ad).append (Cr.mono hle.I H)) h8 i y K;exact⟨us,U,by simpa using p2⟩
 ·show vv<=AK _ id;rw[ET _ _ _ p,if_pos rfl];simp[AG.AK]
 exact⟨some ⟨w.heap.size,0,none⟩,c',by rw[hlen],by rw[hlen];exact h1,h2,by simp,.inr ⟨w.heap.size,arr,e,by show (if id=id then _ else _)=_;simp,by simp,Q,by rw[h7];simp⟩⟩
end
section
variable {P:Program} {E:Env} {TI:TypeId->Info}
theorem LZ {x:Cx} {s:St} {a:Act} (h:∀o,BF x (ev s.sl o) (a.eval o)):∀(l:List Operand),AT (BF x) (l.map (ev s.sl)) (l.map a.eval)
 | []=>trivial
 | o::l=>⟨h o,LZ h l⟩
theorem FT {a:Act} {w:World} {o:Oper} {c:Call} {b:Builtin} {u:Value} {w':World} (f:o.op= .call c) (d:c.callee= .builtin b) (h:(builtin b c.argTypes o.type (c.args.map fun | .const _=>true | _=>false) (c.args.map a.eval)).run P w= .ok (.value u) w'):
  (execOp a.eval o).run P w= .ok (.value u) w':=by
 simp only[execOp,f,resolve,d,Sem.run_bind,Sem.run_pure,Result.andThen_ok,invoke];exact h
theorem I7 {x:Cx} {t:T} {id AK off len:Nat} {v:Value} (h:Ai x (.AQ t id AK off len) v) (g:AK=x.cv id):∃base cap,v= .slice base len cap/\len<=cap/\cap<=maxLen/\
  (cap=0\/∃b arr e,x.β id=some b/\base=some ⟨b,off*t.size,none⟩/\x.w.heap[b]? =some (.cells arr e (0,0))/\(off+cap)*t.size<=arr.size):=by
 obtain⟨base,cap,a,c,d,_,f⟩:=h.2 g;exact⟨base,cap,a,c,d,f⟩
theorem Sj {x:Cx} {t:T} {id AK off len:Nat} {v:Value} (h:Ai x (.Co t id AK off len) v) (i:AK=x.cv id):∃base cap,v= .slice base len cap/\len<=cap/\cap<=maxLen/\cap=len/\
  (cap=0\/∃b arr e,x.β id=some b/\base=some ⟨b,off*t.size,none⟩/\x.w.heap[b]? =some (.cells arr e (0,0))/\(off+cap)*t.size<=arr.size):=by
 obtain⟨base,cap,a,c,d,g,f⟩:=h.2 i;exact⟨base,cap,a,c,d,g rfl,f⟩
theorem We (hT:∀t,Cw P t (TI t)) {o:Oper} {c:Call} {b:Builtin} (ho:o.op= .call c) (Z:c.callee= .builtin b) (hd:o.dst≠none)
  {w0:World} {X:WX} {β:Nat->Option Nat} {s:St} {a:Act} {w:World} (S:BB w0 X β s a w) {f:BR} (h:EK TI b c.argTypes.toList (c.args.toList.map (ev s.sl)) (BP o) (AF s.bk) (fun g=>g=f))
  {N:Act->World->Prop} {Q:Exit->Act->World->Prop} (M:∀β' a' w',BB w0 X β' (s.app o.dst f) a' w'->N a' w'):o.wp P a w N Q:=by
 have d:=LZ (Bx S) c.args.toList
 generalize hA:c.args.toList.map (ev s.sl)=A at h d
 generalize hU:c.args.toList.map a.eval=U at d
 have B:c.args.map a.eval=U.toArray:=by rw[<-hU];exact Array.ext' (by simp)
 have K:∀a5,c.argTypes.toList=a5->c.argTypes=a5.toArray:=fun a5 e=>by subst e;exact Array.ext' rfl
 obtain⟨q,hq⟩:=Option.ne_none_iff_exists'.1 hd;have ah:BP o=q:=by simp[BP,hq]
 have r:∀{t0:TypeId} {base:Option Addr} {n cap:Nat},c.argTypes.toList=[t0]->(TI t0).sl=true->U=[.slice base n cap]->b= .len->(execOp a.eval o).run P w= .ok (.value (.int .i64 n)) w:=by
  intro t0 base n cap D h2 h3 h4;subst h4;refine FT ho Z ?_;rw[K _ D,B,h3];simp[builtin,Builtin.len_,run_underlying ((hT t0).sl h2).1,goInt]
 generalize p:c.argTypes.toList=a5 at h
 unfold EK at h
 split at h
 ·rename_i t0 t l
  match U,d with
  | [v],⟨C,_⟩=>
   obtain⟨D,h⟩:=h;obtain⟨base,cap,hv,h2,h3,h4⟩:=BA C (by simp);have hv:v= .slice base l.length cap:=by simpa using hv
   obtain rfl:=h _ ⟨rfl,h3⟩;exact BX (r p D (by rw[hv]) rfl) (M _ _ _ (S.val (Or.inr rfl)))
 ·rename_i t0 t id v off len
  match U,d with
  | [u],⟨C,_⟩=>
   obtain⟨D,h⟩:=h
   split at h
   ·rename_i hv
    obtain⟨base,cap,F,_⟩:=Sj (BA C (by simp)) hv.symm;obtain rfl:=h _ ⟨rfl⟩;exact BX (r p D (by rw[F]) rfl) (M _ _ _ (S.val (Or.inr rfl)))
   exact h.elim
 ·rename_i t0 t id v off len
  match U,d with
  | [u],⟨C,_⟩=>
   obtain⟨D,h⟩:=h
   split at h
   ·rename_i hv
    obtain⟨base,cap,F,_⟩:=I7 (BA C (by simp)) hv.symm;obtain rfl:=h _ ⟨rfl⟩;exact BX (r p D (by rw[F]) rfl) (M _ _ _ (S.val (Or.inr rfl)))
   exact h.elim
 ·rename_i t0
  match U,d with
  | [u],⟨C,_⟩=>
   obtain⟨D,h⟩:=h;have F:u= .slice none 0 0:=BA C (by simp);subst h;exact BX (r p D (by rw[F]) rfl) (M _ _ _ (S.val (Or.inr rfl)))
 ·rename_i t0 ps
  match U,d with
  | [u],⟨C,_⟩=>
   obtain⟨D,h⟩:=h;obtain⟨b',off,cap,us,hv,_⟩:=BA C (by simp);obtain rfl:=h _ ⟨rfl⟩;refine BX (u:= .int .i64 ps.length) (w':=w) ?_ (M _ _ _ (S.val (Or.inr rfl)));refine FT ho Z ?_;rw[K _ p,B,hv];simp[builtin,Builtin.len_,run_underlying ((hT t0).pt D).1,goInt]
 ·rename_i t0 z
  match U,d with
  | [u],⟨C,_⟩=>
   obtain⟨D,h⟩:=h;have F:u= .string z:=BA C (by simp);obtain rfl:=h _ ⟨rfl⟩;refine BX (u:= .int .i64 z.size) (w':=w) ?_ (M _ _ _ (S.val (Or.inr rfl)));refine FT ho Z ?_;rw[K _ p,B,F];simp[builtin,Builtin.len_,run_underlying ((hT t0).MF D),goInt]
 ·rename_i t0
  match U,d with
  | [u],⟨C,_⟩=>
   obtain⟨D,h⟩:=h;have F:u= .slice none 0 0:=BA C (by simp);subst h F;refine BX (u:= .int .i64 0) (w':=w) (FT ho Z ?_) (M _ _ _ (S.val (Or.inr rfl)));rw[K _ p,B];simp[builtin,Builtin.cap_,run_underlying ((hT t0).sl D).1,goInt]
 ·rename_i k m k' n
  match U,d with
  | [u,u'],⟨C,H,_⟩=>
   have F:u= .int k m:=BA C (by simp);have ad:u'= .int k' n:=BA H (by simp);obtain rfl:=h _ rfl;subst F ad;refine BX (u:= .int k (if n<m then n else m)) (w':=w) (FT ho Z ?_) (M _ _ _ (S.val (Or.inr rfl)));rw[B];simp[builtin,Builtin.min_,Builtin.min2]
 ·rename_i k m k' n
  match U,d with
  | [u,u'],⟨C,H,_⟩=>
   have F:u= .int k m:=BA C (by simp);have ad:u'= .int k' n:=BA H (by simp);obtain rfl:=h _ rfl;subst F ad;refine BX (u:= .int k (if n>m then n else m)) (w':=w) (FT ho Z ?_) (M _ _ _ (S.val (Or.inr rfl)));rw[B];simp[builtin,Builtin.max_,Builtin.max2]
 ·rename_i t0 t1 x
  match U,d with
  | [u,u'],⟨C,H,_⟩=>
   obtain⟨⟨h0,D⟩,l2,a1,h⟩:=h;obtain⟨J,G⟩:=a1 ();have F:u= .slice none 0 0:=BA C (by simp);obtain rfl:=h _ rfl;obtain⟨hu,ei,z,g1,g2,g3,g4,g5,g6⟩:=(hT t0).sl h0;obtain⟨V,_⟩:=(hT t1).sl D;have hx:Ai (cx X w β (AF s.bk)) x u':=BA H (by intro e;subst e;exact J.elim);have W:z.cells.size=(TI t0).elem.size:=by have:=(g6 (cx X w β (AF s.bk))).length;rw[FU] at this;simpa using this.symm
   by_cases R:q<s.bk.length
   ·obtain⟨v',w',β',j,S'⟩:=M0 S (ty:=o.type) hu V g1 g5 g2 W g4 (base:=none) (len:=0) (cap:=0) (Nat.le_refl _) (by simp) (id:=q) (l:=[]) (l2:=l2) rfl (.inl rfl) hx J (by rw[Nat.zero_add,g3];exact G) (dst:=o.dst) (vv:=AK (AF s.bk) q+1) (rd:=q::Bk x) R rfl;refine BX (u:=v') (w':=w') (FT ho Z ?_) (M β' _ _ ?_)
    ·rw[K _ p,B,F];simp[builtin,j]
    rw[ah];simpa using S'
   have Y:s.bk.length<=q:=Nat.le_of_not_lt R;have h2:s.sl.length<=q:=by rw[S.len,<-S.GZ];exact Y
   obtain⟨news,aj,al⟩:=Wd S V hx J
   have ai:s.app o.dst ⟨.one (.AQ (TI t0).elem (BP o) (AK (AF s.bk) (BP o)+1) 0 l2.length),[(BP o,.arr (AK (AF s.bk) (BP o)+1) (TI t0).elem l2)],BP o::Bk x⟩=s.app none ⟨.one .BN,[],BP o::Bk x⟩:=by
    rw[ah,hq];simp[St.app,Er,Ci,GF _ _ _ h2,GF _ _ _ Y]
   have ha:∀v,a.put o.dst v=a.put none undef:=by
    intro v;have:a.tmps.size<=q:=by rw[<-S.GZ];exact Y
    rw[hq];simp[Act.put,Array.setIfInBounds_eq_of_size_le this]
   rcases Rr (P:=P) (ty:=o.type) (w:=w) (base:=none) (len:=0) (cap:=0) (olds:=[]) hu g1 g5 g2 W (Nat.le_refl _) (by simp) (.inl rfl) aj (by rw[Nat.zero_add,g3];exact G) g4 with⟨_,j⟩ |⟨b',an,ak,a8,j⟩ |⟨c',arr,w',D,h2,h3,h4,h5,h6,h7,h8,j⟩
   ·have L:(builtin .append c.argTypes o.type (c.args.map fun | .const _=>true | _=>false) (c.args.map a.eval)).run P w= .ok (.value (.slice none 0 0)) w:=by
     rw[K _ p,B,F];simp[builtin,j]
    exact BX (FT ho Z L) (by rw[ha];exact M β _ w (by rw[ai];exact S.val (Hi _ _)))
   ·cases a8
   have L:(builtin .append c.argTypes o.type (c.args.map fun | .const _=>true | _=>false) (c.args.map a.eval)).run P w= .ok (.value (.slice (some ⟨w.heap.size,0,none⟩) (0+l2.length) c')) w':=by
    rw[K _ p,B,F];simp[builtin,j]
   exact BX (FT ho Z L) (by rw[ha];exact M β _ w' (by rw[ai];exact S.ext (fun b O=>by rw[h3,Array.getElem?_push,if_neg (by omega)]) (by rw[h3];simp) h4 h5 h6 (Hi _ _)))
 ·rename_i t0 t1 t id v off len x
  match U,d with
  | [u,u'],⟨C,H,_⟩=>
   obtain⟨⟨h0,D⟩,h⟩:=h
   split at h
   ·rename_i v' t' l O
    split at h
    ·rename_i aa
     obtain⟨ae,a6,a7⟩:=aa;obtain rfl:=T.beq_eq a6;have a2:=T.beq_eq a7;obtain⟨l2,a1,h⟩:=h;obtain⟨ab,hlen,J,G⟩:=a1 ();obtain rfl:=h _ _ ⟨rfl,rfl⟩;subst ab ae;obtain⟨hu,ei,z,g1,g2,g3,g4,g5,g6⟩:=(hT t0).sl h0;obtain⟨V,_⟩:=(hT t1).sl D;rw[<-a2] at g2;have hx:Ai (cx X w β (AF s.bk)) x u':=BA H (by intro e;subst e;exact J.elim);have W:z.cells.size=t'.size:=by have:=(g6 (cx X w β (AF s.bk))).length;rw[FU,<-a2] at this;simpa using this.symm
     obtain⟨base,cap,F,k1,k2,k4,k3⟩:=Sj (BA C (by simp)) (Cv O).symm
     have R:id<s.bk.length:=by
      rcases Nat.lt_or_ge id s.bk.length with Y | Y
      ·exact Y
      rw[F8 _ _ Y] at O;cases O
     obtain⟨af,w',β',j,S'⟩:=M0 S (ty:=o.type) hu V g1 g5 g2 W g4 k1 k2 (id:=id) (l:=l.take len) (l2:=l2) (by simp;omega) (by
      rcases k3 with rfl |⟨b,arr,e,q1,q2,q3,q4⟩
      ·exact .inl rfl
      rcases S.blocks id _ O with⟨p1,p2⟩ |⟨b',ag,e',p1,p2,p3⟩
      ·exact absurd (p1.symm.trans q1) (by simp)
      obtain rfl:b'=b:=Option.some.inj (p1.symm.trans q1);refine .inr ⟨b',arr,e,q1,⟨_,O,rfl⟩,by simpa using q2,q3,by simpa using q4,fun i y hy=>p3 i y ?_⟩;rw[List.getElem?_take] at hy
      split at hy
      ·exact hy
      cases hy) hx J (by rw[g3];exact G) (dst:=o.dst) (vv:=v'+1) (rd:=id::Bk x) R (by rw[Cv O];rfl)
     refine BX (u:=af) (w':=w') (FT ho Z ?_) (M β' _ _ S');rw[K _ p,B,F];simp[builtin,j]
    exact h.elim
   exact h.elim
 ·rename_i t0 t1 t id v off len x
  match U,d with
  | [u,u'],⟨C,H,_⟩=>
   obtain⟨⟨h0,D⟩,h⟩:=h
   split at h
   ·rename_i v' t' l O
    split at h
    ·rename_i aa
     obtain⟨ae,a6,a7⟩:=aa;obtain rfl:=T.beq_eq a6;have a2:=T.beq_eq a7;obtain⟨l2,a1,h⟩:=h;obtain⟨ab,hlen,J,G⟩:=a1 ();obtain rfl:=h _ _ ⟨rfl,rfl⟩;subst ab ae hlen;obtain⟨hu,ei,z,g1,g2,g3,g4,g5,g6⟩:=(hT t0).sl h0;obtain⟨V,_⟩:=(hT t1).sl D;rw[<-a2] at g2;have hx:Ai (cx X w β (AF s.bk)) x u':=BA H (by intro e;subst e;exact J.elim);have W:z.cells.size=t'.size:=by have:=(g6 (cx X w β (AF s.bk))).length;rw[FU,<-a2] at this;simpa using this.symm
     obtain⟨base,cap,F,k1,k2,k3⟩:=I7 (BA C (by simp)) (Cv O).symm
     have R:id<s.bk.length:=by
      rcases Nat.lt_or_ge id s.bk.length with Y | Y
      ·exact Y
      rw[F8 _ _ Y] at O;cases O
     obtain⟨af,w',β',j,S'⟩:=M0 S (ty:=o.type) hu V g1 g5 g2 W g4 k1 k2 (id:=id) (l:=l) (l2:=l2) rfl (by
      rcases k3 with rfl |⟨b,arr,e,q1,q2,q3,q4⟩
      ·exact .inl rfl
      rcases S.blocks id _ O with⟨p1,p2⟩ |⟨b',ag,e',p1,p2,p3⟩
      ·exact absurd (p1.symm.trans q1) (by simp)
      obtain rfl:b'=b:=Option.some.inj (p1.symm.trans q1);exact .inr ⟨b',arr,e,q1,⟨_,O,rfl⟩,by simpa using q2,q3,by simpa using q4,p3⟩) hx J (by rw[g3];exact G) (dst:=o.dst) (vv:=v'+1) (rd:=id::Bk x) R (by rw[Cv O];rfl)
     refine BX (u:=af) (w':=w') (FT ho Z ?_) (M β' _ _ S');rw[K _ p,B,F];simp[builtin,j]
    exact h.elim
   exact h.elim
 exact h.elim
theorem fT (hT:∀t,Cw P t (TI t)) {o:Oper} {c:Call} (ho:o.op= .call c) (hc:c.callee= .builtin .append) (hd:o.dst≠none)
  {w0:World} {X:WX} {β:Nat->Option Nat} {s:St} {a:Act} {w:World} (S:BB w0 X β s a w) {f:BR} (h:Ft TI c.argTypes.toList (c.args.toList.map (ev s.sl)) (AF s.bk) (fun g=>g=f))
  {N:Act->World->Prop} {Q:Exit->Act->World->Prop} (hN:∀β' a' w',BB w0 X β' (s.app o.dst f) a' w'->N a' w'):o.wp P a w N Q:=by
 have d:=LZ (Bx S) c.args.toList
 generalize hA:c.args.toList.map (ev s.sl)=A at h d
 generalize hU:c.args.toList.map a.eval=U at d
 have F:c.args.map a.eval=U.toArray:=by rw[<-hU];exact Array.ext' (by simp)
 have R:∀j,c.argTypes.toList=j->c.argTypes=j.toArray:=fun j e=>by subst e;exact Array.ext' rfl
 obtain⟨q,hq⟩:=Option.ne_none_iff_exists'.1 hd;have a5:BP o=q:=by simp[BP,hq]
 generalize D:c.argTypes.toList=j at h
 unfold Ft at h
 split at h
 ·rename_i t0 t1 t id v off len x
  match U,d with
  | [u,u'],⟨hr,O,_⟩=>
   obtain⟨⟨h0,h1⟩,h⟩:=h
   split at h
   ·rename_i v' t' l k
    split at h
    ·rename_i J
     obtain⟨W,G,H⟩:=J;obtain rfl:=T.beq_eq G;have r:=T.beq_eq H;obtain⟨l2,L,h⟩:=h;obtain⟨M,hlen,p,m⟩:=L ();obtain rfl:=h _ _ ⟨rfl,rfl⟩;subst M W;obtain⟨hu,ei,z,g1,g2,g3,g4,g5,g6⟩:=(hT t0).sl h0;obtain⟨V,_⟩:=(hT t1).sl h1;rw[<-r] at g2;have hx:Ai (cx X w β (AF s.bk)) x u':=BA O (by intro e;subst e;exact p.elim);have Y:z.cells.size=t'.size:=by have:=(g6 (cx X w β (AF s.bk))).length;rw[FU,<-r] at this;simpa using this.symm
     obtain⟨base,cap,hs,k1,k2,k3⟩:=I7 (BA hr (by simp)) (Cv k).symm
     have K:id<s.bk.length:=by
      rcases Nat.lt_or_ge id s.bk.length with C | C
      ·exact C
      rw[F8 _ _ C] at k;cases k
     obtain⟨a1,w',β',n,S'⟩:=M0 S (ty:=o.type) hu V g1 g5 g2 Y g4 k1 k2 (id:=id) (l:=l.take len) (l2:=l2) (by simp;omega) (by
      rcases k3 with rfl |⟨b,arr,e,q1,q2,q3,q4⟩
      ·exact .inl rfl
      rcases S.blocks id _ k with⟨Z,p2⟩ |⟨b',a2,e',Z,p2,p3⟩
      ·exact absurd (Z.symm.trans q1) (by simp)
      obtain rfl:b'=b:=Option.some.inj (Z.symm.trans q1);refine .inr ⟨b',arr,e,q1,⟨_,k,rfl⟩,by simpa using q2,q3,by simpa using q4,fun i y B=>p3 i y ?_⟩;rw[List.getElem?_take] at B
      split at B
      ·exact B
      cases B) hx p (by rw[g3];exact m) (dst:=o.dst) (vv:=v'+1) (rd:=id::Bk x) K (by rw[Cv k];rfl)
     refine BX (u:=a1) (w':=w') (FT ho hc ?_) (hN β' _ _ S');rw[R _ D,F,hs];simp[builtin,n]
    exact h.elim
   exact h.elim
 exact h.elim
end
end Go.Abs
