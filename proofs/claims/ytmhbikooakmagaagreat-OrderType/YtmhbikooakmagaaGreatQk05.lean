/- Part 6 of a proof. Conditions: each theorem's own. -/
import Derived.Orders
import Derived.Test.YtmhbikooakmagaaGreatQk04
set_option linter.all false
set_option maxHeartbeats 8000000
set_option maxRecDepth 20000
namespace Go.Abs
open Go.RowKit
section
theorem SF {pl:List (Nat×Nat×Bool)} {e e':Operand->AV}:∀{a:List (Nat×Operand)} {cs:List AC},(∀p∈a,e p.2=e' p.2)->Fx pl e a cs=Fx pl e' a cs
 | [],_,_=>rfl
 | (i,x)::r,cs,h=>by
  have b:=h (i,x) (by simp);simp only at b;have d:∀cs,Fx pl e r cs=Fx pl e' r cs:=fun cs=>SF fun p c=>h p (by simp[c])
  simp only[Fx,b,d]
theorem YQ {E:Env} {TI:TypeId->Info} {o:Oper} {d:Nat} {e e':Operand->AV} {bk:Nat->Option AK} {K:BG->Prop} (he:∀x∈o.op.operands,e x=e' x) (h:Bp E TI o d e bk K):Bp E TI o d e' bk K:=by
 unfold Bp at h ⊢;cases r:o.op <;> simp only[r] at h ⊢ <;> (try exact h.elim) <;> rw[r] at he <;> simp only[Op.operands] at he
 case move x=>rw[<-he x (by simp)];exact h
 case assign x=>rw[<-he x (by simp)];exact h
 case nilCheck x=>rw[<-he x (by simp)];exact h
 case pick c x y=>rw[<-he x (by simp),<-he y (by simp),<-he c (by simp)];exact h
 case alloc t=>exact h
 case box t x=>rw[<-he x (by simp)];exact h
 case extract x i=>rw[<-he x (by simp)];exact h
 case load t x=>rw[<-he x (by simp)];exact h
 case store t p x=>rw[<-he x (by simp),<-he p (by simp)];exact h
 case fieldAddr t x i=>rw[<-he x (by simp)];exact h
 case field t x i=>rw[<-he x (by simp)];exact h
 case build t ps=>
  rw[<-SF (e:=e) (e':=e') (fun p j=>he p.2 (by simpa using ⟨p.1,Array.mem_toList_iff.1 j⟩))];exact h
 case buildSlice t n ps=>
  obtain⟨k,v,xs,h3,h⟩:=h;refine⟨k,v,xs,fun u=>?_,h⟩;obtain⟨g1,g2,q,s⟩:=h3 u;have j:∀p∈ps.toList,e p.2=e' p.2:=fun p j=>he p.2 (by simpa using ⟨p.1,Array.mem_toList_iff.1 j⟩)
  refine⟨g1,g2,?_,?_⟩
  ·rw[List.all_eq_true] at q ⊢;intro p g;rw[<-j p g];exact q p g
  rw[<-List.map_congr_left (f:=fun p=>(p.1,(e p.2).cs)) (fun p g=>by rw[j p g])];exact s
 case makeSlice t x y=>rw[<-he x (by simp),<-he y (by simp)];exact h
 case indexAddr t x i=>rw[<-he x (by simp),<-he i (by simp)];exact h
 case slice t x lo hi mx=>
  have k:∀y:Option Operand,(∀z,y=some z->e z=e' z)->y.map e=y.map e':=fun y A=>by cases y <;> simp;exact A _ rfl
  rw[<-he x (by simp),<-k lo (fun z l=>he z (by simp[l])),<-k hi (fun z l=>he z (by simp[l])),<-k mx (fun z l=>he z (by simp[l]))];exact h
 case binOp op t x y t'=>rw[<-he x (by simp),<-he y (by simp)];exact h
 case unOp op t x=>rw[<-he x (by simp)];exact h
 case convert src dst x=>rw[<-he x (by simp)];exact h
 case call c=>
  have a:c.args.toList.map e=c.args.toList.map e':=List.map_congr_left fun x w=>he x (by simp[Call.operands];exact .inr (by simpa using w))
  cases m:c.callee with
  | builtin b=>simp only[m] at h ⊢;rw[<-a];exact h
  | value f=>
   simp only[m] at h ⊢;rw[<-a,<-he f (by simp[Call.operands,m])];exact h
  | invoke _ _=>simp only[m] at h
theorem Fo {bk Bg:Nat->Option AK} {id:Nat} (h:bk id=Bg id):AO bk id=AO Bg id:=by simp[AO,h]
theorem Iu {bk Bg:Nat->Option AK} {c d:AC} (h:∀id∈BY c,bk id=Bg id) (a:C9 bk c d):C9 Bg c d:=by
 cases c <;> first | exact a | skip
 case AN t id v off len=>obtain⟨l,b,f⟩:=a;exact⟨l,(h id (by simp[BY])) ▸ b,f⟩
theorem Qo {bk Bg:Nat->Option AK}:∀{l m:List AC},(∀id∈l.flatMap BY,bk id=Bg id)->Aj (C9 bk) l m->Aj (C9 Bg) l m
 | [],[],_,h=>h
 | c::l,_::_,b,h=>⟨Iu (fun id a=>b id (by simp[a])) h.1,Qo (fun id a=>b id (by rw[List.flatMap_cons];exact List.mem_append_right _ a)) h.2⟩
 |[],_::_,_,h|_::_,[],_,h=>h
theorem H6 {bk Bg:Nat->Option AK}:∀{l m:List AV},(∀id∈BR l,bk id=Bg id)->D3 (C9 bk) l m->D3 (C9 Bg) l m
 | [],[],_,h=>h
 | .one c::l,.one _::_,b,h=>⟨Iu (fun id a=>b id (by simp[BR,a])) h.1,H6 (fun id a=>b id (by simp[BR,a])) h.2⟩
 | .agg cs::l,.agg _::_,b,h=>⟨Qo (fun id a=>b id (by rw[BR];exact List.mem_append_left _ a)) h.1,H6 (fun id a=>b id (by rw[BR];exact List.mem_append_right _ a)) h.2⟩
 |.AI _::_,.AI _::_,_,h|.one _::_,.agg _::_,_,h|.one _::_,.AI _::_,_,h|.agg _::_,.one _::_,_,h|.agg _::_,.AI _::_,_,h|.AI _::_,.one _::_,_,h|.AI _::_,.agg _::_,_,h=>h.1.elim
 |[],_::_,_,h|_::_,[],_,h=>h
theorem YC {E:Env} {g:FuncId} {args:List AV} {d:Nat} {bk Bg:Nat->Option AK} {f:BG} (hb:∀id∈f.rd,bk id=Bg id) (h:GO E g args d bk (fun g=>g=f)):GO E g args d Bg (fun g=>g=f):=by
 rcases h with⟨a,r,c,k,h⟩ |⟨a,r,c,k,h⟩ | h |⟨i,b,a,r,c,k,h⟩ |⟨i,b,a,r,c,k,h⟩ | h
 rotate_left 3
 ·subst h;exact .inr (.inr (.inr (.inl ⟨i,b,a,r,fun u=>⟨(hb i (by simp)).symm.trans (c u).1,(c u).2⟩,k,rfl⟩)))
 ·subst h;refine .inr (.inr (.inr (.inr (.inl ⟨i,b,a,r,fun u=>?_,k,rfl⟩))));obtain⟨⟨g1,g2,o⟩,p⟩:=c u;refine⟨⟨g1,(hb i (by simp)).symm.trans g2,o⟩,H6 (fun id j=>hb id ?_) p⟩;have:=List.all_eq_true.1 o id j;simp at this;simp[this]
 ·unfold GO
  split at h
  ·split at h
   ·rename_i l
    split at h
    ·rename_i m
     obtain⟨a,l',c,k,h⟩:=h;have h:=h _ rfl;subst h;refine .inr (.inr (.inr (.inr (.inr ?_))));have:=hb _ (List.mem_cons_self ..);rw[l] at this;simp only[<-this,if_pos m];exact⟨a,l',fun u=>⟨(c u).1,(c u).2.1,H6 (fun id j=>hb id (by simp[j])) (c u).2.2⟩,k,fun n q=>by subst q;rfl⟩
    exact h.elim
   exact h.elim
  exact h.elim
 ·subst h;exact .inl ⟨a,r,c,k,by rw[Fo (hb d (by simp))]⟩
 ·subst h;exact .inr (.inl ⟨a,r,fun u=>H6 (fun id j=>hb id (by simp[j])) (c u),k,by rw[Fo (hb d (by simp))]⟩)
 unfold GO
 split at h
 ·split at h
  ·rename_i s
   split at h
   ·rename_i l
    split at h
    ·rename_i m
     obtain⟨a,r,b1,c,k,h⟩:=h;subst h;refine .inr (.inr (.inl ?_));have:=hb _ (List.mem_cons_self ..);rw[l] at this;simp only[<-this,if_pos m];exact⟨a,r,b1,fun u=>⟨(c u).1,H6 (fun id j=>hb id (by simp[j])) (c u).2⟩,k,rfl⟩
    exact h.elim
   exact h.elim
  exact h.elim
 exact h.elim
theorem YV {u:T} {x:AV} {lo d mx:Option AV} {bk Bg:Nat->Option AK} {f:BG} (hb:∀id∈f.rd,bk id=Bg id) (h:Gr bk u x lo d mx (fun g=>g=f)):Gr Bg u x lo d mx (fun g=>g=f):=by
 unfold Gr at h ⊢
 split at h
 ·exact h
 ·obtain⟨i,h⟩:=h;refine⟨i,?_⟩
  split at h
  ·rename_i j
   obtain⟨a,b,c,k,h3⟩:=Ku h;have h3:=h3 _ _ ⟨rfl,rfl⟩;cases c <;> subst h3 <;> rw[if_pos ((Fo (hb _ (List.mem_singleton.2 rfl))).symm.trans j)] <;> exact h
  exact h.elim
 ·exact h
 exact h.elim
theorem Qe {TI:TypeId->Info} {b:Builtin} {k:List TypeId} {args:List AV} {d:Nat} {bk Bg:Nat->Option AK} {f:BG} (hb:∀id∈f.rd,bk id=Bg id) (h:D2 TI b k args d bk (fun g=>g=f)):D2 TI b k args d Bg (fun g=>g=f):=by
 unfold D2 at h ⊢
 split at h
 ·exact h
 ·obtain⟨i,h⟩:=h
  split at h
  ·rename_i j
   have h3:=h _ ⟨rfl⟩;subst h3;exact⟨i,by rw[if_pos ((Fo (hb _ (List.mem_singleton.2 rfl))).symm.trans j)];exact h⟩
  exact h.elim
 ·obtain⟨i,h⟩:=h
  split at h
  ·rename_i j
   have h3:=h _ ⟨rfl⟩;subst h3;exact⟨i,by rw[if_pos ((Fo (hb _ (List.mem_singleton.2 rfl))).symm.trans j)];exact h⟩
  exact h.elim
 ·exact h
 ·exact h
 ·exact h
 ·exact h
 ·obtain⟨i,l2,a,h⟩:=h;have h3:=h _ rfl;subst h3;refine⟨i,l2,fun u=>⟨Iu (fun id c=>hb id (by simp[c])) (a u).1,(a u).2⟩,?_⟩;rw[<-Fo (hb d (by simp))];exact h
 ·obtain⟨i,h⟩:=h;refine⟨i,?_⟩
  split at h
  ·rename_i l
   split at h
   ·rename_i j
    obtain⟨l2,a,h⟩:=h;have h3:=h _ _ ⟨rfl,rfl⟩;subst h3;have:=hb _ (List.mem_cons_self ..);rw[l] at this;simp only[<-this,if_pos j];exact⟨l2,fun u=>⟨(a u).1,(a u).2.1,Iu (fun id c=>hb id (by simp[c])) (a u).2.2.1,(a u).2.2.2⟩,h⟩
   exact h.elim
  exact h.elim
 ·obtain⟨i,h⟩:=h;refine⟨i,?_⟩
  split at h
  ·rename_i l
   split at h
   ·rename_i j
    obtain⟨l2,a,h⟩:=h;have h3:=h _ _ ⟨rfl,rfl⟩;subst h3;have:=hb _ (List.mem_cons_self ..);rw[l] at this;simp only[<-this,if_pos j];exact⟨l2,fun u=>⟨(a u).1,(a u).2.1,Iu (fun id c=>hb id (by simp[c])) (a u).2.2.1,(a u).2.2.2⟩,h⟩
   exact h.elim
  exact h.elim
 exact h.elim
theorem YG {TI:TypeId->Info} {a:List TypeId} {args:List AV} {bk Bg:Nat->Option AK} {f:BG} (hb:∀id∈f.rd,bk id=Bg id) (h:FL TI a args bk (fun g=>g=f)):FL TI a args Bg (fun g=>g=f):=by
 unfold FL at h ⊢
 split at h
 ·obtain⟨d,h⟩:=h;refine⟨d,?_⟩
  split at h
  ·rename_i i
   split at h
   ·rename_i j
    obtain⟨l2,b,h⟩:=h;have h3:=h _ _ ⟨rfl,rfl⟩;subst h3;have:=hb _ (List.mem_cons_self ..);rw[i] at this;simp only[<-this,if_pos j];exact⟨l2,fun u=>⟨(b u).1,(b u).2.1,Iu (fun id c=>hb id (by simp[c])) (b u).2.2.1,(b u).2.2.2⟩,h⟩
   exact h.elim
  exact h.elim
 exact h.elim
theorem YP {E:Env} {TI:TypeId->Info} {o:Oper} {d:Nat} {e:Operand->AV} {bk Bg:Nat->Option AK} {f:BG} (hb:∀id∈f.rd,bk id=Bg id) (h:Bp E TI o d e bk (fun g=>g=f)):Bp E TI o d e Bg (fun g=>g=f):=by
 have u:∀{id v:Nat},AO bk id=v->id∈f.rd->AO Bg id=v:=fun a k=>(Fo (hb _ k)).symm.trans a
 have s:∀{id:Nat} {b:AK},bk id=some b->id∈f.rd->Bg id=some b:=fun a k=>(hb _ k).symm.trans a
 unfold Bp at h ⊢;cases J:o.op <;> simp only[J] at h ⊢ <;> (try exact h)
 case nilCheck x=>
  split at h
  ·split at h
   ·rename_i j
    rw[if_pos (u j (by rw[<-h];simp))];exact h
   exact h.elim
  ·exact h
  exact h.elim
 case alloc t=>rw[<-Fo (hb d (by rw[<-h.2];simp))];exact h
 case box t x=>
  split at h
  ·exact h.elim
  ·exact h.elim
  rw[<-Fo (hb d (by rw[<-h];simp))];exact h
 case load t x=>
  simp only[JY] at h ⊢;obtain⟨a,h⟩:=h;refine⟨a,?_⟩
  split at h
  ·split at h
   ·rename_i w
    split at h
    ·rename_i j
     simp only[s w (by rw[<-h];simp),if_pos j];exact h
    exact h.elim
   exact h.elim
  ·exact h
  ·split at h
   ·rename_i w
    split at h
    ·rename_i j
     have h':=h;obtain⟨z,k,h⟩:=h
     split at h
     ·simp only[s w (by rw[<-h];simp),if_pos j];exact h'
     exact h.elim
    exact h.elim
   exact h.elim
  exact h.elim
 case store t p x=>
  obtain⟨a,h⟩:=h;refine⟨a,?_⟩
  split at h
  ·split at h
   ·exact h.elim
   ·exact h.elim
   ·rename_i w G H
    split at h
    ·rename_i j
     rw[s w (by rw[<-h];simp)]
     split
     ·rename_i B;exact (G _ B).elim
     ·rename_i B;exact (H B).elim
     ·rename_i A _ _;cases Option.some.inj A;rw[if_pos j];exact h
     rename_i p q r;first | exact (p _ _ rfl).elim | exact (q _ _ rfl).elim | exact (r _ _ rfl).elim
    exact h.elim
   exact h.elim
  ·split at h
   ·exact h.elim
   ·exact h.elim
   ·rename_i w G H
    split at h
    ·rename_i j
     have h':=h;obtain⟨z,k,h⟩:=h;rw[s w (by rw[<-h _ rfl];simp)]
     split
     ·rename_i B;exact (G _ B).elim
     ·rename_i B;exact (H B).elim
     ·rename_i A _ _;cases Option.some.inj A;rw[if_pos j];exact h'
     rename_i p q r;first | exact (p _ _ _ rfl).elim | exact (q _ _ _ rfl).elim | exact (r _ _ _ rfl).elim
    exact h.elim
   exact h.elim
  exact h.elim
 case fieldAddr t x i=>
  obtain⟨a,h⟩:=h;refine⟨a,?_⟩
  split at h
  ·split at h
   ·rename_i j;rw[if_pos (u j (by rw[<-h];simp))];exact h
   exact h.elim
  ·exact h
  ·split at h
   ·rename_i j;rw[if_pos (u j (by rw[<-h];simp))];exact h
   exact h.elim
  exact h.elim
 case buildSlice t n ps=>
  obtain⟨a,k,xs,h3,h | h⟩:=h
  ·rw[<-Fo (hb d (by rw[<-h];simp))];exact⟨a,k,xs,h3,.inl h⟩
  exact⟨a,k,xs,h3,.inr h⟩
 case makeSlice t x y=>
  obtain⟨a,h⟩:=h;refine⟨a,?_⟩
  split at h
  ·rw[<-Fo (hb d (by rw[<-h.2 _ _ ⟨rfl,rfl⟩];simp))];exact h
  exact h.elim
 case indexAddr t x i=>
  obtain⟨a,h⟩:=h;refine⟨a,?_⟩
  split at h
  ·exact h
  ·obtain⟨k,h⟩:=h
   split at h
   ·rename_i j;exact⟨k,by rw[if_pos (u j (by rw[<-h.2 _ rfl];simp))];exact h⟩
   exact h.elim
  exact h.elim
 case slice t x lo hi mx=>exact⟨h.1,YV hb h.2⟩
 case call c=>
  cases C:c.callee with
  | builtin b=>
   simp only[C] at h ⊢;rcases GN.1 h with h |⟨m,h⟩ |⟨m,h⟩
   ·exact GN.2 (.inl (Qe hb h))
   ·obtain⟨g,a,k⟩:=JJ (fun t l D=>absurd (M1 m h) (by rw[D];exact (by decide:¬(1=2)))) h;obtain⟨t,id,v,n,l,K,_,_,I,F⟩:=O0 k;have h3:=Qe (Bg:=Bg) (f:=g) (fun i hi=>hb i (by rw[<-I];exact hi)) (a _ rfl);obtain⟨g2,k1,k2⟩:=JJ (fun t l D=>absurd (M1 m h) (by rw[D];exact (by decide:¬(1=2)))) h3;subst k2;exact GN.2 (.inr (.inl ⟨m,k1 _ (F _ I)⟩))
   exact GN.2 (.inr (.inr ⟨m,YG hb h⟩))
  | value g=>
   simp only[C] at h ⊢
   split at h
   ·exact YC hb h
   exact h.elim
  | invoke _ _=>simp only[C] at h
end
def LH (o:Oper):Bool:=
 match o.op with
 |.alloc _|.box _ _|.makeSlice _ _ _|.buildSlice _ _ _=>o.dst.isSome
 | .call c=>match c.callee with
  | .builtin _=>o.dst.isSome
  | _=>true
 | _=>true
section
variable {P:Program} {TI:TypeId->Info}
theorem Av.dJ {w0:World} {X:WX} {β:Nat->Option Nat} {s:St} {a:Act} {w:World} {q id v:Nat} {t:T} {l:List (el t)} {rd H:List Nat}
  (S:Av w0 X β (s.app (some q) ⟨.one (.AN t id v 0 l.length),[(id,.arr v t l)],rd⟩) a w) (f:id<s.bk.length) (O:id≠0):
  Av w0 X β (s.app (some q) ⟨.one (.sl t l),[(id,.dead v)],H⟩) a w:=by
 have p:∀k,AF (Al s.bk id (some (.arr v t l))) k=if k=id then some (.arr v t l) else AF s.bk k:=fun k=>by
  rw[FZ];by_cases h:k=id <;> simp[h,f]
 have u:∀k,AF (Al s.bk id (some (.dead v))) k=if k=id then some (.dead v) else AF s.bk k:=fun k=>by
  rw[FZ];by_cases h:k=id <;> simp[h,f]
 have n:∀k,AO (AF (Al s.bk id (some (.dead v)))) k=AO (AF (Al s.bk id (some (.arr v t l)))) k:=fun k=>by
  rw[EC _ _ _ f,EC _ _ _ f];rfl
 have g:∀k,live (AF (Al s.bk id (some (.dead v)))) k->live (AF (Al s.bk id (some (.arr v t l)))) k/\k≠id:=fun k d=>by
  rw[FW _ _ _ f] at d
  by_cases h:k=id
  ·rw[if_pos h] at d;simp[AK.live] at d
  rw[if_neg h] at d;exact⟨by rw[FW _ _ _ f,if_neg h];exact d,h⟩
 have x:live (AF (Al s.bk id (some (.arr v t l)))) id:=by rw[FW _ _ _ f,if_pos rfl];rfl
 have hle:(cx X w β (AF (Al s.bk id (some (.arr v t l))))).le (cx X w β (AF (Al s.bk id (some (.dead v))))):=
  ⟨fun k=>Nat.le_of_eq (n k).symm,fun _ _=>rfl,fun k b arr e _ _ U=>⟨arr,U,rfl⟩,fun b hb=>⟨⟨⟨hb.1.1,fun k d=>hb.1.2 k (g k d).1⟩,hb.2⟩,rfl⟩⟩
 have C:∀b o,w.heap[b]? =some o->b<w.heap.size:=fun b o h=>by
  rcases Nat.lt_or_ge b w.heap.size with h' | h'
  ·exact h'
  simp[Array.getElem?_eq_none h'] at h
 refine⟨S.defers,by have:=S.len;simpa [St.app,EX,Ek] using this,by have:=S.F2;simpa [St.app,CD,Ek] using this,fun i=>?_,fun k b d=>?_,fun k k' b d c hb z=>S.inj k k' b (g k d).1 (g k' c).1 hb z,
  fun k b d hb=>S.own k b (g k d).1 hb,S.os,S.tape,S.output,S.size,S.block,fun k b d=>?_,S.fresh,fun V Z=>?_⟩
 ·have Y:=S.Bf i
  show BB _ (nth (Al s.sl q (.one (.sl t l))) i) _
  have m:BB (cx X w β (AF (Al s.bk id (some (.arr v t l))))) (nth (Al s.sl q (.one (.AN t id v 0 l.length))) i) (a.tmps.getD i undef):=Y;rw[Hf] at m ⊢
  by_cases h:i=q/\q<s.sl.length
  ·rw[if_pos h] at m ⊢;have R:=BE m (by simp)
   have F:v=(cx X w β (AF (Al s.bk id (some (.arr v t l))))).cv id:=by
    show v=AO _ id
    rw[EC _ _ _ f,if_pos rfl];rfl
   obtain⟨base,cap,hu,g1,g2,N⟩:=IZ R F;refine .inr ?_
   show rep w _ (.sl t) l [_]
   have D:l.length<=140737488355328:=S.lens id (.arr v t l) (by show AF (Al s.bk id (some (.arr v t l))) id=_;rw[p,if_pos rfl]);refine⟨base,cap,by rw[hu],g1,D,?_⟩
   by_cases r:l=[]
   ·exact .inl r
   right
   have W:0<l.length:=List.length_pos_iff.2 r;rcases N with rfl |⟨b,arr,e,G,M,q3,q4⟩
   ·omega
   rcases S.blocks id (.arr v t l) (by show AF (Al s.bk id (some (.arr v t l))) id=_;rw[p,if_pos rfl]) with⟨K,L⟩ |⟨b',J,e',K,L,p3⟩
   ·exact absurd L r
   obtain rfl:b'=b:=Option.some.inj (K.symm.trans G);rw[Nat.zero_mul] at M
   have Q:X.A b':=by
    rcases S.own id b' x G with h | h
    ·exact S.fresh b' h
    exact absurd h.2 O
   refine⟨b',0,M,⟨⟨C _ _ q3,fun k d e=>(g k d).2 (S.inj k id b' (g k d).1 x e G)⟩,Q⟩,fun j y hy=>?_⟩;obtain⟨us,k1,k2⟩:=p3 j y hy;exact⟨us,B3 hle.I _ _ _ k1,by rw[Nat.zero_add];exact k2⟩
  rw[if_neg h] at m ⊢;exact BB.mono hle m
 ·have c:AF (Al s.bk id (some (.dead v))) k=some b:=d;rw[u] at c
  by_cases h:k=id
  ·rw[if_pos h] at c;cases Option.some.inj c
   trivial
  rw[if_neg h] at c;have hb:AF (Al s.bk id (some (.arr v t l))) k=some b:=by rw[p,if_neg h];exact c
  exact B5.mono hle (n k) (fun _ _=>rfl) (S.blocks k b hb)
 ·have c:AF (Al s.bk id (some (.dead v))) k=some b:=d;rw[u] at c
  by_cases h:k=id
  ·rw[if_pos h] at c;cases Option.some.inj c
   trivial
  rw[if_neg h] at c;exact S.lens k b (by show AF (Al s.bk id (some (.arr v t l))) k=_;rw[p,if_neg h];exact c)
 have B:=g 0 V;exact S.IN B.1 ((n 0).symm.trans Z)
theorem de (y:∀t,Ck P t (TI t)) {o:Oper} {c:Call} {b:Builtin} (r:o.op= .call c) (m:c.callee= .builtin b) (p:o.dst≠none):Sound P (env P) TI o:=by
 intro w0 X β s a w S f h N Q k;simp only[Bp,r,m] at h;rcases GN.1 h with h |⟨hb,h⟩ |⟨hb,J⟩
 ·exact VQ y r m p S h k
 ·obtain⟨g,C,I⟩:=JJ (fun t l O=>absurd (M1 hb h) (by rw[O];exact (by decide:¬(1=2)))) h;obtain⟨t,id,v,n,l,D,H,R,K,_⟩:=O0 I;subst R;obtain⟨q,z⟩:=Option.ne_none_iff_exists'.1 p;rw[z] at k;refine VQ y r m p S (C _ rfl) (fun β' G w' j=>k β' G w' ?_);rw[z,D] at j;rw[<-K]
  by_cases i:id<s.bk.length
  ·exact j.dJ i H
  have d:s.bk.length<=id:=Nat.le_of_not_lt i;have L:BD o=q:=by simp[BD,z]
  rcases YS hb (C _ rfl) (by rw[D]) with e |⟨x,F⟩
  ·have A:s.sl.length<=q:=by
    have u:=S.len;have T:=S.F2;omega
   have u:∀(f:BG) (B:AK),f.ws=[(id,B)]->s.app (some q) f=s:=fun f B M=>by
    unfold St.app;rw[M];simp only[EX,CD,Ff _ _ _ A,Ff _ _ _ d]
   rw[u _ _ rfl] at j;rw[u _ _ rfl];exact j
  rw[F3 _ _ d] at F;cases F
 subst hb;exact dX y r m p S J k
theorem O8 (j:∀t,Ck P t (TI t)) (o:Oper) (k:LH o=true):Sound P (env P) TI o:=by
 unfold LH at k;have l:o.dst.isSome=true->o.dst≠none:=fun h e=>by simp[e] at h
 cases g:o.op <;> simp only[g] at k
 case move x=>(intro w0 X β s a w S f h N Q d;exact dr g S h d)
 case assign x=>(intro w0 X β s a w S f h N Q d;exact dZ g S h d)
 case nilCheck x=>(intro w0 X β s a w S f h N Q d;exact dt g S h d)
 case pick c x y=>(intro w0 X β s a w S f h N Q d;exact du g S h d)
 case alloc t=>(intro w0 X β s a w S f h N Q d;exact dY j g (l k) S h d)
 case box t x=>(intro w0 X β s a w S f h N Q d;exact db g (l k) S h d)
 case extract x i=>(intro w0 X β s a w S f h N Q d;exact dg g S h d)
 case load t x=>(intro w0 X β s a w S f h N Q d;exact dk j g S h d)
 case store t p x=>(intro w0 X β s a w S f h N Q d;exact dw j g S h d)
 case fieldAddr t x i=>(intro w0 X β s a w S f h N Q d;exact di j g S h d)
 case field t x i=>(intro w0 X β s a w S f h N Q d;exact dh j g S h d)
 case build t ps=>(intro w0 X β s a w S f h N Q d;exact dc j g S h d)
 case buildSlice t n ps=>(intro w0 X β s a w S f h N Q d;exact dd j g (l k) S h d)
 case makeSlice t x y=>(intro w0 X β s a w S f h N Q d;exact dm j g (l k) S h d)
 case indexAddr t x i=>(intro w0 X β s a w S f h N Q d;exact dj j g S h d)
 case slice t x lo hi mx=>(intro w0 X β s a w S f h N Q d;exact dv j g S h d)
 case binOp op t x y t'=>(intro w0 X β s a w S f h N Q d;exact da j g S h d)
 case unOp op t x=>(intro w0 X β s a w S f h N Q d;exact dx g S h d)
 case convert src dst x=>(intro w0 X β s a w S f h N Q d;exact df j g S h d)
 case call c=>
  cases m:c.callee with
  | builtin b=>simp only[m] at k;(intro w0 X β s a w S f h N Q d;exact de j g m (l k) S h d)
  | value f=>(intro w0 X β s a w S f h N Q d;exact dW o g m S h d)
  | invoke _ _=>intro w0 X β s a w S f h N Q d;simp only[Bp,g,m] at h
 all_goals (intro w0 X β s a w S f h N Q d;simp only[Bp,g] at h)
end
section
variable {P:Program} {E:Env} {TI:TypeId->Info}
def EJ (E:Env) (TI:TypeId->Info) (all:List Oper) (o:Oper) (f:BG) (s:St):Prop:=
 match o.guard with
 | none=>Bp E TI o (BD o) (ev s.sl) (AF s.bk) (fun g=>g=f)
 | some (j,w)=>∃g,LW all j=some g/\
  ((nth s.sl g= .one (.bool w)/\Bp E TI o (BD o) (ev s.sl) (AF s.bk) (fun g=>g=f))\/
    ((nth s.sl g= .one (.bool (!w))\/nth s.sl g= .AI [])/\f=⟨.AI [],[],[]⟩))
def chain (E:Env) (TI:TypeId->Info) (all:List Oper):List Oper->List BG->St->Prop
 | [],[],_=>True
 | o::r,f::fs,s=>EJ E TI all o f s/\chain E TI all r fs (s.app o.dst f)
 | _,_,_=>False
def fin:List Oper->List BG->St->St
 | o::r,f::fs,s=>fin r fs (s.app o.dst f)
 | _,_,s=>s
def I0 (f:BG):List Nat×List Nat:=(f.rd,f.ws.map (·.1))
theorem fN {o:Oper} {a:Act} {w:World} {N:Act->World->Prop} (h:o.wp P a w N (fun _ _ _=>False)):∃b w',N b w':=by
 unfold Oper.wp at h
 generalize (execOp a.eval o).run P w=r at h
 unfold Oper.upon at h
 split at h
 ·exact⟨_,_,h⟩
 ·exact⟨_,_,h⟩
 ·exact⟨_,_,h⟩
 ·obtain⟨e,w',c,hR,_⟩:=h [];cases e with
  | returned v=>exact⟨_,_,hR⟩
  | panicked _=>exact hR.elim
  | outgrown=>obtain⟨_,_,h⟩:=hR;exact h.elim
 ·obtain⟨v,w',hR,_⟩:=h default [];exact⟨_,_,hR⟩
 ·exact h.elim
 exact h.elim
theorem RF {w0:World} {X:WX} {β:Nat->Option Nat} {s:St} {a:Act} {w:World} (S:Av w0 X β s a w) {g:Nat} {b:Bool} (h:nth s.sl g= .one (.bool b)):a.tmps[g]? =some (.bool b):=by
 have d:=S.Bf g;rw[h] at d;have c:a.tmps.getD g undef= .bool b:=BE d (by simp);rcases Nat.lt_or_ge g a.tmps.size with h3 | h3
 ·simp[Array.getD,h3] at c;simp[h3,c]
 simp[Array.getD,Nat.not_lt.2 h3,undef] at c
theorem Oa {ops:Array Oper} {o:Oper} (q:Sound P E TI o) {w0:World} {X:WX} {β:Nat->Option Nat} {s:St} {a:Act} {w:World} (S:Av w0 X β s a w) {f:BG} (h:EJ E TI ops.toList o f s)
  {N:Act->World->Prop} {Q:Exit->Act->World->Prop} (m:∀β' n w',Av w0 X β' (s.app o.dst f) n w'->N n w'):
  if Region.wanted o (yielded ops a.tmps) then o.wp P a w N Q else N (a.put o.dst undef) w:=by
 unfold EJ at h
 split at h
 ·rename_i l
  simp only[Region.wanted,l,if_true];exact q S h m
 rename_i j want l
 obtain⟨g,r,h3⟩:=h;have b:(ops[j]?).bind (·.dst)=some g:=by simpa [LW] using r
 rcases h3 with⟨c,h3⟩ |⟨c,rfl⟩
 ·have d:yielded ops a.tmps j=some want:=by simp[yielded,b,RF S c]
  simp only[Region.wanted,l,d,beq_self_eq_true,if_true];exact q S h3 m
 have d:(yielded ops a.tmps j==some want)=false:=by
  rcases c with c | c
  ·have d:yielded ops a.tmps j=some (!want):=by simp[yielded,b,RF S c]
   rw[d];cases want <;> rfl
  have d:yielded ops a.tmps j=none:=by
   have p:=S.Bf g;rw[c] at p;obtain⟨arr,i,_⟩:=p;have i:a.tmps.getD g undef= .tuple arr:=i;unfold yielded;simp only[b,Option.bind_some];rcases Nat.lt_or_ge g a.tmps.size with k | k
   ·simp[Array.getD,k] at i;simp[k,i]
   simp[k]
  rw[d];rfl
 simp only[Region.wanted,l,d,Bool.false_eq_true,if_false];exact m β _ w (S.val ⟨#[],rfl,trivial⟩)
theorem bj {ops:Array Oper} {o:Oper} (c:Sound P E TI o) {w0:World} {X:WX} {β:Nat->Option Nat} {s:St} {a:Act} {w:World} (S:Av w0 X β s a w) {f:BG} (h:EJ E TI ops.toList o f s):
  ∃β' b w',Av w0 X β' (s.app o.dst f) b w':=by
 have:=Oa (N:=fun b w'=>∃β',Av w0 X β' (s.app o.dst f) b w') (Q:=fun _ _ _=>False) c S h fun β' b w' h=>⟨β',h⟩
 split at this
 ·obtain⟨b,w',β',h⟩:=fN this;exact⟨β',b,w',h⟩
 obtain⟨β',h⟩:=this;exact⟨β',_,_,h⟩
theorem O6 {w0:World} {X:WX} {β:Nat->Option Nat} {s:St} {a:Act} {w:World} (S:Av w0 X β s a w) (x:Operand) (t:T) (l:List (el t)) (h:ev s.sl x= .one (.sl t l)):l.length<=140737488355328:=by
 have b:=B7 S.Bf x;rw[h] at b;obtain⟨_,_,_,_,c,_⟩:=BE b (by simp);exact c
theorem Ut {ops:Array Oper} {draw:Bool} {w0:World} {X:WX} {Q:St->Prop}:∀{r:List Oper} {tr:Tr} {β:Nat->Option Nat} {s:St} {a:Act} {w:World},(∀o∈r,Sound P E TI o)->Av w0 X β s a w->
  Fc E TI ops.toList draw r tr Q s->∃fs,chain E TI ops.toList r fs s/\Q (fin r fs s)/\(draw=true->G7 ops.toList (tr.reverse++fs.map I0)=true)
 | [],tr,β,s,a,w,_,_,h=>by
  refine⟨[],trivial,?_,?_⟩
  ·cases draw
   ·exact h
   exact h.2
  rintro rfl;simpa using h.1 ()
 | o::r,tr,β,s,a,w,k,S,h=>by
  have go:∀f,EJ E TI ops.toList o f s->Fc E TI ops.toList draw r (I0 f::tr) Q (s.app o.dst f)->
    ∃fs,chain E TI ops.toList (o::r) fs s/\Q (fin (o::r) fs s)/\(draw=true->G7 ops.toList (tr.reverse++fs.map I0)=true):=by
   intro f c d;obtain⟨β',q,w',l⟩:=bj (k o (by simp)) S c;obtain⟨fs,g1,g2,m⟩:=Ut (fun o p=>k o (by simp[p])) l d;exact⟨f::fs,⟨c,g1⟩,g2,fun n=>by have:=m n;simpa using this⟩
  unfold Fc at h
  split at h
  ·rename_i i
   obtain⟨f,c,d⟩:=M0 (O6 S) h;exact go f (by unfold EJ;rw[i];exact c _ rfl) d
  rename_i j want i
  split at h
  ·exact h.elim
  rename_i g b
  split at h
  ·rename_i hb
   obtain⟨f,c,d⟩:=M0 (O6 S) h;exact go f (by unfold EJ;rw[i];exact⟨g,b,.inl ⟨hb,c _ rfl⟩⟩) d
  ·rename_i hb
   obtain⟨f,c,d⟩:=M0 (O6 S) h;exact go f (by unfold EJ;rw[i];exact⟨g,b,.inl ⟨hb,c _ rfl⟩⟩) d
  ·rename_i hb
   exact go ⟨.AI [],[],[]⟩ (by unfold EJ;rw[i];exact⟨g,b,.inr ⟨.inl hb,rfl⟩⟩) h
  ·rename_i hb
   exact go ⟨.AI [],[],[]⟩ (by unfold EJ;rw[i];exact⟨g,b,.inr ⟨.inl hb,rfl⟩⟩) h
  ·rename_i hb
   exact go ⟨.AI [],[],[]⟩ (by unfold EJ;rw[i];exact⟨g,b,.inr ⟨.inr hb,rfl⟩⟩) h
  exact h.elim
theorem WD {ops:Array Oper} {w0:World} {X:WX} {Q:Exit->Act->World->Prop}:∀{r:List Oper} {fs:List BG} {k:Nat} {β:Nat->Option Nat} {s:St} {a:Act} {w:World},(∀j,ops[k+j]? =r[j]?)->(∀o∈r,Sound P E TI o)->Av w0 X β s a w->
  chain E TI ops.toList r fs s->(∀β a w,Av w0 X β (fin r fs s) a w->Q .normal a w)->wpOps P ops Q (List.range' k r.length) a w
 | [],[],k,β,s,a,w,_,_,S,_,b=>b β a w S
 | o::r,f::fs,k,β,s,a,w,d,g,S,c,b=>by
  have l:ops[k]? =some o:=by simpa using d 0
  have:=Oa (Q:=Q) (N:=wpOps P ops Q (List.range' (k+1) r.length)) (g o (by simp)) S c.1 fun β' n w' i=>
   WD (fun j=>by have:=d (j+1);rw[show k+1+j=k+(j+1) by omega];simpa using this) (fun o m=>g o (by simp[m])) i c.2 b
  simp only[List.length_cons,List.range'_succ,wpOps,l]
  split
  ·rename_i hw;rw[if_pos hw] at this;exact .inl this
  rename_i hw;rw[if_neg hw] at this;exact this
 |[],_::_,_,_,_,_,_,_,_,_,h,_|_::_,[],_,_,_,_,_,_,_,_,h,_=>h.elim
end
section
variable {P:Program} {E:Env} {TI:TypeId->Info}
def run (m:Nat->Bool):Nat->List Oper->List BG->St->St
 | k,o::r,f::fs,s=>run m (k+1) r fs (if m k then s.app o.dst f else s)
 | _,_,_,s=>s
theorem Uu {m:Nat->Bool}:∀{r:List Oper} {fs:List BG} {k:Nat} {s:St},(∀j,k<=j->j<k+r.length->m j=true)->run m k r fs s=fin r fs s
 | o::r,f::fs,k,s,h=>by
  simp only[run,fin];rw[h k (Nat.le_refl _) (by simp),if_pos rfl];exact Uu fun j a b=>h j (by omega) (by simp;omega)
 |[],_,_,_,_|_::_,[],_,_,_=>rfl
theorem Tc (s:St) (d:Option Nat) (f:BG) (x:Nat) (h:d≠some x):nth (s.app d f).sl x=nth s.sl x:=by
 cases d with
 | none=>rfl
 | some q=>
  show nth (Al s.sl q f.v) x=_
  rw[Hf,if_neg]
  rintro⟨rfl,_⟩;exact h rfl
theorem Jn (s:St) (d:Option Nat) (f:BG):(s.app d f).sl.length=s.sl.length:=by
 cases d with
 | none=>rfl
 | some q=>exact Ek _ _ _
theorem Jp:∀(ws:List (Nat×AK)) (l:List (Option AK)),(CD ws l).length=l.length
 | [],_=>rfl
 | p::ws,l=>by rw[CD,Jp ws,Ek]
theorem OM:∀(ws:List (Nat×AK)) (l:List (Option AK)) (x:Nat),x ∉ ws.map (·.1)->AF (CD ws l) x=AF l x
 | [],_,_,_=>rfl
 | p::ws,l,x,h=>by
  rw[CD,OM ws _ x (fun h'=>h (by simp at h' ⊢;exact .inr h')),FZ,if_neg]
  rintro⟨rfl,_⟩;exact h (by simp)
theorem Th:∀(ws:List (Nat×AK)) (l l':List (Option AK)) (x:Nat),l.length=l'.length->AF l x=AF l' x->AF (CD ws l) x=AF (CD ws l') x
 | [],_,_,_,_,h=>h
 | p::ws,l,l',x,a,h=>Th ws _ _ x (by simp[Ek,a]) (by rw[FZ,FZ,a,h])
theorem KI {m1 m2:Nat->Bool} {x:Nat}:∀{r:List Oper} {fs:List BG} {k:Nat} {s s':St},(∀j o,r[j]? =some o->m1 (k+j)≠m2 (k+j)->o.dst≠some x)->nth s.sl x=nth s'.sl x->s.sl.length=s'.sl.length->
  nth (run m1 k r fs s).sl x=nth (run m2 k r fs s').sl x
 | o::r,f::fs,k,s,s',h,a,b=>by
  have i:=h 0 o rfl;simp only[Nat.add_zero] at i;have g:∀j o',r[j]? =some o'->m1 (k+1+j)≠m2 (k+1+j)->o'.dst≠some x:=fun j o' l hm=>h (j+1) o' (by simpa using l) (by rw[show k+(j+1)=k+1+j by omega];exact hm)
  simp only[run];cases c:m1 k <;> cases d:m2 k <;> simp only[Bool.false_eq_true,if_true,if_false]
  ·exact KI g a b
  ·exact KI g (by rw[Tc _ _ _ _ (i (by simp[c,d]))];exact a) (by rw[Jn];exact b)
  ·exact KI g (by rw[Tc _ _ _ _ (i (by simp[c,d]))];exact a) (by rw[Jn];exact b)
  refine KI g ?_ (by rw[Jn,Jn];exact b);cases m:o.dst with
  | none=>exact a
  | some q=>show nth (Al _ _ _) _=nth (Al _ _ _) _;rw[Hf,Hf,b,a]
 |[],_,_,_,_,_,a,_|_::_,[],_,_,_,_,a,_=>a
theorem KH {m1 m2:Nat->Bool} {x:Nat}:∀{r:List Oper} {fs:List BG} {k:Nat} {s s':St},(∀j f,fs[j]? =some f->m1 (k+j)≠m2 (k+j)->x ∉ f.ws.map (·.1))->AF s.bk x=AF s'.bk x->s.bk.length=s'.bk.length->
  AF (run m1 k r fs s).bk x=AF (run m2 k r fs s').bk x
 | o::r,f::fs,k,s,s',h,a,b=>by
  have i:=h 0 f rfl;simp only[Nat.add_zero] at i;have g:∀j l,fs[j]? =some l->m1 (k+1+j)≠m2 (k+1+j)->x ∉ l.ws.map (·.1):=fun j o' m hm=>h (j+1) o' (by simpa using m) (by rw[show k+(j+1)=k+1+j by omega];exact hm)
  simp only[run];cases c:m1 k <;> cases d:m2 k <;> simp only[Bool.false_eq_true,if_true,if_false]
  ·exact KH g a b
  ·exact KH g (by show _=AF (CD _ _) _;rw[OM _ _ _ (i (by simp[c,d]))];exact a) (by show _=(CD _ _).length;rw[Jp];exact b)
  ·exact KH g (by show AF (CD _ _) _=_;rw[OM _ _ _ (i (by simp[c,d]))];exact a) (by show (CD _ _).length=_;rw[Jp];exact b)
  exact KH g (Th _ _ _ _ b a) (by show (CD _ _).length=(CD _ _).length;rw[Jp,Jp];exact b)
 |[],_,_,_,_,_,a,_|_::_,[],_,_,_,_,a,_=>a
theorem O1 {α:Type}:∀(l:List α) (i j:Nat) (x y:α),i≠j->Al (Al l i x) j y=Al (Al l j y) i x
 | [],_,_,_,_,_=>rfl
 | _::_,0,0,_,_,h=>(h rfl).elim
 |_::_,0,_+1,_,_,_|_::_,_+1,0,_,_,_=>rfl
 | _::l,i+1,j+1,x,y,h=>by simp[Al,O1 l i j x y (by omega)]
theorem UN:∀(ws:List (Nat×AK)) (l:List (Option AK)) (i:Nat) (b:Option AK),i ∉ ws.map (·.1)->CD ws (Al l i b)=Al (CD ws l) i b
 | [],_,_,_,_=>rfl
 | p::ws,l,i,b,h=>by
  rw[CD,CD,O1 _ _ _ _ _ (fun e=>h (by simp[e])),UN ws _ i b (fun h'=>h (by simp at h' ⊢;exact .inr h'))]
theorem UM:∀(ws a:List (Nat×AK)) (l:List (Option AK)),(∀x∈ws.map (·.1),x ∉ a.map (·.1))->CD a (CD ws l)=CD ws (CD a l)
 | [],_,_,_=>rfl
 | p::ws,a,l,h=>by
  rw[CD,CD,UM ws a _ (fun x b=>h x (by simp at b ⊢;exact .inr b)),UN a l p.1 _ (h p.1 (by simp))]
theorem YR {s:St} {d a:Option Nat} {f b:BG} (g:∀q,d=some q->a≠some q) (h:∀x∈f.ws.map (·.1),x ∉ b.ws.map (·.1)):(s.app d f).app a b=(s.app a b).app d f:=by
 have c:EX (EX s.sl d f.v) a b.v=EX (EX s.sl a b.v) d f.v:=by
  cases d with
  | none=>rfl
  | some q=>cases a with
   | none=>rfl
   | some i=>exact O1 _ _ _ _ _ fun e=>g q rfl (by rw[e])
 show St.mk _ _=St.mk _ _
 rw[St.mk.injEq];exact⟨c,UM _ _ _ h⟩
theorem Oz {m m':Nat->Bool} {i:Nat} {o:Oper} {f:BG}:∀{r:List Oper} {fs:List BG} {k:Nat} {s:St},i<k->(∀j,j≠i->m' j=m j)->
  (∀j g d,r[j]? =some g->fs[j]? =some d->m (k+j)=true->(∀q,g.dst=some q->o.dst≠some q)/\(∀x∈d.ws.map (·.1),x ∉ f.ws.map (·.1)))->
  (run m k r fs s).app o.dst f=run m' k r fs (s.app o.dst f)
 | g::r,d::fs,k,s,p,hm,c=>by
  simp only[run,hm k (by omega)]
  have h:∀j b a,r[j]? =some b->fs[j]? =some a->m (k+1+j)=true->(∀q,b.dst=some q->o.dst≠some q)/\(∀x∈a.ws.map (·.1),x ∉ f.ws.map (·.1)):=
   fun j b a l n h3=>c (j+1) b a (by simpa using l) (by simpa using n) (by rw[show k+(j+1)=k+1+j by omega];exact h3)
  cases t:m k <;> simp only[Bool.false_eq_true,if_true,if_false]
  ·exact Oz (by omega) hm h
  have:=c 0 g d rfl rfl (by simpa using t);rw[Oz (m':=m') (by omega) hm h,YR this.1 this.2]
 |[],_,_,_,_,_,_|_::_,[],_,_,_,_,_=>rfl
theorem Uv {m m':Nat->Bool} {i:Nat} {o:Oper} {f:BG}:∀{r:List Oper} {fs:List BG} {k j0:Nat} {s:St},i=k+j0->r[j0]? =some o->fs[j0]? =some f->m i=false->m' i=true->(∀j,j≠i->m' j=m j)->
  (∀j p n,j0<j->r[j]? =some p->fs[j]? =some n->m (k+j)=true->(∀q,p.dst=some q->o.dst≠some q)/\(∀x∈n.ws.map (·.1),x ∉ f.ws.map (·.1)))->
  (run m k r fs s).app o.dst f=run m' k r fs s
 | p::r,n::fs,k,0,s,t,h,l,hm,d,a,c=>by
  simp at h l;subst h l;simp only[Nat.add_zero] at t;subst t;simp only[run,hm,d,Bool.false_eq_true,if_true,if_false];exact Oz (Nat.lt_succ_self _) a fun j g b u v w=>c (j+1) g b (by omega) (by simpa using u) (by simpa using v) (by rw[show i+(j+1)=i+1+j by omega];exact w)
 | p::r,n::fs,k,j0+1,s,t,h,l,hm,d,a,c=>by
  simp only[run,a k (by omega)];exact Uv (j0:=j0) (by omega) (by simpa using h) (by simpa using l) hm d a fun j g b y u v w=>c (j+1) g b (by omega) (by simpa using u) (by simpa using v) (by rw[show k+(j+1)=k+1+j by omega];exact w)
 | [],_,_,_,_,_,h,_,_,_,_,_=>by simp at h
 | _::_,[],_,_,_,_,_,l,_,_,_,_=>by simp at l
theorem RN {all:List Oper}:∀{r:List Oper} {fs:List BG} {k j:Nat} {s:St} {o:Oper},chain E TI all r fs s->r[j]? =some o->∃f,fs[j]? =some f/\EJ E TI all o f (run (fun t=>decide (t<k+j)) k r fs s)
 | c::r,a::fs,k,0,s,o,b,h=>by
  simp at h;subst h;refine⟨a,rfl,?_⟩
  have:run (fun t=>decide (t<k+0)) k (c::r) (a::fs) s=s:=by
   have e:∀(r:List Oper) (fs:List BG) (k':Nat) (s:St),k<=k'->run (fun t=>decide (t<k+0)) k' r fs s=s:=by
    intro r
    induction r with
    | nil=>intro fs k' s _;cases fs <;> rfl
    | cons o r i=>
     intro fs k' s l;cases fs with
     | nil=>rfl
     | cons f fs=>simp only[run];rw[if_neg (by simp;omega)];exact i fs (k'+1) s (by omega)
   exact e _ _ _ _ (Nat.le_refl _)
  rw[this];exact b.1
 | c::r,a::fs,k,j+1,s,o,b,h=>by
  obtain⟨f,d,g⟩:=RN (k:=k+1) b.2 (show r[j]? =some o by simpa using h);refine⟨f,by simpa using d,?_⟩;simp only[run];rw[if_pos (by simp),show k+(j+1)=k+1+j by omega];exact g
 | [],[],_,_,_,_,_,h=>by simp at h
 |[],_::_,_,_,_,_,h,_|_::_,[],_,_,_,_,h,_=>h.elim
theorem NH {all:List Oper}:∀{r:List Oper} {fs:List BG} {s:St},chain E TI all r fs s->fs.length=r.length
 | [],[],_,_=>rfl
 | _::_,_::_,_,h=>by simp[NH h.2]
 |[],_::_,_,h|_::_,[],_,h=>h.elim
theorem bh {all:List Oper} {o:Oper} {f:BG} {s s':St} (b:∀x∈F5 all o,nth s.sl x=nth s'.sl x) (i:∀x∈f.rd,AF s.bk x=AF s'.bk x) (h:EJ E TI all o f s):EJ E TI all o f s':=by
 have he:∀x∈o.op.operands,ev s.sl x=ev s'.sl x:=fun x k=>by
  cases x with
  | tmp t=>exact b t (by
   unfold F5 Tz;refine List.mem_append_left _ (List.mem_append_right _ (List.mem_filterMap.2 ⟨.tmp t,by simpa using k,rfl⟩)))
  | _=>rfl
 have a:Bp E TI o (BD o) (ev s.sl) (AF s.bk) (fun g=>g=f)->Bp E TI o (BD o) (ev s'.sl) (AF s'.bk) (fun g=>g=f):=fun h=>YP i (YQ he h)
 unfold EJ at h ⊢
 split at h
 ·rename_i c;exact a h
 rename_i j want c
 obtain⟨g,g1,d⟩:=h;refine⟨g,g1,?_⟩;rw[<-b g (by unfold F5;rw[c];simp[g1])];exact d.imp (fun q=>⟨q.1,a q.2⟩) id
end
section
variable {P:Program} {E:Env} {TI:TypeId->Info}
def Fj:List Bool->Nat
 | []=>0
 | b::l=>(if b then 0 else 1)+Fj l
theorem Vu:∀(l:List Bool) (i:Nat),l[i]? =some false->Fj (l.set i true)+1=Fj l
 | [],_,h=>by simp at h
 | b::l,0,h=>by simp at h;subst h;simp[Fj];omega
 | b::l,i+1,h=>by have:=Vu l i (by simpa using h);simp[Fj];omega
theorem Vv:∀(l:List Bool),Fj l=0->∀j,j<l.length->l[j]? =some true
 | [],_,j,h=>by simp at h
 | b::l,h,0,_=>by cases b <;> simp[Fj] at h ⊢
 | b::l,h,j+1,a=>by have:=Vv l (by simp[Fj] at h;exact h.2) j (by simpa using a);simpa using this
theorem M8:∀(r:List Oper) (acc:List (List Nat)) (k:Nat),k<acc.length->(ER r acc).getD k []=acc.getD k []
 | [],_,_,_=>rfl
 | o::r,acc,k,h=>by
  rw[ER,M8 r _ k (by simp;omega)];simp[List.getD_eq_getElem?_getD,List.getElem?_append_left h]
theorem M9:∀(r:List Oper) (acc:List (List Nat)) (j:Nat) (o:Oper),r[j]? =some o->∀i∈(ER r acc).getD (acc.length+j) [],∃k∈Dt o,i=k\/i∈(ER r acc).getD k []
 | [],_,_,_,h=>by simp at h
 | o::r,acc,0,o',h=>by
  simp at h;subst h;intro i a;rw[ER,Nat.add_zero,M8 r _ acc.length (by simp)] at a;simp only[List.getD_eq_getElem?_getD,List.getElem?_concat_length,Option.getD_some] at a;obtain⟨k,b,a⟩:=List.mem_flatMap.1 a;refine⟨k,b,?_⟩;rcases List.mem_cons.1 a with rfl | a
  ·exact .inl rfl
  refine .inr ?_;rcases Nat.lt_or_ge k acc.length with h' | h'
  ·rw[ER,M8 r _ k (by simp;omega)];simpa [List.getD_eq_getElem?_getD,List.getElem?_append_left h'] using a
  simp[List.getElem?_eq_none h'] at a
 | o::r,acc,j+1,o',h=>by
  intro i a
  have:=M9 r (acc++[(Dt o).flatMap fun j=>j::acc.getD j []]) j o' (by simpa using h) i (by
   rw[List.length_append,List.length_singleton,show acc.length+1+j=acc.length+(j+1) by omega];exact a)
  exact this
theorem N2:∀(r:List Oper) (fs:List BG) (s:St),(fin r fs s).sl.length=s.sl.length
 | o::r,f::fs,s=>by rw[fin,N2 r fs,Jn]
 |[],_,_|_::_,[],_=>rfl
theorem K9 {a b:List Nat} (h:Jd a b=true):∀x∈a,x ∉ b:=fun x c=>by
 have:=List.all_eq_true.1 h x c;simpa using this
theorem Qr {ops:List Oper} {c d:Oper} {f a:List Nat×List Nat} (h:JL ops c d f a=true):
  (∀q,c.dst=some q->q ∉ F5 ops d)/\(∀q,d.dst=some q->q ∉ F5 ops c)/\(∀x∈f.2,x ∉ a.1/\x ∉ a.2)/\(∀x∈a.2,x ∉ f.1):=by
 simp only[JL,Bool.and_eq_true] at h;obtain⟨⟨⟨g,i⟩,h3⟩,j⟩:=h;refine⟨fun q b=>K9 g q (by simp[b]),fun q b=>K9 i q (by simp[b]),fun x k=>?_,K9 j⟩;have:=K9 h3 x k;simpa using this
theorem R5 {ops:List Oper} {o:Oper} {q:Nat} (h:o.dst=some q):q∈F5 ops o:=by simp[F5,h]
theorem ZX {ops:Array Oper} {fs:List BG} {s0:St} {w0:World} {X:WX} {Q:Exit->Act->World->Prop} (hc:chain E TI ops.toList ops.toList fs s0) (hok:G7 ops.toList (fs.map I0)=true)
  (hs:∀o∈ops.toList,Sound P E TI o) (hQ:∀β a w,Av w0 X β (fin ops.toList fs s0) a w->Q .normal a w):
  ∀(fuel:Nat) (listed:Array Bool) (β:Nat->Option Nat) (a:Act) (w:World),listed.size=ops.size->(∀j o,ops[j]? =some o->listed.getD j false=true->∀i∈Dt o,listed.getD i false=true)->
   Fj listed.toList<=fuel->Av w0 X β (run (fun j=>listed.getD j false) 0 ops.toList fs s0) a w->wpAny P .any ops Q fuel listed a w:=by
 simp only[G7,Bool.and_eq_true] at hok;obtain⟨hback,hpairs⟩:=hok
 have back:∀j o,ops[j]? =some o->∀i∈Dt o,i<j:=by
  intro j o ho i hi;have hj:j<ops.toList.length:=by simpa using (Array.getElem?_eq_some_iff.1 ho).1
  have:=List.all_eq_true.1 hback j (List.mem_range.2 hj);have ho':ops.toList[j]? =some o:=by simpa using ho
  rw[ho'] at this;have:=List.all_eq_true.1 this i hi;simpa using this
 have pair:∀i j oi oj fi fj,i<j->ops[i]? =some oi->ops[j]? =some oj->fs[i]? =some fi->fs[j]? =some fj->i ∉ (ER ops.toList []).getD j []->JL ops.toList oi oj (I0 fi) (I0 fj)=true:=by
  intro i j oi oj fi fj hij h1 h2 h3 h4 h5;have hj:j<ops.toList.length:=by simpa using (Array.getElem?_eq_some_iff.1 h2).1
  have:=List.all_eq_true.1 (List.all_eq_true.1 hpairs j (List.mem_range.2 hj)) i (List.mem_range.2 hij);rw[Bool.or_eq_true] at this;rcases this with h | h
  ·exact absurd (by simpa using h) h5
  have e1:ops.toList[i]? =some oi:=by simpa using h1
  have e2:ops.toList[j]? =some oj:=by simpa using h2
  simpa [e1,e2,h3,h4] using h
 have anyOn_mem:∀(o:Oper) (i:Nat),i∈Dt o↔∃e∈o.after,Region.binds .any e=true/\e.on=i:=by
  intro o i;simp[Dt,and_assoc]
 have closed:∀(listed:Array Bool),(∀j o,ops[j]? =some o->listed.getD j false=true->∀i∈Dt o,listed.getD i false=true)->
   ∀(n j:Nat) (o:Oper),j<=n->ops[j]? =some o->(∀i∈Dt o,listed.getD i false=true)->∀i∈(ER ops.toList []).getD j [],listed.getD i false=true:=by
  intro listed hdc n
  induction n with
  | zero=>
   intro j o hj ho hl i hi;obtain⟨k,hk,_⟩:=M9 ops.toList [] j o (by simpa using ho) i (by simpa using hi);have:=back j o ho k hk;omega
  | succ n ih=>
   intro j o hj ho hl i hi;obtain⟨k,hk,h⟩:=M9 ops.toList [] j o (by simpa using ho) i (by simpa using hi);have hkj:=back j o ho k hk;rcases h with rfl | h
   ·exact hl _ hk
   have hk':=hl k hk
   obtain⟨ok,hok⟩:∃ok,ops[k]? =some ok:=by
    have hj:j<ops.size:=(Array.getElem?_eq_some_iff.1 ho).1;exact⟨ops[k]'(by omega),by simp⟩
   exact ih k ok (by omega) hok (hdc k ok hok hk') i h
 have all_of:∀(listed:Array Bool),listed.size=ops.size->(∀j,j<ops.size->listed.getD j false=true)->run (fun j=>listed.getD j false) 0 ops.toList fs s0=fin ops.toList fs s0:=
  fun listed hsz h=>Uu fun j _ hj=>h j (by simpa using hj)
 have none_ready:∀(listed:Array Bool),listed.size=ops.size->(∀j,j<ops.size->listed.getD j false=true)->Region.ready .any ops listed=[]:=by
  intro listed hsz h;rcases hr:Region.ready .any ops listed with _ |⟨x,l⟩
  ·rfl
  have hx:x∈Region.ready .any ops listed:=by rw[hr];simp
  obtain⟨h1,o,ho,_⟩:=mem_ready.1 hx;have hlt:=(Array.getElem?_eq_some_iff.1 ho).1;have:=h x hlt;simp[hsz,hlt] at h1 this;rw[h1] at this;cases this
 have ready_none:∀(listed:Array Bool),listed.size=ops.size->Region.ready .any ops listed=[]->∀n j,j<n->j<ops.size->listed.getD j false=true:=by
  intro listed hsz hr n
  induction n with
  | zero=>intro j hj;omega
  | succ n ih=>
   intro j hjn hj;cases hl:listed.getD j false with
   | true=>rfl
   | false=>
    exfalso
    have:j∈Region.ready .any ops listed:=mem_ready.2 ⟨by simpa [hsz,hj] using hl,ops[j],by simp[hj],fun e he hb=>by
     have hlt:=back j ops[j] (by simp[hj]) e.on ((anyOn_mem _ _).2 ⟨e,he,hb,rfl⟩);exact ih e.on (by omega) (by omega)⟩
    rw[hr] at this;cases this
 intro fuel
 induction fuel with
 | zero=>
  intro listed β a w hsz _ hu S
  have hall:∀j,j<ops.size->listed.getD j false=true:=fun j hj=>by
   have:=Vv _ (Nat.le_zero.1 hu) j (by simpa [hsz] using hj);simp[hsz,hj] at this;simp[hsz,hj,this]
  exact⟨none_ready listed hsz hall,hQ β a w (by rw[all_of listed hsz hall] at S;exact S)⟩
 | succ fuel ih=>
  intro listed β a w hsz hdc hu S;refine⟨fun hr=>?_,fun i hi=>?_⟩
  ·have hall:=fun j hj=>ready_none listed hsz hr (j+1) j (Nat.lt_succ_self j) hj
   exact hQ β a w (by rw[all_of listed hsz hall] at S;exact S)
  obtain⟨h1,o,ho,hdeps⟩:=mem_ready.1 hi;have hilt:=(Array.getElem?_eq_some_iff.1 ho).1;have hil:listed.getD i false=false:=by simp[hsz,hilt] at h1 ⊢;exact h1
  have hanyi:∀k∈Dt o,listed.getD k false=true:=fun k hk=>by
   obtain⟨e,he,hb,rfl⟩:=(anyOn_mem o k).1 hk;exact hdeps e he hb
  obtain⟨f,hf,hfo⟩:=RN (k:=0) hc (show ops.toList[i]? =some o by simpa using ho);simp only[Nat.zero_add] at hfo
  have apart:∀j oj fj,ops[j]? =some oj->fs[j]? =some fj->listed.getD j false≠decide (j<i)->
    (∀q,oj.dst=some q->q ∉ F5 ops.toList o)/\(∀x∈fj.ws.map (·.1),x ∉ f.rd)/\(∀q,oj.dst=some q->o.dst≠some q)/\(∀x∈fj.ws.map (·.1),x ∉ f.ws.map (·.1)):=by
   intro j oj fj hj hfj hne;have hij:j≠i:=by rintro rfl;rw[hil] at hne;simp at hne
   rcases Nat.lt_or_gt_of_ne hij with hlt | hgt
   ·have hlj:listed.getD j false=false:=by
     cases h:listed.getD j false with
     | false=>rfl
     | true=>rw[h] at hne;simp[hlt] at hne
    have hnb:j ∉ (ER ops.toList []).getD i []:=fun hm=>by
     have:=closed listed hdc i i o (Nat.le_refl _) ho hanyi j hm;rw[hlj] at this;cases this
    obtain⟨a1,a2,a3,a4⟩:=Qr (pair j i oj o fj f hlt hj ho hfj hf hnb);exact⟨a1,fun x hx=>(a3 x hx).1,fun q hq e=>a1 q hq (R5 e),fun x hx=>(a3 x hx).2⟩
   have hlj:listed.getD j false=true:=by
    cases h:listed.getD j false with
    | true=>rfl
    | false=>rw[h] at hne;simp[Nat.not_lt.2 (Nat.le_of_lt hgt)] at hne
   have hnb:i ∉ (ER ops.toList []).getD j []:=fun hm=>by
    have:=closed listed hdc j j oj (Nat.le_refl _) hj (hdc j oj hj hlj) i hm;rw[hil] at this;cases this
   obtain⟨a1,a2,a3,a4⟩:=Qr (pair i j o oj f fj hgt ho hj hf hfj hnb);exact⟨a2,a4,fun q hq e=>a2 q hq (R5 e),fun x hx hx'=>(a3 x hx').2 hx⟩
  have getf:∀j oj,ops[j]? =some oj->∃fj,fs[j]? =some fj:=fun j oj hj=>by
   have hlt:j<fs.length:=by rw[NH hc];simpa using (Array.getElem?_eq_some_iff.1 hj).1
   exact⟨fs[j],List.getElem?_eq_getElem hlt⟩
  have geto:∀j (fj:BG),fs[j]? =some fj->∃oj,ops[j]? =some oj:=fun j fj hj=>by
   have hlt:j<fs.length:=(List.getElem?_eq_some_iff.1 hj).1;rw[NH hc] at hlt;have hlt:j<ops.size:=by simpa using hlt
   exact⟨ops[j],Array.getElem?_eq_getElem hlt⟩
  have hfo':EJ E TI ops.toList o f (run (fun j=>listed.getD j false) 0 ops.toList fs s0):=by
   refine bh (fun x hx=>?_) (fun x hx=>?_) hfo
   ·refine KI (fun j oj hj hne=>?_) rfl rfl;have hne:decide (j<i)≠listed.getD j false:=by simpa using hne
    have hj':ops[j]? =some oj:=by simpa using hj
    obtain⟨fj,hfj⟩:=getf j oj hj';exact fun e=>(apart j oj fj hj' hfj (Ne.symm hne)).1 x e hx
   refine KH (fun j fj hfj hne=>?_) rfl rfl;have hne:decide (j<i)≠listed.getD j false:=by simpa using hne
   obtain⟨oj,hj⟩:=geto j fj hfj;exact fun hm=>(apart j oj fj hj hfj (Ne.symm hne)).2.1 x hm hx
  have hget':∀j,j≠i->(listed.setIfInBounds i true).getD j false=listed.getD j false:=fun j hj=>getD_set_ne false (Ne.symm hj)
  have hgeti:(listed.setIfInBounds i true).getD i false=true:=by simp[hsz,hilt]
  have key:(run (fun j=>listed.getD j false) 0 ops.toList fs s0).app o.dst f=run (fun j=>(listed.setIfInBounds i true).getD j false) 0 ops.toList fs s0:=by
   refine Uv (by omega:i=0+i) (by simpa using ho) hf hil hgeti hget' fun j oj fj hlt hj hfj hl=>?_
   simp only[Nat.zero_add] at hl;have:=apart j oj fj (by simpa using hj) hfj (by rw[hl];simp;omega);exact this.2.2
  have:=Oa (Q:=Q) (N:=wpAny P .any ops Q fuel (listed.setIfInBounds i true)) (hs o (by simpa using Array.mem_of_getElem? ho)) S hfo' fun β' a' w' S'=>by
   rw[key] at S';refine ih _ β' a' w' (by simpa using hsz) (fun j oj hj hl k hk=>?_) ?_ S'
   ·by_cases hki:k=i
    ·subst hki;exact hgeti
    rw[hget' k hki]
    by_cases hji:j=i
    ·subst hji;obtain rfl:o=oj:=Option.some.inj (ho.symm.trans hj);exact hanyi k hk
    rw[hget' j hji] at hl;exact hdc j oj hj hl k hk
   have:=Vu listed.toList i (by simp[hsz,hilt] at hil;simp[hsz,hilt,hil]);simp only[Array.toList_setIfInBounds];omega
  unfold wpOp;rw[ho];simp only
  split
  ·rename_i hw;rw[if_pos hw] at this;exact .inl this
  rename_i hw;rw[if_neg hw] at this;exact this
theorem cb (hm:P.follows .mixedOrders=true) {id:Nat} {ops:Array Oper} {draw:Bool} {s:St} {w0:World} {X:WX} {β:Nat->Option Nat} {a:Act} {w:World} {R:St->Prop} {Q:Exit->Act->World->Prop}
  (d:∀o∈ops.toList,Sound P E TI o) (S:Av w0 X β s a w) (h:Fc E TI ops.toList draw ops.toList [] R s) (i:∀s',R s'->s'.sl.length=s.sl.length->∀β a w,Av w0 X β s' a w->Q .normal a w):(Code.region id ops draw).wp P Q a w:=by
 obtain⟨fs,l,hR,c⟩:=Ut d S h;cases draw with
 | false=>
  refine wp_region ?_;have:=WD (Q:=Q) (k:=0) (ops:=ops) (r:=ops.toList) (fun j=>by simp) d S l (i _ hR (N2 _ _ _));rw[List.range_eq_range'];simpa using this
 | true=>
  refine wp_region_any hm ?_;have m:Av w0 X β s a {w with drawn:=w.drawn+1}:=S.ext (dst:=none) (v:= .one .BJ) (u:=undef) (rd:=[]) (fun _ _=>rfl) (Nat.le_refl _) rfl rfl rfl (HD _ _);refine ZX l (by simpa using c rfl) d (i _ hR (N2 _ _ _)) _ _ β a _ (by simp) (fun j o p q=>?_) ?_ ?_
  ·have b:=(Array.getElem?_eq_some_iff.1 p).1;simp[b] at q
  ·have:∀n,Fj (List.replicate n false)=n:=fun n=>by induction n with
    | zero=>rfl
    | succ n g=>rw[List.replicate_succ,Fj,g];simp;omega
   simp[this]
  have e:run (fun j=>(Array.replicate ops.size false).getD j false) 0 ops.toList fs s=s:=by
   have:∀(r:List Oper) (fs:List BG) (k:Nat) (s:St),run (fun j=>(Array.replicate ops.size false).getD j false) k r fs s=s:=by
    intro r
    induction r with
    | nil=>intro fs k s;cases fs <;> rfl
    | cons o r g=>
     intro fs k s;cases fs with
     | nil=>rfl
     | cons f fs=>
      simp only[run];rw[if_neg,g]
      by_cases h:k<ops.size <;> simp[h]
   exact this _ _ _ _
  rw[e];exact m
end
end Go.Abs
