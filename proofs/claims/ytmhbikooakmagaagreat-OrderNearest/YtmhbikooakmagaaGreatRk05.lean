/- Part 6 of a proof. Conditions: each theorem's own. -/
import Derived.Orders
import Derived.Test.YtmhbikooakmagaaGreatRk04
set_option linter.all false
set_option maxHeartbeats 8000000
set_option maxRecDepth 20000
namespace Go.Abs
open Go.RowKit
section
theorem WE {pl:List (Nat×Nat×Bool)} {e e':Operand->AV}:∀{ps:List (Nat×Operand)} {cs:List AC},(∀p∈ps,e p.2=e' p.2)->HC pl e ps cs=HC pl e' ps cs
 | [],_,_=>rfl
 | (i,x)::r,cs,h=>by
  have a:=h (i,x) (by simp);simp only at a;have c:∀cs,HC pl e r cs=HC pl e' r cs:=fun cs=>WE fun p b=>h p (by simp[b])
  simp only[HC,a,c]
theorem eN {E:Env} {TI:TypeId->Info} {o:Oper} {d:Nat} {e e':Operand->AV} {bk:Nat->Option AL} {K:BW->Prop} (he:∀x∈o.op.operands,e x=e' x) (h:CG E TI o d e bk K):CG E TI o d e' bk K:=by
 unfold CG at h ⊢;cases s:o.op <;> simp only[s] at h ⊢ <;> (try exact h.elim) <;> rw[s] at he <;> simp only[Op.operands] at he
 case move x=>rw[<-he x (by simp)];exact h
 case assign x=>rw[<-he x (by simp)];exact h
 case nilCheck x=>rw[<-he x (by simp)];exact h
 case pick c x y=>rw[<-he x (by simp),<-he y (by simp),<-he c (by simp)];exact h
 case alloc t=>exact h
 case box t x=>rw[<-he x (by simp)];exact h
 case extract x i=>rw[<-he x (by simp)];exact h
 case load t x=>rw[<-he x (by simp)];exact h
 case store t p x=>rw[<-he x (by simp),<-he p (by simp)];exact h
 case fieldAddr t x i=>rw[<-he x (by simp)];exact h
 case field t x i=>rw[<-he x (by simp)];exact h
 case build t ps=>
  rw[<-WE (e:=e) (e':=e') (fun p j=>he p.2 (by simpa using ⟨p.1,Array.mem_toList_iff.1 j⟩))];exact h
 case buildSlice t n ps=>
  obtain⟨k,w,xs,h3,h⟩:=h;refine⟨k,w,xs,fun u=>?_,h⟩;obtain⟨g1,g2,r,v⟩:=h3 u;have j:∀p∈ps.toList,e p.2=e' p.2:=fun p j=>he p.2 (by simpa using ⟨p.1,Array.mem_toList_iff.1 j⟩)
  refine⟨g1,g2,?_,?_⟩
  ·rw[List.all_eq_true] at r ⊢;intro p g;rw[<-j p g];exact r p g
  rw[<-List.map_congr_left (f:=fun p=>(p.1,(e p.2).cs)) (fun p g=>by rw[j p g])];exact v
 case makeSlice t x y=>rw[<-he x (by simp),<-he y (by simp)];exact h
 case indexAddr t x i=>rw[<-he x (by simp),<-he i (by simp)];exact h
 case slice t x lo hi mx=>
  have k:∀y:Option Operand,(∀z,y=some z->e z=e' z)->y.map e=y.map e':=fun y A=>by cases y <;> simp;exact A _ rfl
  rw[<-he x (by simp),<-k lo (fun z l=>he z (by simp[l])),<-k hi (fun z l=>he z (by simp[l])),<-k mx (fun z l=>he z (by simp[l]))];exact h
 case binOp op t x y t'=>rw[<-he x (by simp),<-he y (by simp)];exact h
 case unOp op t x=>rw[<-he x (by simp)];exact h
 case convert src dst x=>rw[<-he x (by simp)];exact h
 case makeFunc fn first cap=>
  rw[<-show cap.toList.map e=cap.toList.map e' from List.map_congr_left fun x q=>he x (by simp;exact .inr (by simpa using q))];exact h
 case call c=>
  have a:c.args.toList.map e=c.args.toList.map e':=List.map_congr_left fun x q=>he x (by simp[Call.operands];exact .inr (by simpa using q))
  cases m:c.callee with
  | builtin b=>simp only[m] at h ⊢;rw[<-a];exact h
  | value f=>
   simp only[m] at h ⊢;rw[<-a,<-he f (by simp[Call.operands,m])];exact h
  | invoke _ _=>simp only[m] at h
theorem Gz {bk Bz:Nat->Option AL} {id:Nat} (h:bk id=Bz id):AQ bk id=AQ Bz id:=by simp[AQ,h]
theorem Zq {bk Bz:Nat->Option AL}:∀{ps:List (Nat×Nat)} {b:List ((t:T)×el t)},(∀id∈ps.map (·.1),bk id=Bz id)->Md bk ps b->Md Bz ps b
 | [],[],_,h=>h
 | p::_,_::_,hi,h=>⟨(hi p.1 (by simp)).symm.trans h.1,Zq (fun id a=>hi id (List.mem_cons_of_mem _ a)) h.2⟩
 |[],_::_,_,h|_::_,[],_,h=>h
theorem Ks {bk Bz:Nat->Option AL} {c d:AC} (h:∀id∈B3 c,bk id=Bz id) (hs:Du bk c d):Du Bz c d:=by
 cases c <;> first | exact hs | skip
 case AN t id v off len=>obtain⟨l,a,b⟩:=hs;exact⟨l,(h id (by simp[B3])) ▸ a,b⟩
 case Cy f ps=>obtain⟨i,a,b⟩:=hs;exact⟨i,Zq (fun id g=>h id g) a,b⟩
theorem UT {bk Bz:Nat->Option AL}:∀{l m:List AC},(∀id∈l.flatMap B3,bk id=Bz id)->Ao (Du bk) l m->Ao (Du Bz) l m
 | [],[],_,h=>h
 | c::l,_::_,hi,h=>⟨Ks (fun id a=>hi id (by simp[a])) h.1,UT (fun id a=>hi id (by rw[List.flatMap_cons];exact List.mem_append_right _ a)) h.2⟩
 |[],_::_,_,h|_::_,[],_,h=>h
theorem Js {bk Bz:Nat->Option AL}:∀{l m:List AV},(∀id∈Bt l,bk id=Bz id)->Em (Du bk) l m->Em (Du Bz) l m
 | [],[],_,h=>h
 | .one c::l,.one _::_,hi,h=>⟨Ks (fun id a=>hi id (by simp[Bt,a])) h.1,Js (fun id a=>hi id (by simp[Bt,a])) h.2⟩
 | .agg cs::l,.agg _::_,hi,h=>⟨UT (fun id a=>hi id (by rw[Bt];exact List.mem_append_left _ a)) h.1,Js (fun id a=>hi id (by rw[Bt];exact List.mem_append_right _ a)) h.2⟩
 |.AG _::_,.AG _::_,_,h|.one _::_,.agg _::_,_,h|.one _::_,.AG _::_,_,h|.agg _::_,.one _::_,_,h|.agg _::_,.AG _::_,_,h|.AG _::_,.one _::_,_,h|.AG _::_,.agg _::_,_,h=>h.1.elim
 |[],_::_,_,h|_::_,[],_,h=>h
theorem Pu {E:Env} {g:FuncId} {args:List AV} {d:Nat} {bk Bz:Nat->Option AL} {f:BW} (hb:∀id∈f.rd,bk id=Bz id) (h:F7 E g args d bk (fun g=>g=f)):F7 E g args d Bz (fun g=>g=f):=by
 rcases h with⟨a,r,c,k,h⟩ |⟨a,r,c,k,h⟩ | h |⟨i,b,a,r,c,k,h⟩ |⟨i,b,a,r,c,k,h⟩ | h
 rotate_left 3
 ·subst h;exact .inr (.inr (.inr (.inl ⟨i,b,a,r,fun u=>⟨(hb i (by simp)).symm.trans (c u).1,(c u).2⟩,k,rfl⟩)))
 ·subst h;refine .inr (.inr (.inr (.inr (.inl ⟨i,b,a,r,fun u=>?_,k,rfl⟩))));obtain⟨⟨g1,g2,o⟩,p⟩:=c u;refine⟨⟨g1,(hb i (by simp)).symm.trans g2,o⟩,Js (fun id j=>hb id ?_) p⟩;have:=List.all_eq_true.1 o id j;simp at this;simp[this]
 ·unfold F7
  split at h
  ·split at h
   ·rename_i l
    split at h
    ·rename_i m
     obtain⟨a,l',c,k,h⟩:=h;have h:=h _ rfl;subst h;refine .inr (.inr (.inr (.inr (.inr ?_))));have:=hb _ (List.mem_cons_self ..);rw[l] at this;simp only[<-this,if_pos m];exact⟨a,l',fun u=>⟨(c u).1,(c u).2.1,Js (fun id j=>hb id (by simp[j])) (c u).2.2⟩,k,fun n q=>by subst q;rfl⟩
    exact h.elim
   exact h.elim
  exact h.elim
 ·subst h;exact .inl ⟨a,r,c,k,by rw[Gz (hb d (by simp))]⟩
 ·subst h;exact .inr (.inl ⟨a,r,fun u=>Js (fun id j=>hb id (by simp[j])) (c u),k,by rw[Gz (hb d (by simp))]⟩)
 unfold F7
 split at h
 ·split at h
  ·rename_i s
   split at h
   ·rename_i l
    split at h
    ·rename_i m
     obtain⟨a,r,b1,c,k,h⟩:=h;subst h;refine .inr (.inr (.inl ?_));have:=hb _ (List.mem_cons_self ..);rw[l] at this;simp only[<-this,if_pos m];exact⟨a,r,b1,fun u=>⟨(c u).1,Js (fun id j=>hb id (by simp[j])) (c u).2⟩,k,rfl⟩
    exact h.elim
   exact h.elim
  exact h.elim
 exact h.elim
theorem eT {u:T} {x:AV} {lo hi mx:Option AV} {bk Bz:Nat->Option AL} {f:BW} (hb:∀id∈f.rd,bk id=Bz id) (h:IA bk u x lo hi mx (fun g=>g=f)):IA Bz u x lo hi mx (fun g=>g=f):=by
 unfold IA at h ⊢
 split at h
 ·exact h
 ·obtain⟨d,h⟩:=h;refine⟨d,?_⟩
  split at h
  ·rename_i i
   obtain⟨a,b,c,j,h3⟩:=NT h;have h3:=h3 _ _ ⟨rfl,rfl⟩;cases c <;> subst h3 <;> rw[if_pos ((Gz (hb _ (List.mem_singleton.2 rfl))).symm.trans i)] <;> exact h
  exact h.elim
 ·exact h
 exact h.elim
theorem UK {TI:TypeId->Info} {b:Builtin} {k:List TypeId} {args:List AV} {d:Nat} {bk Bz:Nat->Option AL} {f:BW} (hb:∀id∈f.rd,bk id=Bz id) (h:Ek TI b k args d bk (fun g=>g=f)):Ek TI b k args d Bz (fun g=>g=f):=by
 unfold Ek at h ⊢
 split at h
 ·exact h
 ·obtain⟨i,h⟩:=h
  split at h
  ·rename_i j
   have h3:=h _ ⟨rfl⟩;subst h3;exact⟨i,by rw[if_pos ((Gz (hb _ (List.mem_singleton.2 rfl))).symm.trans j)];exact h⟩
  exact h.elim
 ·obtain⟨i,h⟩:=h
  split at h
  ·rename_i j
   have h3:=h _ ⟨rfl⟩;subst h3;exact⟨i,by rw[if_pos ((Gz (hb _ (List.mem_singleton.2 rfl))).symm.trans j)];exact h⟩
  exact h.elim
 ·exact h
 ·exact h
 ·exact h
 ·exact h
 ·obtain⟨i,l2,a,h⟩:=h;have h3:=h _ rfl;subst h3;refine⟨i,l2,fun u=>⟨Ks (fun id c=>hb id (by simp[c])) (a u).1,(a u).2⟩,?_⟩;rw[<-Gz (hb d (by simp))];exact h
 ·obtain⟨i,h⟩:=h;refine⟨i,?_⟩
  split at h
  ·rename_i l
   split at h
   ·rename_i j
    obtain⟨l2,a,h⟩:=h;have h3:=h _ _ ⟨rfl,rfl⟩;subst h3;have:=hb _ (List.mem_cons_self ..);rw[l] at this;simp only[<-this,if_pos j];exact⟨l2,fun u=>⟨(a u).1,(a u).2.1,Ks (fun id c=>hb id (by simp[c])) (a u).2.2.1,(a u).2.2.2⟩,h⟩
   exact h.elim
  exact h.elim
 ·obtain⟨i,h⟩:=h;refine⟨i,?_⟩
  split at h
  ·rename_i l
   split at h
   ·rename_i j
    obtain⟨l2,a,h⟩:=h;have h3:=h _ _ ⟨rfl,rfl⟩;subst h3;have:=hb _ (List.mem_cons_self ..);rw[l] at this;simp only[<-this,if_pos j];exact⟨l2,fun u=>⟨(a u).1,(a u).2.1,Ks (fun id c=>hb id (by simp[c])) (a u).2.2.1,(a u).2.2.2⟩,h⟩
   exact h.elim
  exact h.elim
 exact h.elim
theorem eA {TI:TypeId->Info} {a:List TypeId} {args:List AV} {bk Bz:Nat->Option AL} {f:BW} (hb:∀id∈f.rd,bk id=Bz id) (h:GV TI a args bk (fun g=>g=f)):GV TI a args Bz (fun g=>g=f):=by
 unfold GV at h ⊢
 split at h
 ·obtain⟨d,h⟩:=h;refine⟨d,?_⟩
  split at h
  ·rename_i i
   split at h
   ·rename_i j
    obtain⟨l2,b,h⟩:=h;have h3:=h _ _ ⟨rfl,rfl⟩;subst h3;have:=hb _ (List.mem_cons_self ..);rw[i] at this;simp only[<-this,if_pos j];exact⟨l2,fun u=>⟨(b u).1,(b u).2.1,Ks (fun id c=>hb id (by simp[c])) (b u).2.2.1,(b u).2.2.2⟩,h⟩
   exact h.elim
  exact h.elim
 exact h.elim
theorem eK {E:Env} {TI:TypeId->Info} {o:Oper} {d:Nat} {e:Operand->AV} {bk Bz:Nat->Option AL} {f:BW} (hb:∀id∈f.rd,bk id=Bz id) (h:CG E TI o d e bk (fun g=>g=f)):CG E TI o d e Bz (fun g=>g=f):=by
 have u:∀{id v:Nat},AQ bk id=v->id∈f.rd->AQ Bz id=v:=fun a k=>(Gz (hb _ k)).symm.trans a
 have s:∀{id:Nat} {b:AL},bk id=some b->id∈f.rd->Bz id=some b:=fun a k=>(hb _ k).symm.trans a
 unfold CG at h ⊢;cases J:o.op <;> simp only[J] at h ⊢ <;> (try exact h)
 case nilCheck x=>
  split at h
  ·split at h
   ·rename_i j
    rw[if_pos (u j (by rw[<-h];simp))];exact h
   exact h.elim
  ·exact h
  ·exact h
  exact h.elim
 case alloc t=>rw[<-Gz (hb d (by rw[<-h.2];simp))];exact h
 case box t x=>
  split at h
  ·exact h.elim
  ·exact h.elim
  rw[<-Gz (hb d (by rw[<-h];simp))];exact h
 case load t x=>
  simp only[Ld] at h ⊢;obtain⟨a,h⟩:=h;refine⟨a,?_⟩
  split at h
  ·split at h
   ·rename_i w
    split at h
    ·rename_i j
     simp only[s w (by rw[<-h];simp),if_pos j];exact h
    exact h.elim
   exact h.elim
  ·exact h
  ·split at h
   ·rename_i w
    split at h
    ·rename_i j
     have h':=h;obtain⟨z,k,h⟩:=h
     split at h
     ·simp only[s w (by rw[<-h];simp),if_pos j];exact h'
     exact h.elim
    exact h.elim
   exact h.elim
  exact h.elim
 case store t p x=>
  obtain⟨a,h⟩:=h;refine⟨a,?_⟩
  split at h
  ·split at h
   ·exact h.elim
   ·exact h.elim
   ·rename_i w G H
    split at h
    ·rename_i j
     rw[s w (by rw[<-h];simp)]
     split
     ·rename_i B;exact (G _ B).elim
     ·rename_i B;exact (H B).elim
     ·rename_i A _ _;cases Option.some.inj A;rw[if_pos j];exact h
     rename_i p q r;first | exact (p _ _ rfl).elim | exact (q _ _ rfl).elim | exact (r _ _ rfl).elim
    exact h.elim
   exact h.elim
  ·split at h
   ·exact h.elim
   ·exact h.elim
   ·rename_i w G H
    split at h
    ·rename_i j
     have h':=h;obtain⟨z,k,h⟩:=h;rw[s w (by rw[<-h _ rfl];simp)]
     split
     ·rename_i B;exact (G _ B).elim
     ·rename_i B;exact (H B).elim
     ·rename_i A _ _;cases Option.some.inj A;rw[if_pos j];exact h'
     rename_i p q r;first | exact (p _ _ _ rfl).elim | exact (q _ _ _ rfl).elim | exact (r _ _ _ rfl).elim
    exact h.elim
   exact h.elim
  exact h.elim
 case fieldAddr t x i=>
  obtain⟨a,h⟩:=h;refine⟨a,?_⟩
  split at h
  ·split at h
   ·rename_i j;rw[if_pos (u j (by rw[<-h];simp))];exact h
   exact h.elim
  ·exact h
  ·split at h
   ·rename_i j;rw[if_pos (u j (by rw[<-h];simp))];exact h
   exact h.elim
  exact h.elim
 case buildSlice t n ps=>
  obtain⟨a,k,xs,h3,h | h⟩:=h
  ·rw[<-Gz (hb d (by rw[<-h];simp))];exact⟨a,k,xs,h3,.inl h⟩
  exact⟨a,k,xs,h3,.inr h⟩
 case makeSlice t x y=>
  obtain⟨a,h⟩:=h;refine⟨a,?_⟩
  split at h
  ·rw[<-Gz (hb d (by rw[<-h.2 _ _ ⟨rfl,rfl⟩];simp))];exact h
  exact h.elim
 case indexAddr t x i=>
  obtain⟨a,h⟩:=h;refine⟨a,?_⟩
  split at h
  ·exact h
  ·obtain⟨k,h⟩:=h
   split at h
   ·rename_i j;exact⟨k,by rw[if_pos (u j (by rw[<-h.2 _ rfl];simp))];exact h⟩
   exact h.elim
  exact h.elim
 case slice t x lo hi mx=>exact⟨h.1,eT hb h.2⟩
 case call c=>
  cases C:c.callee with
  | builtin b=>
   simp only[C] at h ⊢;rcases He.1 h with h |⟨m,h⟩ |⟨m,h⟩
   ·exact He.2 (.inl (UK hb h))
   ·obtain⟨g,a,k⟩:=LK (fun t l D=>absurd (P7 m h) (by rw[D];exact (by decide:¬(1=2)))) h;obtain⟨t,id,v,n,l,K,_,_,I,F⟩:=SP k;have h3:=UK (Bz:=Bz) (f:=g) (fun i hi=>hb i (by rw[<-I];exact hi)) (a _ rfl);obtain⟨g2,k1,k2⟩:=LK (fun t l D=>absurd (P7 m h) (by rw[D];exact (by decide:¬(1=2)))) h3;subst k2;exact He.2 (.inr (.inl ⟨m,k1 _ (F _ I)⟩))
   exact He.2 (.inr (.inr ⟨m,eA hb h⟩))
  | value g=>
   simp only[C] at h ⊢
   split at h
   ·exact Pu hb h
   ·exact Pu hb h
   ·exact Pu hb h
   exact h.elim
  | invoke _ _=>simp only[C] at h
end
def Nt (o:Oper):Bool:=
 match o.op with
 |.alloc _|.box _ _|.makeSlice _ _ _|.buildSlice _ _ _=>o.dst.isSome
 | .call c=>match c.callee with
  | .builtin _=>o.dst.isSome
  | _=>true
 | _=>true
section
variable {P:Program} {TI:TypeId->Info}
theorem BI.mF {w0:World} {X:WX} {β:Nat->Option Nat} {s:St} {a:Act} {w:World} {q id v:Nat} {t:T} {l:List (el t)} {rd H:List Nat}
  (S:BI w0 X β (s.app (some q) ⟨.one (.AN t id v 0 l.length),[(id,.arr v t l)],rd⟩) a w) (f:id<s.bk.length) (O:id≠0):
  BI w0 X β (s.app (some q) ⟨.one (.sl t l),[(id,.dead v)],H⟩) a w:=by
 have p:∀k,AF (A9 s.bk id (some (.arr v t l))) k=if k=id then some (.arr v t l) else AF s.bk k:=fun k=>by
  rw[Gm];by_cases h:k=id <;> simp[h,f]
 have u:∀k,AF (A9 s.bk id (some (.dead v))) k=if k=id then some (.dead v) else AF s.bk k:=fun k=>by
  rw[Gm];by_cases h:k=id <;> simp[h,f]
 have n:∀k,AQ (AF (A9 s.bk id (some (.dead v)))) k=AQ (AF (A9 s.bk id (some (.arr v t l)))) k:=fun k=>by
  rw[Ew _ _ _ f,Ew _ _ _ f];rfl
 have g:∀k,live (AF (A9 s.bk id (some (.dead v)))) k->live (AF (A9 s.bk id (some (.arr v t l)))) k/\k≠id:=fun k d=>by
  rw[Gj _ _ _ f] at d
  by_cases h:k=id
  ·rw[if_pos h] at d;simp[AL.live] at d
  rw[if_neg h] at d;exact⟨by rw[Gj _ _ _ f,if_neg h];exact d,h⟩
 have x:live (AF (A9 s.bk id (some (.arr v t l)))) id:=by rw[Gj _ _ _ f,if_pos rfl];rfl
 have hle:(cx X w β (AF (A9 s.bk id (some (.arr v t l))))).le (cx X w β (AF (A9 s.bk id (some (.dead v))))):=
  ⟨fun k=>Nat.le_of_eq (n k).symm,fun _ _=>rfl,fun k b arr e _ _ U=>⟨arr,U,rfl⟩,fun b hb=>⟨⟨⟨hb.1.1,fun k d=>hb.1.2 k (g k d).1⟩,hb.2⟩,rfl⟩⟩
 have C:∀b o,w.heap[b]? =some o->b<w.heap.size:=fun b o h=>by
  rcases Nat.lt_or_ge b w.heap.size with h' | h'
  ·exact h'
  simp[Array.getElem?_eq_none h'] at h
 refine⟨S.defers,by have:=S.len;simpa [St.app,FK,Fb] using this,by have:=S.HG;simpa [St.app,Cq,Fb] using this,fun i=>?_,fun k b d=>?_,fun k k' b d c hb z=>S.inj k k' b (g k d).1 (g k' c).1 hb z,
  fun k b d hb=>S.own k b (g k d).1 hb,S.os,S.tape,S.output,S.size,S.block,fun k b d=>?_,S.fresh,fun V Y=>?_⟩
 ·have hs:=S.B6 i
  show BK _ (nth (A9 s.sl q (.one (.sl t l))) i) _
  have m:BK (cx X w β (AF (A9 s.bk id (some (.arr v t l))))) (nth (A9 s.sl q (.one (.AN t id v 0 l.length))) i) (a.tmps.getD i undef):=hs;rw[JI] at m ⊢
  by_cases h:i=q/\q<s.sl.length
  ·rw[if_pos h] at m ⊢;have R:=BN m (by simp)
   have F:v=(cx X w β (AF (A9 s.bk id (some (.arr v t l))))).cv id:=by
    show v=AQ _ id
    rw[Ew _ _ _ f,if_pos rfl];rfl
   obtain⟨base,cap,hu,g1,g2,N⟩:=KW R F;refine .inr ?_
   show rep w _ (.sl t) l [_]
   have D:l.length<=140737488355328:=S.lens id (.arr v t l) (by show AF (A9 s.bk id (some (.arr v t l))) id=_;rw[p,if_pos rfl]);refine⟨base,cap,by rw[hu],g1,D,?_⟩
   by_cases r:l=[]
   ·exact .inl r
   right
   have W:0<l.length:=List.length_pos_iff.2 r;rcases N with rfl |⟨b,arr,e,G,M,q3,q4⟩
   ·omega
   rcases S.blocks id (.arr v t l) (by show AF (A9 s.bk id (some (.arr v t l))) id=_;rw[p,if_pos rfl]) with⟨K,L⟩ |⟨b',J,e',K,L,p3⟩
   ·exact absurd L r
   obtain rfl:b'=b:=Option.some.inj (K.symm.trans G);rw[Nat.zero_mul] at M
   have Q:X.A b':=by
    rcases S.own id b' x G with h | h
    ·exact S.fresh b' h
    exact absurd h.2 O
   refine⟨b',0,M,⟨⟨C _ _ q3,fun k d e=>(g k d).2 (S.inj k id b' (g k d).1 x e G)⟩,Q⟩,fun j y Z=>?_⟩;obtain⟨us,k1,k2⟩:=p3 j y Z;exact⟨us,CD hle.I _ _ _ k1,by rw[Nat.zero_add];exact k2⟩
  rw[if_neg h] at m ⊢;exact BK.mono hle m
 ·have c:AF (A9 s.bk id (some (.dead v))) k=some b:=d;rw[u] at c
  by_cases h:k=id
  ·rw[if_pos h] at c;cases Option.some.inj c
   trivial
  rw[if_neg h] at c;have hb:AF (A9 s.bk id (some (.arr v t l))) k=some b:=by rw[p,if_neg h];exact c
  exact Cc.mono hle (n k) (fun _ _=>rfl) (S.blocks k b hb)
 ·have c:AF (A9 s.bk id (some (.dead v))) k=some b:=d;rw[u] at c
  by_cases h:k=id
  ·rw[if_pos h] at c;cases Option.some.inj c
   trivial
  rw[if_neg h] at c;exact S.lens k b (by show AF (A9 s.bk id (some (.arr v t l))) k=_;rw[p,if_neg h];exact c)
 have B:=g 0 V;exact S.KM B.1 ((n 0).symm.trans Y)
theorem mf (y:∀t,DW P t (TI t)) {o:Oper} {c:Call} {b:Builtin} (r:o.op= .call c) (m:c.callee= .builtin b) (p:o.dst≠none):Sound P (env P) TI o:=by
 intro w0 X β s a w S f h N Q k;simp only[CG,r,m] at h;rcases He.1 h with h |⟨hb,h⟩ |⟨hb,J⟩
 ·exact Zu y r m p S h k
 ·obtain⟨g,C,I⟩:=LK (fun t l O=>absurd (P7 hb h) (by rw[O];exact (by decide:¬(1=2)))) h;obtain⟨t,id,v,n,l,D,H,R,K,_⟩:=SP I;subst R;obtain⟨q,z⟩:=Option.ne_none_iff_exists'.1 p;rw[z] at k;refine Zu y r m p S (C _ rfl) (fun β' G w' j=>k β' G w' ?_);rw[z,D] at j;rw[<-K]
  by_cases i:id<s.bk.length
  ·exact j.mF i H
  have d:s.bk.length<=id:=Nat.le_of_not_lt i;have L:BQ o=q:=by simp[BQ,z]
  rcases eP hb (C _ rfl) (by rw[D]) with e |⟨x,F⟩
  ·have A:s.sl.length<=q:=by
    have u:=S.len;have T:=S.HG;omega
   have u:∀(f:BW) (B:AL),f.ws=[(id,B)]->s.app (some q) f=s:=fun f B M=>by
    unfold St.app;rw[M];simp only[FK,Cq,Gu _ _ _ A,Gu _ _ _ d]
   rw[u _ _ rfl] at j;rw[u _ _ rfl];exact j
  rw[HM _ _ d] at F;cases F
 subst hb;exact mV y r m p S J k
theorem SZ (j:∀t,DW P t (TI t)) (o:Oper) (k:Nt o=true):Sound P (env P) TI o:=by
 unfold Nt at k;have l:o.dst.isSome=true->o.dst≠none:=fun h e=>by simp[e] at h
 cases g:o.op <;> simp only[g] at k
 case move x=>(intro w0 X β s a w S f h N Q d;exact mw g S h d)
 case assign x=>(intro w0 X β s a w S f h N Q d;exact mX g S h d)
 case nilCheck x=>(intro w0 X β s a w S f h N Q d;exact my g S h d)
 case pick c x y=>(intro w0 X β s a w S f h N Q d;exact mz g S h d)
 case alloc t=>(intro w0 X β s a w S f h N Q d;exact mW j g (l k) S h d)
 case box t x=>(intro w0 X β s a w S f h N Q d;exact mZ g (l k) S h d)
 case extract x i=>(intro w0 X β s a w S f h N Q d;exact mh g S h d)
 case load t x=>(intro w0 X β s a w S f h N Q d;exact mr j g S h d)
 case store t p x=>(intro w0 X β s a w S f h N Q d;exact nD j g S h d)
 case fieldAddr t x i=>(intro w0 X β s a w S f h N Q d;exact mn j g S h d)
 case field t x i=>(intro w0 X β s a w S f h N Q d;exact ml j g S h d)
 case build t ps=>(intro w0 X β s a w S f h N Q d;exact mc j g S h d)
 case buildSlice t n ps=>(intro w0 X β s a w S f h N Q d;exact me j g (l k) S h d)
 case makeSlice t x y=>(intro w0 X β s a w S f h N Q d;exact mv j g (l k) S h d)
 case indexAddr t x i=>(intro w0 X β s a w S f h N Q d;exact mo j g S h d)
 case slice t x lo hi mx=>(intro w0 X β s a w S f h N Q d;exact nC j g S h d)
 case binOp op t x y t'=>(intro w0 X β s a w S f h N Q d;exact mY j g S h d)
 case unOp op t x=>(intro w0 X β s a w S f h N Q d;exact nE g S h d)
 case convert src dst x=>(intro w0 X β s a w S f h N Q d;exact mg j g S h d)
 case makeFunc fn first cap=>(intro w0 X β s a w S f h N Q d;exact mu g S h d)
 case call c=>
  cases m:c.callee with
  | builtin b=>simp only[m] at k;(intro w0 X β s a w S f h N Q d;exact mf j g m (l k) S h d)
  | value f=>(intro w0 X β s a w S f h N Q d;exact mU o g m S h d)
  | invoke _ _=>intro w0 X β s a w S f h N Q d;simp only[CG,g,m] at h
 all_goals (intro w0 X β s a w S f h N Q d;simp only[CG,g] at h)
end
section
variable {P:Program} {E:Env} {TI:TypeId->Info}
def E1 (E:Env) (TI:TypeId->Info) (all:List Oper) (o:Oper) (f:BW) (s:St):Prop:=
 match o.guard with
 | none=>CG E TI o (BQ o) (ev s.sl) (AF s.bk) (fun g=>g=f)
 | some (j,w)=>∃g,OA all j=some g/\
  ((nth s.sl g= .one (.bool w)/\CG E TI o (BQ o) (ev s.sl) (AF s.bk) (fun g=>g=f))\/
    ((nth s.sl g= .one (.bool (!w))\/nth s.sl g= .AG [])/\f=⟨.AG [],[],[]⟩))
def chain (E:Env) (TI:TypeId->Info) (all:List Oper):List Oper->List BW->St->Prop
 | [],[],_=>True
 | o::r,f::fs,s=>E1 E TI all o f s/\chain E TI all r fs (s.app o.dst f)
 | _,_,_=>False
def fin:List Oper->List BW->St->St
 | o::r,f::fs,s=>fin r fs (s.app o.dst f)
 | _,_,s=>s
def Kw (f:BW):List Nat×List Nat:=(f.rd,f.ws.map (·.1))
theorem oQ {o:Oper} {a:Act} {w:World} {N:Act->World->Prop} (h:o.wp P a w N (fun _ _ _=>False)):∃b w',N b w':=by
 unfold Oper.wp at h
 generalize (execOp a.eval o).run P w=r at h
 unfold Oper.upon at h
 split at h
 ·exact⟨_,_,h⟩
 ·exact⟨_,_,h⟩
 ·exact⟨_,_,h⟩
 ·obtain⟨e,w',c,hR,_⟩:=h [];cases e with
  | returned v=>exact⟨_,_,hR⟩
  | panicked _=>exact hR.elim
  | outgrown=>obtain⟨_,_,h⟩:=hR;exact h.elim
 ·obtain⟨v,w',hR,_⟩:=h default [];exact⟨_,_,hR⟩
 ·exact h.elim
 exact h.elim
theorem Uw {w0:World} {X:WX} {β:Nat->Option Nat} {s:St} {a:Act} {w:World} (S:BI w0 X β s a w) {g:Nat} {b:Bool} (h:nth s.sl g= .one (.bool b)):a.tmps[g]? =some (.bool b):=by
 have d:=S.B6 g;rw[h] at d;have c:a.tmps.getD g undef= .bool b:=BN d (by simp);rcases Nat.lt_or_ge g a.tmps.size with h3 | h3
 ·simp[Array.getD,h3] at c;simp[h3,c]
 simp[Array.getD,Nat.not_lt.2 h3,undef] at c
theorem Rs {ops:Array Oper} {o:Oper} (hs:Sound P E TI o) {w0:World} {X:WX} {β:Nat->Option Nat} {s:St} {a:Act} {w:World} (S:BI w0 X β s a w) {f:BW} (h:E1 E TI ops.toList o f s)
  {N:Act->World->Prop} {Q:Exit->Act->World->Prop} (m:∀β' n w',BI w0 X β' (s.app o.dst f) n w'->N n w'):
  if Region.wanted o (yielded ops a.tmps) then o.wp P a w N Q else N (a.put o.dst undef) w:=by
 unfold E1 at h
 split at h
 ·rename_i l
  simp only[Region.wanted,l,if_true];exact hs S h m
 rename_i j want l
 obtain⟨g,q,h3⟩:=h;have b:(ops[j]?).bind (·.dst)=some g:=by simpa [OA] using q
 rcases h3 with⟨c,h3⟩ |⟨c,rfl⟩
 ·have d:yielded ops a.tmps j=some want:=by simp[yielded,b,Uw S c]
  simp only[Region.wanted,l,d,beq_self_eq_true,if_true];exact hs S h3 m
 have d:(yielded ops a.tmps j==some want)=false:=by
  rcases c with c | c
  ·have d:yielded ops a.tmps j=some (!want):=by simp[yielded,b,Uw S c]
   rw[d];cases want <;> rfl
  have d:yielded ops a.tmps j=none:=by
   have p:=S.B6 g;rw[c] at p;obtain⟨arr,i,_⟩:=p;have i:a.tmps.getD g undef= .tuple arr:=i;unfold yielded;simp only[b,Option.bind_some];rcases Nat.lt_or_ge g a.tmps.size with k | k
   ·simp[Array.getD,k] at i;simp[k,i]
   simp[k]
  rw[d];rfl
 simp only[Region.wanted,l,d,Bool.false_eq_true,if_false];exact m β _ w (S.val ⟨#[],rfl,trivial⟩)
theorem kF {ops:Array Oper} {o:Oper} (hs:Sound P E TI o) {w0:World} {X:WX} {β:Nat->Option Nat} {s:St} {a:Act} {w:World} (S:BI w0 X β s a w) {f:BW} (h:E1 E TI ops.toList o f s):
  ∃β' b w',BI w0 X β' (s.app o.dst f) b w':=by
 have:=Rs (N:=fun b w'=>∃β',BI w0 X β' (s.app o.dst f) b w') (Q:=fun _ _ _=>False) hs S h fun β' b w' h=>⟨β',h⟩
 split at this
 ·obtain⟨b,w',β',h⟩:=oQ this;exact⟨β',b,w',h⟩
 obtain⟨β',h⟩:=this;exact⟨β',_,_,h⟩
theorem SX {w0:World} {X:WX} {β:Nat->Option Nat} {s:St} {a:Act} {w:World} (S:BI w0 X β s a w) (x:Operand) (t:T) (l:List (el t)) (h:ev s.sl x= .one (.sl t l)):l.length<=140737488355328:=by
 have b:=CY S.B6 x;rw[h] at b;obtain⟨_,_,_,_,c,_⟩:=BN b (by simp);exact c
theorem ZN {ops:Array Oper} {draw:Bool} {w0:World} {X:WX} {Q:St->Prop}:∀{r:List Oper} {tr:Tr} {β:Nat->Option Nat} {s:St} {a:Act} {w:World},(∀o∈r,Sound P E TI o)->BI w0 X β s a w->
  Gt E TI ops.toList draw r tr Q s->∃fs,chain E TI ops.toList r fs s/\Q (fin r fs s)/\(draw=true->Ia ops.toList (tr.reverse++fs.map Kw)=true)
 | [],tr,β,s,a,w,_,_,h=>by
  refine⟨[],trivial,?_,?_⟩
  ·cases draw
   ·exact h
   exact h.2
  rintro rfl;simpa using h.1 ()
 | o::r,tr,β,s,a,w,hs,S,h=>by
  have go:∀f,E1 E TI ops.toList o f s->Gt E TI ops.toList draw r (Kw f::tr) Q (s.app o.dst f)->
    ∃fs,chain E TI ops.toList (o::r) fs s/\Q (fin (o::r) fs s)/\(draw=true->Ia ops.toList (tr.reverse++fs.map Kw)=true):=by
   intro f c d;obtain⟨β',p,w',k⟩:=kF (hs o (by simp)) S c;obtain⟨fs,g1,g2,l⟩:=ZN (fun o n=>hs o (by simp[n])) k d;exact⟨f::fs,⟨c,g1⟩,g2,fun m=>by have:=l m;simpa using this⟩
  unfold Gt at h
  split at h
  ·rename_i i
   obtain⟨f,c,d⟩:=P6 (SX S) h;exact go f (by unfold E1;rw[i];exact c _ rfl) d
  rename_i j want i
  split at h
  ·exact h.elim
  rename_i g b
  split at h
  ·rename_i hb
   obtain⟨f,c,d⟩:=P6 (SX S) h;exact go f (by unfold E1;rw[i];exact⟨g,b,.inl ⟨hb,c _ rfl⟩⟩) d
  ·rename_i hb
   obtain⟨f,c,d⟩:=P6 (SX S) h;exact go f (by unfold E1;rw[i];exact⟨g,b,.inl ⟨hb,c _ rfl⟩⟩) d
  ·rename_i hb
   exact go ⟨.AG [],[],[]⟩ (by unfold E1;rw[i];exact⟨g,b,.inr ⟨.inl hb,rfl⟩⟩) h
  ·rename_i hb
   exact go ⟨.AG [],[],[]⟩ (by unfold E1;rw[i];exact⟨g,b,.inr ⟨.inl hb,rfl⟩⟩) h
  ·rename_i hb
   exact go ⟨.AG [],[],[]⟩ (by unfold E1;rw[i];exact⟨g,b,.inr ⟨.inr hb,rfl⟩⟩) h
  exact h.elim
theorem aq {ops:Array Oper} {w0:World} {X:WX} {Q:Exit->Act->World->Prop}:∀{r:List Oper} {fs:List BW} {k:Nat} {β:Nat->Option Nat} {s:St} {a:Act} {w:World},(∀j,ops[k+j]? =r[j]?)->(∀o∈r,Sound P E TI o)->BI w0 X β s a w->
  chain E TI ops.toList r fs s->(∀β a w,BI w0 X β (fin r fs s) a w->Q .normal a w)->wpOps P ops Q (List.range' k r.length) a w
 | [],[],k,β,s,a,w,_,_,S,_,b=>b β a w S
 | o::r,f::fs,k,β,s,a,w,d,hs,S,c,b=>by
  have i:ops[k]? =some o:=by simpa using d 0
  have:=Rs (Q:=Q) (N:=wpOps P ops Q (List.range' (k+1) r.length)) (hs o (by simp)) S c.1 fun β' m w' g=>
   aq (fun j=>by have:=d (j+1);rw[show k+1+j=k+(j+1) by omega];simpa using this) (fun o l=>hs o (by simp[l])) g c.2 b
  simp only[List.length_cons,List.range'_succ,wpOps,i]
  split
  ·rename_i hw;rw[if_pos hw] at this;exact .inl this
  rename_i hw;rw[if_neg hw] at this;exact this
 |[],_::_,_,_,_,_,_,_,_,_,h,_|_::_,[],_,_,_,_,_,_,_,_,h,_=>h.elim
end
section
variable {P:Program} {E:Env} {TI:TypeId->Info}
def run (m:Nat->Bool):Nat->List Oper->List BW->St->St
 | k,o::r,f::fs,s=>run m (k+1) r fs (if m k then s.app o.dst f else s)
 | _,_,_,s=>s
theorem ZO {m:Nat->Bool}:∀{r:List Oper} {fs:List BW} {k:Nat} {s:St},(∀j,k<=j->j<k+r.length->m j=true)->run m k r fs s=fin r fs s
 | o::r,f::fs,k,s,h=>by
  simp only[run,fin];rw[h k (Nat.le_refl _) (by simp),if_pos rfl];exact ZO fun j a b=>h j (by omega) (by simp;omega)
 |[],_,_,_,_|_::_,[],_,_,_=>rfl
theorem Xw (s:St) (d:Option Nat) (f:BW) (x:Nat) (h:d≠some x):nth (s.app d f).sl x=nth s.sl x:=by
 cases d with
 | none=>rfl
 | some q=>
  show nth (A9 s.sl q f.v) x=_
  rw[JI,if_neg]
  rintro⟨rfl,_⟩;exact h rfl
theorem Ls (s:St) (d:Option Nat) (f:BW):(s.app d f).sl.length=s.sl.length:=by
 cases d with
 | none=>rfl
 | some q=>exact Fb _ _ _
theorem Lu:∀(ws:List (Nat×AL)) (l:List (Option AL)),(Cq ws l).length=l.length
 | [],_=>rfl
 | p::ws,l=>by rw[Cq,Lu ws,Fb]
theorem Ra:∀(ws:List (Nat×AL)) (l:List (Option AL)) (x:Nat),x ∉ ws.map (·.1)->AF (Cq ws l) x=AF l x
 | [],_,_,_=>rfl
 | p::ws,l,x,h=>by
  rw[Cq,Ra ws _ x (fun h'=>h (by simp at h' ⊢;exact .inr h')),Gm,if_neg]
  rintro⟨rfl,_⟩;exact h (by simp)
theorem X3:∀(ws:List (Nat×AL)) (l l':List (Option AL)) (x:Nat),l.length=l'.length->AF l x=AF l' x->AF (Cq ws l) x=AF (Cq ws l') x
 | [],_,_,_,_,h=>h
 | p::ws,l,l',x,a,h=>X3 ws _ _ x (by simp[Fb,a]) (by rw[Gm,Gm,a,h])
theorem Ma {m1 m2:Nat->Bool} {x:Nat}:∀{r:List Oper} {fs:List BW} {k:Nat} {s s':St},(∀j o,r[j]? =some o->m1 (k+j)≠m2 (k+j)->o.dst≠some x)->nth s.sl x=nth s'.sl x->s.sl.length=s'.sl.length->
  nth (run m1 k r fs s).sl x=nth (run m2 k r fs s').sl x
 | o::r,f::fs,k,s,s',h,a,b=>by
  have i:=h 0 o rfl;simp only[Nat.add_zero] at i;have g:∀j o',r[j]? =some o'->m1 (k+1+j)≠m2 (k+1+j)->o'.dst≠some x:=fun j o' l hm=>h (j+1) o' (by simpa using l) (by rw[show k+(j+1)=k+1+j by omega];exact hm)
  simp only[run];cases c:m1 k <;> cases d:m2 k <;> simp only[Bool.false_eq_true,if_true,if_false]
  ·exact Ma g a b
  ·exact Ma g (by rw[Xw _ _ _ _ (i (by simp[c,d]))];exact a) (by rw[Ls];exact b)
  ·exact Ma g (by rw[Xw _ _ _ _ (i (by simp[c,d]))];exact a) (by rw[Ls];exact b)
  refine Ma g ?_ (by rw[Ls,Ls];exact b);cases m:o.dst with
  | none=>exact a
  | some q=>show nth (A9 _ _ _) _=nth (A9 _ _ _) _;rw[JI,JI,b,a]
 |[],_,_,_,_,_,a,_|_::_,[],_,_,_,_,a,_=>a
theorem MZ {m1 m2:Nat->Bool} {x:Nat}:∀{r:List Oper} {fs:List BW} {k:Nat} {s s':St},(∀j f,fs[j]? =some f->m1 (k+j)≠m2 (k+j)->x ∉ f.ws.map (·.1))->AF s.bk x=AF s'.bk x->s.bk.length=s'.bk.length->
  AF (run m1 k r fs s).bk x=AF (run m2 k r fs s').bk x
 | o::r,f::fs,k,s,s',h,a,b=>by
  have i:=h 0 f rfl;simp only[Nat.add_zero] at i;have g:∀j l,fs[j]? =some l->m1 (k+1+j)≠m2 (k+1+j)->x ∉ l.ws.map (·.1):=fun j o' m hm=>h (j+1) o' (by simpa using m) (by rw[show k+(j+1)=k+1+j by omega];exact hm)
  simp only[run];cases c:m1 k <;> cases d:m2 k <;> simp only[Bool.false_eq_true,if_true,if_false]
  ·exact MZ g a b
  ·exact MZ g (by show _=AF (Cq _ _) _;rw[Ra _ _ _ (i (by simp[c,d]))];exact a) (by show _=(Cq _ _).length;rw[Lu];exact b)
  ·exact MZ g (by show AF (Cq _ _) _=_;rw[Ra _ _ _ (i (by simp[c,d]))];exact a) (by show (Cq _ _).length=_;rw[Lu];exact b)
  exact MZ g (X3 _ _ _ _ b a) (by show (Cq _ _).length=(Cq _ _).length;rw[Lu,Lu];exact b)
 |[],_,_,_,_,_,a,_|_::_,[],_,_,_,_,a,_=>a
theorem SQ {α:Type}:∀(l:List α) (i j:Nat) (x y:α),i≠j->A9 (A9 l i x) j y=A9 (A9 l j y) i x
 | [],_,_,_,_,_=>rfl
 | _::_,0,0,_,_,h=>(h rfl).elim
 |_::_,0,_+1,_,_,_|_::_,_+1,0,_,_,_=>rfl
 | _::l,i+1,j+1,x,y,h=>by simp[A9,SQ l i j x y (by omega)]
theorem Yo:∀(ws:List (Nat×AL)) (l:List (Option AL)) (i:Nat) (b:Option AL),i ∉ ws.map (·.1)->Cq ws (A9 l i b)=A9 (Cq ws l) i b
 | [],_,_,_,_=>rfl
 | p::ws,l,i,b,h=>by
  rw[Cq,Cq,SQ _ _ _ _ _ (fun e=>h (by simp[e])),Yo ws _ i b (fun h'=>h (by simp at h' ⊢;exact .inr h'))]
theorem Yn:∀(ws a:List (Nat×AL)) (l:List (Option AL)),(∀x∈ws.map (·.1),x ∉ a.map (·.1))->Cq a (Cq ws l)=Cq ws (Cq a l)
 | [],_,_,_=>rfl
 | p::ws,a,l,h=>by
  rw[Cq,Cq,Yn ws a _ (fun x b=>h x (by simp at b ⊢;exact .inr b)),Yo a l p.1 _ (h p.1 (by simp))]
theorem eO {s:St} {d a:Option Nat} {f b:BW} (g:∀q,d=some q->a≠some q) (h:∀x∈f.ws.map (·.1),x ∉ b.ws.map (·.1)):(s.app d f).app a b=(s.app a b).app d f:=by
 have c:FK (FK s.sl d f.v) a b.v=FK (FK s.sl a b.v) d f.v:=by
  cases d with
  | none=>rfl
  | some q=>cases a with
   | none=>rfl
   | some i=>exact SQ _ _ _ _ _ fun e=>g q rfl (by rw[e])
 show St.mk _ _=St.mk _ _
 rw[St.mk.injEq];exact⟨c,Yn _ _ _ h⟩
theorem SO {m m':Nat->Bool} {i:Nat} {o:Oper} {f:BW}:∀{r:List Oper} {fs:List BW} {k:Nat} {s:St},i<k->(∀j,j≠i->m' j=m j)->
  (∀j g d,r[j]? =some g->fs[j]? =some d->m (k+j)=true->(∀q,g.dst=some q->o.dst≠some q)/\(∀x∈d.ws.map (·.1),x ∉ f.ws.map (·.1)))->
  (run m k r fs s).app o.dst f=run m' k r fs (s.app o.dst f)
 | g::r,d::fs,k,s,p,hm,c=>by
  simp only[run,hm k (by omega)]
  have h:∀j b a,r[j]? =some b->fs[j]? =some a->m (k+1+j)=true->(∀q,b.dst=some q->o.dst≠some q)/\(∀x∈a.ws.map (·.1),x ∉ f.ws.map (·.1)):=
   fun j b a l n h3=>c (j+1) b a (by simpa using l) (by simpa using n) (by rw[show k+(j+1)=k+1+j by omega];exact h3)
  cases t:m k <;> simp only[Bool.false_eq_true,if_true,if_false]
  ·exact SO (by omega) hm h
  have:=c 0 g d rfl rfl (by simpa using t);rw[SO (m':=m') (by omega) hm h,eO this.1 this.2]
 |[],_,_,_,_,_,_|_::_,[],_,_,_,_,_=>rfl
theorem ZP {m m':Nat->Bool} {i:Nat} {o:Oper} {f:BW}:∀{r:List Oper} {fs:List BW} {k j0:Nat} {s:St},i=k+j0->r[j0]? =some o->fs[j0]? =some f->m i=false->m' i=true->(∀j,j≠i->m' j=m j)->
  (∀j p n,j0<j->r[j]? =some p->fs[j]? =some n->m (k+j)=true->(∀q,p.dst=some q->o.dst≠some q)/\(∀x∈n.ws.map (·.1),x ∉ f.ws.map (·.1)))->
  (run m k r fs s).app o.dst f=run m' k r fs s
 | p::r,n::fs,k,0,s,hi,h,l,hm,d,a,c=>by
  simp at h l;subst h l;simp only[Nat.add_zero] at hi;subst hi;simp only[run,hm,d,Bool.false_eq_true,if_true,if_false];exact SO (Nat.lt_succ_self _) a fun j g b t u v=>c (j+1) g b (by omega) (by simpa using t) (by simpa using u) (by rw[show i+(j+1)=i+1+j by omega];exact v)
 | p::r,n::fs,k,j0+1,s,hi,h,l,hm,d,a,c=>by
  simp only[run,a k (by omega)];exact ZP (j0:=j0) (by omega) (by simpa using h) (by simpa using l) hm d a fun j g b w t u v=>c (j+1) g b (by omega) (by simpa using t) (by simpa using u) (by rw[show k+(j+1)=k+1+j by omega];exact v)
 | [],_,_,_,_,_,h,_,_,_,_,_=>by simp at h
 | _::_,[],_,_,_,_,_,l,_,_,_,_=>by simp at l
theorem VG {all:List Oper}:∀{r:List Oper} {fs:List BW} {k j:Nat} {s:St} {o:Oper},chain E TI all r fs s->r[j]? =some o->∃f,fs[j]? =some f/\E1 E TI all o f (run (fun t=>decide (t<k+j)) k r fs s)
 | c::r,a::fs,k,0,s,o,b,h=>by
  simp at h;subst h;refine⟨a,rfl,?_⟩
  have:run (fun t=>decide (t<k+0)) k (c::r) (a::fs) s=s:=by
   have e:∀(r:List Oper) (fs:List BW) (k':Nat) (s:St),k<=k'->run (fun t=>decide (t<k+0)) k' r fs s=s:=by
    intro r
    induction r with
    | nil=>intro fs k' s _;cases fs <;> rfl
    | cons o r i=>
     intro fs k' s l;cases fs with
     | nil=>rfl
     | cons f fs=>simp only[run];rw[if_neg (by simp;omega)];exact i fs (k'+1) s (by omega)
   exact e _ _ _ _ (Nat.le_refl _)
  rw[this];exact b.1
 | c::r,a::fs,k,j+1,s,o,b,h=>by
  obtain⟨f,d,g⟩:=VG (k:=k+1) b.2 (show r[j]? =some o by simpa using h);refine⟨f,by simpa using d,?_⟩;simp only[run];rw[if_pos (by simp),show k+(j+1)=k+1+j by omega];exact g
 | [],[],_,_,_,_,_,h=>by simp at h
 |[],_::_,_,_,_,_,h,_|_::_,[],_,_,_,_,h,_=>h.elim
theorem QN {all:List Oper}:∀{r:List Oper} {fs:List BW} {s:St},chain E TI all r fs s->fs.length=r.length
 | [],[],_,_=>rfl
 | _::_,_::_,_,h=>by simp[QN h.2]
 |[],_::_,_,h|_::_,[],_,h=>h.elim
theorem kE {all:List Oper} {o:Oper} {f:BW} {s s':St} (b:∀x∈HR all o,nth s.sl x=nth s'.sl x) (i:∀x∈f.rd,AF s.bk x=AF s'.bk x) (h:E1 E TI all o f s):E1 E TI all o f s':=by
 have he:∀x∈o.op.operands,ev s.sl x=ev s'.sl x:=fun x k=>by
  cases x with
  | tmp t=>exact b t (by
   unfold HR YT;refine List.mem_append_left _ (List.mem_append_right _ (List.mem_filterMap.2 ⟨.tmp t,by simpa using k,rfl⟩)))
  | _=>rfl
 have a:CG E TI o (BQ o) (ev s.sl) (AF s.bk) (fun g=>g=f)->CG E TI o (BQ o) (ev s'.sl) (AF s'.bk) (fun g=>g=f):=fun h=>eK i (eN he h)
 unfold E1 at h ⊢
 split at h
 ·rename_i c;exact a h
 rename_i j want c
 obtain⟨g,g1,d⟩:=h;refine⟨g,g1,?_⟩;rw[<-b g (by unfold HR;rw[c];simp[g1])];exact d.imp (fun q=>⟨q.1,a q.2⟩) id
end
section
variable {P:Program} {E:Env} {TI:TypeId->Info}
def Gx:List Bool->Nat
 | []=>0
 | b::l=>(if b then 0 else 1)+Gx l
theorem aQ:∀(l:List Bool) (i:Nat),l[i]? =some false->Gx (l.set i true)+1=Gx l
 | [],_,h=>by simp at h
 | b::l,0,h=>by simp at h;subst h;simp[Gx];omega
 | b::l,i+1,h=>by have:=aQ l i (by simpa using h);simp[Gx];omega
theorem aR:∀(l:List Bool),Gx l=0->∀j,j<l.length->l[j]? =some true
 | [],_,j,h=>by simp at h
 | b::l,h,0,_=>by cases b <;> simp[Gx] at h ⊢
 | b::l,h,j+1,a=>by have:=aR l (by simp[Gx] at h;exact h.2) j (by simpa using a);simpa using this
theorem QD:∀(r:List Oper) (acc:List (List Nat)) (k:Nat),k<acc.length->(FB r acc).getD k []=acc.getD k []
 | [],_,_,_=>rfl
 | o::r,acc,k,h=>by
  rw[FB,QD r _ k (by simp;omega)];simp[List.getD_eq_getElem?_getD,List.getElem?_append_left h]
theorem QE:∀(r:List Oper) (acc:List (List Nat)) (j:Nat) (o:Oper),r[j]? =some o->∀i∈(FB r acc).getD (acc.length+j) [],∃k∈Ed o,i=k\/i∈(FB r acc).getD k []
 | [],_,_,_,h=>by simp at h
 | o::r,acc,0,o',h=>by
  simp at h;subst h;intro i hi;rw[FB,Nat.add_zero,QD r _ acc.length (by simp)] at hi;simp only[List.getD_eq_getElem?_getD,List.getElem?_concat_length,Option.getD_some] at hi;obtain⟨k,a,hi⟩:=List.mem_flatMap.1 hi;refine⟨k,a,?_⟩;rcases List.mem_cons.1 hi with rfl | hi
  ·exact .inl rfl
  refine .inr ?_;rcases Nat.lt_or_ge k acc.length with h' | h'
  ·rw[FB,QD r _ k (by simp;omega)];simpa [List.getD_eq_getElem?_getD,List.getElem?_append_left h'] using hi
  simp[List.getElem?_eq_none h'] at hi
 | o::r,acc,j+1,o',h=>by
  intro i hi
  have:=QE r (acc++[(Ed o).flatMap fun j=>j::acc.getD j []]) j o' (by simpa using h) i (by
   rw[List.length_append,List.length_singleton,show acc.length+1+j=acc.length+(j+1) by omega];exact hi)
  exact this
theorem Q8:∀(r:List Oper) (fs:List BW) (s:St),(fin r fs s).sl.length=s.sl.length
 | o::r,f::fs,s=>by rw[fin,Q8 r fs,Ls]
 |[],_,_|_::_,[],_=>rfl
theorem Nl {a b:List Nat} (h:Li a b=true):∀x∈a,x ∉ b:=fun x c=>by
 have:=List.all_eq_true.1 h x c;simpa using this
theorem UX {ops:List Oper} {c d:Oper} {f a:List Nat×List Nat} (h:LN ops c d f a=true):
  (∀q,c.dst=some q->q ∉ HR ops d)/\(∀q,d.dst=some q->q ∉ HR ops c)/\(∀x∈f.2,x ∉ a.1/\x ∉ a.2)/\(∀x∈a.2,x ∉ f.1):=by
 simp only[LN,Bool.and_eq_true] at h;obtain⟨⟨⟨g,i⟩,h3⟩,j⟩:=h;refine⟨fun q b=>Nl g q (by simp[b]),fun q b=>Nl i q (by simp[b]),fun x k=>?_,Nl j⟩;have:=Nl h3 x k;simpa using this
theorem Vu {ops:List Oper} {o:Oper} {q:Nat} (h:o.dst=some q):q∈HR ops o:=by simp[HR,h]
theorem gN {ops:Array Oper} {fs:List BW} {s0:St} {w0:World} {X:WX} {Q:Exit->Act->World->Prop} (hc:chain E TI ops.toList ops.toList fs s0) (hok:Ia ops.toList (fs.map Kw)=true)
  (hs:∀o∈ops.toList,Sound P E TI o) (hQ:∀β a w,BI w0 X β (fin ops.toList fs s0) a w->Q .normal a w):
  ∀(fuel:Nat) (listed:Array Bool) (β:Nat->Option Nat) (a:Act) (w:World),listed.size=ops.size->(∀j o,ops[j]? =some o->listed.getD j false=true->∀i∈Ed o,listed.getD i false=true)->
   Gx listed.toList<=fuel->BI w0 X β (run (fun j=>listed.getD j false) 0 ops.toList fs s0) a w->wpAny P .any ops Q fuel listed a w:=by
 simp only[Ia,Bool.and_eq_true] at hok;obtain⟨hback,hpairs⟩:=hok
 have back:∀j o,ops[j]? =some o->∀i∈Ed o,i<j:=by
  intro j o ho i hi;have hj:j<ops.toList.length:=by simpa using (Array.getElem?_eq_some_iff.1 ho).1
  have:=List.all_eq_true.1 hback j (List.mem_range.2 hj);have ho':ops.toList[j]? =some o:=by simpa using ho
  rw[ho'] at this;have:=List.all_eq_true.1 this i hi;simpa using this
 have pair:∀i j oi oj fi fj,i<j->ops[i]? =some oi->ops[j]? =some oj->fs[i]? =some fi->fs[j]? =some fj->i ∉ (FB ops.toList []).getD j []->LN ops.toList oi oj (Kw fi) (Kw fj)=true:=by
  intro i j oi oj fi fj hij h1 h2 h3 h4 h5;have hj:j<ops.toList.length:=by simpa using (Array.getElem?_eq_some_iff.1 h2).1
  have:=List.all_eq_true.1 (List.all_eq_true.1 hpairs j (List.mem_range.2 hj)) i (List.mem_range.2 hij);rw[Bool.or_eq_true] at this;rcases this with h | h
  ·exact absurd (by simpa using h) h5
  have e1:ops.toList[i]? =some oi:=by simpa using h1
  have e2:ops.toList[j]? =some oj:=by simpa using h2
  simpa [e1,e2,h3,h4] using h
 have anyOn_mem:∀(o:Oper) (i:Nat),i∈Ed o↔∃e∈o.after,Region.binds .any e=true/\e.on=i:=by
  intro o i;simp[Ed,and_assoc]
 have closed:∀(listed:Array Bool),(∀j o,ops[j]? =some o->listed.getD j false=true->∀i∈Ed o,listed.getD i false=true)->
   ∀(n j:Nat) (o:Oper),j<=n->ops[j]? =some o->(∀i∈Ed o,listed.getD i false=true)->∀i∈(FB ops.toList []).getD j [],listed.getD i false=true:=by
  intro listed hdc n
  induction n with
  | zero=>
   intro j o hj ho hl i hi;obtain⟨k,hk,_⟩:=QE ops.toList [] j o (by simpa using ho) i (by simpa using hi);have:=back j o ho k hk;omega
  | succ n ih=>
   intro j o hj ho hl i hi;obtain⟨k,hk,h⟩:=QE ops.toList [] j o (by simpa using ho) i (by simpa using hi);have hkj:=back j o ho k hk;rcases h with rfl | h
   ·exact hl _ hk
   have hk':=hl k hk
   obtain⟨ok,hok⟩:∃ok,ops[k]? =some ok:=by
    have hj:j<ops.size:=(Array.getElem?_eq_some_iff.1 ho).1;exact⟨ops[k]'(by omega),by simp⟩
   exact ih k ok (by omega) hok (hdc k ok hok hk') i h
 have all_of:∀(listed:Array Bool),listed.size=ops.size->(∀j,j<ops.size->listed.getD j false=true)->run (fun j=>listed.getD j false) 0 ops.toList fs s0=fin ops.toList fs s0:=
  fun listed hsz h=>ZO fun j _ hj=>h j (by simpa using hj)
 have none_ready:∀(listed:Array Bool),listed.size=ops.size->(∀j,j<ops.size->listed.getD j false=true)->Region.ready .any ops listed=[]:=by
  intro listed hsz h;rcases hr:Region.ready .any ops listed with _ |⟨x,l⟩
  ·rfl
  have hx:x∈Region.ready .any ops listed:=by rw[hr];simp
  obtain⟨h1,o,ho,_⟩:=mem_ready.1 hx;have hlt:=(Array.getElem?_eq_some_iff.1 ho).1;have:=h x hlt;simp[hsz,hlt] at h1 this;rw[h1] at this;cases this
 have ready_none:∀(listed:Array Bool),listed.size=ops.size->Region.ready .any ops listed=[]->∀n j,j<n->j<ops.size->listed.getD j false=true:=by
  intro listed hsz hr n
  induction n with
  | zero=>intro j hj;omega
  | succ n ih=>
   intro j hjn hj;cases hl:listed.getD j false with
   | true=>rfl
   | false=>
    exfalso
    have:j∈Region.ready .any ops listed:=mem_ready.2 ⟨by simpa [hsz,hj] using hl,ops[j],by simp[hj],fun e he hb=>by
     have hlt:=back j ops[j] (by simp[hj]) e.on ((anyOn_mem _ _).2 ⟨e,he,hb,rfl⟩);exact ih e.on (by omega) (by omega)⟩
    rw[hr] at this;cases this
 intro fuel
 induction fuel with
 | zero=>
  intro listed β a w hsz _ hu S
  have hall:∀j,j<ops.size->listed.getD j false=true:=fun j hj=>by
   have:=aR _ (Nat.le_zero.1 hu) j (by simpa [hsz] using hj);simp[hsz,hj] at this;simp[hsz,hj,this]
  exact⟨none_ready listed hsz hall,hQ β a w (by rw[all_of listed hsz hall] at S;exact S)⟩
 | succ fuel ih=>
  intro listed β a w hsz hdc hu S;refine⟨fun hr=>?_,fun i hi=>?_⟩
  ·have hall:=fun j hj=>ready_none listed hsz hr (j+1) j (Nat.lt_succ_self j) hj
   exact hQ β a w (by rw[all_of listed hsz hall] at S;exact S)
  obtain⟨h1,o,ho,hdeps⟩:=mem_ready.1 hi;have hilt:=(Array.getElem?_eq_some_iff.1 ho).1;have hil:listed.getD i false=false:=by simp[hsz,hilt] at h1 ⊢;exact h1
  have hanyi:∀k∈Ed o,listed.getD k false=true:=fun k hk=>by
   obtain⟨e,he,hb,rfl⟩:=(anyOn_mem o k).1 hk;exact hdeps e he hb
  obtain⟨f,hf,hfo⟩:=VG (k:=0) hc (show ops.toList[i]? =some o by simpa using ho);simp only[Nat.zero_add] at hfo
  have apart:∀j oj fj,ops[j]? =some oj->fs[j]? =some fj->listed.getD j false≠decide (j<i)->
    (∀q,oj.dst=some q->q ∉ HR ops.toList o)/\(∀x∈fj.ws.map (·.1),x ∉ f.rd)/\(∀q,oj.dst=some q->o.dst≠some q)/\(∀x∈fj.ws.map (·.1),x ∉ f.ws.map (·.1)):=by
   intro j oj fj hj hfj hne;have hij:j≠i:=by rintro rfl;rw[hil] at hne;simp at hne
   rcases Nat.lt_or_gt_of_ne hij with hlt | hgt
   ·have hlj:listed.getD j false=false:=by
     cases h:listed.getD j false with
     | false=>rfl
     | true=>rw[h] at hne;simp[hlt] at hne
    have hnb:j ∉ (FB ops.toList []).getD i []:=fun hm=>by
     have:=closed listed hdc i i o (Nat.le_refl _) ho hanyi j hm;rw[hlj] at this;cases this
    obtain⟨a1,a2,a3,a4⟩:=UX (pair j i oj o fj f hlt hj ho hfj hf hnb);exact⟨a1,fun x hx=>(a3 x hx).1,fun q hq e=>a1 q hq (Vu e),fun x hx=>(a3 x hx).2⟩
   have hlj:listed.getD j false=true:=by
    cases h:listed.getD j false with
    | true=>rfl
    | false=>rw[h] at hne;simp[Nat.not_lt.2 (Nat.le_of_lt hgt)] at hne
   have hnb:i ∉ (FB ops.toList []).getD j []:=fun hm=>by
    have:=closed listed hdc j j oj (Nat.le_refl _) hj (hdc j oj hj hlj) i hm;rw[hil] at this;cases this
   obtain⟨a1,a2,a3,a4⟩:=UX (pair i j o oj f fj hgt ho hj hf hfj hnb);exact⟨a2,a4,fun q hq e=>a2 q hq (Vu e),fun x hx hx'=>(a3 x hx').2 hx⟩
  have getf:∀j oj,ops[j]? =some oj->∃fj,fs[j]? =some fj:=fun j oj hj=>by
   have hlt:j<fs.length:=by rw[QN hc];simpa using (Array.getElem?_eq_some_iff.1 hj).1
   exact⟨fs[j],List.getElem?_eq_getElem hlt⟩
  have geto:∀j (fj:BW),fs[j]? =some fj->∃oj,ops[j]? =some oj:=fun j fj hj=>by
   have hlt:j<fs.length:=(List.getElem?_eq_some_iff.1 hj).1;rw[QN hc] at hlt;have hlt:j<ops.size:=by simpa using hlt
   exact⟨ops[j],Array.getElem?_eq_getElem hlt⟩
  have hfo':E1 E TI ops.toList o f (run (fun j=>listed.getD j false) 0 ops.toList fs s0):=by
   refine kE (fun x hx=>?_) (fun x hx=>?_) hfo
   ·refine Ma (fun j oj hj hne=>?_) rfl rfl;have hne:decide (j<i)≠listed.getD j false:=by simpa using hne
    have hj':ops[j]? =some oj:=by simpa using hj
    obtain⟨fj,hfj⟩:=getf j oj hj';exact fun e=>(apart j oj fj hj' hfj (Ne.symm hne)).1 x e hx
   refine MZ (fun j fj hfj hne=>?_) rfl rfl;have hne:decide (j<i)≠listed.getD j false:=by simpa using hne
   obtain⟨oj,hj⟩:=geto j fj hfj;exact fun hm=>(apart j oj fj hj hfj (Ne.symm hne)).2.1 x hm hx
  have hget':∀j,j≠i->(listed.setIfInBounds i true).getD j false=listed.getD j false:=fun j hj=>getD_set_ne false (Ne.symm hj)
  have hgeti:(listed.setIfInBounds i true).getD i false=true:=by simp[hsz,hilt]
  have key:(run (fun j=>listed.getD j false) 0 ops.toList fs s0).app o.dst f=run (fun j=>(listed.setIfInBounds i true).getD j false) 0 ops.toList fs s0:=by
   refine ZP (by omega:i=0+i) (by simpa using ho) hf hil hgeti hget' fun j oj fj hlt hj hfj hl=>?_
   simp only[Nat.zero_add] at hl;have:=apart j oj fj (by simpa using hj) hfj (by rw[hl];simp;omega);exact this.2.2
  have:=Rs (Q:=Q) (N:=wpAny P .any ops Q fuel (listed.setIfInBounds i true)) (hs o (by simpa using Array.mem_of_getElem? ho)) S hfo' fun β' a' w' S'=>by
   rw[key] at S';refine ih _ β' a' w' (by simpa using hsz) (fun j oj hj hl k hk=>?_) ?_ S'
   ·by_cases hki:k=i
    ·subst hki;exact hgeti
    rw[hget' k hki]
    by_cases hji:j=i
    ·subst hji;obtain rfl:o=oj:=Option.some.inj (ho.symm.trans hj);exact hanyi k hk
    rw[hget' j hji] at hl;exact hdc j oj hj hl k hk
   have:=aQ listed.toList i (by simp[hsz,hilt] at hil;simp[hsz,hilt,hil]);simp only[Array.toList_setIfInBounds];omega
  unfold wpOp;rw[ho];simp only
  split
  ·rename_i hw;rw[if_pos hw] at this;exact .inl this
  rename_i hw;rw[if_neg hw] at this;exact this
theorem lQ (hm:P.follows .mixedOrders=true) {id:Nat} {ops:Array Oper} {draw:Bool} {s:St} {w0:World} {X:WX} {β:Nat->Option Nat} {a:Act} {w:World} {R:St->Prop} {Q:Exit->Act->World->Prop}
  (hs:∀o∈ops.toList,Sound P E TI o) (S:BI w0 X β s a w) (h:Gt E TI ops.toList draw ops.toList [] R s) (g:∀s',R s'->s'.sl.length=s.sl.length->∀β a w,BI w0 X β s' a w->Q .normal a w):(Code.region id ops draw).wp P Q a w:=by
 obtain⟨fs,i,hR,c⟩:=ZN hs S h;cases draw with
 | false=>
  refine wp_region ?_;have:=aq (Q:=Q) (k:=0) (ops:=ops) (r:=ops.toList) (fun j=>by simp) hs S i (g _ hR (Q8 _ _ _));rw[List.range_eq_range'];simpa using this
 | true=>
  refine wp_region_any hm ?_;have l:BI w0 X β s a {w with drawn:=w.drawn+1}:=S.ext (dst:=none) (v:= .one .BY) (u:=undef) (rd:=[]) (fun _ _=>rfl) (Nat.le_refl _) rfl rfl rfl (Im _ _);refine gN i (by simpa using c rfl) hs (g _ hR (Q8 _ _ _)) _ _ β a _ (by simp) (fun j o m p=>?_) ?_ ?_
  ·have b:=(Array.getElem?_eq_some_iff.1 m).1;simp[b] at p
  ·have:∀n,Gx (List.replicate n false)=n:=fun n=>by induction n with
    | zero=>rfl
    | succ n d=>rw[List.replicate_succ,Gx,d];simp;omega
   simp[this]
  have e:run (fun j=>(Array.replicate ops.size false).getD j false) 0 ops.toList fs s=s:=by
   have:∀(r:List Oper) (fs:List BW) (k:Nat) (s:St),run (fun j=>(Array.replicate ops.size false).getD j false) k r fs s=s:=by
    intro r
    induction r with
    | nil=>intro fs k s;cases fs <;> rfl
    | cons o r d=>
     intro fs k s;cases fs with
     | nil=>rfl
     | cons f fs=>
      simp only[run];rw[if_neg,d]
      by_cases h:k<ops.size <;> simp[h]
   exact this _ _ _ _
  rw[e];exact l
end
end Go.Abs
