/- Part 5 of a proof. Conditions: each theorem's own. -/
import Derived.Orders
import Derived.Test.YtclgfoceefhnkaaGreatDoorLn03
set_option linter.all false
set_option maxHeartbeats 80000000
set_option maxRecDepth 20000
namespace Go.Abs
open Go.RowKit
section
variable {R S:AC->Value->Prop} {p:AC->Bool} {x y:Cx} {c d:AC} {v:Value}
theorem AV.MJ (r:AV):r.all p=r.cells.all p:=by cases r <;> simp[AV.all,AV.cells,List.all_flatMap]
theorem AV.OK {r:AV}:r.all p=true↔∀c∈r.cells,p c=true:=by rw[r.MJ,List.all_eq_true]
theorem RV.mem {r:AV} (hw:r.wf=true) (h:RV R r v):∀c∈r.cells,c= .B7\/∃u,R c u:=by
 have ag:∀{cs:List AC} {us:List Value},BM R cs us->∀c∈cs,c= .B7\/∃u,R c u:=fun h=>by
  induction h with
  | nil=>simp
  | cons q _ k=>exact fun c b=>(List.mem_cons.1 b).elim (fun e=> .inr ⟨_,e ▸ q⟩) (k c)
 cases r with
 | one d=>exact fun c b=>by rw[List.mem_singleton.1 b];exact h.imp id fun q=>⟨_,q⟩
 | agg cs=>obtain⟨_,_,h⟩:=h;exact ag h
 | AI xs=>
  obtain⟨arr,_,h⟩:=h;simp only[AV.wf,List.all_eq_true] at hw;intro c b;obtain⟨z,g,b⟩:=List.mem_flatMap.1 b;obtain⟨i,j⟩:=List.mem_iff_getElem?.1 g;obtain⟨u,_,hu⟩:=h.get i z j;have hw:=hw z g
  match z,hw,b,hu with
  | (true,_),_,b,⟨_,_,h⟩=>exact ag h c b
  | (false,[d]),_,b,h=>rw[List.mem_singleton.1 b];exact h.imp id fun q=>⟨_,q⟩
  | (false,[]),_,b,_=>cases b
  | (false,_::_::_),hw,_,_=>simp at hw
theorem ZB (d v:Nat):∀cs:List AC,(NH d v cs=[]/\∀c∈cs,Ge c=true->DS c=true)\/∃t l n,.own t l n∈cs/\NH d v cs=[(d,.arr v t l)]
 | []=> .inl ⟨rfl,by simp⟩
 | c::cs=>by
  have j:=ZB d v cs
  cases c <;> first
   | exact .inr ⟨_,_,_,List.mem_cons_self ..,rfl⟩
   | exact j.imp (fun h=>⟨h.1,fun c i=>(List.mem_cons.1 i).elim (fun e=>by rw[e];exact fun h=>h) (h.2 c)⟩) fun⟨t,l,n,b,g⟩=>⟨t,l,n,List.mem_cons_of_mem _ b,g⟩
theorem NO {lo:Nat} {g:Option Nat} (h:∀b,x.I b->y.I b/\y.w.heap[b]? =x.w.heap[b]?) (e:DS c=true) (r:GN x lo g c v):Bg y c v:=by
 cases c <;> first | exact Gz h e r | cases e
theorem Zf {w w':World} {I I':Nat->Prop} (t:T) (hf:t.flat=true):∀(x:el t) (vs:List Value),rep w I t x vs->rep w' I' t x vs:=by
 induction t with
 | pr a b j k=>
  simp only[T.flat,Bool.and_eq_true] at hf;exact fun _ _ ⟨v1,v2,e,g,i⟩=>⟨v1,v2,e,j hf.1 _ v1 g,k hf.2 _ v2 i⟩
 | sl | ex | rf=>cases hf
 | _=>exact fun _ _ h=>h
theorem Vn:∀{us:List Value},BM (Bg x) [c] us->∃u,us=[u]/\Bg x c u
 | [u],.cons h _=>⟨u,rfl,h⟩
end
section
variable {P:Program} {TI:TypeId->Info} {w0 w:World} {X:WX} {β:Nat->Option Nat} {s:St} {a:Act} {J:Nat->Prop} {c d:AC} {v:Value}
theorem QJ (S:Bl w0 X β s a w) (i:∀b,(cx X w β (AN s.bk)).I b->J b) {id k:Nat} {t:T} {y:el t} (hb:AN s.bk id=some (.var k (cells t y))) (j:∀b,live (AN s.bk) id->β id=some b->b<w.heap.size->J b) (r:D3 (cx X w β (AN s.bk)) id k 0 v):Ha w J ⟨t,y⟩ 0 v:=by
 obtain⟨b,g,hu⟩:=r.2 (EL hb).symm;obtain⟨arr,e,h,l⟩:=(S.blocks id _ hb).1.var g;exact⟨b,0,arr.toList,hu,j b ⟨_,hb,rfl⟩ g (GA h),Ev (w':=w) (fun b hb=>⟨i b hb,rfl⟩) _ _ _ ((Gg _ t y arr.toList).2 l),NL h⟩
theorem oe (S:Bl w0 X β s a w) (l:∀b,(cx X w β (AN s.bk)).I b->J b) {j:List (Nat×Nat)} {us:List Value} (r:BM (fun p=>D3 (cx X w β (AN s.bk)) p.1 p.2 0) j us):∀{g:List ((t:T)×el t)},
  (∀id b,id∈j.map (·.1)->live (AN s.bk) id->β id=some b->b<w.heap.size->J b)->NX (AN s.bk) j g->BM (fun q=>Ha w J q 0) g us:=by
 induction r with
 | nil=>intro g _ h;cases g with
  | nil=>exact .nil
  | cons=>exact h.elim
 | cons r _ m=>intro g k h;cases g with
  | nil=>exact h.elim
  | cons=>exact .cons (QJ S l h.1 (fun b=>k _ b (by simp)) r) (m (fun id b i=>k id b (List.mem_cons_of_mem _ i)) h.2)
theorem og (S:Bl w0 X β s a w) {l2:List Nat} {u:List (Nat×Nat)} {us:List Value} (r:BM (fun p=>D3 (cx X w β (AN s.bk)) p.1 p.2 0) u us):∀{g:List ((t:T)×el t)},NY (AN s.bk) l2 u g->BM (fun q=>Ha w (fun b=>b<w.heap.size) q 0) g us:=by
 induction r with
 | nil=>intro g h;cases g with
  | nil=>exact .nil
  | cons=>exact h.elim
 | cons r _ B=>intro g h;cases g with
  | nil=>exact h.elim
  | cons q _=>
   refine .cons ?_ (B h.2);obtain⟨t,y⟩:=q;have m:=h.1;cases t
   case rf t=>
    obtain⟨id,v,_,hb,i⟩:=m;obtain⟨b,k,hu⟩:=r.2 (EL hb).symm;obtain⟨arr,e,n,F⟩:=(S.blocks _ _ hb).1.var k;obtain⟨G,j,C⟩:=Vn F;obtain⟨b2,D,l,z,g1,g2,A⟩:=QJ (J:=fun b=>b<w.heap.size) S (fun b hb=>hb.1.1) i (fun _ _ _ h=>h) C;exact⟨b,0,[G],hu,GA n,⟨b2,D,l,by rw[z];rfl,g1,g2,A⟩,j ▸ NL n⟩
   all_goals exact QJ S (fun b hb=>hb.1.1) m (fun _ _ _ h=>h) r
theorem P7 (S:Bl w0 X β s a w) {x:Cx} (D:x.w=w) (j:∀b,(cx X w β (AN s.bk)).I b->x.I b) (m:∀id b,id∈Cj c->live (AN s.bk) id->β id=some b->b<w.heap.size->x.I b) (h:Gi (AN s.bk) c d) (r:Bg (cx X w β (AN s.bk)) c v):Bg x d v:=by
 subst D;have u:∀b,(cx X x.w β (AN s.bk)).I b->x.I b/\x.w.heap[b]? =x.w.heap[b]? :=fun b hb=>⟨j b hb,rfl⟩
 cases c with
 | AZ t id k off len=>
  obtain⟨l,hb,hle,rfl⟩:=h;obtain⟨base,cap,e,g,C,_,h3⟩:=PQ S r hb hle;exact⟨base,cap,by rw[e],g,C,h3.imp (fun q=>q) fun⟨b,g1,g2,z,A,B⟩=>⟨b,_,A,m id b (by simp[Cj]) g1 g2 z,fun i y F=>let ⟨us,k1,k2⟩:=B i y F;⟨us,Ev (w':=x.w) u _ _ _ k1,k2⟩⟩⟩
 | AR id k off=>obtain⟨rfl,t,y,hb,rfl⟩:=h;exact QJ S j hb (fun b=>m id b (by simp[Cj])) r
 | Gt f G=>
  obtain⟨us,e,r⟩:=r;rcases h with⟨H,g,rfl⟩ | rfl
  ·exact⟨us,e,oe S j r (fun id b n=>m id b n) g⟩
  rw[e];rfl
 | nil=>rcases h with rfl |⟨t,rfl⟩;exact r;rw[show v=_ from r];exact LQ
 | int | bool | fn | sl | Ed | str=>obtain rfl:=h;exact Gz u rfl r
 | _=>exact h.elim
theorem PH (S:Bl w0 X β s a w) {id k:Nat} (g:k=BE (AN s.bk) id) (h:Hr id k c d) (r:Bg (cx X w β (AN s.bk)) c v):Bg (DM w (β id) (cx X w β (AN s.bk)).I) d v:=by
 cases c with
 |AZ|AR=>obtain⟨⟨rfl,rfl⟩,rfl⟩:=h;exact⟨⟨r.1.1,Nat.le_refl _⟩,fun _=>r.2 g⟩
 | nil=>rcases h with rfl |⟨t,rfl⟩;exact r;rw[show v=_ from r];exact LQ
 | int | bool | fn | sl | str=>obtain rfl:=h;exact Gz (y:=DM w (β id) (cx X w β (AN s.bk)).I) (fun b hb=>⟨hb,rfl⟩) rfl r
 | _=>exact h.elim
theorem lB (S:Bl w0 X β s a w) {id k:Nat} (m:k=BE (AN s.bk) id) (t:live (AN s.bk) id) (h:PI (AN s.bk) id k c d) (r:Bg (cx X w β (AN s.bk)) c v):Bg (DM w (β id) (cx X w β (AN s.bk)).I) d v:=by
 cases c
 case AR i w' off=>
  rcases h with h |⟨⟨j,rfl⟩,o,hb,rfl⟩
  ·exact PH S m h r
  obtain⟨b,g,hu⟩:=r.2 (EL hb).symm;obtain⟨arr,e,q,u⟩:=(S.blocks _ _ hb).1.var g;obtain⟨z,l,n⟩:=Vn u;exact⟨b,0,z,hu,⟨GA q,fun e=>j (S.inj i id b ⟨_,hb,rfl⟩ t g e)⟩,⟨⟨n.1.1,Nat.le_refl _⟩,fun _=>n.2 m⟩,l ▸ NL q⟩
 all_goals (refine PH S m ?_ r;exact h)
theorem C4.BE {x:Cx} {id k:Nat} {b:Af} (h:C4 x id b):C4 x id (b.EI k):=by cases b <;> exact h
theorem M4 {b:Af} {k:Nat} (h:(b.EI k).lone=true):b.live=true/\(b.EI k).live=true/\k=0/\∀v cs,b= .var v cs->cs.all DS=true:=by
 cases b <;> simp_all [Af.lone,Af.EI,Af.live]
theorem pe {x y:Cx} {lo id k:Nat} {g:Option Nat} (hw:y.w=x.w) (b:y.β id=x.β 0) (h:x.cv 0=0) (l:y.cv id=k) (e:IW c=true) (r:GN x lo g c v):Bg y (TH id k c) v:=by
 cases c with
 | AZ t i j off len=>
  match i,j,e,r with
  | 0,0,_,r=>exact⟨⟨r.1.1,Nat.le_of_eq l.symm⟩,fun _=>by have:=r.2 h.symm;rwa [hw,b]⟩
 | _=>first | exact r | cases e
theorem aF:∀(l:List (Option Af)) (id:Nat) (b:Af),AN l id=some b->C2 l id (some b)=l
 | [],_,_,h=>by simp[AN] at h
 | a::l,0,b,h=>by rw[C2,show a=some b from h]
 | a::l,n+1,b,h=>by rw[C2,aF l n b h]
theorem jq {d v:Nat} {r:AV} (h:r.all DS=true):LC d v r=r/\KF d v r=[]:=by
 have b:∀cs:List AC,cs.all DS=true->cs.map (Xd d v)=cs/\NH d v cs=[]:=fun cs=>by
  induction cs with
  | nil=>exact fun _=>⟨rfl,rfl⟩
  | cons c cs j=>
   intro h;rw[List.all_cons,Bool.and_eq_true] at h;obtain⟨k,l⟩:=j h.2;cases c <;> first | exact⟨congrArg (_:: ·) k,l⟩ | cases h.1
 refine⟨?_,(b _ (by rw[<-r.MJ];exact h)).2⟩;cases r with
 | one c=>exact congrArg AV.one (List.cons.inj (b [c] (by simpa [AV.all] using h)).1).1
 | agg cs=>exact congrArg AV.agg (b cs h).1
 | AI xs=>
  refine congrArg AV.AI ((List.map_congr_left (g:=id) fun x i=>?_).trans (List.map_id xs));exact Prod.ext rfl (b x.2 (List.all_eq_true.1 h x i)).1
theorem om (o:Oper) {c:Call} {x:Operand} (ho:o.op= .call c) (M:c.callee= .value x):Sound P (env P) TI o:=by
 intro w0 X β s a w S f h N Q hN;simp only[E2,ho,M] at h;have hx:=K4 S x
 obtain⟨g,A,V,cap,aB,D,hU,h⟩:∃(g:FuncId) (A:List AV) (V:List Value) (cap:Array Value),a.eval x= .func (.func g) #[] cap/\BM (CX (cx X w β (AN s.bk))) A V/\c.args.map a.eval++cap=V.toArray/\MI (env P) g A (Ci o) (AN s.bk) (fun g=>g=f):=by
  have D:=Mo (K4 S) c.args.toList
  split at h <;> try exact h.elim
  all_goals rename_i he;rw[he] at hx
  ·exact⟨_,_,_,#[],hx.resolve_left nofun,D,Array.ext' (by simp),h⟩
  ·obtain⟨us,e,r⟩:=hx.resolve_left nofun;exact⟨_,_,_,us,e,D.append (r.map (S:=CX _) (g:=fun q:(t:T)×el t=>AV.one (.Co q.1 q.2 0)) (p:=fun _=>true) (fun _ _ _ h=> .inr h) (by simp)),Array.ext' (by simp),h⟩
  obtain⟨us,e,r⟩:=hx.resolve_left nofun;exact⟨_,_,_,us,e,D.append (r.map (S:=CX _) (g:=fun p:Nat×Nat=>AV.one (.AR p.1 p.2 0)) (p:=fun _=>true) (fun _ _ _ h=> .inr h) (by simp)),Array.ext' (by simp),h⟩
 have core:∀{fl:Bool} {B:List AV} {b0 b1:Af} {r:AV} {ob:Option Nat} (I:Nat->Prop),Jg P fl g B b0 r b1->(b0.live=true\/ob=none)->(∀b,I b->b<w.heap.size/\ob≠some b)->(∀b,(cx X w β (AN s.bk)).I b->I b)->C4 (DM w ob I) 0 b0/\b0.short->BM (CX (DM w ob I)) B V->
   (∀u G w',Dq w w' ob->RV (GN (DW fl I w.heap.size w' ob G) w.heap.size G) r u->C4 (DW fl I w.heap.size w' ob G) 0 b1/\b1.short->∃an,Bl w0 X an (s.app o.dst f) (a.put o.dst u) w')->o.wp P a w N Q:=by
  intro fl B b0 b1 r ob I H C K h3 h4 h5 h6;obtain⟨fn,body,k1,k2,k3⟩:=H.1
  have hr:(execOp a.eval o).run P w= .ok (.enter g (c.args.map a.eval++cap)) w:=by
   simp [execOp, ho, resolve, M, aB, Deferred.ofValue, invoke, callFunc, k1, k3, show fn.name ≠ "runtime.NumGoroutine" by simpa using k2]
  unfold Oper.wp;rw[hr,Oper.upon_enter,hU];refine (H.2 w I ob V C K (S.Xc.mono fun b hb=>⟨h3 b hb,rfl⟩) h4 h5).mono fun e w' ⟨u,G,he,F,q1,q2⟩=>?_
  obtain⟨an,S'⟩:=h6 u G w' F q1 q2;subst he;exact hN _ _ _ S'
 have args:∀{Q:AC->AC->Prop} {m:List AV} {y:Cx},(∀c,(∀i∈Cj c,i∈Ck A)->∀d v,Q c d->Bg (cx X w β (AN s.bk)) c v->Bg y d v)->(∀d,¬Q .B7 d)->En Q A m->BM (CX y) m V:=fun h hj ha=>Vy h hj (fun _ h=>h) ha D
 have a8:∀{fl:Bool} {B:List AV} {r:AV} {rd:List Nat} (I:Nat->Prop),Ej P fl g B r->(∀b,(cx X w β (AN s.bk)).I b->I b)->(∀b,I b->b<w.heap.size)->(fl=false->∀b,I b->(cx X w β (AN s.bk)).I b)->BM (CX (DM w none I)) B V->
   ⟨LC (Ci o) (BE (AN s.bk) (Ci o)+1) r,KF (Ci o) (BE (AN s.bk) (Ci o)+1) r,rd⟩=f->o.wp P a w N Q:=by
  rintro fl B r rd I ⟨⟨hp,aA⟩,H⟩ ao aq ab ha rfl;refine core I H (.inr rfl) (fun b hb=>⟨aq b hb,nofun⟩) ao ⟨trivial,trivial⟩ ha fun u G w' F hr _=>?_
  rcases ZB (Ci o) (BE (AN s.bk) (Ci o)+1) r.cells with⟨e,C⟩ |⟨t,l,n,hm,e⟩
  ·have ai:r.all DS=true:=AV.OK.2 fun c M=>C c M (AV.OK.1 hp c M)
   rw[(jq ai).1,show KF _ _ _=_ from e];refine⟨β,S.ext F fun hle=>RV.mono (S:=Bg (cx X w' β (AN s.bk))) (fun c v M q=>NO (x:=DW fl I w.heap.size w' none G) (fun b hb=>⟨?_,rfl⟩) M q) ai hr⟩;rcases hb.1 with⟨q,q'⟩ | q
   ·exact (hle.I b (ab q b q')).1
   exact⟨⟨hb.2.1,fun id hl e=>by have:=S.lt hl e;omega⟩,S.fresh.1 b (Nat.le_trans S.Fo.size q)⟩
  rw[show KF _ _ _=_ from e];obtain⟨u',hn,base,a5,_,_,_,hs,ah⟩:=((hr.mem aA) _ hm).resolve_left nofun
  by_cases ae:Ci o<s.bk.length\/o.dst=some (Ci o)/\(none:Option Nat)=none
  case neg=>
   have hd:o.dst=none:=by
    cases hq:o.dst with
    | none=>rfl
    | some q=>exact absurd (.inr ⟨by simp[Ci,hq],rfl⟩) ae
   refine⟨β,?_⟩
   have:s.app o.dst ⟨LC (Ci o) (BE (AN s.bk) (Ci o)+1) r,[(Ci o,.arr (BE (AN s.bk) (Ci o)+1) t l)],rd⟩=s.app o.dst ⟨.one .B7,[],rd⟩:=by
    simp only[St.app,Ee,JT _ _ _ (Nat.le_of_not_lt fun h=>ae (.inl h)),hd,FE]
   rw[this,hd];exact S.ext F fun _=> .inl rfl
  refine S.write (o':=G) ae hs F (.inl rfl) (.inl (Nat.lt_succ_self _)) (fun _ b hb=> .inr ?_) fun y hle hw hy hv Y=>?_
  ·rcases ah with⟨rfl,_⟩ |⟨b',_,_,rfl,h9,_⟩ <;> cases hb;exact h9
  have a6:∀b,(DW fl I w.heap.size w' none G).I b->y.I b/\y.w.heap[b]? =w'.heap[b]? :=fun b hb=>⟨Y b hb.2.1 (hb.1.elim (fun q=> .inr ⟨(ab q.1 b q.2).2,fun j _=>(ab q.1 b q.2).1.2 j⟩) .inl) fun _=>hb.2.2.2,by rw[hw]⟩
  refine⟨ah.imp (fun q=>⟨hy.trans q.1,q.2.1⟩) fun⟨b,arr,e,q1,_,_,q4,_,q6⟩=>⟨b,arr,e,hy.trans q1,by rw[hw];exact q4,fun i z hz=>let ⟨us,k1,k2⟩:=q6 i z hz;⟨us,Ev a6 _ _ _ k1,by rw[hw];exact k2⟩⟩,RV.map rfl (fun c v M q=>?_) hp hr⟩;cases c with
  | own t l n=>
   obtain⟨rfl,base,a5,rfl,C,K,_,h3⟩:=q;refine⟨⟨rfl,Nat.le_of_eq hv.symm⟩,fun _=>⟨base,a5,rfl,C,K,nofun,?_⟩⟩;exact h3.imp (·.2.2) fun⟨b,arr,e,q1,_,q3,q4,q5,_⟩=>⟨b,arr,e,hy.trans q1,by simpa using q3,by rw[hw];exact q4,by simpa using q5⟩
  | _=>first | exact NO a6 rfl q | cases M
 have al:∀{id:Nat} {By:Af},AN s.bk id=some By->id<s.bk.length:=fun hb=>Nat.lt_of_not_le fun h=>by rw[KA _ _ h] at hb;cases hb
 have a7:∀{B:List AV} {r r':AV} {id:Nat} {By b1:Af} (I:Nat->Prop),Jg P false g B (By.EI 0) r b1->AN s.bk id=some By->(By.EI 0).lone=true->b1.live=true->(∀b,(cx X w β (AN s.bk)).I b->I b)->(∀b,I b->b<w.heap.size/\β id≠some b)->BM (CX (DM w (β id) I)) B V->
   (∀(y:Cx) (u:Value) (G:Option Nat) (w':World),y.w=w'->y.β id=β id->y.cv id=By.BE->(∀b,((false=false/\(cx X w β (AN s.bk)).I b)\/w.heap.size<=b)/\b<w'.heap.size/\β id≠some b->y.I b)->RV (GN (DW false I w.heap.size w' (β id) G) w.heap.size G) r u->C4 (DW false I w.heap.size w' (β id) G) 0 b1->C4 y id b1/\CX y r' u)->
   s.app o.dst ⟨r',[(id,b1.EI By.BE)],[]⟩=s.app o.dst f->o.wp P a w N Q:=by
  intro B r r' id By b1 I H hb C K h3 h4 ha h5 hf;obtain⟨hl,a1,_,M⟩:=M4 C;have Z:live (AN s.bk) id:=⟨_,hb,hl⟩;have Y:∀b,(cx X w β (AN s.bk)).I b->(DM w (β id) I).I b/\w.heap[b]? =w.heap[b]? :=fun b hb=>⟨h3 b hb,rfl⟩
  refine core I H (.inl a1) h4 h3 ⟨(C4.to (x:=cx X w β (AN s.bk)) (y:=DM w (β id) I) (k:=0) rfl (fun _ _ _=>rfl) (fun v cs e us q=>q.imp (fun _ _=>Gz Y) (M v cs e)) (fun _ _ _ _=>Ev (w':=w) Y _) (S.blocks id By hb).1).BE,by have:=(S.blocks id By hb).2;cases By <;> exact this⟩ ha fun u G w' F hr hB=>?_
  rw[<-hf];refine S.write (.inl (al hb)) (by have:=hB.2;cases b1 <;> exact this) F (.inr ⟨rfl,Z⟩) (o':=β id) (.inr ⟨by rw[EL hb];cases b1 <;> rfl,rfl,fun _=>Z⟩) (fun _ b h=> .inl ⟨h,Z⟩) fun y hle hw hy hv Y=>?_
  obtain⟨k1,k2⟩:=h5 y u G w' hw hy (by rw[hv];cases b1 <;> rfl) (fun b hb=>Y b hb.2.1 (hb.1.elim (fun q=> .inr ⟨q.2.2,fun j _=>q.2.1.2 j⟩) .inl) fun _=>hb.2.2) hr hB.1;exact⟨k1.BE,k2⟩
 have W:∀{B:List AV} {r:AV} {id:Nat} {By b1:Af},D4 P g B (By.EI 0) r b1->AN s.bk id=some By->BM (CX (DM w (β id) (cx X w β (AN s.bk)).I)) B V->s.app o.dst ⟨r,[(id,b1.EI By.BE)],[]⟩=s.app o.dst f->o.wp P a w N Q:=by
  rintro B r id By b1 ⟨⟨hp,hl,ar⟩,H⟩ hb ha hf;have e1:b1=b1.EI 0:=by cases b1 <;> simp_all [Af.lone,Af.EI]
  obtain⟨au,_,_,M⟩:=M4 (e1 ▸ ar);refine a7 _ H hb hl au (fun _ h=>h) (fun b U=>⟨U.1.1,U.1.2 id ⟨_,hb,(M4 hl).1⟩⟩) ha (fun y u G w' hw hy hv Y hr hB=>?_) hf;subst hw;have aa:∀b,(DW false (cx X w β (AN s.bk)).I w.heap.size y.w (β id) G).I b->y.I b/\y.w.heap[b]? =y.w.heap[b]? :=fun b hb=>⟨Y b ⟨hb.1,hb.2.1,hb.2.2.1⟩,rfl⟩
  exact⟨C4.to (x:=DW false (cx X w β (AN s.bk)).I w.heap.size y.w (β id) G) (id:=0) hy (fun _ _ _=>rfl) (fun v cs e us q=>q.imp (fun _ _=>Gz aa) (M v cs e)) (fun _ _ _ _=>Ev aa _) hB,RV.mono (S:=Bg y) (fun _ _ M q=>NO aa M q) hp hr⟩
 have O:∀b,(cx X w β (AN s.bk)).I b->b<w.heap.size:=fun b hb=>hb.1.1
 rcases h with⟨B,r,C,K,h⟩ |⟨B,r,C,K,h⟩ | h |⟨id,By,B,r,C,K,h⟩ |⟨id,By,B,r,C,K,h⟩ | h |⟨id,By,B,r,b1,C,K,h⟩ |⟨l2,B,r,C,K,h⟩ |⟨id,By,B,r,b1,C,K,h⟩
 ·exact a8 _ (K ()) (fun _ h=>h) O (fun _ _ h=>h) (args (fun c _ d v h q=>Gz (x:=cx X w β (AN s.bk)) (fun b hb=>⟨hb,rfl⟩) (ku h).2 (YA h q)) (fun _ h=>h) (C ())) h
 ·exact a8 (fun b=>b<w.heap.size) (K ()) O (fun _ h=>h) nofun (args (fun c _ d v h q=>P7 S (x:=DM w none fun b=>b<w.heap.size) rfl O (fun _ _ _ _ _ h=>h) h q) (fun _ h=>h) (C ())) h
 ·split at h <;> try exact h.elim
  rename_i c0 rest
  split at h <;> try exact h.elim
  rename_i id vv aj
  split at h <;> try exact h.elim
  rename_i By hb
  split at h <;> try exact h.elim
  rename_i ak
  subst ak;obtain⟨B,r,b1,C,K,h⟩:=h;obtain⟨aw,C⟩:=C ();obtain⟨⟨hl,H⟩,ad,av⟩:=K ();obtain _ |⟨a2,ay⟩:=D
  have Z:live (AN s.bk) id:=⟨_,hb,(M4 hl).1⟩;have Y:∀b,(cx X w β (AN s.bk)).I b->b<w.heap.size/\β id≠some b:=fun b hb=>⟨hb.1.1,hb.1.2 id Z⟩
  refine a7 (fun b=>b<w.heap.size/\β id≠some b) H hb hl (by cases b1 <;> first | rfl | cases ad) Y (fun _ h=>h) (.cons (.inr ?_) (Vy (S:=Bg (DM w (β id) fun b=>b<w.heap.size/\β id≠some b)) (L:=Ck rest) (fun c hL d v h q=>P7 S (x:=DM w (β id) fun b=>b<w.heap.size/\β id≠some b) rfl Y (fun i b hi a1 U af=>⟨af,fun e=>aw (S.inj i id b a1 Z U e ▸ hL i hi)⟩) h q) (fun _ h=>h) (fun _ h=>h) C ay)) (fun y u G w' hw hy hv _ hr hB=>?_) (by subst h;rfl)
  ·have a2:=a2.resolve_left fun e=>by subst e;cases aj
   cases c0 <;> first | cases aj | skip
   all_goals exact⟨⟨a2.1.1,Nat.le_refl _⟩,fun _=>a2.2 (EL hb).symm⟩
  subst hw;exact⟨C4.to (x:=DW false _ w.heap.size y.w (β id) G) (id:=0) hy (fun _ _ _=>rfl) (fun v cs e=>by subst e;cases ad) (fun v t l e _ _=>Zf t (by subst e;exact ad) _ _) hB,RV.map rfl (fun c v M q=>pe (x:=DW false _ w.heap.size y.w (β id) G) (y:=y) (id:=id) rfl hy rfl hv M q) av hr⟩
 ·obtain⟨hb,hle⟩:=C ();have e1:(By.EI 0).EI By.BE=By:=by cases By <;> rfl
  exact W (K ()) hb (args (fun c _ d v h q=>PH S (EL hb).symm h q) (fun _ h=>h) hle) (by subst h;simp only[St.app,Ee,e1,aF _ _ _ hb])
 ·obtain⟨⟨h0,hb,ag⟩,az⟩:=C ();obtain⟨⟨_,H⟩,ax⟩:=K ()
  refine core (fun b=>b<w.heap.size/\X.A b/\∀k,k≠id->live (AN s.bk) k->β k≠some b) H (.inr rfl) (fun b hb=>⟨hb.1,nofun⟩) (fun b hb=>⟨hb.1.1,hb.2,fun k _=>hb.1.2 k⟩) ⟨trivial,trivial⟩
   (args (fun c M d v h q=>P7 S (x:=DM w none fun b=>b<w.heap.size/\X.A b/\∀k,k≠id->live (AN s.bk) k->β k≠some b) rfl (fun b hb=>⟨hb.1.1,hb.2,fun k _=>hb.1.2 k⟩) (fun i b hi hl U af=>by
    obtain rfl:i=id:=by simpa using List.all_eq_true.1 ag i (M i hi)
    exact⟨af,(S.own i b hl U).elim (S.fresh.1 b) fun h=>absurd h.2 h0,fun k hk a1 e=>hk (S.inj k i b a1 hl e U)⟩) h q) (fun _ h=>h) az) fun u G w' F hr _=>?_
  subst h;exact S.write (o':=β id) (.inl (al hb)) trivial F (.inl rfl) (.inr ⟨(EL hb).symm,rfl,nofun⟩) nofun fun y hle hw hy hv Y=>⟨trivial,RV.mono (S:=Bg y) (fun _ _ M q=>NO (x:=DW false _ w.heap.size w' none G) (fun b hb=>⟨Y b hb.2.1 (hb.1.elim (fun q=> .inr q.2.2) .inl) nofun,by rw[hw];rfl⟩) M q) ax hr⟩
 ·exact h.elim
 ·obtain⟨hb,hle⟩:=C ();exact W (K ()) hb (args (fun c _ d v h q=>PH S (EL hb).symm h q) (fun _ h=>h) hle) (by subst h;rfl)
 ·exact a8 (fun b=>b<w.heap.size) (K ()) O (fun _ h=>h) nofun (args (fun c _ d v h q=>by
   cases c
   case Gt f ps=>obtain⟨qs,C,rfl⟩:=h;obtain⟨us,e,q⟩:=q;exact⟨us,e,og S q C⟩
   all_goals (refine P7 S (x:=DM w none fun b=>b<w.heap.size) rfl O (fun _ _ _ _ _ h=>h) ?_ q;exact h)) (fun _ h=>h) (C ())) h
 obtain⟨hb,hle⟩:=C ();exact W (K ()) hb (args (fun c _ d v h q=>lB S (EL hb).symm ⟨_,hb,(M4 (K ()).1.2.1).1⟩ h q) (fun _ h=>h) hle) (by subst h;rfl)
end
theorem ot {P:Program} {TI:TypeId->Info} (i:∀t,G9 P t (TI t)) (o:Oper) (j:Mj o=true):Sound P (env P) TI o:=by
 by_cases h:∃c x,o.op= .call c/\c.callee= .value x
 ·obtain⟨c,x,b,g⟩:=h;exact om o b g
 exact ou i j fun c x b g=>h ⟨c,x,b,g⟩
theorem XO {pl:List (Nat×Nat×Bool)} {e b:Operand->AV}:∀{g:List (Nat×Operand)} {cs:List AC},(∀p∈g,e p.2=b p.2)->Hl pl e g cs=Hl pl b g cs
 | [],_,_=>rfl
 | (i,x)::r,cs,h=>by
  have j:e x=b x:=h (i,x) (by simp);have l:=fun cs=>XO (pl:=pl) (cs:=cs) fun p k=>h p (List.mem_cons_of_mem _ k)
  simp only[Hl,j,l]
theorem gJ {E:Env} {TI:TypeId->Info} {o:Oper} {d:Nat} {e b:Operand->AV} {bk:Nat->Option Af} {K:DD->Prop} (he:∀x∈o.op.operands,e x=b x) (h:E2 E TI o d e bk K):E2 E TI o d b bk K:=by
 unfold E2 at h ⊢;cases m:o.op <;> simp only[m] at h ⊢ <;> (try exact h.elim) <;> rw[m] at he <;> simp only[Op.operands] at he
 case build t ps=>
  have g:∀cs pl,Hl pl e ps.toList cs=Hl pl b ps.toList cs:=fun cs pl=>XO fun p g=>he p.2 (by simpa using ⟨p.1,Array.mem_toList_iff.1 g⟩)
  simp only[<-g];exact h
 case buildSlice t n ps=>
  have g:∀p∈ps.toList,e p.2=b p.2:=fun p g=>he p.2 (by simpa using ⟨p.1,Array.mem_toList_iff.1 g⟩)
  have j:(ps.toList.map fun p=>e p.2)=ps.toList.map fun p=>b p.2:=List.map_congr_left g
  have r:(ps.toList.all fun p=>(e p.2).full)=ps.toList.all fun p=>(b p.2).full:=by rw[Bool.eq_iff_iff,List.all_eq_true,List.all_eq_true];exact forall₂_congr fun p h=>by rw[g p h]
  have h3:(ps.toList.map fun p=>(p.1,(e p.2).cs))=ps.toList.map fun p=>(p.1,(b p.2).cs):=List.map_congr_left fun p h=>by rw[g p h]
  rw[<-j,<-r,<-h3];exact h
 case slice t x lo hi mx=>
  have j:∀y:Option Operand,(∀z,y=some z->e z=b z)->y.map e=y.map b:=fun y u=>by cases y <;> simp;exact u _ rfl
  rw[<-he x (by simp),<-j lo (fun z k=>he z (by simp[k])),<-j hi (fun z k=>he z (by simp[k])),<-j mx (fun z k=>he z (by simp[k]))];exact h
 case makeFunc fn first cap=>
  rw[<-show cap.toList.map e=cap.toList.map b from List.map_congr_left fun x q=>he x (by simp_all)];exact h
 case call c=>
  have i:c.args.toList.map e=c.args.toList.map b:=List.map_congr_left fun x q=>he x (by simp[Call.operands];exact .inr (by simpa using q))
  cases l:c.callee <;> simp only[l] at h ⊢ <;> rw[<-i]
  ·rw[<-he _ (by simp[Call.operands,l])];exact h
  exact h
 all_goals (try simp at he);(try simp only[he] at h);exact h
section
variable {P:Program} {E:Env} {TI:TypeId->Info} {w0 w:World} {X:WX} {β:Nat->Option Nat} {s:St} {a:Act} {all:List Oper} {o:Oper} {f:DD}
def JK (E:Env) (TI:TypeId->Info) (all:List Oper) (o:Oper) (f:DD) (s:St):Prop:=
 match o.guard with
 | none=>E2 E TI o (Ci o) (ev s.sl) (AN s.bk) (fun g=>g=f)
 | some (j,w)=>∃g,I8 all j=some g/\
  ((nth s.sl g= .one (.bool w)/\E2 E TI o (Ci o) (ev s.sl) (AN s.bk) (fun g=>g=f))\/
    ((nth s.sl g= .one (.bool (!w))\/nth s.sl g= .AI [])/\f=⟨.AI [],[],[]⟩))
def JV (f:DD):List Nat×List Nat:=(f.rd,f.ws.map (·.1))
structure L2 (E:Env) (TI:TypeId->Info) (all r:List Oper) (s:St) (φ:Nat->DD) (σ:Nat->St):Prop where
 zero:σ 0=s
 step:∀j o,r[j]? =some o->JK E TI all o (φ j) (σ j)/\σ (j+1)=(σ j).app o.dst (φ j)
theorem p6 {N:Act->World->Prop} (h:o.wp P a w N (fun _ _ _=>False)):∃b w',N b w':=by
 unfold Oper.wp at h
 generalize (execOp a.eval o).run P w=r at h
 unfold Oper.upon at h
 split at h
 ·exact⟨_,_,h⟩
 ·exact⟨_,_,h⟩
 ·exact⟨_,_,h⟩
 ·obtain⟨e,w',g,hR,_⟩:=h [];cases e with
  | returned v=>exact⟨_,_,hR⟩
  | panicked _=>exact hR.elim
  | outgrown=>obtain⟨_,_,h⟩:=hR;exact h.elim
 ·obtain⟨v,w',hR,_⟩:=h default [];exact⟨_,_,hR⟩
 ·exact h.elim
 exact h.elim
theorem Sv {ops:Array Oper} (t:Sound P E TI o) (S:Bl w0 X β s a w) (h:JK E TI ops.toList o f s)
  {N:Act->World->Prop} {Q:Exit->Act->World->Prop} (m:∀n q w',Bl w0 X n (s.app o.dst f) q w'->N q w'):
  if Region.wanted o (yielded ops a.tmps) then o.wp P a w N Q else N (a.put o.dst undef) w:=by
 unfold JK at h
 split at h
 ·rename_i k
  simp only[Region.wanted,k,if_true];exact t S h m
 rename_i j want k
 obtain⟨g,u,h3⟩:=h
 have l:yielded ops a.tmps j=match a.tmps.getD g undef with | .bool b=>some b | _=>none:=by
  simp only[yielded,show (ops[j]?).bind (·.dst)=some g by simpa [I8] using u,Option.bind_some,Array.getD_eq_getD_getElem?];cases a.tmps[g]? with
  | none=>rfl
  | some v=>cases v <;> rfl
 have hb:∀{b:Bool},nth s.sl g= .one (.bool b)->yielded ops a.tmps j=some b:=fun {b} e=>by
  have:=S.Hz g;rw[e] at this;rw[l,show a.tmps.getD g undef= .bool b from this.resolve_left nofun]
 rcases h3 with⟨i,h3⟩ |⟨i,rfl⟩
 ·simp only[Region.wanted,k,hb i,beq_self_eq_true,if_true];exact t S h3 m
 have l:(yielded ops a.tmps j==some want)=false:=by
  rcases i with i | i
  ·rw[hb i];cases want <;> rfl
  have r:=S.Hz g;rw[i] at r;obtain⟨arr,z,_⟩:=r;rw[l,z];rfl
 simp only[Region.wanted,k,l,Bool.false_eq_true,if_false];exact m β _ w (S.val ⟨#[],rfl,.nil⟩)
theorem aX (S:Bl w0 X β s a w) (x:Operand) (t:T) (l:List (el t)) (h:ev s.sl x= .one (.sl t l)):l.length<=140737488355328:=by
 have b:=K4 S x;rw[h] at b;obtain⟨_,_,_,_,g,_⟩:=b.resolve_left nofun;exact g
theorem Zz {ops:Array Oper} {draw:Bool} {Q:St->Prop}:∀{r:List Oper} {tr:Tr} {β:Nat->Option Nat} {s:St} {a:Act} {w:World},(∀o∈r,Sound P E TI o)->Bl w0 X β s a w->HU E TI ops.toList draw r tr Q s->
  ∃φ σ,L2 E TI ops.toList r s φ σ/\Q (σ r.length)/\(draw=true->JJ ops.toList (tr.reverse++(List.range r.length).map fun j=>JV (φ j))=true)
 | [],tr,β,s,a,w,_,_,h=>by
  refine⟨fun _=>⟨.AI [],[],[]⟩,fun _=>s,⟨rfl,by simp⟩,?_⟩;cases draw
  ·exact⟨h,nofun⟩
  exact⟨h.2,fun _=>by simpa using h.1 ()⟩
 | o::r,tr,β,s,a,w,t,S,h=>by
  have go:∀f,JK E TI ops.toList o f s->HU E TI ops.toList draw r (JV f::tr) Q (s.app o.dst f)->
    ∃φ σ,L2 E TI ops.toList (o::r) s φ σ/\Q (σ (r.length+1))/\(draw=true->JJ ops.toList (tr.reverse++(List.range (r.length+1)).map fun j=>JV (φ j))=true):=by
   intro f i k;have:=Sv (N:=fun l w'=>∃b,Bl w0 X b (s.app o.dst f) l w') (Q:=fun _ _ _=>False) (t o (by simp)) S i fun b l w' h=>⟨b,h⟩
   obtain⟨l,w',b,u⟩:∃l w' b,Bl w0 X b (s.app o.dst f) l w':=by
    split at this
    ·exact p6 this
    exact⟨_,_,this⟩
   obtain⟨φ,σ,g1,g2,z⟩:=Zz (fun o B=>t o (by simp[B])) u k;refine⟨fun | 0=>f | j+1=>φ j,fun | 0=>s | j+1=>σ j,⟨rfl,fun j o' q=>?_⟩,g2,fun A=>?_⟩
   ·cases j with
    | zero=>cases q;exact⟨i,g1.zero⟩
    | succ j=>exact g1.step j o' q
   rw[List.range_succ_eq_map,List.map_cons,List.map_map];have:=z A;rwa [List.reverse_cons,List.append_assoc] at this
  have out:∀{K:DD->Prop},E2 E TI o (Ci o) (ev s.sl) (AN s.bk) K->∃f,K f/\E2 E TI o (Ci o) (ev s.sl) (AN s.bk) (fun g=>g=f):=fun h=>let ⟨f,i,k⟩:=Vv (aX S) h;⟨f,i,k _ _ (fun _ _=>rfl) rfl⟩
  unfold HU at h
  split at h
  ·rename_i m
   obtain⟨f,k,i⟩:=out h;exact go f (by unfold JK;rw[m];exact i) k
  rename_i j want m
  split at h
  ·exact h.elim
  rename_i g n
  have go':∀f,((nth s.sl g= .one (.bool want)/\E2 E TI o (Ci o) (ev s.sl) (AN s.bk) (fun g=>g=f))\/((nth s.sl g= .one (.bool (!want))\/nth s.sl g= .AI [])/\f=⟨.AI [],[],[]⟩))->_->_:=fun f h=>go f (by unfold JK;rw[m];exact⟨g,n,h⟩)
  split at h <;> try exact h.elim
  ·obtain⟨f,k,i⟩:=out h;exact go' f (.inl ⟨‹_›,i⟩) k
  ·obtain⟨f,k,i⟩:=out h;exact go' f (.inl ⟨‹_›,i⟩) k
  ·exact go' _ (.inr ⟨.inl ‹_›,rfl⟩) h
  ·exact go' _ (.inr ⟨.inl ‹_›,rfl⟩) h
  exact go' _ (.inr ⟨.inr ‹_›,rfl⟩) h
theorem cF {ops:Array Oper} {Q:Exit->Act->World->Prop} {φ:Nat->DD} {σ:Nat->St} (i:∀o∈ops.toList,Sound P E TI o) (g:L2 E TI ops.toList ops.toList s φ σ) (b:∀β a w,Bl w0 X β (σ ops.size) a w->Q .normal a w):
  ∀(n k:Nat) {β:Nat->Option Nat} {a:Act} {w:World},k+n=ops.size->Bl w0 X β (σ k) a w->wpOps P ops Q (List.range' k n) a w
 | 0,k,β,a,w,h,S=>b β a w (by rw[<-h];exact S)
 | n+1,k,β,a,w,h,S=>by
  have l:ops[k]? =some ops[k]:=Array.getElem?_eq_getElem (by omega);obtain⟨m,q⟩:=g.step k ops[k] (by simp);have:=Sv (Q:=Q) (N:=wpOps P ops Q (List.range' (k+1) n)) (i ops[k] (by simp)) S m fun r t w' j=>cF i g b n (k+1) (by omega) (q ▸ j)
  simp only[List.range'_succ,wpOps,l]
  split
  ·rename_i hw;rw[if_pos hw] at this;exact .inl this
  rename_i hw;rw[if_neg hw] at this;exact this
def D7 {α:Type} (m:Nat->Bool) (u:Nat->Option α) (d:α):Nat->α
 | 0=>d
 | n+1=>if m n then (u n).getD (D7 m u d n) else D7 m u d n
theorem M6 {α:Type} {m m':Nat->Bool} {u:Nat->Option α} {d:α}:∀{n:Nat},(∀j,j<n->u j≠none->m j=m' j)->D7 m u d n=D7 m' u d n
 | 0,_=>rfl
 | n+1,h=>by
  rw[D7,D7,M6 fun j b=>h j (by omega)];cases hu:u n with
  | none=>simp
  | some v=>rw[h n (by omega) (by simp[hu])]
theorem YQ {α:Type} {u:Nat->Option α} {d:α} {i:Nat}:∀{n:Nat},i<=n->D7 (fun j=>decide (j<i)) u d n=D7 (fun _=>true) u d i
 | 0,h=>by obtain rfl:i=0:=(by omega);rfl
 | n+1,h=>by
  rcases Nat.lt_or_ge n i with b | b
  ·obtain rfl:i=n+1:=by omega
   exact M6 fun j g _=>by simp;omega
  rw[D7,if_neg (by simp;omega),YQ b]
theorem SO {α:Type} {m:Nat->Bool} {u:Nat->Option α} {d v:α} {i:Nat} (hm:m i=true) (hu:u i=some v):∀{n:Nat},i<n->(∀j,i<j->j<n->m j=true->u j=none)->D7 m u d n=v
 | n+1,l,h=>by
  rw[D7]
  by_cases k:n=i
  ·subst k;rw[if_pos hm,hu];rfl
  have g:=SO (d:=d) hm hu (n:=n) (by omega) fun j b h3=>h j b (by omega)
  split
  ·rename_i b;rw[h n (by omega) (by omega) b];exact g
  exact g
def uS (ops:List Oper) (φ:Nat->DD) (n x j:Nat):Option AV:=match I8 ops j with | some q=>if q=x/\x<n then some (φ j).v else none | none=>none
def wr:List (Nat×Af)->Nat->Option Af
 | [],_=>none
 | w::r,x=>match wr r x with | some b=>some b | none=>if w.1=x then some w.2 else none
def uB (φ:Nat->DD) (n x j:Nat):Option (Option Af):=if x<n then (wr (φ j).ws x).map some else none
theorem UP:∀{ws:List (Nat×Af)} {x:Nat},x ∉ ws.map (·.1)->wr ws x=none
 | [],_,_=>rfl
 | w::r,x,h=>by
  rw[List.map_cons,List.mem_cons,not_or] at h;rw[wr,UP h.2,if_neg (Ne.symm h.1)]
theorem S4:∀(ws:List (Nat×Af)) (l:List (Option Af)),(Ee ws l).length=l.length
 | [],_=>rfl
 | p::ws,l=>by rw[Ee,S4 ws,Gc]
theorem S3:∀(ws:List (Nat×Af)) (l:List (Option Af)) (x:Nat),AN (Ee ws l) x=if x<l.length then ((wr ws x).map some).getD (AN l x) else AN l x
 | [],l,x=>by simp[Ee,wr]
 | w::r,l,x=>by
  rw[Ee,S3 r,Gc]
  by_cases g:x<l.length
  ·simp only[g,if_true,wr];cases wr r x with
   | some b=>rfl
   | none=>
    by_cases h:w.1=x
    ·subst h;simp[LU _ _ _ g,H3]
    by_cases hw:w.1<l.length
    ·simp[h,LU _ _ _ hw,JX (Ne.symm h)]
    simp[h,JT l w.1 (some w.2) (by omega)]
  rw[if_neg g,if_neg g,KA _ _ (by rw[Gc];omega),KA _ _ (by omega)]
theorem I0 {d:Option Nat} {x:Nat}:(s.app d f).sl.length=s.sl.length/\(s.app d f).bk.length=s.bk.length/\nth (s.app d f).sl x=(if d=some x/\x<s.sl.length then f.v else nth s.sl x)/\
  AN (s.app d f).bk x=if x<s.bk.length then ((wr f.ws x).map some).getD (AN s.bk x) else AN s.bk x:=by
 cases d with
 | none=>exact⟨rfl,S4 _ _,by simp[St.app,FE],S3 _ _ _⟩
 | some q=>exact⟨Gc ..,S4 _ _,by simp only[St.app,FE,NG,Option.some.injEq];rcases Decidable.em (x=q) with rfl | h;rfl;rw[if_neg fun e=>h e.1,if_neg fun e=>h e.1.symm],S3 _ _ _⟩
def Made (ops:List Oper) (φ:Nat->DD) (s0 s:St) (m:Nat->Bool) (n:Nat):Prop:=
 s.sl.length=s0.sl.length/\s.bk.length=s0.bk.length/\∀x,nth s.sl x=D7 m (uS ops φ s0.sl.length x) (nth s0.sl x) n/\AN s.bk x=D7 m (uB φ s0.bk.length x) (AN s0.bk x) n
theorem YK:∀{l l':List AV},l.length=l'.length->(∀x,nth l x=nth l' x)->l=l'
 | [],[],_,_=>rfl
 | _::_,_::_,h,h'=>congr (congrArg List.cons (h' 0)) (YK (Nat.succ.inj h) fun x=>h' (x+1))
theorem YM:∀{l l':List (Option Af)},l.length=l'.length->(∀x,AN l x=AN l' x)->l=l'
 | [],[],_,_=>rfl
 | _::_,_::_,h,h'=>congr (congrArg List.cons (h' 0)) (YM (Nat.succ.inj h) fun x=>h' (x+1))
theorem PU {φ:Nat->DD} {σ:Nat->St} (b:L2 E TI all all s φ σ):∀j,j<=all.length->Made all φ s (σ j) (fun _=>true) j
 | 0,_=>⟨by rw[b.zero],by rw[b.zero],fun x=>by rw[b.zero];exact⟨rfl,rfl⟩⟩
 | j+1,k=>by
  obtain⟨g,h,h3⟩:=PU b j (by omega);obtain⟨_,i⟩:=b.step j all[j] (by simp);rw[i];refine⟨(I0 (x:=0)).1.trans g,(I0 (x:=0)).2.1.trans h,fun x=>⟨?_,?_⟩⟩
  ·rw[I0.2.2.1,(h3 x).1,g,D7,if_pos rfl,uS,I8,List.getElem?_eq_getElem (by omega)]
   show _=Option.getD (match all[j].dst with | some q=>_ | none=>_) _
   cases all[j].dst <;> simp
   split <;> simp_all [eq_comm]
  rw[I0.2.2.2,(h3 x).2,h,D7,if_pos rfl,uB]
  split <;> rfl
def HX:List Bool->Nat
 | []=>0
 | b::l=>(if b then 0 else 1)+HX l
theorem bX:∀(l:List Bool) (i:Nat),l[i]? =some false->HX (l.set i true)+1=HX l
 | [],_,h=>by simp at h
 | b::l,0,h=>by cases h;simp[HX];omega
 | b::l,i+1,h=>by have:=bX l i (by simpa using h);simp[HX];omega
theorem bY:∀(l:List Bool),HX l=0->∀j,j<l.length->l[j]? =some true
 | [],_,j,h=>by simp at h
 | b::l,h,0,_=>by cases b <;> simp[HX] at h ⊢
 | b::l,h,j+1,g=>by simpa using bY l (by simp[HX] at h;exact h.2) j (by simpa using g)
theorem Q9:∀(r:List Oper) (acc:List (List Nat)) (k:Nat),k<acc.length->(GQ r acc).getD k []=acc.getD k []
 | [],_,_,_=>rfl
 | o::r,acc,k,h=>by
  rw[GQ,Q9 r _ k (by simp;omega)];simp[List.getD_eq_getElem?_getD,List.getElem?_append_left h]
theorem RA:∀(r:List Oper) (acc:List (List Nat)) (j:Nat) (o:Oper),r[j]? =some o->∀i∈(GQ r acc).getD (acc.length+j) [],∃k∈E1 o,i=k\/i∈(GQ r acc).getD k []
 | [],_,_,_,h=>by simp at h
 | o::r,acc,0,o',h=>by
  cases h;intro i b;rw[GQ,Nat.add_zero,Q9 r _ acc.length (by simp)] at b;simp only[List.getD_eq_getElem?_getD,List.getElem?_concat_length,Option.getD_some] at b;obtain⟨k,g,b⟩:=List.mem_flatMap.1 b;refine⟨k,g,(List.mem_cons.1 b).imp_right fun b=>?_⟩;rcases Nat.lt_or_ge k acc.length with h' | h'
  ·rw[GQ,Q9 r _ k (by simp;omega)];simpa [List.getD_eq_getElem?_getD,List.getElem?_append_left h'] using b
  simp[List.getElem?_eq_none h'] at b
 | o::r,acc,j+1,o',h=>fun i b=>RA r (acc++[(E1 o).flatMap fun j=>j::acc.getD j []]) j o' (by simpa using h) i (by
  rw[List.length_append,List.length_singleton,Nat.add_assoc,Nat.add_comm 1];exact b)
theorem Mi {a b:List Nat} (h:Mh a b=true):∀x∈a,x ∉ b:=fun x g=>by simpa using List.all_eq_true.1 h x g
theorem jA {ops:Array Oper} {φ:Nat->DD} {σ:Nat->St} {s0:St} {Q:Exit->Act->World->Prop} (hc:L2 E TI ops.toList ops.toList s0 φ σ) (hok:JJ ops.toList ((List.range ops.size).map fun j=>JV (φ j))=true)
  (hs:∀o∈ops.toList,Sound P E TI o) (hQ:∀β a w,Bl w0 X β (σ ops.size) a w->Q .normal a w):
  ∀(fuel:Nat) (listed:Array Bool) (s:St) (β:Nat->Option Nat) (a:Act) (w:World),listed.size=ops.size->(∀j o,ops[j]? =some o->listed.getD j false=true->∀i∈E1 o,listed.getD i false=true)->
   HX listed.toList<=fuel->Made ops.toList φ s0 s (fun j=>listed.getD j false) ops.size->Bl w0 X β s a w->wpAny P .any ops Q fuel listed a w:=by
 simp only[JJ,Bool.and_eq_true] at hok;obtain⟨hback,hpairs⟩:=hok
 have back:∀j o,ops[j]? =some o->∀i∈E1 o,i<j:=by
  intro j o ho i hi;have:=List.all_eq_true.1 hback j (List.mem_range.2 (by simpa using GA ho));rw[show ops.toList[j]? =some o by simpa using ho] at this;simpa using List.all_eq_true.1 this i hi
 have pair:∀i j oi oj,i<j->ops[i]? =some oi->ops[j]? =some oj->i ∉ (GQ ops.toList []).getD j []->MK ops.toList oi oj (JV (φ i)) (JV (φ j))=true:=by
  intro i j oi oj hij h1 h2 h5;have hj:=GA h2;have:=List.all_eq_true.1 (List.all_eq_true.1 hpairs j (List.mem_range.2 (by simpa using hj))) i (List.mem_range.2 hij);rw[Bool.or_eq_true] at this;have tr:∀k,k<ops.size->((List.range ops.size).map fun j=>JV (φ j))[k]? =some (JV (φ k)):=fun k hk=>by simp[hk]
  have:=this.resolve_left fun h=>h5 (by simpa using h)
  rwa [show ops.toList[i]? =some oi by simpa using h1,show ops.toList[j]? =some oj by simpa using h2,tr i (by omega),tr j hj] at this
 have anyOn_mem:∀(o:Oper) (i:Nat),i∈E1 o↔∃e∈o.after,Region.binds .any e=true/\e.on=i:=fun o i=>by simp[E1,and_assoc]
 have closed:∀(listed:Array Bool),(∀j o,ops[j]? =some o->listed.getD j false=true->∀i∈E1 o,listed.getD i false=true)->
   ∀(n j:Nat) (o:Oper),j<=n->ops[j]? =some o->(∀i∈E1 o,listed.getD i false=true)->∀i∈(GQ ops.toList []).getD j [],listed.getD i false=true:=by
  intro listed hdc n
  induction n with
  | zero=>
   intro j o hj ho hl i hi;obtain⟨k,hk,_⟩:=RA ops.toList [] j o (by simpa using ho) i (by simpa using hi);have:=back j o ho k hk;omega
  | succ n ih=>
   intro j o hj ho hl i hi;obtain⟨k,hk,h⟩:=RA ops.toList [] j o (by simpa using ho) i (by simpa using hi);have hkj:=back j o ho k hk;rcases h with rfl | h
   ·exact hl _ hk
   have hok:ops[k]? =some (ops[k]'(by have:=GA ho;omega)):=by simp
   exact ih k _ (by omega) hok (hdc k _ hok (hl k hk)) i h
 have done:∀{listed:Array Bool} {s:St} {β:Nat->Option Nat} {a:Act} {w:World},(∀j,j<ops.size->listed.getD j false=true)->Made ops.toList φ s0 s (fun j=>listed.getD j false) ops.size->Bl w0 X β s a w->Q .normal a w:=by
  intro listed s β a w h ⟨m1,m2,m3⟩ S;obtain⟨k1,k2,k3⟩:=PU hc ops.size (by simp);have e:∀{α:Type} {u:Nat->Option α} {d:α},D7 (fun j=>listed.getD j false) u d ops.size=D7 (fun _=>true) u d ops.size:=M6 fun j hj _=>h j hj
  have:s=σ ops.size:=by
   cases s;cases hσ:σ ops.size;rw[hσ] at k1 k2 k3
   congr 1
   ·exact YK (m1.trans k1.symm) fun x=>(m3 x).1.trans (e.trans (k3 x).1.symm)
   exact YM (m2.trans k2.symm) fun x=>(m3 x).2.trans (e.trans (k3 x).2.symm)
  exact hQ β a w (this ▸ S)
 have ready_none:∀(listed:Array Bool),listed.size=ops.size->Region.ready .any ops listed=[]->∀n j,j<n->j<ops.size->listed.getD j false=true:=by
  intro listed hsz hr n
  induction n with
  | zero=>intro j hj;omega
  | succ n ih=>
   intro j hjn hj;refine Classical.byContradiction fun hl=>?_
   have:j∈Region.ready .any ops listed:=mem_ready.2 ⟨by simpa [hsz,hj] using hl,ops[j],by simp[hj],fun e he hb=>by
    have hlt:=back j ops[j] (by simp[hj]) e.on ((anyOn_mem _ _).2 ⟨e,he,hb,rfl⟩);exact ih e.on (by omega) (by omega)⟩
   rw[hr] at this;cases this
 intro fuel
 induction fuel with
 | zero=>
  intro listed s β a w hsz _ hu hm S
  have hall:∀j,j<ops.size->listed.getD j false=true:=fun j hj=>by
   have:=bY _ (Nat.le_zero.1 hu) j (by simpa [hsz] using hj);simp[hsz,hj] at this;simp[hsz,hj,this]
  refine⟨List.eq_nil_iff_forall_not_mem.2 fun x hx=>?_,done hall hm S⟩;obtain⟨h1,o,ho,_⟩:=mem_ready.1 hx;have hlt:=GA ho;have:=hall x hlt;simp[hsz,hlt] at h1 this;rw[h1] at this;cases this
 | succ fuel ih=>
  intro listed s β a w hsz hdc hu hm S;refine⟨fun hr=>done (fun j hj=>ready_none listed hsz hr (j+1) j (Nat.lt_succ_self j) hj) hm S,fun i hi=>?_⟩;obtain⟨h1,o,ho,hdeps⟩:=mem_ready.1 hi;have hilt:=GA ho;have hil:listed.getD i false=false:=by simp[hsz,hilt] at h1 ⊢;exact h1
  have hanyi:∀k∈E1 o,listed.getD k false=true:=fun k hk=>by
   obtain⟨e,he,hb,rfl⟩:=(anyOn_mem o k).1 hk;exact hdeps e he hb
  obtain⟨hfo,_⟩:=hc.step i o (by simpa using ho)
  have apart:∀j oj,ops[j]? =some oj->listed.getD j false≠decide (j<i)->
    (∀q,oj.dst=some q->q ∉ Ic ops.toList o)/\(∀x∈(φ j).ws.map (·.1),x ∉ (φ i).rd)/\(∀q,oj.dst=some q->o.dst≠some q)/\(∀x∈(φ j).ws.map (·.1),x ∉ (φ i).ws.map (·.1)):=by
   intro j oj hj hne;have dm:∀{o:Oper} {q:Nat},o.dst=some q->q∈Ic ops.toList o:=fun h=>by simp[Ic,h]
   have hij:j≠i:=by rintro rfl;rw[hil] at hne;simp at hne
   rcases Nat.lt_or_gt_of_ne hij with hlt | hgt
   ·have hlj:listed.getD j false=false:=by simpa [hlt] using hne
    have:=pair j i oj o hlt hj ho fun hm=>by have:=closed listed hdc i i o (Nat.le_refl _) ho hanyi j hm;rw[hlj] at this;cases this
    simp only[MK,Bool.and_eq_true] at this;obtain⟨⟨⟨a1,a2⟩,a3⟩,a4⟩:=this;have a1:∀q,oj.dst=some q->q ∉ Ic ops.toList o:=fun q hq=>Mi a1 q (by simp[hq])
    have a3:=fun x hx=>not_or.1 fun h=>Mi a3 x hx (List.mem_append.2 h)
    exact⟨a1,fun x hx=>(a3 x hx).1,fun q hq e=>a1 q hq (dm e),fun x hx=>(a3 x hx).2⟩
   have hlj:listed.getD j false=true:=by simpa [Nat.not_lt.2 (Nat.le_of_lt hgt)] using hne
   have:=pair i j o oj hgt ho hj fun hm=>by have:=closed listed hdc j j oj (Nat.le_refl _) hj (hdc j oj hj hlj) i hm;rw[hil] at this;cases this
   simp only[MK,Bool.and_eq_true] at this;obtain⟨⟨⟨a1,a2⟩,a3⟩,a4⟩:=this;have a2:∀q,oj.dst=some q->q ∉ Ic ops.toList o:=fun q hq=>Mi a2 q (by simp[hq])
   exact⟨a2,Mi a4,fun q hq e=>a2 q hq (dm e),fun x hx hx'=>Mi a3 x hx' (List.mem_append_right _ hx)⟩
  have go:∀j,I8 ops.toList j=(ops[j]?).bind (·.dst):=fun j=>by simp[I8]
  have agree:∀{α:Type} {u:Nat->Option α} {d:α} (m:Nat->Bool),(∀j,j<ops.size->u j≠none->m j=decide (j<i))->D7 m u d ops.size=D7 (fun _=>true) u d i:=fun m h=>(M6 h).trans (YQ (by omega))
  obtain⟨m1,m2,m3⟩:=hm;obtain⟨k1,k2,k3⟩:=PU hc i (by simp;omega)
  have hS:∀x j,uS ops.toList φ s0.sl.length x j≠none->∃oj,ops[j]? =some oj/\oj.dst=some x:=fun x j h=>by
   unfold uS at h;rw[go] at h
   split at h
   ·rename_i q hq
    obtain⟨oj,h1,h2⟩:=Option.bind_eq_some_iff.1 hq
    split at h
    ·rename_i h3;exact⟨oj,h1,h3.1 ▸ h2⟩
    exact absurd rfl h
   exact absurd rfl h
  have hB:∀x j,uB φ s0.bk.length x j≠none->x∈(φ j).ws.map (·.1):=fun x j h=>Classical.byContradiction fun hx=>h (by unfold uB;rw[UP hx];split <;> rfl)
  have hfo':JK E TI ops.toList o (φ i) s:=by
   have h1:∀x∈Ic ops.toList o,nth (σ i).sl x=nth s.sl x:=fun x hx=>by
    rw[(k3 x).1,(m3 x).1,agree];intro j hj hu;obtain⟨oj,h1,h2⟩:=hS x j hu;exact Classical.byContradiction fun hne=>(apart j oj h1 hne).1 x h2 hx
   have h2:∀x∈(φ i).rd,AN (σ i).bk x=AN s.bk x:=fun x hx=>by
    rw[(k3 x).2,(m3 x).2,agree];intro j hj hu;exact Classical.byContradiction fun hne=>(apart j ops[j] (by simp) hne).2.1 x (hB x j hu) hx
   have he:∀x∈o.op.operands,ev (σ i).sl x=ev s.sl x:=fun x hx=>by
    cases x with
    | tmp t=>exact h1 t (List.mem_append_left _ (List.mem_append_right _ (List.mem_filterMap.2 ⟨.tmp t,by simpa using hx,rfl⟩)))
    | _=>rfl
   have hop:E2 E TI o (Ci o) (ev (σ i).sl) (AN (σ i).bk) (fun g=>g=φ i)->E2 E TI o (Ci o) (ev s.sl) (AN s.bk) (fun g=>g=φ i):=fun h=>by
    obtain⟨f,rfl,H⟩:=Vv (aX S) (gJ he h);exact H _ _ h2 rfl
   unfold JK at hfo ⊢
   split at hfo
   ·exact hop hfo
   rename_i k want hg
   obtain⟨g,g1,g3⟩:=hfo;refine⟨g,g1,?_⟩;rw[<-h1 g (by unfold Ic;rw[hg];simp[g1])];exact g3.imp (fun q=>⟨q.1,hop q.2⟩) id
  have hget':∀j,j≠i->(listed.setIfInBounds i true).getD j false=listed.getD j false:=fun j hj=>getD_set_ne false (Ne.symm hj)
  have hgeti:(listed.setIfInBounds i true).getD i false=true:=by simp[hsz,hilt]
  have later:∀j oj,ops[j]? =some oj->i<j->(listed.setIfInBounds i true).getD j false=true->listed.getD j false≠decide (j<i):=fun j oj hj hlt h=>by rw[hget' j (by omega)] at h;rw[h];simp;omega
  have new:∀{α:Type} {u:Nat->Option α} {d:α},u i=none->D7 (fun j=>(listed.setIfInBounds i true).getD j false) u d ops.size=D7 (fun j=>listed.getD j false) u d ops.size:=fun h=>M6 fun j _ hu=>hget' j fun e=>hu (e ▸ h)
  have hm':Made ops.toList φ s0 (s.app o.dst (φ i)) (fun j=>(listed.setIfInBounds i true).getD j false) ops.size:=by
   refine⟨(I0 (x:=0)).1.trans m1,(I0 (x:=0)).2.1.trans m2,fun x=>⟨?_,?_⟩⟩
   ·have hi:uS ops.toList φ s0.sl.length x i=if o.dst=some x/\x<s0.sl.length then some (φ i).v else none:=by
     unfold uS;rw[go,ho]
     show (match o.dst with | some q=>_ | none=>_)=_
     cases o.dst <;> simp
    rw[I0.2.2.1,m1]
    split <;> rename_i h <;> simp only[h,if_true,if_false] at hi
    ·refine (SO hgeti (by rw[hi];simp) hilt fun j h1 h2 h3=>Classical.byContradiction fun hu=>?_).symm;obtain⟨oj,q1,q2⟩:=hS x j hu;exact (apart j oj q1 (later j oj q1 h1 h3)).2.2.1 x q2 h.1
    rw[new hi];exact (m3 x).1
   rw[I0.2.2.2,m2];cases hw:wr (φ i).ws x with
   | none=>rw[new (by simp[uB,hw])];split <;> exact (m3 x).2
   | some b=>
    by_cases hx:x<s0.bk.length
    ·rw[if_pos hx];refine (SO hgeti (by simp[uB,hw,hx]) hilt fun j h1 h2 h3=>Classical.byContradiction fun hu=>?_).symm;exact (apart j ops[j] (by simp) (later j ops[j] (by simp) h1 h3)).2.2.2 x (hB x j hu) (Classical.byContradiction fun h=>by rw[UP h] at hw;cases hw)
    rw[if_neg hx,new (by simp[uB,hx])];exact (m3 x).2
  have:=Sv (Q:=Q) (N:=wpAny P .any ops Q fuel (listed.setIfInBounds i true)) (hs o (by simpa using Array.mem_of_getElem? ho)) S hfo' fun β' a' w' S'=>by
   refine ih _ _ β' a' w' (by simpa using hsz) (fun j oj hj hl k hk=>?_) ?_ hm' S'
   ·by_cases hki:k=i
    ·subst hki;exact hgeti
    rw[hget' k hki]
    by_cases hji:j=i
    ·subst hji;obtain rfl:o=oj:=Option.some.inj (ho.symm.trans hj);exact hanyi k hk
    rw[hget' j hji] at hl;exact hdc j oj hj hl k hk
   have:=bX listed.toList i (by simp[hsz,hilt] at hil;simp[hsz,hilt,hil]);simp only[Array.toList_setIfInBounds];omega
  unfold wpOp;rw[ho];simp only
  split
  ·rename_i hw;rw[if_pos hw] at this;exact .inl this
  rename_i hw;rw[if_neg hw] at this;exact this
theorem nQ (hm:P.follows .mixedOrders=true) {id:Nat} {ops:Array Oper} {draw:Bool} {R:St->Prop} {Q:Exit->Act->World->Prop}
  (k:∀o∈ops.toList,Sound P E TI o) (S:Bl w0 X β s a w) (h:HU E TI ops.toList draw ops.toList [] R s) (g:∀s',R s'->s'.sl.length=s.sl.length->∀β a w,Bl w0 X β s' a w->Q .normal a w):(Code.region id ops draw).wp P Q a w:=by
 obtain⟨φ,σ,i,hR,b⟩:=Zz k S h;rw[Array.length_toList] at hR b;have g:=g _ hR (PU i ops.size (by simp)).1;cases draw with
 | false=>
  refine wp_region ?_;rw[List.range_eq_range'];exact cF k i g ops.size 0 (by omega) (i.zero ▸ S)
 | true=>
  refine wp_region_any hm ?_;have q:Bl w0 X β s a {w with drawn:=w.drawn+1}:=S.ext (dst:=none) (v:= .one .B7) (u:=undef) (rd:=[]) ⟨rfl,rfl,rfl,Nat.le_refl _,fun _ _ _=>rfl,nofun⟩ fun _=> .inl rfl
  have hf:∀j,(Array.replicate ops.size false).getD j false=false:=fun j=>by rw[Array.getD_eq_getD_getElem?,Array.getElem?_replicate];split <;> rfl
  refine jA i (by simpa using b rfl) k g _ _ s β a _ (by simp) (fun j o r m=>by rw[hf] at m;cases m) ?_ ⟨rfl,rfl,fun x=>?_⟩ q
  ·have:∀n,HX (List.replicate n false)=n:=fun n=>by induction n with
    | zero=>rfl
    | succ n l=>rw[List.replicate_succ,HX,l];simp;omega
   simp[this]
  have e:∀{α:Type} {u:Nat->Option α} {d:α} n,d=D7 (fun j=>(Array.replicate ops.size false).getD j false) u d n:=fun n=>by
   induction n with
   | zero=>rfl
   | succ n l=>rw[D7,hf];exact l
  exact⟨e _,e _⟩
end
section
variable {P:Program} {E:Env} {TI:TypeId->Info}
theorem p7 {c:Code} {Q:Exit->Act->World->Prop} (I:Nat->Act->World->Prop) {k:Nat} {a:Act} {w:World} (r:I k a w)
  (round:∀k a w,I k a w->c.wp P (Exit.then (fun l w'=>∃k',k'<k/\I k' l w') Q) a w):(Code.loop c).wp P Q a w:=by
 have least:∀(a:Act) (w:World) (n:Nat),I n a w->∃k,I k a w/\∀j,I j a w->k<=j:=by
  intro a w n
  induction n using Nat.strongRecOn with
  | _ n z=>
   intro q
   by_cases h:∃j,j<n/\I j a w
   ·obtain⟨j,b,g⟩:=h;exact z j b g
   exact⟨n,q,fun j u=>Nat.le_of_not_lt fun m=>h ⟨j,m,u⟩⟩
 have⟨μ,i⟩:∃μ:Act->World->Nat,∀a w,(∃n,I n a w)->I (μ a w) a w/\∀j,I j a w->μ a w<=j:=by
  have:∀p:Act×World,∃k,(∃n,I n p.1 p.2)->I k p.1 p.2/\∀j,I j p.1 p.2->k<=j:=fun p=>by
   by_cases h:∃n,I n p.1 p.2
   ·obtain⟨n,q⟩:=h;obtain⟨k,b⟩:=least p.1 p.2 n q;exact⟨k,fun _=>b⟩
   exact⟨0,fun h'=>absurd h' h⟩
  exact⟨fun a w=>Classical.choose (this (a,w)),fun a w=>Classical.choose_spec (this (a,w))⟩
 refine wp_loop (fun a w=>∃n,I n a w) μ ⟨k,r⟩ fun a w t=>?_
 refine wp_mono (round _ a w (i a w t).1) fun e l w' he=>?_
 cases e with
 | normal=>obtain⟨k',b,g⟩:=he;exact⟨⟨k',g⟩,Nat.lt_of_le_of_lt ((i l w' ⟨k',g⟩).2 k' g) b⟩
 | _=>exact he
def Mx (s:St) (bs:List Nat) (k:Nat):Af:=match AN s.bk k with | some b=>if k==0&&b.BE !=0 then .dead 0 else NC (AN s.bk) bs b | none=> .dead 0
theorem PD (s:St) (g:List Nat) (k:Nat):Mx s g k= .dead 0\/∃b,AN s.bk k=some b/\Mx s g k=NC (AN s.bk) g b/\(k=0->b.BE=0):=by
 unfold Mx
 split
 ·rename_i b hb
  split
  ·exact .inl rfl
  rename_i h
  exact .inr ⟨b,hb,rfl,fun e=>by subst e;simpa using h⟩
 exact .inl rfl
theorem Yl (bk:Nat->Option Af) (g:List Nat) (b:Af):(NC bk g b).BE=0/\(NC bk g b).live=b.live:=by cases b <;> exact⟨rfl,rfl⟩
theorem ZR (s:St) (g:List Nat):∀(j:List Nat) (l:List (Option Af)),(∀id b,AN l id=some b->b=Mx s g id)->∀id b,AN (JO j (Gb s g j) l) id=some b->b=Mx s g id
 | [],l,h=>h
 | k::r,l,h=>ZR s g r _ fun id b hb=>by
  rcases Nat.lt_or_ge k l.length with i | i
  ·rw[LU _ _ _ i] at hb
   by_cases e:id=k
   ·subst e;rw[H3] at hb;cases hb;rfl
   rw[JX e] at hb;exact h id b hb
  rw[JT _ _ _ i] at hb;exact h id b hb
theorem ZT (s:St) (b:List Nat):∀(ks:List Nat) (l:List AV),(∀i,nth l i= .one .B7\/nth l i=Pc (AN s.bk) b (nth s.sl i))->∀i,nth (Ig ks (F7 s b ks) l) i= .one .B7\/nth (Ig ks (F7 s b ks) l) i=Pc (AN s.bk) b (nth s.sl i)
 | [],l,h=>h
 | k::r,l,h=>ZT s b r _ fun i=>by
  rw[NG]
  split
  ·rename_i e;exact .inr (by rw[e.1])
  exact h i
theorem YD:∀(h:List Nat) (g:List Af) (l:List (Option Af)),(JO h g l).length=l.length
 |[],_,_|_::_,[],_=>by simp[JO]
 | k::r,b::g,l=>by rw[JO,YD r,Gc]
theorem SI:∀(ks:List Nat) (vs:List AV) (l:List AV),(Ig ks vs l).length=l.length
 |[],_,_|_::_,[],_=>by simp[Ig]
 | k::r,b::g,l=>by rw[Ig,SI r,Gc]
theorem LL {α:Type}:∀(n:Nat) (x:α),(FV n x).length=n
 | 0,_=>rfl
 | n+1,x=>by simp[FV,LL n x]
theorem SH {n:Nat} {ks g:List Nat} {vs:List AV} {b:List Af}:(J7 n ks vs g b).sl.length=n:=(SI ..).trans (LL ..)
theorem Sh:∀(n i:Nat),AN (FV n none) i=none
 |0,_|n+1,0=>rfl
 | n+1,i+1=>Sh n i
theorem Sg:∀(n i:Nat),nth (FV n (.one .B7)) i= .one .B7
 |0,_|n+1,0=>rfl
 | n+1,i+1=>Sg n i
theorem lv {X:WX} {w:World} {β:Nat->Option Nat} {bk DJ:Nat->Option Af} {i:List Nat} (t:∀id,BE DJ id=0) (j:∀b,(cx X w β bk).I b->(cx X w β DJ).I b/\w.heap[b]? =w.heap[b]?) (l:∀b,(cx X w β bk).J b->(cx X w β DJ).J b) {c:AC} {v:Value} (r:Bg (cx X w β bk) c v):Bg (cx X w β DJ) (J9 bk i c) v:=by
 have BE:∀{id k:Nat} {u:Value} {A:Prop},Gn (cx X w β bk) id k u A->(i.contains id&&BE bk id==k)=true->Gn (cx X w β DJ) id 0 u A:=fun {id k u A} r h=>by
  simp only[Bool.and_eq_true,beq_iff_eq] at h;exact⟨⟨r.1.1,Nat.zero_le _⟩,fun _=>r.2 h.2.symm⟩
 have one:=r.one
 cases c <;> first
  | exact Gz (y:=cx X w β DJ) j rfl r
  | exact one
  | exact r
  | (simp only[J9];split;exact BE r ‹_›;exact one)
  | skip
 case JN ps=>
  obtain⟨b,o,c,us,e,m,g,n,q⟩:=r;simp only[J9]
  split
  ·rename_i h
   exact⟨b,o,c,us,by rw[e,List.length_map],by rw[List.length_map];exact m,l b g,n.map (fun p u h r=>BE (k:=p.2.1) r h) h,q⟩
  exact one
theorem Bl.head {w0:World} {X:WX} {β:Nat->Option Nat} {s:St} {a:Act} {w:World} (S:Bl w0 X β s a w) {n:Nat} (L:s.sl.length=n) (ks j:List Nat):Bl w0 X β (J7 n ks (F7 s j ks) j (Gb s j j)) a w:=by
 have K:=ZT s j ks (FV n (.one .B7)) fun i=> .inl (Sg n i)
 have m:=ZR s j j (FV n none) fun id b h=>by rw[Sh] at h;cases h
 have l1:=SI ks (F7 s j ks) (FV n (.one .B7));have l2:=YD j (Gb s j j) (FV n none);rw[LL] at l1 l2;unfold J7
 generalize Ig ks (F7 s j ks) (FV n (.one .B7))=sl at K l1 ⊢
 generalize JO j (Gb s j j) (FV n none)=bk at m l2 ⊢
 have B:∀id,BE (AN bk) id=0:=fun id=>by
  unfold BE
  split
  ·rename_i b hb
   rw[m id b hb];rcases PD s j id with h |⟨b',_,h,_⟩ <;> rw[h]
   ·rfl
   exact (Yl _ _ _).1
  rfl
 have g:∀id,live (AN bk) id->live (AN s.bk) id:=fun id ⟨b,hb,u⟩=>by
  rw[m id b hb] at u;rcases PD s j id with h |⟨b',k,h,_⟩ <;> rw[h] at u
  ·cases u
  exact⟨b',k,(Yl _ _ _).2 ▸ u⟩
 have H:∀b,(cx X w β (AN s.bk)).J b->(cx X w β (AN bk)).J b:=fun b hb=>⟨hb.1,fun id u=>hb.2 id (g id u)⟩
 have G:∀b,(cx X w β (AN s.bk)).I b->(cx X w β (AN bk)).I b/\w.heap[b]? =w.heap[b]? :=fun b hb=>⟨⟨H b hb.1,hb.2⟩,rfl⟩
 have norm:∀{c:AC} {v:Value},Bg (cx X w β (AN s.bk)) c v->Bg (cx X w β (AN bk)) (J9 (AN s.bk) j c) v:=lv B G H
 refine⟨S.defers,by rw[l1,<-L];exact S.len,by rw[l2,<-L];exact S.len,fun i=>?_,fun id b hb=>?_,fun id F b A C=>S.inj id F b (g _ A) (g _ C),fun id b A=>S.own id b (g _ A),S.Fo,S.fresh,fun u _=>?_⟩
 ·rcases K i with h | h <;> rw[h]
  ·exact .inl rfl
  have r:=S.Hz i
  generalize nth s.sl i=v at r
  cases v with
  | one c=>exact r.imp (fun e=>by rw[e];rfl) norm
  | agg cs=>obtain⟨arr,e,h⟩:=r;exact⟨arr,e,h.map (p:=fun _=>true) (fun _ _ _=>norm) (by simp)⟩
  | AI _=>exact .inl rfl
 ·rw[m id b hb];rcases PD s j id with h |⟨b',k,h,_⟩ <;> rw[h]
  ·exact⟨trivial,trivial⟩
  obtain⟨r,q⟩:=S.blocks id b' k;cases b' with
  | dead _=>exact⟨trivial,trivial⟩
  | var _ cs=>obtain⟨b,arr,e,A,C,h3⟩:=r;exact⟨⟨b,arr,e,A,C,h3.map (p:=fun _=>true) (fun _ _ _=>norm) (by simp)⟩,trivial⟩
  | arr _ t l=>exact⟨C4.to (x:=cx X w β (AN s.bk)) (id:=id) rfl (fun _ _ _=>rfl) (fun _ _ e=>by cases e) (fun _ _ _ _ _ _=>Ev (w':=w) G _ _ _) r,q⟩
 have D:=g 0 u;obtain⟨b,hb,z⟩:=u;rw[m 0 b hb] at z;rcases PD s j 0 with h |⟨b',k,h,M⟩ <;> rw[h] at z
 ·cases z
 exact S.Jy D (by rw[EL k];exact M rfl)
theorem aD:∀(l:List AV) (k:Nat),C2 l k (nth l k)=l
 |[],_|_::_,0=>rfl
 | a::l,k+1=>congrArg (a:: ·) (aD l k)
theorem aE:∀(l:List (Option Af)) (k:Nat),C2 l k (AN l k)=l
 |[],_|_::_,0=>rfl
 | a::l,k+1=>congrArg (a:: ·) (aE l k)
theorem Bl.conv {w0:World} {X:WX} {a:Act} {w:World} {n:Nat}:∀{s:St} {β:Nat->Option Nat},Bl w0 X β s a w->s.sl.length=n->∀(cv:List (Nat×T×Bool)),∃i,Bl w0 X i (Kq s cv) a w/\(Kq s cv).sl.length=n
 | s,β,S,j,[]=>⟨β,S,j⟩
 | s,β,S,j,(k,t,b)::r=>by
  have g:nth s.sl k= .one .nil->a.tmps.getD k undef= .slice none 0 0:=fun e=>by
   have z:=S.Hz k;rw[e] at z;exact z.resolve_left nofun
  have len:∀c,(C2 s.sl k c).length=n:=fun c=>(Gc ..).trans j
  unfold Kq
  split
  ·rename_i e
   have:=S.val (dst:=some k) (v:= .one (.sl t [])) (u:=a.tmps.getD k undef) (rd:=[]) (.inr (by rw[g e];exact LQ));rw[Po] at this;exact Bl.conv this (len _) r
  ·rename_i e
   obtain⟨i,this⟩:=S.write (dst:=some k) (v:= .one (.AZ t k (BE (AN s.bk) k+1) 0 0)) (u:=a.tmps.getD k undef) (rd:=[]) (id:=k) (By:= .arr (BE (AN s.bk) k+1) t []) (o':=none) (.inr ⟨rfl,rfl⟩) (Nat.zero_le _) .rfl (.inl rfl) (.inl (Nat.lt_succ_self _)) nofun
    fun y _ _ F D _=>⟨.inl ⟨F,rfl⟩,.inr ⟨⟨by rw[g e];rfl,Nat.le_of_eq D.symm⟩,fun _=>⟨none,0,g e,Nat.le_refl _,Nat.zero_le _,nofun,.inl rfl⟩⟩⟩
   rw[Po] at this;exact Bl.conv this (len _) r
  ·rename_i G id v m e
   split
   ·rename_i I H l hb
    split
    ·rename_i B
     simp only[Bool.and_eq_true,bne_iff_ne,beq_iff_eq] at B;obtain⟨⟨C,rfl⟩,A⟩:=B;obtain rfl:=T.beq_eq A;have z:s.app (some k) ⟨nth s.sl k,[(id,.arr v _ l)],[]⟩=s:=by simp only[St.app,FE,Ee,<-hb,aD,aE]
     rw[e] at z;obtain⟨i,this⟩:=Bl.Z4 (s:=s) (q:=k) (TC:=[]) (by rw[z];exact S) (.inl (Nat.lt_of_not_le fun h=>by rw[KA _ _ h] at hb;cases hb)) C;exact Bl.conv this (len _) r
    exact Bl.conv S j r
   exact Bl.conv S j r
  exact Bl.conv S j r
def HI:Code->Bool
 | .region _ ops _=>ops.toList.all Mj
 |.seq a b|.cond _ a b=>HI a&&HI b
 |.block _ c|.loop c=>HI c
 | _=>true
def pQ:AX->Exit
 | .Dl=> .normal
 | .exit n=> .exit n
 | .ret=> .ret
def L3 (w0:World) (X:WX) (n:Nat) (Q:AX->St->Prop) (e:Exit) (a:Act) (w:World):Prop:=
 ∃x s β,e=pQ x/\Q x s/\s.sl.length=n/\Bl w0 X β s a w
theorem IG (hm:P.follows .mixedOrders=true) (t:∀o,Mj o=true->Sound P E TI o) {n:Nat} {w0:World} {X:WX}:∀{c:Code} {Q:AX->St->Prop} {β:Nat->Option Nat} {s:St} {a:Act} {w:World},HI c=true->s.sl.length=n->Bl w0 X β s a w->DQ E TI n c Q s->
  c.wp P (L3 w0 X n Q) a w
 | .skip,Q,β,s,a,w,_,l,S,h=>wp_skip ⟨.Dl,s,β,rfl,h,l,S⟩
 | .exit i,Q,β,s,a,w,_,l,S,h=>wp_exit ⟨.exit i,s,β,rfl,h,l,S⟩
 | .ret,Q,β,s,a,w,_,l,S,h=>wp_ret ⟨.ret,s,β,rfl,h,l,S⟩
 | .region id ops draw,Q,β,s,a,w,r,l,S,h=>
  nQ hm (fun o K=>t o (List.all_eq_true.1 r o K)) S h fun s' B G j z w' q=>⟨.Dl,s',j,rfl,B,by rw[G];exact l,q⟩
 | .seq x y,Q,β,s,a,w,r,l,S,h=>by
  simp only[HI,Bool.and_eq_true] at r;refine wp_seq (wp_mono (IG hm t r.1 l S h) fun e z w' he=>?_);obtain⟨x',s',j,rfl,m,g,q⟩:=he;cases x' with
  | Dl=>exact IG hm t r.2 g q m
  | _=>exact⟨_,s',j,rfl,m,g,q⟩
 | .cond c x y,Q,β,s,a,w,r,l,S,h=>by
  simp only[HI,Bool.and_eq_true] at r;have F:=K4 S c
  have plain:∀{Q:AX->St->Prop},(match ev s.sl c with | .one (.bool true)=>DQ E TI n x Q s | .one (.bool false)=>DQ E TI n y Q s | .one (.ub u)=>(u=true->DQ E TI n x Q s)/\DQ E TI n y Q s | _=>False)->(Code.cond c x y).wp P (L3 w0 X n Q) a w:=by
   intro Q h
   split at h <;> try exact h.elim
   all_goals rename_i he;rw[he] at F
   ·exact wp_cond_true (F.resolve_left nofun) (IG hm t r.1 l S h)
   ·exact wp_cond_false (F.resolve_left nofun) (IG hm t r.2 l S h)
   obtain⟨b,hb,H⟩:=F.resolve_left nofun;cases b with
   | true=>exact wp_cond_true hb (IG hm t r.1 l S (h.1 (H rfl)))
   | false=>exact wp_cond_false hb (IG hm t r.2 l S h.2)
  simp only[DQ] at h
  split at h
  ·rcases h with⟨ks,A,J,C,h⟩ | h
   ·refine wp_mono (plain h) fun e z w' ⟨x',s',j,he,m,g,q⟩=>?_
    cases x' with
    | Dl=>exact⟨.Dl,_,j,he,C _ _ m,SH,q.head g ks A⟩
    | _=>exact⟨_,s',j,he,m,g,q⟩
   exact plain h
  exact plain h
 | .block id c,Q,β,s,a,w,r,l,S,h=>by
  have key:∀{R:St->Prop},(∀{s':St} {j:Nat->Option Nat} {z:Act} {w':World},R s'->s'.sl.length=n->Bl w0 X j s' z w'->L3 w0 X n Q .normal z w')->DQ E TI n c (fun e s'=>match e with | .exit i=>if i=id then R s' else Q (.exit i) s' | .Dl=>R s' | .ret=>Q .ret s') s->(Code.block id c).wp P (L3 w0 X n Q) a w:=by
   intro R fin h;refine wp_block (wp_mono (IG hm t (c:=c) r l S h) fun e z w' he=>?_);obtain⟨x',s',j,rfl,m,g,q⟩:=he;cases x' with
   | Dl=>exact fin m g q
   | exit i=>
    show Exit.inBlock id (L3 w0 X n Q) (.exit i) z w'
    simp only[Exit.inBlock];simp only at m
    split <;> rename_i B
    ·rw[if_pos B] at m;exact fin m g q
    rw[if_neg B] at m;exact⟨.exit i,s',j,rfl,m,g,q⟩
   | ret=>exact⟨.ret,s',j,rfl,m,g,q⟩
  rcases h with⟨ks,A,J,C,h⟩ | h
  ·exact key (fun m g q=>⟨.Dl,_,_,rfl,C _ _ m,SH,q.head g ks A⟩) h
  exact key (fun m g q=>⟨.Dl,_,_,rfl,m,g,q⟩) h
 | .loop c,Q,β,s,a,w,r,l,S,h=>by
  obtain⟨cv,ks,A,J,⟨k0,I⟩,L⟩:=h;obtain⟨β,S,l⟩:=S.conv l cv;refine p7 (fun k a w=>∃vs D β,J vs D k/\Bl w0 X β (J7 n ks vs A D) a w) ⟨_,_,β,I,S.head l ks A⟩ fun k a w ⟨vs,D,β,C,S⟩=>?_
  refine wp_mono (IG hm t (c:=c) r SH S (L vs D k C)) fun e z w' he=>?_
  obtain⟨x',s',j,rfl,m,g,q⟩:=he;cases x' with
  | Dl=>obtain⟨k',B,G⟩:=m;exact⟨k',B,_,_,j,G,q.head g ks A⟩
  | _=>exact⟨_,s',j,rfl,m,g,q⟩
 | .rangeFunc _ _ _ _,_,_,_,_,_,_,_,_,h | .scope _,_,_,_,_,_,_,_,_,h | .label _,_,_,_,_,_,_,_,_,h | .goto _,_,_,_,_,_,_,_,_,h | .refuse _,_,_,_,_,_,_,_,_,h=>h.elim
end
end Go.Abs
