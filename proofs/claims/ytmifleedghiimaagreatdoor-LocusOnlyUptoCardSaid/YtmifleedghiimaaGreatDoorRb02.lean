/- Part 3 of a proof. Conditions: each theorem's own. -/
import Derived.Orders
import Derived.Test.YtmifleedghiimaaGreatDoorRb01
set_option linter.all false
set_option maxHeartbeats 80000000
set_option maxRecDepth 20000
namespace Go.Abs
open Go.RowKit
def O4 (o:Oper):Bool:=
 match o.op with
 |.alloc _|.box _ _|.makeSlice _ _ _|.buildSlice _ _ _=>o.dst.isSome
 | .call c=>match c.callee with
  | .builtin _=>o.dst.isSome
  | _=>true
 | _=>true
def S6 {α:Type}:∀(l:List α) (i:Nat) (x y:α),DH (DH l i x) i y=DH l i y
 |[],_,_,_|_::_,0,_,_=>rfl
 | a::l,i+1,x,y=>congrArg (a:: ·) (S6 l i x y)
def Sr (a:Act) (k:Nat):a.put (some k) (a.tmps.getD k undef)=a:=by
 have h:a.tmps.setIfInBounds k (a.tmps.getD k undef)=a.tmps:=by
  apply Array.ext
  ·simp
  intro i g b;rw[Array.getElem_setIfInBounds]
  split
  ·subst_vars;simp[Array.getD,b]
  rfl
 simp only[Act.put,h]
section
variable {P:Program} {TI:TypeId->Info} {w0 w:World} {X:WX} {β:Nat->Option Nat} {s:St} {a:Act}
def Bt.gy {q id v n:Nat} {t:T} {l:List (el t)} {rd XV:List Nat} (S:Bt w0 X β (s.app (some q) ⟨.one (.Aj t id v 0 n),[(id,.arr v t l)],rd⟩) a w) (G:id<s.bk.length\/id=q) (O:id≠0):
  ∃g,Bt w0 X g (s.app (some q) ⟨if n=l.length then .one (.sl t l) else .one .Cb,[(id,.dead v)],XV⟩) a w:=by
 have A:=S.len.trans S.Nc.symm;have A:s.sl.length=s.bk.length:=by rwa [St.app,Gx,GC,GC,Gu,Gu] at A
 have H:∀u,s.bk.length<=q->DH s.sl q u=s.sl:=fun u h=>Le _ _ _ AA
 by_cases m:id<s.bk.length
 case neg=>
  obtain rfl:=G.resolve_left m;rw[St.app,Gx,H _ AA,GC,GC,Le _ _ _ AA] at S ⊢;exact⟨β,S⟩
 have hb:AR (DH s.bk id (some (.arr v t l))) id=some (.arr v t l):=by rw[LP _ _ _ m,Gh]
 have W:=fun dst (u:AV) k (Y:∀y,_->_->_->_->_->C6 y u (a.tmps.getD k undef))=>S.write (dst:=dst) (v:=u) (u:=a.tmps.getD k undef) (rd:=XV) (id:=id) (CZ:= .dead v) (o:=none) (o':=β id) (.inl (by rw[St.app,GC,GC,Gu];exact m)) trivial .rfl (.inl rfl) (.inr ⟨(FN hb).symm,rfl,nofun⟩) nofun
  fun y C D h3 F Q=>⟨trivial,Y y C D h3 F Q⟩
 by_cases B:n=l.length
 case neg=>
  obtain⟨g,r⟩:=W (some q) (.one .Cb) q fun _ _ _ _ _ _=> .inl rfl
  rw[Sr] at r;simp only[St.app,Gx,GC,S6,if_neg B] at r ⊢;exact⟨g,r⟩
 subst B;rw[if_pos rfl]
 by_cases hq:q<s.sl.length
 ·have K:=S.Ij q;rw[St.app,Gx,Nk,if_pos ⟨rfl,hq⟩] at K;obtain⟨base,cap,C,D,h3,_,F⟩:=PW S (K.resolve_left nofun) hb (Nat.le_of_eq (Nat.zero_add _));rw[List.drop_zero,List.take_length] at C D h3 F
  obtain⟨g,r⟩:=W (some q) (.one (.sl t l)) q fun y hle hw _ _ U=> .inr ⟨base,cap,congrArg (· :: []) C,D,h3,F.imp (fun q=>q) fun⟨b,g1,g2,L,M,N⟩=>
   ⟨b,_,M,U _ b (hw ▸ L) (.inr ⟨(S.own id b g1 g2).elim (S.fresh.1 _ b) fun h=>absurd h.2 O,fun j V Z e=>V (S.inj j id b Z g1 e g2)⟩) nofun,fun i z hz=>let ⟨us,k1,k2⟩:=N i z hz;⟨us,FY hle.I _ _ _ k1,by rw[hw];exact k2⟩⟩⟩
  rw[Sr] at r;simp only[St.app,Gx,GC,S6] at r;exact⟨g,r⟩
 obtain⟨g,r⟩:=W none (.one .Cb) q fun _ _ _ _ _ _=> .inl rfl
 simp only[St.app,Gx,GC,S6,H _ (AA:s.bk.length<=q)] at r ⊢;exact⟨g,r⟩
def Z2 {o:Oper} {c:Call} {b:Builtin} {u:Value} {w':World} (g:o.op= .call c) (hb:c.callee= .builtin b) (h:(builtin b c.argTypes o.type (c.args.map fun | .const _=>true | _=>false) (c.args.map a.eval)).run P w= .ok (.value u) w'):
  (execOp a.eval o).run P w= .ok (.value u) w':=by
 simp only[execOp,g,resolve,hb,Sem.run_bind,Sem.run_pure,Result.andThen_ok,invoke];exact h
def jC (H:∀t,It P t (TI t)) {o:Oper} {c:Call} {b:Builtin} (ho:o.op= .call c) (hc:c.callee= .builtin b) (hd:o.dst.isSome=true) (S:Bt w0 X β s a w) {f:D4} (h:Ix TI b c.argTypes.toList (c.args.toList.map (ev s.sl)) (DU o) (AR s.bk) (fun g=>g=f)):
  (∃u w' r,(execOp a.eval o).run P w= .ok (.value u) w'/\Bt w0 X r (s.app o.dst f) (a.put o.dst u) w')/\(b= .append->∀id B,f.ws=[(id,B)]->id<s.bk.length\/id=DU o):=by
 have j:=PG (NP S) c.args.toList
 generalize c.args.toList.map (ev s.sl)=A at h j
 generalize hU:c.args.toList.map a.eval=U at j
 have M:c.args.map a.eval=U.toArray:=by rw[<-hU];exact Array.ext' AS
 have K:c.argTypes=c.argTypes.toList.toArray:=Array.ext' rfl
 generalize c.argTypes.toList=V at h K
 have val:∀{k:IntKind} {n:Int} {rd:List Nat},⟨.one (.int k n),[],rd⟩=f->(builtin b V.toArray o.type (c.args.map fun | .const _=>true | _=>false) U.toArray).run P w= .ok (.value (.int k n)) w->∃u w' r,(execOp a.eval o).run P w= .ok (.value u) w'/\Bt w0 X r (s.app o.dst f) (a.put o.dst u) w':=
  fun e m=>⟨_,w,β,Z2 ho hc (by rw[M,K];exact m),by subst e;exact S.val (Or.inr rfl)⟩
 unfold Ix at h
 have app:∀{t0 t1:TypeId} {u:T} {x:AC} {v:Value} {base:Option Addr} {cap id vv:Nat} {l l2 l':List (el u)} {rd:List Nat},V=[t0,t1]->b= .append->u=(TI t0).elem->(TI t0).sl=true->(TI t1).sl=true->U=[.slice base l.length cap,v]->l.length<=cap->cap<=maxLen->
   (cap=0\/∃b arr e',β id=some b/\live (AR s.bk) id/\base=some ⟨b,0,none⟩/\w.heap[b]? =some (.cells arr e' (0,0))/\cap*u.size<=arr.size/\
    ∀(i:Nat) (y:el u),l[i]? =some y->∃us,rep w (cx X w β (AR s.bk)).I u y us/\w.rangeAt b (i*u.size) us)->
   C6 (cx X w β (AR s.bk)) (.one x) v->IE (AR s.bk) x (.sl u l2)->fits (l.length+l2.length) (TI t0).FQ->(id<s.bk.length\/o.dst=some id/\base=none/\cap=0)->vv=BP (AR s.bk) id+1->l'=l++l2->
   ⟨.one (.Aj u id vv 0 l'.length),[(id,.arr vv u l')],rd⟩=f->(∃u w' r,(execOp a.eval o).run P w= .ok (.value u) w'/\Bt w0 X r (s.app o.dst f) (a.put o.dst u) w')/\(b= .append->∀id B,f.ws=[(id,B)]->id<s.bk.length\/id=DU o):=by
  rintro t0 t1 u x v base cap id vv l l2 l' rd rfl rfl he L G rfl a6 a2 hb hx F z N a7 rfl rfl;obtain⟨a8,w',r,O,S'⟩:=xM S (ty:=o.type) he H L G a6 a2 hb (hx.resolve_left fun e=>by subst e;exact F) F z N a7 (dst:=o.dst) (rd:=rd);exact⟨⟨a8,w',r,Z2 ho hc (by rw[M,K];simp[builtin,O]),S'⟩,fun _ id B e=>by cases e;exact N.imp_right fun h=>by simp[DU,h.1]⟩
 have Q:∀{id v:Nat} {t:T} {l:List (el t)},AR s.bk id=some (.arr v t l)->id<s.bk.length:=fun hb=>Nat.lt_of_not_le fun h=>by rw[LO _ _ h] at hb;cases hb
 split at h <;> try exact h.elim
 ·obtain _ |⟨m,_ | _⟩:=j
  obtain⟨base,cap,hv,h2,h3,h4⟩:=m.resolve_left nofun;cases hv;exact⟨val (h.2 _ ⟨rfl,h3⟩) (by simp[builtin,Builtin.len_,run_underlying ((H _).sl h.1).1,goInt]),nofun⟩
 iterate 2
  obtain _ |⟨m,_ | _⟩:=j
  obtain⟨G,h⟩:=h
  split at h
  ·rename_i hv
   obtain⟨base,cap,hs,_⟩:=(m.resolve_left nofun).2 hv.symm;subst hs;exact⟨val (h _ ⟨rfl⟩) (by simp[builtin,Builtin.len_,run_underlying ((H _).sl G).1,goInt]),nofun⟩
  exact h.elim
 ·obtain _ |⟨m,_ | _⟩:=j
  cases m.resolve_left nofun;exact⟨val h.2 (by simp[builtin,Builtin.len_,run_underlying ((H _).sl h.1).1,goInt]),nofun⟩
 ·obtain _ |⟨m,_ | _⟩:=j
  obtain⟨_,_,_,_,rfl,_⟩:=m.resolve_left nofun;exact⟨val (h.2 _ ⟨rfl⟩) (by simp[builtin,Builtin.len_,run_underlying ((H _).pt h.1).1,goInt]),nofun⟩
 ·obtain _ |⟨m,_ | _⟩:=j
  cases m.resolve_left nofun;exact⟨val (h.2 _ ⟨rfl⟩) (by simp[builtin,Builtin.len_,run_underlying ((H _).SA h.1),goInt]),nofun⟩
 ·obtain _ |⟨m,_ | _⟩:=j
  cases m.resolve_left nofun;exact⟨val h.2 (by simp[builtin,Builtin.cap_,run_underlying ((H _).sl h.1).1,goInt]),nofun⟩
 iterate 2
  obtain _ |⟨m,_ |⟨C,_ | _⟩⟩:=j
  cases m.resolve_left nofun;cases C.resolve_left nofun;exact⟨val (h _ rfl) (by simp[builtin,Builtin.min_,Builtin.min2,Builtin.max_,Builtin.max2]),nofun⟩
 ·obtain _ |⟨m,_ |⟨C,_ | _⟩⟩:=j
  obtain⟨⟨L,G⟩,l2,D,h⟩:=h;cases m.resolve_left nofun;obtain⟨q,hq⟩:=Option.isSome_iff_exists.1 hd;have a5:DU o=q:=by simp[DU,hq]
  exact app rfl rfl rfl L G (l:=[]) rfl (Nat.le_refl _) (Nat.zero_le _) (.inl rfl) C (D ()).1 (by rw[List.length_nil,Nat.zero_add];exact (D ()).2) (.inr ⟨a5 ▸ hq,rfl,rfl⟩) rfl rfl (h _ rfl)
 all_goals
  rename_i t0 t1 t id v off len x
  obtain _ |⟨m,_ |⟨C,_ | _⟩⟩:=j
  obtain⟨⟨L,G⟩,h⟩:=h
  split at h
  ·rename_i v' t' l hb
   split at h
   ·rename_i a1
    obtain⟨rfl,Y,Z⟩:=a1;obtain rfl:=T.beq_eq Y;obtain⟨l2,D,h⟩:=h;obtain⟨rfl,hlen,F,z⟩:=D ();obtain⟨base,cap,rfl,k1,k2,_,k3⟩:=(m.resolve_left nofun).2 (FN hb).symm;have hl:(l.take len).length=len:=by rw[List.length_take];omega
    refine app rfl rfl (T.beq_eq Z) L G (l:=l.take len) (by rw[hl]) AA k2 (k3.imp (fun q=>q) fun⟨b,arr,e,q1,q2,q3,q4⟩=>?_) C F (by rw[hl];first | exact z | exact hlen ▸ z) (.inl (Q hb)) (congrArg (· +1) (FN hb).symm) rfl (h _ _ ⟨?_,rfl⟩)
    ·obtain⟨_,_,_,p3⟩:=(S.blocks _ _ hb).1.arr q1;exact⟨b,arr,e,q1,⟨_,hb,rfl⟩,by simpa using q2,q3,by simpa using q4,fun i y W=>p3 i y (by rw[List.getElem?_take] at W;split at W;exact W;cases W)⟩
    first | rfl | rw[hlen,List.take_length]
   exact h.elim
  exact h.elim
def xO (z:∀t,It P t (TI t)) {o:Oper} {c:Call} {b:Builtin} (C:o.op= .call c) (A:c.callee= .builtin b) (k:o.dst.isSome=true) (S:Bt w0 X β s a w) {f:D4} (h:Qb TI b c.argTypes.toList (c.args.toList.map (ev s.sl)) (DU o) (AR s.bk) (fun g=>g=f)):
  ∃u w' j,(execOp a.eval o).run P w= .ok (.value u) w'/\Bt w0 X j (s.app o.dst f) (a.put o.dst u) w':=by
 rcases Ub.1 h with h |⟨rfl,h⟩
 ·exact (jC z C A k S h).1
 obtain⟨g,H,G⟩:=ZJ (fun t l I=>absurd (nu h) (by rw[I];exact (by decide:¬(1=2)))) h;obtain⟨t,id,v,l,B,F,rfl,_⟩:=gz H;obtain⟨⟨u,w',j,K,r⟩,i⟩:=jC z C A k S (G _ (fun D=>D=g) (fun _ _=>rfl) rfl);obtain⟨q,m⟩:=Option.isSome_iff_exists.1 k;have i:=i rfl id _ (congrArg D4.ws B);rw[m,B] at r;obtain⟨n,S2⟩:=r.gy (by simpa [DU,m] using i) F;rw[if_pos rfl] at S2;exact⟨u,w',n,K,m ▸ S2⟩
end
def XJ:∀(pre b post vs:List Value),vs.length=b.length->Dw (pre++(b++post)) pre.length vs=pre++(vs++post)
 | [],[],post,[],_=>by cases post <;> rfl
 | [],m::b,post,v::vs,h=>by simpa [Dw] using XJ [] b post vs (by simpa using h)
 | p::pre,b,post,vs,h=>by simp[Dw,XJ pre b post vs h]
 | [],[],_,_::_,h | [],_::_,_,[],h=>by simp at h
def bc {n:Nat}:∀(vs:List Value) (k:Nat) (c:Array Value),(∀v∈vs,v.cells.size=n)->c.size=(k+vs.length)*n->
  ∃g,Instr.fill (fun i=>some (i*n,n)) c (vs.zipIdx k |>.map fun x=>(x.2,x.1))=some g/\g.toList=c.toList.take (k*n)++vs.flatMap (·.cells.toList)
 | [],k,c,_,h=>⟨c,rfl,by simp at h;rw[<-h,List.take_of_length_le AS];simp⟩
 | v::vs,k,c,q,h=>by
  have j:=q v AS;rw[List.length_cons,<-Nat.add_assoc,Nat.add_right_comm,Nat.add_mul,Nat.add_mul,Nat.one_mul] at h;obtain⟨g,t,B⟩:=bf (place:=fun i=>some (i*n,n)) (c:=c) (i:=k) (v:=v) (r:=(vs.zipIdx (k+1)).map fun x=>(x.2,x.1)) (off:=k*n) (n:=n) rfl j AA;have C:c.toList.length=c.size:=rfl
  have e1:c.toList=c.toList.take (k*n)++((c.toList.drop (k*n)).take n++c.toList.drop (k*n+n)):=by
   rw[<-List.drop_drop,List.take_append_drop,List.take_append_drop]
  have b:(c.toList.take (k*n)).length=k*n:=by rw[List.length_take];omega
  have e2:g.toList=c.toList.take (k*n)++(v.cells.toList++c.toList.drop (k*n+n)):=by
   have:=XJ (c.toList.take (k*n)) ((c.toList.drop (k*n)).take n) (c.toList.drop (k*n+n)) v.cells.toList (by rw[List.length_take,List.length_drop,Array.length_toList];omega);rw[<-e1,b] at this;exact t.trans this
  have m:g.size=c.size:=by have:=WD c.toList (k*n) v.cells.toList;rwa [<-t] at this
  obtain⟨l,z,A⟩:=bc vs (k+1) g (fun u hu=>q u (by simp[hu])) (by rw[m,h,Nat.add_mul,Nat.add_mul];omega);refine⟨l,by rw[List.zipIdx_cons,List.map_cons,B];exact z,?_⟩;rw[A,e2,List.flatMap_cons,<-List.append_assoc,List.take_left' (by simp[b,j,Nat.add_mul]),List.append_assoc]
def aA:∀(vs:List Value),(∀v∈vs,v.oneCell'=true)->vs.flatMap (·.cells.toList)=vs
 | [],_=>rfl
 | v::vs,h=>by rw[List.flatMap_cons,aA vs (fun u hu=>h u (List.mem_cons_of_mem _ hu)),Sf (h v (List.mem_cons_self ..))];rfl
def kT {α:Type}:∀(b:List (Nat×α)) (k:Nat),b.map (·.1)=List.range' k b.length->b=((b.map (·.2)).zipIdx k).map fun x=>(x.2,x.1)
 | [],_,_=>rfl
 | p::b,k,h=>by
  rw[List.map_cons,List.length_cons,List.range'_succ,List.cons.injEq] at h;rw[List.map_cons,List.zipIdx_cons,List.map_cons,<-kT b (k+1) h.2,<-h.1]
def FD.tm {x:Cx} {i:List (Nat×Nat×Nat)} {vs:List Value} (h:Bc (fun p=>FD x p.1 p.2.1 p.2.2) i vs):∀v∈vs,v.oneCell'=true:=by
 induction h with
 | nil=>simp
 | cons q _ g=>exact fun v b=>(List.mem_cons.1 b).elim (fun e=>e ▸ q.1.1) (g v)
section
variable {P:Program} {E:Env} {TI:TypeId->Info} {w0 w:World} {X:WX} {β:Nat->Option Nat} {s:St} {a:Act}
def uz {x:Cx} {a:AV} {v:Value} (h:lU x a v):C6 x a v:=by cases a <;> first | exact h | exact h.elim
def Z1 {o:Oper} {t:TypeId} {len n:Nat} {parts:Array (Nat×Operand)} {Dq:TypeId} {b:TypeInfo} {z:Value} (k:o.op= .buildSlice t len parts) (hu:P.underlying t=some (.slice Dq)) (g1:P.info? Dq=some b) (g2:b.size=n) (l:b.zero=some z) (A:0<n)
  (hb:len*n<=16777216) (j:parts.toList.length=len) (q:(parts.toList.map fun p=>(p.1,a.eval p.2))=((parts.toList.map fun p=>a.eval p.2).zipIdx 0).map fun x=>(x.2,x.1)) (m:∀v∈parts.toList.map fun p=>a.eval p.2,v.cells.size=n):
  ∃arr,(execOp a.eval o).run P w= .ok (.value (.slice (some ⟨w.heap.size,0,none⟩) len len)) (w.alloc (.cells arr Dq))/\arr.toList=(parts.toList.map fun p=>a.eval p.2).flatMap (·.cells.toList):=by
 by_cases h:len=0
 ·subst h;obtain rfl:parts= #[]:=by apply Array.ext';exact List.eq_nil_of_length_eq_zero j
  refine⟨#[],?_,rfl⟩;simp[execOp,k,Instr.buildSlice,run_underlying hu,sizeOf,typeInfo,g1,Instr.fill,newRow,Array.range_zero']
 obtain⟨g,r,u⟩:=bc (n:=n) (parts.toList.map fun p=>a.eval p.2) 0 ((Array.range (len*b.size)).map (z.cells[· % z.cells.size]!)) m (by simp[j,g2]);refine⟨g,?_,by simpa using u⟩;have:=run_buildSlice (P:=P) w t Dq len (parts.map fun (i,x)=>(i,a.eval x)) g b z hu g1 l (by rw[g2];omega) (by rw[g2];exact Nat.mul_ne_zero h AA) (by rw[<-r,<-q,g2];simp);simp[execOp,k,this]
def xQ (hT:∀t,It P t (TI t)) {o:Oper} (hd:O4 o=true) (hc:∀c x,o.op= .call c->c.callee≠ .value x):Sound P E TI o:=by
 intro w0 X β s a w S f h N Q hN;have R:=NP S
 have I:∀{x:Operand} {c:AC},ev s.sl x= .one c->c≠ .Cb->Bw (cx X w β (AR s.bk)) c (a.eval x):=fun {x c} e hc=>by
  have:=R x;rw[e] at this;exact this.resolve_left hc
 have V:∀{u:Value} {v:AV} {rd:List Nat},⟨v,[],rd⟩=f->(execOp a.eval o).run P w= .ok (.value u) w->C6 (cx X w β (AR s.bk)) v u->o.wp P a w N Q:=fun e hr hv=>by subst e;exact QC hr (hN _ _ _ (S.val hv))
 have D:∀{u:Value} {v:AV} {CZ:BD} {w':World} {arr:Array Value} {e:TypeId} {rd:List Nat},o.dst.isSome=true->⟨v,[(DU o,CZ)],rd⟩=f->(execOp a.eval o).run P w= .ok (.value u) w'->w'.heap=w.heap.push (.cells arr e (0,0))/\w'.os=w.os/\w'.tape=w.tape/\w'.output=w.output->
   CZ.BP=BP (AR s.bk) (DU o)+1/\CZ.short->(∀y:Cx,(cx X w β (AR s.bk)).le y->y.w=w'->y.w.heap[w.heap.size]? =some (.cells arr e (0,0))->y.β (DU o)=some w.heap.size->y.cv (DU o)=BP (AR s.bk) (DU o)+1->Dl y (DU o) CZ/\C6 y v u)->o.wp P a w N Q:=by
  rintro u v CZ w' arr e rd aH rfl hr ⟨h1,h2,h3,h4⟩ ⟨h5,h6⟩ h7;obtain⟨q,hq⟩:=Option.isSome_iff_exists.1 aH;obtain⟨aD,S'⟩:=S.write (dst:=o.dst) (v:=v) (u:=u) (rd:=rd) (o':=some w.heap.size) (.inr ⟨by simp[DU,hq],rfl⟩) h6 (E0.push h1 h2 h3 h4) (.inl rfl) (.inl AA) (fun _ b hb=> .inr (by cases hb;exact Nat.le_refl _)) fun y hle hw hy hv _=>h7 y hle hw (by rw[hw,h1];simp) hy (hv.trans h5)
  exact QC hr (hN _ _ _ S')
 unfold GY at h;unfold O4 at hd;cases ho:o.op <;> simp only[ho] at h hd <;> try exact h.elim
 case move x | assign x=>exact V h (by simp[execOp,ho]) (R x)
 case nilCheck x=>
  split at h <;> rename_i he
  ·split at h
   ·rename_i hv;obtain⟨b,_,hb⟩:=(I he nofun).2 hv.symm;exact V h (by simp[execOp,ho,hb]) (R x)
   exact h.elim
  ·exact V h (by simp[execOp,ho,show a.eval x= .func (.func _) #[] #[] from I he nofun]) (R x)
  ·obtain⟨us,hb,_⟩:=I he nofun;exact V h (by simp[execOp,ho,hb]) (R x)
  ·obtain⟨_,_,_,hb,_⟩:=I he nofun;exact V h (by simp[execOp,ho,hb]) (R x)
  exact h.elim
 case pick c x y=>
  split at h <;> rename_i he
  ·exact V h (by simp[execOp,ho,show a.eval c= .bool true from I he nofun,asBool]) (R x)
  ·exact V h (by simp[execOp,ho,show a.eval c= .bool false from I he nofun,asBool]) (R y)
  exact h.elim
 case alloc t=>
  obtain⟨ti,z,d,h1,h2,h3,h4,h5,h6,h7⟩:=(hT t).info h.1;exact D (u:= .pointer (some ⟨w.heap.size,0,none⟩)) (w':=w.alloc (.cells z.cells t)) hd h.2 (by simp[execOp,ho,Instr.alloc,zeroValue,typeInfo,h1,h3,gY]) ⟨rfl,rfl,rfl,rfl⟩ ⟨rfl,trivial⟩ fun y _ _ hw hb hc=>⟨⟨_,_,t,hb,hw,h4 y⟩,.inr ⟨⟨rfl,AA⟩,fun _=>⟨_,hb,rfl⟩⟩⟩
 case box t x=>
  split at h <;> try exact h.elim
  have hc:=Md (R x) (Vl (by assumption) (by assumption));exact D (u:= .pointer (some ⟨w.heap.size,0,none⟩)) (w':=w.alloc (.cells (a.eval x).cells t)) hd h (by simp[execOp,ho,Instr.box,gY]) ⟨rfl,rfl,rfl,rfl⟩ ⟨rfl,trivial⟩ fun y hle _ hw hb aW=>⟨⟨_,_,t,hb,hw,hc.mono fun _ _=>Bw.mono hle⟩,.inr ⟨⟨rfl,AA⟩,fun _=>⟨_,hb,rfl⟩⟩⟩
 case extract x i=>
  have hx:=R x
  split at h
  ·rename_i he
   rw[he] at hx;obtain⟨arr,hv,A⟩:=hx
   split at h
   ·rename_i y hy
    obtain⟨u,hu,hr⟩:=A.get i y hy;exact V (u:=u) h (by simp[execOp,ho,hv,Instr.extract,show arr[i]? =some u by simpa using hu]) (uz hr)
   exact h.elim
  exact h.elim
 case load t x=>
  simp only[Q8] at h;obtain⟨hk,h⟩:=h;have H:(TI t).agg=false->(TI t).size=1:=let ⟨_,_,_,_,_,_,_,_,_,h7⟩:=(hT t).info hk;h7
  have go:∀{b q:Nat} {cs:List AC} {us:List Value} {rd:List Nat},⟨HA ((TI t).agg,cs),[],rd⟩=f->cs.length=(TI t).size->a.eval x= .pointer (some ⟨b,q,none⟩)->w.rangeAt b q us->Bc (Bw (cx X w β (AR s.bk))) cs us->o.wp P a w N Q:=fun hf hl hp hr A=>
   V hf (by simp[execOp,ho,hp,run_load (hT t) hk hr (A.length ▸ hl)]) (Sx A fun e=>hl.trans (H e))
  split at h <;> rename_i he
  ·split at h
   ·rename_i hb
    split at h
    ·rename_i hc
     obtain⟨b',ah,hp⟩:=(I he nofun).2 (hc.1.symm.trans (FN hb).symm);obtain⟨arr,e,h2,h3⟩:=(S.blocks _ _ hb).1.var ah;exact go h hc.2 hp (fu h2) (by rw[Lh];exact (h3.drop _).take _)
    exact h.elim
   exact h.elim
  ·obtain⟨b,q,us,hp,h1,h2,h3⟩:=I he nofun
   split at h
   ·rename_i hl;exact go h hl hp (XS h3) (by rw[Lh];exact (((HV _ _ _ us).1 h2).drop _).take _)
   exact h.elim
  ·obtain⟨b,q,u,hp,hI,a1,hr⟩:=I he nofun;exact go (cs:=[.BU _ _ _]) (by rw[h.1];exact h.2) (H h.1).symm hp hr (.cons a1 .nil)
  ·split at h
   ·rename_i hb
    split at h
    ·rename_i hc
     obtain rfl:=T.beq_eq hc.2;obtain⟨y,hy,h⟩:=h;obtain⟨b',ah,hp⟩:=(I he nofun).2 (hc.1.symm.trans (FN hb).symm);obtain⟨arr,e,h2,h3⟩:=(S.blocks _ _ hb).1.arr ah;obtain⟨us,hu,ha⟩:=h3 _ y (hy ())
     split at h
     ·rename_i hl;exact go h hl hp (XS ha) (by rw[Lh];exact (((HV _ _ y us).1 hu).drop _).take _)
     exact h.elim
    exact h.elim
   exact h.elim
  exact h.elim
 case store t p x=>
  obtain⟨hk,h⟩:=h;obtain⟨ti,z,d,h1,h2,_⟩:=(hT t).info hk
  have go:∀{id b q:Nat} {arr:Array Value} {e:TypeId} {CZ:BD} {rd:List Nat},⟨.one .Cb,[(id,CZ)],rd⟩=f->(ev s.sl x).full=true->a.eval p= .pointer (some ⟨b,q,none⟩)->(∃b,AR s.bk id=some b/\b.BP=CZ.BP)/\live (AR s.bk) id->β id=some b->w.heap[b]? =some (.cells arr e (0,0))->
    (ev s.sl x).cs.length=(TI t).size->q+(TI t).size<=arr.size->CZ.short->(∀y:Cx,(cx X w β (AR s.bk)).le y->y.w=w.setCells b q (a.eval x).cells.toList->y.β id=some b->Dl y id CZ)->o.wp P a w N Q:=by
   rintro id b q arr e CZ rd rfl O U ⟨⟨b',hn,az⟩,hl⟩ hb hh hlen hq aR hB;have M:=Md (R x) O;have H:(a.eval x).cells.size=ti.size:=by have:=M.length;simp only[Array.length_toList] at this;omega
   have C:=vQ (P:=P) (t:=t) (b:=b) (o:=q) (v:=a.eval x) h1 H (Xw hh AA) M.one
   obtain⟨aD,S'⟩:=S.write (dst:=o.dst) (v:= .one .Cb) (u:=undef) (rd:=rd) (o':=some b) (.inl (Nat.lt_of_not_le fun h=>by rw[LO _ _ h] at hn;cases hn)) aR (E0.set (a.eval x).cells.toList q w) (.inr ⟨hb.symm,hl⟩) (.inr ⟨az.symm.trans (FN hn).symm,hb.symm,fun _=>hl⟩) (fun _ k hk=> .inl ⟨hb.trans hk,hl⟩)
    fun y hle hw hy _ _=>⟨hB y hle hw hy,.inl rfl⟩
   unfold Oper.wp;rw[show (execOp a.eval o).run P w= .ok .skip (w.setCells b q (a.eval x).cells.toList) by simp[execOp,ho,U,C]];exact hN _ _ _ S'
  split at h <;> try exact h.elim
  ·rename_i he
   generalize hB:AR s.bk _=B at h
   split at h <;> try exact h.elim
   rename_i n1 n2
   split at h
   ·rename_i hc
    obtain⟨rfl,hlen,aU⟩:=hc;obtain⟨b,hb,U⟩:=(I he nofun).2 (FN hB).symm;obtain⟨arr,e,g2,g3⟩:=(S.blocks _ _ hB).1.var hb;have aV:_=arr.size:=g3.length;have O:=Vl n1 n2;obtain⟨a6,q1,q2,q3⟩:=Px b (a.eval x).cells.toList _ w arr e g2;exact go h O U ⟨⟨_,hB,rfl⟩,⟨_,hB,rfl⟩⟩ hb g2 hlen AA trivial fun y hle hw hy=>⟨b,a6,e,hy,by rw[hw];exact q1,by rw[q2];exact ((g3.mono fun _ _=>Bw.mono hle).Dw _ ((Md (R x) O).mono fun _ _=>Bw.mono hle))⟩
   exact h.elim
  rename_i u id v i k he
  generalize hB:AR s.bk _=B at h
  split at h <;> try exact h.elim
  rename_i v' u' l n1 n2
  have O:=Vl n1 n2;have M:=Md (R x) O
  obtain⟨rfl,hu,au,z',x0,a8,af,ai,h⟩:v'=v/\u=u'/\k+(TI t).size<=u'.size/\∃(z' x0:el u'),l[i]? =some x0/\(ev s.sl x).cs.length=(TI t).size/\(∀(y:Cx) K,(cx X w β (AR s.bk)).le y->Bc (Bw y) (cells u' x0) K->Bc (Bw y) (cells u' z') (Dw K k (a.eval x).cells.toList))/\
    ⟨.one .Cb,[(id,.arr v' u' (l.set i z'))],[id]⟩=f:=by
   split at h
   ·rename_i hc
    obtain⟨rfl,rfl,H,ad⟩:=hc;obtain⟨z',hz,h⟩:=h;obtain⟨hi,A⟩:=hz ();have M:=Ui A M;have ae:=M.length;rw[L6] at ae;refine⟨rfl,T.beq_eq ad,AA,z',l[i],by simp[hi],?_,fun y K hle h0=>?_,h _ rfl⟩
    ·rw[(Md (R x) O).length,<-ae,H]
    rw[fk _ _ (by rw[<-h0.length,L6,ae])];exact M.mono fun _ _=>Bw.mono hle
   split at h
   ·rename_i hc
    obtain⟨rfl,au,ad⟩:=hc;obtain⟨x0,z',hz,h⟩:=h;obtain⟨a8,af,A⟩:=hz ();exact⟨rfl,T.beq_eq ad,au,z',x0,a8,af,fun y K hle h0=>Ui A (h0.Dw k (M.mono fun _ _=>Bw.mono hle)),h _ rfl⟩
   exact h.elim
  subst hu;have ae:(a.eval x).cells.toList.length=(TI t).size:=by rw[<-M.length,af]
  obtain⟨b,hb,U⟩:=(I he nofun).2 (FN hB).symm;obtain⟨arr,e,g2,g3⟩:=(S.blocks _ _ hB).1.arr hb
  have aN:i*u.size+u.size<=arr.size:=by
   obtain⟨K,F,G⟩:=g3 i x0 a8;have hn:=T.size_pos u;have av:u.size-1<K.length:=by rw[Ny _ _ _ F];omega
   have h9:w.cell? ⟨b,i*u.size+(u.size-1),none⟩=_:=G (u.size-1) K[u.size-1] (by simp[av]);have:=Hn (show arr[_]? =_ by simpa [World.cell?,show w.heap[b]? =_ from g2] using h9);omega
  obtain⟨a6,q1,q2,q3⟩:=Px b (a.eval x).cells.toList (i*u.size+k) w arr e g2;refine go h O U ⟨⟨_,hB,rfl⟩,⟨_,hB,rfl⟩⟩ hb g2 af AA (by have:=(S.blocks _ _ hB).2;simpa [BD.short] using this) fun y hle hw hy=> .inr ⟨b,a6,e,hy,by rw[hw];exact q1,fun j y' hj=>?_⟩
  by_cases ak:j=i
  ·subst ak;obtain rfl:y'=z':=by simp[List.getElem?_set,Jd a8] at hj;exact hj.symm
   obtain⟨K,F,G⟩:=g3 j x0 a8;have aZ:=Ny _ _ _ F;refine⟨_,(HV _ u y' _).2 (ai y K hle ((HV _ u x0 K).1 (FY hle.I _ _ _ F))),fun m v hm=>?_⟩;rw[hw];rw[Vp _ _ _ _ AA] at hm
   split at hm
   ·have:=iD g2 (o:=j*u.size+k) AA _ _ hm;rwa [(AA:j*u.size+k+(m-k)=j*u.size+m)] at this
   rw[World.cell?_setCells_out b _ (j*u.size+k) w ⟨b,j*u.size+m,none⟩ (fun _ _=>by show j*u.size+m<j*u.size+k\/j*u.size+k+_<=j*u.size+m;omega)];exact G m v hm
  obtain⟨us,F,G⟩:=g3 j y' (by simpa [List.getElem?_set,Ne.symm ak] using hj);refine⟨us,FY hle.I u y' us F,hw ▸ iE (fun m hm=>?_) G⟩;rw[Ny _ _ _ F] at hm;rcases Nat.lt_or_gt_of_ne ak with h9 | h9
  ·have:=Nat.mul_le_mul_right u.size (show j+1<=i from h9);rw[Nat.add_mul] at this;omega
  have:=Nat.mul_le_mul_right u.size (show i+1<=j from h9);rw[Nat.add_mul] at this;omega
 case fieldAddr t x i=>
  obtain⟨hk,h⟩:=h
  have go:∀{fo n b off:Nat} {g:Bool},(TI t).fields[i]? =some (fo,n,g)->a.eval x= .pointer (some ⟨b,off,none⟩)->(execOp a.eval o).run P w= .ok (.value (.pointer (some ⟨b,off+fo,none⟩))) w:=by
   intro fo n b off g hf hv;obtain⟨fs,hu,hlen,a7⟩:=(hT t).fields hk (by intro e;simp[e] at hf);obtain⟨fl,d,h1,rfl,h3,h4,_⟩:=a7 i fo n g hf;simp[execOp,ho,hv,Instr.fieldAt,run_underlying hu,h1,Instr.sureAddr,qK h3 h4]
  split at h
  ·rename_i hf he
   split at h
   ·rename_i hv
    obtain⟨hr,L⟩:=I he nofun;obtain⟨b,hb,hp⟩:=L hv.symm;exact V h (go hf hp) (Or.inr ⟨⟨rfl,hr.2⟩,fun _=>⟨b,hb,rfl⟩⟩)
   exact h.elim
  ·rename_i hf he
   obtain⟨b,q,us,hp,h1⟩:=I he nofun;exact V h (go hf hp) (Or.inr ⟨b,q,us,by rw[Nat.add_assoc],h1⟩)
  ·rename_i hf he
   split at h
   ·rename_i hv
    obtain⟨hr,L⟩:=I he nofun;obtain⟨b,hb,hp⟩:=L hv.symm;exact V h (go hf hp) (Or.inr ⟨⟨rfl,hr.2⟩,fun _=>⟨b,hb,by rw[Nat.add_assoc]⟩⟩)
   exact h.elim
  exact h.elim
 case field t x i=>
  obtain⟨hk,h⟩:=h;have hx:=R x
  split at h
  ·rename_i fo n g cs hf he
   rw[he] at hx;obtain⟨arr,hv,A⟩:=hx
   split at h
   ·rename_i hl
    obtain⟨fs,hu,hlen,a7⟩:=(hT t).fields hk (by intro e;simp[e] at hf);obtain⟨fl,d,h1,h2,h3,h4,h5,h6,h7⟩:=a7 i fo n g hf;obtain⟨ti,e1,e2⟩:=Option.map_eq_some_iff.1 h3;have W:Bc (Bw (cx X w β (AR s.bk))) (Ft cs fo n) ((arr.toList.drop fo).take n):=by rw[Lh];exact (A.drop fo).take n
    exact V h (by simp[execOp,ho,hv,Instr.field,run_underlying hu,h1,asAgg,h2,fN e1 e2 h5 h6 h7 (by rw[<-W.length,hl])]) (Sx W fun e=>hl.trans (h7 e))
   exact h.elim
  exact h.elim
 case build t parts=>
  cases hq:(TI t).arr with
  | some q=>
   simp only[hq] at h;obtain⟨ti,z,d,h1,h2,h3,h4,_⟩:=(hT t).info h.1;obtain⟨e,ei,d',hu,g1,g2,_⟩:=(hT t).arr q hq;have h:=h.2
   split at h
   ·rename_i cs hf
    obtain⟨c',q1,q2⟩:=Vf R (pl:=fun i=>some (i*q.2.1,q.2.1)) (fun i o n g hi=>by
     rw[Zd,List.getElem?_map] at hi;obtain⟨j,hr,hj⟩:=Option.map_eq_some_iff.1 hi;obtain⟨_,hr⟩:=List.getElem?_eq_some_iff.1 hr;rw[List.getElem_range] at hr;cases hr;cases hj;rfl) parts.toList _ _ z.cells hf (h4 _)
    exact V (u:= .agg c') h (by simp[execOp,ho,Instr.build,zeroValue,typeInfo,h1,h3,run_underlying hu,sizeOf,g1,g2,q1]) ⟨c',rfl,q2⟩
   exact h.elim
  | none=>
   simp only[hq] at h;obtain⟨⟨hk,aM⟩,h⟩:=h;obtain⟨ti,z,d,h1,h2,h3,h4,_⟩:=(hT t).info hk
   split at h
   ·rename_i cs hf
    obtain⟨fs,hu,hlen,a7⟩:=(hT t).fields hk fun e=>by simp[e] at aM
    have aP:fs.toList.mapM (fun f=>(P.info? f.type).map fun i=>(f.offset,i.size))=some ((TI t).fields.map fun x=>(x.1,x.2.1)):=mapM_some_of_get _ _ (by simpa using hlen) fun i x hx=>by
     have hi:i<(TI t).fields.length:=hlen ▸ Hn (by simpa using hx);obtain⟨fl,d',e1,e2,e3,_⟩:=a7 i (TI t).fields[i].1 (TI t).fields[i].2.1 (TI t).fields[i].2.2 (by simp[hi]);obtain rfl:x=fl:=Option.some.inj ((show fs[i]? =some x by simpa using hx).symm.trans e1);obtain⟨b0,e4,e5⟩:=Option.map_eq_some_iff.1 e3;simp[hi,e2,e4,e5]
    obtain⟨c',q1,q2⟩:=Vf R (pl:=fun i=>((TI t).fields.map fun x=>(x.1,x.2.1)).toArray[i]?) (fun i o n g hi=>by simp[hi]) parts.toList _ _ z.cells hf (h4 _)
    have hb:P.built t (parts.map fun (i,x)=>(i,a.eval x)).toList=some c':=by
     unfold Program.built;simp only[h1,hu,h3,aP];simpa using q1
    exact V (u:= .agg c') h (by simp[execOp,ho,run_build w t _ c' hb]) ⟨c',rfl,q2⟩
   exact h.elim
 case buildSlice t len parts=>
  cases ab:(TI t).pt <;> simp only[ab] at h
  case true=>
   split at h
   ·rename_i ps an
    obtain⟨ax,hlen,aK⟩:=h.1 ();obtain⟨hu,ei,z,g2,g3,g5,g6⟩:=(hT t).pt ab;have a1:=uf (vs:=parts.toList.map fun p=>a.eval p.2) (by simpa [Function.comp_def] using PG R (parts.toList.map (·.2))) an;have ag:=FD.tm a1;have hl:parts.toList.length=len:=by rw[<-ax,a1.length,List.length_map]
    obtain⟨arr,C,a5⟩:=Z1 (w:=w) ho hu g2 g3 g5 Nat.one_pos AA hl (by
     have h1:=kT (parts.toList.map fun p=>(p.1,a.eval p.2)) 0 (by rw[List.map_map,List.length_map,hl,<-List.range_eq_range'];exact aK);rw[List.map_map] at h1;exact h1) fun v hv=>by rw[Sf (ag v hv)];rfl
    rw[aA _ ag] at a5;have hf:=h.2;subst hf;exact QC C (hN _ _ _ (S.ext (E0.push rfl rfl rfl rfl) fun hle=>Or.inr ⟨w.heap.size,0,len,_,by rw[ax],AA,⟨AS,fun id hl hb=>absurd (S.lt hl hb) AA⟩,a1.mono fun _ _=>FD.mono hle,a5 ▸ Pj (heap_alloc_new w _)⟩))
   exact h.elim
  obtain⟨hk,aG,xs,aT,h⟩:=h;obtain⟨aB,hlen,aj,A⟩:=aT ();obtain⟨hu,ei,z,g1,g2,g3,g4,g5,g6⟩:=(hT t).sl hk
  have aq:∀(ps:List (Nat×Operand)) (k:Nat) (ys:List (el (TI t).elem)),(ps.all fun p=>(ev s.sl p.2).full)=true->Uh (ps.map fun p=>(p.1,(ev s.sl p.2).cs)) k (ys.map (cells _))->
    (ps.map fun p=>(p.1,a.eval p.2))=((ps.map fun p=>a.eval p.2).zipIdx k).map (fun x=>(x.2,x.1))/\(∀v∈ps.map fun p=>a.eval p.2,v.cells.size=(TI t).elem.size)/\
    EU w (cx X w β (AR s.bk)).I (TI t).elem ys ((ps.map fun p=>a.eval p.2).flatMap (·.cells.toList))/\ys.length=ps.length:=by
   intro ps
   induction ps with
   | nil=>intro k ys _ h2;cases ys with
    | nil=>exact⟨rfl,AS,rfl,rfl⟩
    | cons y ys=>exact h2.elim
   | cons p ps ih=>
    intro k ys h1 h2;cases ys with
    | nil=>exact h2.elim
    | cons y ys=>
     obtain⟨e1,e2,e3⟩:=h2;simp only[List.all_cons,Bool.and_eq_true] at h1;have ar:=Ui e2 (Md (R p.2) h1.1);obtain⟨q1,q2,q3,q4⟩:=ih (k+1) ys h1.2 e3;refine⟨by rw[List.map_cons,List.map_cons,List.zipIdx_cons,List.map_cons,q1,(e1:p.1=k)],fun v hv=>?_,⟨_,_,by rw[List.map_cons,List.flatMap_cons],(HV _ _ _ _).2 ar,q3⟩,by simp[q4]⟩;rcases List.mem_cons.1 hv with rfl | hv
     ·have:=ar.length;rw[L6] at this;simpa using this.symm
     exact q2 v hv
  obtain⟨q1,q2,q3,q4⟩:=aq parts.toList 0 xs aj A;obtain⟨arr,C,a5⟩:=Z1 (w:=w) ho hu g1 g2 g5 (T.size_pos _) (by have:=Nat.mul_le_mul hlen aG;omega) AA q1 q2;rw[<-a5] at q3;have H:arr.size=len*(TI t).elem.size:=by have:=q3.length;rwa [aB] at this
  have aw:len<=maxLen:=by unfold maxLen;omega
  have hB:∀y:Cx,(cx X w β (AR s.bk)).le y->y.w.heap[w.heap.size]? =some (.cells arr (TI t).Dq (0,0))->∀(i:Nat) (u:el (TI t).elem),xs[i]? =some u->∃us,rep y.w y.I (TI t).elem u us/\y.w.rangeAt w.heap.size (0+i*(TI t).elem.size) us:=fun y hle hw=>Xf (EU.mono hle.I q3) (Pj hw)
  rcases h with h | h
  ·exact D hd h C ⟨rfl,rfl,rfl,rfl⟩ ⟨rfl,by show xs.length<=_;omega⟩ fun y hle _ hw hb hc=>⟨.inr ⟨_,arr,_,hb,hw,fun i u hi=>by simpa using hB y hle hw i u hi⟩,
    .inr ⟨⟨rfl,AA⟩,fun _=>⟨_,_,rfl,Nat.le_refl _,aw,nofun,.inr ⟨_,_,_,hb,by rw[Nat.zero_mul],hw,by rw[H,Nat.zero_add];exact Nat.le_refl _⟩⟩⟩⟩
  subst h;exact QC C (hN _ _ _ (S.ext (E0.push rfl rfl rfl rfl) fun hle=>Or.inr ⟨_,len,by rw[aB],AA,AA,.inr ⟨w.heap.size,0,rfl,⟨⟨AS,fun id hl hb=>absurd (S.lt hl hb) AA⟩,S.fresh.1 _ _ S.Gr.size⟩,hB _ hle (heap_alloc_new w _)⟩⟩))
 case makeSlice t x y=>
  obtain⟨hk,h⟩:=h;obtain⟨hu,ei,z,g1,g2,g3,g4,g5,g6⟩:=(hT t).sl hk
  split at h
  ·rename_i k n k' m he r
   have Y:a.eval x= .int k n:=I he nofun;have Z:a.eval y= .int k' m:=I r nofun;obtain⟨h0,h1,h2⟩:=h.1 ();unfold fits at h2;have aX:m.toNat<=140737488355328:=Nat.le_trans (Nat.le_mul_of_pos_right _ AA) h2
   have hb:(ei.bytes:Int)*m<=281474976710656:=by
    have e1:((ei.bytes*m.toNat:Nat):Int)<=281474976710656:=by rw[Nat.mul_comm,g3];omega
    rw[Int.natCast_mul] at e1;rwa [Int.toNat_of_nonneg AA] at e1
   have C:=run_make (P:=P) w t _ ei z hu g1 g5 k k' n m h0 h1 hb AA;have aC:z.cells.size=(TI t).elem.size:=by have:=(g6 (cx X w β (AR s.bk))).length;rw[L6] at this;exact this.symm
   refine D (u:= .slice (some ⟨w.heap.size,0,none⟩) n.toNat m.toNat) hd (h.2 _ _ ⟨rfl,rfl⟩) (w':=w.alloc (.cells (madeCells z.cells (m.toNat*ei.size)) (TI t).Dq)) (by simp[execOp,ho,Y,Z,C]) ⟨rfl,rfl,rfl,rfl⟩ ⟨rfl,by simp[BD.short];omega⟩ fun y _ _ hw hb hc=>⟨.inr ⟨_,_,_,hb,hw,fun i u hi=>?_⟩,
    .inr ⟨⟨rfl,AA⟩,fun _=>⟨_,_,rfl,AA,by unfold maxLen;omega,nofun,.inr ⟨_,_,_,hb,by rw[Nat.zero_mul],hw,by rw[size_madeCells,g2,Nat.zero_add];exact Nat.le_refl _⟩⟩⟩⟩
   have aJ:i<n.toNat:=by simpa using Jd hi
   obtain rfl:u=(TI t).Cg:=by simpa [List.getElem?_replicate,aJ,eq_comm] using hi
   refine⟨z.cells.toList,(HV y _ _ _).2 (g6 y),fun j v hj=>?_⟩;have aL:j<(TI t).elem.size:=aC ▸ Jd hj
   have h9:i*(TI t).elem.size+j<m.toNat*ei.size:=by
    have:(i+1)*(TI t).elem.size<=m.toNat*(TI t).elem.size:=Nat.mul_le_mul_right _ AA;rw[g2];rw[Nat.add_mul] at this;omega
   have aE:(i*(TI t).elem.size+j)%z.cells.size=j:=by rw[aC,Nat.add_comm,Nat.add_mul_mod_self_right,Nat.mod_eq_of_lt aL]
   have aF:(madeCells z.cells (m.toNat*ei.size))[i*(TI t).elem.size+j]? =z.cells[j]? :=by
    simp only[madeCells,Array.getElem?_map];rw[Array.getElem?_range];simp[h9,aE,(AA:j<z.cells.size)]
   simpa [World.cell?,hw,aF] using hj
  exact h.elim
 case indexAddr t x i=>
  cases ab:(TI t).pt <;> simp only[ab] at h
  case true=>
   split at h
   ·rename_i ps k n he r
    obtain⟨p,hp,h⟩:=h;obtain⟨aa,U⟩:=hp ();obtain⟨hu,ei,z,g1,g2,g3,g4⟩:=(hT t).pt ab;obtain⟨b,off,cap,us,hv,h1,hI,an,hr⟩:=I he nofun;obtain⟨u,G,a1⟩:=an.get _ p U;have av:=Jd U;refine V (u:= .pointer (some ⟨b,off+n.toNat,none⟩)) h (by simp[execOp,ho,hv,show a.eval i= .int _ _ from I r nofun,Instr.indexAt,asIntOf,run_underlying hu,TE g1,g2,aa,(AA:n<(ps.length:Int)),Addr.add_mid]) (Or.inr ⟨b,_,u,rfl,hI,a1,fun j v hj=>?_⟩);cases j with
    | zero=>cases hj;exact hr _ _ G
    | succ j=>simp at hj
   exact h.elim
  cases hq:(TI t).arr <;> simp only[hq] at h
  case some q=>
   obtain⟨e,ei,d,hu,g1,g2,_⟩:=(hT t).arr q hq
   have go:∀{b off:Nat} {k:IntKind} {n:Int},a.eval x= .pointer (some ⟨b,off,none⟩)->a.eval i= .int k n->0<=n/\n.toNat<q.1->(execOp a.eval o).run P w= .ok (.value (.pointer (some ⟨b,off+n.toNat*q.2.1,none⟩))) w:=by
    intro b off k n hv hn h0;simp[execOp,ho,hv,hn,Instr.indexAt,Instr.sureAddr,asIntOf,run_underlying hu,TE g1,g2,h0.1,(AA:n<(q.1:Int)),Addr.add_mid]
   split at h
   ·rename_i he r
    split at h
    ·rename_i hv
     obtain⟨hr,L⟩:=I he nofun;obtain⟨b,hb,hp⟩:=L hv.symm;exact V h.2 (go hp (I r nofun) (h.1 ())) (Or.inr ⟨⟨rfl,hr.2⟩,fun _=>⟨b,hb,rfl⟩⟩)
    exact h.elim
   ·rename_i he r
    obtain⟨u,z,h1,h⟩:=h;obtain⟨b,p,us,hp,hI,hu,ha⟩:=I he nofun;exact V h (go hp (I r nofun) (h1 ()).1) (Or.inr ⟨b,_,_,by rw[Nat.add_assoc];rfl,hI,(HV (cx X w β (AR s.bk)) _ _ _).2 (by rw[(h1 ()).2,Lh];exact (((HV (cx X w β (AR s.bk)) _ _ us).1 hu).drop _).take _),XS ha⟩)
   exact h.elim
  obtain⟨hk,h⟩:=h;obtain⟨hu,ei,z,g1,g2,_⟩:=(hT t).sl hk
  have go:∀{b off len cap:Nat} {k:IntKind} {n:Int},a.eval x= .slice (some ⟨b,off,none⟩) len cap->a.eval i= .int k n->0<=n/\n.toNat<len->(execOp a.eval o).run P w= .ok (.value (.pointer (some ⟨b,off+n.toNat*(TI t).elem.size,none⟩))) w:=by
   intro b off len cap k n hv hn h0;simp[execOp,ho,hv,hn,Instr.indexAt,asIntOf,run_underlying hu,TE g1,g2,h0.1,(AA:n<(len:Int)),Addr.add_mid]
  split at h
  ·rename_i he r
   obtain⟨base,cap,hv,h1,h2,h3⟩:=I he nofun;obtain⟨a2,y,hy,h⟩:=h;obtain rfl:=T.beq_eq a2;obtain⟨aa,al⟩:=hy ();rcases h3 with rfl |⟨b,off,rfl,hI,hc⟩
   ·cases Jd al
   obtain⟨us,F,G⟩:=hc _ y al;exact V h (go (List.cons.inj hv).1 (I r nofun) ⟨aa,Jd al⟩) (Or.inr ⟨b,_,us,rfl,⟨_,hI⟩,F,G⟩)
  ·rename_i he r
   obtain⟨a2,h⟩:=h;obtain rfl:=T.beq_eq a2
   split at h
   ·rename_i hv
    obtain⟨hr,L⟩:=I he nofun;obtain⟨base,cap,hs,h1,h2,_,h3⟩:=L hv.symm;have hn:=h.1 ();rcases h3 with rfl |⟨b,arr,e,hb,rfl,hh,H⟩
    ·omega
    exact V (h.2 _ rfl) (go hs (I r nofun) hn) (Or.inr ⟨⟨rfl,hr.2⟩,fun _=>⟨b,hb,by rw[Nat.add_mul,Nat.add_zero]⟩⟩)
   exact h.elim
  exact h.elim
 case index t x i=>
  cases hq:(TI t).arr <;> simp only[hq] at h
  case some q=>
   have hx:=R x
   split at h
   ·rename_i cs k n he r
    rw[he] at hx;obtain⟨arr,hv,A⟩:=hx;obtain⟨aa,aY⟩:=h.1 ();obtain⟨e,ei,d,hu,h3,hs,h5,h6,h7,_⟩:=(hT t).arr q hq;have h:=h.2
    split at h
    ·rename_i hl
     have W:Bc (Bw (cx X w β (AR s.bk))) (Ft cs (n.toNat*q.2.1) q.2.1) ((arr.toList.drop (n.toNat*q.2.1)).take q.2.1):=by rw[Lh];exact (A.drop _).take _
     exact V h (by simp[execOp,ho,hv,show a.eval i= .int _ _ from I r nofun,Instr.index,asIntOf,run_underlying hu,aa,(AA:n<(q.1:Int)),sizeOf,typeInfo,h3,hs,fN (w:=w) h3 hs h5 h6 h7 (by rw[<-W.length,hl])]) (Sx W fun e=>hl.trans (h7 e))
    exact h.elim
   exact h.elim
  obtain⟨hk,h⟩:=h
  split at h
  ·rename_i z k n he r
   obtain⟨b,h1,h⟩:=h;obtain⟨h1,h2⟩:=h1 ()
   have h3:z[n.toNat]? =some b:=by
    obtain⟨q,e⟩:=Array.getElem?_eq_some_iff.1 h2;rw[getElem?_pos z n.toNat q];exact congrArg some e
   exact V (h _ ⟨rfl⟩) (by simp[execOp,ho,show a.eval x= .string _ from I he nofun,show a.eval i= .int _ _ from I r nofun,Instr.index,asIntOf,run_underlying ((hT t).SA hk),h1,h3]) (Or.inr rfl)
  exact h.elim
 case slice t x lo hi mx=>
  split at h
  ·rename_i z he
   obtain⟨l,q,m,c,hr,_,_,_,_,_,b6,b7,hc,hR⟩:=Ql (P:=P) (w:=w) R (Nat.le_refl _) (h.2 _ rfl) false;obtain rfl:=b6 hc;obtain rfl:mx=none:=Classical.byContradiction fun e=>by cases (b7 e).symm.trans hc
   exact V (hR _ rfl) (by simp[execOp,ho,show a.eval x= .string _ from I he nofun,Instr.sliceAt,run_underlying ((hT t).SA h.1),Instr.slice,show (Instr.sliceBounds false z.size z.size (lo.map a.eval) (hi.map a.eval) none).run P w=_ from hr]) (Or.inr rfl)
  obtain⟨hk,h⟩:=h;obtain⟨hu,ei,z,g1,g2,_⟩:=(hT t).sl hk
  have go:∀{base:Option Addr} {len cap l q m:Nat},a.eval x= .slice base len cap->(Instr.sliceBounds true len cap (lo.map a.eval) (hi.map a.eval) (mx.map a.eval)).run P w= .ok (l,q,m) w->
    (execOp a.eval o).run P w= .ok (.value (.slice (if m=l then base else base.map (·.add (l*(TI t).elem.size))) (q-l) (m-l))) w:=by
   intro base len cap l q m hv hr;simp[execOp,ho,hv,Instr.sliceAt,run_underlying hu,Instr.slice,hr,TE g1,g2]
  unfold Qk at h
  split at h
  ·rename_i u l he
   obtain⟨base,cap,hv,h1,h2,h3⟩:=I he nofun;obtain⟨a2,h⟩:=h;obtain rfl:=T.beq_eq a2;obtain⟨p,q,m,c,hr,b1,b2,b3,b4,_,_,_,hR⟩:=Ql (P:=P) (w:=w) R h1 (h _ rfl);have hlen:((l.take q).drop p).length=q-p:=by simp;omega
   refine V (hR _ rfl) (go (List.cons.inj hv).1 hr) (Or.inr ⟨_,m-p,by rw[hlen],AA,AA,?_⟩)
   by_cases aQ:q=p
   ·left;subst aQ;simp
   right
   rcases h3 with rfl |⟨b,off,rfl,hI,hc⟩
   ·simp at b2;omega
   refine⟨b,off+p*(TI t).elem.size,by rw[if_neg AA];simp[Addr.add_mid],hI,fun j y hj=>?_⟩
   obtain⟨us,F,G⟩:=hc (p+j) y (by
    rw[List.getElem?_drop,List.getElem?_take] at hj
    split at hj
    ·exact hj
    cases hj)
   exact⟨us,F,by rwa [Nat.add_mul,<-Nat.add_assoc] at G⟩
  ·rename_i u id v off len he
   obtain⟨a2,h⟩:=h;obtain rfl:=T.beq_eq a2
   split at h
   ·rename_i aS
    obtain⟨ay,L⟩:=I he nofun;obtain⟨base,cap,hs,h1,h2,_,h3⟩:=L aS.symm;obtain⟨p,q,m,c,hr,b1,b2,b3,b4,b5,_,_,hR⟩:=Ql (P:=P) (w:=w) R h1 h
    have hL:∀fl,(fl=true->m-p=q-p)->Kk w (β id) (TI t).elem.size (off+p) (q-p) fl (.slice (if m=p then base else base.map (·.add (p*(TI t).elem.size))) (q-p) (m-p)):=by
     refine fun fl aI=>⟨_,m-p,rfl,AA,AA,aI,?_⟩
     by_cases aO:m=p
     ·left;omega
     right
     rcases h3 with rfl |⟨b,arr,e,hb,rfl,hh,H⟩
     ·omega
     have:=Nat.mul_le_mul_right (TI t).elem.size (AA:off+p+(m-p)<=off+cap);exact⟨b,arr,e,hb,by rw[if_neg aO];simp[Addr.add_mid,Nat.add_mul],hh,AA⟩
    have hR:=hR _ _ ⟨rfl,rfl⟩;cases c with
    | true=>exact V hR (go hs hr) (Or.inr ⟨⟨rfl,ay.2⟩,fun _=>hL true fun _=>by have:=b5 rfl;omega⟩)
    | false=>exact V hR (go hs hr) (Or.inr ⟨⟨rfl,ay.2⟩,fun _=>hL false nofun⟩)
   exact h.elim
  ·rename_i he
   obtain⟨p,q,m,c,hr,b1,b2,b3,b4,_,_,_,hR⟩:=Ql (P:=P) (w:=w) (cap:=0) R (Nat.le_refl _) h;obtain⟨rfl,rfl,rfl⟩:p=0/\q=0/\m=0:=AA
   exact V hR (go (show a.eval x= .slice none 0 0 from I he nofun) hr) (Or.inr (by simp[Bw]))
  exact h.elim
 case binOp op t x y t'=>
  split at h
  ·rename_i k m k' n he r
   split at h
   ·rename_i hk
    obtain⟨c,hf,hc⟩:=Zc h;obtain⟨u,hu,hr⟩:=nw (P:=P) (w:=w) (t:=t) hk (hc (fun d=>d=c) rfl);have hg:(eqGuard op t x y (.int k m) (.int k' n)).run P w= .ok () w:=by unfold eqGuard;cases op <;> simp
    exact V hf (by simp only[execOp,ho,show a.eval x= .int _ _ from I he nofun,show a.eval y= .int _ _ from I r nofun,Sem.run_bind,hg,Result.andThen_ok,hu,Sem.run_pure]) (Or.inr (hr _))
   exact h.elim
  ·rename_i m n he r
   obtain⟨h1,h⟩:=h;have hu:=(hT t).isb h1
   have hq:(Op.equal t (.bool m) (.bool n)).run P w= .ok (m==n) w:=by
    have hd:∀d,(Op.equalIn (d+1) t (.bool m) (.bool n)).run P w= .ok (m==n) w:=fun d=>by
     unfold Op.equalIn;simp[run_underlying hu]
    exact hd 9999
   have hg:(eqGuard op t x y (.bool m) (.bool n)).run P w= .ok () w:=by unfold eqGuard;cases op <;> simp
   have Y:a.eval x= .bool m:=I he nofun;have Z:a.eval y= .bool n:=I r nofun;cases op <;> first | exact h.elim | exact V (h _ rfl) (by simp[execOp,ho,Y,Z,Sem.run_bind,hg,binOp,hq,bne]) (Or.inr rfl)
  ·rename_i ty l he r
   obtain⟨base,cap,hv,_,_,ao⟩:=I he nofun;have Y:a.eval x= .slice base l.length cap:=(List.cons.inj hv).1;have Z:a.eval y= .slice none 0 0:=I r nofun;obtain⟨h1,h⟩:=h;have hq:(Op.equal t (.slice base l.length cap) (.slice none 0 0)).run P w= .ok base.isNone w:=run_equal_slice_nil w t _ base l.length cap ((hT t).sl h1).1;have hg:(eqGuard op t x y (.slice base l.length cap) (.slice none 0 0)).run P w= .ok () w:=by unfold eqGuard;cases op <;> simp
   cases op <;> first | exact h.elim | exact V (u:= .bool base.isNone) (h _ rfl) (by simp[execOp,ho,Y,Z,Sem.run_bind,hg,binOp,hq]) (Or.inr ⟨_,rfl,fun hb=>ao.elim (fun e=>by rw[e];rfl) fun⟨b,off,e,_⟩=>by rw[e] at hb;cases hb⟩)
  ·rename_i m n he r
   have Y:a.eval x= .string m:=I he nofun;have Z:a.eval y= .string n:=I r nofun;have hg:(eqGuard op t x y (.string m) (.string n)).run P w= .ok () w:=by unfold eqGuard;cases op <;> simp
   cases op <;> first
    | exact h.elim
    | exact V (h _ rfl) (by simp[execOp,ho,Y,Z,Sem.run_bind,hg,binOp,Op.stringOp,bne]) (Or.inr rfl)
    | (have h2:¬(((m.size+n.size:Nat):Int)>IntKind.i64.max):=by have e:IntKind.i64.max=9223372036854775807:=rfl;have:=h.1 ();rw[e];omega
       exact V (u:= .string (m++n)) (h.2 _ rfl) (by simp only[execOp,ho,Y,Z,Sem.run_bind,hg,binOp,Op.stringOp,if_neg h2];rfl) (Or.inr rfl))
  exact h.elim
 case unOp op t x=>
  split at h
  ·rename_i he
   exact V (h _ rfl) (by simp[execOp,ho,show a.eval x= .bool _ from I he nofun,Op.unary]) (Or.inr rfl)
  ·rename_i k n he
   have ad:(Op.intArith .sub k 0 n).run P w= .ok (.int k (k.wrap (0-n))) w:=rfl;exact V (h _ rfl) (by simp[execOp,ho,show a.eval x= .int _ _ from I he nofun,Op.unary,ad]) (Or.inr rfl)
  exact h.elim
 case convert src dst x=>
  obtain⟨hk,h⟩:=h
  split at h <;> try exact h.elim
  ·rename_i hd he
   obtain⟨_,_,d,_,_,_,_,hu,_⟩:=(hT src).info hk;exact V (h _ rfl) (by simp[execOp,ho,show a.eval x= .int _ _ from I he nofun,convert,run_underlying hu,run_underlying ((hT dst).kind _ hd),Conv.intToInt]) (Or.inr rfl)
  rename_i hd he
  obtain⟨g1,g2,g3,l,g4,h⟩:=h;obtain rfl:=g4 ();have:=oR ((hT src).sl g2).1 ((hT _).kind _ g3) ((hT dst).SA g1) (I he nofun);simp only[cx] at this;exact V (h _ rfl) (by simp[execOp,ho,this]) (Or.inr rfl)
 case makeFunc fn first cap=>
  split at h
  ·rename_i h1 h2
   obtain rfl:first= #[]:=by simpa using h1
   exact V (u:= .func (.func _) #[] (cap.map a.eval)) h (by simp[execOp,ho,Instr.makeFunc]) (Or.inr ⟨_,rfl,by rw[Array.toList_map];exact oY (PG R cap.toList) h2⟩)
  exact h.elim
 case call c=>
  cases hb:c.callee <;> simp only[hb] at h hd
  ·exact absurd hb (hc c _ ho)
  obtain⟨u,w',aD,hr,S'⟩:=xO hT ho hb hd S h;exact QC hr (hN _ _ _ S')
end
section
variable {R S:AC->Value->Prop} {p:AC->Bool} {x y:Cx} {c d:AC} {v:Value}
def AV.Od (r:AV):r.all p=r.cells.all p:=by cases r <;> simp[AV.all,AV.cells,List.all_flatMap]
def AV.Qj {r:AV}:r.all p=true↔∀c∈r.cells,p c=true:=by rw[r.Od,List.all_eq_true]
def RV.mem {r:AV} (hw:r.wf=true) (h:RV R r v):∀c∈r.cells,c= .Cb\/∃u,R c u:=by
 have ag:∀{cs:List AC} {us:List Value},Bc R cs us->∀c∈cs,c= .Cb\/∃u,R c u:=fun h=>by
  induction h with
  | nil=>simp
  | cons q _ k=>exact fun c b=>(List.mem_cons.1 b).elim (fun e=> .inr ⟨_,e ▸ q⟩) (k c)
 cases r with
 | one d=>exact fun c b=>by rw[List.mem_singleton.1 b];exact h.imp id fun q=>⟨_,q⟩
 | agg cs=>obtain⟨_,_,h⟩:=h;exact ag h
 | BI xs=>
  obtain⟨arr,_,h⟩:=h;simp only[AV.wf,List.all_eq_true] at hw;intro c b;obtain⟨z,g,b⟩:=List.mem_flatMap.1 b;obtain⟨i,j⟩:=List.mem_iff_getElem?.1 g;obtain⟨u,_,hu⟩:=h.get i z j;have hw:=hw z g
  match z,hw,b,hu with
  | (true,_),_,b,⟨_,_,h⟩=>exact ag h c b
  | (false,[d]),_,b,h=>rw[List.mem_singleton.1 b];exact h.imp id fun q=>⟨_,q⟩
  | (false,[]),_,b,_=>cases b
  | (false,_::_::_),hw,_,_=>simp at hw
def fM (d v:Nat):∀cs:List AC,(Pd d v cs=[]/\∀c∈cs,IC c=true->ET c=true)\/∃t l n,.own t l n∈cs/\Pd d v cs=[(d,.arr v t l)]
 | []=> .inl ⟨rfl,AS⟩
 | c::cs=>by
  have j:=fM d v cs
  cases c <;> first
   | exact .inr ⟨_,_,_,List.mem_cons_self ..,rfl⟩
   | exact j.imp (fun h=>⟨h.1,fun c i=>(List.mem_cons.1 i).elim (fun e=>by rw[e];exact fun h=>h) (h.2 c)⟩) fun⟨t,l,n,b,g⟩=>⟨t,l,n,List.mem_cons_of_mem _ b,g⟩
def Po {lo:Nat} {g:Option Nat} (h:∀o b,x.I o b->y.I o b/\y.w.heap[b]? =x.w.heap[b]?) (e:ET c=true) (r:Ha x lo g c v):Bw y c v:=by
 cases c <;> first | exact ID h e r | cases e
def u6 {w w':World} {I I':PI} {t0:T} (h:∀o b,o≠some t0->I o b->I' o b/\w'.heap[b]? =w.heap[b]?) (t:T) (hf:MF t0 t=true):∀(x:el t) (vs:List Value),rep w I t x vs->rep w' I' t x vs:=by
 induction t with
 | pr a b u z=>
  simp only[MF,Bool.and_eq_true] at hf;exact fun _ _ ⟨v1,v2,e,j,k⟩=>⟨v1,v2,e,u hf.1 _ v1 j,z hf.2 _ v2 k⟩
 | sl t A=>
  simp only[MF,Bool.and_eq_true,Bool.not_eq_true'] at hf;have g:some t≠some t0:=fun e=>by rw[Option.some.inj e,T.beq_refl] at hf;exact absurd hf.1 AS
  exact fun _ _ ⟨base,cap,e,j,k,n⟩=>⟨base,cap,e,j,k,n.imp id fun⟨b,off,hb,l,m⟩=>
   ⟨b,off,hb,(h _ b g l).1,fun i x r=>let ⟨us,hu,q⟩:=m i x r;⟨us,A hf.2 x us hu,rangeAt_of_block (h _ b g l).2 q⟩⟩⟩
 | ex | rf=>cases hf
 | _=>exact fun _ _ h=>h
def ux {lo:Nat} {g:Option Nat} {t0:T} (h:∀o b,o≠some t0->x.I o b->y.I o b/\y.w.heap[b]? =x.w.heap[b]?) (e:bx t0 c=true) (r:Ha x lo g c v):Bw y c v:=by
 cases c <;> first | exact r | exact u6 h _ e _ _ r | cases e
def gD {w w':World} {I I':PI} (t:T) (hf:t.flat=true):∀(x:el t) (vs:List Value),rep w I t x vs->rep w' I' t x vs:=by
 induction t with
 | pr a b j k=>
  simp only[T.flat,Bool.and_eq_true] at hf;exact fun _ _ ⟨v1,v2,e,g,i⟩=>⟨v1,v2,e,j hf.1 _ v1 g,k hf.2 _ v2 i⟩
 | sl | ex | rf=>cases hf
 | _=>exact fun _ _ h=>h
def ZQ:∀{us:List Value},Bc (Bw x) [c] us->∃u,us=[u]/\Bw x c u
 | [u],.cons h _=>⟨u,rfl,h⟩
end
section
variable {P:Program} {TI:TypeId->Info} {w0 w:World} {X:WX} {β:Nat->Option Nat} {s:St} {a:Act} {J:PI} {c d:AC} {v:Value}
def TW (S:Bt w0 X β s a w) (i:∀o b,(cx X w β (AR s.bk)).I o b->J o b) {id k:Nat} {t:T} {y:el t} (hb:AR s.bk id=some (.var k (cells t y))) (j:∀b,live (AR s.bk) id->β id=some b->b<w.heap.size->J none b) (r:FD (cx X w β (AR s.bk)) id k 0 v):JQ w J ⟨t,y⟩ 0 v:=by
 obtain⟨b,g,hu⟩:=r.2 (FN hb).symm;obtain⟨arr,e,h,l⟩:=(S.blocks id _ hb).1.var g;exact⟨b,0,arr.toList,hu,⟨none,j b ⟨_,hb,rfl⟩ g (Hn h)⟩,FY (w':=w) (fun o b hb=>⟨i o b hb,rfl⟩) _ _ _ ((HV _ t y arr.toList).2 l),Pj h⟩
def xE (S:Bt w0 X β s a w) (l:∀o b,(cx X w β (AR s.bk)).I o b->J o b) {j:List (Nat×Nat)} {us:List Value} (r:Bc (fun p=>FD (cx X w β (AR s.bk)) p.1 p.2 0) j us):∀{g:List ((t:T)×el t)},
  (∀id b,id∈j.map (·.1)->live (AR s.bk) id->β id=some b->b<w.heap.size->J none b)->Pz (AR s.bk) j g->Bc (fun q=>JQ w J q 0) g us:=by
 induction r with
 | nil=>intro g _ h;cases g with
  | nil=>exact .nil
  | cons=>exact h.elim
 | cons r _ m=>intro g k h;cases g with
  | nil=>exact h.elim
  | cons=>exact .cons (TW S l h.1 (fun b=>k _ b AS) r) (m (fun id b i=>k id b (List.mem_cons_of_mem _ i)) h.2)
def xF (S:Bt w0 X β s a w) {l2:List Nat} {u:List (Nat×Nat)} {us:List Value} (r:Bc (fun p=>FD (cx X w β (AR s.bk)) p.1 p.2 0) u us):∀{g:List ((t:T)×el t)},P0 (AR s.bk) l2 u g->Bc (fun q=>JQ w (fun _ b=>b<w.heap.size) q 0) g us:=by
 induction r with
 | nil=>intro g h;cases g with
  | nil=>exact .nil
  | cons=>exact h.elim
 | cons r _ A=>intro g h;cases g with
  | nil=>exact h.elim
  | cons q _=>
   refine .cons ?_ (A h.2);obtain⟨t,y⟩:=q;have m:=h.1;cases t
   case rf t=>
    obtain⟨id,v,_,hb,i⟩:=m;obtain⟨b,k,hu⟩:=r.2 (FN hb).symm;obtain⟨arr,e,n,D⟩:=(S.blocks _ _ hb).1.var k;obtain⟨u',j,B⟩:=ZQ D;obtain⟨b2,C,l,e2,g1,g2,z⟩:=TW (J:=fun _ b=>b<w.heap.size) S (fun _ b hb=>hb.1.1) i (fun _ _ _ h=>h) B;exact⟨b,0,[u'],hu,⟨none,Hn n⟩,⟨b2,C,l,by rw[e2];rfl,g1,g2,z⟩,j ▸ Pj n⟩
   all_goals exact TW (J:=fun _ b=>b<w.heap.size) S (fun _ b hb=>hb.1.1) m (fun _ _ _ h=>h) r
def TG (S:Bt w0 X β s a w) {x:Cx} (D:x.w=w) (j:∀o b,(cx X w β (AR s.bk)).I o b->x.I o b) (m:∀o id b,id∈DJ c->live (AR s.bk) id->β id=some b->b<w.heap.size->x.I o b) (h:IE (AR s.bk) c d) (r:Bw (cx X w β (AR s.bk)) c v):Bw x d v:=by
 subst D;have u:∀o b,(cx X x.w β (AR s.bk)).I o b->x.I o b/\x.w.heap[b]? =x.w.heap[b]? :=fun o b hb=>⟨j o b hb,rfl⟩
 cases c with
 | Aj t id k off len=>
  obtain⟨l,hb,hle,rfl⟩:=h;obtain⟨base,cap,e,g,C,_,h3⟩:=PW S r hb hle;exact⟨base,cap,by rw[e],g,C,h3.imp (fun q=>q) fun⟨b,g1,g2,z,A,B⟩=>⟨b,_,A,m _ id b (by simp[DJ]) g1 g2 z,fun i y F=>let ⟨us,k1,k2⟩:=B i y F;⟨us,FY (w':=x.w) u _ _ _ k1,k2⟩⟩⟩
 | BU id k off=>obtain⟨rfl,t,y,hb,rfl⟩:=h;exact TW S j hb (fun b=>m _ id b (by simp[DJ])) r
 | IS f G=>
  obtain⟨us,e,r⟩:=r;rcases h with⟨H,g,rfl⟩ | rfl
  ·exact⟨us,e,xE S j r (fun id b n=>m _ id b n) g⟩
  rw[e];rfl
 | nil=>rcases h with rfl |⟨t,rfl⟩;exact r;rw[show v=_ from r];exact Ni
 | int | bool | fn | sl | GA | str=>obtain rfl:=h;exact ID u rfl r
 | _=>exact h.elim
def SF (S:Bt w0 X β s a w) {id k:Nat} (g:k=BP (AR s.bk) id) (h:Ji id k c d) (r:Bw (cx X w β (AR s.bk)) c v):Bw (EJ w (β id) (cx X w β (AR s.bk)).I) d v:=by
 cases c with
 |Aj|BU=>obtain⟨⟨rfl,rfl⟩,rfl⟩:=h;exact⟨⟨r.1.1,Nat.le_refl _⟩,fun _=>r.2 g⟩
 | nil=>rcases h with rfl |⟨t,rfl⟩;exact r;rw[show v=_ from r];exact Ni
 | int | bool | fn | sl | str=>obtain rfl:=h;exact ID (y:=EJ w (β id) (cx X w β (AR s.bk)).I) (fun _ b hb=>⟨hb,rfl⟩) rfl r
 | _=>exact h.elim
def sU (S:Bt w0 X β s a w) {id k:Nat} (m:k=BP (AR s.bk) id) (t:live (AR s.bk) id) (h:SG (AR s.bk) id k c d) (r:Bw (cx X w β (AR s.bk)) c v):Bw (EJ w (β id) (cx X w β (AR s.bk)).I) d v:=by
 cases c
 case BU i w' off=>
  rcases h with h |⟨⟨j,rfl⟩,o,hb,rfl⟩
  ·exact SF S m h r
  obtain⟨b,g,hu⟩:=r.2 (FN hb).symm;obtain⟨arr,e,q,u⟩:=(S.blocks _ _ hb).1.var g;obtain⟨u',l,n⟩:=ZQ u;exact⟨b,0,u',hu,⟨Hn q,fun e=>j (S.inj i id b ⟨_,hb,rfl⟩ t g e)⟩,⟨⟨n.1.1,Nat.le_refl _⟩,fun _=>n.2 m⟩,l ▸ Pj q⟩
 all_goals (refine SF S m ?_ r;exact h)
def Dl.BP {x:Cx} {id k:Nat} {b:BD} (h:Dl x id b):Dl x id (b.FZ k):=by cases b <;> exact h
def PT {b:BD} {k:Nat} (h:(b.FZ k).lone=true):b.live=true/\(b.FZ k).live=true/\k=0/\∀v cs,b= .var v cs->cs.all ET=true:=by
 cases b <;> simp_all [BD.lone,BD.FZ,BD.live]
def yQ {x y:Cx} {lo id k:Nat} {g:Option Nat} (hw:y.w=x.w) (b:y.β id=x.β 0) (h:x.cv 0=0) (l:y.cv id=k) (e:KO c=true) (r:Ha x lo g c v):Bw y (XZ id k c) v:=by
 cases c with
 | Aj t i j off len=>
  match i,j,e,r with
  | 0,0,_,r=>exact⟨⟨r.1.1,Nat.le_of_eq l.symm⟩,fun _=>by have:=r.2 h.symm;rwa [hw,b]⟩
 | _=>first | exact r | cases e
def iI:∀(l:List (Option BD)) (id:Nat) (b:BD),AR l id=some b->DH l id (some b)=l
 | [],_,_,h=>by simp[AR] at h
 | a::l,0,b,h=>by rw[DH,show a=some b from h]
 | a::l,n+1,b,h=>by rw[DH,iI l n b h]
def qk {d v:Nat} {r:AV} (h:r.all ET=true):NW d v r=r/\MW d v r=[]:=by
 have b:∀cs:List AC,cs.all ET=true->cs.map (cI d v)=cs/\Pd d v cs=[]:=fun cs=>by
  induction cs with
  | nil=>exact fun _=>⟨rfl,rfl⟩
  | cons c cs j=>
   intro h;rw[List.all_cons,Bool.and_eq_true] at h;obtain⟨k,l⟩:=j h.2;cases c <;> first | exact⟨congrArg (_:: ·) k,l⟩ | cases h.1
 refine⟨?_,(b _ (by rw[<-r.Od];exact h)).2⟩;cases r with
 | one c=>exact congrArg AV.one (List.cons.inj (b [c] (by simpa [AV.all] using h)).1).1
 | agg cs=>exact congrArg AV.agg (b cs h).1
 | BI xs=>
  refine congrArg AV.BI ((List.map_congr_left (g:=id) fun x i=>?_).trans (List.map_id xs));exact Prod.ext rfl (b x.2 (List.all_eq_true.1 h x i)).1
def xL (o:Oper) {c:Call} {x:Operand} (ho:o.op= .call c) (M:c.callee= .value x):Sound P (env P) TI o:=by
 intro w0 X β s a w S f h N Q hN;simp only[GY,ho,M] at h;have hx:=NP S x
 obtain⟨g,A,V,cap,aD,D,hU,h⟩:∃(g:FuncId) (A:List AV) (V:List Value) (cap:Array Value),a.eval x= .func (.func g) #[] cap/\Bc (C6 (cx X w β (AR s.bk))) A V/\c.args.map a.eval++cap=V.toArray/\Oc (env P) g A (DU o) (AR s.bk) (fun g=>g=f):=by
  have D:=PG (NP S) c.args.toList
  split at h <;> try exact h.elim
  all_goals rename_i he;rw[he] at hx
  ·exact⟨_,_,_,#[],hx.resolve_left nofun,D,Array.ext' AS,h⟩
  ·obtain⟨us,e,r⟩:=hx.resolve_left nofun;exact⟨_,_,_,us,e,D.append (r.map (S:=C6 _) (g:=fun q:(t:T)×el t=>AV.one (.DM q.1 q.2 0)) (p:=fun _=>true) (fun _ _ _ h=> .inr h) AS),Array.ext' AS,h⟩
  obtain⟨us,e,r⟩:=hx.resolve_left nofun;exact⟨_,_,_,us,e,D.append (r.map (S:=C6 _) (g:=fun p:Nat×Nat=>AV.one (.BU p.1 p.2 0)) (p:=fun _=>true) (fun _ _ _ h=> .inr h) AS),Array.ext' AS,h⟩
 have core:∀{fl:Bool} {B:List AV} {b0 b1:BD} {r:AV} {ob:Option Nat} (I:PI),Lx P fl g B b0 r b1->(b0.live=true\/ob=none)->(∀o b,I o b->b<w.heap.size/\ob≠some b)->(∀o b,(cx X w β (AR s.bk)).I o b->I o b)->Dl (EJ w ob I) 0 b0/\b0.short->Bc (C6 (EJ w ob I)) B V->
   (∀u G w',E0 w w' ob->RV (Ha (ES fl I w.heap.size w' ob G) w.heap.size G) r u->Dl (ES fl I w.heap.size w' ob G) 0 b1/\b1.short->∃ao,Bt w0 X ao (s.app o.dst f) (a.put o.dst u) w')->o.wp P a w N Q:=by
  intro fl B b0 b1 r ob I H C K h3 h4 h5 h6;obtain⟨fn,body,k1,k2,k3⟩:=H.1
  have Y:(execOp a.eval o).run P w= .ok (.enter g (c.args.map a.eval++cap)) w:=by
   simp [execOp, ho, resolve, M, aD, Deferred.ofValue, invoke, callFunc, k1, k3, show fn.name ≠ "runtime.NumGoroutine" by simpa using k2]
  unfold Oper.wp;rw[Y,Oper.upon_enter,hU];refine (H.2 w I ob V C K (S.cG.mono fun o b hb=>⟨h3 o b hb,rfl⟩) h4 h5).mono fun e w' ⟨u,G,he,F,q1,q2⟩=>?_
  obtain⟨ao,S'⟩:=h6 u G w' F q1 q2;subst he;exact hN _ _ _ S'
 have args:∀{Q:AC->AC->Prop} {m:List AV} {y:Cx},(∀c,(∀i∈DJ c,i∈DS A)->∀d v,Q c d->Bw (cx X w β (AR s.bk)) c v->Bw y d v)->(∀d,¬Q .Cb d)->Fy Q A m->Bc (C6 y) m V:=fun h hj ha=>Za h hj (fun _ h=>h) ha D
 have aa:∀{fl:Bool} {B:List AV} {r:AV} {rd:List Nat} (I:PI),Eo P fl g B r->(∀o b,(cx X w β (AR s.bk)).I o b->I o b)->(∀o b,I o b->b<w.heap.size)->(fl=false->∀o b,I o b->(cx X w β (AR s.bk)).I o b)->Bc (C6 (EJ w none I)) B V->
   ⟨NW (DU o) (BP (AR s.bk) (DU o)+1) r,MW (DU o) (BP (AR s.bk) (DU o)+1) r,rd⟩=f->o.wp P a w N Q:=by
  rintro fl B r rd I ⟨⟨hp,aC⟩,H⟩ aq ar ad ha rfl;refine core I H (.inr rfl) (fun o b hb=>⟨ar o b hb,nofun⟩) aq ⟨trivial,trivial⟩ ha fun u G w' F Y _=>?_
  rcases fM (DU o) (BP (AR s.bk) (DU o)+1) r.cells with⟨e,C⟩ |⟨t,l,n,hm,e⟩
  ·have aj:r.all ET=true:=AV.Qj.2 fun c M=>C c M (AV.Qj.1 hp c M)
   rw[(qk aj).1,show MW _ _ _=_ from e];refine⟨β,S.ext F fun hle=>RV.mono (S:=Bw (cx X w' β (AR s.bk))) (fun c v M q=>Po (x:=ES fl I w.heap.size w' none G) (fun o b hb=>⟨?_,rfl⟩) M q) aj Y⟩;rcases hb.1 with⟨q,q'⟩ | q
   ·exact (hle.I o b (ad q o b q')).1
   exact⟨⟨hb.2.1,fun id U e=>by have:=S.lt U e;omega⟩,S.fresh.1 o b (Nat.le_trans S.Gr.size q)⟩
  rw[show MW _ _ _=_ from e];obtain⟨u',hn,base,a6,_,_,_,hs,ai⟩:=((Y.mem aC) _ hm).resolve_left nofun
  by_cases af:DU o<s.bk.length\/o.dst=some (DU o)/\(none:Option Nat)=none
  case neg=>
   have hd:o.dst=none:=by
    cases hq:o.dst with
    | none=>rfl
    | some q=>exact absurd (.inr ⟨by simp[DU,hq],rfl⟩) af
   refine⟨β,?_⟩
   have:s.app o.dst ⟨NW (DU o) (BP (AR s.bk) (DU o)+1) r,[(DU o,.arr (BP (AR s.bk) (DU o)+1) t l)],rd⟩=s.app o.dst ⟨.one .Cb,[],rd⟩:=by
    simp only[St.app,GC,Le _ _ _ (Nat.le_of_not_lt fun h=>af (.inl h)),hd,Gx]
   rw[this,hd];exact S.ext F fun _=> .inl rfl
  refine S.write (o':=G) af hs F (.inl rfl) (.inl (Nat.lt_succ_self _)) (fun _ b hb=> .inr ?_) fun y hle hw hy hv hI=>?_
  ·rcases ai with⟨rfl,_⟩ |⟨b',_,_,rfl,h9,_⟩ <;> cases hb;exact h9
  have a7:∀o b,(ES fl I w.heap.size w' none G).I o b->y.I o b/\y.w.heap[b]? =w'.heap[b]? :=fun o b hb=>⟨hI o b hb.2.1 (hb.1.elim (fun q=> .inr ⟨(ad q.1 o b q.2).2,fun j _=>(ad q.1 o b q.2).1.2 j⟩) .inl) fun _=>hb.2.2.2,by rw[hw]⟩
  refine⟨ai.imp (fun q=>⟨hy.trans q.1,q.2.1⟩) fun⟨b,arr,e,q1,_,_,q4,_,q6⟩=>⟨b,arr,e,hy.trans q1,by rw[hw];exact q4,fun i z hz=>let ⟨us,k1,k2⟩:=q6 i z hz;⟨us,FY a7 _ _ _ k1,by rw[hw];exact k2⟩⟩,RV.map rfl (fun c v M q=>?_) hp Y⟩;cases c with
  | own t l n=>
   obtain⟨rfl,base,a6,rfl,C,K,_,h3⟩:=q;refine⟨⟨rfl,Nat.le_of_eq hv.symm⟩,fun _=>⟨base,a6,rfl,C,K,nofun,?_⟩⟩;exact h3.imp (·.2.2) fun⟨b,arr,e,q1,_,q3,q4,q5,_⟩=>⟨b,arr,e,hy.trans q1,by simpa using q3,by rw[hw];exact q4,by simpa using q5⟩
  | _=>first | exact Po a7 rfl q | cases M
 have an:∀{id:Nat} {CZ:BD},AR s.bk id=some CZ->id<s.bk.length:=fun hb=>Nat.lt_of_not_le fun h=>by rw[LO _ _ h] at hb;cases hb
 have a8:∀{B:List AV} {r r':AV} {id:Nat} {CZ b1:BD} (I:PI),Lx P false g B (CZ.FZ 0) r b1->AR s.bk id=some CZ->(CZ.FZ 0).lone=true->b1.live=true->(∀o b,(cx X w β (AR s.bk)).I o b->I o b)->(∀o b,I o b->b<w.heap.size/\β id≠some b)->Bc (C6 (EJ w (β id) I)) B V->
   (∀(y:Cx) (u:Value) (G:Option Nat) (w':World),y.w=w'->y.β id=β id->y.cv id=CZ.BP->(∀o b,((false=false/\(cx X w β (AR s.bk)).I o b)\/w.heap.size<=b)/\b<w'.heap.size/\β id≠some b->y.I o b)->RV (Ha (ES false I w.heap.size w' (β id) G) w.heap.size G) r u->Dl (ES false I w.heap.size w' (β id) G) 0 b1->Dl y id b1/\C6 y r' u)->
   s.app o.dst ⟨r',[(id,b1.FZ CZ.BP)],[]⟩=s.app o.dst f->o.wp P a w N Q:=by
  intro B r r' id CZ b1 I H hb C K h3 h4 ha h5 hf;obtain⟨U,a2,_,M⟩:=PT C;have a1:live (AR s.bk) id:=⟨_,hb,U⟩;have hI:∀o b,(cx X w β (AR s.bk)).I o b->(EJ w (β id) I).I o b/\w.heap[b]? =w.heap[b]? :=fun o b hb=>⟨h3 o b hb,rfl⟩
  refine core I H (.inl a2) h4 h3 ⟨(Dl.to (x:=cx X w β (AR s.bk)) (y:=EJ w (β id) I) (k:=0) rfl (fun _ _ _=>rfl) (fun v cs e us q=>q.imp (fun _ _=>ID hI) (M v cs e)) (fun _ _ _ _=>FY (w':=w) hI _) (S.blocks id CZ hb).1).BP,by have:=(S.blocks id CZ hb).2;cases CZ <;> exact this⟩ ha fun u G w' F Y hB=>?_
  rw[<-hf];refine S.write (.inl (an hb)) (by have:=hB.2;cases b1 <;> exact this) F (.inr ⟨rfl,a1⟩) (o':=β id) (.inr ⟨by rw[FN hb];cases b1 <;> rfl,rfl,fun _=>a1⟩) (fun _ b h=> .inl ⟨h,a1⟩) fun y hle hw hy hv hI=>?_
  obtain⟨k1,k2⟩:=h5 y u G w' hw hy (by rw[hv];cases b1 <;> rfl) (fun o b hb=>hI o b hb.2.1 (hb.1.elim (fun q=> .inr ⟨q.2.2,fun j _=>q.2.1.2 j⟩) .inl) fun _=>hb.2.2) Y hB.1;exact⟨k1.BP,k2⟩
 have Z:∀{B:List AV} {r:AV} {id:Nat} {CZ b1:BD},Bp P g B (CZ.FZ 0) r b1->AR s.bk id=some CZ->Bc (C6 (EJ w (β id) (cx X w β (AR s.bk)).I)) B V->s.app o.dst ⟨r,[(id,b1.FZ CZ.BP)],[]⟩=s.app o.dst f->o.wp P a w N Q:=by
  rintro B r id CZ b1 ⟨⟨hp,U,av⟩,H⟩ hb ha hf;have e1:b1=b1.FZ 0:=by cases b1 <;> simp_all [BD.lone,BD.FZ]
  obtain⟨aw,_,_,M⟩:=PT (e1 ▸ av);refine a8 _ H hb U aw (fun _ _ h=>h) (fun _ b W=>⟨W.1.1,W.1.2 id ⟨_,hb,(PT U).1⟩⟩) ha (fun y u G w' hw hy hv hI Y hB=>?_) hf;subst hw;have ab:∀o b,(ES false (cx X w β (AR s.bk)).I w.heap.size y.w (β id) G).I o b->y.I o b/\y.w.heap[b]? =y.w.heap[b]? :=fun o b hb=>⟨hI o b ⟨hb.1,hb.2.1,hb.2.2.1⟩,rfl⟩
  exact⟨Dl.to (x:=ES false (cx X w β (AR s.bk)).I w.heap.size y.w (β id) G) (id:=0) hy (fun _ _ _=>rfl) (fun v cs e us q=>q.imp (fun _ _=>ID ab) (M v cs e)) (fun _ _ _ _=>FY ab _) hB,RV.mono (S:=Bw y) (fun _ _ M q=>Po ab M q) hp Y⟩
 have O:∀o b,(cx X w β (AR s.bk)).I o b->b<w.heap.size:=fun _ b hb=>hb.1.1
 rcases h with⟨B,r,C,K,h⟩ |⟨B,r,C,K,h⟩ | h |⟨id,CZ,B,r,C,K,h⟩ |⟨id,CZ,B,r,C,K,h⟩ | h |⟨id,CZ,B,r,b1,C,K,h⟩ |⟨l2,B,r,C,K,h⟩ |⟨id,CZ,B,r,b1,C,K,h⟩ |⟨t0,B,r,C,K,h⟩
 ·exact aa _ (K ()) (fun _ _ h=>h) O (fun _ _ _ h=>h) (args (fun c _ d v h q=>ID (x:=cx X w β (AR s.bk)) (fun _ b hb=>⟨hb,rfl⟩) (dQ h).2 (V8 h q)) (fun _ h=>h) (C ())) h
 ·exact aa (fun _ b=>b<w.heap.size) (K ()) O (fun _ _ h=>h) nofun (args (fun c _ d v h q=>TG S (x:=EJ w none fun _ b=>b<w.heap.size) rfl O (fun _ _ _ _ _ _ h=>h) h q) (fun _ h=>h) (C ())) h
 ·split at h <;> try exact h.elim
  rename_i c0 rest
  split at h <;> try exact h.elim
  rename_i id vv ak
  split at h <;> try exact h.elim
  rename_i CZ hb
  split at h <;> try exact h.elim
  rename_i al
  subst al;obtain⟨B,r,b1,C,K,h⟩:=h;obtain⟨ay,C⟩:=C ();obtain⟨⟨U,H⟩,ae,ax⟩:=K ();obtain _ |⟨a5,aA⟩:=D
  have a1:live (AR s.bk) id:=⟨_,hb,(PT U).1⟩;have hI:∀o b,(cx X w β (AR s.bk)).I o b->b<w.heap.size/\β id≠some b:=fun _ b hb=>⟨hb.1.1,hb.1.2 id a1⟩
  refine a8 (fun _ b=>b<w.heap.size/\β id≠some b) H hb U (by cases b1 <;> first | rfl | cases ae) hI (fun _ _ h=>h) (.cons (.inr ?_) (Za (S:=Bw (EJ w (β id) fun _ b=>b<w.heap.size/\β id≠some b)) (L:=DS rest) (fun c hL d v h q=>TG S (x:=EJ w (β id) fun _ b=>b<w.heap.size/\β id≠some b) rfl hI (fun _ i b hi a2 W ag=>⟨ag,fun e=>ay (S.inj i id b a2 a1 W e ▸ hL i hi)⟩) h q) (fun _ h=>h) (fun _ h=>h) C aA)) (fun y u G w' hw hy hv _ Y hB=>?_) (by subst h;rfl)
  ·have a5:=a5.resolve_left fun e=>by subst e;cases ak
   cases c0 <;> first | cases ak | skip
   all_goals exact⟨⟨a5.1.1,Nat.le_refl _⟩,fun _=>a5.2 (FN hb).symm⟩
  subst hw;exact⟨Dl.to (x:=ES false _ w.heap.size y.w (β id) G) (id:=0) hy (fun _ _ _=>rfl) (fun v cs e=>by subst e;cases ae) (fun v t l e _ _=>gD t (by subst e;exact ae) _ _) hB,RV.map rfl (fun c v M q=>yQ (x:=ES false _ w.heap.size y.w (β id) G) (y:=y) (id:=id) rfl hy rfl hv M q) ax Y⟩
 ·obtain⟨hb,hle⟩:=C ();have e1:(CZ.FZ 0).FZ CZ.BP=CZ:=by cases CZ <;> rfl
  exact Z (K ()) hb (args (fun c _ d v h q=>SF S (FN hb).symm h q) (fun _ h=>h) hle) (by subst h;simp only[St.app,GC,e1,iI _ _ _ hb])
 ·obtain⟨⟨h0,hb,ah⟩,aB⟩:=C ();obtain⟨⟨_,H⟩,az⟩:=K ()
  refine core (fun o b=>b<w.heap.size/\X.A o b/\∀k,k≠id->live (AR s.bk) k->β k≠some b) H (.inr rfl) (fun _ b hb=>⟨hb.1,nofun⟩) (fun _ b hb=>⟨hb.1.1,hb.2,fun k _=>hb.1.2 k⟩) ⟨trivial,trivial⟩
   (args (fun c M d v h q=>TG S (x:=EJ w none fun o b=>b<w.heap.size/\X.A o b/\∀k,k≠id->live (AR s.bk) k->β k≠some b) rfl (fun _ b hb=>⟨hb.1.1,hb.2,fun k _=>hb.1.2 k⟩) (fun c i b hi U W ag=>by
    obtain rfl:i=id:=by simpa using List.all_eq_true.1 ah i (M i hi)
    exact⟨ag,(S.own i b U W).elim (S.fresh.1 c b) fun h=>absurd h.2 h0,fun k hk a2 e=>hk (S.inj k i b a2 U e W)⟩) h q) (fun _ h=>h) aB) fun u G w' F Y _=>?_
  subst h;exact S.write (o':=β id) (.inl (an hb)) trivial F (.inl rfl) (.inr ⟨(FN hb).symm,rfl,nofun⟩) nofun fun y hle hw hy hv hI=>⟨trivial,RV.mono (S:=Bw y) (fun _ _ M q=>Po (x:=ES false _ w.heap.size w' none G) (fun o b hb=>⟨hI o b hb.2.1 (hb.1.elim (fun q=> .inr q.2.2) .inl) nofun,by rw[hw];rfl⟩) M q) az Y⟩
 ·exact h.elim
 ·obtain⟨hb,hle⟩:=C ();exact Z (K ()) hb (args (fun c _ d v h q=>SF S (FN hb).symm h q) (fun _ h=>h) hle) (by subst h;rfl)
 ·exact aa (fun _ b=>b<w.heap.size) (K ()) O (fun _ _ h=>h) nofun (args (fun c _ d v h q=>by
   cases c
   case IS f ps=>obtain⟨qs,C,rfl⟩:=h;obtain⟨us,e,q⟩:=q;exact⟨us,e,xF S q C⟩
   all_goals (refine TG S (x:=EJ w none fun _ b=>b<w.heap.size) rfl O (fun _ _ _ _ _ _ h=>h) ?_ q;exact h)) (fun _ h=>h) (C ())) h
 ·obtain⟨hb,hle⟩:=C ();exact Z (K ()) hb (args (fun c _ d v h q=>sU S (FN hb).symm ⟨_,hb,(PT (K ()).1.2.1).1⟩ h q) (fun _ h=>h) hle) (by subst h;rfl)
 obtain⟨⟨_,H⟩,au⟩:=K ()
 refine core (fun o b=>(cx X w β (AR s.bk)).I o b\/(o=some t0/\b<w.heap.size)) H (.inr rfl) (fun o b hb=>⟨hb.elim (O o b) (·.2),nofun⟩) (fun _ _ h=> .inl h) ⟨trivial,trivial⟩
  (args (fun c M d v h q=>?_) (fun d h=>h) (C ())) fun u G w' F Y _=>?_
 ·by_cases U:∃t id k off len,c= .Aj t id k off len
  ·obtain⟨t,id,k,off,len,rfl⟩:=U;obtain⟨rfl,l,hb,hle,rfl⟩:=h;obtain⟨base,cap,e,C,K,_,h3⟩:=PW S q hb hle;exact⟨base,cap,by rw[e],C,K,h3.imp (fun q=>q) fun⟨b,g1,g2,g3,g4,g5⟩=>⟨b,_,g4,.inr ⟨rfl,g3⟩,fun i y hy=>let ⟨us,k1,k2⟩:=g5 i y hy;⟨us,FY (w':=w) (fun _ _ h=>⟨.inl h,rfl⟩) _ _ _ k1,k2⟩⟩⟩
  have h':Gc c d:=by cases c <;> first | exact h | exact absurd ⟨_,_,_,_,_,rfl⟩ U
  exact ID (x:=cx X w β (AR s.bk)) (fun _ b hb=>⟨.inl hb,rfl⟩) (dQ h').2 (V8 h' q)
 subst h;refine⟨β,S.ext F fun hle=>RV.mono (S:=Bw (cx X w' β (AR s.bk))) (fun c v M q=>ux (x:=ES false _ w.heap.size w' none G) (fun o b ho hb=>⟨?_,rfl⟩) M q) au Y⟩;rcases hb.1 with⟨_,q | q⟩ | q
 ·exact (hle.I o b q).1
 ·exact absurd q.1 ho
 exact⟨⟨hb.2.1,fun id U e=>by have:=S.lt U e;omega⟩,S.fresh.1 o b (Nat.le_trans S.Gr.size q)⟩
end
def xP {P:Program} {TI:TypeId->Info} (i:∀t,It P t (TI t)) (o:Oper) (j:O4 o=true):Sound P (env P) TI o:=by
 by_cases h:∃c x,o.op= .call c/\c.callee= .value x
 ·obtain⟨c,x,b,g⟩:=h;exact xL o b g
 exact xQ i j fun c x b g=>h ⟨c,x,b,g⟩
def ba {pl:List (Nat×Nat×Bool)} {e b:Operand->AV}:∀{g:List (Nat×Operand)} {cs:List AC},(∀p∈g,e p.2=b p.2)->Ja pl e g cs=Ja pl b g cs
 | [],_,_=>rfl
 | (i,x)::r,cs,h=>by
  have j:e x=b x:=h (i,x) AS;have l:=fun cs=>ba (pl:=pl) (cs:=cs) fun p k=>h p (List.mem_cons_of_mem _ k)
  simp only[Ja,j,l]
def nr {E:Env} {TI:TypeId->Info} {o:Oper} {d:Nat} {e b:Operand->AV} {bk:Nat->Option BD} {K:D4->Prop} (he:∀x∈o.op.operands,e x=b x) (h:GY E TI o d e bk K):GY E TI o d b bk K:=by
 unfold GY at h ⊢;cases m:o.op <;> simp only[m] at h ⊢ <;> (try exact h.elim) <;> rw[m] at he <;> simp only[Op.operands] at he
 case build t ps=>
  have g:∀cs pl,Ja pl e ps.toList cs=Ja pl b ps.toList cs:=fun cs pl=>ba fun p g=>he p.2 (by simpa using ⟨p.1,Array.mem_toList_iff.1 g⟩)
  simp only[<-g];exact h
 case buildSlice t n ps=>
  have g:∀p∈ps.toList,e p.2=b p.2:=fun p g=>he p.2 (by simpa using ⟨p.1,Array.mem_toList_iff.1 g⟩)
  have j:(ps.toList.map fun p=>e p.2)=ps.toList.map fun p=>b p.2:=List.map_congr_left g
  have r:(ps.toList.all fun p=>(e p.2).full)=ps.toList.all fun p=>(b p.2).full:=by rw[Bool.eq_iff_iff,List.all_eq_true,List.all_eq_true];exact forall₂_congr fun p h=>by rw[g p h]
  have h3:(ps.toList.map fun p=>(p.1,(e p.2).cs))=ps.toList.map fun p=>(p.1,(b p.2).cs):=List.map_congr_left fun p h=>by rw[g p h]
  rw[<-j,<-r,<-h3];exact h
 case slice t x lo hi mx=>
  have j:∀y:Option Operand,(∀z,y=some z->e z=b z)->y.map e=y.map b:=fun y u=>by cases y <;> simp;exact u _ rfl
  rw[<-he x AS,<-j lo (fun z k=>he z (by simp[k])),<-j hi (fun z k=>he z (by simp[k])),<-j mx (fun z k=>he z (by simp[k]))];exact h
 case makeFunc fn first cap=>
  rw[<-show cap.toList.map e=cap.toList.map b from List.map_congr_left fun x q=>he x (by simp_all)];exact h
 case call c=>
  have i:c.args.toList.map e=c.args.toList.map b:=List.map_congr_left fun x q=>he x (by simp[Call.operands];exact .inr (by simpa using q))
  cases l:c.callee <;> simp only[l] at h ⊢ <;> rw[<-i]
  ·rw[<-he _ (by simp[Call.operands,l])];exact h
  exact h
 all_goals (try simp at he);(try simp only[he] at h);exact h
section
variable {P:Program} {E:Env} {TI:TypeId->Info} {w0 w:World} {X:WX} {β:Nat->Option Nat} {s:St} {a:Act} {all:List Oper} {o:Oper} {f:D4}
def LS (E:Env) (TI:TypeId->Info) (all:List Oper) (o:Oper) (f:D4) (s:St):Prop:=
 match o.guard with
 | none=>GY E TI o (DU o) (ev s.sl) (AR s.bk) (fun g=>g=f)
 | some (j,w)=>∃g,LA all j=some g/\
  ((nth s.sl g= .one (.bool w)/\GY E TI o (DU o) (ev s.sl) (AR s.bk) (fun g=>g=f))\/
    ((nth s.sl g= .one (.bool (!w))\/nth s.sl g= .BI [])/\f=⟨.BI [],[],[]⟩))
def Li (f:D4):List Nat×List Nat:=(f.rd,f.ws.map (·.1))
structure OM (E:Env) (TI:TypeId->Info) (all r:List Oper) (s:St) (φ:Nat->D4) (σ:Nat->St):Prop where
 zero:σ 0=s
 step:∀j o,r[j]? =some o->LS E TI all o (φ j) (σ j)/\σ (j+1)=(σ j).app o.dst (φ j)
def zM {N:Act->World->Prop} (h:o.wp P a w N (fun _ _ _=>False)):∃b w',N b w':=by
 unfold Oper.wp at h
 generalize (execOp a.eval o).run P w=r at h
 unfold Oper.upon at h
 split at h
 ·exact⟨_,_,h⟩
 ·exact⟨_,_,h⟩
 ·exact⟨_,_,h⟩
 ·obtain⟨e,w',g,hR,_⟩:=h [];cases e with
  | returned v=>exact⟨_,_,hR⟩
  | panicked _=>exact hR.elim
  | outgrown=>obtain⟨_,_,h⟩:=hR;exact h.elim
 ·obtain⟨v,w',hR,_⟩:=h default [];exact⟨_,_,hR⟩
 ·exact h.elim
 exact h.elim
def XC {ops:Array Oper} (t:Sound P E TI o) (S:Bt w0 X β s a w) (h:LS E TI ops.toList o f s)
  {N:Act->World->Prop} {Q:Exit->Act->World->Prop} (m:∀n q w',Bt w0 X n (s.app o.dst f) q w'->N q w'):
  if Region.wanted o (yielded ops a.tmps) then o.wp P a w N Q else N (a.put o.dst undef) w:=by
 unfold LS at h
 split at h
 ·rename_i k
  simp only[Region.wanted,k,if_true];exact t S h m
 rename_i j want k
 obtain⟨g,u,h3⟩:=h
 have l:yielded ops a.tmps j=match a.tmps.getD g undef with | .bool b=>some b | _=>none:=by
  simp only[yielded,show (ops[j]?).bind (·.dst)=some g by simpa [LA] using u,Option.bind_some,Array.getD_eq_getD_getElem?];cases a.tmps[g]? with
  | none=>rfl
  | some v=>cases v <;> rfl
 have hb:∀{b:Bool},nth s.sl g= .one (.bool b)->yielded ops a.tmps j=some b:=fun {b} e=>by
  have:=S.Ij g;rw[e] at this;rw[l,show a.tmps.getD g undef= .bool b from this.resolve_left nofun]
 rcases h3 with⟨i,h3⟩ |⟨i,rfl⟩
 ·simp only[Region.wanted,k,hb i,beq_self_eq_true,if_true];exact t S h3 m
 have l:(yielded ops a.tmps j==some want)=false:=by
  rcases i with i | i
  ·rw[hb i];cases want <;> rfl
  have r:=S.Ij g;rw[i] at r;obtain⟨arr,z,_⟩:=r;rw[l,z];rfl
 simp only[Region.wanted,k,l,Bool.false_eq_true,if_false];exact m β _ w (S.val ⟨#[],rfl,.nil⟩)
def ik (S:Bt w0 X β s a w) (x:Operand) (t:T) (l:List (el t)) (h:ev s.sl x= .one (.sl t l)):l.length<=140737488355328:=by
 have b:=NP S x;rw[h] at b;obtain⟨_,_,_,_,g,_⟩:=b.resolve_left nofun;exact g
def gV {ops:Array Oper} {draw:Bool} {Q:St->Prop}:∀{r:List Oper} {tr:Tr} {β:Nat->Option Nat} {s:St} {a:Act} {w:World},(∀o∈r,Sound P E TI o)->Bt w0 X β s a w->JF E TI ops.toList draw r tr Q s->
  ∃φ σ,OM E TI ops.toList r s φ σ/\Q (σ r.length)/\(draw=true->LQ ops.toList (tr.reverse++(List.range r.length).map fun j=>Li (φ j))=true)
 | [],tr,β,s,a,w,_,_,h=>by
  refine⟨fun _=>⟨.BI [],[],[]⟩,fun _=>s,⟨rfl,AS⟩,?_⟩;cases draw
  ·exact⟨h,nofun⟩
  exact⟨h.2,fun _=>by simpa using h.1 ()⟩
 | o::r,tr,β,s,a,w,t,S,h=>by
  have go:∀f,LS E TI ops.toList o f s->JF E TI ops.toList draw r (Li f::tr) Q (s.app o.dst f)->
    ∃φ σ,OM E TI ops.toList (o::r) s φ σ/\Q (σ (r.length+1))/\(draw=true->LQ ops.toList (tr.reverse++(List.range (r.length+1)).map fun j=>Li (φ j))=true):=by
   intro f i k;have:=XC (N:=fun l w'=>∃b,Bt w0 X b (s.app o.dst f) l w') (Q:=fun _ _ _=>False) (t o AS) S i fun b l w' h=>⟨b,h⟩
   obtain⟨l,w',b,u⟩:∃l w' b,Bt w0 X b (s.app o.dst f) l w':=by
    split at this
    ·exact zM this
    exact⟨_,_,this⟩
   obtain⟨φ,σ,g1,g2,z⟩:=gV (fun o B=>t o (by simp[B])) u k;refine⟨fun | 0=>f | j+1=>φ j,fun | 0=>s | j+1=>σ j,⟨rfl,fun j o' q=>?_⟩,g2,fun A=>?_⟩
   ·cases j with
    | zero=>cases q;exact⟨i,g1.zero⟩
    | succ j=>exact g1.step j o' q
   rw[List.range_succ_eq_map,List.map_cons,List.map_map];have:=z A;rwa [List.reverse_cons,List.append_assoc] at this
  have out:∀{K:D4->Prop},GY E TI o (DU o) (ev s.sl) (AR s.bk) K->∃f,K f/\GY E TI o (DU o) (ev s.sl) (AR s.bk) (fun g=>g=f):=fun h=>let ⟨f,i,k⟩:=ZX (ik S) h;⟨f,i,k _ _ (fun _ _=>rfl) rfl⟩
  unfold JF at h
  split at h
  ·rename_i m
   obtain⟨f,k,i⟩:=out h;exact go f (by unfold LS;rw[m];exact i) k
  rename_i j want m
  split at h
  ·exact h.elim
  rename_i g n
  have go':∀f,((nth s.sl g= .one (.bool want)/\GY E TI o (DU o) (ev s.sl) (AR s.bk) (fun g=>g=f))\/((nth s.sl g= .one (.bool (!want))\/nth s.sl g= .BI [])/\f=⟨.BI [],[],[]⟩))->_->_:=fun f h=>go f (by unfold LS;rw[m];exact⟨g,n,h⟩)
  split at h <;> try exact h.elim
  ·obtain⟨f,k,i⟩:=out h;exact go' f (.inl ⟨‹_›,i⟩) k
  ·obtain⟨f,k,i⟩:=out h;exact go' f (.inl ⟨‹_›,i⟩) k
  ·exact go' _ (.inr ⟨.inl ‹_›,rfl⟩) h
  ·exact go' _ (.inr ⟨.inl ‹_›,rfl⟩) h
  exact go' _ (.inr ⟨.inr ‹_›,rfl⟩) h
def kE {ops:Array Oper} {Q:Exit->Act->World->Prop} {φ:Nat->D4} {σ:Nat->St} (i:∀o∈ops.toList,Sound P E TI o) (g:OM E TI ops.toList ops.toList s φ σ) (b:∀β a w,Bt w0 X β (σ ops.size) a w->Q .normal a w):
  ∀(n k:Nat) {β:Nat->Option Nat} {a:Act} {w:World},k+n=ops.size->Bt w0 X β (σ k) a w->wpOps P ops Q (List.range' k n) a w
 | 0,k,β,a,w,h,S=>b β a w (by rw[<-h];exact S)
 | n+1,k,β,a,w,h,S=>by
  have l:ops[k]? =some ops[k]:=Array.getElem?_eq_getElem AA;obtain⟨m,q⟩:=g.step k ops[k] AS;have:=XC (Q:=Q) (N:=wpOps P ops Q (List.range' (k+1) n)) (i ops[k] AS) S m fun r t w' j=>kE i g b n (k+1) AA (q ▸ j)
  simp only[List.range'_succ,wpOps,l]
  split
  ·rename_i hw;rw[if_pos hw] at this;exact .inl this
  rename_i hw;rw[if_neg hw] at this;exact this
def FJ {α:Type} (m:Nat->Bool) (u:Nat->Option α) (d:α):Nat->α
 | 0=>d
 | n+1=>if m n then (u n).getD (FJ m u d n) else FJ m u d n
def PX {α:Type} {m m':Nat->Bool} {u:Nat->Option α} {d:α}:∀{n:Nat},(∀j,j<n->u j≠none->m j=m' j)->FJ m u d n=FJ m' u d n
 | 0,_=>rfl
 | n+1,h=>by
  rw[FJ,FJ,PX fun j b=>h j AA];cases hu:u n with
  | none=>simp
  | some v=>rw[h n AA (by simp[hu])]
def dg {α:Type} {u:Nat->Option α} {d:α} {i:Nat}:∀{n:Nat},i<=n->FJ (fun j=>decide (j<i)) u d n=FJ (fun _=>true) u d i
 | 0,h=>by obtain rfl:i=0:=AA;rfl
 | n+1,h=>by
  rcases Nat.lt_or_ge n i with b | b
  ·obtain rfl:i=n+1:=AA
   exact PX fun j g _=>by simp;omega
  rw[FJ,if_neg (by simp;omega),dg b]
def WI {α:Type} {m:Nat->Bool} {u:Nat->Option α} {d v:α} {i:Nat} (hm:m i=true) (hu:u i=some v):∀{n:Nat},i<n->(∀j,i<j->j<n->m j=true->u j=none)->FJ m u d n=v
 | n+1,l,h=>by
  rw[FJ]
  by_cases k:n=i
  ·subst k;rw[if_pos hm,hu];rfl
  have g:=WI (d:=d) hm hu (n:=n) AA fun j b h3=>h j b AA
  split
  ·rename_i b;rw[h n AA AA b];exact g
  exact g
def uS (ops:List Oper) (φ:Nat->D4) (n x j:Nat):Option AV:=match LA ops j with | some q=>if q=x/\x<n then some (φ j).v else none | none=>none
def wr:List (Nat×BD)->Nat->Option BD
 | [],_=>none
 | w::r,x=>match wr r x with | some b=>some b | none=>if w.1=x then some w.2 else none
def uB (φ:Nat->D4) (n x j:Nat):Option (Option BD):=if x<n then (wr (φ j).ws x).map some else none
def YA:∀{ws:List (Nat×BD)} {x:Nat},x ∉ ws.map (·.1)->wr ws x=none
 | [],_,_=>rfl
 | w::r,x,h=>by
  rw[List.map_cons,List.mem_cons,not_or] at h;rw[wr,YA h.2,if_neg (Ne.symm h.1)]
def XM:∀(ws:List (Nat×BD)) (l:List (Option BD)),(GC ws l).length=l.length
 | [],_=>rfl
 | p::ws,l=>by rw[GC,XM ws,Gu]
def XL:∀(ws:List (Nat×BD)) (l:List (Option BD)) (x:Nat),AR (GC ws l) x=if x<l.length then ((wr ws x).map some).getD (AR l x) else AR l x
 | [],l,x=>by simp[GC,wr]
 | w::r,l,x=>by
  rw[GC,XL r,Gu]
  by_cases g:x<l.length
  ·simp only[g,if_true,wr];cases wr r x with
   | some b=>rfl
   | none=>
    by_cases h:w.1=x
    ·subst h;simp[LP _ _ _ g,Gh]
    by_cases hw:w.1<l.length
    ·simp[h,LP _ _ _ hw,Gi (Ne.symm h)]
    simp[h,Le l w.1 (some w.2) AA]
  rw[if_neg g,if_neg g,LO _ _ (by rw[Gu];omega),LO _ _ AA]
def Ks {d:Option Nat} {x:Nat}:(s.app d f).sl.length=s.sl.length/\(s.app d f).bk.length=s.bk.length/\nth (s.app d f).sl x=(if d=some x/\x<s.sl.length then f.v else nth s.sl x)/\
  AR (s.app d f).bk x=if x<s.bk.length then ((wr f.ws x).map some).getD (AR s.bk x) else AR s.bk x:=by
 cases d with
 | none=>exact⟨rfl,XM _ _,by simp[St.app,Gx],XL _ _ _⟩
 | some q=>exact⟨Gu ..,XM _ _,by simp only[St.app,Gx,Nk,Option.some.injEq];rcases Decidable.em (x=q) with rfl | h;rfl;rw[if_neg fun e=>h e.1,if_neg fun e=>h e.1.symm],XL _ _ _⟩
def Made (ops:List Oper) (φ:Nat->D4) (s0 s:St) (m:Nat->Bool) (n:Nat):Prop:=
 s.sl.length=s0.sl.length/\s.bk.length=s0.bk.length/\∀x,nth s.sl x=FJ m (uS ops φ s0.sl.length x) (nth s0.sl x) n/\AR s.bk x=FJ m (uB φ s0.bk.length x) (AR s0.bk x) n
def dZ:∀{l l':List AV},l.length=l'.length->(∀x,nth l x=nth l' x)->l=l'
 | [],[],_,_=>rfl
 | _::_,_::_,h,h'=>congr (congrArg List.cons (h' 0)) (dZ (Nat.succ.inj h) fun x=>h' (x+1))
def db:∀{l l':List (Option BD)},l.length=l'.length->(∀x,AR l x=AR l' x)->l=l'
 | [],[],_,_=>rfl
 | _::_,_::_,h,h'=>congr (congrArg List.cons (h' 0)) (db (Nat.succ.inj h) fun x=>h' (x+1))
def SQ {φ:Nat->D4} {σ:Nat->St} (b:OM E TI all all s φ σ):∀j,j<=all.length->Made all φ s (σ j) (fun _=>true) j
 | 0,_=>⟨by rw[b.zero],by rw[b.zero],fun x=>by rw[b.zero];exact⟨rfl,rfl⟩⟩
 | j+1,k=>by
  obtain⟨g,h,h3⟩:=SQ b j AA;obtain⟨_,i⟩:=b.step j all[j] AS;rw[i];refine⟨(Ks (x:=0)).1.trans g,(Ks (x:=0)).2.1.trans h,fun x=>⟨?_,?_⟩⟩
  ·rw[Ks.2.2.1,(h3 x).1,g,FJ,if_pos rfl,uS,LA,List.getElem?_eq_getElem AA]
   show _=Option.getD (match all[j].dst with | some q=>_ | none=>_) _
   cases all[j].dst <;> simp
   split <;> simp_all [eq_comm]
  rw[Ks.2.2.2,(h3 x).2,h,FJ,if_pos rfl,uB]
  split <;> rfl
def JK:List Bool->Nat
 | []=>0
 | b::l=>(if b then 0 else 1)+JK l
def jm:∀(l:List Bool) (i:Nat),l[i]? =some false->JK (l.set i true)+1=JK l
 | [],_,h=>by simp at h
 | b::l,0,h=>by cases h;simp[JK];omega
 | b::l,i+1,h=>by have:=jm l i (by simpa using h);simp[JK];omega
def jn:∀(l:List Bool),JK l=0->∀j,j<l.length->l[j]? =some true
 | [],_,j,h=>by simp at h
 | b::l,h,0,_=>by cases b <;> simp[JK] at h ⊢
 | b::l,h,j+1,g=>by simpa using jn l (by simp[JK] at h;exact h.2) j (by simpa using g)
def Ur:∀(r:List Oper) (acc:List (List Nat)) (k:Nat),k<acc.length->(H2 r acc).getD k []=acc.getD k []
 | [],_,_,_=>rfl
 | o::r,acc,k,h=>by
  rw[H2,Ur r _ k (by simp;omega)];simp[List.getD_eq_getElem?_getD,List.getElem?_append_left h]
def Us:∀(r:List Oper) (acc:List (List Nat)) (j:Nat) (o:Oper),r[j]? =some o->∀i∈(H2 r acc).getD (acc.length+j) [],∃k∈GX o,i=k\/i∈(H2 r acc).getD k []
 | [],_,_,_,h=>by simp at h
 | o::r,acc,0,o',h=>by
  cases h;intro i b;rw[H2,Nat.add_zero,Ur r _ acc.length AS] at b;simp only[List.getD_eq_getElem?_getD,List.getElem?_concat_length,Option.getD_some] at b;obtain⟨k,g,b⟩:=List.mem_flatMap.1 b;refine⟨k,g,(List.mem_cons.1 b).imp_right fun b=>?_⟩;rcases Nat.lt_or_ge k acc.length with h' | h'
  ·rw[H2,Ur r _ k (by simp;omega)];simpa [List.getD_eq_getElem?_getD,List.getElem?_append_left h'] using b
  simp[List.getElem?_eq_none h'] at b
 | o::r,acc,j+1,o',h=>fun i b=>Us r (acc++[(GX o).flatMap fun j=>j::acc.getD j []]) j o' (by simpa using h) i (by
  rw[List.length_append,List.length_singleton,Nat.add_assoc,Nat.add_comm 1];exact b)
def O3 {a b:List Nat} (h:O1 a b=true):∀x∈a,x ∉ b:=fun x g=>by simpa using List.all_eq_true.1 h x g
def pW {ops:Array Oper} {φ:Nat->D4} {σ:Nat->St} {s0:St} {Q:Exit->Act->World->Prop} (hc:OM E TI ops.toList ops.toList s0 φ σ) (L:LQ ops.toList ((List.range ops.size).map fun j=>Li (φ j))=true)
  (hs:∀o∈ops.toList,Sound P E TI o) (hQ:∀β a w,Bt w0 X β (σ ops.size) a w->Q .normal a w):
  ∀(fuel:Nat) (l:Array Bool) (s:St) (β:Nat->Option Nat) (a:Act) (w:World),l.size=ops.size->(∀j o,ops[j]? =some o->l.getD j false=true->∀i∈GX o,l.getD i false=true)->
   JK l.toList<=fuel->Made ops.toList φ s0 s (fun j=>l.getD j false) ops.size->Bt w0 X β s a w->wpAny P .any ops Q fuel l a w:=by
 simp only[LQ,Bool.and_eq_true] at L;obtain⟨V,T⟩:=L
 have back:∀j o,ops[j]? =some o->∀i∈GX o,i<j:=by
  intro j o ho i hi;have:=List.all_eq_true.1 V j (List.mem_range.2 (by simpa using Hn ho));rw[show ops.toList[j]? =some o by simpa using ho] at this;simpa using List.all_eq_true.1 this i hi
 have pair:∀i j oi oj,i<j->ops[i]? =some oi->ops[j]? =some oj->i ∉ (H2 ops.toList []).getD j []->Of ops.toList oi oj (Li (φ i)) (Li (φ j))=true:=by
  intro i j oi oj Y h1 h2 h5;have hj:=Hn h2;have:=List.all_eq_true.1 (List.all_eq_true.1 T j (List.mem_range.2 (by simpa using hj))) i (List.mem_range.2 Y);rw[Bool.or_eq_true] at this;have tr:∀k,k<ops.size->((List.range ops.size).map fun j=>Li (φ j))[k]? =some (Li (φ k)):=fun k hk=>by simp[hk]
  have:=this.resolve_left fun h=>h5 (by simpa using h)
  rwa [show ops.toList[i]? =some oi by simpa using h1,show ops.toList[j]? =some oj by simpa using h2,tr i AA,tr j hj] at this
 have z:∀(o:Oper) (i:Nat),i∈GX o↔∃e∈o.after,Region.binds .any e=true/\e.on=i:=fun o i=>by simp[GX,and_assoc]
 have closed:∀(l:Array Bool),(∀j o,ops[j]? =some o->l.getD j false=true->∀i∈GX o,l.getD i false=true)->
   ∀(n j:Nat) (o:Oper),j<=n->ops[j]? =some o->(∀i∈GX o,l.getD i false=true)->∀i∈(H2 ops.toList []).getD j [],l.getD i false=true:=by
  intro l I n
  induction n with
  | zero=>
   intro j o hj ho hl i hi;obtain⟨k,hk,_⟩:=Us ops.toList [] j o (by simpa using ho) i (by simpa using hi);have:=back j o ho k hk;omega
  | succ n ih=>
   intro j o hj ho hl i hi;obtain⟨k,hk,h⟩:=Us ops.toList [] j o (by simpa using ho) i (by simpa using hi);have ah:=back j o ho k hk;rcases h with rfl | h
   ·exact hl _ hk
   have L:ops[k]? =some (ops[k]'(by have:=Hn ho;omega)):=AS
   exact ih k _ AA L (I k _ L (hl k hk)) i h
 have done:∀{l:Array Bool} {s:St} {β:Nat->Option Nat} {a:Act} {w:World},(∀j,j<ops.size->l.getD j false=true)->Made ops.toList φ s0 s (fun j=>l.getD j false) ops.size->Bt w0 X β s a w->Q .normal a w:=by
  intro l s β a w h ⟨m1,m2,m3⟩ S;obtain⟨k1,k2,k3⟩:=SQ hc ops.size AS;have e:∀{α:Type} {u:Nat->Option α} {d:α},FJ (fun j=>l.getD j false) u d ops.size=FJ (fun _=>true) u d ops.size:=PX fun j hj _=>h j hj
  have:s=σ ops.size:=by
   cases s;cases ae:σ ops.size;rw[ae] at k1 k2 k3
   congr 1
   ·exact dZ (m1.trans k1.symm) fun x=>(m3 x).1.trans (e.trans (k3 x).1.symm)
   exact db (m2.trans k2.symm) fun x=>(m3 x).2.trans (e.trans (k3 x).2.symm)
  exact hQ β a w (this ▸ S)
 have D:∀(l:Array Bool),l.size=ops.size->Region.ready .any ops l=[]->∀n j,j<n->j<ops.size->l.getD j false=true:=by
  intro l r hr n
  induction n with
  | zero=>intro j hj;omega
  | succ n ih=>
   intro j ag hj;refine Classical.byContradiction fun hl=>?_
   have:j∈Region.ready .any ops l:=mem_ready.2 ⟨by simpa [r,hj] using hl,ops[j],by simp[hj],fun e he hb=>by
    have G:=back j ops[j] (by simp[hj]) e.on ((z _ _).2 ⟨e,he,hb,rfl⟩);exact ih e.on AA AA⟩
   rw[hr] at this;cases this
 intro fuel
 induction fuel with
 | zero=>
  intro l s β a w r _ hu hm S
  have U:∀j,j<ops.size->l.getD j false=true:=fun j hj=>by
   have:=jn _ (Nat.le_zero.1 hu) j (by simpa [r] using hj);simp[r,hj] at this;simp[r,hj,this]
  refine⟨List.eq_nil_iff_forall_not_mem.2 fun x hx=>?_,done U hm S⟩;obtain⟨h1,o,ho,_⟩:=mem_ready.1 hx;have G:=Hn ho;have:=U x G;simp[r,G] at h1 this;rw[h1] at this;cases this
 | succ fuel ih=>
  intro l s β a w r I hu hm S;refine⟨fun hr=>done (fun j hj=>D l r hr (j+1) j (Nat.lt_succ_self j) hj) hm S,fun i hi=>?_⟩;obtain⟨h1,o,ho,W⟩:=mem_ready.1 hi;have A:=Hn ho;have O:l.getD i false=false:=by simp[r,A] at h1 ⊢;exact h1
  have K:∀k∈GX o,l.getD k false=true:=fun k hk=>by
   obtain⟨e,he,hb,rfl⟩:=(z o k).1 hk;exact W e he hb
  obtain⟨M,_⟩:=hc.step i o (by simpa using ho)
  have apart:∀j oj,ops[j]? =some oj->l.getD j false≠decide (j<i)->
    (∀q,oj.dst=some q->q ∉ KS ops.toList o)/\(∀x∈(φ j).ws.map (·.1),x ∉ (φ i).rd)/\(∀q,oj.dst=some q->o.dst≠some q)/\(∀x∈(φ j).ws.map (·.1),x ∉ (φ i).ws.map (·.1)):=by
   intro j oj hj C;have dm:∀{o:Oper} {q:Nat},o.dst=some q->q∈KS ops.toList o:=fun h=>by simp[KS,h]
   have Y:j≠i:=by rintro rfl;rw[O] at C;simp at C
   rcases Nat.lt_or_gt_of_ne Y with G | a6
   ·have Z:l.getD j false=false:=by simpa [G] using C
    have:=pair j i oj o G hj ho fun hm=>by have:=closed l I i i o (Nat.le_refl _) ho K j hm;rw[Z] at this;cases this
    simp only[Of,Bool.and_eq_true] at this;obtain⟨⟨⟨a1,a2⟩,a3⟩,a4⟩:=this;have a1:∀q,oj.dst=some q->q ∉ KS ops.toList o:=fun q hq=>O3 a1 q (by simp[hq])
    have a3:=fun x hx=>not_or.1 fun h=>O3 a3 x hx (List.mem_append.2 h)
    exact⟨a1,fun x hx=>(a3 x hx).1,fun q hq e=>a1 q hq (dm e),fun x hx=>(a3 x hx).2⟩
   have Z:l.getD j false=true:=by simpa [Nat.not_lt.2 (Nat.le_of_lt a6)] using C
   have:=pair i j o oj a6 ho hj fun hm=>by have:=closed l I j j oj (Nat.le_refl _) hj (I j oj hj Z) i hm;rw[O] at this;cases this
   simp only[Of,Bool.and_eq_true] at this;obtain⟨⟨⟨a1,a2⟩,a3⟩,a4⟩:=this;have a2:∀q,oj.dst=some q->q ∉ KS ops.toList o:=fun q hq=>O3 a2 q (by simp[hq])
   exact⟨a2,O3 a4,fun q hq e=>a2 q hq (dm e),fun x hx ad=>O3 a3 x ad (List.mem_append_right _ hx)⟩
  have go:∀j,LA ops.toList j=(ops[j]?).bind (·.dst):=fun j=>by simp[LA]
  have agree:∀{α:Type} {u:Nat->Option α} {d:α} (m:Nat->Bool),(∀j,j<ops.size->u j≠none->m j=decide (j<i))->FJ m u d ops.size=FJ (fun _=>true) u d i:=fun m h=>(PX h).trans (dg AA)
  obtain⟨m1,m2,m3⟩:=hm;obtain⟨k1,k2,k3⟩:=SQ hc i (by simp;omega)
  have hS:∀x j,uS ops.toList φ s0.sl.length x j≠none->∃oj,ops[j]? =some oj/\oj.dst=some x:=fun x j h=>by
   unfold uS at h;rw[go] at h
   split at h
   ·rename_i q hq
    obtain⟨oj,h1,h2⟩:=Option.bind_eq_some_iff.1 hq
    split at h
    ·rename_i h3;exact⟨oj,h1,h3.1 ▸ h2⟩
    exact absurd rfl h
   exact absurd rfl h
  have hB:∀x j,uB φ s0.bk.length x j≠none->x∈(φ j).ws.map (·.1):=fun x j h=>Classical.byContradiction fun hx=>h (by unfold uB;rw[YA hx];split <;> rfl)
  have a5:LS E TI ops.toList o (φ i) s:=by
   have h1:∀x∈KS ops.toList o,nth (σ i).sl x=nth s.sl x:=fun x hx=>by
    rw[(k3 x).1,(m3 x).1,agree];intro j hj hu;obtain⟨oj,h1,h2⟩:=hS x j hu;exact Classical.byContradiction fun C=>(apart j oj h1 C).1 x h2 hx
   have h2:∀x∈(φ i).rd,AR (σ i).bk x=AR s.bk x:=fun x hx=>by
    rw[(k3 x).2,(m3 x).2,agree];intro j hj hu;exact Classical.byContradiction fun C=>(apart j ops[j] AS C).2.1 x (hB x j hu) hx
   have he:∀x∈o.op.operands,ev (σ i).sl x=ev s.sl x:=fun x hx=>by
    cases x with
    | tmp t=>exact h1 t (List.mem_append_left _ (List.mem_append_right _ (List.mem_filterMap.2 ⟨.tmp t,by simpa using hx,rfl⟩)))
    | _=>rfl
   have aa:GY E TI o (DU o) (ev (σ i).sl) (AR (σ i).bk) (fun g=>g=φ i)->GY E TI o (DU o) (ev s.sl) (AR s.bk) (fun g=>g=φ i):=fun h=>by
    obtain⟨f,rfl,H⟩:=ZX (ik S) (nr he h);exact H _ _ h2 rfl
   unfold LS at M ⊢
   split at M
   ·exact aa M
   rename_i k want hg
   obtain⟨g,g1,g3⟩:=M;refine⟨g,g1,?_⟩;rw[<-h1 g (by unfold KS;rw[hg];simp[g1])];exact g3.imp (fun q=>⟨q.1,aa q.2⟩) id
  have B:∀j,j≠i->(l.setIfInBounds i true).getD j false=l.getD j false:=fun j hj=>getD_set_ne false (Ne.symm hj)
  have F:(l.setIfInBounds i true).getD i false=true:=by simp[r,A]
  have later:∀j oj,ops[j]? =some oj->i<j->(l.setIfInBounds i true).getD j false=true->l.getD j false≠decide (j<i):=fun j oj hj G h=>by rw[B j AA] at h;rw[h];simp;omega
  have new:∀{α:Type} {u:Nat->Option α} {d:α},u i=none->FJ (fun j=>(l.setIfInBounds i true).getD j false) u d ops.size=FJ (fun j=>l.getD j false) u d ops.size:=fun h=>PX fun j _ hu=>B j fun e=>hu (e ▸ h)
  have ab:Made ops.toList φ s0 (s.app o.dst (φ i)) (fun j=>(l.setIfInBounds i true).getD j false) ops.size:=by
   refine⟨(Ks (x:=0)).1.trans m1,(Ks (x:=0)).2.1.trans m2,fun x=>⟨?_,?_⟩⟩
   ·have hi:uS ops.toList φ s0.sl.length x i=if o.dst=some x/\x<s0.sl.length then some (φ i).v else none:=by
     unfold uS;rw[go,ho]
     show (match o.dst with | some q=>_ | none=>_)=_
     cases o.dst <;> simp
    rw[Ks.2.2.1,m1]
    split <;> rename_i h <;> simp only[h,if_true,if_false] at hi
    ·refine (WI F (by rw[hi];simp) A fun j h1 h2 h3=>Classical.byContradiction fun hu=>?_).symm;obtain⟨oj,q1,q2⟩:=hS x j hu;exact (apart j oj q1 (later j oj q1 h1 h3)).2.2.1 x q2 h.1
    rw[new hi];exact (m3 x).1
   rw[Ks.2.2.2,m2];cases hw:wr (φ i).ws x with
   | none=>rw[new (by simp[uB,hw])];split <;> exact (m3 x).2
   | some b=>
    by_cases hx:x<s0.bk.length
    ·rw[if_pos hx];refine (WI F (by simp[uB,hw,hx]) A fun j h1 h2 h3=>Classical.byContradiction fun hu=>?_).symm;exact (apart j ops[j] AS (later j ops[j] AS h1 h3)).2.2.2 x (hB x j hu) (Classical.byContradiction fun h=>by rw[YA h] at hw;cases hw)
    rw[if_neg hx,new (by simp[uB,hx])];exact (m3 x).2
  have:=XC (Q:=Q) (N:=wpAny P .any ops Q fuel (l.setIfInBounds i true)) (hs o (by simpa using Array.mem_of_getElem? ho)) S a5 fun af a' w' S'=>by
   refine ih _ _ af a' w' (by simpa using r) (fun j oj hj hl k hk=>?_) ?_ ab S'
   ·by_cases a8:k=i
    ·subst a8;exact F
    rw[B k a8]
    by_cases a7:j=i
    ·subst a7;obtain rfl:o=oj:=Option.some.inj (ho.symm.trans hj);exact K k hk
    rw[B j a7] at hl;exact I j oj hj hl k hk
   have:=jm l.toList i (by simp[r,A] at O;simp[r,A,O]);simp only[Array.toList_setIfInBounds];omega
  unfold wpOp;rw[ho];simp only
  split
  ·rename_i hw;rw[if_pos hw] at this;exact .inl this
  rename_i hw;rw[if_neg hw] at this;exact this
def uv (hm:P.follows .mixedOrders=true) {id:Nat} {ops:Array Oper} {draw:Bool} {R:St->Prop} {Q:Exit->Act->World->Prop}
  (k:∀o∈ops.toList,Sound P E TI o) (S:Bt w0 X β s a w) (h:JF E TI ops.toList draw ops.toList [] R s) (g:∀s',R s'->s'.sl.length=s.sl.length->∀β a w,Bt w0 X β s' a w->Q .normal a w):(Code.region id ops draw).wp P Q a w:=by
 obtain⟨φ,σ,i,hR,b⟩:=gV k S h;rw[Array.length_toList] at hR b;have g:=g _ hR (SQ i ops.size AS).1;cases draw with
 | false=>
  refine wp_region ?_;rw[List.range_eq_range'];exact kE k i g ops.size 0 AA (i.zero ▸ S)
 | true=>
  refine wp_region_any hm ?_;have q:Bt w0 X β s a {w with drawn:=w.drawn+1}:=S.ext (dst:=none) (v:= .one .Cb) (u:=undef) (rd:=[]) ⟨rfl,rfl,rfl,Nat.le_refl _,fun _ _ _=>rfl,nofun⟩ fun _=> .inl rfl
  have hf:∀j,(Array.replicate ops.size false).getD j false=false:=fun j=>by rw[Array.getD_eq_getD_getElem?,Array.getElem?_replicate];split <;> rfl
  refine pW i (by simpa using b rfl) k g _ _ s β a _ AS (fun j o r m=>by rw[hf] at m;cases m) ?_ ⟨rfl,rfl,fun x=>?_⟩ q
  ·have:∀n,JK (List.replicate n false)=n:=fun n=>by induction n with
    | zero=>rfl
    | succ n l=>rw[List.replicate_succ,JK,l];simp;omega
   simp[this]
  have e:∀{α:Type} {u:Nat->Option α} {d:α} n,d=FJ (fun j=>(Array.replicate ops.size false).getD j false) u d n:=fun n=>by
   induction n with
   | zero=>rfl
   | succ n l=>rw[FJ,hf];exact l
  exact⟨e _,e _⟩
end
section
variable {P:Program} {E:Env} {TI:TypeId->Info}
def zN {c:Code} {Q:Exit->Act->World->Prop} (I:Nat->Act->World->Prop) {k:Nat} {a:Act} {w:World} (r:I k a w)
  (round:∀k a w,I k a w->c.wp P (Exit.then (fun l w'=>∃k',k'<k/\I k' l w') Q) a w):(Code.loop c).wp P Q a w:=by
 have least:∀(a:Act) (w:World) (n:Nat),I n a w->∃k,I k a w/\∀j,I j a w->k<=j:=by
  intro a w n
  induction n using Nat.strongRecOn with
  | _ n z=>
   intro q
   by_cases h:∃j,j<n/\I j a w
   ·obtain⟨j,b,g⟩:=h;exact z j b g
   exact⟨n,q,fun j u=>Nat.le_of_not_lt fun m=>h ⟨j,m,u⟩⟩
 have⟨μ,i⟩:∃μ:Act->World->Nat,∀a w,(∃n,I n a w)->I (μ a w) a w/\∀j,I j a w->μ a w<=j:=by
  have:∀p:Act×World,∃k,(∃n,I n p.1 p.2)->I k p.1 p.2/\∀j,I j p.1 p.2->k<=j:=fun p=>by
   by_cases h:∃n,I n p.1 p.2
   ·obtain⟨n,q⟩:=h;obtain⟨k,b⟩:=least p.1 p.2 n q;exact⟨k,fun _=>b⟩
   exact⟨0,fun h'=>absurd h' h⟩
  exact⟨fun a w=>Classical.choose (this (a,w)),fun a w=>Classical.choose_spec (this (a,w))⟩
 refine wp_loop (fun a w=>∃n,I n a w) μ ⟨k,r⟩ fun a w t=>?_
 refine wp_mono (round _ a w (i a w t).1) fun e l w' he=>?_
 cases e with
 | normal=>obtain⟨k',b,g⟩:=he;exact⟨⟨k',g⟩,Nat.lt_of_le_of_lt ((i l w' ⟨k',g⟩).2 k' g) b⟩
 | _=>exact he
def PO (s:St) (bs:List Nat) (k:Nat):BD:=match AR s.bk k with | some b=>if k==0&&b.BP !=0 then .dead 0 else Pc (AR s.bk) bs b | none=> .dead 0
def SB (s:St) (g:List Nat) (k:Nat):PO s g k= .dead 0\/∃b,AR s.bk k=some b/\PO s g k=Pc (AR s.bk) g b/\(k=0->b.BP=0):=by
 unfold PO
 split
 ·rename_i b hb
  split
  ·exact .inl rfl
  rename_i h
  exact .inr ⟨b,hb,rfl,fun e=>by subst e;simpa using h⟩
 exact .inl rfl
def eQ (bk:Nat->Option BD) (g:List Nat) (b:BD):(Pc bk g b).BP=0/\(Pc bk g b).live=b.live:=by cases b <;> exact⟨rfl,rfl⟩
def fj (s:St) (g:List Nat):∀(j:List Nat) (l:List (Option BD)),(∀id b,AR l id=some b->b=PO s g id)->∀id b,AR (LY j (H8 s g j) l) id=some b->b=PO s g id
 | [],l,h=>h
 | k::r,l,h=>fj s g r _ fun id b hb=>by
  rcases Nat.lt_or_ge k l.length with i | i
  ·rw[LP _ _ _ i] at hb
   by_cases e:id=k
   ·subst e;rw[Gh] at hb;cases hb;rfl
   rw[Gi e] at hb;exact h id b hb
  rw[Le _ _ _ i] at hb;exact h id b hb
def fp (s:St) (b:List Nat):∀(g:List Nat) (l:List AV),(∀i,nth l i= .one .Cb\/nth l i=Sc (AR s.bk) b (nth s.sl i))->∀i,nth (KU g (Hk s b g) l) i= .one .Cb\/nth (KU g (Hk s b g) l) i=Sc (AR s.bk) b (nth s.sl i)
 | [],l,h=>h
 | k::r,l,h=>fp s b r _ fun i=>by
  rw[Nk]
  split
  ·rename_i e;exact .inr (by rw[e.1])
  exact h i
def dT:∀(h:List Nat) (g:List BD) (l:List (Option BD)),(LY h g l).length=l.length
 |[],_,_|_::_,[],_=>by simp[LY]
 | k::r,b::g,l=>by rw[LY,dT r,Gu]
def WB:∀(g:List Nat) (vs:List AV) (l:List AV),(KU g vs l).length=l.length
 |[],_,_|_::_,[],_=>by simp[KU]
 | k::r,b::h,l=>by rw[KU,WB r,Gu]
def Nb {α:Type}:∀(n:Nat) (x:α),(HF n x).length=n
 | 0,_=>rfl
 | n+1,x=>by simp[HF,Nb n x]
def WA {n:Nat} {h g:List Nat} {vs:List AV} {b:List BD}:(MP n h vs g b).sl.length=n:=(WB ..).trans (Nb ..)
def Wc:∀(n i:Nat),AR (HF n none) i=none
 |0,_|n+1,0=>rfl
 | n+1,i+1=>Wc n i
def Wb:∀(n i:Nat),nth (HF n (.one .Cb)) i= .one .Cb
 |0,_|n+1,0=>rfl
 | n+1,i+1=>Wb n i
def tO {X:WX} {w:World} {β:Nat->Option Nat} {bk Dx:Nat->Option BD} {i:List Nat} (t:∀id,BP Dx id=0) (j:∀o b,(cx X w β bk).I o b->(cx X w β Dx).I o b/\w.heap[b]? =w.heap[b]?) (l:∀b,(cx X w β bk).J b->(cx X w β Dx).J b) {c:AC} {v:Value} (r:Bw (cx X w β bk) c v):Bw (cx X w β Dx) (MQ bk i c) v:=by
 have BP:∀{id k:Nat} {u:Value} {A:Prop},IK (cx X w β bk) id k u A->(i.contains id&&BP bk id==k)=true->IK (cx X w β Dx) id 0 u A:=fun {id k u A} r h=>by
  simp only[Bool.and_eq_true,beq_iff_eq] at h;exact⟨⟨r.1.1,Nat.zero_le _⟩,fun _=>r.2 h.2.symm⟩
 have one:=r.one
 cases c <;> first
  | exact ID (y:=cx X w β Dx) j rfl r
  | exact one
  | exact r
  | (simp only[MQ];split;exact BP r ‹_›;exact one)
  | skip
 case LX ps=>
  obtain⟨b,o,c,us,e,m,g,n,q⟩:=r;simp only[MQ]
  split
  ·rename_i h
   exact⟨b,o,c,us,by rw[e,List.length_map],by rw[List.length_map];exact m,l b g,n.map (fun p u h r=>BP (k:=p.2.1) r h) h,q⟩
  exact one
def Bt.head {w0:World} {X:WX} {β:Nat->Option Nat} {s:St} {a:Act} {w:World} (S:Bt w0 X β s a w) {n:Nat} (M:s.sl.length=n) (A j:List Nat):Bt w0 X β (MP n A (Hk s j A) j (H8 s j j)) a w:=by
 have L:=fp s j A (HF n (.one .Cb)) fun i=> .inl (Wb n i)
 have m:=fj s j j (HF n none) fun id b h=>by rw[Wc] at h;cases h
 have l1:=WB A (Hk s j A) (HF n (.one .Cb));have l2:=dT j (H8 s j j) (HF n none);rw[Nb] at l1 l2;unfold MP
 generalize KU A (Hk s j A) (HF n (.one .Cb))=sl at L l1 ⊢
 generalize LY j (H8 s j j) (HF n none)=bk at m l2 ⊢
 have C:∀id,BP (AR bk) id=0:=fun id=>by
  unfold BP
  split
  ·rename_i b hb
   rw[m id b hb];rcases SB s j id with h |⟨b',_,h,_⟩ <;> rw[h]
   ·rfl
   exact (eQ _ _ _).1
  rfl
 have g:∀id,live (AR bk) id->live (AR s.bk) id:=fun id ⟨b,hb,u⟩=>by
  rw[m id b hb] at u;rcases SB s j id with h |⟨b',k,h,_⟩ <;> rw[h] at u
  ·cases u
  exact⟨b',k,(eQ _ _ _).2 ▸ u⟩
 have K:∀b,(cx X w β (AR s.bk)).J b->(cx X w β (AR bk)).J b:=fun b hb=>⟨hb.1,fun id u=>hb.2 id (g id u)⟩
 have H:∀o b,(cx X w β (AR s.bk)).I o b->(cx X w β (AR bk)).I o b/\w.heap[b]? =w.heap[b]? :=fun _ b hb=>⟨⟨K b hb.1,hb.2⟩,rfl⟩
 have norm:∀{c:AC} {v:Value},Bw (cx X w β (AR s.bk)) c v->Bw (cx X w β (AR bk)) (MQ (AR s.bk) j c) v:=tO C H K
 refine⟨S.defers,by rw[l1,<-M];exact S.len,by rw[l2,<-M];exact S.len,fun i=>?_,fun id b hb=>?_,fun id G b B D=>S.inj id G b (g _ B) (g _ D),fun id b B=>S.own id b (g _ B),S.Gr,S.fresh,fun u _=>?_⟩
 ·rcases L i with h | h <;> rw[h]
  ·exact .inl rfl
  have r:=S.Ij i
  generalize nth s.sl i=v at r
  cases v with
  | one c=>exact r.imp (fun e=>by rw[e];rfl) norm
  | agg cs=>obtain⟨arr,e,h⟩:=r;exact⟨arr,e,h.map (p:=fun _=>true) (fun _ _ _=>norm) AS⟩
  | BI _=>exact .inl rfl
 ·rw[m id b hb];rcases SB s j id with h |⟨b',k,h,_⟩ <;> rw[h]
  ·exact⟨trivial,trivial⟩
  obtain⟨r,q⟩:=S.blocks id b' k;cases b' with
  | dead _=>exact⟨trivial,trivial⟩
  | var _ cs=>obtain⟨b,arr,e,B,D,h3⟩:=r;exact⟨⟨b,arr,e,B,D,h3.map (p:=fun _=>true) (fun _ _ _=>norm) AS⟩,trivial⟩
  | arr _ t l=>exact⟨Dl.to (x:=cx X w β (AR s.bk)) (id:=id) rfl (fun _ _ _=>rfl) (fun _ _ e=>by cases e) (fun _ _ _ _ _ _=>FY (w':=w) H _ _ _) r,q⟩
 have F:=g 0 u;obtain⟨b,hb,z⟩:=u;rw[m 0 b hb] at z;rcases SB s j 0 with h |⟨b',k,h,N⟩ <;> rw[h] at z
 ·cases z
 exact S.LB F (by rw[FN k];exact N rfl)
def iG:∀(l:List AV) (k:Nat),DH l k (nth l k)=l
 |[],_|_::_,0=>rfl
 | a::l,k+1=>congrArg (a:: ·) (iG l k)
def iH:∀(l:List (Option BD)) (k:Nat),DH l k (AR l k)=l
 |[],_|_::_,0=>rfl
 | a::l,k+1=>congrArg (a:: ·) (iH l k)
def eU:∀(l:List AV) (i:Nat),l.length<=i->nth l i= .one .Cb
 | [],_,_=>rfl
 | _::_,0,h=>by simp at h
 | _::l,i+1,h=>eU l i (by simpa using h)
def Bt.move {w0:World} {X:WX} {a:Act} {w:World} {s:St} {β:Nat->Option Nat} {k id v off m:Nat} {t u:T} {l:List (el u)} (S:Bt w0 X β s a w) (e:nth s.sl k= .one (.Aj t id v off m)) (hb:AR s.bk id=some (.arr v u l)) (U:id≠0) (H:k≠0) (a1:id≠k):
  Bt w0 X (ED β k (β id)) ⟨DH s.sl k (.one (.Aj t k (BP (AR s.bk) k+1) off m)),DH (DH s.bk id (some (.dead v))) k (some (.arr (BP (AR s.bk) k+1) u l))⟩ a w:=by
 have G:id<s.bk.length:=Nat.lt_of_not_le fun h=>by rw[LO _ _ h] at hb;cases hb
 have Y:k<s.sl.length:=Nat.lt_of_not_le fun h=>by rw[eU _ _ h] at e;cases e
 have K:k<s.bk.length:=by have:=S.len;have:=S.Nc;omega
 have F:AR (DH (DH s.bk id (some (.dead v))) k (some (.arr (BP (AR s.bk) k+1) u l)))=ED (ED (AR s.bk) id (some (.dead v))) k (some (.arr (BP (AR s.bk) k+1) u l)):=by
  rw[LP _ _ _ (by rw[Gu];exact K),LP _ _ _ G]
 have Q:BP (AR s.bk) id=v:=FN hb;have r:live (AR s.bk) id:=⟨_,hb,rfl⟩
 have g:∀j,live (ED (ED (AR s.bk) id (some (.dead v))) k (some (.arr (BP (AR s.bk) k+1) u l))) j->j≠k->j≠id/\live (AR s.bk) j:=fun j n h=>by
  rw[MM,if_neg h,MM] at n
  split at n
  ·cases n
  rename_i z;exact⟨z,n⟩
 have A:∀j,j≠k->BP (ED (ED (AR s.bk) id (some (.dead v))) k (some (.arr (BP (AR s.bk) k+1) u l))) j=BP (AR s.bk) j:=fun j h=>by
  rw[Jt,if_neg h,Jt]
  split
  ·rename_i z;rw[z,Q];rfl
  rfl
 have N:∀b,(b<w.heap.size/\∀j,live (AR s.bk) j->β j≠some b)->b<w.heap.size/\∀j,live (ED (ED (AR s.bk) id (some (.dead v))) k (some (.arr (BP (AR s.bk) k+1) u l))) j->ED β k (β id) j≠some b:=fun b q=>by
  refine⟨q.1,fun j n=>?_⟩
  by_cases h:j=k
  ·rw[h,Gh];exact q.2 id r
  rw[Gi h];exact q.2 j (g j n h).2
 have hle:(cx X w β (AR s.bk)).le (cx X w (ED β k (β id)) (ED (ED (AR s.bk) id (some (.dead v))) k (some (.arr (BP (AR s.bk) k+1) u l)))):=by
  refine⟨fun j=>?_,fun j (h:BP _ j=BP _ j)=>?_,fun _ _ arr _ _ _ W=>⟨arr,W,rfl⟩,fun _ b q=>⟨⟨N b q.1,q.2⟩,rfl⟩,fun b q=>⟨N b q,rfl⟩⟩
  ·show BP _ j<=BP _ j
   by_cases h:j=k
   ·subst h;rw[Jt,if_pos rfl];exact Nat.le_succ _
   rw[A j h];exact Nat.le_refl _
  show ED β k (β id) j=β j
  by_cases z:j=k
  ·subst z;rw[Jt,if_pos rfl] at h;exact absurd h (Nat.succ_ne_self _)
  exact Gi z
 refine⟨S.defers,(Gu ..).trans S.len,(Gu ..).trans ((Gu ..).trans S.Nc),fun i=>?_,?_,?_,?_,S.Gr,S.fresh,?_⟩ <;> simp only[F]
 ·rw[Nk]
  split
  ·rename_i h
   have O:=S.Ij k;rw[h.1];rw[e] at O;obtain⟨⟨V,_⟩,z⟩:=O.resolve_left nofun;refine .inr ⟨⟨V,Nat.le_of_eq (by show _=BP _ k;rw[Jt,if_pos rfl];rfl)⟩,fun _=>?_⟩;have h3:=z Q.symm
   show Kk w (ED β k (β id) k) _ _ _ _ _
   rw[Gh];exact h3
  exact C6.mono hle (S.Ij i)
 ·intro j b n
  by_cases h:j=k
  ·subst h;rw[Gh] at n;cases n;exact⟨Dl.to (x:=cx X w β (AR s.bk)) (id:=id) Gh (fun _ _ _=>rfl) (fun _ _ e=>by cases e) (fun _ _ _ _ _ _=>FY hle.I _ _ _) (S.blocks id _ hb).1,(S.blocks id _ hb).2⟩
  rw[Gi h] at n
  by_cases z:j=id
  ·subst z;rw[Gh] at n;cases n;exact⟨trivial,trivial⟩
  rw[Gi z] at n;exact⟨Dl.mono hle (A j h) (fun _ _ _=>rfl) (S.blocks j b n).1,(S.blocks j b n).2⟩
 ·intro j D b n B e1 e2
  by_cases h:j=k <;> by_cases h':D=k
  ·rw[h,h']
  ·obtain⟨L,M⟩:=g D B h';rw[h,Gh] at e1;rw[Gi h'] at e2;exact absurd (S.inj D id b M r e2 e1) L
  ·obtain⟨L,M⟩:=g j n h;rw[h',Gh] at e2;rw[Gi h] at e1;exact absurd (S.inj j id b M r e1 e2) L
  rw[Gi h] at e1;rw[Gi h'] at e2;exact S.inj j D b (g j n h).2 (g D B h').2 e1 e2
 ·intro j b n e1
  by_cases h:j=k
  ·rw[h,Gh] at e1;exact (S.own id b r e1).imp (fun q=>q) fun q=>absurd q.2 U
  rw[Gi h] at e1;exact S.own j b (g j n h).2 e1
 intro Z C;have h:(0:Nat)≠k:=fun e=>H e.symm
 rw[A 0 h] at C;rw[Gi h];exact S.LB (g 0 Z h).2 C
def Bt.conv {w0:World} {X:WX} {a:Act} {w:World} {n:Nat}:∀{s:St} {β:Nat->Option Nat},Bt w0 X β s a w->s.sl.length=n->∀(cv:List (Nat×T×Bool)),∃j,Bt w0 X j (M7 s cv) a w/\(M7 s cv).sl.length=n
 | s,β,S,i,[]=>⟨β,S,i⟩
 | s,β,S,i,(k,t,b)::r=>by
  have g:nth s.sl k= .one .nil->a.tmps.getD k undef= .slice none 0 0:=fun e=>by
   have A:=S.Ij k;rw[e] at A;exact A.resolve_left nofun
  have len:∀c,(DH s.sl k c).length=n:=fun c=>(Gu ..).trans i
  unfold M7
  split
  ·rename_i e
   have:=S.val (dst:=some k) (v:= .one (.sl t [])) (u:=a.tmps.getD k undef) (rd:=[]) (.inr (by rw[g e];exact Ni));rw[Sr] at this;exact Bt.conv this (len _) r
  ·rename_i e
   obtain⟨j,this⟩:=S.write (dst:=some k) (v:= .one (.Aj t k (BP (AR s.bk) k+1) 0 0)) (u:=a.tmps.getD k undef) (rd:=[]) (id:=k) (CZ:= .arr (BP (AR s.bk) k+1) t []) (o':=none) (.inr ⟨rfl,rfl⟩) (Nat.zero_le _) .rfl (.inl rfl) (.inl (Nat.lt_succ_self _)) nofun
    fun y _ _ I H _=>⟨.inl ⟨I,rfl⟩,.inr ⟨⟨by rw[g e];rfl,Nat.le_of_eq H.symm⟩,fun _=>⟨none,0,g e,Nat.le_refl _,Nat.zero_le _,nofun,.inl rfl⟩⟩⟩
   rw[Sr] at this;exact Bt.conv this (len _) r
  ·rename_i G id v m e
   split
   ·rename_i L K l hb
    split
    ·rename_i z
     simp only[Bool.and_eq_true,bne_iff_ne,beq_iff_eq] at z;obtain⟨⟨B,rfl⟩,C⟩:=z;obtain rfl:=T.beq_eq C;have A:s.app (some k) ⟨nth s.sl k,[(id,.arr v _ l)],[]⟩=s:=by simp only[St.app,Gx,GC,<-hb,iG,iH]
     rw[e] at A;obtain⟨j,this⟩:=Bt.gy (s:=s) (q:=k) (XV:=[]) (by rw[A];exact S) (.inl (Nat.lt_of_not_le fun h=>by rw[LO _ _ h] at hb;cases hb)) B;exact Bt.conv this (len _) r
    exact Bt.conv S i r
   exact Bt.conv S i r
  ·rename_i G id v o m e
   split
   ·rename_i L K l hb
    split
    ·rename_i z
     simp only[Bool.and_eq_true,bne_iff_ne,beq_iff_eq] at z;obtain⟨B,D,F,rfl⟩:=z;exact Bt.conv (S.move e hb B D F) (len _) r
    exact Bt.conv S i r
   exact Bt.conv S i r
  exact Bt.conv S i r
def I4:Code->Bool
 | .region _ ops _=>ops.toList.all O4
 |.seq a b|.cond _ a b=>I4 a&&I4 b
 |.block _ c|.loop c=>I4 c
 | _=>true
def yE:AX->Exit
 | .Ew=> .normal
 | .exit n=> .exit n
 | .ret=> .ret
def OO (w0:World) (X:WX) (n:Nat) (Q:AX->St->Prop) (e:Exit) (a:Act) (w:World):Prop:=
 ∃x s β,e=yE x/\Q x s/\s.sl.length=n/\Bt w0 X β s a w
def KB (hm:P.follows .mixedOrders=true) (t:∀o,O4 o=true->Sound P E TI o) {n:Nat} {w0:World} {X:WX}:∀{c:Code} {Q:AX->St->Prop} {β:Nat->Option Nat} {s:St} {a:Act} {w:World},I4 c=true->s.sl.length=n->Bt w0 X β s a w->EO E TI n c Q s->
  c.wp P (OO w0 X n Q) a w
 | .skip,Q,β,s,a,w,_,l,S,h=>wp_skip ⟨.Ew,s,β,rfl,h,l,S⟩
 | .exit i,Q,β,s,a,w,_,l,S,h=>wp_exit ⟨.exit i,s,β,rfl,h,l,S⟩
 | .ret,Q,β,s,a,w,_,l,S,h=>wp_ret ⟨.ret,s,β,rfl,h,l,S⟩
 | .region id ops draw,Q,β,s,a,w,r,l,S,h=>
  uv hm (fun o L=>t o (List.all_eq_true.1 r o L)) S h fun s' C H j z w' q=>⟨.Ew,s',j,rfl,C,by rw[H];exact l,q⟩
 | .seq x y,Q,β,s,a,w,r,l,S,h=>by
  simp only[I4,Bool.and_eq_true] at r;refine wp_seq (wp_mono (KB hm t r.1 l S h) fun e z w' he=>?_);obtain⟨x',s',j,rfl,m,g,q⟩:=he;cases x' with
  | Ew=>exact KB hm t r.2 g q m
  | _=>exact⟨_,s',j,rfl,m,g,q⟩
 | .cond c x y,Q,β,s,a,w,r,l,S,h=>by
  simp only[I4,Bool.and_eq_true] at r;have G:=NP S c
  have plain:∀{Q:AX->St->Prop},(match ev s.sl c with | .one (.bool true)=>EO E TI n x Q s | .one (.bool false)=>EO E TI n y Q s | .one (.ub u)=>(u=true->EO E TI n x Q s)/\EO E TI n y Q s | _=>False)->(Code.cond c x y).wp P (OO w0 X n Q) a w:=by
   intro Q h
   split at h <;> try exact h.elim
   all_goals rename_i he;rw[he] at G
   ·exact wp_cond_true (G.resolve_left nofun) (KB hm t r.1 l S h)
   ·exact wp_cond_false (G.resolve_left nofun) (KB hm t r.2 l S h)
   obtain⟨b,hb,I⟩:=G.resolve_left nofun;cases b with
   | true=>exact wp_cond_true hb (KB hm t r.1 l S (h.1 (I rfl)))
   | false=>exact wp_cond_false hb (KB hm t r.2 l S h.2)
  simp only[EO] at h
  split at h
  ·rcases h with⟨B,A,J,D,h⟩ | h
   ·refine wp_mono (plain h) fun e z w' ⟨x',s',j,he,m,g,q⟩=>?_
    cases x' with
    | Ew=>exact⟨.Ew,_,j,he,D _ _ m,WA,q.head g B A⟩
    | _=>exact⟨_,s',j,he,m,g,q⟩
   exact plain h
  exact plain h
 | .block id c,Q,β,s,a,w,r,l,S,h=>by
  have key:∀{R:St->Prop},(∀{s':St} {j:Nat->Option Nat} {z:Act} {w':World},R s'->s'.sl.length=n->Bt w0 X j s' z w'->OO w0 X n Q .normal z w')->EO E TI n c (fun e s'=>match e with | .exit i=>if i=id then R s' else Q (.exit i) s' | .Ew=>R s' | .ret=>Q .ret s') s->(Code.block id c).wp P (OO w0 X n Q) a w:=by
   intro R fin h;refine wp_block (wp_mono (KB hm t (c:=c) r l S h) fun e z w' he=>?_);obtain⟨x',s',j,rfl,m,g,q⟩:=he;cases x' with
   | Ew=>exact fin m g q
   | exit i=>
    show Exit.inBlock id (OO w0 X n Q) (.exit i) z w'
    simp only[Exit.inBlock];simp only at m
    split <;> rename_i C
    ·rw[if_pos C] at m;exact fin m g q
    rw[if_neg C] at m;exact⟨.exit i,s',j,rfl,m,g,q⟩
   | ret=>exact⟨.ret,s',j,rfl,m,g,q⟩
  rcases h with⟨B,A,J,D,h⟩ | h
  ·exact key (fun m g q=>⟨.Ew,_,_,rfl,D _ _ m,WA,q.head g B A⟩) h
  exact key (fun m g q=>⟨.Ew,_,_,rfl,m,g,q⟩) h
 | .loop c,Q,β,s,a,w,r,l,S,h=>by
  obtain⟨cv,B,A,J,⟨k0,K⟩,M⟩:=h;obtain⟨β,S,l⟩:=S.conv l cv;refine zN (fun k a w=>∃vs F β,J vs F k/\Bt w0 X β (MP n B vs A F) a w) ⟨_,_,β,K,S.head l B A⟩ fun k a w ⟨vs,F,β,D,S⟩=>?_
  refine wp_mono (KB hm t (c:=c) r WA S (M vs F k D)) fun e z w' he=>?_
  obtain⟨x',s',j,rfl,m,g,q⟩:=he;cases x' with
  | Ew=>obtain⟨k',C,H⟩:=m;exact⟨k',C,_,_,j,H,q.head g B A⟩
  | _=>exact⟨_,s',j,rfl,m,g,q⟩
 | .rangeFunc _ _ _ _,_,_,_,_,_,_,_,_,h | .scope _,_,_,_,_,_,_,_,_,h | .label _,_,_,_,_,_,_,_,_,h | .goto _,_,_,_,_,_,_,_,_,h | .refuse _,_,_,_,_,_,_,_,_,h=>h.elim
end
end Go.Abs
