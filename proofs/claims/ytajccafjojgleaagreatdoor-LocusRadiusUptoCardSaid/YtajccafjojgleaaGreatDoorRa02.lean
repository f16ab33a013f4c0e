/- Part 3 of a proof. Conditions: each theorem's own. -/
import Derived.Orders
import Derived.Test.YtajccafjojgleaaGreatDoorRa01
set_option linter.all false
set_option maxHeartbeats 80000000
set_option maxRecDepth 20000
namespace Go.Abs
open Go.RowKit
def NY (o:Oper):Bool:=
 match o.op with
 |.alloc _|.box _ _|.makeSlice _ _ _|.buildSlice _ _ _=>o.dst.isSome
 | .call c=>match c.callee with
  | .builtin _=>o.dst.isSome
  | _=>true
 | _=>true
theorem Qw {α:Type}:∀(l:List α) (i:Nat) (x y:α),Cc (Cc l i x) i y=Cc l i y
 |[],_,_,_|_::_,0,_,_=>rfl
 | a::l,i+1,x,y=>congrArg (a:: ·) (Qw l i x y)
theorem Qk (a:Act) (k:Nat):a.put (some k) (a.tmps.getD k undef)=a:=by
 have h:a.tmps.setIfInBounds k (a.tmps.getD k undef)=a.tmps:=by
  apply Array.ext
  ·simp
  intro i g b;rw[Array.getElem_setIfInBounds]
  split
  ·subst_vars;simp[Array.getD,b]
  rfl
 simp only[Act.put,h]
section
variable {P:Program} {TI:TypeId->Info} {w0 w:World} {X:WX} {β:Nat->Option Nat} {s:St} {a:Act}
theorem BX.ch {q id v n:Nat} {t:T} {l:List (el t)} {rd Ut:List Nat} (S:BX w0 X β (s.app (some q) ⟨.one (.AU t id v 0 n),[(id,.arr v t l)],rd⟩) a w) (G:id<s.bk.length\/id=q) (O:id≠0):
  ∃g,BX w0 X g (s.app (some q) ⟨if n=l.length then .one (.sl t l) else .one .Bx,[(id,.dead v)],Ut⟩) a w:=by
 have A:=S.len.trans S.L3.symm;have A:s.sl.length=s.bk.length:=by rwa [St.app,Fo,E7,E7,Fk,Fk] at A
 have H:∀u,s.bk.length<=q->Cc s.sl q u=s.sl:=fun u h=>J5 _ _ _ AA
 by_cases m:id<s.bk.length
 case neg=>
  obtain rfl:=G.resolve_left m;rw[St.app,Fo,H _ AA,E7,E7,J5 _ _ _ AA] at S ⊢;exact⟨β,S⟩
 have hb:AP (Cc s.bk id (some (.arr v t l))) id=some (.arr v t l):=by rw[Jo _ _ _ m,Fa]
 have W:=fun dst (u:AV) k (Y:∀y,_->_->_->_->_->CP y u (a.tmps.getD k undef))=>S.write (dst:=dst) (v:=u) (u:=a.tmps.getD k undef) (rd:=Ut) (id:=id) (Bw:= .dead v) (o:=none) (o':=β id) (.inl (by rw[St.app,E7,E7,Fk];exact m)) trivial .rfl (.inl rfl) (.inr ⟨(EN hb).symm,rfl,nofun⟩) nofun
  fun y C D h3 F Q=>⟨trivial,Y y C D h3 F Q⟩
 by_cases B:n=l.length
 case neg=>
  obtain⟨g,r⟩:=W (some q) (.one .Bx) q fun _ _ _ _ _ _=> .inl rfl
  rw[Qk] at r;simp only[St.app,Fo,E7,Qw,if_neg B] at r ⊢;exact⟨g,r⟩
 subst B;rw[if_pos rfl]
 by_cases hq:q<s.sl.length
 ·have K:=S.HM q;rw[St.app,Fo,MC,if_pos ⟨rfl,hq⟩] at K;obtain⟨base,cap,C,D,h3,_,F⟩:=Ns S (K.resolve_left nofun) hb (Nat.le_of_eq (Nat.zero_add _));rw[List.drop_zero,List.take_length] at C D h3 F
  obtain⟨g,r⟩:=W (some q) (.one (.sl t l)) q fun y hle hw _ _ U=> .inr ⟨base,cap,congrArg (· :: []) C,D,h3,F.imp (fun q=>q) fun⟨b,g1,g2,L,M,N⟩=>
   ⟨b,_,M,U _ b (hw ▸ L) (.inr ⟨(S.own id b g1 g2).elim (S.fresh.1 _ b) fun h=>absurd h.2 O,fun j V Z e=>V (S.inj j id b Z g1 e g2)⟩) nofun,fun i z hz=>let ⟨us,k1,k2⟩:=N i z hz;⟨us,Em hle.I _ _ _ k1,by rw[hw];exact k2⟩⟩⟩
  rw[Qk] at r;simp only[St.app,Fo,E7,Qw] at r;exact⟨g,r⟩
 obtain⟨g,r⟩:=W none (.one .Bx) q fun _ _ _ _ _ _=> .inl rfl
 simp only[St.app,Fo,E7,Qw,H _ (AA:s.bk.length<=q)] at r ⊢;exact⟨g,r⟩
theorem Xp {o:Oper} {c:Call} {b:Builtin} {u:Value} {w':World} (g:o.op= .call c) (hb:c.callee= .builtin b) (h:(builtin b c.argTypes o.type (c.args.map fun | .const _=>true | _=>false) (c.args.map a.eval)).run P w= .ok (.value u) w'):
  (execOp a.eval o).run P w= .ok (.value u) w':=by
 simp only[execOp,g,resolve,hb,Sem.run_bind,Sem.run_pure,Result.andThen_ok,invoke];exact h
theorem dZ (H:∀t,HU P t (TI t)) {o:Oper} {c:Call} {b:Builtin} (ho:o.op= .call c) (hc:c.callee= .builtin b) (hd:o.dst.isSome=true) (S:BX w0 X β s a w) {f:DG} (h:HZ TI b c.argTypes.toList (c.args.toList.map (ev s.sl)) (Cs o) (AP s.bk) (fun g=>g=f)):
  (∃u w' r,(execOp a.eval o).run P w= .ok (.value u) w'/\BX w0 X r (s.app o.dst f) (a.put o.dst u) w')/\(b= .append->∀id B,f.ws=[(id,B)]->id<s.bk.length\/id=Cs o):=by
 have j:=Nf (Ll S) c.args.toList
 generalize c.args.toList.map (ev s.sl)=A at h j
 generalize hU:c.args.toList.map a.eval=U at j
 have M:c.args.map a.eval=U.toArray:=by rw[<-hU];exact Array.ext' Ai
 have K:c.argTypes=c.argTypes.toList.toArray:=Array.ext' rfl
 generalize c.argTypes.toList=V at h K
 have val:∀{k:IntKind} {n:Int} {rd:List Nat},⟨.one (.int k n),[],rd⟩=f->(builtin b V.toArray o.type (c.args.map fun | .const _=>true | _=>false) U.toArray).run P w= .ok (.value (.int k n)) w->∃u w' r,(execOp a.eval o).run P w= .ok (.value u) w'/\BX w0 X r (s.app o.dst f) (a.put o.dst u) w':=
  fun e m=>⟨_,w,β,Xp ho hc (by rw[M,K];exact m),by subst e;exact S.val (Or.inr rfl)⟩
 unfold HZ at h
 have app:∀{t0 t1:TypeId} {u:T} {x:AC} {v:Value} {base:Option Addr} {cap id vv:Nat} {l l2 l':List (el u)} {rd:List Nat},V=[t0,t1]->b= .append->u=(TI t0).elem->(TI t0).sl=true->(TI t1).sl=true->U=[.slice base l.length cap,v]->l.length<=cap->cap<=maxLen->
   (cap=0\/∃b arr e',β id=some b/\live (AP s.bk) id/\base=some ⟨b,0,none⟩/\w.heap[b]? =some (.cells arr e' (0,0))/\cap*u.size<=arr.size/\
    ∀(i:Nat) (y:el u),l[i]? =some y->∃us,rep w (cx X w β (AP s.bk)).I u y us/\w.rangeAt b (i*u.size) us)->
   CP (cx X w β (AP s.bk)) (.one x) v->G1 (AP s.bk) x (.sl u l2)->fits (l.length+l2.length) (TI t0).Eg->(id<s.bk.length\/o.dst=some id/\base=none/\cap=0)->vv=BA (AP s.bk) id+1->l'=l++l2->
   ⟨.one (.AU u id vv 0 l'.length),[(id,.arr vv u l')],rd⟩=f->(∃u w' r,(execOp a.eval o).run P w= .ok (.value u) w'/\BX w0 X r (s.app o.dst f) (a.put o.dst u) w')/\(b= .append->∀id B,f.ws=[(id,B)]->id<s.bk.length\/id=Cs o):=by
  rintro t0 t1 u x v base cap id vv l l2 l' rd rfl rfl he L G rfl a6 a2 hb hx F z N a7 rfl rfl;obtain⟨a8,w',r,O,S'⟩:=qv S (ty:=o.type) he H L G a6 a2 hb (hx.resolve_left fun e=>by subst e;exact F) F z N a7 (dst:=o.dst) (rd:=rd);exact⟨⟨a8,w',r,Xp ho hc (by rw[M,K];simp[builtin,O]),S'⟩,fun _ id B e=>by cases e;exact N.imp_right fun h=>by simp[Cs,h.1]⟩
 have Q:∀{id v:Nat} {t:T} {l:List (el t)},AP s.bk id=some (.arr v t l)->id<s.bk.length:=fun hb=>Nat.lt_of_not_le fun h=>by rw[Jn _ _ h] at hb;cases hb
 split at h <;> try exact h.elim
 ·obtain _ |⟨m,_ | _⟩:=j
  obtain⟨base,cap,hv,h2,h3,h4⟩:=m.resolve_left nofun;cases hv;exact⟨val (h.2 _ ⟨rfl,h3⟩) (by simp[builtin,Builtin.len_,run_underlying ((H _).sl h.1).1,goInt]),nofun⟩
 iterate 2
  obtain _ |⟨m,_ | _⟩:=j
  obtain⟨G,h⟩:=h
  split at h
  ·rename_i hv
   obtain⟨base,cap,hs,_⟩:=(m.resolve_left nofun).2 hv.symm;subst hs;exact⟨val (h _ ⟨rfl⟩) (by simp[builtin,Builtin.len_,run_underlying ((H _).sl G).1,goInt]),nofun⟩
  exact h.elim
 ·obtain _ |⟨m,_ | _⟩:=j
  cases m.resolve_left nofun;exact⟨val h.2 (by simp[builtin,Builtin.len_,run_underlying ((H _).sl h.1).1,goInt]),nofun⟩
 ·obtain _ |⟨m,_ | _⟩:=j
  obtain⟨_,_,_,_,rfl,_⟩:=m.resolve_left nofun;exact⟨val (h.2 _ ⟨rfl⟩) (by simp[builtin,Builtin.len_,run_underlying ((H _).pt h.1).1,goInt]),nofun⟩
 ·obtain _ |⟨m,_ | _⟩:=j
  cases m.resolve_left nofun;exact⟨val (h.2 _ ⟨rfl⟩) (by simp[builtin,Builtin.len_,run_underlying ((H _).P6 h.1),goInt]),nofun⟩
 ·obtain _ |⟨m,_ | _⟩:=j
  cases m.resolve_left nofun;exact⟨val h.2 (by simp[builtin,Builtin.cap_,run_underlying ((H _).sl h.1).1,goInt]),nofun⟩
 iterate 2
  obtain _ |⟨m,_ |⟨C,_ | _⟩⟩:=j
  cases m.resolve_left nofun;cases C.resolve_left nofun;exact⟨val (h _ rfl) (by simp[builtin,Builtin.min_,Builtin.min2,Builtin.max_,Builtin.max2]),nofun⟩
 ·obtain _ |⟨m,_ |⟨C,_ | _⟩⟩:=j
  obtain⟨⟨L,G⟩,l2,D,h⟩:=h;cases m.resolve_left nofun;obtain⟨q,hq⟩:=Option.isSome_iff_exists.1 hd;have a5:Cs o=q:=by simp[Cs,hq]
  exact app rfl rfl rfl L G (l:=[]) rfl (Nat.le_refl _) (Nat.zero_le _) (.inl rfl) C (D ()).1 (by rw[List.length_nil,Nat.zero_add];exact (D ()).2) (.inr ⟨a5 ▸ hq,rfl,rfl⟩) rfl rfl (h _ rfl)
 all_goals
  rename_i t0 t1 t id v off len x
  obtain _ |⟨m,_ |⟨C,_ | _⟩⟩:=j
  obtain⟨⟨L,G⟩,h⟩:=h
  split at h
  ·rename_i v' t' l hb
   split at h
   ·rename_i a1
    obtain⟨rfl,Y,Z⟩:=a1;obtain rfl:=T.beq_eq Y;obtain⟨l2,D,h⟩:=h;obtain⟨rfl,hlen,F,z⟩:=D ();obtain⟨base,cap,rfl,k1,k2,_,k3⟩:=(m.resolve_left nofun).2 (EN hb).symm;have hl:(l.take len).length=len:=by rw[List.length_take];omega
    refine app rfl rfl (T.beq_eq Z) L G (l:=l.take len) (by rw[hl]) AA k2 (k3.imp (fun q=>q) fun⟨b,arr,e,q1,q2,q3,q4⟩=>?_) C F (by rw[hl];first | exact z | exact hlen ▸ z) (.inl (Q hb)) (congrArg (· +1) (EN hb).symm) rfl (h _ _ ⟨?_,rfl⟩)
    ·obtain⟨_,_,_,p3⟩:=(S.blocks _ _ hb).1.arr q1;exact⟨b,arr,e,q1,⟨_,hb,rfl⟩,by simpa using q2,q3,by simpa using q4,fun i y W=>p3 i y (by rw[List.getElem?_take] at W;split at W;exact W;cases W)⟩
    first | rfl | rw[hlen,List.take_length]
   exact h.elim
  exact h.elim
theorem qw (z:∀t,HU P t (TI t)) {o:Oper} {c:Call} {b:Builtin} (C:o.op= .call c) (A:c.callee= .builtin b) (k:o.dst.isSome=true) (S:BX w0 X β s a w) {f:DG} (h:Ov TI b c.argTypes.toList (c.args.toList.map (ev s.sl)) (Cs o) (AP s.bk) (fun g=>g=f)):
  ∃u w' j,(execOp a.eval o).run P w= .ok (.value u) w'/\BX w0 X j (s.app o.dst f) (a.put o.dst u) w':=by
 rcases R5.1 h with h |⟨rfl,h⟩
 ·exact (dZ z C A k S h).1
 obtain⟨g,H,G⟩:=W8 (fun t l I=>absurd (jX h) (by rw[I];exact (by decide:¬(1=2)))) h;obtain⟨t,id,v,l,B,F,rfl,_⟩:=cj H;obtain⟨⟨u,w',j,K,r⟩,i⟩:=dZ z C A k S (G _ (fun D=>D=g) (fun _ _=>rfl) rfl);obtain⟨q,m⟩:=Option.isSome_iff_exists.1 k;have i:=i rfl id _ (congrArg DG.ws B);rw[m,B] at r;obtain⟨n,S2⟩:=r.ch (by simpa [Cs,m] using i) F;rw[if_pos rfl] at S2;exact⟨u,w',n,K,m ▸ S2⟩
end
theorem Uh:∀(pre b post vs:List Value),vs.length=b.length->DC (pre++(b++post)) pre.length vs=pre++(vs++post)
 | [],[],post,[],_=>by cases post <;> rfl
 | [],m::b,post,v::vs,h=>by simpa [DC] using Uh [] b post vs (by simpa using h)
 | p::pre,b,post,vs,h=>by simp[DC,Uh pre b post vs h]
 | [],[],_,_::_,h | [],_::_,_,[],h=>by simp at h
theorem Ys {n:Nat}:∀(vs:List Value) (k:Nat) (c:Array Value),(∀v∈vs,v.cells.size=n)->c.size=(k+vs.length)*n->
  ∃g,Instr.fill (fun i=>some (i*n,n)) c (vs.zipIdx k |>.map fun x=>(x.2,x.1))=some g/\g.toList=c.toList.take (k*n)++vs.flatMap (·.cells.toList)
 | [],k,c,_,h=>⟨c,rfl,by simp at h;rw[<-h,List.take_of_length_le Ai];simp⟩
 | v::vs,k,c,q,h=>by
  have j:=q v Ai;rw[List.length_cons,<-Nat.add_assoc,Nat.add_right_comm,Nat.add_mul,Nat.add_mul,Nat.one_mul] at h;obtain⟨g,t,B⟩:=Yt (place:=fun i=>some (i*n,n)) (c:=c) (i:=k) (v:=v) (r:=(vs.zipIdx (k+1)).map fun x=>(x.2,x.1)) (off:=k*n) (n:=n) rfl j AA;have C:c.toList.length=c.size:=rfl
  have e1:c.toList=c.toList.take (k*n)++((c.toList.drop (k*n)).take n++c.toList.drop (k*n+n)):=by
   rw[<-List.drop_drop,List.take_append_drop,List.take_append_drop]
  have b:(c.toList.take (k*n)).length=k*n:=by rw[List.length_take];omega
  have e2:g.toList=c.toList.take (k*n)++(v.cells.toList++c.toList.drop (k*n+n)):=by
   have:=Uh (c.toList.take (k*n)) ((c.toList.drop (k*n)).take n) (c.toList.drop (k*n+n)) v.cells.toList (by rw[List.length_take,List.length_drop,Array.length_toList];omega);rw[<-e1,b] at this;exact t.trans this
  have m:g.size=c.size:=by have:=Th c.toList (k*n) v.cells.toList;rwa [<-t] at this
  obtain⟨l,z,A⟩:=Ys vs (k+1) g (fun u hu=>q u (by simp[hu])) (by rw[m,h,Nat.add_mul,Nat.add_mul];omega);refine⟨l,by rw[List.zipIdx_cons,List.map_cons,B];exact z,?_⟩;rw[A,e2,List.flatMap_cons,<-List.append_assoc,List.take_left' (by simp[b,j,Nat.add_mul]),List.append_assoc]
theorem Xs:∀(vs:List Value),(∀v∈vs,v.oneCell'=true)->vs.flatMap (·.cells.toList)=vs
 | [],_=>rfl
 | v::vs,h=>by rw[List.flatMap_cons,Xs vs (fun u hu=>h u (List.mem_cons_of_mem _ hu)),Qa (h v (List.mem_cons_self ..))];rfl
theorem fU {α:Type}:∀(b:List (Nat×α)) (k:Nat),b.map (·.1)=List.range' k b.length->b=((b.map (·.2)).zipIdx k).map fun x=>(x.2,x.1)
 | [],_,_=>rfl
 | p::b,k,h=>by
  rw[List.map_cons,List.length_cons,List.range'_succ,List.cons.injEq] at h;rw[List.map_cons,List.zipIdx_cons,List.map_cons,<-fU b (k+1) h.2,<-h.1]
theorem EJ.oV {x:Cx} {i:List (Nat×Nat×Nat)} {vs:List Value} (h:BL (fun p=>EJ x p.1 p.2.1 p.2.2) i vs):∀v∈vs,v.oneCell'=true:=by
 induction h with
 | nil=>simp
 | cons q _ g=>exact fun v b=>(List.mem_cons.1 b).elim (fun e=>e ▸ q.1.1) (g v)
section
variable {P:Program} {E:Env} {TI:TypeId->Info} {w0 w:World} {X:WX} {β:Nat->Option Nat} {s:St} {a:Act}
theorem pR {x:Cx} {a:AV} {v:Value} (h:gM x a v):CP x a v:=by cases a <;> first | exact h | exact h.elim
theorem Xo {o:Oper} {t:TypeId} {len n:Nat} {parts:Array (Nat×Operand)} {C8:TypeId} {b:TypeInfo} {z:Value} (k:o.op= .buildSlice t len parts) (hu:P.underlying t=some (.slice C8)) (g1:P.info? C8=some b) (g2:b.size=n) (l:b.zero=some z) (A:0<n)
  (hb:len*n<=16777216) (j:parts.toList.length=len) (q:(parts.toList.map fun p=>(p.1,a.eval p.2))=((parts.toList.map fun p=>a.eval p.2).zipIdx 0).map fun x=>(x.2,x.1)) (m:∀v∈parts.toList.map fun p=>a.eval p.2,v.cells.size=n):
  ∃arr,(execOp a.eval o).run P w= .ok (.value (.slice (some ⟨w.heap.size,0,none⟩) len len)) (w.alloc (.cells arr C8))/\arr.toList=(parts.toList.map fun p=>a.eval p.2).flatMap (·.cells.toList):=by
 by_cases h:len=0
 ·subst h;obtain rfl:parts= #[]:=by apply Array.ext';exact List.eq_nil_of_length_eq_zero j
  refine⟨#[],?_,rfl⟩;simp[execOp,k,Instr.buildSlice,run_underlying hu,sizeOf,typeInfo,g1,Instr.fill,newRow,Array.range_zero']
 obtain⟨g,r,u⟩:=Ys (n:=n) (parts.toList.map fun p=>a.eval p.2) 0 ((Array.range (len*b.size)).map (z.cells[· % z.cells.size]!)) m (by simp[j,g2]);refine⟨g,?_,by simpa using u⟩;have:=run_buildSlice (P:=P) w t C8 len (parts.map fun (i,x)=>(i,a.eval x)) g b z hu g1 l (by rw[g2];omega) (by rw[g2];exact Nat.mul_ne_zero h AA) (by rw[<-r,<-q,g2];simp);simp[execOp,k,this]
theorem qy (hT:∀t,HU P t (TI t)) {o:Oper} (hd:NY o=true) (hc:∀c x,o.op= .call c->c.callee≠ .value x):Sound P E TI o:=by
 intro w0 X β s a w S f h N Q hN;have R:=Ll S
 have I:∀{x:Operand} {c:AC},ev s.sl x= .one c->c≠ .Bx->Ba (cx X w β (AP s.bk)) c (a.eval x):=fun {x c} e hc=>by
  have:=R x;rw[e] at this;exact this.resolve_left hc
 have V:∀{u:Value} {v:AV} {rd:List Nat},⟨v,[],rd⟩=f->(execOp a.eval o).run P w= .ok (.value u) w->CP (cx X w β (AP s.bk)) v u->o.wp P a w N Q:=fun e hr hv=>by subst e;exact OS hr (hN _ _ _ (S.val hv))
 have D:∀{u:Value} {v:AV} {Bw:Af} {w':World} {arr:Array Value} {e:TypeId} {rd:List Nat},o.dst.isSome=true->⟨v,[(Cs o,Bw)],rd⟩=f->(execOp a.eval o).run P w= .ok (.value u) w'->w'.heap=w.heap.push (.cells arr e (0,0))/\w'.os=w.os/\w'.tape=w.tape/\w'.output=w.output->
   Bw.BA=BA (AP s.bk) (Cs o)+1/\Bw.short->(∀y:Cx,(cx X w β (AP s.bk)).le y->y.w=w'->y.w.heap[w.heap.size]? =some (.cells arr e (0,0))->y.β (Cs o)=some w.heap.size->y.cv (Cs o)=BA (AP s.bk) (Cs o)+1->C2 y (Cs o) Bw/\CP y v u)->o.wp P a w N Q:=by
  rintro u v Bw w' arr e rd hds rfl hr ⟨h1,h2,h3,h4⟩ ⟨h5,h6⟩ h7;obtain⟨q,hq⟩:=Option.isSome_iff_exists.1 hds;obtain⟨β',S'⟩:=S.write (dst:=o.dst) (v:=v) (u:=u) (rd:=rd) (o':=some w.heap.size) (.inr ⟨by simp[Cs,hq],rfl⟩) h6 (Dz.push h1 h2 h3 h4) (.inl rfl) (.inl AA) (fun _ b hb=> .inr (by cases hb;exact Nat.le_refl _)) fun y hle hw hy hv _=>h7 y hle hw (by rw[hw,h1];simp) hy (hv.trans h5)
  exact OS hr (hN _ _ _ S')
 unfold FQ at h;unfold NY at hd;cases ho:o.op <;> simp only[ho] at h hd <;> try exact h.elim
 case move x | assign x=>exact V h (by simp[execOp,ho]) (R x)
 case nilCheck x=>
  split at h <;> rename_i he
  ·split at h
   ·rename_i hv;obtain⟨b,_,hb⟩:=(I he nofun).2 hv.symm;exact V h (by simp[execOp,ho,hb]) (R x)
   exact h.elim
  ·exact V h (by simp[execOp,ho,show a.eval x= .func (.func _) #[] #[] from I he nofun]) (R x)
  ·obtain⟨us,hb,_⟩:=I he nofun;exact V h (by simp[execOp,ho,hb]) (R x)
  ·obtain⟨_,_,_,hb,_⟩:=I he nofun;exact V h (by simp[execOp,ho,hb]) (R x)
  exact h.elim
 case pick c x y=>
  split at h <;> rename_i he
  ·exact V h (by simp[execOp,ho,show a.eval c= .bool true from I he nofun,asBool]) (R x)
  ·exact V h (by simp[execOp,ho,show a.eval c= .bool false from I he nofun,asBool]) (R y)
  exact h.elim
 case alloc t=>
  obtain⟨ti,z,d,h1,h2,h3,h4,h5,h6,h7⟩:=(hT t).info h.1;exact D (u:= .pointer (some ⟨w.heap.size,0,none⟩)) (w':=w.alloc (.cells z.cells t)) hd h.2 (by simp[execOp,ho,Instr.alloc,zeroValue,typeInfo,h1,h3,cP]) ⟨rfl,rfl,rfl,rfl⟩ ⟨rfl,trivial⟩ fun y _ _ hw hb hc=>⟨⟨_,_,t,hb,hw,h4 y⟩,.inr ⟨⟨rfl,AA⟩,fun _=>⟨_,hb,rfl⟩⟩⟩
 case box t x=>
  split at h <;> try exact h.elim
  have hc:=Kw (R x) (TF (by assumption) (by assumption));exact D (u:= .pointer (some ⟨w.heap.size,0,none⟩)) (w':=w.alloc (.cells (a.eval x).cells t)) hd h (by simp[execOp,ho,Instr.box,cP]) ⟨rfl,rfl,rfl,rfl⟩ ⟨rfl,trivial⟩ fun y hle _ hw hb hc'=>⟨⟨_,_,t,hb,hw,hc.mono fun _ _=>Ba.mono hle⟩,.inr ⟨⟨rfl,AA⟩,fun _=>⟨_,hb,rfl⟩⟩⟩
 case extract x i=>
  have hx:=R x
  split at h
  ·rename_i he
   rw[he] at hx;obtain⟨arr,hv,hall⟩:=hx
   split at h
   ·rename_i y hy
    obtain⟨u,hu,hr⟩:=hall.get i y hy;exact V (u:=u) h (by simp[execOp,ho,hv,Instr.extract,show arr[i]? =some u by simpa using hu]) (pR hr)
   exact h.elim
  exact h.elim
 case load t x=>
  simp only[PM] at h;obtain⟨hk,h⟩:=h;have hsz:(TI t).agg=false->(TI t).size=1:=let ⟨_,_,_,_,_,_,_,_,_,h7⟩:=(hT t).info hk;h7
  have go:∀{b q:Nat} {cs:List AC} {us:List Value} {rd:List Nat},⟨F2 ((TI t).agg,cs),[],rd⟩=f->cs.length=(TI t).size->a.eval x= .pointer (some ⟨b,q,none⟩)->w.rangeAt b q us->BL (Ba (cx X w β (AP s.bk))) cs us->o.wp P a w N Q:=fun hf hl hp hr hall=>
   V hf (by simp[execOp,ho,hp,run_load (hT t) hk hr (hall.length ▸ hl)]) (Qq hall fun e=>hl.trans (hsz e))
  split at h <;> rename_i he
  ·split at h
   ·rename_i hb
    split at h
    ·rename_i hc
     obtain⟨b',hb',hp⟩:=(I he nofun).2 (hc.1.symm.trans (EN hb).symm);obtain⟨arr,e,h2,h3⟩:=(S.blocks _ _ hb).1.var hb';exact go h hc.2 hp (bR h2) (by rw[J6];exact (h3.drop _).take _)
    exact h.elim
   exact h.elim
  ·obtain⟨b,q,us,hp,h1,h2,h3⟩:=I he nofun
   split at h
   ·rename_i hl;exact go h hl hp (Uq h3) (by rw[J6];exact (((GK _ _ _ us).1 h2).drop _).take _)
   exact h.elim
  ·obtain⟨b,q,u,hp,hI,hat,hr⟩:=I he nofun;exact go (cs:=[.BE _ _ _]) (by rw[h.1];exact h.2) (hsz h.1).symm hp hr (.cons hat .nil)
  ·split at h
   ·rename_i hb
    split at h
    ·rename_i hc
     obtain rfl:=T.beq_eq hc.2;obtain⟨y,hy,h⟩:=h;obtain⟨b',hb',hp⟩:=(I he nofun).2 (hc.1.symm.trans (EN hb).symm);obtain⟨arr,e,h2,h3⟩:=(S.blocks _ _ hb).1.arr hb';obtain⟨us,hu,ha⟩:=h3 _ y (hy ())
     split at h
     ·rename_i hl;exact go h hl hp (Uq ha) (by rw[J6];exact (((GK _ _ y us).1 hu).drop _).take _)
     exact h.elim
    exact h.elim
   exact h.elim
  exact h.elim
 case store t p x=>
  obtain⟨hk,h⟩:=h;obtain⟨ti,z,d,h1,h2,_⟩:=(hT t).info hk
  have go:∀{id b q:Nat} {arr:Array Value} {e:TypeId} {Bw:Af} {rd:List Nat},⟨.one .Bx,[(id,Bw)],rd⟩=f->(ev s.sl x).full=true->a.eval p= .pointer (some ⟨b,q,none⟩)->(∃b,AP s.bk id=some b/\b.BA=Bw.BA)/\live (AP s.bk) id->β id=some b->w.heap[b]? =some (.cells arr e (0,0))->
    (ev s.sl x).cs.length=(TI t).size->q+(TI t).size<=arr.size->Bw.short->(∀y:Cx,(cx X w β (AP s.bk)).le y->y.w=w.setCells b q (a.eval x).cells.toList->y.β id=some b->C2 y id Bw)->o.wp P a w N Q:=by
   rintro id b q arr e Bw rd rfl hfu hpp ⟨⟨b',hn,hver⟩,hl⟩ hb hh hlen hq hsh hB;have hys:=Kw (R x) hfu;have hsz:(a.eval x).cells.size=ti.size:=by have:=hys.length;simp only[Array.length_toList] at this;omega
   have hrun:=po (P:=P) (t:=t) (b:=b) (o:=q) (v:=a.eval x) h1 hsz (VS hh AA) hys.one
   obtain⟨β',S'⟩:=S.write (dst:=o.dst) (v:= .one .Bx) (u:=undef) (rd:=rd) (o':=some b) (.inl (Nat.lt_of_not_le fun h=>by rw[Jn _ _ h] at hn;cases hn)) hsh (Dz.set (a.eval x).cells.toList q w) (.inr ⟨hb.symm,hl⟩) (.inr ⟨hver.symm.trans (EN hn).symm,hb.symm,fun _=>hl⟩) (fun _ k hk=> .inl ⟨hb.trans hk,hl⟩)
    fun y hle hw hy _ _=>⟨hB y hle hw hy,.inl rfl⟩
   unfold Oper.wp;rw[show (execOp a.eval o).run P w= .ok .skip (w.setCells b q (a.eval x).cells.toList) by simp[execOp,ho,hpp,hrun]];exact hN _ _ _ S'
  split at h <;> try exact h.elim
  ·rename_i he
   generalize hB:AP s.bk _=B at h
   split at h <;> try exact h.elim
   rename_i n1 n2
   split at h
   ·rename_i hc
    obtain⟨rfl,hlen,hoff⟩:=hc;obtain⟨b,hb,hpp⟩:=(I he nofun).2 (EN hB).symm;obtain⟨arr,e,g2,g3⟩:=(S.blocks _ _ hB).1.var hb;have hal:_=arr.size:=g3.length;have hfu:=TF n1 n2;obtain⟨arr',q1,q2,q3⟩:=OI b (a.eval x).cells.toList _ w arr e g2;exact go h hfu hpp ⟨⟨_,hB,rfl⟩,⟨_,hB,rfl⟩⟩ hb g2 hlen AA trivial fun y hle hw hy=>⟨b,arr',e,hy,by rw[hw];exact q1,by rw[q2];exact ((g3.mono fun _ _=>Ba.mono hle).DC _ ((Kw (R x) hfu).mono fun _ _=>Ba.mono hle))⟩
   exact h.elim
  rename_i u id v i k he
  generalize hB:AP s.bk _=B at h
  split at h <;> try exact h.elim
  rename_i v' u' l n1 n2
  have hfu:=TF n1 n2;have hys:=Kw (R x) hfu
  obtain⟨rfl,hu,hks,z',x0,hi0,hyl,hcell,h⟩:v'=v/\u=u'/\k+(TI t).size<=u'.size/\∃(z' x0:el u'),l[i]? =some x0/\(ev s.sl x).cs.length=(TI t).size/\(∀(y:Cx) us0,(cx X w β (AP s.bk)).le y->BL (Ba y) (cells u' x0) us0->BL (Ba y) (cells u' z') (DC us0 k (a.eval x).cells.toList))/\
    ⟨.one .Bx,[(id,.arr v' u' (l.set i z'))],[id]⟩=f:=by
   split at h
   ·rename_i hc
    obtain⟨rfl,rfl,hsz,hu'⟩:=hc;obtain⟨z',hz,h⟩:=h;obtain⟨hi,hall⟩:=hz ();have hys:=SC hall hys;have hcl:=hys.length;rw[KS] at hcl;refine⟨rfl,T.beq_eq hu',AA,z',l[i],by simp[hi],?_,fun y us0 hle h0=>?_,h _ rfl⟩
    ·rw[(Kw (R x) hfu).length,<-hcl,hsz]
    rw[bL _ _ (by rw[<-h0.length,KS,hcl])];exact hys.mono fun _ _=>Ba.mono hle
   split at h
   ·rename_i hc
    obtain⟨rfl,hks,hu'⟩:=hc;obtain⟨x0,z',hz,h⟩:=h;obtain⟨hi0,hyl,hall⟩:=hz ();exact⟨rfl,T.beq_eq hu',hks,z',x0,hi0,hyl,fun y us0 hle h0=>SC hall (h0.DC k (hys.mono fun _ _=>Ba.mono hle)),h _ rfl⟩
   exact h.elim
  subst hu;have hcl:(a.eval x).cells.toList.length=(TI t).size:=by rw[<-hys.length,hyl]
  obtain⟨b,hb,hpp⟩:=(I he nofun).2 (EN hB).symm;obtain⟨arr,e,g2,g3⟩:=(S.blocks _ _ hB).1.arr hb
  have hlast:i*u.size+u.size<=arr.size:=by
   obtain⟨us0,hu1,hu2⟩:=g3 i x0 hi0;have hn:=T.size_pos u;have hlt:u.size-1<us0.length:=by rw[MO _ _ _ hu1];omega
   have h9:w.cell? ⟨b,i*u.size+(u.size-1),none⟩=_:=hu2 (u.size-1) us0[u.size-1] (by simp[hlt]);have:=Ge (show arr[_]? =_ by simpa [World.cell?,show w.heap[b]? =_ from g2] using h9);omega
  obtain⟨arr',q1,q2,q3⟩:=OI b (a.eval x).cells.toList (i*u.size+k) w arr e g2;refine go h hfu hpp ⟨⟨_,hB,rfl⟩,⟨_,hB,rfl⟩⟩ hb g2 hyl AA (by have:=(S.blocks _ _ hB).2;simpa [Af.short] using this) fun y hle hw hy=> .inr ⟨b,arr',e,hy,by rw[hw];exact q1,fun j y' hj=>?_⟩
  by_cases hji:j=i
  ·subst hji;obtain rfl:y'=z':=by simp[List.getElem?_set,H8 hi0] at hj;exact hj.symm
   obtain⟨us0,hu1,hu2⟩:=g3 j x0 hi0;have hul:=MO _ _ _ hu1;refine⟨_,(GK _ u y' _).2 (hcell y us0 hle ((GK _ u x0 us0).1 (Em hle.I _ _ _ hu1))),fun m v hm=>?_⟩;rw[hw];rw[TH _ _ _ _ AA] at hm
   split at hm
   ·have:=cn g2 (o:=j*u.size+k) AA _ _ hm;rwa [(AA:j*u.size+k+(m-k)=j*u.size+m)] at this
   rw[World.cell?_setCells_out b _ (j*u.size+k) w ⟨b,j*u.size+m,none⟩ (fun _ _=>by show j*u.size+m<j*u.size+k\/j*u.size+k+_<=j*u.size+m;omega)];exact hu2 m v hm
  obtain⟨us,hu1,hu2⟩:=g3 j y' (by simpa [List.getElem?_set,Ne.symm hji] using hj);refine⟨us,Em hle.I u y' us hu1,hw ▸ cp (fun m hm=>?_) hu2⟩;rw[MO _ _ _ hu1] at hm;rcases Nat.lt_or_gt_of_ne hji with h9 | h9
  ·have:=Nat.mul_le_mul_right u.size (show j+1<=i from h9);rw[Nat.add_mul] at this;omega
  have:=Nat.mul_le_mul_right u.size (show i+1<=j from h9);rw[Nat.add_mul] at this;omega
 case fieldAddr t x i=>
  obtain⟨hk,h⟩:=h
  have go:∀{fo n b off:Nat} {g:Bool},(TI t).fields[i]? =some (fo,n,g)->a.eval x= .pointer (some ⟨b,off,none⟩)->(execOp a.eval o).run P w= .ok (.value (.pointer (some ⟨b,off+fo,none⟩))) w:=by
   intro fo n b off g hf hv;obtain⟨fs,hu,hlen,hfs⟩:=(hT t).fields hk (by intro e;simp[e] at hf);obtain⟨fl,d,h1,rfl,h3,h4,_⟩:=hfs i fo n g hf;simp[execOp,ho,hv,Instr.fieldAt,run_underlying hu,h1,Instr.sureAddr,lK h3 h4]
  split at h
  ·rename_i hf he
   split at h
   ·rename_i hv
    obtain⟨hr,hr2⟩:=I he nofun;obtain⟨b,hb,hp⟩:=hr2 hv.symm;exact V h (go hf hp) (Or.inr ⟨⟨rfl,hr.2⟩,fun _=>⟨b,hb,rfl⟩⟩)
   exact h.elim
  ·rename_i hf he
   obtain⟨b,q,us,hp,h1⟩:=I he nofun;exact V h (go hf hp) (Or.inr ⟨b,q,us,by rw[Nat.add_assoc],h1⟩)
  ·rename_i hf he
   split at h
   ·rename_i hv
    obtain⟨hr,hr2⟩:=I he nofun;obtain⟨b,hb,hp⟩:=hr2 hv.symm;exact V h (go hf hp) (Or.inr ⟨⟨rfl,hr.2⟩,fun _=>⟨b,hb,by rw[Nat.add_assoc]⟩⟩)
   exact h.elim
  exact h.elim
 case field t x i=>
  obtain⟨hk,h⟩:=h;have hx:=R x
  split at h
  ·rename_i fo n g cs hf he
   rw[he] at hx;obtain⟨arr,hv,hall⟩:=hx
   split at h
   ·rename_i hl
    obtain⟨fs,hu,hlen,hfs⟩:=(hT t).fields hk (by intro e;simp[e] at hf);obtain⟨fl,d,h1,h2,h3,h4,h5,h6,h7⟩:=hfs i fo n g hf;obtain⟨ti,e1,e2⟩:=Option.map_eq_some_iff.1 h3;have hsub:BL (Ba (cx X w β (AP s.bk))) (Et cs fo n) ((arr.toList.drop fo).take n):=by rw[J6];exact (hall.drop fo).take n
    exact V h (by simp[execOp,ho,hv,Instr.field,run_underlying hu,h1,asAgg,h2,ar e1 e2 h5 h6 h7 (by rw[<-hsub.length,hl])]) (Qq hsub fun e=>hl.trans (h7 e))
   exact h.elim
  exact h.elim
 case build t parts=>
  cases hq:(TI t).arr with
  | some q=>
   simp only[hq] at h;obtain⟨ti,z,d,h1,h2,h3,h4,_⟩:=(hT t).info h.1;obtain⟨e,ei,d',hu,g1,g2,_⟩:=(hT t).arr q hq;have h:=h.2
   split at h
   ·rename_i cs hf
    obtain⟨c',q1,q2⟩:=Sy R (pl:=fun i=>some (i*q.2.1,q.2.1)) (fun i o n g hi=>by
     rw[XR,List.getElem?_map] at hi;obtain⟨j,hr,hj⟩:=Option.map_eq_some_iff.1 hi;obtain⟨_,hr⟩:=List.getElem?_eq_some_iff.1 hr;rw[List.getElem_range] at hr;cases hr;cases hj;rfl) parts.toList _ _ z.cells hf (h4 _)
    exact V (u:= .agg c') h (by simp[execOp,ho,Instr.build,zeroValue,typeInfo,h1,h3,run_underlying hu,sizeOf,g1,g2,q1]) ⟨c',rfl,q2⟩
   exact h.elim
  | none=>
   simp only[hq] at h;obtain⟨⟨hk,hke⟩,h⟩:=h;obtain⟨ti,z,d,h1,h2,h3,h4,_⟩:=(hT t).info hk
   split at h
   ·rename_i cs hf
    obtain⟨fs,hu,hlen,hfs⟩:=(hT t).fields hk fun e=>by simp[e] at hke
    have hp1:fs.toList.mapM (fun f=>(P.info? f.type).map fun i=>(f.offset,i.size))=some ((TI t).fields.map fun x=>(x.1,x.2.1)):=mapM_some_of_get _ _ (by simpa using hlen) fun i x hx=>by
     have hi:i<(TI t).fields.length:=hlen ▸ Ge (by simpa using hx);obtain⟨fl,d',e1,e2,e3,_⟩:=hfs i (TI t).fields[i].1 (TI t).fields[i].2.1 (TI t).fields[i].2.2 (by simp[hi]);obtain rfl:x=fl:=Option.some.inj ((show fs[i]? =some x by simpa using hx).symm.trans e1);obtain⟨ti',e4,e5⟩:=Option.map_eq_some_iff.1 e3;simp[hi,e2,e4,e5]
    obtain⟨c',q1,q2⟩:=Sy R (pl:=fun i=>((TI t).fields.map fun x=>(x.1,x.2.1)).toArray[i]?) (fun i o n g hi=>by simp[hi]) parts.toList _ _ z.cells hf (h4 _)
    have hb:P.built t (parts.map fun (i,x)=>(i,a.eval x)).toList=some c':=by
     unfold Program.built;simp only[h1,hu,h3,hp1];simpa using q1
    exact V (u:= .agg c') h (by simp[execOp,ho,run_build w t _ c' hb]) ⟨c',rfl,q2⟩
   exact h.elim
 case buildSlice t len parts=>
  cases hpt:(TI t).pt <;> simp only[hpt] at h
  case true=>
   split at h
   ·rename_i ps hps
    obtain⟨hpl,hlen,hix⟩:=h.1 ();obtain⟨hu,ei,z,g2,g3,g5,g6⟩:=(hT t).pt hpt;have hat:=pC (vs:=parts.toList.map fun p=>a.eval p.2) (by simpa [Function.comp_def] using Nf R (parts.toList.map (·.2))) hps;have hone:=EJ.oV hat;have hl:parts.toList.length=len:=by rw[<-hpl,hat.length,List.length_map]
    obtain⟨arr,hrun,harr⟩:=Xo (w:=w) ho hu g2 g3 g5 Nat.one_pos AA hl (by
     have h1:=fU (parts.toList.map fun p=>(p.1,a.eval p.2)) 0 (by rw[List.map_map,List.length_map,hl,<-List.range_eq_range'];exact hix);rw[List.map_map] at h1;exact h1) fun v hv=>by rw[Qa (hone v hv)];rfl
    rw[Xs _ hone] at harr;have hf:=h.2;subst hf;exact OS hrun (hN _ _ _ (S.ext (Dz.push rfl rfl rfl rfl) fun hle=>Or.inr ⟨w.heap.size,0,len,_,by rw[hpl],AA,⟨Ai,fun id hl hb=>absurd (S.lt hl hb) AA⟩,hat.mono fun _ _=>EJ.mono hle,harr ▸ N8 (heap_alloc_new w _)⟩))
   exact h.elim
  obtain⟨hk,h16,xs,hxs,h⟩:=h;obtain⟨hxl,hlen,hfull,hall⟩:=hxs ();obtain⟨hu,ei,z,g1,g2,g3,g4,g5,g6⟩:=(hT t).sl hk
  have hvals:∀(ps:List (Nat×Operand)) (k:Nat) (ys:List (el (TI t).elem)),(ps.all fun p=>(ev s.sl p.2).full)=true->SB (ps.map fun p=>(p.1,(ev s.sl p.2).cs)) k (ys.map (cells _))->
    (ps.map fun p=>(p.1,a.eval p.2))=((ps.map fun p=>a.eval p.2).zipIdx k).map (fun x=>(x.2,x.1))/\(∀v∈ps.map fun p=>a.eval p.2,v.cells.size=(TI t).elem.size)/\
    De w (cx X w β (AP s.bk)).I (TI t).elem ys ((ps.map fun p=>a.eval p.2).flatMap (·.cells.toList))/\ys.length=ps.length:=by
   intro ps
   induction ps with
   | nil=>intro k ys _ h2;cases ys with
    | nil=>exact⟨rfl,Ai,rfl,rfl⟩
    | cons y ys=>exact h2.elim
   | cons p ps ih=>
    intro k ys h1 h2;cases ys with
    | nil=>exact h2.elim
    | cons y ys=>
     obtain⟨e1,e2,e3⟩:=h2;simp only[List.all_cons,Bool.and_eq_true] at h1;have hcs:=SC e2 (Kw (R p.2) h1.1);obtain⟨q1,q2,q3,q4⟩:=ih (k+1) ys h1.2 e3;refine⟨by rw[List.map_cons,List.map_cons,List.zipIdx_cons,List.map_cons,q1,(e1:p.1=k)],fun v hv=>?_,⟨_,_,by rw[List.map_cons,List.flatMap_cons],(GK _ _ _ _).2 hcs,q3⟩,by simp[q4]⟩;rcases List.mem_cons.1 hv with rfl | hv
     ·have:=hcs.length;rw[KS] at this;simpa using this.symm
     exact q2 v hv
  obtain⟨q1,q2,q3,q4⟩:=hvals parts.toList 0 xs hfull hall;obtain⟨arr,hrun,harr⟩:=Xo (w:=w) ho hu g1 g2 g5 (T.size_pos _) (by have:=Nat.mul_le_mul hlen h16;omega) AA q1 q2;rw[<-harr] at q3;have hsz:arr.size=len*(TI t).elem.size:=by have:=q3.length;rwa [hxl] at this
  have hmax:len<=maxLen:=by unfold maxLen;omega
  have hB:∀y:Cx,(cx X w β (AP s.bk)).le y->y.w.heap[w.heap.size]? =some (.cells arr (TI t).C8 (0,0))->∀(i:Nat) (u:el (TI t).elem),xs[i]? =some u->∃us,rep y.w y.I (TI t).elem u us/\y.w.rangeAt w.heap.size (0+i*(TI t).elem.size) us:=fun y hle hw=>U8 (De.mono hle.I q3) (N8 hw)
  rcases h with h | h
  ·exact D hd h hrun ⟨rfl,rfl,rfl,rfl⟩ ⟨rfl,by show xs.length<=_;omega⟩ fun y hle _ hw hb hc=>⟨.inr ⟨_,arr,_,hb,hw,fun i u hi=>by simpa using hB y hle hw i u hi⟩,
    .inr ⟨⟨rfl,AA⟩,fun _=>⟨_,_,rfl,Nat.le_refl _,hmax,nofun,.inr ⟨_,_,_,hb,by rw[Nat.zero_mul],hw,by rw[hsz,Nat.zero_add];exact Nat.le_refl _⟩⟩⟩⟩
  subst h;exact OS hrun (hN _ _ _ (S.ext (Dz.push rfl rfl rfl rfl) fun hle=>Or.inr ⟨_,len,by rw[hxl],AA,AA,.inr ⟨w.heap.size,0,rfl,⟨⟨Ai,fun id hl hb=>absurd (S.lt hl hb) AA⟩,S.fresh.1 _ _ S.Fh.size⟩,hB _ hle (heap_alloc_new w _)⟩⟩))
 case makeSlice t x y=>
  obtain⟨hk,h⟩:=h;obtain⟨hu,ei,z,g1,g2,g3,g4,g5,g6⟩:=(hT t).sl hk
  split at h
  ·rename_i k n k' m he he'
   have hx':a.eval x= .int k n:=I he nofun;have hy':a.eval y= .int k' m:=I he' nofun;obtain⟨h0,h1,h2⟩:=h.1 ();unfold fits at h2;have hmm:m.toNat<=140737488355328:=Nat.le_trans (Nat.le_mul_of_pos_right _ AA) h2
   have hb:(ei.bytes:Int)*m<=281474976710656:=by
    have e1:((ei.bytes*m.toNat:Nat):Int)<=281474976710656:=by rw[Nat.mul_comm,g3];omega
    rw[Int.natCast_mul] at e1;rwa [Int.toNat_of_nonneg AA] at e1
   have hrun:=run_make (P:=P) w t _ ei z hu g1 g5 k k' n m h0 h1 hb AA;have hzs:z.cells.size=(TI t).elem.size:=by have:=(g6 (cx X w β (AP s.bk))).length;rw[KS] at this;exact this.symm
   refine D (u:= .slice (some ⟨w.heap.size,0,none⟩) n.toNat m.toNat) hd (h.2 _ _ ⟨rfl,rfl⟩) (w':=w.alloc (.cells (madeCells z.cells (m.toNat*ei.size)) (TI t).C8)) (by simp[execOp,ho,hx',hy',hrun]) ⟨rfl,rfl,rfl,rfl⟩ ⟨rfl,by simp[Af.short];omega⟩ fun y _ _ hw hb hc=>⟨.inr ⟨_,_,_,hb,hw,fun i u hi=>?_⟩,
    .inr ⟨⟨rfl,AA⟩,fun _=>⟨_,_,rfl,AA,by unfold maxLen;omega,nofun,.inr ⟨_,_,_,hb,by rw[Nat.zero_mul],hw,by rw[size_madeCells,g2,Nat.zero_add];exact Nat.le_refl _⟩⟩⟩⟩
   have hi':i<n.toNat:=by simpa using H8 hi
   obtain rfl:u=(TI t).CD:=by simpa [List.getElem?_replicate,hi',eq_comm] using hi
   refine⟨z.cells.toList,(GK y _ _ _).2 (g6 y),fun j v hj=>?_⟩;have hj':j<(TI t).elem.size:=hzs ▸ H8 hj
   have h9:i*(TI t).elem.size+j<m.toNat*ei.size:=by
    have:(i+1)*(TI t).elem.size<=m.toNat*(TI t).elem.size:=Nat.mul_le_mul_right _ AA;rw[g2];rw[Nat.add_mul] at this;omega
   have h10:(i*(TI t).elem.size+j)%z.cells.size=j:=by rw[hzs,Nat.add_comm,Nat.add_mul_mod_self_right,Nat.mod_eq_of_lt hj']
   have h11:(madeCells z.cells (m.toNat*ei.size))[i*(TI t).elem.size+j]? =z.cells[j]? :=by
    simp only[madeCells,Array.getElem?_map];rw[Array.getElem?_range];simp[h9,h10,(AA:j<z.cells.size)]
   simpa [World.cell?,hw,h11] using hj
  exact h.elim
 case indexAddr t x i=>
  cases hpt:(TI t).pt <;> simp only[hpt] at h
  case true=>
   split at h
   ·rename_i ps k n he he'
    obtain⟨p,hp,h⟩:=h;obtain⟨hn0,hpp⟩:=hp ();obtain⟨hu,ei,z,g1,g2,g3,g4⟩:=(hT t).pt hpt;obtain⟨b,off,cap,us,hv,h1,hI,hps,hr⟩:=I he nofun;obtain⟨u,hu2,hat⟩:=hps.get _ p hpp;have hlt:=H8 hpp;refine V (u:= .pointer (some ⟨b,off+n.toNat,none⟩)) h (by simp[execOp,ho,hv,show a.eval i= .int _ _ from I he' nofun,Instr.indexAt,asIntOf,run_underlying hu,Q5 g1,g2,hn0,(AA:n<(ps.length:Int)),Addr.add_mid]) (Or.inr ⟨b,_,u,rfl,hI,hat,fun j v hj=>?_⟩);cases j with
    | zero=>cases hj;exact hr _ _ hu2
    | succ j=>simp at hj
   exact h.elim
  cases hq:(TI t).arr <;> simp only[hq] at h
  case some q=>
   obtain⟨e,ei,d,hu,g1,g2,_⟩:=(hT t).arr q hq
   have go:∀{b off:Nat} {k:IntKind} {n:Int},a.eval x= .pointer (some ⟨b,off,none⟩)->a.eval i= .int k n->0<=n/\n.toNat<q.1->(execOp a.eval o).run P w= .ok (.value (.pointer (some ⟨b,off+n.toNat*q.2.1,none⟩))) w:=by
    intro b off k n hv hn h0;simp[execOp,ho,hv,hn,Instr.indexAt,Instr.sureAddr,asIntOf,run_underlying hu,Q5 g1,g2,h0.1,(AA:n<(q.1:Int)),Addr.add_mid]
   split at h
   ·rename_i he he'
    split at h
    ·rename_i hv
     obtain⟨hr,hr2⟩:=I he nofun;obtain⟨b,hb,hp⟩:=hr2 hv.symm;exact V h.2 (go hp (I he' nofun) (h.1 ())) (Or.inr ⟨⟨rfl,hr.2⟩,fun _=>⟨b,hb,rfl⟩⟩)
    exact h.elim
   ·rename_i he he'
    obtain⟨u,z,h1,h⟩:=h;obtain⟨b,p,us,hp,hI,hu,ha⟩:=I he nofun;exact V h (go hp (I he' nofun) (h1 ()).1) (Or.inr ⟨b,_,_,by rw[Nat.add_assoc];rfl,hI,(GK (cx X w β (AP s.bk)) _ _ _).2 (by rw[(h1 ()).2,J6];exact (((GK (cx X w β (AP s.bk)) _ _ us).1 hu).drop _).take _),Uq ha⟩)
   exact h.elim
  obtain⟨hk,h⟩:=h;obtain⟨hu,ei,z,g1,g2,_⟩:=(hT t).sl hk
  have go:∀{b off len cap:Nat} {k:IntKind} {n:Int},a.eval x= .slice (some ⟨b,off,none⟩) len cap->a.eval i= .int k n->0<=n/\n.toNat<len->(execOp a.eval o).run P w= .ok (.value (.pointer (some ⟨b,off+n.toNat*(TI t).elem.size,none⟩))) w:=by
   intro b off len cap k n hv hn h0;simp[execOp,ho,hv,hn,Instr.indexAt,asIntOf,run_underlying hu,Q5 g1,g2,h0.1,(AA:n<(len:Int)),Addr.add_mid]
  split at h
  ·rename_i he he'
   obtain⟨base,cap,hv,h1,h2,h3⟩:=I he nofun;obtain⟨hbq,y,hy,h⟩:=h;obtain rfl:=T.beq_eq hbq;obtain⟨hn0,hly⟩:=hy ();rcases h3 with rfl |⟨b,off,rfl,hI,hc⟩
   ·cases H8 hly
   obtain⟨us,hu1,hu2⟩:=hc _ y hly;exact V h (go (List.cons.inj hv).1 (I he' nofun) ⟨hn0,H8 hly⟩) (Or.inr ⟨b,_,us,rfl,⟨_,hI⟩,hu1,hu2⟩)
  ·rename_i he he'
   obtain⟨hbq,h⟩:=h;obtain rfl:=T.beq_eq hbq
   split at h
   ·rename_i hv
    obtain⟨hr,hr2⟩:=I he nofun;obtain⟨base,cap,hs,h1,h2,_,h3⟩:=hr2 hv.symm;have hn:=h.1 ();rcases h3 with rfl |⟨b,arr,e,hb,rfl,hh,hsz⟩
    ·omega
    exact V (h.2 _ rfl) (go hs (I he' nofun) hn) (Or.inr ⟨⟨rfl,hr.2⟩,fun _=>⟨b,hb,by rw[Nat.add_mul,Nat.add_zero]⟩⟩)
   exact h.elim
  exact h.elim
 case index t x i=>
  cases hq:(TI t).arr <;> simp only[hq] at h
  case some q=>
   have hx:=R x
   split at h
   ·rename_i cs k n he he'
    rw[he] at hx;obtain⟨arr,hv,hall⟩:=hx;obtain⟨hn0,hn1⟩:=h.1 ();obtain⟨e,ei,d,hu,h3,hs,h5,h6,h7,_⟩:=(hT t).arr q hq;have h:=h.2
    split at h
    ·rename_i hl
     have hsub:BL (Ba (cx X w β (AP s.bk))) (Et cs (n.toNat*q.2.1) q.2.1) ((arr.toList.drop (n.toNat*q.2.1)).take q.2.1):=by rw[J6];exact (hall.drop _).take _
     exact V h (by simp[execOp,ho,hv,show a.eval i= .int _ _ from I he' nofun,Instr.index,asIntOf,run_underlying hu,hn0,(AA:n<(q.1:Int)),sizeOf,typeInfo,h3,hs,ar (w:=w) h3 hs h5 h6 h7 (by rw[<-hsub.length,hl])]) (Qq hsub fun e=>hl.trans (h7 e))
    exact h.elim
   exact h.elim
  obtain⟨hk,h⟩:=h
  split at h
  ·rename_i z k n he he'
   obtain⟨b,h1,h⟩:=h;obtain⟨h1,h2⟩:=h1 ()
   have h3:z[n.toNat]? =some b:=by
    obtain⟨q,e⟩:=Array.getElem?_eq_some_iff.1 h2;rw[getElem?_pos z n.toNat q];exact congrArg some e
   exact V (h _ ⟨rfl⟩) (by simp[execOp,ho,show a.eval x= .string _ from I he nofun,show a.eval i= .int _ _ from I he' nofun,Instr.index,asIntOf,run_underlying ((hT t).P6 hk),h1,h3]) (Or.inr rfl)
  exact h.elim
 case slice t x lo hi mx=>
  split at h
  ·rename_i z he
   obtain⟨l,q,m,c,hr,_,_,_,_,_,b6,b7,hc,hR⟩:=O5 (P:=P) (w:=w) R (Nat.le_refl _) (h.2 _ rfl) false;obtain rfl:=b6 hc;obtain rfl:mx=none:=Classical.byContradiction fun e=>by cases (b7 e).symm.trans hc
   exact V (hR _ rfl) (by simp[execOp,ho,show a.eval x= .string _ from I he nofun,Instr.sliceAt,run_underlying ((hT t).P6 h.1),Instr.slice,show (Instr.sliceBounds false z.size z.size (lo.map a.eval) (hi.map a.eval) none).run P w=_ from hr]) (Or.inr rfl)
  obtain⟨hk,h⟩:=h;obtain⟨hu,ei,z,g1,g2,_⟩:=(hT t).sl hk
  have go:∀{base:Option Addr} {len cap l q m:Nat},a.eval x= .slice base len cap->(Instr.sliceBounds true len cap (lo.map a.eval) (hi.map a.eval) (mx.map a.eval)).run P w= .ok (l,q,m) w->
    (execOp a.eval o).run P w= .ok (.value (.slice (if m=l then base else base.map (·.add (l*(TI t).elem.size))) (q-l) (m-l))) w:=by
   intro base len cap l q m hv hr;simp[execOp,ho,hv,Instr.sliceAt,run_underlying hu,Instr.slice,hr,Q5 g1,g2]
  unfold O4 at h
  split at h
  ·rename_i u l he
   obtain⟨base,cap,hv,h1,h2,h3⟩:=I he nofun;obtain⟨hbq,h⟩:=h;obtain rfl:=T.beq_eq hbq;obtain⟨p,q,m,c,hr,b1,b2,b3,b4,_,_,_,hR⟩:=O5 (P:=P) (w:=w) R h1 (h _ rfl);have hlen:((l.take q).drop p).length=q-p:=by simp;omega
   refine V (hR _ rfl) (go (List.cons.inj hv).1 hr) (Or.inr ⟨_,m-p,by rw[hlen],AA,AA,?_⟩)
   by_cases hqp:q=p
   ·left;subst hqp;simp
   right
   rcases h3 with rfl |⟨b,off,rfl,hI,hc⟩
   ·simp at b2;omega
   refine⟨b,off+p*(TI t).elem.size,by rw[if_neg AA];simp[Addr.add_mid],hI,fun j y hj=>?_⟩
   obtain⟨us,hu1,hu2⟩:=hc (p+j) y (by
    rw[List.getElem?_drop,List.getElem?_take] at hj
    split at hj
    ·exact hj
    cases hj)
   exact⟨us,hu1,by rwa [Nat.add_mul,<-Nat.add_assoc] at hu2⟩
  ·rename_i u id v off len he
   obtain⟨hbq,h⟩:=h;obtain rfl:=T.beq_eq hbq
   split at h
   ·rename_i hvv
    obtain⟨hr0,hr2⟩:=I he nofun;obtain⟨base,cap,hs,h1,h2,_,h3⟩:=hr2 hvv.symm;obtain⟨p,q,m,c,hr,b1,b2,b3,b4,b5,_,_,hR⟩:=O5 (P:=P) (w:=w) R h1 h
    have hL:∀fl,(fl=true->m-p=q-p)->JF w (β id) (TI t).elem.size (off+p) (q-p) fl (.slice (if m=p then base else base.map (·.add (p*(TI t).elem.size))) (q-p) (m-p)):=by
     refine fun fl hfl=>⟨_,m-p,rfl,AA,AA,hfl,?_⟩
     by_cases hmp:m=p
     ·left;omega
     right
     rcases h3 with rfl |⟨b,arr,e,hb,rfl,hh,hsz⟩
     ·omega
     have:=Nat.mul_le_mul_right (TI t).elem.size (AA:off+p+(m-p)<=off+cap);exact⟨b,arr,e,hb,by rw[if_neg hmp];simp[Addr.add_mid,Nat.add_mul],hh,AA⟩
    have hR:=hR _ _ ⟨rfl,rfl⟩;cases c with
    | true=>exact V hR (go hs hr) (Or.inr ⟨⟨rfl,hr0.2⟩,fun _=>hL true fun _=>by have:=b5 rfl;omega⟩)
    | false=>exact V hR (go hs hr) (Or.inr ⟨⟨rfl,hr0.2⟩,fun _=>hL false nofun⟩)
   exact h.elim
  ·rename_i he
   obtain⟨p,q,m,c,hr,b1,b2,b3,b4,_,_,_,hR⟩:=O5 (P:=P) (w:=w) (cap:=0) R (Nat.le_refl _) h;obtain⟨rfl,rfl,rfl⟩:p=0/\q=0/\m=0:=AA
   exact V hR (go (show a.eval x= .slice none 0 0 from I he nofun) hr) (Or.inr (by simp[Ba]))
  exact h.elim
 case binOp op t x y t'=>
  split at h
  ·rename_i k m k' n he he'
   split at h
   ·rename_i hk
    obtain⟨c,hf,hc⟩:=XQ h;obtain⟨u,hu,hr⟩:=jY (P:=P) (w:=w) (t:=t) hk (hc (fun d=>d=c) rfl);have hg:(eqGuard op t x y (.int k m) (.int k' n)).run P w= .ok () w:=by unfold eqGuard;cases op <;> simp
    exact V hf (by simp only[execOp,ho,show a.eval x= .int _ _ from I he nofun,show a.eval y= .int _ _ from I he' nofun,Sem.run_bind,hg,Result.andThen_ok,hu,Sem.run_pure]) (Or.inr (hr _))
   exact h.elim
  ·rename_i m n he he'
   obtain⟨h1,h⟩:=h;have hu:=(hT t).isb h1
   have hq:(Op.equal t (.bool m) (.bool n)).run P w= .ok (m==n) w:=by
    have hd:∀d,(Op.equalIn (d+1) t (.bool m) (.bool n)).run P w= .ok (m==n) w:=fun d=>by
     unfold Op.equalIn;simp[run_underlying hu]
    exact hd 9999
   have hg:(eqGuard op t x y (.bool m) (.bool n)).run P w= .ok () w:=by unfold eqGuard;cases op <;> simp
   have hx':a.eval x= .bool m:=I he nofun;have hy':a.eval y= .bool n:=I he' nofun;cases op <;> first | exact h.elim | exact V (h _ rfl) (by simp[execOp,ho,hx',hy',Sem.run_bind,hg,binOp,hq,bne]) (Or.inr rfl)
  ·rename_i ty l he he'
   obtain⟨base,cap,hv,_,_,hrest⟩:=I he nofun;have hx':a.eval x= .slice base l.length cap:=(List.cons.inj hv).1;have hy':a.eval y= .slice none 0 0:=I he' nofun;obtain⟨h1,h⟩:=h;have hq:(Op.equal t (.slice base l.length cap) (.slice none 0 0)).run P w= .ok base.isNone w:=run_equal_slice_nil w t _ base l.length cap ((hT t).sl h1).1;have hg:(eqGuard op t x y (.slice base l.length cap) (.slice none 0 0)).run P w= .ok () w:=by unfold eqGuard;cases op <;> simp
   cases op <;> first | exact h.elim | exact V (u:= .bool base.isNone) (h _ rfl) (by simp[execOp,ho,hx',hy',Sem.run_bind,hg,binOp,hq]) (Or.inr ⟨_,rfl,fun hb=>hrest.elim (fun e=>by rw[e];rfl) fun⟨b,off,e,_⟩=>by rw[e] at hb;cases hb⟩)
  ·rename_i m n he he'
   have hx':a.eval x= .string m:=I he nofun;have hy':a.eval y= .string n:=I he' nofun;have hg:(eqGuard op t x y (.string m) (.string n)).run P w= .ok () w:=by unfold eqGuard;cases op <;> simp
   cases op <;> first
    | exact h.elim
    | exact V (h _ rfl) (by simp[execOp,ho,hx',hy',Sem.run_bind,hg,binOp,Op.stringOp,bne]) (Or.inr rfl)
    | (have h2:¬(((m.size+n.size:Nat):Int)>IntKind.i64.max):=by have e:IntKind.i64.max=9223372036854775807:=rfl;have:=h.1 ();rw[e];omega
       exact V (u:= .string (m++n)) (h.2 _ rfl) (by simp only[execOp,ho,hx',hy',Sem.run_bind,hg,binOp,Op.stringOp,if_neg h2];rfl) (Or.inr rfl))
  exact h.elim
 case unOp op t x=>
  split at h
  ·rename_i he
   exact V (h _ rfl) (by simp[execOp,ho,show a.eval x= .bool _ from I he nofun,Op.unary]) (Or.inr rfl)
  ·rename_i k n he
   have hu':(Op.intArith .sub k 0 n).run P w= .ok (.int k (k.wrap (0-n))) w:=rfl;exact V (h _ rfl) (by simp[execOp,ho,show a.eval x= .int _ _ from I he nofun,Op.unary,hu']) (Or.inr rfl)
  exact h.elim
 case convert src dst x=>
  obtain⟨hk,h⟩:=h
  split at h <;> try exact h.elim
  ·rename_i hd he
   obtain⟨_,_,d,_,_,_,_,hu,_⟩:=(hT src).info hk;exact V (h _ rfl) (by simp[execOp,ho,show a.eval x= .int _ _ from I he nofun,convert,run_underlying hu,run_underlying ((hT dst).kind _ hd),Conv.intToInt]) (Or.inr rfl)
  rename_i hd he
  obtain⟨g1,g2,g3,l,g4,h⟩:=h;obtain rfl:=g4 ();have:=jv ((hT src).sl g2).1 ((hT _).kind _ g3) ((hT dst).P6 g1) (I he nofun);simp only[cx] at this;exact V (h _ rfl) (by simp[execOp,ho,this]) (Or.inr rfl)
 case makeFunc fn first cap=>
  split at h
  ·rename_i h1 h2
   obtain rfl:first= #[]:=by simpa using h1
   exact V (u:= .func (.func _) #[] (cap.map a.eval)) h (by simp[execOp,ho,Instr.makeFunc]) (Or.inr ⟨_,rfl,by rw[Array.toList_map];exact jw (Nf R cap.toList) h2⟩)
  exact h.elim
 case call c=>
  cases hb:c.callee <;> simp only[hb] at h hd
  ·exact absurd hb (hc c _ ho)
  obtain⟨u,w',β',hr,S'⟩:=qw hT ho hb hd S h;exact OS hr (hN _ _ _ S')
end
section
variable {R S:AC->Value->Prop} {p:AC->Bool} {x y:Cx} {c d:AC} {v:Value}
theorem AV.NA (r:AV):r.all p=r.cells.all p:=by cases r <;> simp[AV.all,AV.cells,List.all_flatMap]
theorem AV.O3 {r:AV}:r.all p=true↔∀c∈r.cells,p c=true:=by rw[r.NA,List.all_eq_true]
theorem RV.mem {r:AV} (hw:r.wf=true) (h:RV R r v):∀c∈r.cells,c= .Bx\/∃u,R c u:=by
 have g:∀{cs:List AC} {us:List Value},BL R cs us->∀c∈cs,c= .Bx\/∃u,R c u:=fun h=>by
  induction h with
  | nil=>simp
  | cons q _ l=>exact fun c b=>(List.mem_cons.1 b).elim (fun e=> .inr ⟨_,e ▸ q⟩) (l c)
 cases r with
 | one d=>exact fun c b=>by rw[List.mem_singleton.1 b];exact h.imp id fun q=>⟨_,q⟩
 | agg cs=>obtain⟨_,_,h⟩:=h;exact g h
 | Aj xs=>
  obtain⟨arr,_,h⟩:=h;simp only[AV.wf,List.all_eq_true] at hw;intro c b;obtain⟨z,j,b⟩:=List.mem_flatMap.1 b;obtain⟨i,k⟩:=List.mem_iff_getElem?.1 j;obtain⟨u,_,hu⟩:=h.get i z k;have hw:=hw z j
  match z,hw,b,hu with
  | (true,_),_,b,⟨_,_,h⟩=>exact g h c b
  | (false,[d]),_,b,h=>rw[List.mem_singleton.1 b];exact h.imp id fun q=>⟨_,q⟩
  | (false,[]),_,b,_=>cases b
  | (false,_::_::_),hw,_,_=>simp at hw
theorem al (d v:Nat):∀cs:List AC,(N4 d v cs=[]/\∀c∈cs,Gy c=true->Dc c=true)\/∃t l n,.own t l n∈cs/\N4 d v cs=[(d,.arr v t l)]
 | []=> .inl ⟨rfl,Ai⟩
 | c::cs=>by
  have j:=al d v cs
  cases c <;> first
   | exact .inr ⟨_,_,_,List.mem_cons_self ..,rfl⟩
   | exact j.imp (fun h=>⟨h.1,fun c i=>(List.mem_cons.1 i).elim (fun e=>by rw[e];exact fun h=>h) (h.2 c)⟩) fun⟨t,l,n,b,g⟩=>⟨t,l,n,List.mem_cons_of_mem _ b,g⟩
theorem OC {lo:Nat} {g:Option Nat} (h:∀o b,x.I o b->y.I o b/\y.w.heap[b]? =x.w.heap[b]?) (e:Dc c=true) (r:GN x lo g c v):Ba y c v:=by
 cases c <;> first | exact Gz h e r | cases e
theorem pT {w w':World} {I I':PI} {t0:T} (h:∀o b,o≠some t0->I o b->I' o b/\w'.heap[b]? =w.heap[b]?) (t:T) (hf:KZ t0 t=true):∀(x:el t) (vs:List Value),rep w I t x vs->rep w' I' t x vs:=by
 induction t with
 | pr a b u z=>
  simp only[KZ,Bool.and_eq_true] at hf;exact fun _ _ ⟨v1,v2,e,j,k⟩=>⟨v1,v2,e,u hf.1 _ v1 j,z hf.2 _ v2 k⟩
 | sl t A=>
  simp only[KZ,Bool.and_eq_true,Bool.not_eq_true'] at hf;have g:some t≠some t0:=fun e=>by rw[Option.some.inj e,T.beq_refl] at hf;exact absurd hf.1 Ai
  exact fun _ _ ⟨base,cap,e,j,k,n⟩=>⟨base,cap,e,j,k,n.imp id fun⟨b,off,hb,l,m⟩=>
   ⟨b,off,hb,(h _ b g l).1,fun i x r=>let ⟨us,hu,q⟩:=m i x r;⟨us,A hf.2 x us hu,rangeAt_of_block (h _ b g l).2 q⟩⟩⟩
 | ex | rf=>cases hf
 | _=>exact fun _ _ h=>h
theorem pP {lo:Nat} {g:Option Nat} {t0:T} (h:∀o b,o≠some t0->x.I o b->y.I o b/\y.w.heap[b]? =x.w.heap[b]?) (e:Y1 t0 c=true) (r:GN x lo g c v):Ba y c v:=by
 cases c <;> first | exact r | exact pT h _ e _ _ r | cases e
theorem bf {w w':World} {I I':PI} (t:T) (hf:t.flat=true):∀(x:el t) (vs:List Value),rep w I t x vs->rep w' I' t x vs:=by
 induction t with
 | pr a b j k=>
  simp only[T.flat,Bool.and_eq_true] at hf;exact fun _ _ ⟨v1,v2,e,g,i⟩=>⟨v1,v2,e,j hf.1 _ v1 g,k hf.2 _ v2 i⟩
 | sl | ex | rf=>cases hf
 | _=>exact fun _ _ h=>h
theorem XF:∀{us:List Value},BL (Ba x) [c] us->∃u,us=[u]/\Ba x c u
 | [u],.cons h _=>⟨u,rfl,h⟩
end
section
variable {P:Program} {TI:TypeId->Info} {w0 w:World} {X:WX} {β:Nat->Option Nat} {s:St} {a:Act} {J:PI} {c d:AC} {v:Value}
theorem RI (S:BX w0 X β s a w) (i:∀o b,(cx X w β (AP s.bk)).I o b->J o b) {id k:Nat} {t:T} {y:el t} (hb:AP s.bk id=some (.var k (cells t y))) (j:∀b,live (AP s.bk) id->β id=some b->b<w.heap.size->J none b) (r:EJ (cx X w β (AP s.bk)) id k 0 v):Hv w J ⟨t,y⟩ 0 v:=by
 obtain⟨b,g,hu⟩:=r.2 (EN hb).symm;obtain⟨arr,e,h,l⟩:=(S.blocks id _ hb).1.var g;exact⟨b,0,arr.toList,hu,⟨none,j b ⟨_,hb,rfl⟩ g (Ge h)⟩,Em (w':=w) (fun o b hb=>⟨i o b hb,rfl⟩) _ _ _ ((GK _ t y arr.toList).2 l),N8 h⟩
theorem qm (S:BX w0 X β s a w) (l:∀o b,(cx X w β (AP s.bk)).I o b->J o b) {j:List (Nat×Nat)} {us:List Value} (r:BL (fun p=>EJ (cx X w β (AP s.bk)) p.1 p.2 0) j us):∀{g:List ((t:T)×el t)},
  (∀id b,id∈j.map (·.1)->live (AP s.bk) id->β id=some b->b<w.heap.size->J none b)->OL (AP s.bk) j g->BL (fun q=>Hv w J q 0) g us:=by
 induction r with
 | nil=>intro g _ h;cases g with
  | nil=>exact .nil
  | cons=>exact h.elim
 | cons r _ m=>intro g k h;cases g with
  | nil=>exact h.elim
  | cons=>exact .cons (RI S l h.1 (fun b=>k _ b Ai) r) (m (fun id b i=>k id b (List.mem_cons_of_mem _ i)) h.2)
theorem qo (S:BX w0 X β s a w) {l2:List Nat} {u:List (Nat×Nat)} {us:List Value} (r:BL (fun p=>EJ (cx X w β (AP s.bk)) p.1 p.2 0) u us):∀{g:List ((t:T)×el t)},OM (AP s.bk) l2 u g->BL (fun q=>Hv w (fun _ b=>b<w.heap.size) q 0) g us:=by
 induction r with
 | nil=>intro g h;cases g with
  | nil=>exact .nil
  | cons=>exact h.elim
 | cons r _ A=>intro g h;cases g with
  | nil=>exact h.elim
  | cons q _=>
   refine .cons ?_ (A h.2);obtain⟨t,y⟩:=q;have m:=h.1;cases t
   case rf t=>
    obtain⟨id,v,_,hb,i⟩:=m;obtain⟨b,k,hu⟩:=r.2 (EN hb).symm;obtain⟨arr,e,n,D⟩:=(S.blocks _ _ hb).1.var k;obtain⟨F,j,B⟩:=XF D;obtain⟨b2,C,l,e2,g1,g2,z⟩:=RI (J:=fun _ b=>b<w.heap.size) S (fun _ b hb=>hb.1.1) i (fun _ _ _ h=>h) B;exact⟨b,0,[F],hu,⟨none,Ge n⟩,⟨b2,C,l,by rw[e2];rfl,g1,g2,z⟩,j ▸ N8 n⟩
   all_goals exact RI (J:=fun _ b=>b<w.heap.size) S (fun _ b hb=>hb.1.1) m (fun _ _ _ h=>h) r
theorem Q7 (S:BX w0 X β s a w) {x:Cx} (D:x.w=w) (j:∀o b,(cx X w β (AP s.bk)).I o b->x.I o b) (m:∀o id b,id∈Ch c->live (AP s.bk) id->β id=some b->b<w.heap.size->x.I o b) (h:G1 (AP s.bk) c d) (r:Ba (cx X w β (AP s.bk)) c v):Ba x d v:=by
 subst D;have u:∀o b,(cx X x.w β (AP s.bk)).I o b->x.I o b/\x.w.heap[b]? =x.w.heap[b]? :=fun o b hb=>⟨j o b hb,rfl⟩
 cases c with
 | AU t id k off len=>
  obtain⟨l,hb,hle,rfl⟩:=h;obtain⟨base,cap,e,g,C,_,h3⟩:=Ns S r hb hle;exact⟨base,cap,by rw[e],g,C,h3.imp (fun q=>q) fun⟨b,g1,g2,z,A,B⟩=>⟨b,_,A,m _ id b (by simp[Ch]) g1 g2 z,fun i y F=>let ⟨us,k1,k2⟩:=B i y F;⟨us,Em (w':=x.w) u _ _ _ k1,k2⟩⟩⟩
 | BE id k off=>obtain⟨rfl,t,y,hb,rfl⟩:=h;exact RI S j hb (fun b=>m _ id b (by simp[Ch])) r
 | HB f G=>
  obtain⟨us,e,r⟩:=r;rcases h with⟨H,g,rfl⟩ | rfl
  ·exact⟨us,e,qm S j r (fun id b n=>m _ id b n) g⟩
  rw[e];rfl
 | nil=>rcases h with rfl |⟨t,rfl⟩;exact r;rw[show v=_ from r];exact L8
 | int | bool | fn | sl | E5 | str=>obtain rfl:=h;exact Gz u rfl r
 | _=>exact h.elim
theorem QB (S:BX w0 X β s a w) {id k:Nat} (g:k=BA (AP s.bk) id) (h:ID id k c d) (r:Ba (cx X w β (AP s.bk)) c v):Ba (DT w (β id) (cx X w β (AP s.bk)).I) d v:=by
 cases c with
 |AU|BE=>obtain⟨⟨rfl,rfl⟩,rfl⟩:=h;exact⟨⟨r.1.1,Nat.le_refl _⟩,fun _=>r.2 g⟩
 | nil=>rcases h with rfl |⟨t,rfl⟩;exact r;rw[show v=_ from r];exact L8
 | int | bool | fn | sl | str=>obtain rfl:=h;exact Gz (y:=DT w (β id) (cx X w β (AP s.bk)).I) (fun _ b hb=>⟨hb,rfl⟩) rfl r
 | _=>exact h.elim
theorem nO (S:BX w0 X β s a w) {id k:Nat} (m:k=BA (AP s.bk) id) (t:live (AP s.bk) id) (h:QC (AP s.bk) id k c d) (r:Ba (cx X w β (AP s.bk)) c v):Ba (DT w (β id) (cx X w β (AP s.bk)).I) d v:=by
 cases c
 case BE i w' off=>
  rcases h with h |⟨⟨j,rfl⟩,o,hb,rfl⟩
  ·exact QB S m h r
  obtain⟨b,g,hu⟩:=r.2 (EN hb).symm;obtain⟨arr,e,q,u⟩:=(S.blocks _ _ hb).1.var g;obtain⟨z,l,n⟩:=XF u;exact⟨b,0,z,hu,⟨Ge q,fun e=>j (S.inj i id b ⟨_,hb,rfl⟩ t g e)⟩,⟨⟨n.1.1,Nat.le_refl _⟩,fun _=>n.2 m⟩,l ▸ N8 q⟩
 all_goals (refine QB S m ?_ r;exact h)
theorem C2.BA {x:Cx} {id k:Nat} {b:Af} (h:C2 x id b):C2 x id (b.EY k):=by cases b <;> exact h
theorem Nq {b:Af} {k:Nat} (h:(b.EY k).lone=true):b.live=true/\(b.EY k).live=true/\k=0/\∀v cs,b= .var v cs->cs.all Dc=true:=by
 cases b <;> simp_all [Af.lone,Af.EY,Af.live]
theorem rm {x y:Cx} {lo id k:Nat} {g:Option Nat} (hw:y.w=x.w) (b:y.β id=x.β 0) (h:x.cv 0=0) (l:y.cv id=k) (e:Iu c=true) (r:GN x lo g c v):Ba y (Uy id k c) v:=by
 cases c with
 | AU t i j off len=>
  match i,j,e,r with
  | 0,0,_,r=>exact⟨⟨r.1.1,Nat.le_of_eq l.symm⟩,fun _=>by have:=r.2 h.symm;rwa [hw,b]⟩
 | _=>first | exact r | cases e
theorem cz:∀(l:List (Option Af)) (id:Nat) (b:Af),AP l id=some b->Cc l id (some b)=l
 | [],_,_,h=>by simp[AP] at h
 | a::l,0,b,h=>by rw[Cc,show a=some b from h]
 | a::l,n+1,b,h=>by rw[Cc,cz l n b h]
theorem lv {d v:Nat} {r:AV} (h:r.all Dc=true):Lt d v r=r/\Kp d v r=[]:=by
 have b:∀cs:List AC,cs.all Dc=true->cs.map (Y7 d v)=cs/\N4 d v cs=[]:=fun cs=>by
  induction cs with
  | nil=>exact fun _=>⟨rfl,rfl⟩
  | cons c cs j=>
   intro h;rw[List.all_cons,Bool.and_eq_true] at h;obtain⟨k,l⟩:=j h.2;cases c <;> first | exact⟨congrArg (_:: ·) k,l⟩ | cases h.1
 refine⟨?_,(b _ (by rw[<-r.NA];exact h)).2⟩;cases r with
 | one c=>exact congrArg AV.one (List.cons.inj (b [c] (by simpa [AV.all] using h)).1).1
 | agg cs=>exact congrArg AV.agg (b cs h).1
 | Aj xs=>
  refine congrArg AV.Aj ((List.map_congr_left (g:=id) fun x i=>?_).trans (List.map_id xs));exact Prod.ext rfl (b x.2 (List.all_eq_true.1 h x i)).1
theorem qu (o:Oper) {c:Call} {x:Operand} (ho:o.op= .call c) (M:c.callee= .value x):Sound P (env P) TI o:=by
 intro w0 X β s a w S f h N Q hN;simp only[FQ,ho,M] at h;have hx:=Ll S x
 obtain⟨g,A,V,cap,aE,D,hU,h⟩:∃(g:FuncId) (A:List AV) (V:List Value) (cap:Array Value),a.eval x= .func (.func g) #[] cap/\BL (CP (cx X w β (AP s.bk))) A V/\c.args.map a.eval++cap=V.toArray/\M7 (env P) g A (Cs o) (AP s.bk) (fun g=>g=f):=by
  have D:=Nf (Ll S) c.args.toList
  split at h <;> try exact h.elim
  all_goals rename_i he;rw[he] at hx
  ·exact⟨_,_,_,#[],hx.resolve_left nofun,D,Array.ext' Ai,h⟩
  ·obtain⟨us,e,r⟩:=hx.resolve_left nofun;exact⟨_,_,_,us,e,D.append (r.map (S:=CP _) (g:=fun q:(t:T)×el t=>AV.one (.Ck q.1 q.2 0)) (p:=fun _=>true) (fun _ _ _ h=> .inr h) Ai),Array.ext' Ai,h⟩
  obtain⟨us,e,r⟩:=hx.resolve_left nofun;exact⟨_,_,_,us,e,D.append (r.map (S:=CP _) (g:=fun p:Nat×Nat=>AV.one (.BE p.1 p.2 0)) (p:=fun _=>true) (fun _ _ _ h=> .inr h) Ai),Array.ext' Ai,h⟩
 have core:∀{fl:Bool} {B:List AV} {b0 b1:Af} {r:AV} {ob:Option Nat} (I:PI),KK P fl g B b0 r b1->(b0.live=true\/ob=none)->(∀o b,I o b->b<w.heap.size/\ob≠some b)->(∀o b,(cx X w β (AP s.bk)).I o b->I o b)->C2 (DT w ob I) 0 b0/\b0.short->BL (CP (DT w ob I)) B V->
   (∀u G w',Dz w w' ob->RV (GN (Db fl I w.heap.size w' ob G) w.heap.size G) r u->C2 (Db fl I w.heap.size w' ob G) 0 b1/\b1.short->∃aq,BX w0 X aq (s.app o.dst f) (a.put o.dst u) w')->o.wp P a w N Q:=by
  intro fl B b0 b1 r ob I H C K h3 h4 h5 h6;obtain⟨fn,body,k1,k2,k3⟩:=H.1
  have Y:(execOp a.eval o).run P w= .ok (.enter g (c.args.map a.eval++cap)) w:=by
   simp [execOp, ho, resolve, M, aE, Deferred.ofValue, invoke, callFunc, k1, k3, show fn.name ≠ "runtime.NumGoroutine" by simpa using k2]
  unfold Oper.wp;rw[Y,Oper.upon_enter,hU];refine (H.2 w I ob V C K (S.Y6.mono fun o b hb=>⟨h3 o b hb,rfl⟩) h4 h5).mono fun e w' ⟨u,G,he,F,q1,q2⟩=>?_
  obtain⟨aq,S'⟩:=h6 u G w' F q1 q2;subst he;exact hN _ _ _ S'
 have args:∀{Q:AC->AC->Prop} {m:List AV} {y:Cx},(∀c,(∀i∈Ch c,i∈Cq A)->∀d v,Q c d->Ba (cx X w β (AP s.bk)) c v->Ba y d v)->(∀d,¬Q .Bx d)->Ey Q A m->BL (CP y) m V:=fun h hj ha=>XO h hj (fun _ h=>h) ha D
 have aa:∀{fl:Bool} {B:List AV} {r:AV} {rd:List Nat} (I:PI),Eb P fl g B r->(∀o b,(cx X w β (AP s.bk)).I o b->I o b)->(∀o b,I o b->b<w.heap.size)->(fl=false->∀o b,I o b->(cx X w β (AP s.bk)).I o b)->BL (CP (DT w none I)) B V->
   ⟨Lt (Cs o) (BA (AP s.bk) (Cs o)+1) r,Kp (Cs o) (BA (AP s.bk) (Cs o)+1) r,rd⟩=f->o.wp P a w N Q:=by
  rintro fl B r rd I ⟨⟨hp,aD⟩,H⟩ ar au ad ha rfl;refine core I H (.inr rfl) (fun o b hb=>⟨au o b hb,nofun⟩) ar ⟨trivial,trivial⟩ ha fun u G w' F Y _=>?_
  rcases al (Cs o) (BA (AP s.bk) (Cs o)+1) r.cells with⟨e,C⟩ |⟨t,l,n,hm,e⟩
  ·have aj:r.all Dc=true:=AV.O3.2 fun c M=>C c M (AV.O3.1 hp c M)
   rw[(lv aj).1,show Kp _ _ _=_ from e];refine⟨β,S.ext F fun hle=>RV.mono (S:=Ba (cx X w' β (AP s.bk))) (fun c v M q=>OC (x:=Db fl I w.heap.size w' none G) (fun o b hb=>⟨?_,rfl⟩) M q) aj Y⟩;rcases hb.1 with⟨q,q'⟩ | q
   ·exact (hle.I o b (ad q o b q')).1
   exact⟨⟨hb.2.1,fun id U e=>by have:=S.lt U e;omega⟩,S.fresh.1 o b (Nat.le_trans S.Fh.size q)⟩
  rw[show Kp _ _ _=_ from e];obtain⟨u',hn,base,a6,_,_,_,hs,ai⟩:=((Y.mem aD) _ hm).resolve_left nofun
  by_cases af:Cs o<s.bk.length\/o.dst=some (Cs o)/\(none:Option Nat)=none
  case neg=>
   have hd:o.dst=none:=by
    cases hq:o.dst with
    | none=>rfl
    | some q=>exact absurd (.inr ⟨by simp[Cs,hq],rfl⟩) af
   refine⟨β,?_⟩
   have:s.app o.dst ⟨Lt (Cs o) (BA (AP s.bk) (Cs o)+1) r,[(Cs o,.arr (BA (AP s.bk) (Cs o)+1) t l)],rd⟩=s.app o.dst ⟨.one .Bx,[],rd⟩:=by
    simp only[St.app,E7,J5 _ _ _ (Nat.le_of_not_lt fun h=>af (.inl h)),hd,Fo]
   rw[this,hd];exact S.ext F fun _=> .inl rfl
  refine S.write (o':=G) af hs F (.inl rfl) (.inl (Nat.lt_succ_self _)) (fun _ b hb=> .inr ?_) fun y hle hw hy hv hI=>?_
  ·rcases ai with⟨rfl,_⟩ |⟨b',_,_,rfl,h9,_⟩ <;> cases hb;exact h9
  have a7:∀o b,(Db fl I w.heap.size w' none G).I o b->y.I o b/\y.w.heap[b]? =w'.heap[b]? :=fun o b hb=>⟨hI o b hb.2.1 (hb.1.elim (fun q=> .inr ⟨(ad q.1 o b q.2).2,fun j _=>(ad q.1 o b q.2).1.2 j⟩) .inl) fun _=>hb.2.2.2,by rw[hw]⟩
  refine⟨ai.imp (fun q=>⟨hy.trans q.1,q.2.1⟩) fun⟨b,arr,e,q1,_,_,q4,_,q6⟩=>⟨b,arr,e,hy.trans q1,by rw[hw];exact q4,fun i z hz=>let ⟨us,k1,k2⟩:=q6 i z hz;⟨us,Em a7 _ _ _ k1,by rw[hw];exact k2⟩⟩,RV.map rfl (fun c v M q=>?_) hp Y⟩;cases c with
  | own t l n=>
   obtain⟨rfl,base,a6,rfl,C,K,_,h3⟩:=q;refine⟨⟨rfl,Nat.le_of_eq hv.symm⟩,fun _=>⟨base,a6,rfl,C,K,nofun,?_⟩⟩;exact h3.imp (·.2.2) fun⟨b,arr,e,q1,_,q3,q4,q5,_⟩=>⟨b,arr,e,hy.trans q1,by simpa using q3,by rw[hw];exact q4,by simpa using q5⟩
  | _=>first | exact OC a7 rfl q | cases M
 have ao:∀{id:Nat} {Bw:Af},AP s.bk id=some Bw->id<s.bk.length:=fun hb=>Nat.lt_of_not_le fun h=>by rw[Jn _ _ h] at hb;cases hb
 have a8:∀{B:List AV} {r r':AV} {id:Nat} {Bw b1:Af} (I:PI),KK P false g B (Bw.EY 0) r b1->AP s.bk id=some Bw->(Bw.EY 0).lone=true->b1.live=true->(∀o b,(cx X w β (AP s.bk)).I o b->I o b)->(∀o b,I o b->b<w.heap.size/\β id≠some b)->BL (CP (DT w (β id) I)) B V->
   (∀(y:Cx) (u:Value) (G:Option Nat) (w':World),y.w=w'->y.β id=β id->y.cv id=Bw.BA->(∀o b,((false=false/\(cx X w β (AP s.bk)).I o b)\/w.heap.size<=b)/\b<w'.heap.size/\β id≠some b->y.I o b)->RV (GN (Db false I w.heap.size w' (β id) G) w.heap.size G) r u->C2 (Db false I w.heap.size w' (β id) G) 0 b1->C2 y id b1/\CP y r' u)->
   s.app o.dst ⟨r',[(id,b1.EY Bw.BA)],[]⟩=s.app o.dst f->o.wp P a w N Q:=by
  intro B r r' id Bw b1 I H hb C K h3 h4 ha h5 hf;obtain⟨U,a2,_,M⟩:=Nq C;have a1:live (AP s.bk) id:=⟨_,hb,U⟩;have hI:∀o b,(cx X w β (AP s.bk)).I o b->(DT w (β id) I).I o b/\w.heap[b]? =w.heap[b]? :=fun o b hb=>⟨h3 o b hb,rfl⟩
  refine core I H (.inl a2) h4 h3 ⟨(C2.to (x:=cx X w β (AP s.bk)) (y:=DT w (β id) I) (k:=0) rfl (fun _ _ _=>rfl) (fun v cs e us q=>q.imp (fun _ _=>Gz hI) (M v cs e)) (fun _ _ _ _=>Em (w':=w) hI _) (S.blocks id Bw hb).1).BA,by have:=(S.blocks id Bw hb).2;cases Bw <;> exact this⟩ ha fun u G w' F Y hB=>?_
  rw[<-hf];refine S.write (.inl (ao hb)) (by have:=hB.2;cases b1 <;> exact this) F (.inr ⟨rfl,a1⟩) (o':=β id) (.inr ⟨by rw[EN hb];cases b1 <;> rfl,rfl,fun _=>a1⟩) (fun _ b h=> .inl ⟨h,a1⟩) fun y hle hw hy hv hI=>?_
  obtain⟨k1,k2⟩:=h5 y u G w' hw hy (by rw[hv];cases b1 <;> rfl) (fun o b hb=>hI o b hb.2.1 (hb.1.elim (fun q=> .inr ⟨q.2.2,fun j _=>q.2.1.2 j⟩) .inl) fun _=>hb.2.2) Y hB.1;exact⟨k1.BA,k2⟩
 have Z:∀{B:List AV} {r:AV} {id:Nat} {Bw b1:Af},CI P g B (Bw.EY 0) r b1->AP s.bk id=some Bw->BL (CP (DT w (β id) (cx X w β (AP s.bk)).I)) B V->s.app o.dst ⟨r,[(id,b1.EY Bw.BA)],[]⟩=s.app o.dst f->o.wp P a w N Q:=by
  rintro B r id Bw b1 ⟨⟨hp,U,aw⟩,H⟩ hb ha hf;have e1:b1=b1.EY 0:=by cases b1 <;> simp_all [Af.lone,Af.EY]
  obtain⟨ax,_,_,M⟩:=Nq (e1 ▸ aw);refine a8 _ H hb U ax (fun _ _ h=>h) (fun _ b W=>⟨W.1.1,W.1.2 id ⟨_,hb,(Nq U).1⟩⟩) ha (fun y u G w' hw hy hv hI Y hB=>?_) hf;subst hw;have ab:∀o b,(Db false (cx X w β (AP s.bk)).I w.heap.size y.w (β id) G).I o b->y.I o b/\y.w.heap[b]? =y.w.heap[b]? :=fun o b hb=>⟨hI o b ⟨hb.1,hb.2.1,hb.2.2.1⟩,rfl⟩
  exact⟨C2.to (x:=Db false (cx X w β (AP s.bk)).I w.heap.size y.w (β id) G) (id:=0) hy (fun _ _ _=>rfl) (fun v cs e us q=>q.imp (fun _ _=>Gz ab) (M v cs e)) (fun _ _ _ _=>Em ab _) hB,RV.mono (S:=Ba y) (fun _ _ M q=>OC ab M q) hp Y⟩
 have O:∀o b,(cx X w β (AP s.bk)).I o b->b<w.heap.size:=fun _ b hb=>hb.1.1
 rcases h with⟨B,r,C,K,h⟩ |⟨B,r,C,K,h⟩ | h |⟨id,Bw,B,r,C,K,h⟩ |⟨id,Bw,B,r,C,K,h⟩ | h |⟨id,Bw,B,r,b1,C,K,h⟩ |⟨l2,B,r,C,K,h⟩ |⟨id,Bw,B,r,b1,C,K,h⟩ |⟨t0,B,r,C,K,h⟩
 ·exact aa _ (K ()) (fun _ _ h=>h) O (fun _ _ _ h=>h) (args (fun c _ d v h q=>Gz (x:=cx X w β (AP s.bk)) (fun _ b hb=>⟨hb,rfl⟩) (Ze h).2 (TX h q)) (fun _ h=>h) (C ())) h
 ·exact aa (fun _ b=>b<w.heap.size) (K ()) O (fun _ _ h=>h) nofun (args (fun c _ d v h q=>Q7 S (x:=DT w none fun _ b=>b<w.heap.size) rfl O (fun _ _ _ _ _ _ h=>h) h q) (fun _ h=>h) (C ())) h
 ·split at h <;> try exact h.elim
  rename_i c0 rest
  split at h <;> try exact h.elim
  rename_i id vv ak
  split at h <;> try exact h.elim
  rename_i Bw hb
  split at h <;> try exact h.elim
  rename_i an
  subst an;obtain⟨B,r,b1,C,K,h⟩:=h;obtain⟨az,C⟩:=C ();obtain⟨⟨U,H⟩,ae,ay⟩:=K ();obtain _ |⟨a5,aB⟩:=D
  have a1:live (AP s.bk) id:=⟨_,hb,(Nq U).1⟩;have hI:∀o b,(cx X w β (AP s.bk)).I o b->b<w.heap.size/\β id≠some b:=fun _ b hb=>⟨hb.1.1,hb.1.2 id a1⟩
  refine a8 (fun _ b=>b<w.heap.size/\β id≠some b) H hb U (by cases b1 <;> first | rfl | cases ae) hI (fun _ _ h=>h) (.cons (.inr ?_) (XO (S:=Ba (DT w (β id) fun _ b=>b<w.heap.size/\β id≠some b)) (L:=Cq rest) (fun c hL d v h q=>Q7 S (x:=DT w (β id) fun _ b=>b<w.heap.size/\β id≠some b) rfl hI (fun _ i b hi a2 W ag=>⟨ag,fun e=>az (S.inj i id b a2 a1 W e ▸ hL i hi)⟩) h q) (fun _ h=>h) (fun _ h=>h) C aB)) (fun y u G w' hw hy hv _ Y hB=>?_) (by subst h;rfl)
  ·have a5:=a5.resolve_left fun e=>by subst e;cases ak
   cases c0 <;> first | cases ak | skip
   all_goals exact⟨⟨a5.1.1,Nat.le_refl _⟩,fun _=>a5.2 (EN hb).symm⟩
  subst hw;exact⟨C2.to (x:=Db false _ w.heap.size y.w (β id) G) (id:=0) hy (fun _ _ _=>rfl) (fun v cs e=>by subst e;cases ae) (fun v t l e _ _=>bf t (by subst e;exact ae) _ _) hB,RV.map rfl (fun c v M q=>rm (x:=Db false _ w.heap.size y.w (β id) G) (y:=y) (id:=id) rfl hy rfl hv M q) ay Y⟩
 ·obtain⟨hb,hle⟩:=C ();have e1:(Bw.EY 0).EY Bw.BA=Bw:=by cases Bw <;> rfl
  exact Z (K ()) hb (args (fun c _ d v h q=>QB S (EN hb).symm h q) (fun _ h=>h) hle) (by subst h;simp only[St.app,E7,e1,cz _ _ _ hb])
 ·obtain⟨⟨h0,hb,ah⟩,aC⟩:=C ();obtain⟨⟨_,H⟩,aA⟩:=K ()
  refine core (fun o b=>b<w.heap.size/\X.A o b/\∀k,k≠id->live (AP s.bk) k->β k≠some b) H (.inr rfl) (fun _ b hb=>⟨hb.1,nofun⟩) (fun _ b hb=>⟨hb.1.1,hb.2,fun k _=>hb.1.2 k⟩) ⟨trivial,trivial⟩
   (args (fun c M d v h q=>Q7 S (x:=DT w none fun o b=>b<w.heap.size/\X.A o b/\∀k,k≠id->live (AP s.bk) k->β k≠some b) rfl (fun _ b hb=>⟨hb.1.1,hb.2,fun k _=>hb.1.2 k⟩) (fun c i b hi U W ag=>by
    obtain rfl:i=id:=by simpa using List.all_eq_true.1 ah i (M i hi)
    exact⟨ag,(S.own i b U W).elim (S.fresh.1 c b) fun h=>absurd h.2 h0,fun k hk a2 e=>hk (S.inj k i b a2 U e W)⟩) h q) (fun _ h=>h) aC) fun u G w' F Y _=>?_
  subst h;exact S.write (o':=β id) (.inl (ao hb)) trivial F (.inl rfl) (.inr ⟨(EN hb).symm,rfl,nofun⟩) nofun fun y hle hw hy hv hI=>⟨trivial,RV.mono (S:=Ba y) (fun _ _ M q=>OC (x:=Db false _ w.heap.size w' none G) (fun o b hb=>⟨hI o b hb.2.1 (hb.1.elim (fun q=> .inr q.2.2) .inl) nofun,by rw[hw];rfl⟩) M q) aA Y⟩
 ·exact h.elim
 ·obtain⟨hb,hle⟩:=C ();exact Z (K ()) hb (args (fun c _ d v h q=>QB S (EN hb).symm h q) (fun _ h=>h) hle) (by subst h;rfl)
 ·exact aa (fun _ b=>b<w.heap.size) (K ()) O (fun _ _ h=>h) nofun (args (fun c _ d v h q=>by
   cases c
   case HB f ps=>obtain⟨qs,C,rfl⟩:=h;obtain⟨us,e,q⟩:=q;exact⟨us,e,qo S q C⟩
   all_goals (refine Q7 S (x:=DT w none fun _ b=>b<w.heap.size) rfl O (fun _ _ _ _ _ _ h=>h) ?_ q;exact h)) (fun _ h=>h) (C ())) h
 ·obtain⟨hb,hle⟩:=C ();exact Z (K ()) hb (args (fun c _ d v h q=>nO S (EN hb).symm ⟨_,hb,(Nq (K ()).1.2.1).1⟩ h q) (fun _ h=>h) hle) (by subst h;rfl)
 obtain⟨⟨_,H⟩,av⟩:=K ()
 refine core (fun o b=>(cx X w β (AP s.bk)).I o b\/(o=some t0/\b<w.heap.size)) H (.inr rfl) (fun o b hb=>⟨hb.elim (O o b) (·.2),nofun⟩) (fun _ _ h=> .inl h) ⟨trivial,trivial⟩
  (args (fun c M d v h q=>?_) (fun d h=>h) (C ())) fun u G w' F Y _=>?_
 ·by_cases U:∃t id k off len,c= .AU t id k off len
  ·obtain⟨t,id,k,off,len,rfl⟩:=U;obtain⟨rfl,l,hb,hle,rfl⟩:=h;obtain⟨base,cap,e,C,K,_,h3⟩:=Ns S q hb hle;exact⟨base,cap,by rw[e],C,K,h3.imp (fun q=>q) fun⟨b,g1,g2,g3,g4,g5⟩=>⟨b,_,g4,.inr ⟨rfl,g3⟩,fun i y hy=>let ⟨us,k1,k2⟩:=g5 i y hy;⟨us,Em (w':=w) (fun _ _ h=>⟨.inl h,rfl⟩) _ _ _ k1,k2⟩⟩⟩
  have h':FV c d:=by cases c <;> first | exact h | exact absurd ⟨_,_,_,_,_,rfl⟩ U
  exact Gz (x:=cx X w β (AP s.bk)) (fun _ b hb=>⟨.inl hb,rfl⟩) (Ze h').2 (TX h' q)
 subst h;refine⟨β,S.ext F fun hle=>RV.mono (S:=Ba (cx X w' β (AP s.bk))) (fun c v M q=>pP (x:=Db false _ w.heap.size w' none G) (fun o b ho hb=>⟨?_,rfl⟩) M q) av Y⟩;rcases hb.1 with⟨_,q | q⟩ | q
 ·exact (hle.I o b q).1
 ·exact absurd q.1 ho
 exact⟨⟨hb.2.1,fun id U e=>by have:=S.lt U e;omega⟩,S.fresh.1 o b (Nat.le_trans S.Fh.size q)⟩
end
theorem qx {P:Program} {TI:TypeId->Info} (i:∀t,HU P t (TI t)) (o:Oper) (j:NY o=true):Sound P (env P) TI o:=by
 by_cases h:∃c x,o.op= .call c/\c.callee= .value x
 ·obtain⟨c,x,b,g⟩:=h;exact qu o b g
 exact qy i j fun c x b g=>h ⟨c,x,b,g⟩
theorem Yr {pl:List (Nat×Nat×Bool)} {e b:Operand->AV}:∀{g:List (Nat×Operand)} {cs:List AC},(∀p∈g,e p.2=b p.2)->H6 pl e g cs=H6 pl b g cs
 | [],_,_=>rfl
 | (i,x)::r,cs,h=>by
  have j:e x=b x:=h (i,x) Ai;have l:=fun cs=>Yr (pl:=pl) (cs:=cs) fun p k=>h p (List.mem_cons_of_mem _ k)
  simp only[H6,j,l]
theorem jW {E:Env} {TI:TypeId->Info} {o:Oper} {d:Nat} {e b:Operand->AV} {bk:Nat->Option Af} {K:DG->Prop} (he:∀x∈o.op.operands,e x=b x) (h:FQ E TI o d e bk K):FQ E TI o d b bk K:=by
 unfold FQ at h ⊢;cases m:o.op <;> simp only[m] at h ⊢ <;> (try exact h.elim) <;> rw[m] at he <;> simp only[Op.operands] at he
 case build t ps=>
  have g:∀cs pl,H6 pl e ps.toList cs=H6 pl b ps.toList cs:=fun cs pl=>Yr fun p g=>he p.2 (by simpa using ⟨p.1,Array.mem_toList_iff.1 g⟩)
  simp only[<-g];exact h
 case buildSlice t n ps=>
  have g:∀p∈ps.toList,e p.2=b p.2:=fun p g=>he p.2 (by simpa using ⟨p.1,Array.mem_toList_iff.1 g⟩)
  have j:(ps.toList.map fun p=>e p.2)=ps.toList.map fun p=>b p.2:=List.map_congr_left g
  have r:(ps.toList.all fun p=>(e p.2).full)=ps.toList.all fun p=>(b p.2).full:=by rw[Bool.eq_iff_iff,List.all_eq_true,List.all_eq_true];exact forall₂_congr fun p h=>by rw[g p h]
  have h3:(ps.toList.map fun p=>(p.1,(e p.2).cs))=ps.toList.map fun p=>(p.1,(b p.2).cs):=List.map_congr_left fun p h=>by rw[g p h]
  rw[<-j,<-r,<-h3];exact h
 case slice t x lo hi mx=>
  have j:∀y:Option Operand,(∀z,y=some z->e z=b z)->y.map e=y.map b:=fun y u=>by cases y <;> simp;exact u _ rfl
  rw[<-he x Ai,<-j lo (fun z k=>he z (by simp[k])),<-j hi (fun z k=>he z (by simp[k])),<-j mx (fun z k=>he z (by simp[k]))];exact h
 case makeFunc fn first cap=>
  rw[<-show cap.toList.map e=cap.toList.map b from List.map_congr_left fun x q=>he x (by simp_all)];exact h
 case call c=>
  have i:c.args.toList.map e=c.args.toList.map b:=List.map_congr_left fun x q=>he x (by simp[Call.operands];exact .inr (by simpa using q))
  cases l:c.callee <;> simp only[l] at h ⊢ <;> rw[<-i]
  ·rw[<-he _ (by simp[Call.operands,l])];exact h
  exact h
 all_goals (try simp at he);(try simp only[he] at h);exact h
section
variable {P:Program} {E:Env} {TI:TypeId->Info} {w0 w:World} {X:WX} {β:Nat->Option Nat} {s:St} {a:Act} {all:List Oper} {o:Oper} {f:DG}
def Jr (E:Env) (TI:TypeId->Info) (all:List Oper) (o:Oper) (f:DG) (s:St):Prop:=
 match o.guard with
 | none=>FQ E TI o (Cs o) (ev s.sl) (AP s.bk) (fun g=>g=f)
 | some (j,w)=>∃g,JZ all j=some g/\
  ((nth s.sl g= .one (.bool w)/\FQ E TI o (Cs o) (ev s.sl) (AP s.bk) (fun g=>g=f))\/
    ((nth s.sl g= .one (.bool (!w))\/nth s.sl g= .Aj [])/\f=⟨.Aj [],[],[]⟩))
def J7 (f:DG):List Nat×List Nat:=(f.rd,f.ws.map (·.1))
structure Mq (E:Env) (TI:TypeId->Info) (all r:List Oper) (s:St) (φ:Nat->DG) (σ:Nat->St):Prop where
 zero:σ 0=s
 step:∀j o,r[j]? =some o->Jr E TI all o (φ j) (σ j)/\σ (j+1)=(σ j).app o.dst (φ j)
theorem sW {N:Act->World->Prop} (h:o.wp P a w N (fun _ _ _=>False)):∃b w',N b w':=by
 unfold Oper.wp at h
 generalize (execOp a.eval o).run P w=r at h
 unfold Oper.upon at h
 split at h
 ·exact⟨_,_,h⟩
 ·exact⟨_,_,h⟩
 ·exact⟨_,_,h⟩
 ·obtain⟨e,w',g,hR,_⟩:=h [];cases e with
  | returned v=>exact⟨_,_,hR⟩
  | panicked _=>exact hR.elim
  | outgrown=>obtain⟨_,_,h⟩:=hR;exact h.elim
 ·obtain⟨v,w',hR,_⟩:=h default [];exact⟨_,_,hR⟩
 ·exact h.elim
 exact h.elim
theorem Ua {ops:Array Oper} (t:Sound P E TI o) (S:BX w0 X β s a w) (h:Jr E TI ops.toList o f s)
  {N:Act->World->Prop} {Q:Exit->Act->World->Prop} (m:∀n q w',BX w0 X n (s.app o.dst f) q w'->N q w'):
  if Region.wanted o (yielded ops a.tmps) then o.wp P a w N Q else N (a.put o.dst undef) w:=by
 unfold Jr at h
 split at h
 ·rename_i k
  simp only[Region.wanted,k,if_true];exact t S h m
 rename_i j want k
 obtain⟨g,u,h3⟩:=h
 have l:yielded ops a.tmps j=match a.tmps.getD g undef with | .bool b=>some b | _=>none:=by
  simp only[yielded,show (ops[j]?).bind (·.dst)=some g by simpa [JZ] using u,Option.bind_some,Array.getD_eq_getD_getElem?];cases a.tmps[g]? with
  | none=>rfl
  | some v=>cases v <;> rfl
 have hb:∀{b:Bool},nth s.sl g= .one (.bool b)->yielded ops a.tmps j=some b:=fun {b} e=>by
  have:=S.HM g;rw[e] at this;rw[l,show a.tmps.getD g undef= .bool b from this.resolve_left nofun]
 rcases h3 with⟨i,h3⟩ |⟨i,rfl⟩
 ·simp only[Region.wanted,k,hb i,beq_self_eq_true,if_true];exact t S h3 m
 have l:(yielded ops a.tmps j==some want)=false:=by
  rcases i with i | i
  ·rw[hb i];cases want <;> rfl
  have r:=S.HM g;rw[i] at r;obtain⟨arr,z,_⟩:=r;rw[l,z];rfl
 simp only[Region.wanted,k,l,Bool.false_eq_true,if_false];exact m β _ w (S.val ⟨#[],rfl,.nil⟩)
theorem dS (S:BX w0 X β s a w) (x:Operand) (t:T) (l:List (el t)) (h:ev s.sl x= .one (.sl t l)):l.length<=140737488355328:=by
 have b:=Ll S x;rw[h] at b;obtain⟨_,_,_,_,g,_⟩:=b.resolve_left nofun;exact g
theorem cJ {ops:Array Oper} {draw:Bool} {Q:St->Prop}:∀{r:List Oper} {tr:Tr} {β:Nat->Option Nat} {s:St} {a:Act} {w:World},(∀o∈r,Sound P E TI o)->BX w0 X β s a w->Hm E TI ops.toList draw r tr Q s->
  ∃φ σ,Mq E TI ops.toList r s φ σ/\Q (σ r.length)/\(draw=true->Jq ops.toList (tr.reverse++(List.range r.length).map fun j=>J7 (φ j))=true)
 | [],tr,β,s,a,w,_,_,h=>by
  refine⟨fun _=>⟨.Aj [],[],[]⟩,fun _=>s,⟨rfl,Ai⟩,?_⟩;cases draw
  ·exact⟨h,nofun⟩
  exact⟨h.2,fun _=>by simpa using h.1 ()⟩
 | o::r,tr,β,s,a,w,t,S,h=>by
  have go:∀f,Jr E TI ops.toList o f s->Hm E TI ops.toList draw r (J7 f::tr) Q (s.app o.dst f)->
    ∃φ σ,Mq E TI ops.toList (o::r) s φ σ/\Q (σ (r.length+1))/\(draw=true->Jq ops.toList (tr.reverse++(List.range (r.length+1)).map fun j=>J7 (φ j))=true):=by
   intro f i k;have:=Ua (N:=fun l w'=>∃b,BX w0 X b (s.app o.dst f) l w') (Q:=fun _ _ _=>False) (t o Ai) S i fun b l w' h=>⟨b,h⟩
   obtain⟨l,w',b,u⟩:∃l w' b,BX w0 X b (s.app o.dst f) l w':=by
    split at this
    ·exact sW this
    exact⟨_,_,this⟩
   obtain⟨φ,σ,g1,g2,z⟩:=cJ (fun o B=>t o (by simp[B])) u k;refine⟨fun | 0=>f | j+1=>φ j,fun | 0=>s | j+1=>σ j,⟨rfl,fun j o' q=>?_⟩,g2,fun A=>?_⟩
   ·cases j with
    | zero=>cases q;exact⟨i,g1.zero⟩
    | succ j=>exact g1.step j o' q
   rw[List.range_succ_eq_map,List.map_cons,List.map_map];have:=z A;rwa [List.reverse_cons,List.append_assoc] at this
  have out:∀{K:DG->Prop},FQ E TI o (Cs o) (ev s.sl) (AP s.bk) K->∃f,K f/\FQ E TI o (Cs o) (ev s.sl) (AP s.bk) (fun g=>g=f):=fun h=>let ⟨f,i,k⟩:=XL (dS S) h;⟨f,i,k _ _ (fun _ _=>rfl) rfl⟩
  unfold Hm at h
  split at h
  ·rename_i m
   obtain⟨f,k,i⟩:=out h;exact go f (by unfold Jr;rw[m];exact i) k
  rename_i j want m
  split at h
  ·exact h.elim
  rename_i g n
  have go':∀f,((nth s.sl g= .one (.bool want)/\FQ E TI o (Cs o) (ev s.sl) (AP s.bk) (fun g=>g=f))\/((nth s.sl g= .one (.bool (!want))\/nth s.sl g= .Aj [])/\f=⟨.Aj [],[],[]⟩))->_->_:=fun f h=>go f (by unfold Jr;rw[m];exact⟨g,n,h⟩)
  split at h <;> try exact h.elim
  ·obtain⟨f,k,i⟩:=out h;exact go' f (.inl ⟨‹_›,i⟩) k
  ·obtain⟨f,k,i⟩:=out h;exact go' f (.inl ⟨‹_›,i⟩) k
  ·exact go' _ (.inr ⟨.inl ‹_›,rfl⟩) h
  ·exact go' _ (.inr ⟨.inl ‹_›,rfl⟩) h
  exact go' _ (.inr ⟨.inr ‹_›,rfl⟩) h
theorem fM {ops:Array Oper} {Q:Exit->Act->World->Prop} {φ:Nat->DG} {σ:Nat->St} (i:∀o∈ops.toList,Sound P E TI o) (g:Mq E TI ops.toList ops.toList s φ σ) (b:∀β a w,BX w0 X β (σ ops.size) a w->Q .normal a w):
  ∀(n k:Nat) {β:Nat->Option Nat} {a:Act} {w:World},k+n=ops.size->BX w0 X β (σ k) a w->wpOps P ops Q (List.range' k n) a w
 | 0,k,β,a,w,h,S=>b β a w (by rw[<-h];exact S)
 | n+1,k,β,a,w,h,S=>by
  have l:ops[k]? =some ops[k]:=Array.getElem?_eq_getElem AA;obtain⟨m,q⟩:=g.step k ops[k] Ai;have:=Ua (Q:=Q) (N:=wpOps P ops Q (List.range' (k+1) n)) (i ops[k] Ai) S m fun r t w' j=>fM i g b n (k+1) AA (q ▸ j)
  simp only[List.range'_succ,wpOps,l]
  split
  ·rename_i hw;rw[if_pos hw] at this;exact .inl this
  rename_i hw;rw[if_neg hw] at this;exact this
def EL {α:Type} (m:Nat->Bool) (u:Nat->Option α) (d:α):Nat->α
 | 0=>d
 | n+1=>if m n then (u n).getD (EL m u d n) else EL m u d n
theorem Nt {α:Type} {m m':Nat->Bool} {u:Nat->Option α} {d:α}:∀{n:Nat},(∀j,j<n->u j≠none->m j=m' j)->EL m u d n=EL m' u d n
 | 0,_=>rfl
 | n+1,h=>by
  rw[EL,EL,Nt fun j b=>h j AA];cases hu:u n with
  | none=>simp
  | some v=>rw[h n AA (by simp[hu])]
theorem Zt {α:Type} {u:Nat->Option α} {d:α} {i:Nat}:∀{n:Nat},i<=n->EL (fun j=>decide (j<i)) u d n=EL (fun _=>true) u d i
 | 0,h=>by obtain rfl:i=0:=AA;rfl
 | n+1,h=>by
  rcases Nat.lt_or_ge n i with b | b
  ·obtain rfl:i=n+1:=AA
   exact Nt fun j g _=>by simp;omega
  rw[EL,if_neg (by simp;omega),Zt b]
theorem Tu {α:Type} {m:Nat->Bool} {u:Nat->Option α} {d v:α} {i:Nat} (hm:m i=true) (hu:u i=some v):∀{n:Nat},i<n->(∀j,i<j->j<n->m j=true->u j=none)->EL m u d n=v
 | n+1,l,h=>by
  rw[EL]
  by_cases k:n=i
  ·subst k;rw[if_pos hm,hu];rfl
  have g:=Tu (d:=d) hm hu (n:=n) AA fun j b h3=>h j b AA
  split
  ·rename_i b;rw[h n AA AA b];exact g
  exact g
def uS (ops:List Oper) (φ:Nat->DG) (n x j:Nat):Option AV:=match JZ ops j with | some q=>if q=x/\x<n then some (φ j).v else none | none=>none
def wr:List (Nat×Af)->Nat->Option Af
 | [],_=>none
 | w::r,x=>match wr r x with | some b=>some b | none=>if w.1=x then some w.2 else none
def uB (φ:Nat->DG) (n x j:Nat):Option (Option Af):=if x<n then (wr (φ j).ws x).map some else none
theorem Vj:∀{ws:List (Nat×Af)} {x:Nat},x ∉ ws.map (·.1)->wr ws x=none
 | [],_,_=>rfl
 | w::r,x,h=>by
  rw[List.map_cons,List.mem_cons,not_or] at h;rw[wr,Vj h.2,if_neg (Ne.symm h.1)]
theorem Uk:∀(ws:List (Nat×Af)) (l:List (Option Af)),(E7 ws l).length=l.length
 | [],_=>rfl
 | p::ws,l=>by rw[E7,Uk ws,Fk]
theorem Uj:∀(ws:List (Nat×Af)) (l:List (Option Af)) (x:Nat),AP (E7 ws l) x=if x<l.length then ((wr ws x).map some).getD (AP l x) else AP l x
 | [],l,x=>by simp[E7,wr]
 | w::r,l,x=>by
  rw[E7,Uj r,Fk]
  by_cases g:x<l.length
  ·simp only[g,if_true,wr];cases wr r x with
   | some b=>rfl
   | none=>
    by_cases h:w.1=x
    ·subst h;simp[Jo _ _ _ g,Fa]
    by_cases hw:w.1<l.length
    ·simp[h,Jo _ _ _ hw,Fb (Ne.symm h)]
    simp[h,J5 l w.1 (some w.2) AA]
  rw[if_neg g,if_neg g,Jn _ _ (by rw[Fk];omega),Jn _ _ AA]
theorem JM {d:Option Nat} {x:Nat}:(s.app d f).sl.length=s.sl.length/\(s.app d f).bk.length=s.bk.length/\nth (s.app d f).sl x=(if d=some x/\x<s.sl.length then f.v else nth s.sl x)/\
  AP (s.app d f).bk x=if x<s.bk.length then ((wr f.ws x).map some).getD (AP s.bk x) else AP s.bk x:=by
 cases d with
 | none=>exact⟨rfl,Uk _ _,by simp[St.app,Fo],Uj _ _ _⟩
 | some q=>exact⟨Fk ..,Uk _ _,by simp only[St.app,Fo,MC,Option.some.injEq];rcases Decidable.em (x=q) with rfl | h;rfl;rw[if_neg fun e=>h e.1,if_neg fun e=>h e.1.symm],Uj _ _ _⟩
def Made (ops:List Oper) (φ:Nat->DG) (s0 s:St) (m:Nat->Bool) (n:Nat):Prop:=
 s.sl.length=s0.sl.length/\s.bk.length=s0.bk.length/\∀x,nth s.sl x=EL m (uS ops φ s0.sl.length x) (nth s0.sl x) n/\AP s.bk x=EL m (uB φ s0.bk.length x) (AP s0.bk x) n
theorem Zo:∀{l l':List AV},l.length=l'.length->(∀x,nth l x=nth l' x)->l=l'
 | [],[],_,_=>rfl
 | _::_,_::_,h,h'=>congr (congrArg List.cons (h' 0)) (Zo (Nat.succ.inj h) fun x=>h' (x+1))
theorem Zq:∀{l l':List (Option Af)},l.length=l'.length->(∀x,AP l x=AP l' x)->l=l'
 | [],[],_,_=>rfl
 | _::_,_::_,h,h'=>congr (congrArg List.cons (h' 0)) (Zq (Nat.succ.inj h) fun x=>h' (x+1))
theorem QL {φ:Nat->DG} {σ:Nat->St} (b:Mq E TI all all s φ σ):∀j,j<=all.length->Made all φ s (σ j) (fun _=>true) j
 | 0,_=>⟨by rw[b.zero],by rw[b.zero],fun x=>by rw[b.zero];exact⟨rfl,rfl⟩⟩
 | j+1,k=>by
  obtain⟨g,h,h3⟩:=QL b j AA;obtain⟨_,i⟩:=b.step j all[j] Ai;rw[i];refine⟨(JM (x:=0)).1.trans g,(JM (x:=0)).2.1.trans h,fun x=>⟨?_,?_⟩⟩
  ·rw[JM.2.2.1,(h3 x).1,g,EL,if_pos rfl,uS,JZ,List.getElem?_eq_getElem AA]
   show _=Option.getD (match all[j].dst with | some q=>_ | none=>_) _
   cases all[j].dst <;> simp
   split <;> simp_all [eq_comm]
  rw[JM.2.2.2,(h3 x).2,h,EL,if_pos rfl,uB]
  split <;> rfl
def Hr:List Bool->Nat
 | []=>0
 | b::l=>(if b then 0 else 1)+Hr l
theorem eS:∀(l:List Bool) (i:Nat),l[i]? =some false->Hr (l.set i true)+1=Hr l
 | [],_,h=>by simp at h
 | b::l,0,h=>by cases h;simp[Hr];omega
 | b::l,i+1,h=>by have:=eS l i (by simpa using h);simp[Hr];omega
theorem eT:∀(l:List Bool),Hr l=0->∀j,j<l.length->l[j]? =some true
 | [],_,j,h=>by simp at h
 | b::l,h,0,_=>by cases b <;> simp[Hr] at h ⊢
 | b::l,h,j+1,g=>by simpa using eT l (by simp[Hr] at h;exact h.2) j (by simpa using g)
theorem SK:∀(r:List Oper) (acc:List (List Nat)) (k:Nat),k<acc.length->(Gq r acc).getD k []=acc.getD k []
 | [],_,_,_=>rfl
 | o::r,acc,k,h=>by
  rw[Gq,SK r _ k (by simp;omega)];simp[List.getD_eq_getElem?_getD,List.getElem?_append_left h]
theorem SL:∀(r:List Oper) (acc:List (List Nat)) (j:Nat) (o:Oper),r[j]? =some o->∀i∈(Gq r acc).getD (acc.length+j) [],∃k∈FP o,i=k\/i∈(Gq r acc).getD k []
 | [],_,_,_,h=>by simp at h
 | o::r,acc,0,o',h=>by
  cases h;intro i b;rw[Gq,Nat.add_zero,SK r _ acc.length Ai] at b;simp only[List.getD_eq_getElem?_getD,List.getElem?_concat_length,Option.getD_some] at b;obtain⟨k,g,b⟩:=List.mem_flatMap.1 b;refine⟨k,g,(List.mem_cons.1 b).imp_right fun b=>?_⟩;rcases Nat.lt_or_ge k acc.length with h' | h'
  ·rw[Gq,SK r _ k (by simp;omega)];simpa [List.getD_eq_getElem?_getD,List.getElem?_append_left h'] using b
  simp[List.getElem?_eq_none h'] at b
 | o::r,acc,j+1,o',h=>fun i b=>SL r (acc++[(FP o).flatMap fun j=>j::acc.getD j []]) j o' (by simpa using h) i (by
  rw[List.length_append,List.length_singleton,Nat.add_assoc,Nat.add_comm 1];exact b)
theorem NX {a b:List Nat} (h:NW a b=true):∀x∈a,x ∉ b:=fun x g=>by simpa using List.all_eq_true.1 h x g
theorem km {ops:Array Oper} {φ:Nat->DG} {σ:Nat->St} {s0:St} {Q:Exit->Act->World->Prop} (hc:Mq E TI ops.toList ops.toList s0 φ σ) (hok:Jq ops.toList ((List.range ops.size).map fun j=>J7 (φ j))=true)
  (hs:∀o∈ops.toList,Sound P E TI o) (hQ:∀β a w,BX w0 X β (σ ops.size) a w->Q .normal a w):
  ∀(fuel:Nat) (listed:Array Bool) (s:St) (β:Nat->Option Nat) (a:Act) (w:World),listed.size=ops.size->(∀j o,ops[j]? =some o->listed.getD j false=true->∀i∈FP o,listed.getD i false=true)->
   Hr listed.toList<=fuel->Made ops.toList φ s0 s (fun j=>listed.getD j false) ops.size->BX w0 X β s a w->wpAny P .any ops Q fuel listed a w:=by
 simp only[Jq,Bool.and_eq_true] at hok;obtain⟨hback,hpairs⟩:=hok
 have back:∀j o,ops[j]? =some o->∀i∈FP o,i<j:=by
  intro j o ho i hi;have:=List.all_eq_true.1 hback j (List.mem_range.2 (by simpa using Ge ho));rw[show ops.toList[j]? =some o by simpa using ho] at this;simpa using List.all_eq_true.1 this i hi
 have pair:∀i j oi oj,i<j->ops[i]? =some oi->ops[j]? =some oj->i ∉ (Gq ops.toList []).getD j []->NB ops.toList oi oj (J7 (φ i)) (J7 (φ j))=true:=by
  intro i j oi oj hij h1 h2 h5;have hj:=Ge h2;have:=List.all_eq_true.1 (List.all_eq_true.1 hpairs j (List.mem_range.2 (by simpa using hj))) i (List.mem_range.2 hij);rw[Bool.or_eq_true] at this;have tr:∀k,k<ops.size->((List.range ops.size).map fun j=>J7 (φ j))[k]? =some (J7 (φ k)):=fun k hk=>by simp[hk]
  have:=this.resolve_left fun h=>h5 (by simpa using h)
  rwa [show ops.toList[i]? =some oi by simpa using h1,show ops.toList[j]? =some oj by simpa using h2,tr i AA,tr j hj] at this
 have anyOn_mem:∀(o:Oper) (i:Nat),i∈FP o↔∃e∈o.after,Region.binds .any e=true/\e.on=i:=fun o i=>by simp[FP,and_assoc]
 have closed:∀(listed:Array Bool),(∀j o,ops[j]? =some o->listed.getD j false=true->∀i∈FP o,listed.getD i false=true)->
   ∀(n j:Nat) (o:Oper),j<=n->ops[j]? =some o->(∀i∈FP o,listed.getD i false=true)->∀i∈(Gq ops.toList []).getD j [],listed.getD i false=true:=by
  intro listed hdc n
  induction n with
  | zero=>
   intro j o hj ho hl i hi;obtain⟨k,hk,_⟩:=SL ops.toList [] j o (by simpa using ho) i (by simpa using hi);have:=back j o ho k hk;omega
  | succ n ih=>
   intro j o hj ho hl i hi;obtain⟨k,hk,h⟩:=SL ops.toList [] j o (by simpa using ho) i (by simpa using hi);have hkj:=back j o ho k hk;rcases h with rfl | h
   ·exact hl _ hk
   have hok:ops[k]? =some (ops[k]'(by have:=Ge ho;omega)):=Ai
   exact ih k _ AA hok (hdc k _ hok (hl k hk)) i h
 have done:∀{listed:Array Bool} {s:St} {β:Nat->Option Nat} {a:Act} {w:World},(∀j,j<ops.size->listed.getD j false=true)->Made ops.toList φ s0 s (fun j=>listed.getD j false) ops.size->BX w0 X β s a w->Q .normal a w:=by
  intro listed s β a w h ⟨m1,m2,m3⟩ S;obtain⟨k1,k2,k3⟩:=QL hc ops.size Ai;have e:∀{α:Type} {u:Nat->Option α} {d:α},EL (fun j=>listed.getD j false) u d ops.size=EL (fun _=>true) u d ops.size:=Nt fun j hj _=>h j hj
  have:s=σ ops.size:=by
   cases s;cases hσ:σ ops.size;rw[hσ] at k1 k2 k3
   congr 1
   ·exact Zo (m1.trans k1.symm) fun x=>(m3 x).1.trans (e.trans (k3 x).1.symm)
   exact Zq (m2.trans k2.symm) fun x=>(m3 x).2.trans (e.trans (k3 x).2.symm)
  exact hQ β a w (this ▸ S)
 have ready_none:∀(listed:Array Bool),listed.size=ops.size->Region.ready .any ops listed=[]->∀n j,j<n->j<ops.size->listed.getD j false=true:=by
  intro listed hsz hr n
  induction n with
  | zero=>intro j hj;omega
  | succ n ih=>
   intro j hjn hj;refine Classical.byContradiction fun hl=>?_
   have:j∈Region.ready .any ops listed:=mem_ready.2 ⟨by simpa [hsz,hj] using hl,ops[j],by simp[hj],fun e he hb=>by
    have hlt:=back j ops[j] (by simp[hj]) e.on ((anyOn_mem _ _).2 ⟨e,he,hb,rfl⟩);exact ih e.on AA AA⟩
   rw[hr] at this;cases this
 intro fuel
 induction fuel with
 | zero=>
  intro listed s β a w hsz _ hu hm S
  have hall:∀j,j<ops.size->listed.getD j false=true:=fun j hj=>by
   have:=eT _ (Nat.le_zero.1 hu) j (by simpa [hsz] using hj);simp[hsz,hj] at this;simp[hsz,hj,this]
  refine⟨List.eq_nil_iff_forall_not_mem.2 fun x hx=>?_,done hall hm S⟩;obtain⟨h1,o,ho,_⟩:=mem_ready.1 hx;have hlt:=Ge ho;have:=hall x hlt;simp[hsz,hlt] at h1 this;rw[h1] at this;cases this
 | succ fuel ih=>
  intro listed s β a w hsz hdc hu hm S;refine⟨fun hr=>done (fun j hj=>ready_none listed hsz hr (j+1) j (Nat.lt_succ_self j) hj) hm S,fun i hi=>?_⟩;obtain⟨h1,o,ho,hdeps⟩:=mem_ready.1 hi;have hilt:=Ge ho;have hil:listed.getD i false=false:=by simp[hsz,hilt] at h1 ⊢;exact h1
  have hanyi:∀k∈FP o,listed.getD k false=true:=fun k hk=>by
   obtain⟨e,he,hb,rfl⟩:=(anyOn_mem o k).1 hk;exact hdeps e he hb
  obtain⟨hfo,_⟩:=hc.step i o (by simpa using ho)
  have apart:∀j oj,ops[j]? =some oj->listed.getD j false≠decide (j<i)->
    (∀q,oj.dst=some q->q ∉ Iw ops.toList o)/\(∀x∈(φ j).ws.map (·.1),x ∉ (φ i).rd)/\(∀q,oj.dst=some q->o.dst≠some q)/\(∀x∈(φ j).ws.map (·.1),x ∉ (φ i).ws.map (·.1)):=by
   intro j oj hj hne;have dm:∀{o:Oper} {q:Nat},o.dst=some q->q∈Iw ops.toList o:=fun h=>by simp[Iw,h]
   have hij:j≠i:=by rintro rfl;rw[hil] at hne;simp at hne
   rcases Nat.lt_or_gt_of_ne hij with hlt | hgt
   ·have hlj:listed.getD j false=false:=by simpa [hlt] using hne
    have:=pair j i oj o hlt hj ho fun hm=>by have:=closed listed hdc i i o (Nat.le_refl _) ho hanyi j hm;rw[hlj] at this;cases this
    simp only[NB,Bool.and_eq_true] at this;obtain⟨⟨⟨a1,a2⟩,a3⟩,a4⟩:=this;have a1:∀q,oj.dst=some q->q ∉ Iw ops.toList o:=fun q hq=>NX a1 q (by simp[hq])
    have a3:=fun x hx=>not_or.1 fun h=>NX a3 x hx (List.mem_append.2 h)
    exact⟨a1,fun x hx=>(a3 x hx).1,fun q hq e=>a1 q hq (dm e),fun x hx=>(a3 x hx).2⟩
   have hlj:listed.getD j false=true:=by simpa [Nat.not_lt.2 (Nat.le_of_lt hgt)] using hne
   have:=pair i j o oj hgt ho hj fun hm=>by have:=closed listed hdc j j oj (Nat.le_refl _) hj (hdc j oj hj hlj) i hm;rw[hil] at this;cases this
   simp only[NB,Bool.and_eq_true] at this;obtain⟨⟨⟨a1,a2⟩,a3⟩,a4⟩:=this;have a2:∀q,oj.dst=some q->q ∉ Iw ops.toList o:=fun q hq=>NX a2 q (by simp[hq])
   exact⟨a2,NX a4,fun q hq e=>a2 q hq (dm e),fun x hx hx'=>NX a3 x hx' (List.mem_append_right _ hx)⟩
  have go:∀j,JZ ops.toList j=(ops[j]?).bind (·.dst):=fun j=>by simp[JZ]
  have agree:∀{α:Type} {u:Nat->Option α} {d:α} (m:Nat->Bool),(∀j,j<ops.size->u j≠none->m j=decide (j<i))->EL m u d ops.size=EL (fun _=>true) u d i:=fun m h=>(Nt h).trans (Zt AA)
  obtain⟨m1,m2,m3⟩:=hm;obtain⟨k1,k2,k3⟩:=QL hc i (by simp;omega)
  have hS:∀x j,uS ops.toList φ s0.sl.length x j≠none->∃oj,ops[j]? =some oj/\oj.dst=some x:=fun x j h=>by
   unfold uS at h;rw[go] at h
   split at h
   ·rename_i q hq
    obtain⟨oj,h1,h2⟩:=Option.bind_eq_some_iff.1 hq
    split at h
    ·rename_i h3;exact⟨oj,h1,h3.1 ▸ h2⟩
    exact absurd rfl h
   exact absurd rfl h
  have hB:∀x j,uB φ s0.bk.length x j≠none->x∈(φ j).ws.map (·.1):=fun x j h=>Classical.byContradiction fun hx=>h (by unfold uB;rw[Vj hx];split <;> rfl)
  have hfo':Jr E TI ops.toList o (φ i) s:=by
   have h1:∀x∈Iw ops.toList o,nth (σ i).sl x=nth s.sl x:=fun x hx=>by
    rw[(k3 x).1,(m3 x).1,agree];intro j hj hu;obtain⟨oj,h1,h2⟩:=hS x j hu;exact Classical.byContradiction fun hne=>(apart j oj h1 hne).1 x h2 hx
   have h2:∀x∈(φ i).rd,AP (σ i).bk x=AP s.bk x:=fun x hx=>by
    rw[(k3 x).2,(m3 x).2,agree];intro j hj hu;exact Classical.byContradiction fun hne=>(apart j ops[j] Ai hne).2.1 x (hB x j hu) hx
   have he:∀x∈o.op.operands,ev (σ i).sl x=ev s.sl x:=fun x hx=>by
    cases x with
    | tmp t=>exact h1 t (List.mem_append_left _ (List.mem_append_right _ (List.mem_filterMap.2 ⟨.tmp t,by simpa using hx,rfl⟩)))
    | _=>rfl
   have hop:FQ E TI o (Cs o) (ev (σ i).sl) (AP (σ i).bk) (fun g=>g=φ i)->FQ E TI o (Cs o) (ev s.sl) (AP s.bk) (fun g=>g=φ i):=fun h=>by
    obtain⟨f,rfl,H⟩:=XL (dS S) (jW he h);exact H _ _ h2 rfl
   unfold Jr at hfo ⊢
   split at hfo
   ·exact hop hfo
   rename_i k want hg
   obtain⟨g,g1,g3⟩:=hfo;refine⟨g,g1,?_⟩;rw[<-h1 g (by unfold Iw;rw[hg];simp[g1])];exact g3.imp (fun q=>⟨q.1,hop q.2⟩) id
  have hget':∀j,j≠i->(listed.setIfInBounds i true).getD j false=listed.getD j false:=fun j hj=>getD_set_ne false (Ne.symm hj)
  have hgeti:(listed.setIfInBounds i true).getD i false=true:=by simp[hsz,hilt]
  have later:∀j oj,ops[j]? =some oj->i<j->(listed.setIfInBounds i true).getD j false=true->listed.getD j false≠decide (j<i):=fun j oj hj hlt h=>by rw[hget' j AA] at h;rw[h];simp;omega
  have new:∀{α:Type} {u:Nat->Option α} {d:α},u i=none->EL (fun j=>(listed.setIfInBounds i true).getD j false) u d ops.size=EL (fun j=>listed.getD j false) u d ops.size:=fun h=>Nt fun j _ hu=>hget' j fun e=>hu (e ▸ h)
  have hm':Made ops.toList φ s0 (s.app o.dst (φ i)) (fun j=>(listed.setIfInBounds i true).getD j false) ops.size:=by
   refine⟨(JM (x:=0)).1.trans m1,(JM (x:=0)).2.1.trans m2,fun x=>⟨?_,?_⟩⟩
   ·have hi:uS ops.toList φ s0.sl.length x i=if o.dst=some x/\x<s0.sl.length then some (φ i).v else none:=by
     unfold uS;rw[go,ho]
     show (match o.dst with | some q=>_ | none=>_)=_
     cases o.dst <;> simp
    rw[JM.2.2.1,m1]
    split <;> rename_i h <;> simp only[h,if_true,if_false] at hi
    ·refine (Tu hgeti (by rw[hi];simp) hilt fun j h1 h2 h3=>Classical.byContradiction fun hu=>?_).symm;obtain⟨oj,q1,q2⟩:=hS x j hu;exact (apart j oj q1 (later j oj q1 h1 h3)).2.2.1 x q2 h.1
    rw[new hi];exact (m3 x).1
   rw[JM.2.2.2,m2];cases hw:wr (φ i).ws x with
   | none=>rw[new (by simp[uB,hw])];split <;> exact (m3 x).2
   | some b=>
    by_cases hx:x<s0.bk.length
    ·rw[if_pos hx];refine (Tu hgeti (by simp[uB,hw,hx]) hilt fun j h1 h2 h3=>Classical.byContradiction fun hu=>?_).symm;exact (apart j ops[j] Ai (later j ops[j] Ai h1 h3)).2.2.2 x (hB x j hu) (Classical.byContradiction fun h=>by rw[Vj h] at hw;cases hw)
    rw[if_neg hx,new (by simp[uB,hx])];exact (m3 x).2
  have:=Ua (Q:=Q) (N:=wpAny P .any ops Q fuel (listed.setIfInBounds i true)) (hs o (by simpa using Array.mem_of_getElem? ho)) S hfo' fun β' a' w' S'=>by
   refine ih _ _ β' a' w' (by simpa using hsz) (fun j oj hj hl k hk=>?_) ?_ hm' S'
   ·by_cases hki:k=i
    ·subst hki;exact hgeti
    rw[hget' k hki]
    by_cases hji:j=i
    ·subst hji;obtain rfl:o=oj:=Option.some.inj (ho.symm.trans hj);exact hanyi k hk
    rw[hget' j hji] at hl;exact hdc j oj hj hl k hk
   have:=eS listed.toList i (by simp[hsz,hilt] at hil;simp[hsz,hilt,hil]);simp only[Array.toList_setIfInBounds];omega
  unfold wpOp;rw[ho];simp only
  split
  ·rename_i hw;rw[if_pos hw] at this;exact .inl this
  rename_i hw;rw[if_neg hw] at this;exact this
theorem pN (hm:P.follows .mixedOrders=true) {id:Nat} {ops:Array Oper} {draw:Bool} {R:St->Prop} {Q:Exit->Act->World->Prop}
  (k:∀o∈ops.toList,Sound P E TI o) (S:BX w0 X β s a w) (h:Hm E TI ops.toList draw ops.toList [] R s) (g:∀s',R s'->s'.sl.length=s.sl.length->∀β a w,BX w0 X β s' a w->Q .normal a w):(Code.region id ops draw).wp P Q a w:=by
 obtain⟨φ,σ,i,hR,b⟩:=cJ k S h;rw[Array.length_toList] at hR b;have g:=g _ hR (QL i ops.size Ai).1;cases draw with
 | false=>
  refine wp_region ?_;rw[List.range_eq_range'];exact fM k i g ops.size 0 AA (i.zero ▸ S)
 | true=>
  refine wp_region_any hm ?_;have q:BX w0 X β s a {w with drawn:=w.drawn+1}:=S.ext (dst:=none) (v:= .one .Bx) (u:=undef) (rd:=[]) ⟨rfl,rfl,rfl,Nat.le_refl _,fun _ _ _=>rfl,nofun⟩ fun _=> .inl rfl
  have hf:∀j,(Array.replicate ops.size false).getD j false=false:=fun j=>by rw[Array.getD_eq_getD_getElem?,Array.getElem?_replicate];split <;> rfl
  refine km i (by simpa using b rfl) k g _ _ s β a _ Ai (fun j o r m=>by rw[hf] at m;cases m) ?_ ⟨rfl,rfl,fun x=>?_⟩ q
  ·have:∀n,Hr (List.replicate n false)=n:=fun n=>by induction n with
    | zero=>rfl
    | succ n l=>rw[List.replicate_succ,Hr,l];simp;omega
   simp[this]
  have e:∀{α:Type} {u:Nat->Option α} {d:α} n,d=EL (fun j=>(Array.replicate ops.size false).getD j false) u d n:=fun n=>by
   induction n with
   | zero=>rfl
   | succ n l=>rw[EL,hf];exact l
  exact⟨e _,e _⟩
end
section
variable {P:Program} {E:Env} {TI:TypeId->Info}
theorem sX {c:Code} {Q:Exit->Act->World->Prop} (I:Nat->Act->World->Prop) {k:Nat} {a:Act} {w:World} (r:I k a w)
  (round:∀k a w,I k a w->c.wp P (Exit.then (fun l w'=>∃k',k'<k/\I k' l w') Q) a w):(Code.loop c).wp P Q a w:=by
 have least:∀(a:Act) (w:World) (n:Nat),I n a w->∃k,I k a w/\∀j,I j a w->k<=j:=by
  intro a w n
  induction n using Nat.strongRecOn with
  | _ n z=>
   intro q
   by_cases h:∃j,j<n/\I j a w
   ·obtain⟨j,b,g⟩:=h;exact z j b g
   exact⟨n,q,fun j u=>Nat.le_of_not_lt fun m=>h ⟨j,m,u⟩⟩
 have⟨μ,i⟩:∃μ:Act->World->Nat,∀a w,(∃n,I n a w)->I (μ a w) a w/\∀j,I j a w->μ a w<=j:=by
  have:∀p:Act×World,∃k,(∃n,I n p.1 p.2)->I k p.1 p.2/\∀j,I j p.1 p.2->k<=j:=fun p=>by
   by_cases h:∃n,I n p.1 p.2
   ·obtain⟨n,q⟩:=h;obtain⟨k,b⟩:=least p.1 p.2 n q;exact⟨k,fun _=>b⟩
   exact⟨0,fun h'=>absurd h' h⟩
  exact⟨fun a w=>Classical.choose (this (a,w)),fun a w=>Classical.choose_spec (this (a,w))⟩
 refine wp_loop (fun a w=>∃n,I n a w) μ ⟨k,r⟩ fun a w t=>?_
 refine wp_mono (round _ a w (i a w t).1) fun e l w' he=>?_
 cases e with
 | normal=>obtain⟨k',b,g⟩:=he;exact⟨⟨k',g⟩,Nat.lt_of_le_of_lt ((i l w' ⟨k',g⟩).2 k' g) b⟩
 | _=>exact he
def Nk (s:St) (bs:List Nat) (k:Nat):Af:=match AP s.bk k with | some b=>if k==0&&b.BA !=0 then .dead 0 else N0 (AP s.bk) bs b | none=> .dead 0
theorem P7 (s:St) (g:List Nat) (k:Nat):Nk s g k= .dead 0\/∃b,AP s.bk k=some b/\Nk s g k=N0 (AP s.bk) g b/\(k=0->b.BA=0):=by
 unfold Nk
 split
 ·rename_i b hb
  split
  ·exact .inl rfl
  rename_i h
  exact .inr ⟨b,hb,rfl,fun e=>by subst e;simpa using h⟩
 exact .inl rfl
theorem aE (bk:Nat->Option Af) (g:List Nat) (b:Af):(N0 bk g b).BA=0/\(N0 bk g b).live=b.live:=by cases b <;> exact⟨rfl,rfl⟩
theorem bK (s:St) (g:List Nat):∀(j:List Nat) (l:List (Option Af)),(∀id b,AP l id=some b->b=Nk s g id)->∀id b,AP (Jw j (Gv s g j) l) id=some b->b=Nk s g id
 | [],l,h=>h
 | k::r,l,h=>bK s g r _ fun id b hb=>by
  rcases Nat.lt_or_ge k l.length with i | i
  ·rw[Jo _ _ _ i] at hb
   by_cases e:id=k
   ·subst e;rw[Fa] at hb;cases hb;rfl
   rw[Fb e] at hb;exact h id b hb
  rw[J5 _ _ _ i] at hb;exact h id b hb
theorem bM (s:St) (b:List Nat):∀(g:List Nat) (l:List AV),(∀i,nth l i= .one .Bx\/nth l i=QX (AP s.bk) b (nth s.sl i))->∀i,nth (Iz g (Ga s b g) l) i= .one .Bx\/nth (Iz g (Ga s b g) l) i=QX (AP s.bk) b (nth s.sl i)
 | [],l,h=>h
 | k::r,l,h=>bM s b r _ fun i=>by
  rw[MC]
  split
  ·rename_i e;exact .inr (by rw[e.1])
  exact h i
theorem Zh:∀(h:List Nat) (g:List Af) (l:List (Option Af)),(Jw h g l).length=l.length
 |[],_,_|_::_,[],_=>by simp[Jw]
 | k::r,b::g,l=>by rw[Jw,Zh r,Fk]
theorem Te:∀(g:List Nat) (vs:List AV) (l:List AV),(Iz g vs l).length=l.length
 |[],_,_|_::_,[],_=>by simp[Iz]
 | k::r,b::h,l=>by rw[Iz,Te r,Fk]
theorem L2 {α:Type}:∀(n:Nat) (x:α),(F5 n x).length=n
 | 0,_=>rfl
 | n+1,x=>by simp[F5,L2 n x]
theorem TZ {n:Nat} {h g:List Nat} {vs:List AV} {b:List Af}:(Ki n h vs g b).sl.length=n:=(Te ..).trans (L2 ..)
theorem UO:∀(n i:Nat),AP (F5 n none) i=none
 |0,_|n+1,0=>rfl
 | n+1,i+1=>UO n i
theorem UN:∀(n i:Nat),nth (F5 n (.one .Bx)) i= .one .Bx
 |0,_|n+1,0=>rfl
 | n+1,i+1=>UN n i
theorem oK {X:WX} {w:World} {β:Nat->Option Nat} {bk DD:Nat->Option Af} {i:List Nat} (t:∀id,BA DD id=0) (j:∀o b,(cx X w β bk).I o b->(cx X w β DD).I o b/\w.heap[b]? =w.heap[b]?) (l:∀b,(cx X w β bk).J b->(cx X w β DD).J b) {c:AC} {v:Value} (r:Ba (cx X w β bk) c v):Ba (cx X w β DD) (Kj bk i c) v:=by
 have BA:∀{id k:Nat} {u:Value} {A:Prop},G6 (cx X w β bk) id k u A->(i.contains id&&BA bk id==k)=true->G6 (cx X w β DD) id 0 u A:=fun {id k u A} r h=>by
  simp only[Bool.and_eq_true,beq_iff_eq] at h;exact⟨⟨r.1.1,Nat.zero_le _⟩,fun _=>r.2 h.2.symm⟩
 have one:=r.one
 cases c <;> first
  | exact Gz (y:=cx X w β DD) j rfl r
  | exact one
  | exact r
  | (simp only[Kj];split;exact BA r ‹_›;exact one)
  | skip
 case Jv ps=>
  obtain⟨b,o,c,us,e,m,g,n,q⟩:=r;simp only[Kj]
  split
  ·rename_i h
   exact⟨b,o,c,us,by rw[e,List.length_map],by rw[List.length_map];exact m,l b g,n.map (fun p u h r=>BA (k:=p.2.1) r h) h,q⟩
  exact one
theorem BX.head {w0:World} {X:WX} {β:Nat->Option Nat} {s:St} {a:Act} {w:World} (S:BX w0 X β s a w) {n:Nat} (M:s.sl.length=n) (A j:List Nat):BX w0 X β (Ki n A (Ga s j A) j (Gv s j j)) a w:=by
 have L:=bM s j A (F5 n (.one .Bx)) fun i=> .inl (UN n i)
 have m:=bK s j j (F5 n none) fun id b h=>by rw[UO] at h;cases h
 have l1:=Te A (Ga s j A) (F5 n (.one .Bx));have l2:=Zh j (Gv s j j) (F5 n none);rw[L2] at l1 l2;unfold Ki
 generalize Iz A (Ga s j A) (F5 n (.one .Bx))=sl at L l1 ⊢
 generalize Jw j (Gv s j j) (F5 n none)=bk at m l2 ⊢
 have C:∀id,BA (AP bk) id=0:=fun id=>by
  unfold BA
  split
  ·rename_i b hb
   rw[m id b hb];rcases P7 s j id with h |⟨b',_,h,_⟩ <;> rw[h]
   ·rfl
   exact (aE _ _ _).1
  rfl
 have g:∀id,live (AP bk) id->live (AP s.bk) id:=fun id ⟨b,hb,u⟩=>by
  rw[m id b hb] at u;rcases P7 s j id with h |⟨b',k,h,_⟩ <;> rw[h] at u
  ·cases u
  exact⟨b',k,(aE _ _ _).2 ▸ u⟩
 have K:∀b,(cx X w β (AP s.bk)).J b->(cx X w β (AP bk)).J b:=fun b hb=>⟨hb.1,fun id u=>hb.2 id (g id u)⟩
 have H:∀o b,(cx X w β (AP s.bk)).I o b->(cx X w β (AP bk)).I o b/\w.heap[b]? =w.heap[b]? :=fun _ b hb=>⟨⟨K b hb.1,hb.2⟩,rfl⟩
 have norm:∀{c:AC} {v:Value},Ba (cx X w β (AP s.bk)) c v->Ba (cx X w β (AP bk)) (Kj (AP s.bk) j c) v:=oK C H K
 refine⟨S.defers,by rw[l1,<-M];exact S.len,by rw[l2,<-M];exact S.len,fun i=>?_,fun id b hb=>?_,fun id G b B D=>S.inj id G b (g _ B) (g _ D),fun id b B=>S.own id b (g _ B),S.Fh,S.fresh,fun u _=>?_⟩
 ·rcases L i with h | h <;> rw[h]
  ·exact .inl rfl
  have r:=S.HM i
  generalize nth s.sl i=v at r
  cases v with
  | one c=>exact r.imp (fun e=>by rw[e];rfl) norm
  | agg cs=>obtain⟨arr,e,h⟩:=r;exact⟨arr,e,h.map (p:=fun _=>true) (fun _ _ _=>norm) Ai⟩
  | Aj _=>exact .inl rfl
 ·rw[m id b hb];rcases P7 s j id with h |⟨b',k,h,_⟩ <;> rw[h]
  ·exact⟨trivial,trivial⟩
  obtain⟨r,q⟩:=S.blocks id b' k;cases b' with
  | dead _=>exact⟨trivial,trivial⟩
  | var _ cs=>obtain⟨b,arr,e,B,D,h3⟩:=r;exact⟨⟨b,arr,e,B,D,h3.map (p:=fun _=>true) (fun _ _ _=>norm) Ai⟩,trivial⟩
  | arr _ t l=>exact⟨C2.to (x:=cx X w β (AP s.bk)) (id:=id) rfl (fun _ _ _=>rfl) (fun _ _ e=>by cases e) (fun _ _ _ _ _ _=>Em (w':=w) H _ _ _) r,q⟩
 have F:=g 0 u;obtain⟨b,hb,z⟩:=u;rw[m 0 b hb] at z;rcases P7 s j 0 with h |⟨b',k,h,N⟩ <;> rw[h] at z
 ·cases z
 exact S.Ja F (by rw[EN k];exact N rfl)
theorem ct:∀(l:List AV) (k:Nat),Cc l k (nth l k)=l
 |[],_|_::_,0=>rfl
 | a::l,k+1=>congrArg (a:: ·) (ct l k)
theorem cu:∀(l:List (Option Af)) (k:Nat),Cc l k (AP l k)=l
 |[],_|_::_,0=>rfl
 | a::l,k+1=>congrArg (a:: ·) (cu l k)
theorem aI:∀(l:List AV) (i:Nat),l.length<=i->nth l i= .one .Bx
 | [],_,_=>rfl
 | _::_,0,h=>by simp at h
 | _::l,i+1,h=>aI l i (by simpa using h)
theorem BX.move {w0:World} {X:WX} {a:Act} {w:World} {s:St} {β:Nat->Option Nat} {k id v off m:Nat} {t u:T} {l:List (el u)} (S:BX w0 X β s a w) (e:nth s.sl k= .one (.AU t id v off m)) (hb:AP s.bk id=some (.arr v u l)) (U:id≠0) (H:k≠0) (a1:id≠k):
  BX w0 X (DQ β k (β id)) ⟨Cc s.sl k (.one (.AU t k (BA (AP s.bk) k+1) off m)),Cc (Cc s.bk id (some (.dead v))) k (some (.arr (BA (AP s.bk) k+1) u l))⟩ a w:=by
 have G:id<s.bk.length:=Nat.lt_of_not_le fun h=>by rw[Jn _ _ h] at hb;cases hb
 have Y:k<s.sl.length:=Nat.lt_of_not_le fun h=>by rw[aI _ _ h] at e;cases e
 have K:k<s.bk.length:=by have:=S.len;have:=S.L3;omega
 have F:AP (Cc (Cc s.bk id (some (.dead v))) k (some (.arr (BA (AP s.bk) k+1) u l)))=DQ (DQ (AP s.bk) id (some (.dead v))) k (some (.arr (BA (AP s.bk) k+1) u l)):=by
  rw[Jo _ _ _ (by rw[Fk];exact K),Jo _ _ _ G]
 have Q:BA (AP s.bk) id=v:=EN hb;have r:live (AP s.bk) id:=⟨_,hb,rfl⟩
 have g:∀j,live (DQ (DQ (AP s.bk) id (some (.dead v))) k (some (.arr (BA (AP s.bk) k+1) u l))) j->j≠k->j≠id/\live (AP s.bk) j:=fun j n h=>by
  rw[Kg,if_neg h,Kg] at n
  split at n
  ·cases n
  rename_i z;exact⟨z,n⟩
 have A:∀j,j≠k->BA (DQ (DQ (AP s.bk) id (some (.dead v))) k (some (.arr (BA (AP s.bk) k+1) u l))) j=BA (AP s.bk) j:=fun j h=>by
  rw[IS,if_neg h,IS]
  split
  ·rename_i z;rw[z,Q];rfl
  rfl
 have N:∀b,(b<w.heap.size/\∀j,live (AP s.bk) j->β j≠some b)->b<w.heap.size/\∀j,live (DQ (DQ (AP s.bk) id (some (.dead v))) k (some (.arr (BA (AP s.bk) k+1) u l))) j->DQ β k (β id) j≠some b:=fun b q=>by
  refine⟨q.1,fun j n=>?_⟩
  by_cases h:j=k
  ·rw[h,Fa];exact q.2 id r
  rw[Fb h];exact q.2 j (g j n h).2
 have hle:(cx X w β (AP s.bk)).le (cx X w (DQ β k (β id)) (DQ (DQ (AP s.bk) id (some (.dead v))) k (some (.arr (BA (AP s.bk) k+1) u l)))):=by
  refine⟨fun j=>?_,fun j (h:BA _ j=BA _ j)=>?_,fun _ _ arr _ _ _ W=>⟨arr,W,rfl⟩,fun _ b q=>⟨⟨N b q.1,q.2⟩,rfl⟩,fun b q=>⟨N b q,rfl⟩⟩
  ·show BA _ j<=BA _ j
   by_cases h:j=k
   ·subst h;rw[IS,if_pos rfl];exact Nat.le_succ _
   rw[A j h];exact Nat.le_refl _
  show DQ β k (β id) j=β j
  by_cases z:j=k
  ·subst z;rw[IS,if_pos rfl] at h;exact absurd h (Nat.succ_ne_self _)
  exact Fb z
 refine⟨S.defers,(Fk ..).trans S.len,(Fk ..).trans ((Fk ..).trans S.L3),fun i=>?_,?_,?_,?_,S.Fh,S.fresh,?_⟩ <;> simp only[F]
 ·rw[MC]
  split
  ·rename_i h
   have O:=S.HM k;rw[h.1];rw[e] at O;obtain⟨⟨V,_⟩,z⟩:=O.resolve_left nofun;refine .inr ⟨⟨V,Nat.le_of_eq (by show _=BA _ k;rw[IS,if_pos rfl];rfl)⟩,fun _=>?_⟩;have h3:=z Q.symm
   show JF w (DQ β k (β id) k) _ _ _ _ _
   rw[Fa];exact h3
  exact CP.mono hle (S.HM i)
 ·intro j b n
  by_cases h:j=k
  ·subst h;rw[Fa] at n;cases n;exact⟨C2.to (x:=cx X w β (AP s.bk)) (id:=id) Fa (fun _ _ _=>rfl) (fun _ _ e=>by cases e) (fun _ _ _ _ _ _=>Em hle.I _ _ _) (S.blocks id _ hb).1,(S.blocks id _ hb).2⟩
  rw[Fb h] at n
  by_cases z:j=id
  ·subst z;rw[Fa] at n;cases n;exact⟨trivial,trivial⟩
  rw[Fb z] at n;exact⟨C2.mono hle (A j h) (fun _ _ _=>rfl) (S.blocks j b n).1,(S.blocks j b n).2⟩
 ·intro j D b n B e1 e2
  by_cases h:j=k <;> by_cases h':D=k
  ·rw[h,h']
  ·obtain⟨L,M⟩:=g D B h';rw[h,Fa] at e1;rw[Fb h'] at e2;exact absurd (S.inj D id b M r e2 e1) L
  ·obtain⟨L,M⟩:=g j n h;rw[h',Fa] at e2;rw[Fb h] at e1;exact absurd (S.inj j id b M r e1 e2) L
  rw[Fb h] at e1;rw[Fb h'] at e2;exact S.inj j D b (g j n h).2 (g D B h').2 e1 e2
 ·intro j b n e1
  by_cases h:j=k
  ·rw[h,Fa] at e1;exact (S.own id b r e1).imp (fun q=>q) fun q=>absurd q.2 U
  rw[Fb h] at e1;exact S.own j b (g j n h).2 e1
 intro Z C;have h:(0:Nat)≠k:=fun e=>H e.symm
 rw[A 0 h] at C;rw[Fb h];exact S.Ja (g 0 Z h).2 C
theorem BX.conv {w0:World} {X:WX} {a:Act} {w:World} {n:Nat}:∀{s:St} {β:Nat->Option Nat},BX w0 X β s a w->s.sl.length=n->∀(cv:List (Nat×T×Bool)),∃j,BX w0 X j (LS s cv) a w/\(LS s cv).sl.length=n
 | s,β,S,i,[]=>⟨β,S,i⟩
 | s,β,S,i,(k,t,b)::r=>by
  have g:nth s.sl k= .one .nil->a.tmps.getD k undef= .slice none 0 0:=fun e=>by
   have A:=S.HM k;rw[e] at A;exact A.resolve_left nofun
  have len:∀c,(Cc s.sl k c).length=n:=fun c=>(Fk ..).trans i
  unfold LS
  split
  ·rename_i e
   have:=S.val (dst:=some k) (v:= .one (.sl t [])) (u:=a.tmps.getD k undef) (rd:=[]) (.inr (by rw[g e];exact L8));rw[Qk] at this;exact BX.conv this (len _) r
  ·rename_i e
   obtain⟨j,this⟩:=S.write (dst:=some k) (v:= .one (.AU t k (BA (AP s.bk) k+1) 0 0)) (u:=a.tmps.getD k undef) (rd:=[]) (id:=k) (Bw:= .arr (BA (AP s.bk) k+1) t []) (o':=none) (.inr ⟨rfl,rfl⟩) (Nat.zero_le _) .rfl (.inl rfl) (.inl (Nat.lt_succ_self _)) nofun
    fun y _ _ I H _=>⟨.inl ⟨I,rfl⟩,.inr ⟨⟨by rw[g e];rfl,Nat.le_of_eq H.symm⟩,fun _=>⟨none,0,g e,Nat.le_refl _,Nat.zero_le _,nofun,.inl rfl⟩⟩⟩
   rw[Qk] at this;exact BX.conv this (len _) r
  ·rename_i G id v m e
   split
   ·rename_i L K l hb
    split
    ·rename_i z
     simp only[Bool.and_eq_true,bne_iff_ne,beq_iff_eq] at z;obtain⟨⟨B,rfl⟩,C⟩:=z;obtain rfl:=T.beq_eq C;have A:s.app (some k) ⟨nth s.sl k,[(id,.arr v _ l)],[]⟩=s:=by simp only[St.app,Fo,E7,<-hb,ct,cu]
     rw[e] at A;obtain⟨j,this⟩:=BX.ch (s:=s) (q:=k) (Ut:=[]) (by rw[A];exact S) (.inl (Nat.lt_of_not_le fun h=>by rw[Jn _ _ h] at hb;cases hb)) B;exact BX.conv this (len _) r
    exact BX.conv S i r
   exact BX.conv S i r
  ·rename_i G id v o m e
   split
   ·rename_i L K l hb
    split
    ·rename_i z
     simp only[Bool.and_eq_true,bne_iff_ne,beq_iff_eq] at z;obtain⟨B,D,F,rfl⟩:=z;exact BX.conv (S.move e hb B D F) (len _) r
    exact BX.conv S i r
   exact BX.conv S i r
  exact BX.conv S i r
def Hg:Code->Bool
 | .region _ ops _=>ops.toList.all NY
 |.seq a b|.cond _ a b=>Hg a&&Hg b
 |.block _ c|.loop c=>Hg c
 | _=>true
def rU:AX->Exit
 | .Dw=> .normal
 | .exit n=> .exit n
 | .ret=> .ret
def Ms (w0:World) (X:WX) (n:Nat) (Q:AX->St->Prop) (e:Exit) (a:Act) (w:World):Prop:=
 ∃x s β,e=rU x/\Q x s/\s.sl.length=n/\BX w0 X β s a w
theorem Ii (hm:P.follows .mixedOrders=true) (t:∀o,NY o=true->Sound P E TI o) {n:Nat} {w0:World} {X:WX}:∀{c:Code} {Q:AX->St->Prop} {β:Nat->Option Nat} {s:St} {a:Act} {w:World},Hg c=true->s.sl.length=n->BX w0 X β s a w->DY E TI n c Q s->
  c.wp P (Ms w0 X n Q) a w
 | .skip,Q,β,s,a,w,_,l,S,h=>wp_skip ⟨.Dw,s,β,rfl,h,l,S⟩
 | .exit i,Q,β,s,a,w,_,l,S,h=>wp_exit ⟨.exit i,s,β,rfl,h,l,S⟩
 | .ret,Q,β,s,a,w,_,l,S,h=>wp_ret ⟨.ret,s,β,rfl,h,l,S⟩
 | .region id ops draw,Q,β,s,a,w,r,l,S,h=>
  pN hm (fun o L=>t o (List.all_eq_true.1 r o L)) S h fun s' C H j z w' q=>⟨.Dw,s',j,rfl,C,by rw[H];exact l,q⟩
 | .seq x y,Q,β,s,a,w,r,l,S,h=>by
  simp only[Hg,Bool.and_eq_true] at r;refine wp_seq (wp_mono (Ii hm t r.1 l S h) fun e z w' he=>?_);obtain⟨x',s',j,rfl,m,g,q⟩:=he;cases x' with
  | Dw=>exact Ii hm t r.2 g q m
  | _=>exact⟨_,s',j,rfl,m,g,q⟩
 | .cond c x y,Q,β,s,a,w,r,l,S,h=>by
  simp only[Hg,Bool.and_eq_true] at r;have G:=Ll S c
  have plain:∀{Q:AX->St->Prop},(match ev s.sl c with | .one (.bool true)=>DY E TI n x Q s | .one (.bool false)=>DY E TI n y Q s | .one (.ub u)=>(u=true->DY E TI n x Q s)/\DY E TI n y Q s | _=>False)->(Code.cond c x y).wp P (Ms w0 X n Q) a w:=by
   intro Q h
   split at h <;> try exact h.elim
   all_goals rename_i he;rw[he] at G
   ·exact wp_cond_true (G.resolve_left nofun) (Ii hm t r.1 l S h)
   ·exact wp_cond_false (G.resolve_left nofun) (Ii hm t r.2 l S h)
   obtain⟨b,hb,I⟩:=G.resolve_left nofun;cases b with
   | true=>exact wp_cond_true hb (Ii hm t r.1 l S (h.1 (I rfl)))
   | false=>exact wp_cond_false hb (Ii hm t r.2 l S h.2)
  simp only[DY] at h
  split at h
  ·rcases h with⟨B,A,J,D,h⟩ | h
   ·refine wp_mono (plain h) fun e z w' ⟨x',s',j,he,m,g,q⟩=>?_
    cases x' with
    | Dw=>exact⟨.Dw,_,j,he,D _ _ m,TZ,q.head g B A⟩
    | _=>exact⟨_,s',j,he,m,g,q⟩
   exact plain h
  exact plain h
 | .block id c,Q,β,s,a,w,r,l,S,h=>by
  have key:∀{R:St->Prop},(∀{s':St} {j:Nat->Option Nat} {z:Act} {w':World},R s'->s'.sl.length=n->BX w0 X j s' z w'->Ms w0 X n Q .normal z w')->DY E TI n c (fun e s'=>match e with | .exit i=>if i=id then R s' else Q (.exit i) s' | .Dw=>R s' | .ret=>Q .ret s') s->(Code.block id c).wp P (Ms w0 X n Q) a w:=by
   intro R fin h;refine wp_block (wp_mono (Ii hm t (c:=c) r l S h) fun e z w' he=>?_);obtain⟨x',s',j,rfl,m,g,q⟩:=he;cases x' with
   | Dw=>exact fin m g q
   | exit i=>
    show Exit.inBlock id (Ms w0 X n Q) (.exit i) z w'
    simp only[Exit.inBlock];simp only at m
    split <;> rename_i C
    ·rw[if_pos C] at m;exact fin m g q
    rw[if_neg C] at m;exact⟨.exit i,s',j,rfl,m,g,q⟩
   | ret=>exact⟨.ret,s',j,rfl,m,g,q⟩
  rcases h with⟨B,A,J,D,h⟩ | h
  ·exact key (fun m g q=>⟨.Dw,_,_,rfl,D _ _ m,TZ,q.head g B A⟩) h
  exact key (fun m g q=>⟨.Dw,_,_,rfl,m,g,q⟩) h
 | .loop c,Q,β,s,a,w,r,l,S,h=>by
  obtain⟨cv,B,A,J,⟨k0,K⟩,M⟩:=h;obtain⟨β,S,l⟩:=S.conv l cv;refine sX (fun k a w=>∃vs F β,J vs F k/\BX w0 X β (Ki n B vs A F) a w) ⟨_,_,β,K,S.head l B A⟩ fun k a w ⟨vs,F,β,D,S⟩=>?_
  refine wp_mono (Ii hm t (c:=c) r TZ S (M vs F k D)) fun e z w' he=>?_
  obtain⟨x',s',j,rfl,m,g,q⟩:=he;cases x' with
  | Dw=>obtain⟨k',C,H⟩:=m;exact⟨k',C,_,_,j,H,q.head g B A⟩
  | _=>exact⟨_,s',j,rfl,m,g,q⟩
 | .rangeFunc _ _ _ _,_,_,_,_,_,_,_,_,h | .scope _,_,_,_,_,_,_,_,_,h | .label _,_,_,_,_,_,_,_,_,h | .goto _,_,_,_,_,_,_,_,_,h | .refuse _,_,_,_,_,_,_,_,_,h=>h.elim
end
end Go.Abs
