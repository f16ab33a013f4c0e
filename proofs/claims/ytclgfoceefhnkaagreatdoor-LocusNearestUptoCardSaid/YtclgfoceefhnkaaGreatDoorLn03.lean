/- Part 4 of a proof. Conditions: each theorem's own. -/
import Derived.Deep.AppendSrc
import Derived.Deep.Upon
import Derived.Test.YtclgfoceefhnkaaGreatDoorLn02
set_option linter.all false
set_option maxHeartbeats 80000000
set_option maxRecDepth 20000
namespace Go.Abs
open Go.RowKit
def DT (w:World) (I:Nat->Prop) (t:T):List (el t)->List Value->Prop
 | [],fl=>fl=[]
 | x::l,fl=>∃us r,fl=us++r/\rep w I t x us/\DT w I t l r
section
variable {w:World} {I:Nat->Prop} {t:T}
theorem S7 {b o:Nat} {us vs:List Value}:w.rangeAt b o (us++vs)↔w.rangeAt b o us/\w.rangeAt b (o+us.length) vs:=by
 constructor
 ·refine fun h=>⟨fun j v c=>h j v ?_,fun j v c=>?_⟩
  ·rwa [List.getElem?_append_left (Hn c)]
  rw[Nat.add_assoc];exact h (us.length+j) v (by rw[List.getElem?_append_right (by omega)];simpa using c)
 rintro⟨d,f⟩ j v c
 rw[List.getElem?_append] at c
 split at c
 ·exact d j v c
 have:=f _ v c;rwa [show o+us.length+(j-us.length)=o+j by omega] at this
theorem DT.length:∀{l:List (el t)} {fl:List Value},DT w I t l fl->fl.length=l.length*t.size
 | [],_,h=>by rw[show _=_ from h];simp
 | _::_,_,⟨us,r,e,b,c⟩=>by rw[e,List.length_append,Lg _ _ _ b,DT.length c,List.length_cons,Nat.succ_mul];omega
theorem DT.one:∀{l:List (el t)} {fl:List Value},DT w I t l fl->∀u∈fl,u.oneCell'=true
 | [],_,h,u,hu=>by rw[show _=_ from h] at hu;simp at hu
 | _::_,_,⟨us,r,e,b,c⟩,u,hu=>(List.mem_append.1 (e ▸ hu)).elim (nV _ _ _ b u) (DT.one c u)
theorem DT.append:∀{l l':List (el t)} {fl b:List Value},DT w I t l fl->DT w I t l' b->DT w I t (l++l') (fl++b)
 | [],_,_,_,h,h'=>by rw[show _=_ from h];exact h'
 | _::_,_,_,_,⟨us,r,e,c,d⟩,h'=>⟨us,r++_,by rw[e,List.append_assoc],c,DT.append d h'⟩
theorem DT.mono {w':World} {I':Nat->Prop} (hm:∀b,I b->I' b/\w'.heap[b]? =w.heap[b]?):∀{l:List (el t)} {fl:List Value},DT w I t l fl->DT w' I' t l fl
 | [],_,h=>h
 | _::_,_,⟨us,r,e,c,d⟩=>⟨us,r,e,Ev hm _ _ _ c,DT.mono hm d⟩
theorem TN {b:Nat}:∀{l:List (el t)} {off:Nat},(∀(i:Nat) (x:el t),l[i]? =some x->∃us,rep w I t x us/\w.rangeAt b (off+i*t.size) us)->∃fl,DT w I t l fl/\w.rangeAt b off fl
 | [],_,_=>⟨[],rfl,fun j v g=>by simp at g⟩
 | x::l,off,h=>by
  obtain⟨us,c,d⟩:=h 0 x rfl
  obtain⟨fl,h3,f⟩:=TN (l:=l) (off:=off+t.size) fun i y k=>by
   obtain⟨us,g1,g2⟩:=h (i+1) y k;exact⟨us,g1,by rwa [Nat.add_mul,Nat.one_mul,Nat.add_comm (i*_),<-Nat.add_assoc] at g2⟩
  refine⟨us++fl,⟨us,fl,rfl,c,h3⟩,S7.2 ⟨by simpa using d,?_⟩⟩;rw[Lg _ _ _ c];exact f
theorem TO {b:Nat}:∀{l:List (el t)} {fl:List Value} {off:Nat},DT w I t l fl->w.rangeAt b off fl->∀(i:Nat) (x:el t),l[i]? =some x->∃us,rep w I t x us/\w.rangeAt b (off+i*t.size) us
 | [],_,_,_,_,_,_,c=>by simp at c
 | _::_,_,off,⟨us,r,e,f,g⟩,h,i,x,c=>by
  subst e;have h3:=S7.1 h;cases i with
  | zero=>cases c;exact⟨us,f,by simpa using h3.1⟩
  | succ i=>
   rw[Lg _ _ _ f] at h3;obtain⟨d,g1,g2⟩:=TO g h3.2 i x c;exact⟨d,g1,by rwa [Nat.add_mul,Nat.one_mul,Nat.add_comm (i*_),<-Nat.add_assoc]⟩
end
section
variable {P:Program} {TI:TypeId->Info} {w0 w:World} {X:WX} {β:Nat->Option Nat} {s:St} {a:Act} {x:Value}
theorem drop_take {α:Type} {l:List α} {off len i:Nat} {y:α} (h:((l.drop off).take len)[i]? =some y):l[off+i]? =some y:=by
 rw[List.getElem?_take] at h
 split at h
 ·simpa using h
 cases h
theorem PQ (S:Bl w0 X β s a w) {t:T} {id v off len:Nat} {l:List (el t)} {u:Value} (j:Bg (cx X w β (AN s.bk)) (.AZ t id v off len) u) (hb:AN s.bk id=some (.arr v t l)) (hle:off+len<=l.length):
  ∃base cap,u= .slice base ((l.drop off).take len).length cap/\((l.drop off).take len).length<=cap/\((l.drop off).take len).length<=140737488355328/\cap<=maxLen/\
   ((l.drop off).take len=[]\/∃b,live (AN s.bk) id/\β id=some b/\b<w.heap.size/\base=some ⟨b,off*t.size,none⟩/\
     ∀(i:Nat) (y:el t),((l.drop off).take len)[i]? =some y->∃us,rep w (cx X w β (AN s.bk)).I t y us/\w.rangeAt b (off*t.size+i*t.size) us):=by
 obtain⟨base,cap,e,q,h,_,h3⟩:=j.2 (EL hb).symm;have hlen:((l.drop off).take len).length=len:=by simp;omega
 have r:l.length<=140737488355328:=(S.blocks id _ hb).2;refine⟨base,cap,by rw[hlen,e],by omega,by omega,h,?_⟩
 by_cases g:len=0
 ·subst g;exact .inl (List.take_zero ..)
 rcases h3 with rfl |⟨b,arr,p,d,n,o,z⟩
 ·omega
 obtain⟨c,f,_,m⟩:=(S.blocks id _ hb).1.arr d;refine .inr ⟨b,⟨_,hb,rfl⟩,d,GA o,n,fun i y k=>?_⟩;rw[<-Nat.add_mul];exact m _ y (drop_take k)
theorem oh (S:Bl w0 X β s a w) {c:AC} {t:T} {l:List (el t)} {n r:TypeId} (g:P.underlying n=some (.slice r)) (k:Bg (cx X w β (AN s.bk)) c x) (h:Gi (AN s.bk) c (.sl t l)):
  ∃news,Src P t.size n x l.length news w/\DT w (cx X w β (AN s.bk)).I t l news:=by
 have key:∀{base:Option Addr} {cap:Nat},x= .slice base l.length cap->(l=[]\/∃b off,base=some ⟨b,off,none⟩/\∀(i:Nat) (y:el t),l[i]? =some y->∃us,rep w (cx X w β (AN s.bk)).I t y us/\w.rangeAt b (off+i*t.size) us)->
   ∃news,Src P t.size n x l.length news w/\DT w (cx X w β (AN s.bk)).I t l news:=by
  rintro base cap rfl (rfl |⟨b,off,rfl,d⟩)
  ·refine⟨[],?_,rfl⟩;cases base with
   | none=>exact Src.ofNil w g cap
   | some p=>exact Src.ofSlice w g p 0 cap [] (by simp) (fun j u hu=>by simp at hu) (by simp)
  obtain⟨fl,f,o⟩:=TN d;exact⟨fl,Src.ofSlice w g _ _ _ fl f.length (fun j u hu=>by rw[Addr.add_mid];exact o j u hu) f.one,f⟩
 cases c with
 | sl m l'=>
  cases (h:AC.sl t l=AC.sl m l');obtain⟨base,cap,v,f,o,h3⟩:=k;exact key (List.cons.inj v).1 (h3.imp id fun⟨b,off,e,_,d⟩=>⟨b,off,e,d⟩)
 | nil=>
  rcases h with h |⟨m,h⟩ <;> cases h
  exact key k (.inl rfl)
 | AZ m id vv off len=>
  obtain⟨l',hb,hle,h⟩:=h;cases h;obtain⟨base,cap,e,_,_,_,h3⟩:=PQ S k hb hle;exact key e (h3.imp (fun q=>q) fun⟨b,_,_,_,e,d⟩=>⟨b,_,e,d⟩)
 | Gt=>exact h.elim (fun⟨_,_,e⟩=>nomatch e) nofun
 | AR=>obtain⟨_,_,_,_,e⟩:=h;cases e
 | _=>first | exact h.elim | cases h
theorem oo (S:Bl w0 X β s a w) {t tx ty:TypeId} {u:T} (hu:u=(TI t).elem) (hT:∀t,G9 P t (TI t)) (ht:(TI t).sl=true) (hx:(TI tx).sl=true)
  {base:Option Addr} {cap:Nat} {id:Nat} {l l2:List (el u)} (hlc:l.length<=cap) (hcm:cap<=maxLen)
  (hb:cap=0\/∃b arr e',β id=some b/\live (AN s.bk) id/\base=some ⟨b,0,none⟩/\w.heap[b]? =some (.cells arr e' (0,0))/\cap*u.size<=arr.size/\
   ∀(i:Nat) (y:el u),l[i]? =some y->∃us,rep w (cx X w β (AN s.bk)).I u y us/\w.rangeAt b (i*u.size) us)
  {c:AC} (hr:Bg (cx X w β (AN s.bk)) c x) (hsn:Gi (AN s.bk) c (.sl u l2)) (hfit:fits (l.length+l2.length) (TI t).EA)
  {dst:Option Nat} {vv:Nat} {rd:List Nat} (hid:id<s.bk.length\/dst=some id/\base=none/\cap=0) (hvv:vv=BE (AN s.bk) id+1):
  ∃v' w' β',(Builtin.append_ #[t,tx] ty #[.slice base l.length cap,x]).run P w= .ok v' w'/\
   Bl w0 X β' (s.app dst ⟨.one (.AZ u id vv 0 (l++l2).length),[(id,.arr vv u (l++l2))],rd⟩) (a.put dst v') w':=by
 obtain⟨ht,ei,z,hi,hsize,hby,hpos,hz,g6⟩:=(hT t).sl ht;obtain⟨hx,_⟩:=(hT tx).sl hx;subst hu;have hzs:z.cells.size=(TI t).elem.size:=by have:=(g6 (cx X w β (AN s.bk))).length;rw[Jo] at this;simpa using this.symm
 obtain⟨news,hs,hrows⟩:=oh S hx hr hsn;have hnl:=hs.newsLen;have hbl:(l.length+l2.length)*ei.bytes<=140737488355328:=hby ▸ hfit;have h47:l.length+l2.length<=140737488355328:=Nat.le_trans (Nat.le_mul_of_pos_right _ hpos) hbl;have hlen:(l++l2).length=l.length+l2.length:=List.length_append
 have fin:∀{Kj:Option Addr} {cap':Nat} {w':World} {o o':Option Nat},Dq w w' o->(id<s.bk.length\/dst=some id/\o=none)->(o=none\/o=β id/\live (AN s.bk) id)->(∀b,o'=some b->(β id=some b/\live (AN s.bk) id)\/w.heap.size<=b)->(l++l2).length<=cap'->cap'<=maxLen->
   (∀{I':Nat->Prop},(∀b,(cx X w β (AN s.bk)).I b->I' b/\w'.heap[b]? =w.heap[b]?)->(cap'=0/\o'=none)\/∃b arr e,o'=some b/\Kj=some ⟨b,0,none⟩/\w'.heap[b]? =some (.cells arr e (0,0))/\cap'*(TI t).elem.size<=arr.size/\∃fl,DT w' I' (TI t).elem (l++l2) fl/\w'.rangeAt b 0 fl)->
   ∃β',Bl w0 X β' (s.app dst ⟨.one (.AZ (TI t).elem id vv 0 (l++l2).length),[(id,.arr vv (TI t).elem (l++l2))],rd⟩) (a.put dst (.slice Kj (l++l2).length cap')) w':=by
  intro Kj cap' w' o o' F h0 h1 h2 h3 h4 h5;refine S.write h0 (by show (l++l2).length<=_;omega) F h1 (.inl (by show _<vv;omega)) (fun _=>h2) fun y hle hw hy hv _=>?_
  subst hw;rcases h5 hle.I with⟨h5,h6⟩ |⟨b,arr,e,h5,h6,h7,h8,fl,h9,h10⟩
  ·exact⟨.inl ⟨hy.trans h6,List.eq_nil_of_length_eq_zero (by omega)⟩,.inr ⟨⟨rfl,Nat.le_of_eq hv.symm⟩,fun _=>⟨_,_,rfl,h3,h4,nofun,.inl h5⟩⟩⟩
  exact⟨.inr ⟨b,arr,e,hy.trans h5,h7,fun i z hz=>by simpa using TO h9 h10 i z hz⟩,.inr ⟨⟨rfl,Nat.le_of_eq hv.symm⟩,fun _=>⟨_,_,rfl,h3,h4,nofun,.inr ⟨b,arr,e,hy.trans h5,by rw[h6];simp,h7,by simpa using h8⟩⟩⟩⟩
 have olds:∃fl,DT w (cx X w β (AN s.bk)).I (TI t).elem l fl/\(cap=0\/∃b,base=some ⟨b,0,none⟩/\w.rangeAt b 0 fl):=by
  rcases hb with h |⟨b,arr,e',h1,_,h2,h3,h4,h5⟩
  ·exact⟨[],(List.eq_nil_of_length_eq_zero (by omega):l=[]) ▸ rfl,.inl h⟩
  obtain⟨fl,q1,q2⟩:=TN (off:=0) (fun i y hy=>by simpa using h5 i y hy);exact⟨fl,q1,.inr ⟨b,h2,q2⟩⟩
 obtain⟨olds,ho1,ho2⟩:=olds;have hs':Src P ei.size tx x l2.length news w:=hsize ▸ hs
 by_cases hroom:l.length+l2.length<=cap
 ·rcases hb with rfl |⟨b,arr,e',hbid,hlive,rfl,hh,hsz,hrow⟩
  ·obtain rfl:l2=[]:=List.eq_nil_of_length_eq_zero (by omega);obtain rfl:news=[]:=List.eq_nil_of_length_eq_zero (by simpa using hnl);have hrun:=run_append_nothing (P:=P) w t tx ty _ ei ht hi base l.length 0 hlc x hs';obtain⟨β',S'⟩:=fin (Kj:=base) (o:=none) (o':=none) .rfl (hid.imp_right fun h=>⟨h.1,rfl⟩) (.inl rfl) nofun (by omega) hcm fun _=> .inl ⟨rfl,rfl⟩
   exact⟨_,w,β',hrun,by simpa using S'⟩
  have hfit:0+l.length*(TI t).elem.size+news.length<=arr.size:=by
   have:(l.length+l2.length)*(TI t).elem.size<=cap*(TI t).elem.size:=Nat.mul_le_mul_right _ hroom;rw[Nat.add_mul] at this;omega
  have hth:=UG hh hfit;have hrun:=run_append_room_src (P:=P) w t tx ty _ ei ht hi b 0 l.length cap x l2.length news hs' hroom (fun j hj=>by rw[hsize];exact (hth j hj).1) (fun j hj=>by rw[hsize];exact (hth j hj).2);rw[hsize] at hrun;obtain⟨arr',q1,_,q3⟩:=NV b news (0+l.length*(TI t).elem.size) w arr e' hh
  obtain⟨β',S'⟩:=fin (Kj:=some ⟨b,0,none⟩) (o':=some b) (Dq.set news _ w) (hid.imp_right fun h=>nomatch h.2.1) (.inr ⟨hbid.symm,hlive⟩) (fun k hk=> .inl ⟨hbid.trans hk,hlive⟩) (by omega) hcm fun hI=> .inr ⟨b,arr',e',rfl,rfl,q1,by omega,olds++news,(DT.mono hI ho1).append (DT.mono hI hrows),S7.2 ⟨by
   rcases ho2 with rfl |⟨b',e,h⟩
   ·rw[(List.eq_nil_of_length_eq_zero (by rw[ho1.length,show l.length=0 by omega,Nat.zero_mul]):olds=[])];intro j v hj;simp at hj
   cases e;exact aB (fun m hm=> .inl (by rw[ho1.length] at hm;omega)) h,by rw[ho1.length];exact aA hh hfit⟩⟩
  exact⟨_,_,β',hrun,by rw[<-hlen];exact S'⟩
 have hold:(Builtin.firstCells ei.size l.length (.slice base l.length cap)).run P w.drew= .ok olds.toArray w.drew:=by
  rcases ho2 with rfl |⟨b,rfl,hr⟩
  ·have h0:l.length=0:=by omega
   have:olds=[]:=List.eq_nil_of_length_eq_zero (by rw[ho1.length,h0,Nat.zero_mul]);rw[this,h0];cases base with
   | none=>exact run_firstCells_none w.drew ei.size 0 0 0
   | some ad=>exact run_firstCells_some w.drew ei.size 0 ad 0 0 [] (by simp) (fun j u hu=>by simp at hu)
  exact run_firstCells_some w.drew ei.size l.length _ l.length cap olds (by rw[ho1.length,hsize]) fun j u hu=>by rw[Addr.add_mid];simpa using hr j u hu
 have hrun:=run_append_grow_src (P:=P) w t tx ty _ ei z ht hi hz base l.length cap olds hold x l2.length news hs' (by omega) (by omega) (growslice_fits (by omega) hbl);have hge:=grownCap_ge w (l.length+l2.length) cap (TI t).C1;have hle:=grownCap_le_maxLen w (l.length+l2.length) cap (TI t).C1 (by unfold maxLen;omega)
 generalize grownCap w (l.length+l2.length) cap (TI t).C1=c' at hrun hge hle
 generalize harr:(olds++news).toArray++Builtin.zeroCells z.cells (c'-(l.length+l2.length))=arr at hrun
 have hsz:arr.size=c'*(TI t).elem.size:=by
  rw[<-harr,Array.size_append,size_zeroCells,hzs,List.size_toArray,List.length_append,ho1.length,hnl,<-Nat.add_mul,<-Nat.add_mul]
  congr 1;omega
 obtain⟨β',S'⟩:=fin (Kj:=some ⟨w.heap.size,0,none⟩) (o:=none) (o':=some w.heap.size) (Dq.push (w':=w.drew.alloc (.cells arr (TI t).C1)) rfl rfl rfl rfl) (hid.imp_right fun h=>⟨h.1,rfl⟩) (.inl rfl) (fun b hb=> .inr (by cases hb;exact Nat.le_refl _)) (by rw[hlen];exact hge) hle
  fun hI=> .inr ⟨w.heap.size,arr,(TI t).C1,rfl,rfl,heap_alloc_new w.drew _,Nat.le_of_eq hsz.symm,olds++news,(DT.mono hI ho1).append (DT.mono hI hrows),fun j v hj=>by
   rw[Nat.zero_add];refine (World.cell?_alloc_new w.drew _ _ j).trans ?_;rw[<-harr,Array.getElem?_append_left (by simpa using Hn hj)];simpa using hj⟩
 exact⟨_,_,β',hrun,by rw[<-hlen];exact S'⟩
end
def Mj (o:Oper):Bool:=
 match o.op with
 |.alloc _|.box _ _|.makeSlice _ _ _|.buildSlice _ _ _=>o.dst.isSome
 | .call c=>match c.callee with
  | .builtin _=>o.dst.isSome
  | _=>true
 | _=>true
theorem Pv {α:Type}:∀(l:List α) (i:Nat) (x y:α),C2 (C2 l i x) i y=C2 l i y
 |[],_,_,_|_::_,0,_,_=>rfl
 | a::l,i+1,x,y=>congrArg (a:: ·) (Pv l i x y)
theorem Po (a:Act) (k:Nat):a.put (some k) (a.tmps.getD k undef)=a:=by
 have h:a.tmps.setIfInBounds k (a.tmps.getD k undef)=a.tmps:=by
  apply Array.ext
  ·simp
  intro i c b;rw[Array.getElem_setIfInBounds]
  split
  ·subst_vars;simp[Array.getD,b]
  rfl
 simp only[Act.put,h]
section
variable {P:Program} {TI:TypeId->Info} {w0 w:World} {X:WX} {β:Nat->Option Nat} {s:St} {a:Act}
theorem Bl.Z4 {q id v n:Nat} {t:T} {l:List (el t)} {rd TC:List Nat} (S:Bl w0 X β (s.app (some q) ⟨.one (.AZ t id v 0 n),[(id,.arr v t l)],rd⟩) a w) (B:id<s.bk.length\/id=q) (J:id≠0):
  ∃c,Bl w0 X c (s.app (some q) ⟨if n=l.length then .one (.sl t l) else .one .B7,[(id,.dead v)],TC⟩) a w:=by
 have g:=S.len.trans S.PG.symm;have g:s.sl.length=s.bk.length:=by rwa [St.app,FE,Ee,Ee,Gc,Gc] at g
 have C:∀u,s.bk.length<=q->C2 s.sl q u=s.sl:=fun u h=>JT _ _ _ (by omega)
 by_cases d:id<s.bk.length
 case neg=>
  obtain rfl:=B.resolve_left d;rw[St.app,FE,C _ (by omega),Ee,Ee,JT _ _ _ (by omega)] at S ⊢;exact⟨β,S⟩
 have hb:AN (C2 s.bk id (some (.arr v t l))) id=some (.arr v t l):=by rw[LU _ _ _ d,H3]
 have W:=fun dst (u:AV) k (N:∀y,_->_->_->_->_->CX y u (a.tmps.getD k undef))=>S.write (dst:=dst) (v:=u) (u:=a.tmps.getD k undef) (rd:=TC) (id:=id) (By:= .dead v) (o:=none) (o':=β id) (.inl (by rw[St.app,Ee,Ee,Gc];exact d)) trivial .rfl (.inl rfl) (.inr ⟨(EL hb).symm,rfl,nofun⟩) nofun
  fun y p r h3 A K=>⟨trivial,N y p r h3 A K⟩
 by_cases m:n=l.length
 case neg=>
  obtain⟨c,f⟩:=W (some q) (.one .B7) q fun _ _ _ _ _ _=> .inl rfl
  rw[Po] at f;simp only[St.app,FE,Ee,Pv,if_neg m] at f ⊢;exact⟨c,f⟩
 subst m;rw[if_pos rfl]
 by_cases Q:q<s.sl.length
 ·have D:=S.Hz q;rw[St.app,FE,NG,if_pos ⟨rfl,Q⟩] at D;obtain⟨base,cap,p,r,h3,_,A⟩:=PQ S (D.resolve_left nofun) hb (Nat.le_of_eq (Nat.zero_add _));rw[List.drop_zero,List.take_length] at p r h3 A
  obtain⟨c,f⟩:=W (some q) (.one (.sl t l)) q fun y hle hw _ _ L=> .inr ⟨base,cap,congrArg (· :: []) p,r,h3,A.imp (fun q=>q) fun⟨b,g1,g2,F,G,H⟩=>
   ⟨b,_,G,L b (hw ▸ F) (.inr ⟨(S.own id b g1 g2).elim (S.fresh.1 b) fun h=>absurd h.2 J,fun j M O e=>M (S.inj j id b O g1 e g2)⟩) nofun,fun i z R=>let ⟨us,k1,k2⟩:=H i z R;⟨us,Ev hle.I _ _ _ k1,by rw[hw];exact k2⟩⟩⟩
  rw[Po] at f;simp only[St.app,FE,Ee,Pv] at f;exact⟨c,f⟩
 obtain⟨c,f⟩:=W none (.one .B7) q fun _ _ _ _ _ _=> .inl rfl
 simp only[St.app,FE,Ee,Pv,C _ (show s.bk.length<=q by omega)] at f ⊢;exact⟨c,f⟩
theorem WM {o:Oper} {c:Call} {b:Builtin} {u:Value} {w':World} (d:o.op= .call c) (hb:c.callee= .builtin b) (h:(builtin b c.argTypes o.type (c.args.map fun | .const _=>true | _=>false) (c.args.map a.eval)).run P w= .ok (.value u) w'):
  (execOp a.eval o).run P w= .ok (.value u) w':=by
 simp only[execOp,d,resolve,hb,Sem.run_bind,Sem.run_pure,Result.andThen_ok,invoke];exact h
theorem aj (F:∀t,G9 P t (TI t)) {o:Oper} {c:Call} {b:Builtin} (ho:o.op= .call c) (hc:c.callee= .builtin b) (hd:o.dst.isSome=true) (S:Bl w0 X β s a w) {f:DD} (h:HD TI b c.argTypes.toList (c.args.toList.map (ev s.sl)) (Ci o) (AN s.bk) (fun g=>g=f)):
  (∃u w' m,(execOp a.eval o).run P w= .ok (.value u) w'/\Bl w0 X m (s.app o.dst f) (a.put o.dst u) w')/\(b= .append->∀id B,f.ws=[(id,B)]->id<s.bk.length\/id=Ci o):=by
 have d:=Mo (K4 S) c.args.toList
 generalize c.args.toList.map (ev s.sl)=A at h d
 generalize hU:c.args.toList.map a.eval=U at d
 have J:c.args.map a.eval=U.toArray:=by rw[<-hU];exact Array.ext' (by simp)
 have G:c.argTypes=c.argTypes.toList.toArray:=Array.ext' rfl
 generalize c.argTypes.toList=N at h G
 have val:∀{k:IntKind} {n:Int} {rd:List Nat},⟨.one (.int k n),[],rd⟩=f->(builtin b N.toArray o.type (c.args.map fun | .const _=>true | _=>false) U.toArray).run P w= .ok (.value (.int k n)) w->∃u w' m,(execOp a.eval o).run P w= .ok (.value u) w'/\Bl w0 X m (s.app o.dst f) (a.put o.dst u) w':=
  fun e j=>⟨_,w,β,WM ho hc (by rw[J,G];exact j),by subst e;exact S.val (Or.inr rfl)⟩
 unfold HD at h
 have app:∀{t0 t1:TypeId} {u:T} {x:AC} {v:Value} {base:Option Addr} {cap id vv:Nat} {l l2 l':List (el u)} {rd:List Nat},N=[t0,t1]->b= .append->u=(TI t0).elem->(TI t0).sl=true->(TI t1).sl=true->U=[.slice base l.length cap,v]->l.length<=cap->cap<=maxLen->
   (cap=0\/∃b arr e',β id=some b/\live (AN s.bk) id/\base=some ⟨b,0,none⟩/\w.heap[b]? =some (.cells arr e' (0,0))/\cap*u.size<=arr.size/\
    ∀(i:Nat) (y:el u),l[i]? =some y->∃us,rep w (cx X w β (AN s.bk)).I u y us/\w.rangeAt b (i*u.size) us)->
   CX (cx X w β (AN s.bk)) (.one x) v->Gi (AN s.bk) x (.sl u l2)->fits (l.length+l2.length) (TI t0).EA->(id<s.bk.length\/o.dst=some id/\base=none/\cap=0)->vv=BE (AN s.bk) id+1->l'=l++l2->
   ⟨.one (.AZ u id vv 0 l'.length),[(id,.arr vv u l')],rd⟩=f->(∃u w' m,(execOp a.eval o).run P w= .ok (.value u) w'/\Bl w0 X m (s.app o.dst f) (a.put o.dst u) w')/\(b= .append->∀id B,f.ws=[(id,B)]->id<s.bk.length\/id=Ci o):=by
  rintro t0 t1 u x v base cap id vv l l2 l' rd rfl rfl he H D rfl Z W hb hx C p K a1 rfl rfl;obtain⟨a2,w',m,L,S'⟩:=oo S (ty:=o.type) he F H D Z W hb (hx.resolve_left fun e=>by subst e;exact C) C p K a1 (dst:=o.dst) (rd:=rd);exact⟨⟨a2,w',m,WM ho hc (by rw[J,G];simp[builtin,L]),S'⟩,fun _ id B e=>by cases e;exact K.imp_right fun h=>by simp[Ci,h.1]⟩
 have M:∀{id v:Nat} {t:T} {l:List (el t)},AN s.bk id=some (.arr v t l)->id<s.bk.length:=fun hb=>Nat.lt_of_not_le fun h=>by rw[KA _ _ h] at hb;cases hb
 split at h <;> try exact h.elim
 ·obtain _ |⟨j,_ | _⟩:=d
  obtain⟨base,cap,hv,h2,h3,h4⟩:=j.resolve_left nofun;cases hv;exact⟨val (h.2 _ ⟨rfl,h3⟩) (by simp[builtin,Builtin.len_,run_underlying ((F _).sl h.1).1,goInt]),nofun⟩
 iterate 2
  obtain _ |⟨j,_ | _⟩:=d
  obtain⟨D,h⟩:=h
  split at h
  ·rename_i hv
   obtain⟨base,cap,hs,_⟩:=(j.resolve_left nofun).2 hv.symm;subst hs;exact⟨val (h _ ⟨rfl⟩) (by simp[builtin,Builtin.len_,run_underlying ((F _).sl D).1,goInt]),nofun⟩
  exact h.elim
 ·obtain _ |⟨j,_ | _⟩:=d
  cases j.resolve_left nofun;exact⟨val h.2 (by simp[builtin,Builtin.len_,run_underlying ((F _).sl h.1).1,goInt]),nofun⟩
 ·obtain _ |⟨j,_ | _⟩:=d
  obtain⟨_,_,_,_,rfl,_⟩:=j.resolve_left nofun;exact⟨val (h.2 _ ⟨rfl⟩) (by simp[builtin,Builtin.len_,run_underlying ((F _).pt h.1).1,goInt]),nofun⟩
 ·obtain _ |⟨j,_ | _⟩:=d
  cases j.resolve_left nofun;exact⟨val (h.2 _ ⟨rfl⟩) (by simp[builtin,Builtin.len_,run_underlying ((F _).PC h.1),goInt]),nofun⟩
 ·obtain _ |⟨j,_ | _⟩:=d
  cases j.resolve_left nofun;exact⟨val h.2 (by simp[builtin,Builtin.cap_,run_underlying ((F _).sl h.1).1,goInt]),nofun⟩
 iterate 2
  obtain _ |⟨j,_ |⟨r,_ | _⟩⟩:=d
  cases j.resolve_left nofun;cases r.resolve_left nofun;exact⟨val (h _ rfl) (by simp[builtin,Builtin.min_,Builtin.min2,Builtin.max_,Builtin.max2]),nofun⟩
 ·obtain _ |⟨j,_ |⟨r,_ | _⟩⟩:=d
  obtain⟨⟨H,D⟩,l2,z,h⟩:=h;cases j.resolve_left nofun;obtain⟨q,hq⟩:=Option.isSome_iff_exists.1 hd;have Y:Ci o=q:=by simp[Ci,hq]
  exact app rfl rfl rfl H D (l:=[]) rfl (Nat.le_refl _) (Nat.zero_le _) (.inl rfl) r (z ()).1 (by rw[List.length_nil,Nat.zero_add];exact (z ()).2) (.inr ⟨Y ▸ hq,rfl,rfl⟩) rfl rfl (h _ rfl)
 all_goals
  rename_i t0 t1 t id v off len x
  obtain _ |⟨j,_ |⟨r,_ | _⟩⟩:=d
  obtain⟨⟨H,D⟩,h⟩:=h
  split at h
  ·rename_i v' t' l hb
   split at h
   ·rename_i V
    obtain⟨rfl,Q,R⟩:=V;obtain rfl:=T.beq_eq Q;obtain⟨l2,z,h⟩:=h;obtain⟨rfl,hlen,C,p⟩:=z ();obtain⟨base,cap,rfl,k1,k2,_,k3⟩:=(j.resolve_left nofun).2 (EL hb).symm;have hl:(l.take len).length=len:=by rw[List.length_take];omega
    refine app rfl rfl (T.beq_eq R) H D (l:=l.take len) (by rw[hl]) (by omega) k2 (k3.imp (fun q=>q) fun⟨b,arr,e,q1,q2,q3,q4⟩=>?_) r C (by rw[hl];first | exact p | exact hlen ▸ p) (.inl (M hb)) (congrArg (· +1) (EL hb).symm) rfl (h _ _ ⟨?_,rfl⟩)
    ·obtain⟨_,_,_,p3⟩:=(S.blocks _ _ hb).1.arr q1;exact⟨b,arr,e,q1,⟨_,hb,rfl⟩,by simpa using q2,q3,by simpa using q4,fun i y O=>p3 i y (by rw[List.getElem?_take] at O;split at O;exact O;cases O)⟩
    first | rfl | rw[hlen,List.take_length]
   exact h.elim
  exact h.elim
theorem oq (p:∀t,G9 P t (TI t)) {o:Oper} {c:Call} {b:Builtin} (z:o.op= .call c) (r:c.callee= .builtin b) (j:o.dst.isSome=true) (S:Bl w0 X β s a w) {f:DD} (h:OB TI b c.argTypes.toList (c.args.toList.map (ev s.sl)) (Ci o) (AN s.bk) (fun g=>g=f)):
  ∃u w' i,(execOp a.eval o).run P w= .ok (.value u) w'/\Bl w0 X i (s.app o.dst f) (a.put o.dst u) w':=by
 rcases Qs.1 h with h |⟨rfl,h⟩
 ·exact (aj p z r j S h).1
 obtain⟨g,D,C⟩:=Vi (fun t l F=>absurd (gK h) (by rw[F];exact (by decide:¬(1=2)))) h;obtain⟨t,id,v,l,y,B,rfl,_⟩:=Z5 D;obtain⟨⟨u,w',i,G,n⟩,d⟩:=aj p z r j S (C _ (fun A=>A=g) (fun _ _=>rfl) rfl);obtain⟨q,k⟩:=Option.isSome_iff_exists.1 j;have d:=d rfl id _ (congrArg DD.ws y);rw[k,y] at n;obtain⟨m,S2⟩:=n.Z4 (by simpa [Ci,k] using d) B;rw[if_pos rfl] at S2;exact⟨u,w',m,G,k ▸ S2⟩
end
theorem Sy:∀(pre b post vs:List Value),vs.length=b.length->DA (pre++(b++post)) pre.length vs=pre++(vs++post)
 | [],[],post,[],_=>by cases post <;> rfl
 | [],m::b,post,v::vs,h=>by simpa [DA] using Sy [] b post vs (by simpa using h)
 | p::pre,b,post,vs,h=>by simp[DA,Sy pre b post vs h]
 | [],[],_,_::_,h | [],_::_,_,[],h=>by simp at h
theorem XP {n:Nat}:∀(vs:List Value) (k:Nat) (c:Array Value),(∀v∈vs,v.cells.size=n)->c.size=(k+vs.length)*n->
  ∃d,Instr.fill (fun i=>some (i*n,n)) c (vs.zipIdx k |>.map fun x=>(x.2,x.1))=some d/\d.toList=c.toList.take (k*n)++vs.flatMap (·.cells.toList)
 | [],k,c,_,f=>⟨c,rfl,by simp at f;rw[<-f,List.take_of_length_le (by simp)];simp⟩
 | v::vs,k,c,l,f=>by
  have g:=l v (by simp);rw[List.length_cons,<-Nat.add_assoc,Nat.add_right_comm,Nat.add_mul,Nat.add_mul,Nat.one_mul] at f;obtain⟨d,m,y⟩:=XQ (place:=fun i=>some (i*n,n)) (c:=c) (i:=k) (v:=v) (r:=(vs.zipIdx (k+1)).map fun x=>(x.2,x.1)) (off:=k*n) (n:=n) rfl g (by omega);have z:c.toList.length=c.size:=rfl
  have e1:c.toList=c.toList.take (k*n)++((c.toList.drop (k*n)).take n++c.toList.drop (k*n+n)):=by
   rw[<-List.drop_drop,List.take_append_drop,List.take_append_drop]
  have b:(c.toList.take (k*n)).length=k*n:=by rw[List.length_take];omega
  have o:d.toList=c.toList.take (k*n)++(v.cells.toList++c.toList.drop (k*n+n)):=by
   have:=Sy (c.toList.take (k*n)) ((c.toList.drop (k*n)).take n) (c.toList.drop (k*n+n)) v.cells.toList (by rw[List.length_take,List.length_drop,Array.length_toList];omega);rw[<-e1,b] at this;exact m.trans this
  have j:d.size=c.size:=by have:=SK c.toList (k*n) v.cells.toList;rwa [<-m] at this
  obtain⟨h,p,q⟩:=XP vs (k+1) d (fun u hu=>l u (by simp[hu])) (by rw[j,f,Nat.add_mul,Nat.add_mul];omega);refine⟨h,by rw[List.zipIdx_cons,List.map_cons,y];exact p,?_⟩;rw[q,o,List.flatMap_cons,<-List.append_assoc,List.take_left' (by simp[b,g,Nat.add_mul]),List.append_assoc]
theorem WY:∀(vs:List Value),(∀v∈vs,v.oneCell'=true)->vs.flatMap (·.cells.toList)=vs
 | [],_=>rfl
 | v::vs,h=>by rw[List.flatMap_cons,WY vs (fun u hu=>h u (List.mem_cons_of_mem _ hu)),Pf (h v (List.mem_cons_self ..))];rfl
theorem cX {α:Type}:∀(b:List (Nat×α)) (k:Nat),b.map (·.1)=List.range' k b.length->b=((b.map (·.2)).zipIdx k).map fun x=>(x.2,x.1)
 | [],_,_=>rfl
 | p::b,k,h=>by
  rw[List.map_cons,List.length_cons,List.range'_succ,List.cons.injEq] at h;rw[List.map_cons,List.zipIdx_cons,List.map_cons,<-cX b (k+1) h.2,<-h.1]
theorem D3.mH {x:Cx} {d:List (Nat×Nat×Nat)} {vs:List Value} (h:BM (fun p=>D3 x p.1 p.2.1 p.2.2) d vs):∀v∈vs,v.oneCell'=true:=by
 induction h with
 | nil=>simp
 | cons q _ c=>exact fun v b=>(List.mem_cons.1 b).elim (fun e=>e ▸ q.1.1) (c v)
section
variable {P:Program} {E:Env} {TI:TypeId->Info} {w0 w:World} {X:WX} {β:Nat->Option Nat} {s:St} {a:Act}
theorem nT {x:Cx} {a:AV} {v:Value} (h:dg x a v):CX x a v:=by cases a <;> first | exact h | exact h.elim
theorem WL {o:Oper} {t:TypeId} {len n:Nat} {parts:Array (Nat×Operand)} {C1:TypeId} {b:TypeInfo} {z:Value} (g:o.op= .buildSlice t len parts) (hu:P.underlying t=some (.slice C1)) (g1:P.info? C1=some b) (g2:b.size=n) (h:b.zero=some z) (q:0<n)
  (hb:len*n<=16777216) (f:parts.toList.length=len) (k:(parts.toList.map fun p=>(p.1,a.eval p.2))=((parts.toList.map fun p=>a.eval p.2).zipIdx 0).map fun x=>(x.2,x.1)) (j:∀v∈parts.toList.map fun p=>a.eval p.2,v.cells.size=n):
  ∃arr,(execOp a.eval o).run P w= .ok (.value (.slice (some ⟨w.heap.size,0,none⟩) len len)) (w.alloc (.cells arr C1))/\arr.toList=(parts.toList.map fun p=>a.eval p.2).flatMap (·.cells.toList):=by
 by_cases d:len=0
 ·subst d;obtain rfl:parts= #[]:=by apply Array.ext';exact List.eq_nil_of_length_eq_zero f
  refine⟨#[],?_,rfl⟩;simp[execOp,g,Instr.buildSlice,run_underlying hu,sizeOf,typeInfo,g1,Instr.fill,newRow,Array.range_zero']
 obtain⟨c,l,m⟩:=XP (n:=n) (parts.toList.map fun p=>a.eval p.2) 0 ((Array.range (len*b.size)).map (z.cells[· % z.cells.size]!)) j (by simp[f,g2]);refine⟨c,?_,by simpa using m⟩;have:=run_buildSlice (P:=P) w t C1 len (parts.map fun (i,x)=>(i,a.eval x)) c b z hu g1 h (by rw[g2];omega) (by rw[g2];exact Nat.mul_ne_zero d (by omega)) (by rw[<-l,<-k,g2];simp);simp[execOp,g,this]
theorem ou (hT:∀t,G9 P t (TI t)) {o:Oper} (hd:Mj o=true) (hc:∀c x,o.op= .call c->c.callee≠ .value x):Sound P E TI o:=by
 intro w0 X β s a w S f h N Q hN;have R:=K4 S
 have I:∀{x:Operand} {c:AC},ev s.sl x= .one c->c≠ .B7->Bg (cx X w β (AN s.bk)) c (a.eval x):=fun {x c} e hc=>by
  have:=R x;rw[e] at this;exact this.resolve_left hc
 have V:∀{u:Value} {v:AV} {rd:List Nat},⟨v,[],rd⟩=f->(execOp a.eval o).run P w= .ok (.value u) w->CX (cx X w β (AN s.bk)) v u->o.wp P a w N Q:=fun e hr hv=>by subst e;exact Ng hr (hN _ _ _ (S.val hv))
 have D:∀{u:Value} {v:AV} {By:Af} {w':World} {arr:Array Value} {e:TypeId} {rd:List Nat},o.dst.isSome=true->⟨v,[(Ci o,By)],rd⟩=f->(execOp a.eval o).run P w= .ok (.value u) w'->w'.heap=w.heap.push (.cells arr e (0,0))/\w'.os=w.os/\w'.tape=w.tape/\w'.output=w.output->
   By.BE=BE (AN s.bk) (Ci o)+1/\By.short->(∀y:Cx,(cx X w β (AN s.bk)).le y->y.w=w'->y.w.heap[w.heap.size]? =some (.cells arr e (0,0))->y.β (Ci o)=some w.heap.size->y.cv (Ci o)=BE (AN s.bk) (Ci o)+1->C4 y (Ci o) By/\CX y v u)->o.wp P a w N Q:=by
  rintro u v By w' arr e rd hds rfl hr ⟨h1,h2,h3,h4⟩ ⟨h5,h6⟩ h7;obtain⟨q,hq⟩:=Option.isSome_iff_exists.1 hds;obtain⟨β',S'⟩:=S.write (dst:=o.dst) (v:=v) (u:=u) (rd:=rd) (o':=some w.heap.size) (.inr ⟨by simp[Ci,hq],rfl⟩) h6 (Dq.push h1 h2 h3 h4) (.inl rfl) (.inl (by omega)) (fun _ b hb=> .inr (by cases hb;exact Nat.le_refl _)) fun y hle hw hy hv _=>h7 y hle hw (by rw[hw,h1];simp) hy (hv.trans h5)
  exact Ng hr (hN _ _ _ S')
 unfold E2 at h;unfold Mj at hd;cases ho:o.op <;> simp only[ho] at h hd <;> try exact h.elim
 case move x | assign x=>exact V h (by simp[execOp,ho]) (R x)
 case nilCheck x=>
  split at h <;> rename_i he
  ·split at h
   ·rename_i hv;obtain⟨b,_,hb⟩:=(I he nofun).2 hv.symm;exact V h (by simp[execOp,ho,hb]) (R x)
   exact h.elim
  ·exact V h (by simp[execOp,ho,show a.eval x= .func (.func _) #[] #[] from I he nofun]) (R x)
  ·obtain⟨us,hb,_⟩:=I he nofun;exact V h (by simp[execOp,ho,hb]) (R x)
  ·obtain⟨_,_,_,hb,_⟩:=I he nofun;exact V h (by simp[execOp,ho,hb]) (R x)
  exact h.elim
 case pick c x y=>
  split at h <;> rename_i he
  ·exact V h (by simp[execOp,ho,show a.eval c= .bool true from I he nofun,asBool]) (R x)
  ·exact V h (by simp[execOp,ho,show a.eval c= .bool false from I he nofun,asBool]) (R y)
  exact h.elim
 case alloc t=>
  obtain⟨ti,z,d,h1,h2,h3,h4,h5,h6,h7⟩:=(hT t).info h.1;exact D (u:= .pointer (some ⟨w.heap.size,0,none⟩)) (w':=w.alloc (.cells z.cells t)) hd h.2 (by simp[execOp,ho,Instr.alloc,zeroValue,typeInfo,h1,h3,Z2]) ⟨rfl,rfl,rfl,rfl⟩ ⟨rfl,trivial⟩ fun y _ _ hw hb hc=>⟨⟨_,_,t,hb,hw,h4 y⟩,.inr ⟨⟨rfl,by omega⟩,fun _=>⟨_,hb,rfl⟩⟩⟩
 case box t x=>
  split at h <;> try exact h.elim
  have hc:=KM (R x) (Rv (by assumption) (by assumption));exact D (u:= .pointer (some ⟨w.heap.size,0,none⟩)) (w':=w.alloc (.cells (a.eval x).cells t)) hd h (by simp[execOp,ho,Instr.box,Z2]) ⟨rfl,rfl,rfl,rfl⟩ ⟨rfl,trivial⟩ fun y hle _ hw hb hc'=>⟨⟨_,_,t,hb,hw,hc.mono fun _ _=>Bg.mono hle⟩,.inr ⟨⟨rfl,by omega⟩,fun _=>⟨_,hb,rfl⟩⟩⟩
 case extract x i=>
  have hx:=R x
  split at h
  ·rename_i he
   rw[he] at hx;obtain⟨arr,hv,hall⟩:=hx
   split at h
   ·rename_i y hy
    obtain⟨u,hu,hr⟩:=hall.get i y hy;exact V (u:=u) h (by simp[execOp,ho,hv,Instr.extract,show arr[i]? =some u by simpa using hu]) (nT hr)
   exact h.elim
  exact h.elim
 case load t x=>
  simp only[OZ] at h;obtain⟨hk,h⟩:=h;have hsz:(TI t).agg=false->(TI t).size=1:=let ⟨_,_,_,_,_,_,_,_,_,h7⟩:=(hT t).info hk;h7
  have go:∀{b q:Nat} {cs:List AC} {us:List Value} {rd:List Nat},⟨FR ((TI t).agg,cs),[],rd⟩=f->cs.length=(TI t).size->a.eval x= .pointer (some ⟨b,q,none⟩)->w.rangeAt b q us->BM (Bg (cx X w β (AN s.bk))) cs us->o.wp P a w N Q:=fun hf hl hp hr hall=>
   V hf (by simp[execOp,ho,hp,run_load (hT t) hk hr (hall.length ▸ hl)]) (Pr hall fun e=>hl.trans (hsz e))
  split at h <;> rename_i he
  ·split at h
   ·rename_i hb
    split at h
    ·rename_i hc
     obtain⟨b',hb',hp⟩:=(I he nofun).2 (hc.1.symm.trans (EL hb).symm);obtain⟨arr,e,h2,h3⟩:=(S.blocks _ _ hb).1.var hb';exact go h hc.2 hp (ZZ h2) (by rw[KS];exact (h3.drop _).take _)
    exact h.elim
   exact h.elim
  ·obtain⟨b,q,us,hp,h1,h2,h3⟩:=I he nofun
   split at h
   ·rename_i hl;exact go h hl hp (Za h3) (by rw[KS];exact (((Gg _ _ _ us).1 h2).drop _).take _)
   exact h.elim
  ·obtain⟨b,q,u,hp,hI,hat,hr⟩:=I he nofun;exact go (cs:=[.AR _ _ _]) (by rw[h.1];exact h.2) (hsz h.1).symm hp hr (.cons hat .nil)
  ·split at h
   ·rename_i hb
    split at h
    ·rename_i hc
     obtain rfl:=T.beq_eq hc.2;obtain⟨y,hy,h⟩:=h;obtain⟨b',hb',hp⟩:=(I he nofun).2 (hc.1.symm.trans (EL hb).symm);obtain⟨arr,e,h2,h3⟩:=(S.blocks _ _ hb).1.arr hb';obtain⟨us,hu,ha⟩:=h3 _ y (hy ())
     split at h
     ·rename_i hl;exact go h hl hp (Za ha) (by rw[KS];exact (((Gg _ _ y us).1 hu).drop _).take _)
     exact h.elim
    exact h.elim
   exact h.elim
  exact h.elim
 case store t p x=>
  obtain⟨hk,h⟩:=h;obtain⟨ti,z,d,h1,h2,_⟩:=(hT t).info hk
  have go:∀{id b q:Nat} {arr:Array Value} {e:TypeId} {By:Af} {rd:List Nat},⟨.one .B7,[(id,By)],rd⟩=f->(ev s.sl x).full=true->a.eval p= .pointer (some ⟨b,q,none⟩)->(∃b,AN s.bk id=some b/\b.BE=By.BE)/\live (AN s.bk) id->β id=some b->w.heap[b]? =some (.cells arr e (0,0))->
    (ev s.sl x).cs.length=(TI t).size->q+(TI t).size<=arr.size->By.short->(∀y:Cx,(cx X w β (AN s.bk)).le y->y.w=w.setCells b q (a.eval x).cells.toList->y.β id=some b->C4 y id By)->o.wp P a w N Q:=by
   rintro id b q arr e By rd rfl hfu hpp ⟨⟨b',hn,hver⟩,hl⟩ hb hh hlen hq hsh hB;have hys:=KM (R x) hfu;have hsz:(a.eval x).cells.size=ti.size:=by have:=hys.length;simp only[Array.length_toList] at this;omega
   have hrun:=n3 (P:=P) (t:=t) (b:=b) (o:=q) (v:=a.eval x) h1 hsz (UG hh (by omega)) hys.one
   obtain⟨β',S'⟩:=S.write (dst:=o.dst) (v:= .one .B7) (u:=undef) (rd:=rd) (o':=some b) (.inl (Nat.lt_of_not_le fun h=>by rw[KA _ _ h] at hn;cases hn)) hsh (Dq.set (a.eval x).cells.toList q w) (.inr ⟨hb.symm,hl⟩) (.inr ⟨hver.symm.trans (EL hn).symm,hb.symm,fun _=>hl⟩) (fun _ k hk=> .inl ⟨hb.trans hk,hl⟩)
    fun y hle hw hy _ _=>⟨hB y hle hw hy,.inl rfl⟩
   unfold Oper.wp;rw[show (execOp a.eval o).run P w= .ok .skip (w.setCells b q (a.eval x).cells.toList) by simp[execOp,ho,hpp,hrun]];exact hN _ _ _ S'
  split at h <;> try exact h.elim
  ·rename_i he
   generalize hB:AN s.bk _=B at h
   split at h <;> try exact h.elim
   rename_i n1 n2
   split at h
   ·rename_i hc
    obtain⟨rfl,hlen,hoff⟩:=hc;obtain⟨b,hb,hpp⟩:=(I he nofun).2 (EL hB).symm;obtain⟨arr,e,g2,g3⟩:=(S.blocks _ _ hB).1.var hb;have hal:_=arr.size:=g3.length;have hfu:=Rv n1 n2;obtain⟨arr',q1,q2,q3⟩:=NV b (a.eval x).cells.toList _ w arr e g2;exact go h hfu hpp ⟨⟨_,hB,rfl⟩,⟨_,hB,rfl⟩⟩ hb g2 hlen (by omega) trivial fun y hle hw hy=>⟨b,arr',e,hy,by rw[hw];exact q1,by rw[q2];exact ((g3.mono fun _ _=>Bg.mono hle).DA _ ((KM (R x) hfu).mono fun _ _=>Bg.mono hle))⟩
   exact h.elim
  rename_i u id v i k he
  generalize hB:AN s.bk _=B at h
  split at h <;> try exact h.elim
  rename_i v' u' l n1 n2
  have hfu:=Rv n1 n2;have hys:=KM (R x) hfu
  obtain⟨rfl,hu,hks,z',x0,hi0,hyl,hcell,h⟩:v'=v/\u=u'/\k+(TI t).size<=u'.size/\∃(z' x0:el u'),l[i]? =some x0/\(ev s.sl x).cs.length=(TI t).size/\(∀(y:Cx) us0,(cx X w β (AN s.bk)).le y->BM (Bg y) (cells u' x0) us0->BM (Bg y) (cells u' z') (DA us0 k (a.eval x).cells.toList))/\
    ⟨.one .B7,[(id,.arr v' u' (l.set i z'))],[id]⟩=f:=by
   split at h
   ·rename_i hc
    obtain⟨rfl,rfl,hsz,hu'⟩:=hc;obtain⟨z',hz,h⟩:=h;obtain⟨hi,hall⟩:=hz ();have hys:=Qx hall hys;have hcl:=hys.length;rw[Jo] at hcl;refine⟨rfl,T.beq_eq hu',by omega,z',l[i],by simp[hi],?_,fun y us0 hle h0=>?_,h _ rfl⟩
    ·rw[(KM (R x) hfu).length,<-hcl,hsz]
    rw[ZS _ _ (by rw[<-h0.length,Jo,hcl])];exact hys.mono fun _ _=>Bg.mono hle
   split at h
   ·rename_i hc
    obtain⟨rfl,hks,hu'⟩:=hc;obtain⟨x0,z',hz,h⟩:=h;obtain⟨hi0,hyl,hall⟩:=hz ();exact⟨rfl,T.beq_eq hu',hks,z',x0,hi0,hyl,fun y us0 hle h0=>Qx hall (h0.DA k (hys.mono fun _ _=>Bg.mono hle)),h _ rfl⟩
   exact h.elim
  subst hu;have hcl:(a.eval x).cells.toList.length=(TI t).size:=by rw[<-hys.length,hyl]
  obtain⟨b,hb,hpp⟩:=(I he nofun).2 (EL hB).symm;obtain⟨arr,e,g2,g3⟩:=(S.blocks _ _ hB).1.arr hb
  have hlast:i*u.size+u.size<=arr.size:=by
   obtain⟨us0,hu1,hu2⟩:=g3 i x0 hi0;have hn:=T.size_pos u;have hlt:u.size-1<us0.length:=by rw[Lg _ _ _ hu1];omega
   have h9:w.cell? ⟨b,i*u.size+(u.size-1),none⟩=_:=hu2 (u.size-1) us0[u.size-1] (by simp[hlt]);have:=GA (show arr[_]? =_ by simpa [World.cell?,show w.heap[b]? =_ from g2] using h9);omega
  obtain⟨arr',q1,q2,q3⟩:=NV b (a.eval x).cells.toList (i*u.size+k) w arr e g2;refine go h hfu hpp ⟨⟨_,hB,rfl⟩,⟨_,hB,rfl⟩⟩ hb g2 hyl (by omega) (by have:=(S.blocks _ _ hB).2;simpa [Af.short] using this) fun y hle hw hy=> .inr ⟨b,arr',e,hy,by rw[hw];exact q1,fun j y' hj=>?_⟩
  by_cases hji:j=i
  ·subst hji;obtain rfl:y'=z':=by simp[List.getElem?_set,Hn hi0] at hj;exact hj.symm
   obtain⟨us0,hu1,hu2⟩:=g3 j x0 hi0;have hul:=Lg _ _ _ hu1;refine⟨_,(Gg _ u y' _).2 (hcell y us0 hle ((Gg _ u x0 us0).1 (Ev hle.I _ _ _ hu1))),fun m v hm=>?_⟩;rw[hw];rw[Rx _ _ _ _ (by omega)] at hm
   split at hm
   ·have:=aA g2 (o:=j*u.size+k) (by omega) _ _ hm;rwa [show j*u.size+k+(m-k)=j*u.size+m by omega] at this
   rw[World.cell?_setCells_out b _ (j*u.size+k) w ⟨b,j*u.size+m,none⟩ (fun _ _=>by show j*u.size+m<j*u.size+k\/j*u.size+k+_<=j*u.size+m;omega)];exact hu2 m v hm
  obtain⟨us,hu1,hu2⟩:=g3 j y' (by simpa [List.getElem?_set,Ne.symm hji] using hj);refine⟨us,Ev hle.I u y' us hu1,hw ▸ aB (fun m hm=>?_) hu2⟩;rw[Lg _ _ _ hu1] at hm;rcases Nat.lt_or_gt_of_ne hji with h9 | h9
  ·have:=Nat.mul_le_mul_right u.size (show j+1<=i from h9);rw[Nat.add_mul] at this;omega
  have:=Nat.mul_le_mul_right u.size (show i+1<=j from h9);rw[Nat.add_mul] at this;omega
 case fieldAddr t x i=>
  obtain⟨hk,h⟩:=h
  have go:∀{fo n b off:Nat} {g:Bool},(TI t).fields[i]? =some (fo,n,g)->a.eval x= .pointer (some ⟨b,off,none⟩)->(execOp a.eval o).run P w= .ok (.value (.pointer (some ⟨b,off+fo,none⟩))) w:=by
   intro fo n b off g hf hv;obtain⟨fs,hu,hlen,hfs⟩:=(hT t).fields hk (by intro e;simp[e] at hf);obtain⟨fl,d,h1,rfl,h3,h4,_⟩:=hfs i fo n g hf;simp[execOp,ho,hv,Instr.fieldAt,run_underlying hu,h1,Instr.sureAddr,jK h3 h4]
  split at h
  ·rename_i hf he
   split at h
   ·rename_i hv
    obtain⟨hr,hr2⟩:=I he nofun;obtain⟨b,hb,hp⟩:=hr2 hv.symm;exact V h (go hf hp) (Or.inr ⟨⟨rfl,hr.2⟩,fun _=>⟨b,hb,rfl⟩⟩)
   exact h.elim
  ·rename_i hf he
   obtain⟨b,q,us,hp,h1⟩:=I he nofun;exact V h (go hf hp) (Or.inr ⟨b,q,us,by rw[Nat.add_assoc],h1⟩)
  ·rename_i hf he
   split at h
   ·rename_i hv
    obtain⟨hr,hr2⟩:=I he nofun;obtain⟨b,hb,hp⟩:=hr2 hv.symm;exact V h (go hf hp) (Or.inr ⟨⟨rfl,hr.2⟩,fun _=>⟨b,hb,by rw[Nat.add_assoc]⟩⟩)
   exact h.elim
  exact h.elim
 case field t x i=>
  obtain⟨hk,h⟩:=h;have hx:=R x
  split at h
  ·rename_i fo n g cs hf he
   rw[he] at hx;obtain⟨arr,hv,hall⟩:=hx
   split at h
   ·rename_i hl
    obtain⟨fs,hu,hlen,hfs⟩:=(hT t).fields hk (by intro e;simp[e] at hf);obtain⟨fl,d,h1,h2,h3,h4,h5,h6,h7⟩:=hfs i fo n g hf;obtain⟨ti,e1,e2⟩:=Option.map_eq_some_iff.1 h3;have hsub:BM (Bg (cx X w β (AN s.bk))) (Eh cs fo n) ((arr.toList.drop fo).take n):=by rw[KS];exact (hall.drop fo).take n
    exact V h (by simp[execOp,ho,hv,Instr.field,run_underlying hu,h1,asAgg,h2,ZC e1 e2 h5 h6 h7 (by rw[<-hsub.length,hl])]) (Pr hsub fun e=>hl.trans (h7 e))
   exact h.elim
  exact h.elim
 case build t parts=>
  cases hq:(TI t).arr with
  | some q=>
   simp only[hq] at h;obtain⟨ti,z,d,h1,h2,h3,h4,_⟩:=(hT t).info h.1;obtain⟨e,ei,d',hu,g1,g2,_⟩:=(hT t).arr q hq;have h:=h.2
   split at h
   ·rename_i cs hf
    obtain⟨c',q1,q2⟩:=Rq R (pl:=fun i=>some (i*q.2.1,q.2.1)) (fun i o n g hi=>by
     rw[V4,List.getElem?_map] at hi;obtain⟨j,hr,hj⟩:=Option.map_eq_some_iff.1 hi;obtain⟨_,hr⟩:=List.getElem?_eq_some_iff.1 hr;rw[List.getElem_range] at hr;cases hr;cases hj;rfl) parts.toList _ _ z.cells hf (h4 _)
    exact V (u:= .agg c') h (by simp[execOp,ho,Instr.build,zeroValue,typeInfo,h1,h3,run_underlying hu,sizeOf,g1,g2,q1]) ⟨c',rfl,q2⟩
   exact h.elim
  | none=>
   simp only[hq] at h;obtain⟨⟨hk,hke⟩,h⟩:=h;obtain⟨ti,z,d,h1,h2,h3,h4,_⟩:=(hT t).info hk
   split at h
   ·rename_i cs hf
    obtain⟨fs,hu,hlen,hfs⟩:=(hT t).fields hk fun e=>by simp[e] at hke
    have hp1:fs.toList.mapM (fun f=>(P.info? f.type).map fun i=>(f.offset,i.size))=some ((TI t).fields.map fun x=>(x.1,x.2.1)):=mapM_some_of_get _ _ (by simpa using hlen) fun i x hx=>by
     have hi:i<(TI t).fields.length:=hlen ▸ GA (by simpa using hx);obtain⟨fl,d',e1,e2,e3,_⟩:=hfs i (TI t).fields[i].1 (TI t).fields[i].2.1 (TI t).fields[i].2.2 (by simp[hi]);obtain rfl:x=fl:=Option.some.inj ((show fs[i]? =some x by simpa using hx).symm.trans e1);obtain⟨ti',e4,e5⟩:=Option.map_eq_some_iff.1 e3;simp[hi,e2,e4,e5]
    obtain⟨c',q1,q2⟩:=Rq R (pl:=fun i=>((TI t).fields.map fun x=>(x.1,x.2.1)).toArray[i]?) (fun i o n g hi=>by simp[hi]) parts.toList _ _ z.cells hf (h4 _)
    have hb:P.built t (parts.map fun (i,x)=>(i,a.eval x)).toList=some c':=by
     unfold Program.built;simp only[h1,hu,h3,hp1];simpa using q1
    exact V (u:= .agg c') h (by simp[execOp,ho,run_build w t _ c' hb]) ⟨c',rfl,q2⟩
   exact h.elim
 case buildSlice t len parts=>
  cases hpt:(TI t).pt <;> simp only[hpt] at h
  case true=>
   split at h
   ·rename_i ps hps
    obtain⟨hpl,hlen,hix⟩:=h.1 ();obtain⟨hu,ei,z,g2,g3,g5,g6⟩:=(hT t).pt hpt;have hat:=mg (vs:=parts.toList.map fun p=>a.eval p.2) (by simpa [Function.comp_def] using Mo R (parts.toList.map (·.2))) hps;have hone:=D3.mH hat;have hl:parts.toList.length=len:=by rw[<-hpl,hat.length,List.length_map]
    obtain⟨arr,hrun,harr⟩:=WL (w:=w) ho hu g2 g3 g5 Nat.one_pos (by omega) hl (by
     have h1:=cX (parts.toList.map fun p=>(p.1,a.eval p.2)) 0 (by rw[List.map_map,List.length_map,hl,<-List.range_eq_range'];exact hix);rw[List.map_map] at h1;exact h1) fun v hv=>by rw[Pf (hone v hv)];rfl
    rw[WY _ hone] at harr;have hf:=h.2;subst hf;exact Ng hrun (hN _ _ _ (S.ext (Dq.push rfl rfl rfl rfl) fun hle=>Or.inr ⟨w.heap.size,0,len,_,by rw[hpl],by omega,⟨by simp,fun id hl hb=>absurd (S.lt hl hb) (by omega)⟩,hat.mono fun _ _=>D3.mono hle,harr ▸ NL (heap_alloc_new w _)⟩))
   exact h.elim
  obtain⟨hk,h16,xs,hxs,h⟩:=h;obtain⟨hxl,hlen,hfull,hall⟩:=hxs ();obtain⟨hu,ei,z,g1,g2,g3,g4,g5,g6⟩:=(hT t).sl hk
  have hvals:∀(ps:List (Nat×Operand)) (k:Nat) (ys:List (el (TI t).elem)),(ps.all fun p=>(ev s.sl p.2).full)=true->Qw (ps.map fun p=>(p.1,(ev s.sl p.2).cs)) k (ys.map (cells _))->
    (ps.map fun p=>(p.1,a.eval p.2))=((ps.map fun p=>a.eval p.2).zipIdx k).map (fun x=>(x.2,x.1))/\(∀v∈ps.map fun p=>a.eval p.2,v.cells.size=(TI t).elem.size)/\
    DT w (cx X w β (AN s.bk)).I (TI t).elem ys ((ps.map fun p=>a.eval p.2).flatMap (·.cells.toList))/\ys.length=ps.length:=by
   intro ps
   induction ps with
   | nil=>intro k ys _ h2;cases ys with
    | nil=>exact⟨rfl,by simp,rfl,rfl⟩
    | cons y ys=>exact h2.elim
   | cons p ps ih=>
    intro k ys h1 h2;cases ys with
    | nil=>exact h2.elim
    | cons y ys=>
     obtain⟨e1,e2,e3⟩:=h2;simp only[List.all_cons,Bool.and_eq_true] at h1;have hcs:=Qx e2 (KM (R p.2) h1.1);obtain⟨q1,q2,q3,q4⟩:=ih (k+1) ys h1.2 e3;refine⟨by rw[List.map_cons,List.map_cons,List.zipIdx_cons,List.map_cons,q1,(e1:p.1=k)],fun v hv=>?_,⟨_,_,by rw[List.map_cons,List.flatMap_cons],(Gg _ _ _ _).2 hcs,q3⟩,by simp[q4]⟩;rcases List.mem_cons.1 hv with rfl | hv
     ·have:=hcs.length;rw[Jo] at this;simpa using this.symm
     exact q2 v hv
  obtain⟨q1,q2,q3,q4⟩:=hvals parts.toList 0 xs hfull hall;obtain⟨arr,hrun,harr⟩:=WL (w:=w) ho hu g1 g2 g5 (T.size_pos _) (by have:=Nat.mul_le_mul hlen h16;omega) (by omega) q1 q2;rw[<-harr] at q3;have hsz:arr.size=len*(TI t).elem.size:=by have:=q3.length;rwa [hxl] at this
  have hmax:len<=maxLen:=by unfold maxLen;omega
  have hB:∀y:Cx,(cx X w β (AN s.bk)).le y->y.w.heap[w.heap.size]? =some (.cells arr (TI t).C1 (0,0))->∀(i:Nat) (u:el (TI t).elem),xs[i]? =some u->∃us,rep y.w y.I (TI t).elem u us/\y.w.rangeAt w.heap.size (0+i*(TI t).elem.size) us:=fun y hle hw=>TO (DT.mono hle.I q3) (NL hw)
  rcases h with h | h
  ·exact D hd h hrun ⟨rfl,rfl,rfl,rfl⟩ ⟨rfl,by show xs.length<=_;omega⟩ fun y hle _ hw hb hc=>⟨.inr ⟨_,arr,_,hb,hw,fun i u hi=>by simpa using hB y hle hw i u hi⟩,
    .inr ⟨⟨rfl,by omega⟩,fun _=>⟨_,_,rfl,Nat.le_refl _,hmax,nofun,.inr ⟨_,_,_,hb,by rw[Nat.zero_mul],hw,by rw[hsz,Nat.zero_add];exact Nat.le_refl _⟩⟩⟩⟩
  subst h;exact Ng hrun (hN _ _ _ (S.ext (Dq.push rfl rfl rfl rfl) fun hle=>Or.inr ⟨_,len,by rw[hxl],by omega,by omega,.inr ⟨w.heap.size,0,rfl,⟨⟨by simp,fun id hl hb=>absurd (S.lt hl hb) (by omega)⟩,S.fresh.1 _ S.Fo.size⟩,hB _ hle (heap_alloc_new w _)⟩⟩))
 case makeSlice t x y=>
  obtain⟨hk,h⟩:=h;obtain⟨hu,ei,z,g1,g2,g3,g4,g5,g6⟩:=(hT t).sl hk
  split at h
  ·rename_i k n k' m he he'
   have hx':a.eval x= .int k n:=I he nofun;have hy':a.eval y= .int k' m:=I he' nofun;obtain⟨h0,h1,h2⟩:=h.1 ();unfold fits at h2;have hmm:m.toNat<=140737488355328:=Nat.le_trans (Nat.le_mul_of_pos_right _ (by omega)) h2
   have hb:(ei.bytes:Int)*m<=281474976710656:=by
    have e1:((ei.bytes*m.toNat:Nat):Int)<=281474976710656:=by rw[Nat.mul_comm,g3];omega
    rw[Int.natCast_mul] at e1;rwa [Int.toNat_of_nonneg (by omega)] at e1
   have hrun:=run_make (P:=P) w t _ ei z hu g1 g5 k k' n m h0 h1 hb (by omega);have hzs:z.cells.size=(TI t).elem.size:=by have:=(g6 (cx X w β (AN s.bk))).length;rw[Jo] at this;exact this.symm
   refine D (u:= .slice (some ⟨w.heap.size,0,none⟩) n.toNat m.toNat) hd (h.2 _ _ ⟨rfl,rfl⟩) (w':=w.alloc (.cells (madeCells z.cells (m.toNat*ei.size)) (TI t).C1)) (by simp[execOp,ho,hx',hy',hrun]) ⟨rfl,rfl,rfl,rfl⟩ ⟨rfl,by simp[Af.short];omega⟩ fun y _ _ hw hb hc=>⟨.inr ⟨_,_,_,hb,hw,fun i u hi=>?_⟩,
    .inr ⟨⟨rfl,by omega⟩,fun _=>⟨_,_,rfl,by omega,by unfold maxLen;omega,nofun,.inr ⟨_,_,_,hb,by rw[Nat.zero_mul],hw,by rw[size_madeCells,g2,Nat.zero_add];exact Nat.le_refl _⟩⟩⟩⟩
   have hi':i<n.toNat:=by simpa using Hn hi
   obtain rfl:u=(TI t).CB:=by simpa [List.getElem?_replicate,hi',eq_comm] using hi
   refine⟨z.cells.toList,(Gg y _ _ _).2 (g6 y),fun j v hj=>?_⟩;have hj':j<(TI t).elem.size:=hzs ▸ Hn hj
   have h9:i*(TI t).elem.size+j<m.toNat*ei.size:=by
    have:(i+1)*(TI t).elem.size<=m.toNat*(TI t).elem.size:=Nat.mul_le_mul_right _ (by omega);rw[g2];rw[Nat.add_mul] at this;omega
   have h10:(i*(TI t).elem.size+j)%z.cells.size=j:=by rw[hzs,Nat.add_comm,Nat.add_mul_mod_self_right,Nat.mod_eq_of_lt hj']
   have h11:(madeCells z.cells (m.toNat*ei.size))[i*(TI t).elem.size+j]? =z.cells[j]? :=by
    simp only[madeCells,Array.getElem?_map];rw[Array.getElem?_range];simp[h9,h10,show j<z.cells.size by omega]
   simpa [World.cell?,hw,h11] using hj
  exact h.elim
 case indexAddr t x i=>
  cases hpt:(TI t).pt <;> simp only[hpt] at h
  case true=>
   split at h
   ·rename_i ps k n he he'
    obtain⟨p,hp,h⟩:=h;obtain⟨hn0,hpp⟩:=hp ();obtain⟨hu,ei,z,g1,g2,g3,g4⟩:=(hT t).pt hpt;obtain⟨b,off,cap,us,hv,h1,hI,hps,hr⟩:=I he nofun;obtain⟨u,hu2,hat⟩:=hps.get _ p hpp;have hlt:=Hn hpp;refine V (u:= .pointer (some ⟨b,off+n.toNat,none⟩)) h (by simp[execOp,ho,hv,show a.eval i= .int _ _ from I he' nofun,Instr.indexAt,asIntOf,run_underlying hu,P0 g1,g2,hn0,show n<(ps.length:Int) by omega,Addr.add_mid]) (Or.inr ⟨b,_,u,rfl,hI,hat,fun j v hj=>?_⟩);cases j with
    | zero=>cases hj;exact hr _ _ hu2
    | succ j=>simp at hj
   exact h.elim
  cases hq:(TI t).arr <;> simp only[hq] at h
  case some q=>
   obtain⟨e,ei,d,hu,g1,g2,_⟩:=(hT t).arr q hq
   have go:∀{b off:Nat} {k:IntKind} {n:Int},a.eval x= .pointer (some ⟨b,off,none⟩)->a.eval i= .int k n->0<=n/\n.toNat<q.1->(execOp a.eval o).run P w= .ok (.value (.pointer (some ⟨b,off+n.toNat*q.2.1,none⟩))) w:=by
    intro b off k n hv hn h0;simp[execOp,ho,hv,hn,Instr.indexAt,Instr.sureAddr,asIntOf,run_underlying hu,P0 g1,g2,h0.1,show n<(q.1:Int) by omega,Addr.add_mid]
   split at h
   ·rename_i he he'
    split at h
    ·rename_i hv
     obtain⟨hr,hr2⟩:=I he nofun;obtain⟨b,hb,hp⟩:=hr2 hv.symm;exact V h.2 (go hp (I he' nofun) (h.1 ())) (Or.inr ⟨⟨rfl,hr.2⟩,fun _=>⟨b,hb,rfl⟩⟩)
    exact h.elim
   ·rename_i he he'
    obtain⟨b,p,us,hp,k1⟩:=I he nofun;exact V h.2 (go hp (I he' nofun) (h.1 ())) (Or.inr ⟨b,p,us,by rw[Nat.add_assoc],k1⟩)
   exact h.elim
  obtain⟨hk,h⟩:=h;obtain⟨hu,ei,z,g1,g2,_⟩:=(hT t).sl hk
  have go:∀{b off len cap:Nat} {k:IntKind} {n:Int},a.eval x= .slice (some ⟨b,off,none⟩) len cap->a.eval i= .int k n->0<=n/\n.toNat<len->(execOp a.eval o).run P w= .ok (.value (.pointer (some ⟨b,off+n.toNat*(TI t).elem.size,none⟩))) w:=by
   intro b off len cap k n hv hn h0;simp[execOp,ho,hv,hn,Instr.indexAt,asIntOf,run_underlying hu,P0 g1,g2,h0.1,show n<(len:Int) by omega,Addr.add_mid]
  split at h
  ·rename_i he he'
   obtain⟨base,cap,hv,h1,h2,h3⟩:=I he nofun;obtain⟨hbq,y,hy,h⟩:=h;obtain rfl:=T.beq_eq hbq;obtain⟨hn0,hly⟩:=hy ();rcases h3 with rfl |⟨b,off,rfl,hI,hc⟩
   ·cases Hn hly
   obtain⟨us,hu1,hu2⟩:=hc _ y hly;exact V h (go (List.cons.inj hv).1 (I he' nofun) ⟨hn0,Hn hly⟩) (Or.inr ⟨b,_,us,rfl,hI,hu1,hu2⟩)
  ·rename_i he he'
   obtain⟨hbq,h⟩:=h;obtain rfl:=T.beq_eq hbq
   split at h
   ·rename_i hv
    obtain⟨hr,hr2⟩:=I he nofun;obtain⟨base,cap,hs,h1,h2,_,h3⟩:=hr2 hv.symm;have hn:=h.1 ();rcases h3 with rfl |⟨b,arr,e,hb,rfl,hh,hsz⟩
    ·omega
    exact V (h.2 _ rfl) (go hs (I he' nofun) hn) (Or.inr ⟨⟨rfl,hr.2⟩,fun _=>⟨b,hb,by rw[Nat.add_mul,Nat.add_zero]⟩⟩)
   exact h.elim
  exact h.elim
 case index t x i=>
  cases hq:(TI t).arr <;> simp only[hq] at h
  case some q=>
   have hx:=R x
   split at h
   ·rename_i cs k n he he'
    rw[he] at hx;obtain⟨arr,hv,hall⟩:=hx;obtain⟨hn0,hn1⟩:=h.1 ();obtain⟨e,ei,d,hu,h3,hs,h5,h6,h7,_⟩:=(hT t).arr q hq;have h:=h.2
    split at h
    ·rename_i hl
     have hsub:BM (Bg (cx X w β (AN s.bk))) (Eh cs (n.toNat*q.2.1) q.2.1) ((arr.toList.drop (n.toNat*q.2.1)).take q.2.1):=by rw[KS];exact (hall.drop _).take _
     exact V h (by simp[execOp,ho,hv,show a.eval i= .int _ _ from I he' nofun,Instr.index,asIntOf,run_underlying hu,hn0,show n<(q.1:Int) by omega,sizeOf,typeInfo,h3,hs,ZC (w:=w) h3 hs h5 h6 h7 (by rw[<-hsub.length,hl])]) (Pr hsub fun e=>hl.trans (h7 e))
    exact h.elim
   exact h.elim
  obtain⟨hk,h⟩:=h
  split at h
  ·rename_i z k n he he'
   obtain⟨b,h1,h⟩:=h;obtain⟨h1,h2⟩:=h1 ()
   have h3:z[n.toNat]? =some b:=by
    obtain⟨q,e⟩:=Array.getElem?_eq_some_iff.1 h2;rw[getElem?_pos z n.toNat q];exact congrArg some e
   exact V (h _ ⟨rfl⟩) (by simp[execOp,ho,show a.eval x= .string _ from I he nofun,show a.eval i= .int _ _ from I he' nofun,Instr.index,asIntOf,run_underlying ((hT t).PC hk),h1,h3]) (Or.inr rfl)
  exact h.elim
 case slice t x lo hi mx=>
  split at h
  ·rename_i z he
   obtain⟨l,q,m,c,hr,_,_,_,_,_,b6,b7,hc,hR⟩:=ON (P:=P) (w:=w) R (Nat.le_refl _) (h.2 _ rfl) false;obtain rfl:=b6 hc;obtain rfl:mx=none:=Classical.byContradiction fun e=>by cases (b7 e).symm.trans hc
   exact V (hR _ rfl) (by simp[execOp,ho,show a.eval x= .string _ from I he nofun,Instr.sliceAt,run_underlying ((hT t).PC h.1),Instr.slice,show (Instr.sliceBounds false z.size z.size (lo.map a.eval) (hi.map a.eval) none).run P w=_ from hr]) (Or.inr rfl)
  obtain⟨hk,h⟩:=h;obtain⟨hu,ei,z,g1,g2,_⟩:=(hT t).sl hk
  have go:∀{base:Option Addr} {len cap l q m:Nat},a.eval x= .slice base len cap->(Instr.sliceBounds true len cap (lo.map a.eval) (hi.map a.eval) (mx.map a.eval)).run P w= .ok (l,q,m) w->
    (execOp a.eval o).run P w= .ok (.value (.slice (if m=l then base else base.map (·.add (l*(TI t).elem.size))) (q-l) (m-l))) w:=by
   intro base len cap l q m hv hr;simp[execOp,ho,hv,Instr.sliceAt,run_underlying hu,Instr.slice,hr,P0 g1,g2]
  unfold OM at h
  split at h
  ·rename_i u l he
   obtain⟨base,cap,hv,h1,h2,h3⟩:=I he nofun;obtain⟨hbq,h⟩:=h;obtain rfl:=T.beq_eq hbq;obtain⟨p,q,m,c,hr,b1,b2,b3,b4,_,_,_,hR⟩:=ON (P:=P) (w:=w) R h1 (h _ rfl);have hlen:((l.take q).drop p).length=q-p:=by simp;omega
   refine V (hR _ rfl) (go (List.cons.inj hv).1 hr) (Or.inr ⟨_,m-p,by rw[hlen],by omega,by omega,?_⟩)
   by_cases hqp:q=p
   ·left;subst hqp;simp
   right
   rcases h3 with rfl |⟨b,off,rfl,hI,hc⟩
   ·simp at b2;omega
   refine⟨b,off+p*(TI t).elem.size,by rw[if_neg (by omega)];simp[Addr.add_mid],hI,fun j y hj=>?_⟩
   obtain⟨us,hu1,hu2⟩:=hc (p+j) y (by
    rw[List.getElem?_drop,List.getElem?_take] at hj
    split at hj
    ·exact hj
    cases hj)
   exact⟨us,hu1,by rwa [Nat.add_mul,<-Nat.add_assoc] at hu2⟩
  ·rename_i u id v off len he
   obtain⟨hbq,h⟩:=h;obtain rfl:=T.beq_eq hbq
   split at h
   ·rename_i hvv
    obtain⟨hr0,hr2⟩:=I he nofun;obtain⟨base,cap,hs,h1,h2,_,h3⟩:=hr2 hvv.symm;obtain⟨p,q,m,c,hr,b1,b2,b3,b4,b5,_,_,hR⟩:=ON (P:=P) (w:=w) R h1 h
    have hL:∀fl,(fl=true->m-p=q-p)->Je w (β id) (TI t).elem.size (off+p) (q-p) fl (.slice (if m=p then base else base.map (·.add (p*(TI t).elem.size))) (q-p) (m-p)):=by
     refine fun fl hfl=>⟨_,m-p,rfl,by omega,by omega,hfl,?_⟩
     by_cases hmp:m=p
     ·left;omega
     right
     rcases h3 with rfl |⟨b,arr,e,hb,rfl,hh,hsz⟩
     ·omega
     have:=Nat.mul_le_mul_right (TI t).elem.size (show off+p+(m-p)<=off+cap by omega);exact⟨b,arr,e,hb,by rw[if_neg hmp];simp[Addr.add_mid,Nat.add_mul],hh,by omega⟩
    have hR:=hR _ _ ⟨rfl,rfl⟩;cases c with
    | true=>exact V hR (go hs hr) (Or.inr ⟨⟨rfl,hr0.2⟩,fun _=>hL true fun _=>by have:=b5 rfl;omega⟩)
    | false=>exact V hR (go hs hr) (Or.inr ⟨⟨rfl,hr0.2⟩,fun _=>hL false nofun⟩)
   exact h.elim
  ·rename_i he
   obtain⟨p,q,m,c,hr,b1,b2,b3,b4,_,_,_,hR⟩:=ON (P:=P) (w:=w) (cap:=0) R (Nat.le_refl _) h;obtain⟨rfl,rfl,rfl⟩:p=0/\q=0/\m=0:=by omega
   exact V hR (go (show a.eval x= .slice none 0 0 from I he nofun) hr) (Or.inr (by simp[Bg]))
  exact h.elim
 case binOp op t x y t'=>
  split at h
  ·rename_i k m k' n he he'
   split at h
   ·rename_i hk
    obtain⟨c,hf,hc⟩:=V3 h;obtain⟨u,hu,hr⟩:=gL (P:=P) (w:=w) (t:=t) hk (hc (fun d=>d=c) rfl);have hg:(eqGuard op t x y (.int k m) (.int k' n)).run P w= .ok () w:=by unfold eqGuard;cases op <;> simp
    exact V hf (by simp only[execOp,ho,show a.eval x= .int _ _ from I he nofun,show a.eval y= .int _ _ from I he' nofun,Sem.run_bind,hg,Result.andThen_ok,hu,Sem.run_pure]) (Or.inr (hr _))
   exact h.elim
  ·rename_i m n he he'
   obtain⟨h1,h⟩:=h;have hu:=(hT t).isb h1
   have hq:(Op.equal t (.bool m) (.bool n)).run P w= .ok (m==n) w:=by
    have hd:∀d,(Op.equalIn (d+1) t (.bool m) (.bool n)).run P w= .ok (m==n) w:=fun d=>by
     unfold Op.equalIn;simp[run_underlying hu]
    exact hd 9999
   have hg:(eqGuard op t x y (.bool m) (.bool n)).run P w= .ok () w:=by unfold eqGuard;cases op <;> simp
   have hx':a.eval x= .bool m:=I he nofun;have hy':a.eval y= .bool n:=I he' nofun;cases op <;> first | exact h.elim | exact V (h _ rfl) (by simp[execOp,ho,hx',hy',Sem.run_bind,hg,binOp,hq,bne]) (Or.inr rfl)
  ·rename_i ty l he he'
   obtain⟨base,cap,hv,_,_,hrest⟩:=I he nofun;have hx':a.eval x= .slice base l.length cap:=(List.cons.inj hv).1;have hy':a.eval y= .slice none 0 0:=I he' nofun;obtain⟨h1,h⟩:=h;have hq:(Op.equal t (.slice base l.length cap) (.slice none 0 0)).run P w= .ok base.isNone w:=run_equal_slice_nil w t _ base l.length cap ((hT t).sl h1).1;have hg:(eqGuard op t x y (.slice base l.length cap) (.slice none 0 0)).run P w= .ok () w:=by unfold eqGuard;cases op <;> simp
   cases op <;> first | exact h.elim | exact V (u:= .bool base.isNone) (h _ rfl) (by simp[execOp,ho,hx',hy',Sem.run_bind,hg,binOp,hq]) (Or.inr ⟨_,rfl,fun hb=>hrest.elim (fun e=>by rw[e];rfl) fun⟨b,off,e,_⟩=>by rw[e] at hb;cases hb⟩)
  ·rename_i m n he he'
   have hx':a.eval x= .string m:=I he nofun;have hy':a.eval y= .string n:=I he' nofun;have hg:(eqGuard op t x y (.string m) (.string n)).run P w= .ok () w:=by unfold eqGuard;cases op <;> simp
   cases op <;> first
    | exact h.elim
    | exact V (h _ rfl) (by simp[execOp,ho,hx',hy',Sem.run_bind,hg,binOp,Op.stringOp,bne]) (Or.inr rfl)
    | (have h2:¬(((m.size+n.size:Nat):Int)>IntKind.i64.max):=by have e:IntKind.i64.max=9223372036854775807:=rfl;have:=h.1 ();rw[e];omega
       exact V (u:= .string (m++n)) (h.2 _ rfl) (by simp only[execOp,ho,hx',hy',Sem.run_bind,hg,binOp,Op.stringOp,if_neg h2];rfl) (Or.inr rfl))
  exact h.elim
 case unOp op t x=>
  split at h
  ·rename_i he
   exact V (h _ rfl) (by simp[execOp,ho,show a.eval x= .bool _ from I he nofun,Op.unary]) (Or.inr rfl)
  ·rename_i k n he
   have hu':(Op.intArith .sub k 0 n).run P w= .ok (.int k (k.wrap (0-n))) w:=rfl;exact V (h _ rfl) (by simp[execOp,ho,show a.eval x= .int _ _ from I he nofun,Op.unary,hu']) (Or.inr rfl)
  exact h.elim
 case convert src dst x=>
  obtain⟨hk,h⟩:=h
  split at h <;> try exact h.elim
  ·rename_i hd he
   obtain⟨_,_,d,_,_,_,_,hu,_⟩:=(hT src).info hk;exact V (h _ rfl) (by simp[execOp,ho,show a.eval x= .int _ _ from I he nofun,convert,run_underlying hu,run_underlying ((hT dst).kind _ hd),Conv.intToInt]) (Or.inr rfl)
  rename_i hd he
  obtain⟨g1,g2,g3,l,g4,h⟩:=h;obtain rfl:=g4 ();have:=gh ((hT src).sl g2).1 ((hT _).kind _ g3) ((hT dst).PC g1) (I he nofun);simp only[cx] at this;exact V (h _ rfl) (by simp[execOp,ho,this]) (Or.inr rfl)
 case makeFunc fn first cap=>
  split at h
  ·rename_i h1 h2
   obtain rfl:first= #[]:=by simpa using h1
   exact V (u:= .func (.func _) #[] (cap.map a.eval)) h (by simp[execOp,ho,Instr.makeFunc]) (Or.inr ⟨_,rfl,by rw[Array.toList_map];exact gp (Mo R cap.toList) h2⟩)
  exact h.elim
 case call c=>
  cases hb:c.callee <;> simp only[hb] at h hd
  ·exact absurd hb (hc c _ ho)
  obtain⟨u,w',β',hr,S'⟩:=oq hT ho hb hd S h;exact Ng hr (hN _ _ _ S')
end
end Go.Abs
