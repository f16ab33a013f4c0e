/- Part 5 of a proof. Conditions: each theorem's own. -/
import Derived.Deep.AppendSrc
import Derived.Deep.Upon
import Derived.Test.YtpccjlcpbehglaaGreatPk03
set_option linter.all false
set_option maxHeartbeats 8000000
namespace Go.Abs
open Go.RowKit
theorem putN_nil {α:Type} (l:List α) (o:Nat):putN l o []=l:=by
 induction l generalizing o with
 | nil=>cases o <;> rfl
 | cons c l ih=>cases o with
  | zero=>rfl
  | succ o=>simp[putN,ih]
theorem putN_set {α:Type}:∀(l:List α) (o:Nat) (v:α) (r:List α),putN (l.set o v) (o+1) r=putN l o (v::r)
 | [],0,_,_=>rfl
 | [],_+1,_,_=>rfl
 | c::l,0,v,r=>by simp[putN]
 | c::l,o+1,v,r=>by simp[putN,putN_set l o v r]
theorem All2.putN {α γ:Type} {R:α→γ→Prop}:∀{l:List α} {m:List γ} (o:Nat) {xs:List α} {ys:List γ},All2 R l m→All2 R xs ys→All2 R (putN l o xs) (putN m o ys)
 | [],[],0,[],[],_,_=>trivial
 | [],[],0,_::_,_::_,_,_=>trivial
 | [],[],_+1,_,_,_,_=>trivial
 | _::_,_::_,0,[],[],h,_=>h
 | _::_,_::_,0,_::_,_::_,h,h'=>⟨h'.1,All2.putN 0 h.2 h'.2⟩
 | _::_,_::_,o+1,_,_,h,h'=>⟨h.1,All2.putN o h.2 h'⟩
 | [],_::_,_,_,_,h,_=>h.elim
 | _::_,[],_,_,_,h,_=>h.elim
 | _,_,0,[],_::_,_,h'=>h'.elim
 | _,_,0,_::_,[],_,h'=>h'.elim
theorem setCells_block (b:Nat):∀(vs:List Value) (o:Nat) (w:World) (arr:Array Value) (e:TypeId),w.heap[b]? =some (.cells arr e (0,0))→
  ∃arr',(w.setCells b o vs).heap[b]? =some (.cells arr' e (0,0))∧arr'.toList=putN arr.toList o vs∧arr'.size=arr.size
 | [],o,w,arr,e,h=>⟨arr,h,(putN_nil _ _).symm,rfl⟩
 | v::r,o,w,arr,e,h=>by
  have h1:(w.setCell ⟨b,o,none⟩ v).heap[b]? =some (.cells (arr.setIfInBounds o v) e (0,0)):=by
   simp[World.setCell,Array.getElem?_modify,h]
  obtain⟨arr',h2,h3,h4⟩:=setCells_block b r (o+1) _ _ e h1
  exact⟨arr',h2,by rw[h3,Array.toList_setIfInBounds,putN_set],by simpa using h4⟩
theorem setCells_other (b:Nat):∀(vs:List Value) (o:Nat) (w:World) (k:Nat),k≠b→(w.setCells b o vs).heap[k]? =w.heap[k]?
 | [],_,_,_,_=>rfl
 | v::r,o,w,k,h=>by
  rw[World.setCells,setCells_other b r (o+1) _ k h]
  simp[World.setCell,Array.getElem?_modify,Ne.symm h]
theorem setCells_same (b:Nat):∀(vs:List Value) (o:Nat) (w:World),(w.setCells b o vs).os=w.os∧(w.setCells b o vs).tape=w.tape∧(w.setCells b o vs).output=w.output∧(w.setCells b o vs).heap.size=w.heap.size
 | [],_,_=>⟨rfl,rfl,rfl,rfl⟩
 | v::r,o,w=>by
  obtain⟨h1,h2,h3,h4⟩:=setCells_same b r (o+1) (w.setCell ⟨b,o,none⟩ v)
  exact⟨h1,h2,h3,h4.trans (by simp[World.setCell])⟩
theorem there_of_block {w:World} {b off n:Nat} {arr:Array Value} {e:TypeId} (h:w.heap[b]? =some (.cells arr e (0,0))) (hn:off+n≤arr.size):w.there b off n:=by
 intro j hj
 have:off+j<arr.size:=by omega
 simp[World.cell?,World.frozen?,h,this]
section
variable {P:Program} {E:Env} {TI:TypeId→Info}
theorem leC_rep {x:Cx}:∀{c d:AC} {v:Value},leC c d→RepC x c v→RepC x d v
 | .int _ _,_,_,h,r=>by rw[show _=_ from h];exact r
 | .bool _,_,_,h,r=>by rw[show _=_ from h];exact r
 | .fn _,_,_,h,r=>by rw[show _=_ from h];exact r
 | .sl _ _,_,_,h,r=>by rw[show _=_ from h];exact r
 | .nil,_,_,h,r=>by
  rcases h with rfl |⟨t,rfl⟩
  ·exact r
  ·rw[show _=_ from r];exact⟨none,0,rfl,Nat.le_refl _,by simp,.inl rfl⟩
 | .junk,_,_,h,_=>h.elim
 | .lsl _ _ _ _ _,_,_,h,_=>h.elim
 | .csl _ _ _ _ _,_,_,h,_=>h.elim
 | .lptr _ _ _,_,_,h,_=>h.elim
 | .eptr _ _ _ _ _,_,_,h,_=>h.elim
 | .pptr _ _ _,_,_,h,_=>h.elim
 | .ub _,_,_,h,_=>h.elim
 | .own _ _ _,_,_,h,_=>h.elim
theorem allC_rep {x:Cx} {R:AC→AC→Prop} (hR:∀c d v,R c d→RepC x c v→RepC x d v):∀{l m:List AC} {vs:List Value},allC R l m→All2 (RepC x) l vs→All2 (RepC x) m vs
 | [],[],[],_,_=>trivial
 | _::_,_::_,_::_,h,r=>⟨hR _ _ _ h.1 r.1,allC_rep hR h.2 r.2⟩
 | [],_::_,_,h,_=>h.elim
 | _::_,[],_,h,_=>h.elim
 | [],[],_::_,_,r=>r.elim
 | _::_,_::_,[],_,r=>r.elim
theorem ver_of {bk:Nat→Option Blk} {id:Nat} {b:Blk} (h:bk id=some b):ver bk id=b.ver:=by unfold ver;rw[h]
theorem sound_store (hT:∀t,TyOK P t (TI t)) {o:Oper} {t:TypeId} {p x:Operand} (ho:o.op= .store t p x):Sound P E TI o:=by
 intro w0 X β s a w S f h N Q hN
 simp only[aop,ho] at h
 obtain⟨hk,h⟩:=h
 have hp:=ev_rep S.slots p
 have hx:=ev_rep S.slots x
 obtain⟨ti,z,d,h1,h2,h3,h4,h5,h6,h7⟩:=(hT t).info hk
 have go:∀(id b q:Nat) (arr:Array Value) (e:TypeId) (blk:Blk) (ys:List AC),a.eval p= .pointer (some ⟨b,q,none⟩)→id<s.bk.length→live (nthb s.bk) id→β id=some b→w.heap[b]? =some (.cells arr e (0,0))→
   All2 (RepC (cx X w β (nthb s.bk))) ys (a.eval x).cells.toList→ys.length=(TI t).size→q+(TI t).size≤arr.size→blk.ver=ver (nthb s.bk) id→blk.short→
   (∀y:Cx,(cx X w β (nthb s.bk)).le y→y.w=w.setCells b q (a.eval x).cells.toList→y.β id=some b→RepB y id blk)→∀rd,f=⟨.one .junk,[(id,blk)],rd⟩→o.wp P a w N Q:=by
  intro id b q arr e blk ys hpp hid hl hb hh hys hlen hq hver hsh hB rd hf
  subst hf
  have hsz:(a.eval x).cells.size=ti.size:=by have:=hys.length;simp only[Array.length_toList] at this;omega
  have hrun:=run_storeAt_any (P:=P) (t:=t) (b:=b) (o:=q) (v:=a.eval x) h1 hsz (there_of_block hh (by omega)) (hys.one)
  obtain⟨c1,c2,c3,c4⟩:=setCells_same b (a.eval x).cells.toList q w
  refine wp_skip' (w':=w.setCells b q (a.eval x).cells.toList) (by simp[execOp,ho,hpp,hrun]) (hN β _ _ ?_)
  refine S.write hid hsh (fun _ _=>rfl) (by omega) (fun _=>⟨rfl,fun _=>hl⟩) (fun k _ hk=>setCells_other b _ _ _ k (fun e=>hk hl (e ▸ hb))) (by omega) (fun k arr' e' hh'=>?_) c1 c2 c3 (fun _ k hk'=> .inl ⟨hk',hl⟩) (fun hle=>hB _ hle rfl hb) (fun _=>repV_junk _ _)
  by_cases e1:k=b
  ·subst e1
   obtain⟨arr2,g1,g2,g3⟩:=setCells_block k (a.eval x).cells.toList q w arr' e' hh'
   exact⟨arr2,g1,g3⟩
  ·exact⟨arr',(setCells_other b _ _ _ k e1).trans hh',rfl⟩
 have hidlt:∀{id:Nat} {b:Blk},nthb s.bk id=some b→id<s.bk.length:=fun {id b} hb=>by
  rcases Nat.lt_or_ge id s.bk.length with h | h
  ·exact h
  ·rw[nthb_ge _ _ h] at hb;cases hb
 split at h
 ·rename_i id v off he
  rw[he] at hp
  have hr:=repV_one hp (by simp)
  split at h
  ·exact h.elim
  ·exact h.elim
  ·rename_i v' cs hj1 hj2 hj3
   have hb:nthb s.bk id=some (.var v' cs):=by assumption
   split at h
   ·rename_i hc
    obtain⟨hv',hlen,hoff⟩:=hc
    subst hv'
    have hfull:(ev s.sl x).full=true:=by
     cases hv:ev s.sl x with
     | one c=>cases c <;> simp_all [AV.full]
     | agg cs=>rfl
     | tup xs=>simp_all
    have hnt:∀xs,ev s.sl x≠ .tup xs:=fun xs e=>by rw[e] at hfull;simp[AV.full] at hfull
    have hys:=(repV1_of hx hnt).cells hfull
    obtain⟨b,arr,e,g1,g2,g3⟩:=S.blocks id _ hb
    have hv:v'=ver (nthb s.bk) id:=(ver_of hb).symm
    obtain⟨b',hb',hpp⟩:=hr.2 hv
    obtain rfl:b=b':=Option.some.inj (g1.symm.trans hb')
    have hal:=g3.length
    simp only[Array.length_toList] at hal
    refine go id b off arr e _ _ hpp (hidlt hb) ⟨_,hb,rfl⟩ g1 g2 hys hlen (by omega) (by simpa [Blk.ver] using hv) (by trivial) (fun y hle hw hbb=>?_) _ h.symm
    obtain⟨arr',q1,q2,q3⟩:=setCells_block b (a.eval x).cells.toList off w arr e g2
    refine⟨b,arr',e,hbb,by rw[hw];exact q1,?_⟩
    rw[q2]
    exact ((g3.mono fun _ _=>RepC.mono hle).putN off (hys.mono fun _ _=>RepC.mono hle))
   ·exact h.elim
  ·exact h.elim
 ·rename_i u id v i k he
  rw[he] at hp
  have hr:=repV_one hp (by simp)
  split at h
  ·exact h.elim
  ·exact h.elim
  ·rename_i v' u' l hj1 hj2 hj3
   have hb:nthb s.bk id=some (.arr v' u' l):=by assumption
   split at h
   ·rename_i hc
    obtain⟨hv',hk0,hsz,hu'⟩:=hc
    subst hv' hk0
    obtain rfl:=T.beq_eq hu'
    obtain⟨z',hz,h⟩:=h
    obtain⟨hi,hall⟩:=hz ()
    have hfull:(ev s.sl x).full=true:=by
     cases hv:ev s.sl x with
     | one c=>cases c <;> simp_all [AV.full]
     | agg cs=>rfl
     | tup xs=>simp_all
    have hnt:∀xs,ev s.sl x≠ .tup xs:=fun xs e=>by rw[e] at hfull;simp[AV.full] at hfull
    have hys:=allC_rep (fun _ _ _=>leC_rep) hall ((repV1_of hx hnt).cells hfull)
    have hv:v'=ver (nthb s.bk) id:=(ver_of hb).symm
    obtain⟨b',hb',hpp⟩:=hr.2 hv
    have hrb:=S.blocks id _ hb
    rcases hrb with⟨g1,g2⟩ |⟨b,arr,e,g1,g2,g3⟩
    ·exact absurd (g1.symm.trans hb') (by simp)
    obtain rfl:b=b':=Option.some.inj (g1.symm.trans hb')
    have hn:=T.size_pos u
    have hlast:i*u.size+u.size≤arr.size:=by
     obtain⟨us,hu1,hu2⟩:=g3 i l[i] (by simp[hi])
     have hul:=rep_length _ _ _ hu1
     have hlt:u.size-1<us.length:=by omega
     have:=hu2 (u.size-1) us[u.size-1] (by simp[hlt])
     simp only[World.cell?,g2] at this
     have h9:i*u.size+(u.size-1)<arr.size:=by
      rcases Nat.lt_or_ge (i*u.size+(u.size-1)) arr.size with h9 | h9
      ·exact h9
      ·simp[Array.getElem?_eq_none h9] at this
     omega
    refine go id b (i*u.size) arr e _ _ hpp (hidlt hb) ⟨_,hb,rfl⟩ g1 g2 hys (by rw[cells_length];exact hsz.symm) (by omega) (by simpa [Blk.ver] using hv) (by have:=S.lens id _ hb;simpa [Blk.short] using this) (fun y hle hw hbb=>?_) _ (h _ rfl).symm
    refine Or.inr ?_
    obtain⟨arr',q1,q2,q3⟩:=setCells_block b (a.eval x).cells.toList (i*u.size) w arr e g2
    refine⟨b,arr',e,hbb,by rw[hw];exact q1,fun j y' hj=>?_⟩
    have hcl:(a.eval x).cells.toList.length=u.size:=by rw[←hys.length,cells_length]
    by_cases hji:j=i
    ·subst hji
     have:y'=z':=by simp[List.getElem?_set,hi] at hj;exact hj.symm
     subst this
     refine⟨(a.eval x).cells.toList,((rep_cells _ u y' _).2 (hys.mono fun _ _=>RepC.mono hle)),fun m v hm=>?_⟩
     rw[hw]
     have hm':m<(a.eval x).cells.toList.length:=by
      rcases Nat.lt_or_ge m (a.eval x).cells.toList.length with h9 | h9
      ·exact h9
      ·simp[List.getElem?_eq_none h9] at hm
     rw[World.cell?_setCells_in b _ (j*u.size) w (fun m hm=>(there_of_block g2 (n:=u.size) (by omega) m (by omega)).1) m hm']
     simp[List.getElem?_eq_getElem hm'] at hm
     simpa using hm
    ·have hj':l[j]? =some y':=by simpa [List.getElem?_set,Ne.symm hji] using hj
     obtain⟨us,hu1,hu2⟩:=g3 j y' hj'
     refine⟨us,rep_mono hle.I u y' us hu1,fun m v hm=>?_⟩
     have hul:=rep_length _ _ _ hu1
     have hm':m<us.length:=by
      rcases Nat.lt_or_ge m us.length with h9 | h9
      ·exact h9
      ·simp[List.getElem?_eq_none h9] at hm
     rw[hw,World.cell?_setCells_out b _ (i*u.size) w _ (fun _ _=>?_)]
     ·exact hu2 m v hm
     ·show j*u.size+m<i*u.size∨i*u.size+_≤j*u.size+m
      rw[hcl]
      rcases Nat.lt_or_ge j i with h9 | h9
      ·left
       have:(j+1)*u.size≤i*u.size:=Nat.mul_le_mul_right _ h9
       rw[Nat.add_mul] at this;omega
      ·right
       have:(i+1)*u.size≤j*u.size:=Nat.mul_le_mul_right _ (by omega)
       rw[Nat.add_mul] at this;omega
   ·exact h.elim
  ·exact h.elim
 ·exact h.elim
end
end Go.Abs
namespace Go.Abs
open Go.RowKit
section
variable {P:Program} {E:Env} {TI:TypeId→Info}
theorem sizeOf_run {w:World} {t:TypeId} {ti:TypeInfo} (h:P.info? t=some ti):(sizeOf t).run P w= .ok ti.size w:=by simp[sizeOf,typeInfo,h]
theorem sound_indexAddr (hT:∀t,TyOK P t (TI t)) {o:Oper} {t:TypeId} {x i:Operand} (ho:o.op= .indexAddr t x i):Sound P E TI o:=by
 intro w0 X β s a w S f h N Q hN
 simp only[aop,ho] at h
 obtain⟨hk,h⟩:=h
 obtain⟨hu,ei,z,g1,g2,g3,g4,g5,g6⟩:=(hT t).sl hk
 have hx:=ev_rep S.slots x
 have hi:=ev_rep S.slots i
 have go:∀(b off len cap:Nat) (k:IntKind) (n:Int),a.eval x= .slice (some ⟨b,off,none⟩) len cap→a.eval i= .int k n→0≤n→n<len→
   (execOp a.eval o).run P w= .ok (.value (.pointer (some ⟨b,off+n.toNat*(TI t).elem.size,none⟩))) w:=by
  intro b off len cap k n hv hn h0 h1
  simp[execOp,ho,hv,hn,Instr.indexAt,asIntOf,run_underlying hu,sizeOf_run g1,g2,h0,h1,Addr.add_mid]
 split at h
 ·rename_i u l k n he he'
  rw[he] at hx;rw[he'] at hi
  have hi':a.eval i= .int k n:=repV_one hi (by simp)
  obtain⟨base,cap,hv,h1,h2,h3⟩:=repV_one hx (by simp)
  obtain⟨hbq,y,hy,h⟩:=h
  obtain rfl:=T.beq_eq hbq
  obtain⟨hn0,hly⟩:=hy ()
  subst h
  have hlt:n.toNat<l.length:=by
   rcases Nat.lt_or_ge n.toNat l.length with h9 | h9
   ·exact h9
   ·simp[List.getElem?_eq_none h9] at hly
  rcases h3 with rfl |⟨b,off,rfl,hI,hc⟩
  ·simp at hlt
  obtain⟨us,hu1,hu2⟩:=hc n.toNat y hly
  refine wp_value (go b off l.length cap k n (by simpa using hv) hi' hn0 (by omega)) (hN _ _ _ (S.val (Or.inr ⟨b,off+n.toNat*(TI t).elem.size,us,by rw[Nat.add_zero],hI,hu1,hu2⟩)))
 ·rename_i u id v off len k n he he'
  rw[he] at hx;rw[he'] at hi
  have hi':a.eval i= .int k n:=repV_one hi (by simp)
  obtain⟨hbq,h⟩:=h
  obtain rfl:=T.beq_eq hbq
  split at h
  ·rename_i hv
   have hr:=repV_one hx (by simp)
   obtain⟨base,cap,hs,h1,h2,_,h3⟩:=hr.2 hv.symm
   obtain⟨hn,h⟩:=h
   obtain⟨hn0,hn1⟩:=hn ()
   obtain rfl:=h _ rfl
   rcases h3 with rfl |⟨b,arr,e,hb,rfl,hh,hsz⟩
   ·omega
   refine wp_value (go b (off*(TI t).elem.size) len cap k n hs hi' hn0 (by omega)) (hN _ _ _ (S.val (Or.inr ⟨⟨rfl,hr.1.2⟩,fun _=>⟨b,hb,?_⟩⟩)))
   rw[Nat.add_mul,Nat.add_zero]
  ·exact h.elim
 ·exact h.elim
theorem sliceBound_run {w:World} {k:IntKind} {n:Int} {y:Nat} {c:BoundsCode} (h0:0≤n) (h1:n≤y):(Instr.sliceBound (.int k n) y c).run P w= .ok n.toNat w:=by
 simp[Instr.sliceBound,asIntOf,h0,h1]
theorem asliceB_run {w:World} {a:Act} {x:Cx} {lo hi mx:Option Operand} {s:St} (hev:∀o,RepV x (ev s.sl o) (a.eval o)) {len cap:Nat} (hc:len≤cap) {R:Nat→Nat→Bool→Prop}
  (h:asliceB len (lo.map (ev s.sl)) (hi.map (ev s.sl)) (mx.map (ev s.sl)) R):
  ∃(l q m:Nat) (c:Bool),(Instr.sliceBounds true len cap (lo.map a.eval) (hi.map a.eval) (mx.map a.eval)).run P w= .ok (l,q,m) w∧l≤q∧q≤len∧q≤m∧m≤cap∧(c=true→m=q∧l=0)∧(c=false→m=cap)∧R l q c:=by
 have int_of:∀{o:Operand} {k:IntKind} {n:Int},ev s.sl o= .one (.int k n)→a.eval o= .int k n:=fun {o k n} e=>by
  have:=hev o;rw[e] at this;exact repV_one this (by simp)
 unfold asliceB at h
 split at h
 ·rename_i e1 e2 e3
  simp only[Option.map_eq_none_iff] at e1 e2 e3
  subst e1 e2 e3
  exact⟨0,len,cap,false,by simp[Instr.sliceBounds],Nat.zero_le _,Nat.le_refl _,hc,Nat.le_refl _,by simp,fun _=>rfl,h _ rfl⟩
 ·rename_i k n e1 e2 e3
  simp only[Option.map_eq_none_iff,Option.map_eq_some_iff] at e1 e2 e3
  obtain⟨p,rfl,e1⟩:=e1
  subst e2 e3
  obtain⟨hb,h⟩:=h
  obtain⟨h0,h1⟩:=hb ()
  have h1:n≤(len:Int):=by omega
  exact⟨n.toNat,len,cap,false,by simp[Instr.sliceBounds,int_of e1,sliceBound_run h0 h1],by omega,Nat.le_refl _,hc,Nat.le_refl _,by simp,fun _=>rfl,h _ _ ⟨rfl,rfl⟩⟩
 ·rename_i k n e1 e2 e3
  simp only[Option.map_eq_none_iff,Option.map_eq_some_iff] at e1 e2 e3
  obtain⟨p,rfl,e2⟩:=e2
  subst e1 e3
  obtain⟨hb,h⟩:=h
  obtain⟨h0,h1⟩:=hb ()
  have h2:n≤(cap:Int):=by omega
  exact⟨0,n.toNat,cap,false,by simp[Instr.sliceBounds,int_of e2,sliceBound_run h0 h2],by omega,by omega,by omega,Nat.le_refl _,by simp,fun _=>rfl,h _ rfl⟩
 ·rename_i k n k' n' e1 e2 e3
  simp only[Option.map_eq_none_iff,Option.map_eq_some_iff] at e1 e2 e3
  obtain⟨p,rfl,e1⟩:=e1
  obtain⟨p',rfl,e2⟩:=e2
  subst e3
  obtain⟨hb,h⟩:=h
  obtain⟨h0,h1,h2⟩:=hb ()
  have h3:n'≤(cap:Int):=by omega
  have h4:n≤(n'.toNat:Int):=by omega
  exact⟨n.toNat,n'.toNat,cap,false,by simp[Instr.sliceBounds,int_of e1,int_of e2,sliceBound_run (show 0≤n' by omega) h3,sliceBound_run h0 h4],by omega,by omega,by omega,Nat.le_refl _,by simp,fun _=>rfl,h _ _ ⟨rfl,rfl⟩⟩
 ·rename_i k n k' n' e1 e2 e3
  simp only[Option.map_eq_none_iff,Option.map_eq_some_iff] at e1 e2 e3
  obtain⟨p,rfl,e2⟩:=e2
  obtain⟨p',rfl,e3⟩:=e3
  subst e1
  obtain⟨hb,h⟩:=h
  obtain⟨h0,h1,h2⟩:=hb ()
  subst h1
  have h3:n≤(cap:Int):=by omega
  have h4:n≤(n.toNat:Int):=by omega
  exact⟨0,n.toNat,n.toNat,true,by simp[Instr.sliceBounds,int_of e2,int_of e3,sliceBound_run h0 h3,sliceBound_run h0 h4],by omega,by omega,by omega,by omega,fun _=>⟨rfl,rfl⟩,by simp,h _ rfl⟩
 ·exact h.elim
theorem sound_slice (hT:∀t,TyOK P t (TI t)) {o:Oper} {t:TypeId} {x:Operand} {lo hi mx:Option Operand} (ho:o.op= .slice t x lo hi mx):Sound P E TI o:=by
 intro w0 X β s a w S f h N Q hN
 simp only[aop,ho] at h
 obtain⟨hk,h⟩:=h
 obtain⟨hu,ei,z,g1,g2,g3,g4,g5,g6⟩:=(hT t).sl hk
 have hx:=ev_rep S.slots x
 have go:∀(base:Option Addr) (len cap l q m:Nat),a.eval x= .slice base len cap→(Instr.sliceBounds true len cap (lo.map a.eval) (hi.map a.eval) (mx.map a.eval)).run P w= .ok (l,q,m) w→
   (execOp a.eval o).run P w= .ok (.value (.slice (if m=l then base else base.map (·.add (l*(TI t).elem.size))) (q-l) (m-l))) w:=by
  intro base len cap l q m hv hr
  simp[execOp,ho,hv,Instr.sliceAt,run_underlying hu,Instr.slice,hr,sizeOf_run g1,g2]
 unfold aslice at h
 split at h
 ·rename_i u l he
  rw[he] at hx
  obtain⟨base,cap,hv,h1,h2,h3⟩:=repV_one hx (by simp)
  obtain⟨hbq,h⟩:=h
  obtain rfl:=T.beq_eq hbq
  obtain⟨p,q,m,c,hr,b1,b2,b3,b4,b5,b6,hR⟩:=asliceB_run (P:=P) (w:=w) (ev_rep S.slots) h1 (h _ rfl)
  obtain rfl:=hR _ rfl
  refine wp_value (go base l.length cap p q m (by simpa using hv) hr) (hN _ _ _ (S.val (Or.inr ?_)))
  have hlen:((l.take q).drop p).length=q-p:=by simp;omega
  refine⟨_,m-p,by rw[hlen],by rw[hlen];omega,by rw[hlen];omega,?_⟩
  by_cases hqp:q=p
  ·left;subst hqp;simp
  ·right
   rcases h3 with rfl |⟨b,off,rfl,hI,hc⟩
   ·simp at b2;omega
   refine⟨b,off+p*(TI t).elem.size,by rw[if_neg (by omega)];simp[Addr.add_mid],hI,fun j y hj=>?_⟩
   have hj':l[p+j]? =some y:=by
    rw[List.getElem?_drop,List.getElem?_take] at hj
    split at hj
    ·exact hj
    ·cases hj
   obtain⟨us,hu1,hu2⟩:=hc (p+j) y hj'
   exact⟨us,hu1,by rw[show off+p*(TI t).elem.size+j*(TI t).elem.size=off+(p+j)*(TI t).elem.size by rw[Nat.add_mul];omega];exact hu2⟩
 ·rename_i u id v off len he
  rw[he] at hx
  obtain⟨hbq,h⟩:=h
  obtain rfl:=T.beq_eq hbq
  split at h
  ·rename_i hvv
   have hr0:=repV_one hx (by simp)
   obtain⟨base,cap,hs,h1,h2,_,h3⟩:=hr0.2 hvv.symm
   obtain⟨p,q,m,c,hr,b1,b2,b3,b4,b5,b6,hR⟩:=asliceB_run (P:=P) (w:=w) (ev_rep S.slots) h1 h
   have hR:=hR _ _ ⟨rfl,rfl⟩
   refine wp_value (go base len cap p q m hs hr) ?_
   have hL:∀fl,(fl=true→m-p=q-p)→LslAt w (β id) (TI t).elem.size (off+p) (q-p) fl (.slice (if m=p then base else base.map (·.add (p*(TI t).elem.size))) (q-p) (m-p)):=by
    intro fl hfl
    refine⟨_,m-p,rfl,by omega,by omega,hfl,?_⟩
    by_cases hmp:m=p
    ·left;omega
    ·right
     rcases h3 with rfl |⟨b,arr,e,hb,rfl,hh,hsz⟩
     ·omega
     refine⟨b,arr,e,hb,by rw[if_neg hmp];simp[Addr.add_mid,Nat.add_mul],hh,?_⟩
     have:(off+p+(m-p))*(TI t).elem.size≤(off+cap)*(TI t).elem.size:=Nat.mul_le_mul_right _ (by omega)
     omega
   cases c with
   | true=>
    obtain rfl:=hR
    exact hN _ _ _ (S.val (Or.inr ⟨⟨rfl,hr0.1.2⟩,fun _=>hL true (fun _=>by have:=b5 rfl;omega)⟩))
   | false=>
    obtain rfl:=hR
    exact hN _ _ _ (S.val (Or.inr ⟨⟨rfl,hr0.1.2⟩,fun _=>hL false (by simp)⟩))
  ·exact h.elim
 ·rename_i he
  rw[he] at hx
  have hv:a.eval x= .slice none 0 0:=repV_one hx (by simp)
  obtain⟨p,q,m,c,hr,b1,b2,b3,b4,b5,b6,hR⟩:=asliceB_run (P:=P) (w:=w) (cap:=0) (ev_rep S.slots) (Nat.le_refl _) h
  obtain rfl:=hR
  have:p=0:=by omega
  have:q=0:=by omega
  have:m=0:=by omega
  subst_vars
  exact wp_value (go none 0 0 0 0 0 hv hr) (hN _ _ _ (S.val (Or.inr (by simp[RepC]))))
 ·exact h.elim
end
end Go.Abs
namespace Go.Abs
open Go.RowKit
def RowsF (w:World) (I:Nat→Prop) (t:T):List (el t)→List Value→Prop
 | [],fl=>fl=[]
 | x::l,fl=>∃us r,fl=us++r∧rep w I t x us∧RowsF w I t l r
section
variable {w:World} {I:Nat→Prop} {t:T}
theorem rangeAt_append {b o:Nat} {us vs:List Value}:w.rangeAt b o (us++vs)↔w.rangeAt b o us∧w.rangeAt b (o+us.length) vs:=by
 constructor
 ·intro h
  refine⟨fun j v hj=>h j v ?_,fun j v hj=>?_⟩
  ·rw[List.getElem?_append_left]
   ·exact hj
   ·rcases Nat.lt_or_ge j us.length with h9 | h9
    ·exact h9
    ·simp[List.getElem?_eq_none h9] at hj
  ·rw[Nat.add_assoc]
   exact h (us.length+j) v (by rw[List.getElem?_append_right (by omega)];simpa using hj)
 ·rintro⟨h1,h2⟩ j v hj
  rcases Nat.lt_or_ge j us.length with h9 | h9
  ·rw[List.getElem?_append_left h9] at hj;exact h1 j v hj
  ·rw[List.getElem?_append_right h9] at hj
   have:=h2 _ v hj
   rwa [show o+us.length+(j-us.length)=o+j by omega] at this
theorem RowsF.length:∀{l:List (el t)} {fl:List Value},RowsF w I t l fl→fl.length=l.length*t.size
 | [],_,h=>by rw[show _=_ from h];simp
 | _::_,_,⟨us,r,e,h1,h2⟩=>by rw[e,List.length_append,rep_length _ _ _ h1,RowsF.length h2,List.length_cons,Nat.succ_mul];omega
theorem RowsF.one:∀{l:List (el t)} {fl:List Value},RowsF w I t l fl→∀u∈fl,u.oneCell'=true
 | [],_,h,u,hu=>by rw[show _=_ from h] at hu;simp at hu
 | _::_,_,⟨us,r,e,h1,h2⟩,u,hu=>by
  rw[e] at hu
  rcases List.mem_append.1 hu with h | h
  ·exact rep_one _ _ _ h1 u h
  ·exact RowsF.one h2 u h
theorem RowsF.append:∀{l l':List (el t)} {fl fl':List Value},RowsF w I t l fl→RowsF w I t l' fl'→RowsF w I t (l++l') (fl++fl')
 | [],_,_,_,h,h'=>by rw[show _=_ from h];exact h'
 | _::_,_,_,_,⟨us,r,e,h1,h2⟩,h'=>⟨us,r++_,by rw[e,List.append_assoc],h1,RowsF.append h2 h'⟩
theorem RowsF.mono {w':World} {I':Nat→Prop} (hm:∀b,I b→I' b∧w'.heap[b]? =w.heap[b]?):∀{l:List (el t)} {fl:List Value},RowsF w I t l fl→RowsF w' I' t l fl
 | [],_,h=>h
 | _::_,_,⟨us,r,e,h1,h2⟩=>⟨us,r,e,rep_mono hm _ _ _ h1,RowsF.mono hm h2⟩
theorem rowsF_of {b:Nat}:∀{l:List (el t)} {off:Nat},(∀(i:Nat) (x:el t),l[i]? =some x→∃us,rep w I t x us∧w.rangeAt b (off+i*t.size) us)→∃fl,RowsF w I t l fl∧w.rangeAt b off fl
 | [],_,_=>⟨[],rfl,fun j v hj=>by simp at hj⟩
 | x::l,off,h=>by
  obtain⟨us,h1,h2⟩:=h 0 x (by simp)
  obtain⟨fl,h3,h4⟩:=rowsF_of (l:=l) (off:=off+t.size) fun i y hy=>by
   obtain⟨us,g1,g2⟩:=h (i+1) y (by simpa using hy)
   exact⟨us,g1,by rw[show off+t.size+i*t.size=off+(i+1)*t.size by rw[Nat.add_mul];omega];exact g2⟩
  refine⟨us++fl,⟨us,fl,rfl,h1,h3⟩,rangeAt_append.2 ⟨by simpa using h2,?_⟩⟩
  rw[rep_length _ _ _ h1];exact h4
theorem rowsF_to {b:Nat}:∀{l:List (el t)} {fl:List Value} {off:Nat},RowsF w I t l fl→w.rangeAt b off fl→∀(i:Nat) (x:el t),l[i]? =some x→∃us,rep w I t x us∧w.rangeAt b (off+i*t.size) us
 | [],_,_,_,_,_,_,hx=>by simp at hx
 | _::_,_,_,⟨us,r,e,h1,_⟩,hr,0,x,hx=>by
  simp at hx;subst hx
  rw[e] at hr
  exact⟨us,h1,by simpa using (rangeAt_append.1 hr).1⟩
 | _::_,_,off,⟨us,r,e,h1,h2⟩,hr,i+1,x,hx=>by
  rw[e] at hr
  have h3:=(rangeAt_append.1 hr).2
  rw[rep_length _ _ _ h1] at h3
  obtain⟨us',g1,g2⟩:=rowsF_to h2 h3 i x (by simpa using hx)
  exact⟨us',g1,by rw[show off+(i+1)*t.size=off+t.size+i*t.size by rw[Nat.add_mul];omega];exact g2⟩
end
theorem snap_src {P:Program} {w:World} {β:Nat→Option Nat} {s:St} {a:Act} {w0:World} {X:WX} (S:SimB w0 X β s a w) {c:AC} {v:Value} {t:T} {l:List (el t)} {tx e':TypeId} (hk:P.underlying tx=some (.slice e'))
  (hr:RepC (cx X w β (nthb s.bk)) c v) (h:snapC (nthb s.bk) c (.sl t l)):∃news,Src P t.size tx v l.length news w∧RowsF w (cx X w β (nthb s.bk)).I t l news:=by
 have some:∀{b off n cap:Nat},v= .slice (some ⟨b,off,none⟩) n cap→n=l.length→(∀(i:Nat) (x:el t),l[i]? =some x→∃us,rep w (cx X w β (nthb s.bk)).I t x us∧w.rangeAt b (off+i*t.size) us)→
   ∃news,Src P t.size tx v l.length news w∧RowsF w (cx X w β (nthb s.bk)).I t l news:=by
  intro b off n cap hv hn hc
  obtain⟨fl,h1,h2⟩:=rowsF_of hc
  refine⟨fl,?_,h1⟩
  rw[hv,hn]
  exact Src.ofSlice w hk _ _ _ fl h1.length (fun j u hu=>by rw[Addr.add_mid];exact h2 j u hu) h1.one
 have none':∀{base:Option Addr} {cap:Nat},v= .slice base 0 cap→l=[]→∃news,Src P t.size tx v l.length news w∧RowsF w (cx X w β (nthb s.bk)).I t l news:=by
  intro base cap hv hl
  subst hl hv
  refine⟨[],?_,rfl⟩
  cases base with
  | none=>exact Src.ofNil w hk cap
  | some ad=>exact Src.ofSlice w hk ad 0 cap [] (by simp) (fun j u hu=>by simp at hu) (by simp)
 cases c with
 | sl t' l'=>
  have h:AC.sl t l=AC.sl t' l':=h
  simp only[AC.sl.injEq] at h
  obtain⟨h0,h2⟩:=h
  subst h0
  have h3:=eq_of_heq h2
  subst h3
  obtain⟨base,cap,hv,h1,h2,h3⟩:=hr
  have hv:v= .slice base l.length cap:=by simpa using hv
  rcases h3 with rfl |⟨b,off,rfl,hI,hc⟩
  ·exact none' hv rfl
  ·exact some hv rfl hc
 | nil=>
  rcases h with h |⟨t',h⟩
  ·cases h
  ·obtain⟨rfl,h2⟩:t=t'∧HEq l ([]:List (el t')):=by simpa using h
   obtain rfl:=eq_of_heq h2
   exact none' (show v= .slice none 0 0 from hr) rfl
 | lsl t' id vv off len=>
  obtain⟨l',hb,hle,h⟩:=h
  obtain⟨rfl,h2⟩:t=t'∧HEq l ((l'.drop off).take len):=by simpa using h
  obtain rfl:=eq_of_heq h2
  have hv:vv=ver (nthb s.bk) id:=by rw[ver_of hb];rfl
  obtain⟨base,cap,hs,h1,h2,_,h3⟩:=hr.2 hv
  have hlen:((l'.drop off).take len).length=len:=by simp;omega
  by_cases hl0:len=0
  ·subst hl0
   exact none' hs (by simp)
  ·rcases h3 with rfl |⟨b,arr,e,hbb,rfl,hh,hsz⟩
   ·omega
   have hrb:=S.blocks id _ hb
   rcases hrb with⟨g1,g2⟩ |⟨b',arr',e',g1,g2,g3⟩
   ·exact absurd (g1.symm.trans hbb) (by simp)
   obtain rfl:b'=b:=Option.some.inj (g1.symm.trans hbb)
   refine some hs hlen.symm fun i x hx=>?_
   have hx':l'[off+i]? =Option.some x:=by
    rw[List.getElem?_take] at hx
    split at hx
    ·simpa using hx
    ·cases hx
   obtain⟨us,q1,q2⟩:=g3 _ x hx'
   exact⟨us,q1,by rw[←Nat.add_mul];exact q2⟩
 | _=>exact (show False by simp[snapC] at h).elim
theorem append_core {P:Program} {w:World} {t tx ty e:TypeId} {ei:TypeInfo} {z:Value} {n:Nat} (ht:P.underlying t=some (.slice e)) (hi:P.info? e=some ei) (hz:ei.zero=some z) (hsize:ei.size=n) (hzs:z.cells.size=n)
  {base:Option Addr} {len cap:Nat} (hlc:len≤cap) {olds:List Value} (hol:olds.length=len*n)
  (hb:cap=0∨∃b off arr e',base=some ⟨b,off,none⟩∧w.heap[b]? =some (.cells arr e' (0,0))∧off+cap*n≤arr.size∧w.rangeAt b off olds)
  {x:Value} {m:Nat} {news:List Value} (hs:Src P n tx x m news w) (hbytes:(len+m)*ei.bytes≤140737488355328) (hpos:0<ei.bytes):
  (m=0∧(Builtin.append_ #[t,tx] ty #[.slice base len cap,x]).run P w= .ok (.slice base len cap) w)∨
  (∃b off,len+m≤cap∧base=some ⟨b,off,none⟩∧(Builtin.append_ #[t,tx] ty #[.slice base len cap,x]).run P w= .ok (.slice base (len+m) cap) (w.setCells b (off+len*n) news))∨
  (∃c' arr w',len+m≤c'∧c'≤maxLen∧w'.heap=w.heap.push (.cells arr e (0,0))∧w'.os=w.os∧w'.tape=w.tape∧w'.output=w.output∧arr.size=c'*n∧w'.rangeAt w.heap.size 0 (olds++news)∧
   (Builtin.append_ #[t,tx] ty #[.slice base len cap,x]).run P w= .ok (.slice (some ⟨w.heap.size,0,none⟩) (len+m) c') w'):=by
 subst hsize
 have hnl:=hs.newsLen
 have hle47:len+m≤140737488355328:=Nat.le_trans (Nat.le_mul_of_pos_right _ hpos) hbytes
 by_cases hm:m=0
 ·subst hm
  have:news=[]:=by simpa using hnl
  subst this
  exact .inl ⟨rfl,run_append_nothing (P:=P) w t tx ty e ei ht hi base len cap hlc x hs⟩
 by_cases hroom:len+m≤cap
 ·rcases hb with rfl |⟨b,off,arr,e',rfl,hh,hsz,hr⟩
  ·omega
  have hfit:∀j,j<news.length→off+len*ei.size+j<arr.size:=fun j hj=>by
   have:(len+m)*ei.size≤cap*ei.size:=Nat.mul_le_mul_right _ hroom
   rw[Nat.add_mul] at this
   omega
  exact .inr (.inl ⟨b,off,hroom,rfl,run_append_room_src (P:=P) w t tx ty e ei ht hi b off len cap x m news hs hroom
   (fun j hj=>by simp[World.cell?,hh,hfit j hj]) (fun j hj=>by simp[World.frozen?,hh])⟩)
 ·have hold:(Builtin.firstCells ei.size len (.slice base len cap)).run P w.drew= .ok olds.toArray w.drew:=by
   rcases hb with rfl |⟨b,off,arr,e',rfl,hh,hsz,hr⟩
   ·obtain rfl:len=0:=by omega
    have:olds=[]:=by simpa using hol
    subst this
    cases base with
    | none=>exact run_firstCells_none w.drew ei.size 0 0 0
    | some ad=>exact run_firstCells_some w.drew ei.size 0 ad 0 0 [] (by simp) (fun j u hu=>by simp at hu)
   ·exact run_firstCells_some w.drew ei.size len _ len cap olds hol fun j u hu=>by rw[Addr.add_mid];simpa using hr j u hu
  have h63:len+m≤maxLen:=by unfold maxLen;omega
  have hrun:=run_append_grow_src (P:=P) w t tx ty e ei z ht hi hz base len cap olds hold x m news hs (by omega) (by omega) (growslice_fits (by omega) hbytes)
  have hge:=grownCap_ge w (len+m) cap e
  refine .inr (.inr ⟨grownCap w (len+m) cap e,(olds++news).toArray++Builtin.zeroCells z.cells (grownCap w (len+m) cap e-(len+m)),(w.drew.alloc (.cells ((olds++news).toArray++Builtin.zeroCells z.cells (grownCap w (len+m) cap e-(len+m))) e)),hge,grownCap_le_maxLen w (len+m) cap e h63,?_,rfl,rfl,rfl,?_,?_,hrun⟩)
  ·rfl
  ·simp only[Array.size_append,List.size_toArray,List.length_append,size_zeroCells,hzs,hol,hnl,←Nat.add_mul]
   congr 1;omega
  ·intro j v hj
   have e1:(w.drew.alloc (.cells ((olds++news).toArray++Builtin.zeroCells z.cells (grownCap w (len+m) cap e-(len+m))) e)).cell? ⟨w.heap.size,j,none⟩=_:=World.cell?_alloc_new w.drew _ _ j
   rw[Nat.zero_add,e1]
   have hj':j<(olds++news).length:=by
    rcases Nat.lt_or_ge j (olds++news).length with h9 | h9
    ·exact h9
    ·rw[List.getElem?_eq_none h9] at hj;cases hj
   rw[Array.getElem?_append_left (by simpa using hj')]
   simpa using hj
end Go.Abs
