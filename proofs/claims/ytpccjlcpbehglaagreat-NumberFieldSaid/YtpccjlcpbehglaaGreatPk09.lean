/- Part 10 of a proof. Conditions: each theorem's own. -/
import Derived.Orders
import Derived.Test.YtpccjlcpbehglaaGreatPk08
set_option linter.all false
set_option maxHeartbeats 8000000
namespace Go.Abs
open Go.RowKit
def dstB (o:Oper):Bool:=
 match o.op with
 | .alloc _=>o.dst.isSome
 | .box _ _=>o.dst.isSome
 | .makeSlice _ _ _=>o.dst.isSome
 | .buildSlice _ _ _=>o.dst.isSome
 | .call c=>match c.callee with
  | .builtin _=>o.dst.isSome
  | _=>true
 | _=>true
section
variable {P:Program} {TI:TypeId→Info}
theorem SimB.seal {w0:World} {X:WX} {β:Nat→Option Nat} {s:St} {a:Act} {w:World} {q id v:Nat} {t:T} {l:List (el t)} {rd rd':List Nat}
  (S:SimB w0 X β (s.app (some q) ⟨.one (.lsl t id v 0 l.length),[(id,.arr v t l)],rd⟩) a w) (hid:id<s.bk.length) (h0:id≠0):
  SimB w0 X β (s.app (some q) ⟨.one (.sl t l),[(id,.dead v)],rd'⟩) a w:=by
 have hb1:∀k,nthb (setn s.bk id (some (.arr v t l))) k=if k=id then some (.arr v t l) else nthb s.bk k:=fun k=>by
  rw[nthb_setn];by_cases h:k=id <;> simp[h,hid]
 have hb2:∀k,nthb (setn s.bk id (some (.dead v))) k=if k=id then some (.dead v) else nthb s.bk k:=fun k=>by
  rw[nthb_setn];by_cases h:k=id <;> simp[h,hid]
 have hver:∀k,ver (nthb (setn s.bk id (some (.dead v)))) k=ver (nthb (setn s.bk id (some (.arr v t l)))) k:=fun k=>by
  rw[ver_set _ _ _ hid,ver_set _ _ _ hid];rfl
 have hlv:∀k,live (nthb (setn s.bk id (some (.dead v)))) k→live (nthb (setn s.bk id (some (.arr v t l)))) k∧k≠id:=fun k hk=>by
  rw[live_set _ _ _ hid] at hk
  by_cases h:k=id
  ·rw[if_pos h] at hk;simp[Blk.live] at hk
  ·rw[if_neg h] at hk
   exact⟨by rw[live_set _ _ _ hid,if_neg h];exact hk,h⟩
 have hl1:live (nthb (setn s.bk id (some (.arr v t l)))) id:=by rw[live_set _ _ _ hid,if_pos rfl];rfl
 have hle:(cx X w β (nthb (setn s.bk id (some (.arr v t l))))).le (cx X w β (nthb (setn s.bk id (some (.dead v))))):=
  ⟨fun k=>Nat.le_of_eq (hver k).symm,fun _ _=>rfl,fun k b arr e _ _ hh=>⟨arr,hh,rfl⟩,fun b hb=>⟨⟨⟨hb.1.1,fun k hk=>hb.1.2 k (hlv k hk).1⟩,hb.2⟩,rfl⟩⟩
 have hlt:∀b o,w.heap[b]? =some o→b<w.heap.size:=fun b o h=>by
  rcases Nat.lt_or_ge b w.heap.size with h' | h'
  ·exact h'
  ·simp[Array.getElem?_eq_none h'] at h
 refine⟨S.defers,by have:=S.len;simpa [St.app,putD,length_setn] using this,by have:=S.lenb;simpa [St.app,putWs,length_setn] using this,fun i=>?_,fun k b hk=>?_,fun k k' b hk hk' hb hb'=>S.inj k k' b (hlv k hk).1 (hlv k' hk').1 hb hb',
  fun k b hk hb=>S.own k b (hlv k hk).1 hb,S.os,S.tape,S.output,S.size,S.block,fun k b hk=>?_,S.fresh,fun hl hv=>?_⟩
 ·have hs:=S.slots i
  show RepV _ (nth (setn s.sl q (.one (.sl t l))) i) _
  have hs':RepV (cx X w β (nthb (setn s.bk id (some (.arr v t l))))) (nth (setn s.sl q (.one (.lsl t id v 0 l.length))) i) (a.tmps.getD i undef):=hs
  rw[nth_setn] at hs' ⊢
  by_cases h:i=q∧q<s.sl.length
  ·rw[if_pos h] at hs' ⊢
   have hc:=repV_one hs' (by simp)
   have hv1:v=(cx X w β (nthb (setn s.bk id (some (.arr v t l))))).cv id:=by
    show v=ver _ id
    rw[ver_set _ _ _ hid,if_pos rfl];rfl
   obtain⟨base,cap,hu,g1,g2,g3⟩:=lsl_val hc hv1
   refine .inr ?_
   show rep w _ (.sl t) l [_]
   have hsh:l.length≤140737488355328:=S.lens id (.arr v t l) (by show nthb (setn s.bk id (some (.arr v t l))) id=_;rw[hb1,if_pos rfl])
   refine⟨base,cap,by rw[hu],g1,hsh,?_⟩
   by_cases hl0:l=[]
   ·exact .inl hl0
   ·right
    have hln:0<l.length:=List.length_pos_iff.2 hl0
    rcases g3 with rfl |⟨b,arr,e,q1,q2,q3,q4⟩
    ·omega
    rcases S.blocks id (.arr v t l) (by show nthb (setn s.bk id (some (.arr v t l))) id=_;rw[hb1,if_pos rfl]) with⟨p1,p2⟩ |⟨b',arr',e',p1,p2,p3⟩
    ·exact absurd p2 hl0
    obtain rfl:b'=b:=Option.some.inj (p1.symm.trans q1)
    rw[Nat.zero_mul] at q2
    have hA:X.A b':=by
     rcases S.own id b' hl1 q1 with h | h
     ·exact S.fresh b' h
     ·exact absurd h.2 h0
    refine⟨b',0,q2,⟨⟨hlt _ _ q3,fun k hk e=>(hlv k hk).2 (S.inj k id b' (hlv k hk).1 hl1 e q1)⟩,hA⟩,fun j y hy=>?_⟩
    obtain⟨us,k1,k2⟩:=p3 j y hy
    exact⟨us,rep_mono hle.I _ _ _ k1,by rw[Nat.zero_add];exact k2⟩
  ·rw[if_neg h] at hs' ⊢
   exact RepV.mono hle hs'
 ·have hk':nthb (setn s.bk id (some (.dead v))) k=some b:=hk
  rw[hb2] at hk'
  by_cases h:k=id
  ·rw[if_pos h] at hk'
   cases Option.some.inj hk'
   trivial
  ·rw[if_neg h] at hk'
   have hb:nthb (setn s.bk id (some (.arr v t l))) k=some b:=by rw[hb1,if_neg h];exact hk'
   exact RepB.mono hle (hver k) (fun _ _=>rfl) (S.blocks k b hb)
 ·have hk':nthb (setn s.bk id (some (.dead v))) k=some b:=hk
  rw[hb2] at hk'
  by_cases h:k=id
  ·rw[if_pos h] at hk'
   cases Option.some.inj hk'
   trivial
  ·rw[if_neg h] at hk'
   exact S.lens k b (by show nthb (setn s.bk id (some (.arr v t l))) k=_;rw[hb1,if_neg h];exact hk')
 ·have hl':=hlv 0 hl
  exact S.hist hl'.1 ((hver 0).symm.trans hv)
theorem sound_builtin (hT:∀t,TyOK P t (TI t)) {o:Oper} {c:Call} {b:Builtin} (ho:o.op= .call c) (hc:c.callee= .builtin b) (hd:o.dst≠none):Sound P (env P) TI o:=by
 intro w0 X β s a w S f h N Q hN
 simp only[aop,ho,hc] at h
 rcases abuiltinS_iff.1 h with h |⟨hb,h⟩
 ·exact sound_builtin0 hT ho hc hd S h hN
 ·obtain⟨g,h1,h2⟩:=abuiltin_split (fun t l hl=>absurd (append_args hb h) (by rw[hl];exact (by decide:¬(1=2)))) h
  obtain⟨t,id,v,n,l,hg,h0,hn,hK,_⟩:=sealE_out h2
  subst hn
  obtain⟨q,hq⟩:=Option.ne_none_iff_exists'.1 hd
  rw[hq] at hN
  refine sound_builtin0 hT ho hc hd S (h1 _ rfl) (fun β' a' w' S'=>hN β' a' w' ?_)
  rw[hq,hg] at S'
  rw[←hK]
  by_cases hid:id<s.bk.length
  ·exact S'.seal hid h0
  ·have hid':s.bk.length≤id:=Nat.le_of_not_lt hid
   have hdq:dstOf o=q:=by simp[dstOf,hq]
   rcases append_id hb (h1 _ rfl) (by rw[hg]) with e |⟨x,hx⟩
   ·have hq1:s.sl.length≤q:=by
     have e1:=S.len;have e2:=S.lenb
     omega
    have e1:∀(f:Eff) (B:Blk),f.ws=[(id,B)]→s.app (some q) f=s:=fun f B hf=>by
     unfold St.app
     rw[hf]
     simp only[putD,putWs,setn_ge _ _ _ hq1,setn_ge _ _ _ hid']
    rw[e1 _ _ rfl] at S'
    rw[e1 _ _ rfl]
    exact S'
   ·rw[nthb_ge _ _ hid'] at hx
    cases hx
theorem sound_op (hT:∀t,TyOK P t (TI t)) (o:Oper) (hd:dstB o=true):Sound P (env P) TI o:=by
 unfold dstB at hd
 have ds:o.dst.isSome=true→o.dst≠none:=fun h e=>by simp[e] at h
 cases ho:o.op <;> simp only[ho] at hd
 case move x=>(intro w0 X β s a w S f h N Q hN;exact sound_move ho S h hN)
 case assign x=>(intro w0 X β s a w S f h N Q hN;exact sound_assign ho S h hN)
 case nilCheck x=>(intro w0 X β s a w S f h N Q hN;exact sound_nilCheck ho S h hN)
 case pick c x y=>(intro w0 X β s a w S f h N Q hN;exact sound_pick ho S h hN)
 case alloc t=>(intro w0 X β s a w S f h N Q hN;exact sound_alloc hT ho (ds hd) S h hN)
 case box t x=>(intro w0 X β s a w S f h N Q hN;exact sound_box ho (ds hd) S h hN)
 case extract x i=>(intro w0 X β s a w S f h N Q hN;exact sound_extract ho S h hN)
 case load t x=>(intro w0 X β s a w S f h N Q hN;exact sound_load hT ho S h hN)
 case store t p x=>(intro w0 X β s a w S f h N Q hN;exact sound_store hT ho S h hN)
 case fieldAddr t x i=>(intro w0 X β s a w S f h N Q hN;exact sound_fieldAddr hT ho S h hN)
 case field t x i=>(intro w0 X β s a w S f h N Q hN;exact sound_field hT ho S h hN)
 case build t ps=>(intro w0 X β s a w S f h N Q hN;exact sound_build hT ho S h hN)
 case buildSlice t n ps=>(intro w0 X β s a w S f h N Q hN;exact sound_buildSlice hT ho (ds hd) S h hN)
 case makeSlice t x y=>(intro w0 X β s a w S f h N Q hN;exact sound_makeSlice hT ho (ds hd) S h hN)
 case indexAddr t x i=>(intro w0 X β s a w S f h N Q hN;exact sound_indexAddr hT ho S h hN)
 case slice t x lo hi mx=>(intro w0 X β s a w S f h N Q hN;exact sound_slice hT ho S h hN)
 case binOp op t x y t'=>(intro w0 X β s a w S f h N Q hN;exact sound_binOp hT ho S h hN)
 case unOp op t x=>(intro w0 X β s a w S f h N Q hN;exact sound_unOp ho S h hN)
 case convert src dst x=>(intro w0 X β s a w S f h N Q hN;exact sound_convert hT ho S h hN)
 case call c=>
  cases hc:c.callee with
  | builtin b=>simp only[hc] at hd;(intro w0 X β s a w S f h N Q hN;exact sound_builtin hT ho hc (ds hd) S h hN)
  | value f=>(intro w0 X β s a w S f h N Q hN;exact sound_acall o ho hc S h hN)
  | invoke _ _=>intro w0 X β s a w S f h N Q hN;simp only[aop,ho,hc] at h
 all_goals (intro w0 X β s a w S f h N Q hN;simp only[aop,ho] at h)
end
section
variable {P:Program} {E:Env} {TI:TypeId→Info}
def opOK (E:Env) (TI:TypeId→Info) (all:List Oper) (o:Oper) (f:Eff) (s:St):Prop:=
 match o.guard with
 | none=>aop E TI o (dstOf o) (ev s.sl) (nthb s.bk) (fun g=>g=f)
 | some (j,w)=>∃g,gslot all j=some g∧
  ((nth s.sl g= .one (.bool w)∧aop E TI o (dstOf o) (ev s.sl) (nthb s.bk) (fun g=>g=f))∨
    ((nth s.sl g= .one (.bool (!w))∨nth s.sl g= .tup [])∧f=⟨.tup [],[],[]⟩))
def chain (E:Env) (TI:TypeId→Info) (all:List Oper):List Oper→List Eff→St→Prop
 | [],[],_=>True
 | o::r,f::fs,s=>opOK E TI all o f s∧chain E TI all r fs (s.app o.dst f)
 | _,_,_=>False
def fin:List Oper→List Eff→St→St
 | o::r,f::fs,s=>fin r fs (s.app o.dst f)
 | _,_,s=>s
def trOf (f:Eff):List Nat×List Nat:=(f.rd,f.ws.map (·.1))
theorem wp_ex {o:Oper} {a:Act} {w:World} {N:Act→World→Prop} (h:o.wp P a w N (fun _ _ _=>False)):∃a' w',N a' w':=by
 unfold Oper.wp at h
 generalize (execOp a.eval o).run P w=r at h
 unfold Oper.upon at h
 split at h
 ·exact⟨_,_,h⟩
 ·exact⟨_,_,h⟩
 ·exact⟨_,_,h⟩
 ·obtain⟨e,w',fr,hR,_⟩:=h []
  cases e with
  | returned v=>exact⟨_,_,hR⟩
  | panicked _=>exact hR.elim
  | outgrown=>obtain⟨_,_,h⟩:=hR;exact h.elim
 ·obtain⟨v,w',hR,_⟩:=h default []
  exact⟨_,_,hR⟩
 ·exact h.elim
 ·exact h.elim
theorem bool_slot {w0:World} {X:WX} {β:Nat→Option Nat} {s:St} {a:Act} {w:World} (S:SimB w0 X β s a w) {g:Nat} {b:Bool} (h:nth s.sl g= .one (.bool b)):a.tmps[g]? =some (.bool b):=by
 have h1:=S.slots g
 rw[h] at h1
 have h2:a.tmps.getD g undef= .bool b:=repV_one h1 (by simp)
 rcases Nat.lt_or_ge g a.tmps.size with h3 | h3
 ·simp[Array.getD,h3] at h2
  simp[h3,h2]
 ·simp[Array.getD,Nat.not_lt.2 h3,undef] at h2
theorem op_step {ops:Array Oper} {o:Oper} (hs:Sound P E TI o) {w0:World} {X:WX} {β:Nat→Option Nat} {s:St} {a:Act} {w:World} (S:SimB w0 X β s a w) {f:Eff} (h:opOK E TI ops.toList o f s)
  {N:Act→World→Prop} {Q:Exit→Act→World→Prop} (hN:∀β' a' w',SimB w0 X β' (s.app o.dst f) a' w'→N a' w'):
  if Region.wanted o (yielded ops a.tmps) then o.wp P a w N Q else N (a.put o.dst undef) w:=by
 unfold opOK at h
 split at h
 ·rename_i hg
  simp only[Region.wanted,hg,if_true]
  exact hs S h hN
 ·rename_i j want hg
  obtain⟨g,h1,h3⟩:=h
  have h1':(ops[j]?).bind (·.dst)=some g:=by simpa [gslot] using h1
  rcases h3 with⟨h2,h3⟩ |⟨h2,rfl⟩
  ·have hy:yielded ops a.tmps j=some want:=by simp[yielded,h1',bool_slot S h2]
   simp only[Region.wanted,hg,hy,beq_self_eq_true,if_true]
   exact hs S h3 hN
  ·have hy:(yielded ops a.tmps j==some want)=false:=by
    rcases h2 with h2 | h2
    ·have hy:yielded ops a.tmps j=some (!want):=by simp[yielded,h1',bool_slot S h2]
     rw[hy];cases want <;> rfl
    ·have hy:yielded ops a.tmps j=none:=by
      have h4:=S.slots g
      rw[h2] at h4
      obtain⟨arr,h5,_⟩:=h4
      have h5:a.tmps.getD g undef= .tuple arr:=h5
      unfold yielded
      simp only[h1',Option.bind_some]
      rcases Nat.lt_or_ge g a.tmps.size with h6 | h6
      ·simp[Array.getD,h6] at h5
       simp[h6,h5]
      ·simp[h6]
     rw[hy];rfl
   simp only[Region.wanted,hg,hy,Bool.false_eq_true,if_false]
   exact hN β _ w (S.val ⟨#[],rfl,trivial⟩)
theorem opOK_ex {ops:Array Oper} {o:Oper} (hs:Sound P E TI o) {w0:World} {X:WX} {β:Nat→Option Nat} {s:St} {a:Act} {w:World} (S:SimB w0 X β s a w) {f:Eff} (h:opOK E TI ops.toList o f s):
  ∃β' a' w',SimB w0 X β' (s.app o.dst f) a' w':=by
 have:=op_step (N:=fun a' w'=>∃β',SimB w0 X β' (s.app o.dst f) a' w') (Q:=fun _ _ _=>False) hs S h fun β' a' w' h=>⟨β',h⟩
 split at this
 ·obtain⟨a',w',β',h⟩:=wp_ex this;exact⟨β',a',w',h⟩
 ·obtain⟨β',h⟩:=this;exact⟨β',_,_,h⟩
theorem sl_short {w0:World} {X:WX} {β:Nat→Option Nat} {s:St} {a:Act} {w:World} (S:SimB w0 X β s a w) (x:Operand) (t:T) (l:List (el t)) (h:ev s.sl x= .one (.sl t l)):l.length≤140737488355328:=by
 have h1:=ev_rep S.slots x
 rw[h] at h1
 obtain⟨_,_,_,_,h2,_⟩:=repV_one h1 (by simp)
 exact h2
theorem runOps_chain {ops:Array Oper} {draw:Bool} {w0:World} {X:WX} {Q:St→Prop}:∀{r:List Oper} {tr:Tr} {β:Nat→Option Nat} {s:St} {a:Act} {w:World},(∀o∈r,Sound P E TI o)→SimB w0 X β s a w→
  runOps E TI ops.toList draw r tr Q s→∃fs,chain E TI ops.toList r fs s∧Q (fin r fs s)∧(draw=true→okDraw ops.toList (tr.reverse++fs.map trOf)=true)
 | [],tr,β,s,a,w,_,_,h=>by
  refine⟨[],trivial,?_,?_⟩
  ·cases draw
   ·exact h
   ·exact h.2
  ·rintro rfl;simpa using h.1 ()
 | o::r,tr,β,s,a,w,hs,S,h=>by
  have go:∀f,opOK E TI ops.toList o f s→runOps E TI ops.toList draw r (trOf f::tr) Q (s.app o.dst f)→
    ∃fs,chain E TI ops.toList (o::r) fs s∧Q (fin (o::r) fs s)∧(draw=true→okDraw ops.toList (tr.reverse++fs.map trOf)=true):=by
   intro f h1 h2
   obtain⟨β',a',w',S'⟩:=opOK_ex (hs o (by simp)) S h1
   obtain⟨fs,g1,g2,g3⟩:=runOps_chain (fun o ho=>hs o (by simp[ho])) S' h2
   exact⟨f::fs,⟨h1,g1⟩,g2,fun hd=>by have:=g3 hd;simpa using this⟩
  unfold runOps at h
  split at h
  ·rename_i hg
   obtain⟨f,h1,h2⟩:=aop_split (sl_short S) h
   exact go f (by unfold opOK;rw[hg];exact h1 _ rfl) h2
  ·rename_i j want hg
   split at h
   ·exact h.elim
   ·rename_i g hgs
    split at h
    ·rename_i hb
     obtain⟨f,h1,h2⟩:=aop_split (sl_short S) h
     exact go f (by unfold opOK;rw[hg];exact⟨g,hgs,.inl ⟨hb,h1 _ rfl⟩⟩) h2
    ·rename_i hb
     obtain⟨f,h1,h2⟩:=aop_split (sl_short S) h
     exact go f (by unfold opOK;rw[hg];exact⟨g,hgs,.inl ⟨hb,h1 _ rfl⟩⟩) h2
    ·rename_i hb
     exact go ⟨.tup [],[],[]⟩ (by unfold opOK;rw[hg];exact⟨g,hgs,.inr ⟨.inl hb,rfl⟩⟩) h
    ·rename_i hb
     exact go ⟨.tup [],[],[]⟩ (by unfold opOK;rw[hg];exact⟨g,hgs,.inr ⟨.inl hb,rfl⟩⟩) h
    ·rename_i hb
     exact go ⟨.tup [],[],[]⟩ (by unfold opOK;rw[hg];exact⟨g,hgs,.inr ⟨.inr hb,rfl⟩⟩) h
    ·exact h.elim
theorem wpOps_chain {ops:Array Oper} {w0:World} {X:WX} {Q:Exit→Act→World→Prop}:∀{r:List Oper} {fs:List Eff} {k:Nat} {β:Nat→Option Nat} {s:St} {a:Act} {w:World},(∀j,ops[k+j]? =r[j]?)→(∀o∈r,Sound P E TI o)→SimB w0 X β s a w→
  chain E TI ops.toList r fs s→(∀β a w,SimB w0 X β (fin r fs s) a w→Q .normal a w)→wpOps P ops Q (List.range' k r.length) a w
 | [],[],k,β,s,a,w,_,_,S,_,hQ=>hQ β a w S
 | o::r,f::fs,k,β,s,a,w,hk,hs,S,hc,hQ=>by
  have h0:ops[k]? =some o:=by simpa using hk 0
  have:=op_step (Q:=Q) (N:=wpOps P ops Q (List.range' (k+1) r.length)) (hs o (by simp)) S hc.1 fun β' a' w' S'=>
   wpOps_chain (fun j=>by have:=hk (j+1);rw[show k+1+j=k+(j+1) by omega];simpa using this) (fun o ho=>hs o (by simp[ho])) S' hc.2 hQ
  simp only[List.length_cons,List.range'_succ,wpOps,h0]
  split
  ·rename_i hw;rw[if_pos hw] at this;exact .inl this
  ·rename_i hw;rw[if_neg hw] at this;exact this
 | [],_::_,_,_,_,_,_,_,_,_,h,_=>h.elim
 | _::_,[],_,_,_,_,_,_,_,_,h,_=>h.elim
end
end Go.Abs
namespace Go.Abs
open Go.RowKit
section
variable {P:Program} {E:Env} {TI:TypeId→Info}
def run (m:Nat→Bool):Nat→List Oper→List Eff→St→St
 | k,o::r,f::fs,s=>run m (k+1) r fs (if m k then s.app o.dst f else s)
 | _,_,_,s=>s
theorem run_all {m:Nat→Bool}:∀{r:List Oper} {fs:List Eff} {k:Nat} {s:St},(∀j,k≤j→j<k+r.length→m j=true)→run m k r fs s=fin r fs s
 | o::r,f::fs,k,s,h=>by
  simp only[run,fin]
  rw[h k (Nat.le_refl _) (by simp),if_pos rfl]
  exact run_all fun j h1 h2=>h j (by omega) (by simp;omega)
 | [],_,_,_,_=>rfl
 | _::_,[],_,_,_=>rfl
theorem nth_app (s:St) (d:Option Nat) (f:Eff) (x:Nat) (h:d≠some x):nth (s.app d f).sl x=nth s.sl x:=by
 cases d with
 | none=>rfl
 | some q=>
  show nth (setn s.sl q f.v) x=_
  rw[nth_setn,if_neg]
  rintro⟨rfl,_⟩;exact h rfl
theorem len_app (s:St) (d:Option Nat) (f:Eff):(s.app d f).sl.length=s.sl.length:=by
 cases d with
 | none=>rfl
 | some q=>exact length_setn _ _ _
theorem len_putWs:∀(ws:List (Nat×Blk)) (l:List (Option Blk)),(putWs ws l).length=l.length
 | [],_=>rfl
 | p::ws,l=>by rw[putWs,len_putWs ws,length_setn]
theorem nthb_putWs:∀(ws:List (Nat×Blk)) (l:List (Option Blk)) (x:Nat),x ∉ ws.map (·.1)→nthb (putWs ws l) x=nthb l x
 | [],_,_,_=>rfl
 | p::ws,l,x,h=>by
  rw[putWs,nthb_putWs ws _ x (fun h'=>h (by simp at h' ⊢;exact .inr h')),nthb_setn,if_neg]
  rintro⟨rfl,_⟩;exact h (by simp)
theorem nthb_putWs2:∀(ws:List (Nat×Blk)) (l l':List (Option Blk)) (x:Nat),l.length=l'.length→nthb l x=nthb l' x→nthb (putWs ws l) x=nthb (putWs ws l') x
 | [],_,_,_,_,h=>h
 | p::ws,l,l',x,hl,h=>nthb_putWs2 ws _ _ x (by simp[length_setn,hl]) (by rw[nthb_setn,nthb_setn,hl,h])
theorem run_sl {m1 m2:Nat→Bool} {x:Nat}:∀{r:List Oper} {fs:List Eff} {k:Nat} {s s':St},(∀j o,r[j]? =some o→m1 (k+j)≠m2 (k+j)→o.dst≠some x)→nth s.sl x=nth s'.sl x→s.sl.length=s'.sl.length→
  nth (run m1 k r fs s).sl x=nth (run m2 k r fs s').sl x
 | o::r,f::fs,k,s,s',h,h1,h2=>by
  have h0:=h 0 o rfl
  simp only[Nat.add_zero] at h0
  have tl:∀j o',r[j]? =some o'→m1 (k+1+j)≠m2 (k+1+j)→o'.dst≠some x:=fun j o' hj hm=>h (j+1) o' (by simpa using hj) (by rw[show k+(j+1)=k+1+j by omega];exact hm)
  simp only[run]
  cases hm1:m1 k <;> cases hm2:m2 k <;> simp only[Bool.false_eq_true,if_true,if_false]
  ·exact run_sl tl h1 h2
  ·exact run_sl tl (by rw[nth_app _ _ _ _ (h0 (by simp[hm1,hm2]))];exact h1) (by rw[len_app];exact h2)
  ·exact run_sl tl (by rw[nth_app _ _ _ _ (h0 (by simp[hm1,hm2]))];exact h1) (by rw[len_app];exact h2)
  ·refine run_sl tl ?_ (by rw[len_app,len_app];exact h2)
   cases hd:o.dst with
   | none=>exact h1
   | some q=>show nth (setn _ _ _) _=nth (setn _ _ _) _;rw[nth_setn,nth_setn,h2,h1]
 | [],_,_,_,_,_,h1,_=>h1
 | _::_,[],_,_,_,_,h1,_=>h1
theorem run_bk {m1 m2:Nat→Bool} {x:Nat}:∀{r:List Oper} {fs:List Eff} {k:Nat} {s s':St},(∀j f,fs[j]? =some f→m1 (k+j)≠m2 (k+j)→x ∉ f.ws.map (·.1))→nthb s.bk x=nthb s'.bk x→s.bk.length=s'.bk.length→
  nthb (run m1 k r fs s).bk x=nthb (run m2 k r fs s').bk x
 | o::r,f::fs,k,s,s',h,h1,h2=>by
  have h0:=h 0 f rfl
  simp only[Nat.add_zero] at h0
  have tl:∀j f',fs[j]? =some f'→m1 (k+1+j)≠m2 (k+1+j)→x ∉ f'.ws.map (·.1):=fun j o' hj hm=>h (j+1) o' (by simpa using hj) (by rw[show k+(j+1)=k+1+j by omega];exact hm)
  simp only[run]
  cases hm1:m1 k <;> cases hm2:m2 k <;> simp only[Bool.false_eq_true,if_true,if_false]
  ·exact run_bk tl h1 h2
  ·exact run_bk tl (by show _=nthb (putWs _ _) _;rw[nthb_putWs _ _ _ (h0 (by simp[hm1,hm2]))];exact h1) (by show _=(putWs _ _).length;rw[len_putWs];exact h2)
  ·exact run_bk tl (by show nthb (putWs _ _) _=_;rw[nthb_putWs _ _ _ (h0 (by simp[hm1,hm2]))];exact h1) (by show (putWs _ _).length=_;rw[len_putWs];exact h2)
  ·exact run_bk tl (nthb_putWs2 _ _ _ _ h2 h1) (by show (putWs _ _).length=(putWs _ _).length;rw[len_putWs,len_putWs];exact h2)
 | [],_,_,_,_,_,h1,_=>h1
 | _::_,[],_,_,_,_,h1,_=>h1
theorem setn_comm {α:Type}:∀(l:List α) (i j:Nat) (x y:α),i≠j→setn (setn l i x) j y=setn (setn l j y) i x
 | [],_,_,_,_,_=>rfl
 | _::_,0,0,_,_,h=>(h rfl).elim
 | _::_,0,_+1,_,_,_=>rfl
 | _::_,_+1,0,_,_,_=>rfl
 | _::l,i+1,j+1,x,y,h=>by simp[setn,setn_comm l i j x y (by omega)]
theorem putWs_setn:∀(ws:List (Nat×Blk)) (l:List (Option Blk)) (i:Nat) (b:Option Blk),i ∉ ws.map (·.1)→putWs ws (setn l i b)=setn (putWs ws l) i b
 | [],_,_,_,_=>rfl
 | p::ws,l,i,b,h=>by
  rw[putWs,putWs,setn_comm _ _ _ _ _ (fun e=>h (by simp[e])),putWs_setn ws _ i b (fun h'=>h (by simp at h' ⊢;exact .inr h'))]
theorem putWs_comm:∀(ws ws':List (Nat×Blk)) (l:List (Option Blk)),(∀x∈ws.map (·.1),x ∉ ws'.map (·.1))→putWs ws' (putWs ws l)=putWs ws (putWs ws' l)
 | [],_,_,_=>rfl
 | p::ws,ws',l,h=>by
  rw[putWs,putWs,putWs_comm ws ws' _ (fun x hx=>h x (by simp at hx ⊢;exact .inr hx)),putWs_setn ws' l p.1 _ (h p.1 (by simp))]
theorem app_comm {s:St} {d d':Option Nat} {f f':Eff} (h1:∀q,d=some q→d'≠some q) (h2:∀x∈f.ws.map (·.1),x ∉ f'.ws.map (·.1)):(s.app d f).app d' f'=(s.app d' f').app d f:=by
 have e1:putD (putD s.sl d f.v) d' f'.v=putD (putD s.sl d' f'.v) d f.v:=by
  cases d with
  | none=>rfl
  | some q=>cases d' with
   | none=>rfl
   | some q'=>exact setn_comm _ _ _ _ _ fun e=>h1 q rfl (by rw[e])
 show St.mk _ _=St.mk _ _
 rw[St.mk.injEq]
 exact⟨e1,putWs_comm _ _ _ h2⟩
theorem run_tail {m m':Nat→Bool} {i:Nat} {o:Oper} {f:Eff}:∀{r:List Oper} {fs:List Eff} {k:Nat} {s:St},i<k→(∀j,j≠i→m' j=m j)→
  (∀j oj fj,r[j]? =some oj→fs[j]? =some fj→m (k+j)=true→(∀q,oj.dst=some q→o.dst≠some q)∧(∀x∈fj.ws.map (·.1),x ∉ f.ws.map (·.1)))→
  (run m k r fs s).app o.dst f=run m' k r fs (s.app o.dst f)
 | oj::r,fj::fs,k,s,hik,hm,hap=>by
  simp only[run,hm k (by omega)]
  have tl:∀j oj' fj',r[j]? =some oj'→fs[j]? =some fj'→m (k+1+j)=true→(∀q,oj'.dst=some q→o.dst≠some q)∧(∀x∈fj'.ws.map (·.1),x ∉ f.ws.map (·.1)):=
   fun j oj' fj' h1 h2 h3=>hap (j+1) oj' fj' (by simpa using h1) (by simpa using h2) (by rw[show k+(j+1)=k+1+j by omega];exact h3)
  cases hk:m k <;> simp only[Bool.false_eq_true,if_true,if_false]
  ·exact run_tail (by omega) hm tl
  ·have:=hap 0 oj fj rfl rfl (by simpa using hk)
   rw[run_tail (m':=m') (by omega) hm tl,app_comm this.1 this.2]
 | [],_,_,_,_,_,_=>rfl
 | _::_,[],_,_,_,_,_=>rfl
theorem run_ins {m m':Nat→Bool} {i:Nat} {o:Oper} {f:Eff}:∀{r:List Oper} {fs:List Eff} {k j0:Nat} {s:St},i=k+j0→r[j0]? =some o→fs[j0]? =some f→m i=false→m' i=true→(∀j,j≠i→m' j=m j)→
  (∀j oj fj,j0<j→r[j]? =some oj→fs[j]? =some fj→m (k+j)=true→(∀q,oj.dst=some q→o.dst≠some q)∧(∀x∈fj.ws.map (·.1),x ∉ f.ws.map (·.1)))→
  (run m k r fs s).app o.dst f=run m' k r fs s
 | oj::r,fj::fs,k,0,s,hi,h1,h2,hm,hm',hne,hap=>by
  simp at h1 h2
  subst h1 h2
  simp only[Nat.add_zero] at hi
  subst hi
  simp only[run,hm,hm',Bool.false_eq_true,if_true,if_false]
  exact run_tail (Nat.lt_succ_self _) hne fun j oj' fj' q1 q2 q3=>hap (j+1) oj' fj' (by omega) (by simpa using q1) (by simpa using q2) (by rw[show i+(j+1)=i+1+j by omega];exact q3)
 | oj::r,fj::fs,k,j0+1,s,hi,h1,h2,hm,hm',hne,hap=>by
  simp only[run,hne k (by omega)]
  exact run_ins (j0:=j0) (by omega) (by simpa using h1) (by simpa using h2) hm hm' hne fun j oj' fj' q0 q1 q2 q3=>hap (j+1) oj' fj' (by omega) (by simpa using q1) (by simpa using q2) (by rw[show k+(j+1)=k+1+j by omega];exact q3)
 | [],_,_,_,_,_,h1,_,_,_,_,_=>by simp at h1
 | _::_,[],_,_,_,_,_,h2,_,_,_,_=>by simp at h2
theorem chain_at {all:List Oper}:∀{r:List Oper} {fs:List Eff} {k j:Nat} {s:St} {o:Oper},chain E TI all r fs s→r[j]? =some o→∃f,fs[j]? =some f∧opOK E TI all o f (run (fun t=>decide (t<k+j)) k r fs s)
 | oj::r,fj::fs,k,0,s,o,hc,h=>by
  simp at h
  subst h
  refine⟨fj,rfl,?_⟩
  have:run (fun t=>decide (t<k+0)) k (oj::r) (fj::fs) s=s:=by
   have e:∀(r:List Oper) (fs:List Eff) (k':Nat) (s:St),k≤k'→run (fun t=>decide (t<k+0)) k' r fs s=s:=by
    intro r
    induction r with
    | nil=>intro fs k' s _;cases fs <;> rfl
    | cons o r ih=>
     intro fs k' s hk
     cases fs with
     | nil=>rfl
     | cons f fs=>simp only[run];rw[if_neg (by simp;omega)];exact ih fs (k'+1) s (by omega)
   exact e _ _ _ _ (Nat.le_refl _)
  rw[this];exact hc.1
 | oj::r,fj::fs,k,j+1,s,o,hc,h=>by
  obtain⟨f,h1,h2⟩:=chain_at (k:=k+1) hc.2 (show r[j]? =some o by simpa using h)
  refine⟨f,by simpa using h1,?_⟩
  simp only[run]
  rw[if_pos (by simp),show k+(j+1)=k+1+j by omega]
  exact h2
 | [],[],_,_,_,_,_,h=>by simp at h
 | [],_::_,_,_,_,_,h,_=>h.elim
 | _::_,[],_,_,_,_,h,_=>h.elim
theorem chain_len {all:List Oper}:∀{r:List Oper} {fs:List Eff} {s:St},chain E TI all r fs s→fs.length=r.length
 | [],[],_,_=>rfl
 | _::_,_::_,_,h=>by simp[chain_len h.2]
 | [],_::_,_,h=>h.elim
 | _::_,[],_,h=>h.elim
theorem opOK_congr {all:List Oper} {o:Oper} {f:Eff} {s s':St} (h1:∀x∈onames all o,nth s.sl x=nth s'.sl x) (h2:∀x∈f.rd,nthb s.bk x=nthb s'.bk x) (h:opOK E TI all o f s):opOK E TI all o f s':=by
 have he:∀x∈o.op.operands,ev s.sl x=ev s'.sl x:=fun x hx=>by
  cases x with
  | tmp t=>exact h1 t (by
   unfold onames otmps
   refine List.mem_append_left _ (List.mem_append_right _ (List.mem_filterMap.2 ⟨.tmp t,by simpa using hx,rfl⟩)))
  | _=>rfl
 have hop:aop E TI o (dstOf o) (ev s.sl) (nthb s.bk) (fun g=>g=f)→aop E TI o (dstOf o) (ev s'.sl) (nthb s'.bk) (fun g=>g=f):=fun h=>aop_bk h2 (aop_e he h)
 unfold opOK at h ⊢
 split at h
 ·rename_i hg;exact hop h
 ·rename_i j want hg
  obtain⟨g,g1,g3⟩:=h
  refine⟨g,g1,?_⟩
  rw[←h1 g (by unfold onames;rw[hg];simp[g1])]
  exact g3.imp (fun q=>⟨q.1,hop q.2⟩) id
end
end Go.Abs
