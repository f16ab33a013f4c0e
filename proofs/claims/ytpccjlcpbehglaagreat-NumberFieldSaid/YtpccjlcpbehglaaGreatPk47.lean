/- Part 48 of a proof. Conditions: each theorem's own. -/
import Derived.Test.YtpccjlcpbehglaaGreatPk46
set_option linter.all false
set_option maxHeartbeats 8000000
open Go.Proofs
namespace Go.Abs
open Go.RowKit
variable {R i:Nat} {c:Bool} {u w:List (List Rat)}
theorem take_eq_snoc {α:Type} {X Y:List α} {x y:α} (hx:X[i]? =some x) (hy:Y[i]? =some y) (h:X.take i=Y.take i) (e:x=y):X.take (i+1)=Y.take (i+1):=by
 rw[take_snoc hx,take_snoc hy,h,e]
theorem take_ne {α:Type} {X Y:List α} {n:Nat} {x y:α} (hx:X[i]? =some x) (hy:Y[i]? =some y) (hn:i<n) (e:x≠y):X.take n≠Y.take n:=by
 intro h
 apply e
 have h1:(X.take n)[i]? =(Y.take n)[i]? :=by rw[h]
 rw[List.getElem?_take,List.getElem?_take,if_pos hn,if_pos hn,hx,hy] at h1
 exact Option.some.inj h1
theorem Ysame_ok {X Y:LR} {xs ys:List Rat} (hX:X=rps xs) (hY:Y=rps ys) (hs:Smalls xs) (ht:Smalls ys) (hc:c=decide (X=Y)):CF 153 [.one (.sl tRat X),.one (.sl tRat Y)] (.one (.bool c)):=by
 refine acall_fn Tryz.func153 (by kernel_rfl) rfl fun E hE=>?_
 conv=>cbv
 intro n7 h7;have e7:=h7.eq;have f7:=h7.le;conv=>cbv
 intro n9 h9;have e9:=h9.eq;have f9:=h9.le;conv=>cbv
 intro n10 h10;conv=>cbv
 cases n10 <;> conv=>cbv
 ·have k10:=neq_f h10
  refine .inr ?_
  obtain⟨J0,hJ0⟩:∃J:List AV→List Blk→Nat→Prop,J=fun vs bl k=>∃(i':Nat) (i:Int),vs=[.one (.sl tRat X),.one (.sl tRat Y),.one (.int .i64 i)]∧(NatIs i i'∧i'≤Y.length∧Y.length≤X.length)∧X.take i'=Y.take i'∧k=Y.length-i':=⟨_,rfl⟩
  refine⟨[0,1,5],[],J0,⟨Y.length-0,by rw[hJ0];exact⟨0,0,rfl,⟨natIs 0,by omega,by omega⟩,rfl,rfl⟩⟩,?_⟩
  intro vs bl kk0 hj;rw[hJ0] at hj
  obtain⟨i',i,rfl,⟨hi,hiL,hXY⟩,hinv,hk0⟩:=hj
  conv=>cbv
  have ei:=hi.eq
  intro n13 h13;have e13:=h13.eq;have f13:=h13.le;conv=>cbv
  intro n14 h14;conv=>cbv
  cases n14 <;> conv=>cbv
  ·have k14:=lss_f h14
   have hl:X.length=Y.length:=by omega
   exact fA ⟨⟨rfl,congrArg _ (by rw[hc,decide_eq_true];have:=hinv;rwa [List.take_of_length_le (by omega),List.take_of_length_le (by omega)] at this),trivial⟩,trivial⟩ rfl (by simp)
  ·have k14:=lss_t h14
   refine .inr ?_
   obtain⟨x19,hx19⟩:=get_ex (l:=X) (i:=i') (by omega)
   refine⟨x19,fun _=>⟨by omega,by rw[show (i).toNat=i' by omega];exact hx19⟩,?_⟩
   try conv=>cbv
   obtain⟨x23,hx23⟩:=get_ex (l:=Y) (i:=i') (by omega)
   refine⟨x23,fun _=>⟨by omega,by rw[show (i).toNat=i' by omega];exact hx23⟩,?_⟩
   try conv=>cbv
   obtain⟨p,hp,hpi,hsp⟩:=get_rp hX hs hx19
   obtain⟨q,hq,hqi,hsq⟩:=get_rp hY ht hx23
   have hxr:x19=rp p:=hp.rp.symm
   have hyr:x23=rp q:=hq.rp.symm
   obtain⟨r25,hr25⟩:∃z:Int,z=cmpQ p q:=⟨_,rfl⟩
   refine cA hE (YRCmp_ok hp hq hsp hsq hr25) ?_
   try conv=>cbv
   intro n26 h26;conv=>cbv
   refine⟨fun _=>rfl,?_⟩
   cases n26 <;> conv=>cbv
   ·have k26:=neq_f h26
    intro n16 h16;conv=>cbv
    refine⟨fun _=>i64 (by omega),?_⟩
    refine⟨Y.length-(i'+1),?_,?_⟩
    ·omega
    rw[hJ0]
    exact⟨i'+1,n16,rfl,⟨⟨by omega⟩,by omega,hXY⟩,take_eq_snoc hx19 hx23 hinv (by rw[hxr,hyr];congr 1;have:=cmpQ_zero p q;rw[←hr25,show r25=0 by omega] at this;exact of_decide_eq_true this),rfl⟩
   ·have k26:=neq_t h26
    have hne:x19≠x23:=fun e=>by have e2:=rp_inj (hxr.symm.trans (e.trans hyr));have:=cmpQ_zero p q;rw[decide_eq_true e2,←hr25] at this;simp at this;omega
    exact fA ⟨⟨rfl,congrArg _ (by rw[hc,decide_eq_false];intro e;exact take_ne (n:=i'+1) hx19 hx23 (by omega) hne (by rw[e])),trivial⟩,trivial⟩ rfl (by simp)
 ·have k10:=neq_t h10
  exact fA ⟨⟨rfl,congrArg _ (by rw[hc,decide_eq_false];intro e;have:=congrArg List.length e;omega),trivial⟩,trivial⟩ rfl (by simp)
theorem Ybegins_w {X Y:List LR} (hu:Twr R u) (hw:Twr R w) (hX:X=tw u) (hY:Y=tw w) (hc:c=(decide (Y.length≤X.length)&&decide (X.take Y.length=Y))):CF 91 [.one (.sl (.sl tRat) X),.one (.sl (.sl tRat) Y)] (.one (.bool c)):=by
 refine acall_fn Tryz.func91 (by kernel_rfl) rfl fun E hE=>?_
 conv=>cbv
 intro n7 h7;have e7:=h7.eq;have f7:=h7.le;conv=>cbv
 intro n9 h9;have e9:=h9.eq;have f9:=h9.le;conv=>cbv
 intro n10 h10;conv=>cbv
 cases n10 <;> conv=>cbv
 ·have k10:=gtr_f h10
  refine .inr ?_
  obtain⟨J0,hJ0⟩:∃J:List AV→List Blk→Nat→Prop,J=fun vs bl k=>∃(i':Nat) (i:Int),vs=[.one (.sl (.sl tRat) X),.one (.sl (.sl tRat) Y),.one (.int .i64 i)]∧(NatIs i i'∧i'≤Y.length∧Y.length≤X.length)∧X.take i'=Y.take i'∧k=Y.length-i':=⟨_,rfl⟩
  refine⟨[0,1,5],[],J0,⟨Y.length-0,by rw[hJ0];exact⟨0,0,rfl,⟨natIs 0,by omega,by omega⟩,rfl,rfl⟩⟩,?_⟩
  intro vs bl kk0 hj;rw[hJ0] at hj
  obtain⟨i',i,rfl,⟨hi,hiL,hXY⟩,hinv,hk0⟩:=hj
  conv=>cbv
  have ei:=hi.eq
  intro n13 h13;have e13:=h13.eq;have f13:=h13.le;conv=>cbv
  intro n14 h14;conv=>cbv
  cases n14 <;> conv=>cbv
  ·have k14:=lss_f h14
   exact fA ⟨⟨rfl,congrArg _ (by rw[hc,decide_eq_true (show Y.length≤X.length by omega),decide_eq_true];rfl;rw[show Y.length=i' by omega,hinv,List.take_of_length_le (by omega)]),trivial⟩,trivial⟩ rfl (by simp)
  ·have k14:=lss_t h14
   refine .inr ?_
   obtain⟨x19,hx19⟩:=get_ex (l:=X) (i:=i') (by omega)
   refine⟨x19,fun _=>⟨by omega,by rw[show (i).toNat=i' by omega];exact hx19⟩,?_⟩
   try conv=>cbv
   obtain⟨x23,hx23⟩:=get_ex (l:=Y) (i:=i') (by omega)
   refine⟨x23,fun _=>⟨by omega,by rw[show (i).toNat=i' by omega];exact hx23⟩,?_⟩
   try conv=>cbv
   obtain⟨p,hp,hpi⟩:=get_rps hX hx19
   obtain⟨q,hq,hqi⟩:=get_rps hY hx23
   obtain⟨b25,hb25⟩:∃b:Bool,b=decide (x19=x23):=⟨_,rfl⟩
   refine cA hE (Ysame_ok hp hq ((hu.tb p (List.mem_reverse.1 (List.mem_of_getElem? hpi))).smalls hu.hR) ((hw.tb q (List.mem_reverse.1 (List.mem_of_getElem? hqi))).smalls hw.hR) hb25) ?_
   try conv=>cbv
   intro n26 h26;conv=>cbv
   refine⟨fun _=>rfl,?_⟩
   cases n26 <;> conv=>cbv
   ·have k26:=not_f h26
    intro n16 h16;conv=>cbv
    refine⟨fun _=>i64 (by omega),?_⟩
    refine⟨Y.length-(i'+1),?_,?_⟩
    ·omega
    rw[hJ0]
    exact⟨i'+1,n16,rfl,⟨⟨by omega⟩,by omega,hXY⟩,take_eq_snoc hx19 hx23 hinv (of_decide_eq_true (by rw[←hb25];exact not_f h26)),rfl⟩
   ·have k26:=not_t h26
    have hne:x19≠x23:=of_decide_eq_false (by rw[←hb25];exact not_t h26)
    exact fA ⟨⟨rfl,congrArg _ (by rw[hc,decide_eq_false (p:=X.take Y.length=Y),Bool.and_false];intro e;exact take_ne (n:=Y.length) hx19 hx23 (by omega) hne (by rw[e,List.take_length])),trivial⟩,trivial⟩ rfl (by simp)
 ·have k10:=gtr_t h10
  exact fA ⟨⟨rfl,congrArg _ (by rw[hc,decide_eq_false (show ¬Y.length≤X.length by omega)];rfl),trivial⟩,trivial⟩ rfl (by simp)
theorem Ybegins_d {X Y:List LR} (hu:Twr R u) (hw:Twr R w) (hX:X=tw u) (hY:Y=tw w) (h:c=true↔w<:+u):CF 91 [.one (.sl (.sl tRat) X),.one (.sl (.sl tRat) Y)] (.one (.bool c)):=
 Ybegins_w hu hw hX hY (by rw[Bool.eq_iff_iff,h,suffix_tw,Bool.and_eq_true,decide_eq_true_eq,decide_eq_true_eq,hX,hY])
theorem Ylift_ok {T:List LR} {A C:LR} {x:Re} (h:Twr R w) (hT:T=tw w) (hA:A=em u x) (hx:In u x) (hu:u<:+w) (hC:C=em w x):CF 93 [.one (.sl (.sl tRat) T),.one (.sl tRat A)] (.one (.sl tRat C)):=by
 have hTl:T.length=w.length:=by rw[hT,tw_len]
 have hht:=h.ht
 have hAl:A.length=2^u.length:=by rw[hA,em_len hx]
 have hul:=hu.length_le
 have hle:2^u.length≤2^w.length:=pow_le2 hul
 have hp16:=pow16 h.ht
 have hsuf:=em_suffix hu h.red hx
 refine acall_fn Tryz.func93 (by kernel_rfl) rfl fun E hE=>?_
 conv=>cbv
 refine⟨[],fun _=>⟨rfl,by decide,rfl,trivial⟩,.inl ?_⟩
 try conv=>cbv
 refine .inl ⟨A,fun _=>⟨rfl,rfl,rfl,by show (0+A.length)*64≤140737488355328;(try simp only[List.length_take,List.length_drop]);omega⟩,?_⟩
 intro (l8:LR) n8 ql8;have hl8:l8=([]:LR)++(A:LR):=ql8.1;have hn8:n8=List.length (α:=(el tRat)) l8:=ql8.2;conv=>cbv
 refine .inr ?_
 obtain⟨J0,hJ0⟩:∃J:List AV→List Blk→Nat→Prop,J=fun vs bl k=>∃(o:LR) (mm j:Nat),vs=[.one (.sl (.sl tRat) T),.one (.lsl tRat 6 0 0 mm)]∧bl=[.arr 0 tRat o]∧(mm=o.length∧o.length=2^u.length+j∧o.length≤2^w.length)∧o=A++List.replicate j (rp 0)∧k=2^w.length-o.length:=⟨_,rfl⟩
 refine⟨[0,5],[6],J0,⟨2^w.length-l8.length,by rw[hJ0];exact⟨l8,n8,0,rfl,rfl,⟨hn8,by rw[hl8];simp;omega,by rw[hl8];simp;omega⟩,by rw[hl8];simp,rfl⟩⟩,?_⟩
 intro vs bl kk0 hj;rw[hJ0] at hj
 obtain⟨o,mm,j,rfl,rfl,⟨hmm,hoj,hol⟩,hinv,hk0⟩:=hj
 conv=>cbv
 intro n10 h10;have e10:=h10.eq;conv=>cbv
 intro n12 h12;have e12:=h12.eq;have f12:=h12.le;conv=>cbv
 intro n13 h13;conv=>cbv
 refine⟨fun _=>by omega,?_⟩
 have hn13:=(shl_one h13 (e12.trans (congrArg _ hTl)) (by omega)).eq
 intro n14 h14;conv=>cbv
 cases n14 <;> conv=>cbv
 ·have k14:=lss_f h14
  exact fA ⟨⟨rfl,.inl ⟨_,rfl,by omega,congrArg _ (by rw[hC,hmm,List.drop_zero,List.take_length,hinv,hsuf,hA,show j=2^w.length-2^u.length by omega])⟩,trivial⟩,trivial⟩ rfl (by simp)
 ·have k14:=lss_t h14
  refine .inr ?_
  obtain⟨zb16,zl16,yb16,yl16,hz16⟩:=isR_ex (((0:Int):Rat))
  refine cL hE (YRFromInt_ok (by omega) rfl hz16) ⟨rfl,trivial⟩ ?_
  try conv=>cbv
  refine⟨[((zb16,zl16),(yb16,yl16))],fun _=>⟨rfl,by decide,rfl,⟨rfl,by first | exact⟨rfl,trivial⟩ | exact⟨rfl,rfl,trivial⟩ | exact⟨rfl,rfl,rfl,rfl,trivial⟩ | simp[allC,leC,cells],trivial⟩⟩,.inr ?_⟩
  try conv=>cbv
  refine .inl ⟨[((zb16,zl16),(yb16,yl16))],fun _=>⟨rfl,hmm,rfl,by show (o.length+1)*64≤140737488355328;(try simp only[List.length_take,List.length_drop]);omega⟩,?_⟩
  intro (l18:LR) n18 ql18;have hl18:l18=(o:LR)++([((zb16,zl16),(yb16,yl16))]:LR):=ql18.1;have hn18:n18=List.length (α:=(el tRat)) l18:=ql18.2;conv=>cbv
  have hl18l:l18.length=o.length+1:=by rw[hl18];simp
  refine⟨2^w.length-l18.length,?_,?_⟩
  ·omega
  rw[hJ0]
  exact⟨l18,n18,j+1,rfl,rfl,⟨hn18,by omega,by omega⟩,by rw[hl18,hinv,List.replicate_succ',List.append_assoc,←hz16.rp];rfl,rfl⟩
end Go.Abs
namespace Go.Abs
open Go.RowKit
structure GamY (T:List (List Rat)→Prop) (R C S:Nat):Prop extends Gam T R C S where
 fitY:∀{u},T u→FitY u.length R (S+C)
def YImC (S:Nat) (w u:List (List Rat)):Prop:=∀{T RL:List LR} {A C:LR} {x:Re},T=tw w→RootsOK w RL u→A=em u x→El u S x→C=em w x→
 CF 94 [.one (.sl (.sl tRat) T),.one (.sl (.sl tRat) RL),.one (.sl tRat A)] (.one (.sl tRat C))
def YImD (S:Nat) (w u:List (List Rat)):Prop:=∀{T RL:List LR} {A C:LR} {x:Re} {mm:Nat},T=tw w→RootsOK w RL u→mm=RL.length→A=em u x→El u S x→C=em w x→
 DCall Tryz.prog 94 [.one (.sl (.sl tRat) T),.one (.lsl (.sl tRat) 0 0 0 mm),.one (.sl tRat A)] (.arr 0 (.sl tRat) RL) (.one (.sl tRat C))
variable {A C:LR} {K R S mm:Nat} {RL T:List LR} {TT:List (List Rat)→Prop} {p x:Re} {q:Rat} {r:List Rat} {u w:List (List Rat)}
theorem Yimc_base {u:List (List Rat)} {x:Re} (G:Gam TT R K S) (hw:TT w) (hT:T=tw w) (hA:A=em [] (Re.ofRat q)) (hq:SmallQ q) (hC:C=em w (Re.ofRat q)):CF 94 [.one (.sl (.sl tRat) T),.one (.sl (.sl tRat) RL),.one (.sl tRat A)] (.one (.sl tRat C)):=by
 have hA1:A=[rp q]:=hA.trans (em_nil q)
 have hAl:A.length=1:=by rw[hA1];rfl
 refine acall_fn Tryz.func94 (by kernel_rfl) rfl fun E hE=>?_
 conv=>cbv
 intro n12 h12;have e12:=h12.eq;have f12:=h12.le;conv=>cbv
 intro n13 h13;conv=>cbv
 cases n13 <;> conv=>cbv
 ·have k13:=eql_f h13
  exact absurd k13 (by omega)
 ·have k13:=eql_t h13
  obtain⟨x16,hx16⟩:=get_ex (l:=A) (i:=0) (by omega)
  refine⟨x16,fun _=>⟨by omega,hx16⟩,?_⟩
  try conv=>cbv
  refine cA hE (YFromRat_ok (G.twr hw) hT (one_rp hA1 hx16) hC) ?_
  try conv=>cbv
  exact fA ⟨⟨rfl,rfl,trivial⟩,trivial⟩ rfl (by simp)
theorem Yimc_s (G:Gam TT R K S) (hw:TT w) (hT:T=tw w) {q:Re} (hu:TT (r::u)) (hEm:Emb (r::u) w) (ih:YImC S w u) (hR:RootsOK w RL (r::u)) (hA:A=em (r::u) x) (hx:El (r::u) S x) (hxe:x=p+q*rt u r) (hp:El u S p) (hq:El u S q) (hC:C=em w x):CF 94 [.one (.sl (.sl tRat) T),.one (.sl (.sl tRat) RL),.one (.sl tRat A)] (.one (.sl tRat C)):=by
 have hur:=(G.twr hu).red
 have hAl:A.length=2^u.length+2^u.length:=by rw[hA,em_len hx.mem,pow_len]
 have hpp:=pow_pos2 u.length
 have hht:(r::u).length≤8:=G.ht hu
 have hht2:(r::u).length=u.length+1:=rfl
 have hmul:=G.mul hw
 have hroot:El w K (rt u r):=by have:=G.emb hu hw hEm (el_root hur);rwa [Nat.zero_add] at this
 obtain⟨wk,hwk,hrin,hRk⟩:=hR.2
 obtain⟨rk,hrk⟩:∃z:LR,z=em wk (rt u r):=⟨_,rfl⟩
 rw[←hrk] at hRk
 refine acall_fn Tryz.func94 (by kernel_rfl) rfl fun E hE=>?_
 conv=>cbv
 intro n12 h12;have e12:=h12.eq;have f12:=h12.le;conv=>cbv
 intro n13 h13;conv=>cbv
 cases n13 <;> conv=>cbv
 ·have k13:=eql_f h13
  intro n20 h20;have e20:=h20.eq;have f20:=h20.le;conv=>cbv
  intro n21 h21;conv=>cbv
  refine⟨fun _=>⟨by omega,by omega,i64 (by omega)⟩,?_⟩
  refine .inr ?_
  obtain⟨J0,hJ0⟩:∃J:List AV→List Blk→Nat→Prop,J=fun vs bl k=>∃(k':Nat) (hv kk:Int),vs=[.one (.sl (.sl tRat) T),.one (.sl (.sl tRat) RL),.one (.sl tRat A),.one (.int .i64 hv),.one (.int .i64 kk)]∧bl=[]∧(NatIs hv (A.length/2)∧NatIs kk k'∧k'≤u.length)∧k=u.length-k':=⟨_,rfl⟩
  refine⟨[0,1,2,7,8],[],J0,⟨u.length-0,by rw[hJ0];exact⟨0,n21,0,rfl,rfl,⟨⟨by omega⟩,natIs 0,by omega⟩,rfl⟩⟩,?_⟩
  intro vs bl kk0 hj;rw[hJ0] at hj
  obtain⟨k',hv,kk,rfl,rfl,⟨hHv,hKk,hkl⟩,hk0⟩:=hj
  conv=>cbv
  have eHv:=hHv.eq
  have eKk:=hKk.eq
  intro n23 h23;conv=>cbv
  refine⟨fun _=>i64 (by omega),?_⟩
  intro n24 h24;conv=>cbv
  refine⟨fun _=>by omega,?_⟩
  intro n26 h26;have e26:=h26.eq;have f26:=h26.le;conv=>cbv
  have hs24:=(shl_one (k:=k'+1) h24 (by omega) (by omega)).eq
  intro n27 h27;conv=>cbv
  cases n27 <;> conv=>cbv
  ·have k27:=lss_f h27
   have hku:k'=u.length:=by have:=k_ge hAl (show ¬2^(k'+1)<A.length by omega);omega
   intro m34 hm34;conv=>cbv
   refine⟨fun _=>⟨by omega,by omega⟩,?_⟩
   intro b34 hb34;conv=>cbv
   intro l34 hl34;conv=>cbv
   have hl34e:l34=em u p:=by rw[hl34,List.drop_zero,show b34=A.length/2 by omega,hA,em_lo hur hp.mem hq.mem hxe]
   obtain⟨w35,hw35⟩:∃z:LR,z=em w (p):=⟨_,rfl⟩
   refine cA hE (ih hT hR.1 hl34e hp hw35) ?_
   try conv=>cbv
   intro m40 hm40;conv=>cbv
   refine⟨fun _=>⟨by omega,by omega⟩,?_⟩
   rintro a40 b40 ⟨ha40,hb40⟩;conv=>cbv
   intro l40 hl40;conv=>cbv
   have hl40e:l40=em u q:=by rw[hl40,show a40=A.length/2 by omega,hb40,hm40,List.take_length,hA,em_hi hur hp.mem hq.mem hxe]
   obtain⟨w41,hw41⟩:∃z:LR,z=em w (q):=⟨_,rfl⟩
   refine cA hE (ih hT hR.1 hl40e hq hw41) ?_
   try conv=>cbv
   refine⟨fun _=>rfl,?_⟩
   refine⟨rk,fun _=>⟨by omega,by rw[show kk.toNat=u.length by omega];exact hRk⟩,?_⟩
   try conv=>cbv
   obtain⟨w51,hw51⟩:∃z:LR,z=em w (rt u r):=⟨_,rfl⟩
   refine cA hE (Ylift_ok (G.twr hw) hT hrk hrin hwk hw51) ?_
   try conv=>cbv
   obtain⟨w52,hw52⟩:∃z:LR,z=em w (q*rt u r):=⟨_,rfl⟩
   refine cL hE (Ymulv (G.twr hw) hT hw41 hw51 (G.emb (G.sub hu) hw hEm.tail hq) hroot (by omega) hw52) ⟨rfl,rfl,rfl,trivial⟩ ?_
   try conv=>cbv
   refine cL (r:= .one (.sl tRat C)) hE (Yaddv (G.twr hw) hw35 hw52 (G.emb (G.sub hu) hw hEm.tail hp) ((G.emb (G.sub hu) hw hEm.tail hq).mul (G.twr hw) hroot) (by omega) (by omega) (by rw[hC,hxe])) ⟨rfl,rfl,rfl,trivial⟩ ?_
   try conv=>cbv
   exact fA ⟨⟨rfl,rfl,trivial⟩,trivial⟩ rfl (by simp)
  ·have k27:=lss_t h27
   refine .inr ?_
   have hku:k'<u.length:=k_lt hAl (show 2^(k'+1)<A.length by omega)
   intro n29 h29;conv=>cbv
   refine⟨fun _=>i64 (by omega),?_⟩
   refine⟨u.length-(k'+1),?_,?_⟩
   ·omega
   rw[hJ0]
   exact⟨k'+1,hv,n29,rfl,rfl,⟨hHv,⟨by omega⟩,by omega⟩,rfl⟩
 ·have k13:=eql_t h13
  exact absurd k13 (by omega)
theorem Yimd_base {u:List (List Rat)} {x:Re} (hmm:mm=RL.length) (G:Gam TT R K S) (hw:TT w) (hT:T=tw w) (hA:A=em [] (Re.ofRat q)) (hq:SmallQ q) (hC:C=em w (Re.ofRat q)):DCall Tryz.prog 94 [.one (.sl (.sl tRat) T),.one (.lsl (.sl tRat) 0 0 0 mm),.one (.sl tRat A)] (.arr 0 (.sl tRat) RL) (.one (.sl tRat C)):=by
 have hA1:A=[rp q]:=hA.trans (em_nil q)
 have hAl:A.length=1:=by rw[hA1];rfl
 refine dcall_fn Tryz.func94 (by kernel_rfl) rfl fun E hE=>?_
 conv=>cbv
 intro n12 h12;have e12:=h12.eq;have f12:=h12.le;conv=>cbv
 intro n13 h13;conv=>cbv
 cases n13 <;> conv=>cbv
 ·have k13:=eql_f h13
  exact absurd k13 (by omega)
 ·have k13:=eql_t h13
  obtain⟨x16,hx16⟩:=get_ex (l:=A) (i:=0) (by omega)
  refine⟨x16,fun _=>⟨by omega,hx16⟩,?_⟩
  try conv=>cbv
  refine cA hE (YFromRat_ok (G.twr hw) hT (one_rp hA1 hx16) hC) ?_
  try conv=>cbv
  refine fun _=>⟨⟨⟨⟨rfl,rfl,trivial⟩,trivial⟩,rfl,by simp⟩,rfl⟩
theorem Yimd_s (hmm:mm=RL.length) (G:Gam TT R K S) (hw:TT w) (hT:T=tw w) {q:Re} (hu:TT (r::u)) (hEm:Emb (r::u) w) (ih:YImD S w u) (hR:RootsOK w RL (r::u)) (hA:A=em (r::u) x) (hx:El (r::u) S x) (hxe:x=p+q*rt u r) (hp:El u S p) (hq:El u S q) (hC:C=em w x):DCall Tryz.prog 94 [.one (.sl (.sl tRat) T),.one (.lsl (.sl tRat) 0 0 0 mm),.one (.sl tRat A)] (.arr 0 (.sl tRat) RL) (.one (.sl tRat C)):=by
 have hur:=(G.twr hu).red
 have hAl:A.length=2^u.length+2^u.length:=by rw[hA,em_len hx.mem,pow_len]
 have hpp:=pow_pos2 u.length
 have hht:(r::u).length≤8:=G.ht hu
 have hht2:(r::u).length=u.length+1:=rfl
 have hmul:=G.mul hw
 have hroot:El w K (rt u r):=by have:=G.emb hu hw hEm (el_root hur);rwa [Nat.zero_add] at this
 obtain⟨wk,hwk,hrin,hRk⟩:=hR.2
 obtain⟨rk,hrk⟩:∃z:LR,z=em wk (rt u r):=⟨_,rfl⟩
 rw[←hrk] at hRk
 refine dcall_fn Tryz.func94 (by kernel_rfl) rfl fun E hE=>?_
 conv=>cbv
 intro n12 h12;have e12:=h12.eq;have f12:=h12.le;conv=>cbv
 intro n13 h13;conv=>cbv
 cases n13 <;> conv=>cbv
 ·have k13:=eql_f h13
  intro n20 h20;have e20:=h20.eq;have f20:=h20.le;conv=>cbv
  intro n21 h21;conv=>cbv
  refine⟨fun _=>⟨by omega,by omega,i64 (by omega)⟩,?_⟩
  refine .inr ?_
  obtain⟨J0,hJ0⟩:∃J:List AV→List Blk→Nat→Prop,J=fun vs bl k=>∃(k':Nat) (hv kk:Int),vs=[.one (.sl (.sl tRat) T),.one (.lsl (.sl tRat) 0 0 0 mm),.one (.sl tRat A),.one (.int .i64 hv),.one (.int .i64 kk)]∧bl=[.arr 0 (.sl tRat) RL]∧(NatIs hv (A.length/2)∧NatIs kk k'∧k'≤u.length)∧k=u.length-k':=⟨_,rfl⟩
  refine⟨[0,1,2,7,8],[0],J0,⟨u.length-0,by rw[hJ0];exact⟨0,n21,0,rfl,rfl,⟨⟨by omega⟩,natIs 0,by omega⟩,rfl⟩⟩,?_⟩
  intro vs bl kk0 hj;rw[hJ0] at hj
  obtain⟨k',hv,kk,rfl,rfl,⟨hHv,hKk,hkl⟩,hk0⟩:=hj
  conv=>cbv
  have eHv:=hHv.eq
  have eKk:=hKk.eq
  intro n23 h23;conv=>cbv
  refine⟨fun _=>i64 (by omega),?_⟩
  intro n24 h24;conv=>cbv
  refine⟨fun _=>by omega,?_⟩
  intro n26 h26;have e26:=h26.eq;have f26:=h26.le;conv=>cbv
  have hs24:=(shl_one (k:=k'+1) h24 (by omega) (by omega)).eq
  intro n27 h27;conv=>cbv
  cases n27 <;> conv=>cbv
  ·have k27:=lss_f h27
   have hku:k'=u.length:=by have:=k_ge hAl (show ¬2^(k'+1)<A.length by omega);omega
   intro m34 hm34;conv=>cbv
   refine⟨fun _=>⟨by omega,by omega⟩,?_⟩
   intro b34 hb34;conv=>cbv
   intro l34 hl34;conv=>cbv
   have hl34e:l34=em u p:=by rw[hl34,List.drop_zero,show b34=A.length/2 by omega,hA,em_lo hur hp.mem hq.mem hxe]
   obtain⟨w35,hw35⟩:∃z:LR,z=em w (p):=⟨_,rfl⟩
   refine .inr (.inr (.inl ⟨0,.arr 0 (.sl tRat) RL,[.one (.sl (.sl tRat) T),.one (.lsl (.sl tRat) 0 0 0 mm),.one (.sl tRat l34)],.one (.sl tRat w35),fun _=>⟨rfl,⟨rfl,⟨⟨rfl,rfl⟩,rfl⟩,rfl,trivial⟩⟩,fun _=>useD hE (ih hT hR.1 hmm hl34e hp hw35),?_⟩))
   try conv=>cbv
   intro m40 hm40;conv=>cbv
   refine⟨fun _=>⟨by omega,by omega⟩,?_⟩
   rintro a40 b40 ⟨ha40,hb40⟩;conv=>cbv
   intro l40 hl40;conv=>cbv
   have hl40e:l40=em u q:=by rw[hl40,show a40=A.length/2 by omega,hb40,hm40,List.take_length,hA,em_hi hur hp.mem hq.mem hxe]
   obtain⟨w41,hw41⟩:∃z:LR,z=em w (q):=⟨_,rfl⟩
   refine .inr (.inr (.inl ⟨0,.arr 0 (.sl tRat) RL,[.one (.sl (.sl tRat) T),.one (.lsl (.sl tRat) 0 0 0 mm),.one (.sl tRat l40)],.one (.sl tRat w41),fun _=>⟨rfl,⟨rfl,⟨⟨rfl,rfl⟩,rfl⟩,rfl,trivial⟩⟩,fun _=>useD hE (ih hT hR.1 hmm hl40e hq hw41),?_⟩))
   try conv=>cbv
   refine⟨fun _=>rfl,?_⟩
   refine⟨fun _=>⟨by omega,by have:=getE hRk;omega⟩,?_⟩
   intro j49 hj49;conv=>cbv
   obtain⟨x50,hx50⟩:=get_ex (l:=RL) (i:=j49) (by have:=getE hRk;omega)
   refine⟨x50,fun _=>hx50,?_⟩
   try conv=>cbv
   have hx50e:x50=rk:=by have:=hx50;rw[show j49=u.length by omega,hRk] at this;exact (Option.some.inj this).symm
   have hrk:x50=em wk (rt u r):=hx50e.trans hrk
   obtain⟨w51,hw51⟩:∃z:LR,z=em w (rt u r):=⟨_,rfl⟩
   refine cA hE (Ylift_ok (G.twr hw) hT hrk hrin hwk hw51) ?_
   try conv=>cbv
   obtain⟨w52,hw52⟩:∃z:LR,z=em w (q*rt u r):=⟨_,rfl⟩
   refine cL hE (Ymulv (G.twr hw) hT hw41 hw51 (G.emb (G.sub hu) hw hEm.tail hq) hroot (by omega) hw52) ⟨rfl,rfl,rfl,trivial⟩ ?_
   try conv=>cbv
   refine cL (r:= .one (.sl tRat C)) hE (Yaddv (G.twr hw) hw35 hw52 (G.emb (G.sub hu) hw hEm.tail hp) ((G.emb (G.sub hu) hw hEm.tail hq).mul (G.twr hw) hroot) (by omega) (by omega) (by rw[hC,hxe])) ⟨rfl,rfl,rfl,trivial⟩ ?_
   try conv=>cbv
   refine fun _=>⟨⟨⟨⟨rfl,rfl,trivial⟩,trivial⟩,rfl,by simp⟩,rfl⟩
  ·have k27:=lss_t h27
   refine .inr ?_
   have hku:k'<u.length:=k_lt hAl (show 2^(k'+1)<A.length by omega)
   intro n29 h29;conv=>cbv
   refine⟨fun _=>i64 (by omega),?_⟩
   refine⟨u.length-(k'+1),?_,?_⟩
   ·omega
   rw[hJ0]
   exact⟨k'+1,hv,n29,rfl,rfl,⟨hHv,⟨by omega⟩,by omega⟩,rfl⟩
 ·have k13:=eql_t h13
  exact absurd k13 (by omega)
theorem YimC (G:Gam TT R K S) (hw:TT w):∀{u:List (List Rat)},TT u→Emb u w→YImC S w u:=by
 intro u
 induction u with
 | nil=>
  intro hu hE T RL A C x hT hR hA hx hC
  obtain⟨q,rfl⟩:=in_nil.1 hx.mem
  have hq:=hx.smalls (by have:=G.mul hw;omega)
  rw[co_nil] at hq
  exact Yimc_base (u:=[]) (x:=0) G hw hT hA (hq q List.mem_cons_self) hC
 | cons r u ih=>
  intro hu hE T RL A C x hT hR hA hx hC
  obtain⟨p,q,hxe,hp,hq⟩:=El.parts (G.twr hu).red hx
  exact Yimc_s G hw hT hu hE (ih (G.sub hu) hE.tail) hR hA hx hxe hp hq hC
theorem YimD (G:Gam TT R K S) (hw:TT w):∀{u:List (List Rat)},TT u→Emb u w→YImD S w u:=by
 intro u
 induction u with
 | nil=>
  intro hu hE T RL A C x mm hT hR hmm hA hx hC
  obtain⟨q,rfl⟩:=in_nil.1 hx.mem
  have hq:=hx.smalls (by have:=G.mul hw;omega)
  rw[co_nil] at hq
  exact Yimd_base (u:=[]) (x:=0) hmm G hw hT hA (hq q List.mem_cons_self) hC
 | cons r u ih=>
  intro hu hE T RL A C x mm hT hR hmm hA hx hC
  obtain⟨p,q,hxe,hp,hq⟩:=El.parts (G.twr hu).red hx
  exact Yimd_s hmm G hw hT hu hE (ih (G.sub hu) hE.tail) hR hA hx hxe hp hq hC
theorem Yextend_ok {U T2:List LR} {t:List (List Rat)} (G:GamY TT R K S) (ht:TT t) (hu:TT u) (hT:T=tw t) (hU:U=tw u) (hT2:T2=tw (ext t u)) (hRL:RL=rootsL t u):CF 92 [.one (.sl (.sl tRat) T),.one (.sl (.sl tRat) U)] (.tup [(false,[.sl (.sl tRat) T2]),(false,[.sl (.sl tRat) RL]),(false,[.int .i64 0])]):=by
 have hUl:U.length=u.length:=by rw[hU,tw_len]
 have hul:=G.ht hu
 have hRS:=G.RS
 refine acall_fn Tryz.func92 (by kernel_rfl) rfl fun E hE=>?_
 conv=>cbv
 refine .inr ?_
 obtain⟨J0,hJ0⟩:∃J:List AV→List Blk→Nat→Prop,J=fun vs bl k=>(∃(i:Int),vs=[.one (.sl (.sl tRat) T),.one (.sl (.sl tRat) U),.one .nil,.one (.int .i64 i)]∧bl=[.dead 0]∧NatIs i 0∧k=U.length)∨
  (∃(Ti o:List LR) (mm i':Nat) (i:Int),vs=[.one (.sl (.sl tRat) Ti),.one (.sl (.sl tRat) U),.one (.lsl (.sl tRat) 38 0 0 mm),.one (.int .i64 i)]∧bl=[.arr 0 (.sl tRat) o]∧(NatIs i i'∧i'≤U.length∧mm=o.length)∧Ti=tw (ext t (pre u i'))∧o=rootsL t (pre u i')∧k=U.length-i'):=⟨_,rfl⟩
 refine⟨[0,1,7,8],[38],J0,⟨U.length,by rw[hJ0];exact .inl ⟨0,rfl,rfl,natIs 0,rfl⟩⟩,?_⟩
 intro vs bl kk0 hj;rw[hJ0] at hj
 rcases hj with⟨i,rfl,rfl,hi,hk0⟩ |⟨Ti,o,mm,i',i,rfl,rfl,⟨hi,hiL,hmm⟩,hTi,hinv,hk0⟩
 ·conv=>cbv
  have ei:=hi.eq
  obtain⟨i',hi'⟩:∃z:Nat,z=0:=⟨_,rfl⟩
  have hTi:T=tw (ext t (pre u i')):=by rw[hi',pre_zero];exact hT
  intro n14 h14;have e14:=h14.eq;have f14:=h14.le;conv=>cbv
  intro n15 h15;conv=>cbv
  cases n15 <;> conv=>cbv
  ·have k15:=lss_f h15
   have hu0:u=[]:=List.eq_nil_of_length_eq_zero (by omega)
   exact fA ⟨⟨rfl,congrArg _ (by rw[hT2,hT,hu0];rfl),trivial⟩,⟨rfl,.inr (.inl ⟨_,congrArg _ (by rw[hRL,hu0];rfl)⟩),trivial⟩,⟨rfl,rfl,trivial⟩,trivial⟩ rfl (by simp)
  ·have k15:=lss_t h15
   refine .inr ?_
   obtain⟨x24,hx24⟩:=get_ex (l:=U) (i:=i') (by omega)
   refine⟨x24,fun _=>⟨by omega,by rw[show (i).toNat=i' by omega];exact hx24⟩,?_⟩
   try conv=>cbv
   obtain⟨r,hrp,hri⟩:=pre_succ (u:=u) (i:=i') (by omega)
   have hpu:TT (pre u i'):=G.suf (pre_suffix u i') hu
   have hpu1:TT (r::pre u i'):=hrp ▸ G.suf (pre_suffix u (i'+1)) hu
   have hrd:=(G.twr hpu1).red
   have hrx:x24=em (pre u i') (evR (pre u i') r):=by rw[←hU,hx24] at hri;exact (Option.some.inj hri).trans (em_rad hrd)
   have hwi:TT (ext t (pre u i')):=G.ext ht hpu
   have hei:=(red_ext (G.twr ht).red (G.twr hpu).red).2
   have hrE:El (pre u i') S (evR (pre u i') r):=(El.rad (G.twr hpu1)).mono hRS
   have hwj:TT (adj (ext t (pre u i')) (evR (pre u i') r)):=G.adj hwi hpu1 hei
   have hej:ext t (pre u (i'+1))=adj (ext t (pre u i')) (evR (pre u i') r):=by rw[hrp];rfl
   have hrj:rootsL t (pre u (i'+1))=rootsL t (pre u i')++[em (adj (ext t (pre u i')) (evR (pre u i') r)) (Re.sqrt (evR (pre u i') r))]:=by rw[hrp];rfl
   obtain⟨w26,hw26⟩:∃z:LR,z=em (ext t (pre u i')) (evR (pre u i') r):=⟨_,rfl⟩
   refine cL (r:= .one (.sl tRat w26)) hE (YimC G.toGam hwi hpu hei hTi (by rw[hi',pre_zero];trivial) hrx hrE hw26) ⟨rfl,.inr ⟨_,rfl⟩,rfl,trivial⟩ ?_
   try conv=>cbv
   obtain⟨w28,hw28⟩:∃z:List LR,z=tw (adj (ext t (pre u i')) (evR (pre u i') r)):=⟨_,rfl⟩
   obtain⟨w29,hw29⟩:∃z:LR,z=em (adj (ext t (pre u i')) (evR (pre u i') r)) (Re.sqrt (evR (pre u i') r)):=⟨_,rfl⟩
   refine cL (r:= .tup [(false,[.sl (.sl tRat) w28]),(false,[.sl tRat w29]),(false,[.int .i64 0])]) hE (YAdjoin_v (G.twr hwi) (G.twr hwj) (G.ht hwj) hTi hw26 (G.emb hpu hwi hei hrE) (G.fitY hwi) (by have:=hrd.2.2.1;grind) hw28 hw29) ⟨rfl,rfl,trivial⟩ ?_
   try conv=>cbv
   intro n32 h32;(have h32:=h32.trans (show _=false by decide));subst h32;conv=>cbv
   refine⟨[w29],fun _=>⟨rfl,by decide,rfl,⟨rfl,by first | exact⟨rfl,trivial⟩ | exact⟨rfl,rfl,trivial⟩ | exact⟨rfl,rfl,rfl,rfl,trivial⟩ | simp[allC,leC,cells],trivial⟩⟩,.inr ?_⟩
   try conv=>cbv
   refine .inl ⟨[w29],fun _=>⟨rfl,by show (1)*24≤140737488355328;(try simp only[List.length_take,List.length_drop]);omega⟩,?_⟩
   intro n38 h38;conv=>cbv
   intro n17 h17;conv=>cbv
   refine⟨fun _=>i64 (by omega),?_⟩
   refine⟨U.length-(i'+1),?_,?_⟩
   ·omega
   rw[hJ0]
   exact .inr ⟨w28,[w29],n38,i'+1,n17,rfl,rfl,⟨⟨by omega⟩,by omega,h38⟩,by rw[hw28,hej],by rw[hrj,hw29,hi',pre_zero];rfl,rfl⟩
 ·conv=>cbv
  have ei:=hi.eq
  have hol:o.length≤U.length:=by rw[hinv,rootsL_len,pre_len (by omega)];omega
  intro n14 h14;have e14:=h14.eq;have f14:=h14.le;conv=>cbv
  intro n15 h15;conv=>cbv
  cases n15 <;> conv=>cbv
  ·have k15:=lss_f h15
   have hpa:pre u i'=u:=by rw[show i'=u.length by omega];exact pre_all u
   exact fA ⟨⟨rfl,congrArg _ (by rw[hT2,hTi,hpa]),trivial⟩,⟨rfl,.inl ⟨_,rfl,by omega,congrArg _ (by rw[hRL,hmm,List.drop_zero,List.take_length,hinv,hpa])⟩,trivial⟩,⟨rfl,rfl,trivial⟩,trivial⟩ rfl (by simp)
  ·have k15:=lss_t h15
   refine .inr ?_
   obtain⟨x24,hx24⟩:=get_ex (l:=U) (i:=i') (by omega)
   refine⟨x24,fun _=>⟨by omega,by rw[show (i).toNat=i' by omega];exact hx24⟩,?_⟩
   try conv=>cbv
   obtain⟨r,hrp,hri⟩:=pre_succ (u:=u) (i:=i') (by omega)
   have hpu:TT (pre u i'):=G.suf (pre_suffix u i') hu
   have hpu1:TT (r::pre u i'):=hrp ▸ G.suf (pre_suffix u (i'+1)) hu
   have hrd:=(G.twr hpu1).red
   have hrx:x24=em (pre u i') (evR (pre u i') r):=by rw[←hU,hx24] at hri;exact (Option.some.inj hri).trans (em_rad hrd)
   have hwi:TT (ext t (pre u i')):=G.ext ht hpu
   have hei:=(red_ext (G.twr ht).red (G.twr hpu).red).2
   have hrE:El (pre u i') S (evR (pre u i') r):=(El.rad (G.twr hpu1)).mono hRS
   have hwj:TT (adj (ext t (pre u i')) (evR (pre u i') r)):=G.adj hwi hpu1 hei
   have hej:ext t (pre u (i'+1))=adj (ext t (pre u i')) (evR (pre u i') r):=by rw[hrp];rfl
   have hrj:rootsL t (pre u (i'+1))=rootsL t (pre u i')++[em (adj (ext t (pre u i')) (evR (pre u i') r)) (Re.sqrt (evR (pre u i') r))]:=by rw[hrp];rfl
   obtain⟨w26,hw26⟩:∃z:LR,z=em (ext t (pre u i')) (evR (pre u i') r):=⟨_,rfl⟩
   refine .inr (.inr (.inl ⟨38,.arr 0 (.sl tRat) o,[.one (.sl (.sl tRat) Ti),.one (.lsl (.sl tRat) 0 0 0 mm),.one (.sl tRat x24)],.one (.sl tRat w26),fun _=>⟨rfl,⟨rfl,⟨⟨rfl,rfl⟩,rfl⟩,rfl,trivial⟩⟩,fun _=>useD hE (YimD G.toGam hwi hpu hei hTi (by rw[hinv];exact roots_ok (G.twr ht).red (G.twr hpu).red) hmm hrx hrE hw26),?_⟩))
   try conv=>cbv
   obtain⟨w28,hw28⟩:∃z:List LR,z=tw (adj (ext t (pre u i')) (evR (pre u i') r)):=⟨_,rfl⟩
   obtain⟨w29,hw29⟩:∃z:LR,z=em (adj (ext t (pre u i')) (evR (pre u i') r)) (Re.sqrt (evR (pre u i') r)):=⟨_,rfl⟩
   refine cL (r:= .tup [(false,[.sl (.sl tRat) w28]),(false,[.sl tRat w29]),(false,[.int .i64 0])]) hE (YAdjoin_v (G.twr hwi) (G.twr hwj) (G.ht hwj) hTi hw26 (G.emb hpu hwi hei hrE) (G.fitY hwi) (by have:=hrd.2.2.1;grind) hw28 hw29) ⟨rfl,rfl,trivial⟩ ?_
   try conv=>cbv
   intro n32 h32;(have h32:=h32.trans (show _=false by decide));subst h32;conv=>cbv
   refine⟨[w29],fun _=>⟨rfl,by decide,rfl,⟨rfl,by first | exact⟨rfl,trivial⟩ | exact⟨rfl,rfl,trivial⟩ | exact⟨rfl,rfl,rfl,rfl,trivial⟩ | simp[allC,leC,cells],trivial⟩⟩,.inr ?_⟩
   try conv=>cbv
   refine .inl ⟨[w29],fun _=>⟨rfl,hmm,rfl,by show (o.length+1)*24≤140737488355328;(try simp only[List.length_take,List.length_drop]);omega⟩,?_⟩
   intro (l38:List (el (.sl tRat))) n38 ql38;have hl38:l38=(o:List (el (.sl tRat)))++([w29]:List (el (.sl tRat))):=ql38.1;have hn38:n38=List.length (α:=(el (.sl tRat))) l38:=ql38.2;conv=>cbv
   intro n17 h17;conv=>cbv
   refine⟨fun _=>i64 (by omega),?_⟩
   refine⟨U.length-(i'+1),?_,?_⟩
   ·omega
   rw[hJ0]
   exact .inr ⟨w28,l38,n38,i'+1,n17,rfl,rfl,⟨⟨by omega⟩,by omega,hn38⟩,by rw[hw28,hej],by rw[hl38,hinv,hrj,hw29],rfl⟩
end Go.Abs
