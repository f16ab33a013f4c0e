/- Part 34 of a proof. Conditions: each theorem's own. -/
import Derived.Test.YtpccjlcpbehglaaGreatPk32
set_option linter.all false
set_option maxHeartbeats 8000000
open Go.Proofs
namespace Go.Abs
open Go.RowKit
variable {A B C:LR} {R s t:Nat} {T:List LR} {p x y:Re} {q:Rat} {r:List Rat} {u:List (List Rat)}
theorem norm_v {q:Re} (h:Twr R (r::u)) (hT:T=tw (r::u)) (hA:A=em (r::u) x) (hx:El (r::u) s x) (hxe:x=p+q*rt u r) (hp0:In u p) (hq0:In u q) (hs:2*s+2*EE u.length R+R+1≤60000000000000) (hC:C=em u (p*p-q*q*evR u r)):CF 186 [.one (.sl (.sl tRat) T),.one (.sl tRat A)] (.one (.sl tRat C)):=by
 have hpq:=bd_lo h.red hp0 hq0 (hxe ▸ hx.bd)
 have hp:El u s p:=⟨hp0,hpq.1⟩
 have hq:El u s q:=⟨hq0,hpq.2⟩
 have hrr:=El.rad h
 have hR:=h.hR
 refine acall_fn Tryz.func186 (by kernel_rfl) rfl fun E hE=>?_
 conv=>cbv
 obtain⟨w12,hw12⟩:∃z:List LR,z=tw u:=⟨_,rfl⟩
 obtain⟨w13,hw13⟩:∃z:LR,z=rps r:=⟨_,rfl⟩
 refine cA hE (split_v hT hw12 hw13) ?_
 try conv=>cbv
 obtain⟨w17,hw17⟩:∃z:LR,z=em u p:=⟨_,rfl⟩
 obtain⟨w18,hw18⟩:∃z:LR,z=em u q:=⟨_,rfl⟩
 refine cA hE (halves_v h.red hp.mem hq.mem hxe hA hw17 hw18) ?_
 try conv=>cbv
 obtain⟨w22,hw22⟩:∃z:LR,z=em u (p*p):=⟨_,rfl⟩
 refine cL hE (mulv h.tail hw12 hw17 hw17 hp hp (by omega) hw22) ⟨rfl,rfl,rfl,trivial⟩ ?_
 try conv=>cbv
 obtain⟨w27,hw27⟩:∃z:LR,z=em u (q*q):=⟨_,rfl⟩
 refine cL hE (mulv h.tail hw12 hw18 hw18 hq hq (by omega) hw27) ⟨rfl,rfl,rfl,trivial⟩ ?_
 try conv=>cbv
 obtain⟨w29,hw29⟩:∃z:LR,z=em u (q*q*evR u r):=⟨_,rfl⟩
 refine cL hE (mulv h.tail hw12 hw27 (hw13.trans (em_rad h.red)) (hq.mul h.tail hq) hrr (by omega) hw29) ⟨rfl,rfl,rfl,trivial⟩ ?_
 try conv=>cbv
 obtain⟨w30,hw30⟩:∃z:LR,z=em u (-(q*q*evR u r)):=⟨_,rfl⟩
 refine cL hE (negv h.tail hw29 ((hq.mul h.tail hq).mul h.tail hrr) (by omega) hw30) ⟨rfl,trivial⟩ ?_
 try conv=>cbv
 obtain⟨w31,hw31⟩:∃z:LR,z=em u (p*p+ -(q*q*evR u r)):=⟨_,rfl⟩
 refine cL hE (addv h.tail hw22 hw30 (hp.mul h.tail hp) (((hq.mul h.tail hq).mul h.tail hrr).neg h.red.1) (by omega) (by omega) hw31) ⟨rfl,rfl,trivial⟩ ?_
 try conv=>cbv
 exact fA ⟨⟨rfl,congrArg _ (by rw[hC,hw31];congr 1),trivial⟩,trivial⟩ rfl (by simp)
theorem inv_base {p:Rat} (hT:T=[]) (hA:A=[rp p]) (hB:B=[rp q]) (hs:SmallQ p) (hp0:p≠0) (hpq:q=1/p):CF 132 [.one (.sl (.sl tRat) T),.one (.sl tRat A)] (.tup [(false,[.sl tRat B]),(false,[.bool true])]):=by
 refine acall_fn Tryz.func132 (by kernel_rfl) rfl fun E hE=>?_
 conv=>cbv
 intro n15 h15;have e15:=h15.eq;have f15:=h15.le;conv=>cbv
 intro n16 h16;conv=>cbv
 cases n16 <;> conv=>cbv
 ·have k16:=eql_f h16
  exact absurd (by rw[e15,hT];rfl) k16
 ·have k16:=eql_t h16
  obtain⟨zb18,zl18,yb18,yl18,hz18⟩:=isR_ex (((1:Int):Rat))
  refine cL hE (RFromInt_ok (by omega) rfl hz18) ⟨rfl,trivial⟩ ?_
  try conv=>cbv
  have hAl:A.length=1:=by rw[hA];rfl
  obtain⟨x20,hx20⟩:=get_ex (l:=A) (i:=0) (by omega)
  refine⟨x20,fun _=>⟨by omega,hx20⟩,?_⟩
  try conv=>cbv
  have hp:=one_rp hA hx20
  obtain⟨zb22,zl22,yb22,yl22,hz22⟩:=isR_ex q
  refine cL hE (RDiv_ok hz18 hp ⟨by decide +kernel,by decide +kernel⟩ hs hp0 hpq hz22) ⟨⟨rfl,rfl,rfl,rfl,trivial⟩,⟨rfl,rfl,rfl,rfl,trivial⟩,trivial⟩ ?_
  try conv=>cbv
  refine⟨fun _=>rfl,?_⟩
  refine⟨[((zb22,zl22),(yb22,yl22))],fun _=>⟨rfl,by decide,rfl,⟨rfl,by first | exact⟨rfl,trivial⟩ | exact⟨rfl,rfl,trivial⟩ | exact⟨rfl,rfl,rfl,rfl,trivial⟩ | simp[allC,leC,cells],trivial⟩⟩,.inl ?_⟩
  try conv=>cbv
  intro n28 h28;(have h28:=h28.trans (show _=true by decide));subst h28;conv=>cbv
  exact fA ⟨⟨rfl,.inl ⟨_,rfl,by simp,congrArg _ (by rw[hB,hz22.rp];rfl)⟩,trivial⟩,⟨rfl,rfl,trivial⟩,trivial⟩ rfl (by simp)
theorem inv_base0 {p:Rat} (hT:T=[]) (hA:A=[rp p]) (hB:B=[(((false,[]),(false,[])):el tRat)]) (hp0:p=0):CF 132 [.one (.sl (.sl tRat) T),.one (.sl tRat A)] (.tup [(false,[.sl tRat B]),(false,[.bool false])]):=by
 refine acall_fn Tryz.func132 (by kernel_rfl) rfl fun E hE=>?_
 conv=>cbv
 intro n15 h15;have e15:=h15.eq;have f15:=h15.le;conv=>cbv
 intro n16 h16;conv=>cbv
 cases n16 <;> conv=>cbv
 ·have k16:=eql_f h16
  exact absurd (by rw[e15,hT];rfl) k16
 ·have k16:=eql_t h16
  obtain⟨zb18,zl18,yb18,yl18,hz18⟩:=isR_ex (((1:Int):Rat))
  refine cL hE (RFromInt_ok (by omega) rfl hz18) ⟨rfl,trivial⟩ ?_
  try conv=>cbv
  have hAl:A.length=1:=by rw[hA];rfl
  obtain⟨x20,hx20⟩:=get_ex (l:=A) (i:=0) (by omega)
  refine⟨x20,fun _=>⟨by omega,hx20⟩,?_⟩
  try conv=>cbv
  have hp:=one_rp hA hx20
  refine cA hE (RDiv_zero hz18 hp hp0) ?_
  try conv=>cbv
  refine⟨fun _=>rfl,?_⟩
  refine⟨[((false,[]),(false,[]))],fun _=>⟨rfl,by decide,rfl,⟨rfl,by first | exact⟨rfl,trivial⟩ | exact⟨rfl,rfl,trivial⟩ | exact⟨rfl,rfl,rfl,rfl,trivial⟩ | simp[allC,leC,cells],trivial⟩⟩,.inl ?_⟩
  try conv=>cbv
  intro n28 h28;(have h28:=h28.trans (show _=false by decide));subst h28;conv=>cbv
  exact fA ⟨⟨rfl,.inl ⟨_,rfl,by simp,congrArg _ (by rw[hB];rfl)⟩,trivial⟩,⟨rfl,rfl,trivial⟩,trivial⟩ rfl (by simp)
def InvC (f:FuncId) (R:Nat) (u:List (List Rat)):Prop:=∀{T:List LR} {A B:LR} {s:Nat} {x y:Re},T=tw u→A=em u x→El u s x→In u y→x*y=1→II u.length R s≤60000000000000→B=em u y→
 CF f [.one (.sl (.sl tRat) T),.one (.sl tRat A)] (.tup [(false,[.sl tRat B]),(false,[.bool true])])
def InvZ (f:FuncId) (u:List (List Rat)):Prop:=∀{T:List LR} {A:LR},T=tw u→A=em u 0→
 ∃l,CF f [.one (.sl (.sl tRat) T),.one (.sl tRat A)] (.tup [(false,[.sl tRat l]),(false,[.bool false])])
theorem inv_step {q i:Re} (h:Twr R (r::u)) (ih:InvC 132 R u) (hT:T=tw (r::u)) (hA:A=em (r::u) x) (hx:El (r::u) s x) (hxe:x=p+q*rt u r) (hp:El u s p) (hq:El u s q) (hi:In u i) (hNi:(p*p-q*q*evR u r)*i=1) (hy:y=p*i+ -(q*i)*rt u r) (hs:II (r::u).length R s≤60000000000000) (hB:B=em (r::u) y):CF 132 [.one (.sl (.sl tRat) T),.one (.sl tRat A)] (.tup [(false,[.sl tRat B]),(false,[.bool true])]):=by
 have hII:II (r::u).length R s=s+EE u.length R+II u.length R (2*s+2*EE u.length R+R+1):=rfl
 have hN:=El.norm h hp.mem hq.mem (hxe ▸ hx)
 have hib:=hN.inv h.tail hi hNi
 have hmon:=II_ge u.length R (2*s+2*EE u.length R+R+1)
 refine acall_fn Tryz.func132 (by kernel_rfl) rfl fun E hE=>?_
 conv=>cbv
 intro n15 h15;have e15:=h15.eq;have f15:=h15.le;conv=>cbv
 intro n16 h16;conv=>cbv
 cases n16 <;> conv=>cbv
 ·have k16:=eql_f h16
  obtain⟨w32,hw32⟩:∃z:List LR,z=tw u:=⟨_,rfl⟩
  obtain⟨w33,hw33⟩:∃z:LR,z=rps r:=⟨_,rfl⟩
  refine cA hE (split_v hT hw32 hw33) ?_
  try conv=>cbv
  obtain⟨w38,hw38⟩:∃z:LR,z=em u (p*p-q*q*evR u r):=⟨_,rfl⟩
  refine cL hE (norm_v h hT hA hx hxe hp.mem hq.mem (by omega) hw38) ⟨rfl,rfl,trivial⟩ ?_
  try conv=>cbv
  obtain⟨w40,hw40⟩:∃z:LR,z=em u i:=⟨_,rfl⟩
  refine cL hE (ih hw32 hw38 hN hi hNi (by omega) hw40) ⟨rfl,rfl,trivial⟩ ?_
  try conv=>cbv
  intro n43 h43;(have h43:=h43.trans (show _=false from rfl));subst h43;conv=>cbv
  obtain⟨w47,hw47⟩:∃z:LR,z=em u p:=⟨_,rfl⟩
  obtain⟨w48,hw48⟩:∃z:LR,z=em u q:=⟨_,rfl⟩
  refine cA hE (halves_v h.red hp.mem hq.mem hxe hA hw47 hw48) ?_
  try conv=>cbv
  obtain⟨w52,hw52⟩:∃z:LR,z=em u (p*i):=⟨_,rfl⟩
  obtain⟨w52n,hw52n⟩:∃n:Nat,n=w52.length:=⟨_,rfl⟩
  refine cL hE (mulC h.tail hw32 hw47 hw40 hp hib (by omega) hw52 hw52n) ⟨rfl,rfl,rfl,trivial⟩ ?_
  try conv=>cbv
  obtain⟨w56,hw56⟩:∃z:LR,z=em u (q*i):=⟨_,rfl⟩
  refine cL hE (mulv h.tail hw32 hw48 hw40 hq hib (by omega) hw56) ⟨rfl,rfl,rfl,trivial⟩ ?_
  try conv=>cbv
  obtain⟨w57,hw57⟩:∃z:LR,z=em u (-(q*i)):=⟨_,rfl⟩
  refine cL hE (negv h.tail hw56 (hq.mul h.tail hib) (by omega) hw57) ⟨rfl,trivial⟩ ?_
  try conv=>cbv
  have hl52:w52.length=2^u.length:=by rw[hw52,em_len (hp.mul h.tail hib).mem]
  have hl57:w57.length=2^u.length:=by rw[hw57,em_len ((hq.mul h.tail hib).neg h.red.1).mem]
  have hp16:=pow16 h.tail.ht
  refine .inl ⟨w57,fun _=>⟨rfl,hw52n,rfl,by show (w52.length+w57.length)*64≤140737488355328;(try simp only[List.length_take,List.length_drop]);omega⟩,?_⟩
  intro (l58:LR) n58 ql58;have hl58:l58=(w52:LR)++(w57:LR):=ql58.1;have hn58:n58=List.length (α:=(el tRat)) l58:=ql58.2;conv=>cbv
  have hfin:B=l58:=by rw[hB,hl58,hw52,hw57];exact em_app h.red (hp.mul h.tail hib).mem ((hq.mul h.tail hib).neg h.red.1).mem hy
  exact fA ⟨⟨rfl,.inl ⟨_,rfl,by omega,congrArg _ (by rw[hfin,hn58,List.drop_zero,List.take_length])⟩,trivial⟩,⟨rfl,rfl,trivial⟩,trivial⟩ rfl (by simp)
 ·have k16:=eql_t h16
  exact absurd (List.length_eq_zero_iff.1 (by omega)) (hT ▸ tw_ne r u)
theorem inv_step0 {l:LR} (h:Twr R (r::u)) (ih:∀{T A},T=tw u→A=em u 0→CF 132 [.one (.sl (.sl tRat) T),.one (.sl tRat A)] (.tup [(false,[.sl tRat l]),(false,[.bool false])])) (hT:T=tw (r::u)) (hA:A=em (r::u) 0) (hEE:2*0+2*EE u.length R+R+1≤60000000000000):CF 132 [.one (.sl (.sl tRat) T),.one (.sl tRat A)] (.tup [(false,[.sl tRat (([]:LR))]),(false,[.bool false])]):=by
 have hx:El (r::u) 0 0:=El.rat h.red bd_int0
 refine acall_fn Tryz.func132 (by kernel_rfl) rfl fun E hE=>?_
 conv=>cbv
 intro n15 h15;have e15:=h15.eq;have f15:=h15.le;conv=>cbv
 intro n16 h16;conv=>cbv
 cases n16 <;> conv=>cbv
 ·have k16:=eql_f h16
  obtain⟨w32,hw32⟩:∃z:List LR,z=tw u:=⟨_,rfl⟩
  obtain⟨w33,hw33⟩:∃z:LR,z=rps r:=⟨_,rfl⟩
  refine cA hE (split_v hT hw32 hw33) ?_
  try conv=>cbv
  obtain⟨w38,hw38⟩:∃z:LR,z=em u (0):=⟨_,rfl⟩
  refine cL (r:= .one (.sl tRat w38)) hE (norm_v (p:=0) (q:=0) h hT hA hx (by grind) (in_zero u) (in_zero u) hEE (by rw[hw38];congr 1;grind)) ⟨rfl,rfl,trivial⟩ ?_
  try conv=>cbv
  refine cA hE (ih hw32 hw38) ?_
  try conv=>cbv
  intro n43 h43;(have h43:=h43.trans (show _=true from rfl));subst h43;conv=>cbv
  exact fA ⟨⟨rfl,.inr (.inl ⟨_,rfl⟩),trivial⟩,⟨rfl,rfl,trivial⟩,trivial⟩ rfl (by simp)
 ·have k16:=eql_t h16
  exact absurd (List.length_eq_zero_iff.1 (by omega)) (hT ▸ tw_ne r u)
theorem invC (h:Twr R u):InvC 132 R u:=by
 induction u with
 | nil=>
  intro T A B s x y hT hA hx hy hxy hs hB
  obtain⟨p,rfl⟩:=in_nil.1 hx.mem
  obtain⟨q,rfl⟩:=in_nil.1 hy
  rw[em_nil] at hA hB
  rw[←Re.ofRat_mul] at hxy
  have e:=Re.ofRat_inj.1 hxy
  have hp:=hx.smalls (by have:=II_ge 0 R s;have:II ([]:List (List Rat)).length R s=II 0 R s:=rfl;omega)
  rw[co_nil] at hp
  exact inv_base hT hA hB (hp _ List.mem_cons_self) (by intro e0;subst e0;grind) (by grind)
 | cons r u ih=>
  intro T A B s x y hT hA hx hy hxy hs hB
  obtain⟨p,q,hxe,hp,hq⟩:=El.parts h.red hx
  have hr:=rt_sq h.red
  have hN:=El.norm h hp.mem hq.mem (hxe ▸ hx)
  have hN0:p*p-q*q*evR u r≠0:=norm_ne h.red hp.mem hq.mem (by intro e;rw[←hxe] at e;rw[e] at hxy;have h1:(0:Re)<1:=Re.ofRat_lt.2 (show (0:Rat)<1 by decide);grind)
  obtain⟨i,hi,hNi⟩:=in_inv h.red.1 hN.mem hN0
  refine inv_step h (ih h.tail) hT hA hx hxe hp hq hi hNi ?_ hs hB
  have:y=x*y*((p-q*rt u r)*i):=by
   have:x*y*((p-q*rt u r)*i)=y*((p*p-q*q*evR u r)*i):=by rw[hxe];clear ih;grind
   rw[this,hNi];clear ih;grind
  rw[hxy] at this
  clear ih;grind
theorem invZ:∀{u:List (List Rat)} {R:Nat},Twr R u→EE u.length R+R≤60000000000000→∃l,∀{T A},T=tw u→A=em u 0→CF 132 [.one (.sl (.sl tRat) T),.one (.sl tRat A)] (.tup [(false,[.sl tRat l]),(false,[.bool false])])
 | [],R,h,_=>⟨_,fun hT hA=>inv_base0 hT (hA.trans (em_nil 0)) rfl rfl⟩
 | r::u,R,h,hs=>by
  have hEE:EE (r::u).length R=2*EE u.length R+R+2:=rfl
  obtain⟨l,ih⟩:=invZ h.tail (by omega)
  exact⟨_,fun hT hA=>inv_step0 h ih hT hA (by omega)⟩
theorem Addv (h:Twr R u) (hT:T=tw u) (hA:A=em u x) (hB:B=em u y) (hx:El u s x) (hy:El u t y) (hs:s≤60000000000000) (ht:t≤60000000000000) (hC:C=em u (x+y)):CF 99 [.one (.sl (.sl tRat) T),.one (.sl tRat A),.one (.sl tRat B)] (.one (.sl tRat C)):=by
 refine acall_fn Tryz.func99 (by kernel_rfl) rfl fun E hE=>?_
 conv=>cbv
 refine cL (r:= .one (.bool true)) hE (formed_ok hT h.tow hA (hx.smalls (by omega)) (by rw[hx.len,List.length_reverse]) hB (hy.smalls (by omega)) (by rw[hy.len,List.length_reverse])) ⟨rfl,rfl,rfl,trivial⟩ ?_
 try conv=>cbv
 intro n11 h11;(have h11:=h11.trans (show _=false from rfl));subst h11;conv=>cbv
 refine cA hE (addv h hA hB hx hy hs ht hC) ?_
 try conv=>cbv
 exact fA ⟨⟨rfl,rfl,trivial⟩,trivial⟩ rfl (by simp)
theorem Subv (h:Twr R u) (hT:T=tw u) (hA:A=em u x) (hB:B=em u y) (hx:El u s x) (hy:El u t y) (hs:s≤60000000000000) (ht:t≤60000000000000) (hC:C=em u (x-y)):CF 102 [.one (.sl (.sl tRat) T),.one (.sl tRat A),.one (.sl tRat B)] (.one (.sl tRat C)):=by
 refine acall_fn Tryz.func102 (by kernel_rfl) rfl fun E hE=>?_
 conv=>cbv
 refine cL (r:= .one (.bool true)) hE (formed_ok hT h.tow hA (hx.smalls (by omega)) (by rw[hx.len,List.length_reverse]) hB (hy.smalls (by omega)) (by rw[hy.len,List.length_reverse])) ⟨rfl,rfl,rfl,trivial⟩ ?_
 try conv=>cbv
 intro n11 h11;(have h11:=h11.trans (show _=false from rfl));subst h11;conv=>cbv
 obtain⟨w14,hw14⟩:∃z:LR,z=em u (-y):=⟨_,rfl⟩
 refine cA hE (negv h hB hy ht hw14) ?_
 try conv=>cbv
 refine cL (r:= .one (.sl tRat C)) hE (addv h hA hw14 hx (hy.neg h.red) hs ht (by rw[hC];congr 1)) ⟨rfl,rfl,trivial⟩ ?_
 try conv=>cbv
 exact fA ⟨⟨rfl,rfl,trivial⟩,trivial⟩ rfl (by simp)
theorem Mulv (h:Twr R u) (hT:T=tw u) (hA:A=em u x) (hB:B=em u y) (hx:El u s x) (hy:El u t y) (hst:s+t+EE u.length R≤60000000000000) (hC:C=em u (x*y)):CF 66 [.one (.sl (.sl tRat) T),.one (.sl tRat A),.one (.sl tRat B)] (.one (.sl tRat C)):=by
 refine acall_fn Tryz.func66 (by kernel_rfl) rfl fun E hE=>?_
 conv=>cbv
 refine cL (r:= .one (.bool true)) hE (formed_ok hT h.tow hA (hx.smalls (by omega)) (by rw[hx.len,List.length_reverse]) hB (hy.smalls (by omega)) (by rw[hy.len,List.length_reverse])) ⟨rfl,rfl,rfl,trivial⟩ ?_
 try conv=>cbv
 intro n11 h11;(have h11:=h11.trans (show _=false from rfl));subst h11;conv=>cbv
 refine cA hE (mulv h hT hA hB hx hy hst hC) ?_
 try conv=>cbv
 exact fA ⟨⟨rfl,rfl,trivial⟩,trivial⟩ rfl (by simp)
theorem Negv (h:Twr R u) (hT:T=tw u) (hA:A=em u x) (hx:El u s x) (hs:s≤60000000000000) (hC:C=em u (-x)):CF 103 [.one (.sl (.sl tRat) T),.one (.sl tRat A)] (.one (.sl tRat C)):=by
 refine acall_fn Tryz.func103 (by kernel_rfl) rfl fun E hE=>?_
 conv=>cbv
 refine cL (r:= .one (.bool true)) hE (Formed_ok hT h.tow hA (hx.smalls (by omega)) (by rw[hx.len,List.length_reverse];exact (decide_eq_true rfl).symm)) ⟨rfl,rfl,trivial⟩ ?_
 try conv=>cbv
 intro n8 h8;(have h8:=h8.trans (show _=false from rfl));subst h8;conv=>cbv
 refine cA hE (negv h hA hx hs hC) ?_
 try conv=>cbv
 exact fA ⟨⟨rfl,rfl,trivial⟩,trivial⟩ rfl (by simp)
theorem Invv (h:Twr R u) (hT:T=tw u) (hA:A=em u x) (hx:El u s x) (hy:In u y) (hxy:x*y=1) (hs:II u.length R s≤60000000000000) (hC:C=em u y):CF 69 [.one (.sl (.sl tRat) T),.one (.sl tRat A)] (.tup [(false,[.sl tRat C]),(false,[.int .i64 0])]):=by
 have hge:=II_ge u.length R s
 refine acall_fn Tryz.func69 (by kernel_rfl) rfl fun E hE=>?_
 conv=>cbv
 refine cL (r:= .one (.bool true)) hE (Formed_ok hT h.tow hA (hx.smalls (by omega)) (by rw[hx.len,List.length_reverse];exact (decide_eq_true rfl).symm)) ⟨rfl,rfl,trivial⟩ ?_
 try conv=>cbv
 intro n11 h11;(have h11:=h11.trans (show _=false from rfl));subst h11;conv=>cbv
 refine cA hE (invC h hT hA hx hy hxy hs hC) ?_
 try conv=>cbv
 intro n19 h19;(have h19:=h19.trans (show _=false from rfl));subst h19;conv=>cbv
 exact fA ⟨⟨rfl,rfl,trivial⟩,⟨rfl,rfl,trivial⟩,trivial⟩ rfl (by simp)
theorem Inv0 (h:Twr R u) (hT:T=tw u) (hA:A=em u 0) (hs:EE u.length R+R≤60000000000000):CF 69 [.one (.sl (.sl tRat) T),.one (.sl tRat A)] (.tup [(false,[.sl tRat (([]:LR))]),(false,[.int .i64 6])]):=by
 have hx:El u 0 0:=El.rat h.red bd_int0
 obtain⟨l,hl⟩:=invZ h hs
 refine acall_fn Tryz.func69 (by kernel_rfl) rfl fun E hE=>?_
 conv=>cbv
 refine cL (r:= .one (.bool true)) hE (Formed_ok hT h.tow hA (hx.smalls (by omega)) (by rw[hx.len,List.length_reverse];exact (decide_eq_true rfl).symm)) ⟨rfl,rfl,trivial⟩ ?_
 try conv=>cbv
 intro n11 h11;(have h11:=h11.trans (show _=false from rfl));subst h11;conv=>cbv
 refine cA hE (hl hT hA) ?_
 try conv=>cbv
 intro n19 h19;(have h19:=h19.trans (show _=true from rfl));subst h19;conv=>cbv
 exact fA ⟨⟨rfl,.inr (.inl ⟨_,rfl⟩),trivial⟩,⟨rfl,rfl,trivial⟩,trivial⟩ rfl (by simp)
theorem Normv {q:Re} (h:Twr R (r::u)) (hT:T=tw (r::u)) (hA:A=em (r::u) x) (hx:El (r::u) s x) (hxe:x=p+q*rt u r) (hp0:In u p) (hq0:In u q) (hs:2*s+2*EE u.length R+R+1≤60000000000000) (hC:C=em u (p*p-q*q*evR u r)):CF 205 [.one (.sl (.sl tRat) T),.one (.sl tRat A)] (.one (.sl tRat C)):=by
 refine acall_fn Tryz.func205 (by kernel_rfl) rfl fun E hE=>?_
 conv=>cbv
 refine cL (r:= .one (.bool true)) hE (Formed_ok hT h.tow hA (hx.smalls (by omega)) (by rw[hx.len,List.length_reverse];exact (decide_eq_true rfl).symm)) ⟨rfl,rfl,trivial⟩ ?_
 try conv=>cbv
 intro n8 h8;(have h8:=h8.trans (show _=false from rfl));subst h8;conv=>cbv
 intro n11 h11;have e11:=h11.eq;have f11:=h11.le;conv=>cbv
 intro n12 h12;conv=>cbv
 cases n12 <;> conv=>cbv
 ·have k12:=eql_f h12
  refine cA hE (norm_v h hT hA hx hxe hp0 hq0 hs hC) ?_
  try conv=>cbv
  exact fA ⟨⟨rfl,rfl,trivial⟩,trivial⟩ rfl (by simp)
 ·have k12:=eql_t h12
  exact absurd (List.length_eq_zero_iff.1 (by omega)) (hT ▸ tw_ne r u)
theorem set_zero {n:Nat} (h:0<n):(List.replicate n (rp 0)).set 0 (rp q)=rp q::List.replicate (n-1) (rp 0):=by
 cases n with
 | zero=>omega
 | succ n=>rfl
theorem em_rat (h:Red u):em u (Re.ofRat q)=(em u 0).set 0 (rp q):=by
 rw[em,co_rat q h,em_zero h,rps,rps,List.map_cons,List.map_replicate,List.map_replicate,set_zero (pow_pos2 _)]
theorem em_root (h:Red (r::u)):em (r::u) (rt u r)=(em (r::u) 0).set (2^u.length) (rp 1):=by
 have e:rt u r=0+1*rt u r:=by grind
 rw[em_app h (in_zero u) (in_one u) e,em_app (x:=0) h (in_zero u) (in_zero u) (by grind),List.set_append_right _ _ (by rw[em_len (in_zero u)];omega),em_len (in_zero u),Nat.sub_self]
 congr 1
 exact em_rat (q:=1) h.1
theorem FromRatv {b1 b2:Bool} {l1 l2:List UInt32} (h:Twr R u) (hT:T=tw u) (hq:IsR q b1 l1 b2 l2) (hs:SmallQ q) (hC:C=em u (Re.ofRat q)):CF 151 [.one (.sl (.sl tRat) T),.agg [.bool b1,.sl .u32 l1,.bool b2,.sl .u32 l2]] (.one (.sl tRat C)):=by
 refine acall_fn Tryz.func151 (by kernel_rfl) rfl fun E hE=>?_
 conv=>cbv
 refine cA hE (radicands_ok hT h.tow rfl) ?_
 try conv=>cbv
 intro n8 h8;(have h8:=h8.trans (show _=false from rfl));subst h8;conv=>cbv
 have hqs:=hq.small hs
 refine cL hE (RValid_ok (validQ_iff.2 ⟨q,hq⟩).symm (by omega) (by omega)) ⟨⟨rfl,rfl,rfl,rfl,trivial⟩,trivial⟩ ?_
 try conv=>cbv
 intro n12 h12;(have h12:=h12.trans (show _=false from rfl));subst h12;conv=>cbv
 have hTl:T.length=u.length:=by rw[hT,tw_len]
 have h16:=h.ht
 intro n15 h15;have e15:=h15.eq;have f15:=h15.le;conv=>cbv
 intro n16 h16;conv=>cbv
 refine⟨fun _=>by omega,?_⟩
 obtain⟨w17,hw17⟩:∃z:LR,z=em u (0):=⟨_,rfl⟩
 obtain⟨w17n,hw17n⟩:∃n:Nat,n=w17.length:=⟨_,rfl⟩
 refine cL hE (zerosv_own h (shl_one h16 (e15.trans (congrArg _ hTl)) (by omega)) hw17 hw17n) ⟨rfl,trivial⟩ ?_
 try conv=>cbv
 have hl17:w17.length=2^u.length:=by rw[hw17,em_len (in_zero u)]
 have hpp:=pow_pos2 u.length
 refine⟨fun _=>⟨by omega,by omega⟩,?_⟩
 intro j20 hj20;conv=>cbv
 refine⟨((b1,l1),(b2,l2)),fun _=>⟨by show _<List.length (α:=(el tRat)) w17;(first | omega | (simp;omega)),by first | exact⟨rfl,trivial⟩ | exact⟨rfl,rfl,trivial⟩ | exact⟨rfl,rfl,rfl,rfl,trivial⟩ | simp[allC,leC,cells]⟩,?_⟩
 intro (l20:LR) (hl20:l20=List.set (α:=(el tRat)) w17 j20 (((b1,l1),(b2,l2))));have gl20:l20.length=w17.length:=by rw[hl20,List.length_set]
 conv=>cbv
 have hfin:C=l20:=by rw[hC,em_rat h.red,hl20,hw17,hq.rp];congr 1;omega
 exact fA ⟨⟨rfl,.inl ⟨_,rfl,by omega,congrArg _ (by rw[hfin,List.drop_zero,List.take_of_length_le (by omega)])⟩,trivial⟩,trivial⟩ rfl (by simp)
theorem Rootv {k:Int} (h:Twr R (r::u)) (hT:T=tw (r::u)) (hk:NatIs k u.length) (hC:C=em (r::u) (rt u r)):CF 139 [.one (.sl (.sl tRat) T),.one (.int .i64 k)] (.one (.sl tRat C)):=by
 have ek:=hk.eq
 have hTl:T.length=u.length+1:=by rw[hT,tw_len];rfl
 have hht:=h.ht
 have hht2:(r::u).length=u.length+1:=rfl
 refine acall_fn Tryz.func139 (by kernel_rfl) rfl fun E hE=>?_
 conv=>cbv
 refine cA hE (radicands_ok hT h.tow rfl) ?_
 try conv=>cbv
 intro n8 h8;(have h8:=h8.trans (show _=false from rfl));subst h8;conv=>cbv
 intro n11 h11;conv=>cbv
 cases n11 <;> conv=>cbv
 ·have k11:=lss_f h11
  intro n16 h16;have e16:=h16.eq;have f16:=h16.le;conv=>cbv
  intro n17 h17;conv=>cbv
  cases n17 <;> conv=>cbv
  ·have k17:=geq_f h17
   intro n20 h20;have e20:=h20.eq;have f20:=h20.le;conv=>cbv
   intro n21 h21;conv=>cbv
   refine⟨fun _=>by omega,?_⟩
   obtain⟨w22,hw22⟩:∃z:LR,z=em (r::u) (0):=⟨_,rfl⟩
   obtain⟨w22n,hw22n⟩:∃n:Nat,n=w22.length:=⟨_,rfl⟩
   refine cL hE (zerosv_own h (shl_one h21 (e20.trans (congrArg _ hTl)) (by omega)) hw22 hw22n) ⟨rfl,trivial⟩ ?_
   try conv=>cbv
   intro n25 h25;conv=>cbv
   refine⟨fun _=>by omega,?_⟩
   obtain⟨zb26,zl26,yb26,yl26,hz26⟩:=isR_ex (((1:Int):Rat))
   refine cL hE (RFromInt_ok (by omega) rfl hz26) ⟨rfl,trivial⟩ ?_
   try conv=>cbv
   have hl22:w22.length=2^(r::u).length:=by rw[hw22,em_len (in_zero _)]
   have hpp:=pow_pos2 u.length
   have hpl:=pow_len r u
   have hn25:=(shl_one h25 ek (by omega)).eq
   refine⟨fun _=>⟨by omega,by omega⟩,?_⟩
   intro j27 hj27;conv=>cbv
   refine⟨((zb26,zl26),(yb26,yl26)),fun _=>⟨by show _<List.length (α:=(el tRat)) w22;(first | omega | (simp;omega)),by first | exact⟨rfl,trivial⟩ | exact⟨rfl,rfl,trivial⟩ | exact⟨rfl,rfl,rfl,rfl,trivial⟩ | simp[allC,leC,cells]⟩,?_⟩
   intro (l27:LR) (hl27:l27=List.set (α:=(el tRat)) w22 j27 (((zb26,zl26),(yb26,yl26))));have gl27:l27.length=w22.length:=by rw[hl27,List.length_set]
   conv=>cbv
   refine⟨fun _=>rfl,?_⟩
   have hfin:C=l27:=by rw[hC,em_root h.red,hl27,hw22];congr 1 <;> first | omega | exact hz26.rp
   exact fA ⟨⟨rfl,.inl ⟨_,rfl,by omega,congrArg _ (by rw[hfin,List.drop_zero,List.take_of_length_le (by omega)])⟩,trivial⟩,trivial⟩ rfl (by simp)
  ·have k17:=geq_t h17
   exact absurd k17 (by omega)
 ·have k11:=lss_t h11
  exact absurd k11 (by omega)
end Go.Abs
