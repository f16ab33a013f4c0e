/- Part 33 of a proof. Conditions: each theorem's own. -/
import Derived.Test.YtpccjlcpbehglaaGreatPk31
set_option linter.all false
set_option maxHeartbeats 8000000
open Go.Proofs
namespace Go.Abs
open Go.RowKit
variable {A B C X Y Z:LR} {R s t zn:Nat} {T:List LR} {p:Rat} {x y:Re}
theorem Zero_t {u:List (List Rat)} (h:Red u) (hx:In u x) (hX:X=em u x) (h0:x=0):CF 152 [.one (.sl tRat X)] (.one (.bool true)):=
 Zero_ok hX (decide_eq_true ((co_all h hx).2 h0)).symm
theorem Zero_f {u:List (List Rat)} (h:Red u) (hx:In u x) (hX:X=em u x) (h0:x≠0):CF 152 [.one (.sl tRat X)] (.one (.bool false)):=
 Zero_ok hX (decide_eq_false (fun k=>h0 ((co_all h hx).1 k))).symm
theorem halves_v {u:List (List Rat)} {r:List Rat} {p q:Re} (h:Red (r::u)) (hp:In u p) (hq:In u q) (hx:x=p+q*rt u r) (hX:X=em (r::u) x) (hA:A=em u p) (hB:B=em u q):
  CF 183 [.one (.sl tRat X)] (.tup [(false,[.sl tRat A]),(false,[.sl tRat B])]):=
 halves_ok (by rw[hX,hA,em_lo h hp hq hx]) (by rw[hX,hB,em_hi h hp hq hx])
theorem tw_ne (r:List Rat) (u:List (List Rat)):tw (r::u)≠[]:=by rw[tw_cons];simp
theorem split_v {X A:List LR} {u:List (List Rat)} {r:List Rat} (hX:X=tw (r::u)) (hA:A=tw u) (hB:B=rps r):
  CF 182 [.one (.sl (.sl tRat) X)] (.tup [(false,[.sl (.sl tRat) A]),(false,[.sl tRat B])]):=
 split_ok (by rw[hX];exact tw_ne r u) (by rw[hX,hA,tw_take]) (by rw[hX,hB,tw_last])
theorem pow_small {n:Nat} (h:n≤16):2^n≤1000000:=Nat.le_trans (pow16 h) (by decide)
theorem addv_own {u:List (List Rat)} (h:Twr R u) (hX:X=em u x) (hY:Y=em u y) (hx:El u s x) (hy:El u t y) (hs:s≤60000000000000) (ht:t≤60000000000000) (hZ:Z=em u (x+y)) (hzn:zn=Z.length):
  CF 159 [.one (.sl tRat X),.one (.sl tRat Y)] (.one (.own tRat Z zn)):=
 add_own hX hY (hx.smalls hs) (hy.smalls ht) (by rw[hx.len,hy.len]) (by rw[hx.len];exact pow_small h.ht) (by rw[hZ,em_add h.red hx.mem hy.mem]) hzn
theorem addv {u:List (List Rat)} (h:Twr R u) (hX:X=em u x) (hY:Y=em u y) (hx:El u s x) (hy:El u t y) (hs:s≤60000000000000) (ht:t≤60000000000000) (hZ:Z=em u (x+y)):
 CF 159 [.one (.sl tRat X),.one (.sl tRat Y)] (.one (.sl tRat Z)):=acall_plain (addv_own h hX hY hx hy hs ht hZ rfl)
theorem negv {u:List (List Rat)} (h:Twr R u) (hX:X=em u x) (hx:El u s x) (hs:s≤60000000000000) (hZ:Z=em u (-x)):
  CF 163 [.one (.sl tRat X)] (.one (.sl tRat Z)):=
 neg_ok hX (hx.smalls hs) (by rw[hx.len];exact pow_small h.ht) (by rw[hZ,em_neg h.red hx.mem])
theorem zerosv_own {a:Int} {u:List (List Rat)} (h:Twr R u) (ha:NatIs a (2^u.length)) (hZ:Z=em u 0) (hzn:zn=Z.length):
  CF 181 [.one (.int .i64 a)] (.one (.own tRat Z zn)):=
 zeros_own ha (pow_small h.ht) (by rw[hZ,em_zero h.red]) hzn
theorem one_rp {x:el tRat} (hA:A=[rp p]) (hx:A[0]? =some x):IsR p x.1.1 x.1.2 x.2.1 x.2.2:=by
 rw[hA] at hx
 rw[←Option.some.inj hx];exact isR_rp p
theorem mul_base {q:Rat} (hT:T=[]) (hA:A=[rp p]) (hB:B=[rp q]) (hs:SmallQ p) (ht:SmallQ q) (hC:C=[rp (p*q)]) (hzn:zn=C.length):CF 129 [.one (.sl (.sl tRat) T),.one (.sl tRat A),.one (.sl tRat B)] (.one (.own tRat C zn)):=by
 refine acall_fn Tryz.func129 (by kernel_rfl) rfl fun E hE=>?_
 conv=>cbv
 refine .inr ?_
 intro n16 h16;have e16:=h16.eq;have f16:=h16.le;conv=>cbv
 intro n17 h17;conv=>cbv
 cases n17 <;> conv=>cbv
 ·have k17:=eql_f h17
  exact absurd (by rw[e16,hT];rfl) k17
 ·have k17:=eql_t h17
  have hAl:A.length=1:=by rw[hA];rfl
  have hBl:B.length=1:=by rw[hB];rfl
  obtain⟨x19,hx19⟩:=get_ex (l:=A) (i:=0) (by omega)
  refine⟨x19,fun _=>⟨by omega,hx19⟩,?_⟩
  try conv=>cbv
  obtain⟨x22,hx22⟩:=get_ex (l:=B) (i:=0) (by omega)
  refine⟨x22,fun _=>⟨by omega,hx22⟩,?_⟩
  try conv=>cbv
  have hp:=one_rp hA hx19
  have hq:=one_rp hB hx22
  obtain⟨zb24,zl24,yb24,yl24,hz24⟩:=isR_ex (p*q)
  refine cA hE (RMul_ok hp hq hs ht rfl hz24) ?_
  try conv=>cbv
  refine⟨[((zb24,zl24),(yb24,yl24))],fun _=>⟨rfl,by decide,rfl,⟨rfl,by first | exact⟨rfl,trivial⟩ | exact⟨rfl,rfl,trivial⟩ | exact⟨rfl,rfl,rfl,rfl,trivial⟩ | simp[allC,leC,cells],trivial⟩⟩,.inl ?_⟩
  try conv=>cbv
  refine⟨fun _=>rfl,?_⟩
  exact fA ⟨⟨rfl,.inr (.inl ⟨_,_,by decide,rfl,rfl,rfl,rfl,own_eq (by rw[hC,hz24.rp]) (by rw[hzn,hC];rfl)⟩),trivial⟩,trivial⟩ rfl (by simp)
theorem mul_z1 {u:List (List Rat)} (h:Twr R u) (hT:T≠[]) (hA:A=em u x) (hB:B=em u y) (hx:In u x) (hy:In u y) (h0:x=0) (hC:C=em u 0) (hzn:zn=C.length):CF 129 [.one (.sl (.sl tRat) T),.one (.sl tRat A),.one (.sl tRat B)] (.one (.own tRat C zn)):=by
 refine acall_fn Tryz.func129 (by kernel_rfl) rfl fun E hE=>?_
 conv=>cbv
 refine .inr ?_
 intro n16 h16;have e16:=h16.eq;have f16:=h16.le;conv=>cbv
 intro n17 h17;conv=>cbv
 cases n17 <;> conv=>cbv
 ·have k17:=eql_f h17
  refine cA hE (Zero_t h.red hx hA h0) ?_
  try conv=>cbv
  have hAl:A.length=2^u.length:=by rw[hA,em_len hx]
  intro n34 h34;have e34:=h34.eq;have f34:=h34.le;conv=>cbv
  obtain⟨w35,hw35⟩:∃z:LR,z=em u (0):=⟨_,rfl⟩
  obtain⟨w35n,hw35n⟩:∃n:Nat,n=w35.length:=⟨_,rfl⟩
  refine cL (r:= .one (.own tRat w35 w35n)) hE (zerosv_own h (NatIs.of (by rw[e34,hAl])) hw35 hw35n) ⟨rfl,trivial⟩ ?_
  try conv=>cbv
  exact fA ⟨⟨rfl,.inr (.inl ⟨_,_,by decide,rfl,rfl,hw35n,rfl,own_eq (by rw[hC,hw35]) (by rw[hzn,hC,←hw35])⟩),trivial⟩,trivial⟩ rfl (by simp)
 ·have k17:=eql_t h17
  exact absurd (List.length_eq_zero_iff.1 (by omega)) hT
theorem mul_z2 {u:List (List Rat)} (h:Twr R u) (hT:T≠[]) (hA:A=em u x) (hB:B=em u y) (hx:In u x) (hy:In u y) (h0:y=0) (h1:x≠0) (hC:C=em u 0) (hzn:zn=C.length):CF 129 [.one (.sl (.sl tRat) T),.one (.sl tRat A),.one (.sl tRat B)] (.one (.own tRat C zn)):=by
 refine acall_fn Tryz.func129 (by kernel_rfl) rfl fun E hE=>?_
 conv=>cbv
 refine .inr ?_
 intro n16 h16;have e16:=h16.eq;have f16:=h16.le;conv=>cbv
 intro n17 h17;conv=>cbv
 cases n17 <;> conv=>cbv
 ·have k17:=eql_f h17
  refine cA hE (Zero_f h.red hx hA h1) ?_
  try conv=>cbv
  refine cA hE (Zero_t h.red hy hB h0) ?_
  try conv=>cbv
  have hAl:A.length=2^u.length:=by rw[hA,em_len hx]
  intro n34 h34;have e34:=h34.eq;have f34:=h34.le;conv=>cbv
  obtain⟨w35,hw35⟩:∃z:LR,z=em u (0):=⟨_,rfl⟩
  obtain⟨w35n,hw35n⟩:∃n:Nat,n=w35.length:=⟨_,rfl⟩
  refine cL (r:= .one (.own tRat w35 w35n)) hE (zerosv_own h (NatIs.of (by rw[e34,hAl])) hw35 hw35n) ⟨rfl,trivial⟩ ?_
  try conv=>cbv
  exact fA ⟨⟨rfl,.inr (.inl ⟨_,_,by decide,rfl,rfl,hw35n,rfl,own_eq (by rw[hC,hw35]) (by rw[hzn,hC,←hw35])⟩),trivial⟩,trivial⟩ rfl (by simp)
 ·have k17:=eql_t h17
  exact absurd (List.length_eq_zero_iff.1 (by omega)) hT
def MulC (f:FuncId) (R:Nat) (u:List (List Rat)):Prop:=∀{T:List LR} {A B C:LR} {zn s t:Nat} {x y:Re},T=tw u→A=em u x→B=em u y→El u s x→El u t y→s+t+EE u.length R≤60000000000000→C=em u (x*y)→zn=C.length→
 CF f [.one (.sl (.sl tRat) T),.one (.sl tRat A),.one (.sl tRat B)] (.one (.own tRat C zn))
theorem mul_step {u:List (List Rat)} {r:List Rat} (h:Twr R (r::u)) (ih:MulC 129 R u) (hT:T=tw (r::u)) (hA:A=em (r::u) x) (hB:B=em (r::u) y) (hx:El (r::u) s x) (hy:El (r::u) t y) (hst:s+t+EE (r::u).length R≤60000000000000) (h0:x≠0) (h1:y≠0) (hC:C=em (r::u) (x*y)) (hzn:zn=C.length):CF 129 [.one (.sl (.sl tRat) T),.one (.sl tRat A),.one (.sl tRat B)] (.one (.own tRat C zn)):=by
 obtain⟨p,q,hxe,hp,hq⟩:=El.parts h.red hx
 obtain⟨a,b,hye,ha,hb⟩:=El.parts h.red hy
 have hEE:EE (r::u).length R=2*EE u.length R+R+2:=rfl
 have hrr:=El.rad h
 have hR:=h.hR
 have hsq:=rt_sq h.red
 refine acall_fn Tryz.func129 (by kernel_rfl) rfl fun E hE=>?_
 conv=>cbv
 refine .inr ?_
 intro n16 h16;have e16:=h16.eq;have f16:=h16.le;conv=>cbv
 intro n17 h17;conv=>cbv
 cases n17 <;> conv=>cbv
 ·have k17:=eql_f h17
  refine cA hE (Zero_f h.red hx.mem hA h0) ?_
  try conv=>cbv
  refine cA hE (Zero_f h.red hy.mem hB h1) ?_
  try conv=>cbv
  obtain⟨w39,hw39⟩:∃z:List LR,z=tw u:=⟨_,rfl⟩
  obtain⟨w40,hw40⟩:∃z:LR,z=rps r:=⟨_,rfl⟩
  refine cA hE (split_v hT hw39 hw40) ?_
  try conv=>cbv
  obtain⟨w44,hw44⟩:∃z:LR,z=em u p:=⟨_,rfl⟩
  obtain⟨w45,hw45⟩:∃z:LR,z=em u q:=⟨_,rfl⟩
  refine cA hE (halves_v h.red hp.mem hq.mem hxe hA hw44 hw45) ?_
  try conv=>cbv
  obtain⟨w49,hw49⟩:∃z:LR,z=em u a:=⟨_,rfl⟩
  obtain⟨w50,hw50⟩:∃z:LR,z=em u b:=⟨_,rfl⟩
  refine cA hE (halves_v h.red ha.mem hb.mem hye hB hw49 hw50) ?_
  try conv=>cbv
  obtain⟨w54,hw54⟩:∃z:LR,z=em u (p*a):=⟨_,rfl⟩
  refine cL hE (acall_plain (ih hw39 hw44 hw49 hp ha (by omega) hw54 rfl)) ⟨rfl,rfl,rfl,trivial⟩ ?_
  try conv=>cbv
  obtain⟨w59,hw59⟩:∃z:LR,z=em u (q*b):=⟨_,rfl⟩
  refine cL hE (acall_plain (ih hw39 hw45 hw50 hq hb (by omega) hw59 rfl)) ⟨rfl,rfl,rfl,trivial⟩ ?_
  try conv=>cbv
  obtain⟨w61,hw61⟩:∃z:LR,z=em u (q*b*evR u r):=⟨_,rfl⟩
  refine cL hE (acall_plain (ih hw39 hw59 (hw40.trans (em_rad h.red)) (hq.mul h.tail hb) hrr (by omega) hw61 rfl)) ⟨rfl,rfl,rfl,trivial⟩ ?_
  try conv=>cbv
  obtain⟨w62,hw62⟩:∃z:LR,z=em u (p*a+q*b*evR u r):=⟨_,rfl⟩
  obtain⟨w62n,hw62n⟩:∃n:Nat,n=w62.length:=⟨_,rfl⟩
  refine cL hE (addv_own h.tail hw54 hw61 (hp.mul h.tail ha) ((hq.mul h.tail hb).mul h.tail hrr) (by omega) (by omega) hw62 hw62n) ⟨rfl,rfl,trivial⟩ ?_
  try conv=>cbv
  obtain⟨w67,hw67⟩:∃z:LR,z=em u (p*b):=⟨_,rfl⟩
  refine cL hE (acall_plain (ih hw39 hw44 hw50 hp hb (by omega) hw67 rfl)) ⟨rfl,rfl,rfl,trivial⟩ ?_
  try conv=>cbv
  obtain⟨w71,hw71⟩:∃z:LR,z=em u (q*a):=⟨_,rfl⟩
  refine cL hE (acall_plain (ih hw39 hw45 hw49 hq ha (by omega) hw71 rfl)) ⟨rfl,rfl,rfl,trivial⟩ ?_
  try conv=>cbv
  obtain⟨w72,hw72⟩:∃z:LR,z=em u (p*b+q*a):=⟨_,rfl⟩
  refine cL hE (addv h.tail hw67 hw71 (hp.mul h.tail hb) (hq.mul h.tail ha) (by omega) (by omega) hw72) ⟨rfl,rfl,trivial⟩ ?_
  try conv=>cbv
  have hl62:w62.length=2^u.length:=by rw[hw62,em_len (in_add (hp.mul h.tail ha).mem ((hq.mul h.tail hb).mul h.tail hrr).mem)]
  have hl72:w72.length=2^u.length:=by rw[hw72,em_len (in_add (hp.mul h.tail hb).mem (hq.mul h.tail ha).mem)]
  have hp16:=pow16 h.tail.ht
  refine .inl ⟨w72,fun _=>⟨rfl,hw62n,rfl,by show (w62.length+w72.length)*64≤140737488355328;(try simp only[List.length_take,List.length_drop]);omega⟩,?_⟩
  intro (l73:LR) n73 ql73;have hl73:l73=(w62:LR)++(w72:LR):=ql73.1;have hn73:n73=List.length (α:=(el tRat)) l73:=ql73.2;conv=>cbv
  have hfin:C=l73:=by rw[hC,hl73,hw62,hw72];exact em_app h.red (in_add (hp.mul h.tail ha).mem ((hq.mul h.tail hb).mul h.tail hrr).mem) (in_add (hp.mul h.tail hb).mem (hq.mul h.tail ha).mem) (by rw[hxe,hye];clear ih;grind)
  exact fA ⟨⟨rfl,.inr (.inl ⟨_,_,by decide,rfl,rfl,hn73,rfl,own_eq (hfin) (by rw[hzn,hfin])⟩),trivial⟩,trivial⟩ rfl (by simp)
 ·have k17:=eql_t h17
  exact absurd (List.length_eq_zero_iff.1 (by omega)) (hT ▸ tw_ne r u)
theorem mulC {u:List (List Rat)} (h:Twr R u):MulC 129 R u:=by
 induction u with
 | nil=>
  intro T A B C zn s t x y hT hA hB hx hy hst hC hzn
  obtain⟨p,rfl⟩:=in_nil.1 hx.mem
  obtain⟨q,rfl⟩:=in_nil.1 hy.mem
  rw[em_nil] at hA hB
  rw[←Re.ofRat_mul,em_nil] at hC
  have hp:=hx.smalls (by omega)
  have hq:=hy.smalls (by omega)
  rw[co_nil] at hp hq
  exact mul_base hT hA hB (hp _ List.mem_cons_self) (hq _ List.mem_cons_self) hC hzn
 | cons r u ih=>
  intro T A B C zn s t x y hT hA hB hx hy hst hC hzn
  by_cases h0:x=0
  ·refine mul_z1 h (hT ▸ tw_ne r u) hA hB hx.mem hy.mem h0 ?_ hzn
   rw[hC,h0];congr 1;grind
  ·by_cases h1:y=0
   ·refine mul_z2 h (hT ▸ tw_ne r u) hA hB hx.mem hy.mem h1 h0 ?_ hzn
    rw[hC,h1];congr 1;grind
   ·exact mul_step h (ih h.tail) hT hA hB hx hy hst h0 h1 hC hzn
theorem mulv {u:List (List Rat)} (h:Twr R u) (hT:T=tw u) (hA:A=em u x) (hB:B=em u y) (hx:El u s x) (hy:El u t y) (hst:s+t+EE u.length R≤60000000000000) (hC:C=em u (x*y)):
 CF 129 [.one (.sl (.sl tRat) T),.one (.sl tRat A),.one (.sl tRat B)] (.one (.sl tRat C)):=acall_plain (mulC h hT hA hB hx hy hst hC rfl)
end Go.Abs
