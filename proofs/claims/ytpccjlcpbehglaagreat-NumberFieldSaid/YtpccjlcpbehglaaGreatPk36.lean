/- Part 37 of a proof. Conditions: each theorem's own. -/
import Derived.Shelf.Spec.SlicesGrow
import Derived.Test.YtpccjlcpbehglaaGreatPk32
import Derived.Test.YtpccjlcpbehglaaGreatPk35
set_option linter.all false
set_option maxHeartbeats 8000000
open Go.Proofs
namespace Go.Abs
open Go.RowKit
variable {A B C X Y Z:LR} {R s t zn:Nat} {T:List LR} {a b p q x y:Re} {r:List Rat} {u:List (List Rat)}
theorem YZero_t (h:Red u) (hx:In u x) (hX:X=em u x) (h0:x=0):CF 35 [.one (.sl tRat X)] (.one (.bool true)):=
 YZero_ok hX (decide_eq_true ((co_all h hx).2 h0)).symm
theorem YZero_f (h:Red u) (hx:In u x) (hX:X=em u x) (h0:x≠0):CF 35 [.one (.sl tRat X)] (.one (.bool false)):=
 YZero_ok hX (decide_eq_false (fun k=>h0 ((co_all h hx).1 k))).symm
theorem Yaddv_own (h:Twr R u) (hX:X=em u x) (hY:Y=em u y) (hx:El u s x) (hy:El u t y) (hs:s≤60000000000000) (ht:t≤60000000000000) (hZ:Z=em u (x+y)) (hzn:zn=Z.length):
  CF 97 [.one (.sl (.sl tRat) T),.one (.sl tRat X),.one (.sl tRat Y)] (.one (.own tRat Z zn)):=
 YAdd_own hX hY (hx.smalls hs) (hy.smalls ht) (by rw[hx.len,hy.len]) (by rw[hx.len];exact pow_small h.ht) (by rw[hZ,em_add h.red hx.mem hy.mem]) hzn
theorem Yaddv (h:Twr R u) (hX:X=em u x) (hY:Y=em u y) (hx:El u s x) (hy:El u t y) (hs:s≤60000000000000) (ht:t≤60000000000000) (hZ:Z=em u (x+y)):
 CF 97 [.one (.sl (.sl tRat) T),.one (.sl tRat X),.one (.sl tRat Y)] (.one (.sl tRat Z)):=acall_plain (Yaddv_own h hX hY hx hy hs ht hZ rfl)
theorem Ynegv (h:Twr R u) (hX:X=em u x) (hx:El u s x) (hZ:Z=em u (-x)):
  CF 98 [.one (.sl (.sl tRat) T),.one (.sl tRat X)] (.one (.sl tRat Z)):=
 YNeg_rps hX (by rw[hx.len];exact pow_small h.ht) (by rw[hZ,em_neg h.red hx.mem])
theorem Ysubv (h:Twr R u) (hX:X=em u x) (hY:Y=em u y) (hx:El u s x) (hy:El u t y) (hs:s≤60000000000000) (ht:t≤60000000000000) (hZ:Z=em u (x-y)):CF 36 [.one (.sl (.sl tRat) T),.one (.sl tRat X),.one (.sl tRat Y)] (.one (.sl tRat Z)):=by
 refine acall_fn Tryz.func36 (by kernel_rfl) rfl fun E hE=>?_
 conv=>cbv
 obtain⟨w11,hw11⟩:∃z:LR,z=em u (-y):=⟨_,rfl⟩
 refine cA hE (Ynegv h hY hy hw11) ?_
 try conv=>cbv
 obtain⟨w12,hw12⟩:∃z:LR,z=em u (x+ -y):=⟨_,rfl⟩
 refine cA hE (Yaddv h hX hw11 hx (hy.neg h.red) hs ht hw12) ?_
 try conv=>cbv
 exact fA ⟨⟨rfl,congrArg _ (by rw[hZ,hw12,show x-y=x+ -y by grind]),trivial⟩,trivial⟩ rfl (by simp)
theorem Ymul_base {p q:Rat} (hT:T=[]) (hA:A=[rp p]) (hB:B=[rp q]) (hs:SmallQ p) (ht:SmallQ q) (hC:C=[rp (p*q)]) (hzn:zn=C.length):CF 68 [.one (.sl (.sl tRat) T),.one (.sl tRat A),.one (.sl tRat B)] (.one (.own tRat C zn)):=by
 refine acall_fn Tryz.func68 (by kernel_rfl) rfl fun E hE=>?_
 conv=>cbv
 intro n14 h14;have e14:=h14.eq;have f14:=h14.le;conv=>cbv
 intro n15 h15;conv=>cbv
 cases n15 <;> conv=>cbv
 ·have k15:=eql_f h15
  exact absurd (by rw[e14,hT];rfl) k15
 ·have k15:=eql_t h15
  have hAl:A.length=1:=by rw[hA];rfl
  have hBl:B.length=1:=by rw[hB];rfl
  obtain⟨x17,hx17⟩:=get_ex (l:=A) (i:=0) (by omega)
  refine⟨x17,fun _=>⟨by omega,hx17⟩,?_⟩
  try conv=>cbv
  obtain⟨x20,hx20⟩:=get_ex (l:=B) (i:=0) (by omega)
  refine⟨x20,fun _=>⟨by omega,hx20⟩,?_⟩
  try conv=>cbv
  have hp:=one_rp hA hx17
  have hq:=one_rp hB hx20
  obtain⟨zb22,zl22,yb22,yl22,hz22⟩:=isR_ex (p*q)
  refine cA hE (YRMul_ok hp hq hs ht rfl hz22) ?_
  try conv=>cbv
  refine⟨[((zb22,zl22),(yb22,yl22))],fun _=>⟨rfl,by decide,rfl,⟨rfl,by first | exact⟨rfl,trivial⟩ | exact⟨rfl,rfl,trivial⟩ | exact⟨rfl,rfl,rfl,rfl,trivial⟩ | simp[allC,leC,cells],trivial⟩⟩,.inl ?_⟩
  try conv=>cbv
  refine⟨fun _=>rfl,?_⟩
  exact fA ⟨⟨rfl,.inr (.inl ⟨_,_,by decide,rfl,rfl,rfl,rfl,own_eq (by rw[hC,hz22.rp]) (by rw[hzn,hC];rfl)⟩),trivial⟩,trivial⟩ rfl (by simp)
def YMulC (R:Nat) (u:List (List Rat)):Prop:=∀{T:List LR} {A B C:LR} {zn s t:Nat} {x y:Re},T=tw u→A=em u x→B=em u y→El u s x→El u t y→s+t+EE u.length R≤60000000000000→C=em u (x*y)→zn=C.length→
 CF 68 [.one (.sl (.sl tRat) T),.one (.sl tRat A),.one (.sl tRat B)] (.one (.own tRat C zn))
theorem Ymul_zz (h:Twr R (r::u)) (ih:YMulC R u) (hT:T=tw (r::u)) (hA:A=em (r::u) x) (hB:B=em (r::u) y) (hx:El (r::u) s x) (hy:El (r::u) t y) (hst:s+t+EE (r::u).length R≤60000000000000) (hxe:x=p+q*rt u r) (hp:El u s p) (hq:El u s q) (hye:y=a+b*rt u r) (ha:El u t a) (hb:El u t b) (h0:q=0) (h1:b=0) (hC:C=em (r::u) (x*y)) (hzn:zn=C.length):CF 68 [.one (.sl (.sl tRat) T),.one (.sl tRat A),.one (.sl tRat B)] (.one (.own tRat C zn)):=by
 have hEE:EE (r::u).length R=2*EE u.length R+R+2:=rfl
 have hrr:=El.rad h
 have hR:=h.hR
 have hsq:=rt_sq h.red
 have hTl:T.length=u.length+1:=by rw[hT,tw_len];rfl
 have hAl:A.length=2^u.length+2^u.length:=by rw[hA,em_len hx.mem,pow_len]
 have hBl:B.length=2^u.length+2^u.length:=by rw[hB,em_len hy.mem,pow_len]
 refine acall_fn Tryz.func68 (by kernel_rfl) rfl fun E hE=>?_
 conv=>cbv
 intro n14 h14;have e14:=h14.eq;have f14:=h14.le;conv=>cbv
 intro n15 h15;conv=>cbv
 cases n15 <;> conv=>cbv
 ·have k15:=eql_f h15
  intro n25 h25;have e25:=h25.eq;have f25:=h25.le;conv=>cbv
  intro n26 h26;conv=>cbv
  refine⟨fun _=>⟨by omega,by omega,i64 (by omega)⟩,?_⟩
  intro n29 h29;have e29:=h29.eq;have f29:=h29.le;conv=>cbv
  intro n30 h30;conv=>cbv
  refine⟨fun _=>i64 (by omega),?_⟩
  intro m31 hm31;conv=>cbv
  refine⟨fun _=>⟨by omega,by omega⟩,?_⟩
  intro b31 hb31;conv=>cbv
  intro l31 hl31;conv=>cbv
  intro n34 h34;have e34:=h34.eq;have f34:=h34.le;conv=>cbv
  intro n35 h35;conv=>cbv
  refine⟨fun _=>i64 (by omega),?_⟩
  obtain⟨x36,hx36⟩:=get_ex (l:=T) (i:=(T.length-1)) (by omega)
  refine⟨x36,fun _=>⟨by omega,by rw[show (n35).toNat=(T.length-1) by omega];exact hx36⟩,?_⟩
  try conv=>cbv
  refine⟨fun _=>rfl,?_⟩
  intro m40 hm40;conv=>cbv
  refine⟨fun _=>⟨by omega,by omega⟩,?_⟩
  rintro a40 b40 ⟨ha40,hb40⟩;conv=>cbv
  intro l40 hl40;conv=>cbv
  have hl40e:l40=em u q:=by rw[hl40,show a40=A.length/2 by omega,hb40,hm40,List.take_length,hA,em_hi h.red hp.mem hq.mem hxe]
  refine cA hE (YZero_t h.tail.red hq.mem hl40e h0) ?_
  try conv=>cbv
  intro m44 hm44;conv=>cbv
  refine⟨fun _=>⟨by omega,by omega⟩,?_⟩
  rintro a44 b44 ⟨ha44,hb44⟩;conv=>cbv
  intro l44 hl44;conv=>cbv
  have hl44e:l44=em u b:=by rw[hl44,show a44=B.length/2 by omega,hb44,hm44,List.take_length,hB,em_hi h.red ha.mem hb.mem hye]
  refine cA hE (YZero_t h.tail.red hb.mem hl44e h1) ?_
  try conv=>cbv
  refine⟨fun _=>rfl,?_⟩
  intro m49 hm49;conv=>cbv
  refine⟨fun _=>⟨by omega,by omega⟩,?_⟩
  intro b49 hb49;conv=>cbv
  intro l49 hl49;conv=>cbv
  intro m52 hm52;conv=>cbv
  refine⟨fun _=>⟨by omega,by omega⟩,?_⟩
  intro b52 hb52;conv=>cbv
  intro l52 hl52;conv=>cbv
  have hl31e:l31=tw u:=by rw[hl31,List.drop_zero,show b31=T.length-1 by omega,hT,tw_take]
  have hl49e:l49=em u p:=by rw[hl49,List.drop_zero,show b49=A.length/2 by omega,hA,em_lo h.red hp.mem hq.mem hxe]
  have hl52e:l52=em u a:=by rw[hl52,List.drop_zero,show b52=B.length/2 by omega,hB,em_lo h.red ha.mem hb.mem hye]
  obtain⟨w53,hw53⟩:∃z:LR,z=em u (p*a):=⟨_,rfl⟩
  obtain⟨w53n,hw53n⟩:∃n:Nat,n=w53.length:=⟨_,rfl⟩
  refine cL hE (ih hl31e hl49e hl52e hp ha (by omega) hw53 hw53n) ⟨rfl,rfl,rfl,trivial⟩ ?_
  try conv=>cbv
  refine⟨fun _=>rfl,?_⟩
  obtain⟨zb60,zl60,yb60,yl60,hz60⟩:=isR_ex (((0:Int):Rat))
  refine cL hE (YRFromInt_ok (by omega) rfl hz60) ⟨rfl,trivial⟩ ?_
  try conv=>cbv
  obtain⟨w61,hw61⟩:∃z:LR,z=em u (0):=⟨_,rfl⟩
  refine cL (r:= .one (.sl tRat w61)) hE (YFromRat_ok h.tail hl31e hz60 (by rw[show Re.ofRat ((0:Int):Rat)=0 from rfl];exact hw61)) ⟨rfl,⟨rfl,rfl,rfl,rfl,trivial⟩,trivial⟩ ?_
  try conv=>cbv
  have hl53:w53.length=2^u.length:=by rw[hw53,em_len (hp.mul h.tail ha).mem]
  have hp16:=pow16 h.tail.ht
  have hl61:w61.length=2^u.length:=by rw[hw61,em_len (in_zero u)]
  refine .inl ⟨w61,fun _=>⟨rfl,hw53n,rfl,by show (w53.length+w61.length)*64≤140737488355328;(try simp only[List.length_take,List.length_drop]);omega⟩,?_⟩
  intro (l62:LR) n62 ql62;have hl62:l62=(w53:LR)++(w61:LR):=ql62.1;have hn62:n62=List.length (α:=(el tRat)) l62:=ql62.2;conv=>cbv
  have hfin:C=l62:=by rw[hC,hl62,hw53,hw61];exact em_app h.red (hp.mul h.tail ha).mem (in_zero u) (by rw[hxe,hye,h0,h1];clear ih;grind)
  exact fA ⟨⟨rfl,.inr (.inl ⟨_,_,by decide,rfl,rfl,hn62,rfl,own_eq (hfin) (by rw[hzn,hfin])⟩),trivial⟩,trivial⟩ rfl (by simp)
 ·have k15:=eql_t h15
  exact absurd k15 (by omega)
theorem Ymul_zn (h:Twr R (r::u)) (ih:YMulC R u) (hT:T=tw (r::u)) (hA:A=em (r::u) x) (hB:B=em (r::u) y) (hx:El (r::u) s x) (hy:El (r::u) t y) (hst:s+t+EE (r::u).length R≤60000000000000) (hxe:x=p+q*rt u r) (hp:El u s p) (hq:El u s q) (hye:y=a+b*rt u r) (ha:El u t a) (hb:El u t b) (h0:q=0) (h1:b≠0) (hC:C=em (r::u) (x*y)) (hzn:zn=C.length):CF 68 [.one (.sl (.sl tRat) T),.one (.sl tRat A),.one (.sl tRat B)] (.one (.own tRat C zn)):=by
 have hEE:EE (r::u).length R=2*EE u.length R+R+2:=rfl
 have hrr:=El.rad h
 have hR:=h.hR
 have hsq:=rt_sq h.red
 have hTl:T.length=u.length+1:=by rw[hT,tw_len];rfl
 have hAl:A.length=2^u.length+2^u.length:=by rw[hA,em_len hx.mem,pow_len]
 have hBl:B.length=2^u.length+2^u.length:=by rw[hB,em_len hy.mem,pow_len]
 refine acall_fn Tryz.func68 (by kernel_rfl) rfl fun E hE=>?_
 conv=>cbv
 intro n14 h14;have e14:=h14.eq;have f14:=h14.le;conv=>cbv
 intro n15 h15;conv=>cbv
 cases n15 <;> conv=>cbv
 ·have k15:=eql_f h15
  intro n25 h25;have e25:=h25.eq;have f25:=h25.le;conv=>cbv
  intro n26 h26;conv=>cbv
  refine⟨fun _=>⟨by omega,by omega,i64 (by omega)⟩,?_⟩
  intro n29 h29;have e29:=h29.eq;have f29:=h29.le;conv=>cbv
  intro n30 h30;conv=>cbv
  refine⟨fun _=>i64 (by omega),?_⟩
  intro m31 hm31;conv=>cbv
  refine⟨fun _=>⟨by omega,by omega⟩,?_⟩
  intro b31 hb31;conv=>cbv
  intro l31 hl31;conv=>cbv
  intro n34 h34;have e34:=h34.eq;have f34:=h34.le;conv=>cbv
  intro n35 h35;conv=>cbv
  refine⟨fun _=>i64 (by omega),?_⟩
  obtain⟨x36,hx36⟩:=get_ex (l:=T) (i:=(T.length-1)) (by omega)
  refine⟨x36,fun _=>⟨by omega,by rw[show (n35).toNat=(T.length-1) by omega];exact hx36⟩,?_⟩
  try conv=>cbv
  refine⟨fun _=>rfl,?_⟩
  intro m40 hm40;conv=>cbv
  refine⟨fun _=>⟨by omega,by omega⟩,?_⟩
  rintro a40 b40 ⟨ha40,hb40⟩;conv=>cbv
  intro l40 hl40;conv=>cbv
  have hl40e:l40=em u q:=by rw[hl40,show a40=A.length/2 by omega,hb40,hm40,List.take_length,hA,em_hi h.red hp.mem hq.mem hxe]
  refine cA hE (YZero_t h.tail.red hq.mem hl40e h0) ?_
  try conv=>cbv
  intro m44 hm44;conv=>cbv
  refine⟨fun _=>⟨by omega,by omega⟩,?_⟩
  rintro a44 b44 ⟨ha44,hb44⟩;conv=>cbv
  intro l44 hl44;conv=>cbv
  have hl44e:l44=em u b:=by rw[hl44,show a44=B.length/2 by omega,hb44,hm44,List.take_length,hB,em_hi h.red ha.mem hb.mem hye]
  refine cA hE (YZero_f h.tail.red hb.mem hl44e h1) ?_
  try conv=>cbv
  refine⟨fun _=>rfl,?_⟩
  intro m49 hm49;conv=>cbv
  refine⟨fun _=>⟨by omega,by omega⟩,?_⟩
  intro b49 hb49;conv=>cbv
  intro l49 hl49;conv=>cbv
  intro m52 hm52;conv=>cbv
  refine⟨fun _=>⟨by omega,by omega⟩,?_⟩
  intro b52 hb52;conv=>cbv
  intro l52 hl52;conv=>cbv
  have hl31e:l31=tw u:=by rw[hl31,List.drop_zero,show b31=T.length-1 by omega,hT,tw_take]
  have hl49e:l49=em u p:=by rw[hl49,List.drop_zero,show b49=A.length/2 by omega,hA,em_lo h.red hp.mem hq.mem hxe]
  have hl52e:l52=em u a:=by rw[hl52,List.drop_zero,show b52=B.length/2 by omega,hB,em_lo h.red ha.mem hb.mem hye]
  obtain⟨w53,hw53⟩:∃z:LR,z=em u (p*a):=⟨_,rfl⟩
  obtain⟨w53n,hw53n⟩:∃n:Nat,n=w53.length:=⟨_,rfl⟩
  refine cL hE (ih hl31e hl49e hl52e hp ha (by omega) hw53 hw53n) ⟨rfl,rfl,rfl,trivial⟩ ?_
  try conv=>cbv
  refine⟨fun _=>rfl,?_⟩
  intro m68 hm68;conv=>cbv
  refine⟨fun _=>⟨by omega,by omega⟩,?_⟩
  intro b68 hb68;conv=>cbv
  intro l68 hl68;conv=>cbv
  intro m71 hm71;conv=>cbv
  refine⟨fun _=>⟨by omega,by omega⟩,?_⟩
  rintro a71 b71 ⟨ha71,hb71⟩;conv=>cbv
  intro l71 hl71;conv=>cbv
  have hl68e:l68=em u p:=by rw[hl68,List.drop_zero,show b68=A.length/2 by omega,hA,em_lo h.red hp.mem hq.mem hxe]
  have hl71e:l71=em u b:=by rw[hl71,show a71=B.length/2 by omega,hb71,hm71,List.take_length,hB,em_hi h.red ha.mem hb.mem hye]
  obtain⟨w72,hw72⟩:∃z:LR,z=em u (p*b):=⟨_,rfl⟩
  refine cL hE (acall_plain (ih hl31e hl68e hl71e hp hb (by omega) hw72 rfl)) ⟨rfl,rfl,rfl,trivial⟩ ?_
  try conv=>cbv
  have hl53:w53.length=2^u.length:=by rw[hw53,em_len (hp.mul h.tail ha).mem]
  have hp16:=pow16 h.tail.ht
  have hl72:w72.length=2^u.length:=by rw[hw72,em_len (hp.mul h.tail hb).mem]
  refine .inl ⟨w72,fun _=>⟨rfl,hw53n,rfl,by show (w53.length+w72.length)*64≤140737488355328;(try simp only[List.length_take,List.length_drop]);omega⟩,?_⟩
  intro (l73:LR) n73 ql73;have hl73:l73=(w53:LR)++(w72:LR):=ql73.1;have hn73:n73=List.length (α:=(el tRat)) l73:=ql73.2;conv=>cbv
  refine⟨fun _=>rfl,?_⟩
  have hfin:C=l73:=by rw[hC,hl73,hw53,hw72];exact em_app h.red (hp.mul h.tail ha).mem (hp.mul h.tail hb).mem (by rw[hxe,hye,h0];clear ih;grind)
  exact fA ⟨⟨rfl,.inr (.inl ⟨_,_,by decide,rfl,rfl,hn73,rfl,own_eq (hfin) (by rw[hzn,hfin])⟩),trivial⟩,trivial⟩ rfl (by simp)
 ·have k15:=eql_t h15
  exact absurd k15 (by omega)
theorem Ymul_nz (h:Twr R (r::u)) (ih:YMulC R u) (hT:T=tw (r::u)) (hA:A=em (r::u) x) (hB:B=em (r::u) y) (hx:El (r::u) s x) (hy:El (r::u) t y) (hst:s+t+EE (r::u).length R≤60000000000000) (hxe:x=p+q*rt u r) (hp:El u s p) (hq:El u s q) (hye:y=a+b*rt u r) (ha:El u t a) (hb:El u t b) (h0:q≠0) (h1:b=0) (hC:C=em (r::u) (x*y)) (hzn:zn=C.length):CF 68 [.one (.sl (.sl tRat) T),.one (.sl tRat A),.one (.sl tRat B)] (.one (.own tRat C zn)):=by
 have hEE:EE (r::u).length R=2*EE u.length R+R+2:=rfl
 have hrr:=El.rad h
 have hR:=h.hR
 have hsq:=rt_sq h.red
 have hTl:T.length=u.length+1:=by rw[hT,tw_len];rfl
 have hAl:A.length=2^u.length+2^u.length:=by rw[hA,em_len hx.mem,pow_len]
 have hBl:B.length=2^u.length+2^u.length:=by rw[hB,em_len hy.mem,pow_len]
 refine acall_fn Tryz.func68 (by kernel_rfl) rfl fun E hE=>?_
 conv=>cbv
 intro n14 h14;have e14:=h14.eq;have f14:=h14.le;conv=>cbv
 intro n15 h15;conv=>cbv
 cases n15 <;> conv=>cbv
 ·have k15:=eql_f h15
  intro n25 h25;have e25:=h25.eq;have f25:=h25.le;conv=>cbv
  intro n26 h26;conv=>cbv
  refine⟨fun _=>⟨by omega,by omega,i64 (by omega)⟩,?_⟩
  intro n29 h29;have e29:=h29.eq;have f29:=h29.le;conv=>cbv
  intro n30 h30;conv=>cbv
  refine⟨fun _=>i64 (by omega),?_⟩
  intro m31 hm31;conv=>cbv
  refine⟨fun _=>⟨by omega,by omega⟩,?_⟩
  intro b31 hb31;conv=>cbv
  intro l31 hl31;conv=>cbv
  intro n34 h34;have e34:=h34.eq;have f34:=h34.le;conv=>cbv
  intro n35 h35;conv=>cbv
  refine⟨fun _=>i64 (by omega),?_⟩
  obtain⟨x36,hx36⟩:=get_ex (l:=T) (i:=(T.length-1)) (by omega)
  refine⟨x36,fun _=>⟨by omega,by rw[show (n35).toNat=(T.length-1) by omega];exact hx36⟩,?_⟩
  try conv=>cbv
  refine⟨fun _=>rfl,?_⟩
  intro m40 hm40;conv=>cbv
  refine⟨fun _=>⟨by omega,by omega⟩,?_⟩
  rintro a40 b40 ⟨ha40,hb40⟩;conv=>cbv
  intro l40 hl40;conv=>cbv
  have hl40e:l40=em u q:=by rw[hl40,show a40=A.length/2 by omega,hb40,hm40,List.take_length,hA,em_hi h.red hp.mem hq.mem hxe]
  refine cA hE (YZero_f h.tail.red hq.mem hl40e h0) ?_
  try conv=>cbv
  intro m44 hm44;conv=>cbv
  refine⟨fun _=>⟨by omega,by omega⟩,?_⟩
  rintro a44 b44 ⟨ha44,hb44⟩;conv=>cbv
  intro l44 hl44;conv=>cbv
  have hl44e:l44=em u b:=by rw[hl44,show a44=B.length/2 by omega,hb44,hm44,List.take_length,hB,em_hi h.red ha.mem hb.mem hye]
  refine cA hE (YZero_t h.tail.red hb.mem hl44e h1) ?_
  try conv=>cbv
  refine⟨fun _=>rfl,?_⟩
  intro m49 hm49;conv=>cbv
  refine⟨fun _=>⟨by omega,by omega⟩,?_⟩
  intro b49 hb49;conv=>cbv
  intro l49 hl49;conv=>cbv
  intro m52 hm52;conv=>cbv
  refine⟨fun _=>⟨by omega,by omega⟩,?_⟩
  intro b52 hb52;conv=>cbv
  intro l52 hl52;conv=>cbv
  have hl31e:l31=tw u:=by rw[hl31,List.drop_zero,show b31=T.length-1 by omega,hT,tw_take]
  have hl49e:l49=em u p:=by rw[hl49,List.drop_zero,show b49=A.length/2 by omega,hA,em_lo h.red hp.mem hq.mem hxe]
  have hl52e:l52=em u a:=by rw[hl52,List.drop_zero,show b52=B.length/2 by omega,hB,em_lo h.red ha.mem hb.mem hye]
  obtain⟨w53,hw53⟩:∃z:LR,z=em u (p*a):=⟨_,rfl⟩
  obtain⟨w53n,hw53n⟩:∃n:Nat,n=w53.length:=⟨_,rfl⟩
  refine cL hE (ih hl31e hl49e hl52e hp ha (by omega) hw53 hw53n) ⟨rfl,rfl,rfl,trivial⟩ ?_
  try conv=>cbv
  refine⟨fun _=>rfl,?_⟩
  intro m79 hm79;conv=>cbv
  refine⟨fun _=>⟨by omega,by omega⟩,?_⟩
  rintro a79 b79 ⟨ha79,hb79⟩;conv=>cbv
  intro l79 hl79;conv=>cbv
  intro m82 hm82;conv=>cbv
  refine⟨fun _=>⟨by omega,by omega⟩,?_⟩
  intro b82 hb82;conv=>cbv
  intro l82 hl82;conv=>cbv
  have hl79e:l79=em u q:=by rw[hl79,show a79=A.length/2 by omega,hb79,hm79,List.take_length,hA,em_hi h.red hp.mem hq.mem hxe]
  have hl82e:l82=em u a:=by rw[hl82,List.drop_zero,show b82=B.length/2 by omega,hB,em_lo h.red ha.mem hb.mem hye]
  obtain⟨w83,hw83⟩:∃z:LR,z=em u (q*a):=⟨_,rfl⟩
  refine cL hE (acall_plain (ih hl31e hl79e hl82e hq ha (by omega) hw83 rfl)) ⟨rfl,rfl,rfl,trivial⟩ ?_
  try conv=>cbv
  have hl53:w53.length=2^u.length:=by rw[hw53,em_len (hp.mul h.tail ha).mem]
  have hp16:=pow16 h.tail.ht
  have hl83:w83.length=2^u.length:=by rw[hw83,em_len (hq.mul h.tail ha).mem]
  refine .inl ⟨w83,fun _=>⟨rfl,hw53n,rfl,by show (w53.length+w83.length)*64≤140737488355328;(try simp only[List.length_take,List.length_drop]);omega⟩,?_⟩
  intro (l84:LR) n84 ql84;have hl84:l84=(w53:LR)++(w83:LR):=ql84.1;have hn84:n84=List.length (α:=(el tRat)) l84:=ql84.2;conv=>cbv
  refine⟨fun _=>rfl,?_⟩
  have hfin:C=l84:=by rw[hC,hl84,hw53,hw83];exact em_app h.red (hp.mul h.tail ha).mem (hq.mul h.tail ha).mem (by rw[hxe,hye,h1];clear ih;grind)
  exact fA ⟨⟨rfl,.inr (.inl ⟨_,_,by decide,rfl,rfl,hn84,rfl,own_eq (hfin) (by rw[hzn,hfin])⟩),trivial⟩,trivial⟩ rfl (by simp)
 ·have k15:=eql_t h15
  exact absurd k15 (by omega)
theorem Ymul_nn (h:Twr R (r::u)) (ih:YMulC R u) (hT:T=tw (r::u)) (hA:A=em (r::u) x) (hB:B=em (r::u) y) (hx:El (r::u) s x) (hy:El (r::u) t y) (hst:s+t+EE (r::u).length R≤60000000000000) (hxe:x=p+q*rt u r) (hp:El u s p) (hq:El u s q) (hye:y=a+b*rt u r) (ha:El u t a) (hb:El u t b) (h0:q≠0) (h1:b≠0) (hC:C=em (r::u) (x*y)) (hzn:zn=C.length):CF 68 [.one (.sl (.sl tRat) T),.one (.sl tRat A),.one (.sl tRat B)] (.one (.own tRat C zn)):=by
 have hEE:EE (r::u).length R=2*EE u.length R+R+2:=rfl
 have hrr:=El.rad h
 have hR:=h.hR
 have hsq:=rt_sq h.red
 have hTl:T.length=u.length+1:=by rw[hT,tw_len];rfl
 have hAl:A.length=2^u.length+2^u.length:=by rw[hA,em_len hx.mem,pow_len]
 have hBl:B.length=2^u.length+2^u.length:=by rw[hB,em_len hy.mem,pow_len]
 refine acall_fn Tryz.func68 (by kernel_rfl) rfl fun E hE=>?_
 conv=>cbv
 intro n14 h14;have e14:=h14.eq;have f14:=h14.le;conv=>cbv
 intro n15 h15;conv=>cbv
 cases n15 <;> conv=>cbv
 ·have k15:=eql_f h15
  intro n25 h25;have e25:=h25.eq;have f25:=h25.le;conv=>cbv
  intro n26 h26;conv=>cbv
  refine⟨fun _=>⟨by omega,by omega,i64 (by omega)⟩,?_⟩
  intro n29 h29;have e29:=h29.eq;have f29:=h29.le;conv=>cbv
  intro n30 h30;conv=>cbv
  refine⟨fun _=>i64 (by omega),?_⟩
  intro m31 hm31;conv=>cbv
  refine⟨fun _=>⟨by omega,by omega⟩,?_⟩
  intro b31 hb31;conv=>cbv
  intro l31 hl31;conv=>cbv
  intro n34 h34;have e34:=h34.eq;have f34:=h34.le;conv=>cbv
  intro n35 h35;conv=>cbv
  refine⟨fun _=>i64 (by omega),?_⟩
  obtain⟨x36,hx36⟩:=get_ex (l:=T) (i:=(T.length-1)) (by omega)
  refine⟨x36,fun _=>⟨by omega,by rw[show (n35).toNat=(T.length-1) by omega];exact hx36⟩,?_⟩
  try conv=>cbv
  refine⟨fun _=>rfl,?_⟩
  intro m40 hm40;conv=>cbv
  refine⟨fun _=>⟨by omega,by omega⟩,?_⟩
  rintro a40 b40 ⟨ha40,hb40⟩;conv=>cbv
  intro l40 hl40;conv=>cbv
  have hl40e:l40=em u q:=by rw[hl40,show a40=A.length/2 by omega,hb40,hm40,List.take_length,hA,em_hi h.red hp.mem hq.mem hxe]
  refine cA hE (YZero_f h.tail.red hq.mem hl40e h0) ?_
  try conv=>cbv
  intro m44 hm44;conv=>cbv
  refine⟨fun _=>⟨by omega,by omega⟩,?_⟩
  rintro a44 b44 ⟨ha44,hb44⟩;conv=>cbv
  intro l44 hl44;conv=>cbv
  have hl44e:l44=em u b:=by rw[hl44,show a44=B.length/2 by omega,hb44,hm44,List.take_length,hB,em_hi h.red ha.mem hb.mem hye]
  refine cA hE (YZero_f h.tail.red hb.mem hl44e h1) ?_
  try conv=>cbv
  refine⟨fun _=>rfl,?_⟩
  intro m49 hm49;conv=>cbv
  refine⟨fun _=>⟨by omega,by omega⟩,?_⟩
  intro b49 hb49;conv=>cbv
  intro l49 hl49;conv=>cbv
  intro m52 hm52;conv=>cbv
  refine⟨fun _=>⟨by omega,by omega⟩,?_⟩
  intro b52 hb52;conv=>cbv
  intro l52 hl52;conv=>cbv
  have hl31e:l31=tw u:=by rw[hl31,List.drop_zero,show b31=T.length-1 by omega,hT,tw_take]
  have hl49e:l49=em u p:=by rw[hl49,List.drop_zero,show b49=A.length/2 by omega,hA,em_lo h.red hp.mem hq.mem hxe]
  have hl52e:l52=em u a:=by rw[hl52,List.drop_zero,show b52=B.length/2 by omega,hB,em_lo h.red ha.mem hb.mem hye]
  obtain⟨w53,hw53⟩:∃z:LR,z=em u (p*a):=⟨_,rfl⟩
  refine cL hE (acall_plain (ih hl31e hl49e hl52e hp ha (by omega) hw53 rfl)) ⟨rfl,rfl,rfl,trivial⟩ ?_
  try conv=>cbv
  refine⟨fun _=>rfl,?_⟩
  intro m91 hm91;conv=>cbv
  refine⟨fun _=>⟨by omega,by omega⟩,?_⟩
  rintro a91 b91 ⟨ha91,hb91⟩;conv=>cbv
  intro l91 hl91;conv=>cbv
  intro m94 hm94;conv=>cbv
  refine⟨fun _=>⟨by omega,by omega⟩,?_⟩
  rintro a94 b94 ⟨ha94,hb94⟩;conv=>cbv
  intro l94 hl94;conv=>cbv
  have hl91e:l91=em u q:=by rw[hl91,show a91=A.length/2 by omega,hb91,hm91,List.take_length,hA,em_hi h.red hp.mem hq.mem hxe]
  have hl94e:l94=em u b:=by rw[hl94,show a94=B.length/2 by omega,hb94,hm94,List.take_length,hB,em_hi h.red ha.mem hb.mem hye]
  obtain⟨w95,hw95⟩:∃z:LR,z=em u (q*b):=⟨_,rfl⟩
  refine cL hE (acall_plain (ih hl31e hl91e hl94e hq hb (by omega) hw95 rfl)) ⟨rfl,rfl,rfl,trivial⟩ ?_
  try conv=>cbv
  have hx36e:x36=em u (evR u r):=by rw[hT,tw_last] at hx36;exact (Option.some.inj hx36).symm.trans (em_rad h.red)
  obtain⟨w97,hw97⟩:∃z:LR,z=em u (q*b*evR u r):=⟨_,rfl⟩
  refine cL hE (acall_plain (ih hl31e hw95 hx36e (hq.mul h.tail hb) hrr (by omega) hw97 rfl)) ⟨rfl,rfl,rfl,trivial⟩ ?_
  try conv=>cbv
  obtain⟨w98,hw98⟩:∃z:LR,z=em u (p*a+q*b*evR u r):=⟨_,rfl⟩
  obtain⟨w98n,hw98n⟩:∃n:Nat,n=w98.length:=⟨_,rfl⟩
  refine cL hE (Yaddv_own h.tail hw53 hw97 (hp.mul h.tail ha) ((hq.mul h.tail hb).mul h.tail hrr) (by omega) (by omega) hw98 hw98n) ⟨rfl,rfl,rfl,trivial⟩ ?_
  try conv=>cbv
  refine⟨fun _=>rfl,?_⟩
  intro m104 hm104;conv=>cbv
  refine⟨fun _=>⟨by omega,by omega⟩,?_⟩
  intro b104 hb104;conv=>cbv
  intro l104 hl104;conv=>cbv
  intro m107 hm107;conv=>cbv
  refine⟨fun _=>⟨by omega,by omega⟩,?_⟩
  rintro a107 b107 ⟨ha107,hb107⟩;conv=>cbv
  intro l107 hl107;conv=>cbv
  have hl104e:l104=em u p:=by rw[hl104,List.drop_zero,show b104=A.length/2 by omega,hA,em_lo h.red hp.mem hq.mem hxe]
  have hl107e:l107=em u b:=by rw[hl107,show a107=B.length/2 by omega,hb107,hm107,List.take_length,hB,em_hi h.red ha.mem hb.mem hye]
  obtain⟨w108,hw108⟩:∃z:LR,z=em u (p*b):=⟨_,rfl⟩
  refine cL hE (acall_plain (ih hl31e hl104e hl107e hp hb (by omega) hw108 rfl)) ⟨rfl,rfl,rfl,trivial⟩ ?_
  try conv=>cbv
  intro m112 hm112;conv=>cbv
  refine⟨fun _=>⟨by omega,by omega⟩,?_⟩
  rintro a112 b112 ⟨ha112,hb112⟩;conv=>cbv
  intro l112 hl112;conv=>cbv
  intro m115 hm115;conv=>cbv
  refine⟨fun _=>⟨by omega,by omega⟩,?_⟩
  intro b115 hb115;conv=>cbv
  intro l115 hl115;conv=>cbv
  have hl112e:l112=em u q:=by rw[hl112,show a112=A.length/2 by omega,hb112,hm112,List.take_length,hA,em_hi h.red hp.mem hq.mem hxe]
  have hl115e:l115=em u a:=by rw[hl115,List.drop_zero,show b115=B.length/2 by omega,hB,em_lo h.red ha.mem hb.mem hye]
  obtain⟨w116,hw116⟩:∃z:LR,z=em u (q*a):=⟨_,rfl⟩
  refine cL hE (acall_plain (ih hl31e hl112e hl115e hq ha (by omega) hw116 rfl)) ⟨rfl,rfl,rfl,trivial⟩ ?_
  try conv=>cbv
  obtain⟨w117,hw117⟩:∃z:LR,z=em u (p*b+q*a):=⟨_,rfl⟩
  refine cL hE (Yaddv h.tail hw108 hw116 (hp.mul h.tail hb) (hq.mul h.tail ha) (by omega) (by omega) hw117) ⟨rfl,rfl,rfl,trivial⟩ ?_
  try conv=>cbv
  have hl98:w98.length=2^u.length:=by rw[hw98,em_len (in_add (hp.mul h.tail ha).mem ((hq.mul h.tail hb).mul h.tail hrr).mem)]
  have hl117:w117.length=2^u.length:=by rw[hw117,em_len (in_add (hp.mul h.tail hb).mem (hq.mul h.tail ha).mem)]
  have hp16:=pow16 h.tail.ht
  refine .inl ⟨w117,fun _=>⟨rfl,hw98n,rfl,by show (w98.length+w117.length)*64≤140737488355328;(try simp only[List.length_take,List.length_drop]);omega⟩,?_⟩
  intro (l118:LR) n118 ql118;have hl118:l118=(w98:LR)++(w117:LR):=ql118.1;have hn118:n118=List.length (α:=(el tRat)) l118:=ql118.2;conv=>cbv
  refine⟨fun _=>rfl,?_⟩
  have hfin:C=l118:=by rw[hC,hl118,hw98,hw117];exact em_app h.red (in_add (hp.mul h.tail ha).mem ((hq.mul h.tail hb).mul h.tail hrr).mem) (in_add (hp.mul h.tail hb).mem (hq.mul h.tail ha).mem) (by rw[hxe,hye];clear ih;grind)
  exact fA ⟨⟨rfl,.inr (.inl ⟨_,_,by decide,rfl,rfl,hn118,rfl,own_eq (hfin) (by rw[hzn,hfin])⟩),trivial⟩,trivial⟩ rfl (by simp)
 ·have k15:=eql_t h15
  exact absurd k15 (by omega)
theorem ymulC (h:Twr R u):YMulC R u:=by
 induction u with
 | nil=>
  intro T A B C zn s t x y hT hA hB hx hy hst hC hzn
  obtain⟨p,rfl⟩:=in_nil.1 hx.mem
  obtain⟨q,rfl⟩:=in_nil.1 hy.mem
  rw[em_nil] at hA hB
  rw[←Re.ofRat_mul,em_nil] at hC
  have hp:=hx.smalls (by omega)
  have hq:=hy.smalls (by omega)
  rw[co_nil] at hp hq
  exact Ymul_base hT hA hB (hp _ List.mem_cons_self) (hq _ List.mem_cons_self) hC hzn
 | cons r u ih=>
  intro T A B C zn s t x y hT hA hB hx hy hst hC hzn
  obtain⟨p,q,hxe,hp,hq⟩:=El.parts h.red hx
  obtain⟨a,b,hye,ha,hb⟩:=El.parts h.red hy
  by_cases h0:q=0
  ·by_cases h1:b=0
   ·exact Ymul_zz h (ih h.tail) hT hA hB hx hy hst hxe hp hq hye ha hb h0 h1 hC hzn
   ·exact Ymul_zn h (ih h.tail) hT hA hB hx hy hst hxe hp hq hye ha hb h0 h1 hC hzn
  ·by_cases h1:b=0
   ·exact Ymul_nz h (ih h.tail) hT hA hB hx hy hst hxe hp hq hye ha hb h0 h1 hC hzn
   ·exact Ymul_nn h (ih h.tail) hT hA hB hx hy hst hxe hp hq hye ha hb h0 h1 hC hzn
theorem Ymulv (h:Twr R u) (hT:T=tw u) (hA:A=em u x) (hB:B=em u y) (hx:El u s x) (hy:El u t y) (hst:s+t+EE u.length R≤60000000000000) (hC:C=em u (x*y)):
 CF 68 [.one (.sl (.sl tRat) T),.one (.sl tRat A),.one (.sl tRat B)] (.one (.sl tRat C)):=acall_plain (ymulC h hT hA hB hx hy hst hC rfl)
end Go.Abs
namespace Go.Abs
open Go.RowKit Go.Shelf Go.Proofs
def growRen:Ren:=⟨fun k=>if k=4 then 234 else 0,fun k=>if k=3 then 3 else if k=4 then 4 else if k=9 then 9 else if k=20 then 20 else if k=22 then 25 else if k=25 then 73 else 0,fun k=>k⟩
theorem growLays:Lays8.n4 Tryz.prog growRen where
 mixed:=mixedOK
 f4:=⟨Tryz.f234.name,by kernel_rfl,by kernel_rfl⟩
 t0:=by kernel_rfl
 a0:=by intro w;kernel_rfl
 z0:=by intro w;kernel_rfl
 v0:=by intro w;kernel_rfl
 t3:=by kernel_rfl
 a3:=by intro w;kernel_rfl
 z3:=by intro w;kernel_rfl
 v3:=by intro w;kernel_rfl
 t4:=by kernel_rfl
 a4:=by intro w;kernel_rfl
 z4:=by intro w;kernel_rfl
 v4:=by intro w;kernel_rfl
 t9:=by kernel_rfl
 a9:=by intro w;kernel_rfl
 z9:=by intro w;kernel_rfl
 v9:=by intro w;kernel_rfl
 t20:=by kernel_rfl
 a20:=by intro w;kernel_rfl
 z20:=by intro w;kernel_rfl
 v20:=by intro w;kernel_rfl
 t22:=by kernel_rfl
 a22:=by intro w;kernel_rfl
 z22:=by intro w;kernel_rfl
 v22:=by intro w;kernel_rfl
theorem Grow_nil {n:Int} {k:Nat} (hn:NatIs n k) (hk0:0<k) (hk:k≤1000000):CF 234 [.one .nil,.one (.int .i64 n)] (.one (.own tRat [] 0)):=by
 refine⟨⟨_,_,Tryz.func234,by kernel_rfl,rfl⟩,⟨rfl,rfl⟩,?_⟩
 intro w I vs hI hvs
 match vs,hvs with
 | [v1,v2],⟨h1,h2,_⟩=>
  have e1:v1= .slice none 0 0:=by rcases h1 with h | h;cases h;exact h
  have e2:v2= .int .i64 k:=by rcases h2 with h | h;cases h;rw[←hn.eq];exact h
  subst e1;subst e2
  obtain⟨_,i0,z,hi0,hs,hb,_,hz0,hzr⟩:=(tiOK 25).sl rfl
  have hzc:z.cells.size=4:=by
   have:=(hzr (nocx w I)).length
   rw[cells_length] at this
   have e:(TI 25).elem.size=4:=rfl
   rw[e] at this;simpa using this.symm
  have hb':i0.bytes=64:=hb
  have hs':i0.size=4:=hs
  have hc:=Any8.slices_Grow_grow growLays i0 z hi0 hz0 (by omega) none 0 0 k [] w (by omega) (by omega) (by rw[hb'];omega) (by omega) (by simp) (fun _=>rfl) (fun a h=>by cases h)
  refine hc.mono fun e w' ⟨he,hw⟩=>?_
  have hge:=grownCap_ge w (0+k) 0 (growRen.t 25)
  have hle:=grownCap_le_maxLen w (0+k) 0 (growRen.t 25) (by unfold maxLen;omega)
  generalize grownCap w (0+k) 0 (growRen.t 25)=G at*
  subst hw
  have hh:∀o:Obj,(w.drew.alloc o).heap[w.heap.size]? =some o:=fun o=>by
   show (w.heap.push o)[w.heap.size]? =_
   rw[Array.getElem?_push,if_pos rfl]
  refine⟨_,some w.heap.size,he,((Below.refl _ _).drew).alloc (Nat.le_refl _) _,.inr ⟨rfl,_,_,rfl,Nat.zero_le _,hle,Nat.zero_le _,.inr ⟨_,_,_,rfl,Nat.le_refl _,rfl,hh _,?_,fun i y h=>by simp at h⟩⟩⟩
  show G*4≤_
  simp[size_zeroCells,hzc]
  omega
end Go.Abs
