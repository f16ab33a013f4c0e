/- Part 41 of a proof. Conditions: each theorem's own. -/
import Derived.Test.YtpccjlcpbehglaaGreatPk33
import Derived.Test.YtpccjlcpbehglaaGreatPk36
set_option linter.all false
set_option maxHeartbeats 8000000
open Go.Proofs
namespace Go.Abs
open Go.RowKit
variable {A B:LR} {R s zn:Nat} {T:List LR} {c:Int} {i p q x y:Re} {r:List Rat} {u:List (List Rat)}
theorem Ynormv {C:LR} (h:Twr R (r::u)) (hT:T=tw (r::u)) (hA:A=em (r::u) x) (hx:El (r::u) s x) (hxe:x=p+q*rt u r) (hp:El u s p) (hq:El u s q) (hb:2*s+2*EE u.length R+R+1≤60000000000000) (hC:C=em u (p*p-q*q*evR u r)):CF 187 [.one (.sl (.sl tRat) T),.one (.sl tRat A)] (.one (.sl tRat C)):=by
 have hTl:T.length=u.length+1:=by rw[hT,tw_len];rfl
 have hAl:A.length=2^u.length+2^u.length:=by rw[hA,em_len hx.mem,pow_len]
 have hrr:=El.rad h
 have hR:=h.hR
 refine acall_fn Tryz.func187 (by kernel_rfl) rfl fun E hE=>?_
 conv=>cbv
 intro n9 h9;have e9:=h9.eq;have f9:=h9.le;conv=>cbv
 intro n10 h10;conv=>cbv
 refine⟨fun _=>⟨by omega,by omega,i64 (by omega)⟩,?_⟩
 intro n13 h13;have e13:=h13.eq;have f13:=h13.le;conv=>cbv
 intro n14 h14;conv=>cbv
 refine⟨fun _=>i64 (by omega),?_⟩
 intro m15 hm15;conv=>cbv
 refine⟨fun _=>⟨by omega,by omega⟩,?_⟩
 intro b15 hb15;conv=>cbv
 intro l15 hl15;conv=>cbv
 intro n18 h18;have e18:=h18.eq;have f18:=h18.le;conv=>cbv
 intro n19 h19;conv=>cbv
 refine⟨fun _=>i64 (by omega),?_⟩
 obtain⟨x20,hx20⟩:=get_ex (l:=T) (i:=(T.length-1)) (by omega)
 refine⟨x20,fun _=>⟨by omega,by rw[show (n19).toNat=(T.length-1) by omega];exact hx20⟩,?_⟩
 try conv=>cbv
 refine⟨fun _=>rfl,?_⟩
 intro m26 hm26;conv=>cbv
 refine⟨fun _=>⟨by omega,by omega⟩,?_⟩
 intro b26 hb26;conv=>cbv
 intro l26 hl26;conv=>cbv
 intro m29 hm29;conv=>cbv
 refine⟨fun _=>⟨by omega,by omega⟩,?_⟩
 intro b29 hb29;conv=>cbv
 intro l29 hl29;conv=>cbv
 have hl15e:l15=tw u:=by rw[hl15,List.drop_zero,show b15=T.length-1 by omega,hT,tw_take]
 have hl26e:l26=em u p:=by rw[hl26,List.drop_zero,show b26=A.length/2 by omega,hA,em_lo h.red hp.mem hq.mem hxe]
 have hl29e:l29=em u p:=by rw[hl29,List.drop_zero,show b29=A.length/2 by omega,hA,em_lo h.red hp.mem hq.mem hxe]
 obtain⟨w30,hw30⟩:∃z:LR,z=em u (p*p):=⟨_,rfl⟩
 refine cL hE (Ymulv h.tail hl15e hl26e hl29e hp hp (by omega) hw30) ⟨rfl,rfl,rfl,trivial⟩ ?_
 try conv=>cbv
 intro m35 hm35;conv=>cbv
 refine⟨fun _=>⟨by omega,by omega⟩,?_⟩
 rintro a35 b35 ⟨ha35,hb35⟩;conv=>cbv
 intro l35 hl35;conv=>cbv
 intro m38 hm38;conv=>cbv
 refine⟨fun _=>⟨by omega,by omega⟩,?_⟩
 rintro a38 b38 ⟨ha38,hb38⟩;conv=>cbv
 intro l38 hl38;conv=>cbv
 have hl35e:l35=em u q:=by rw[hl35,show a35=A.length/2 by omega,hb35,hm35,List.take_length,hA,em_hi h.red hp.mem hq.mem hxe]
 have hl38e:l38=em u q:=by rw[hl38,show a38=A.length/2 by omega,hb38,hm38,List.take_length,hA,em_hi h.red hp.mem hq.mem hxe]
 obtain⟨w39,hw39⟩:∃z:LR,z=em u (q*q):=⟨_,rfl⟩
 refine cL hE (Ymulv h.tail hl15e hl35e hl38e hq hq (by omega) hw39) ⟨rfl,rfl,rfl,trivial⟩ ?_
 try conv=>cbv
 have hx20e:x20=em u (evR u r):=by rw[hT,tw_last] at hx20;exact (Option.some.inj hx20).symm.trans (em_rad h.red)
 obtain⟨w41,hw41⟩:∃z:LR,z=em u (q*q*evR u r):=⟨_,rfl⟩
 refine cL hE (Ymulv h.tail hl15e hw39 hx20e (hq.mul h.tail hq) hrr (by omega) hw41) ⟨rfl,rfl,rfl,trivial⟩ ?_
 try conv=>cbv
 obtain⟨w42,hw42⟩:∃z:LR,z=em u (p*p-q*q*evR u r):=⟨_,rfl⟩
 refine cL hE (Ysubv h.tail hw30 hw41 (hp.mul h.tail hp) ((hq.mul h.tail hq).mul h.tail hrr) (by omega) (by omega) hw42) ⟨rfl,rfl,rfl,trivial⟩ ?_
 try conv=>cbv
 refine⟨fun _=>rfl,?_⟩
 exact fA ⟨⟨rfl,congrArg _ (by rw[hC,hw42]),trivial⟩,trivial⟩ rfl (by simp)
def YInvC (R:Nat) (u:List (List Rat)):Prop:=∀{T:List LR} {A B:LR} {zn s:Nat} {x y:Re},T=tw u→A=em u x→El u s x→In u y→x*y=1→II u.length R s≤60000000000000→B=em u y→zn=B.length→
 CF 149 [.one (.sl (.sl tRat) T),.one (.sl tRat A)] (.tup [(false,[.own tRat B zn]),(false,[.int .i64 0])])
theorem Yinv_base {p q:Rat} (hT:T=[]) (hA:A=[rp p]) (hB:B=[rp q]) (hp0:p≠0) (hpq:q=1/p) (hzn:zn=B.length):CF 149 [.one (.sl (.sl tRat) T),.one (.sl tRat A)] (.tup [(false,[.own tRat B zn]),(false,[.int .i64 0])]):=by
 refine acall_fn Tryz.func149 (by kernel_rfl) rfl fun E hE=>?_
 conv=>cbv
 intro n13 h13;have e13:=h13.eq;have f13:=h13.le;conv=>cbv
 intro n14 h14;conv=>cbv
 cases n14 <;> conv=>cbv
 ·have k14:=eql_f h14
  exact absurd (by rw[e13,hT];rfl) k14
 ·have k14:=eql_t h14
  have hAl:A.length=1:=by rw[hA];rfl
  obtain⟨x16,hx16⟩:=get_ex (l:=A) (i:=0) (by omega)
  refine⟨x16,fun _=>⟨by omega,hx16⟩,?_⟩
  try conv=>cbv
  have hp16:=one_rp hA hx16
  intro n20 h20;have e20:=h20.eq;have f20:=h20.le;conv=>cbv
  have e20b:n20=((List.length (α:=UInt32) x16.1.2:Nat):Int):=e20
  intro n21 h21;conv=>cbv
  cases n21 <;> conv=>cbv
  ·have k21:=eql_f h21
   obtain⟨x23,hx23⟩:=get_ex (l:=A) (i:=0) (by omega)
   refine⟨x23,fun _=>⟨by omega,hx23⟩,?_⟩
   try conv=>cbv
   have hp:=one_rp hA hx23
   obtain⟨zb25,zl25,yb25,yl25,hz25⟩:=isR_ex q
   refine cA hE (YRInv_ok hp hp0 hpq hz25) ?_
   try conv=>cbv
   refine⟨[((zb25,zl25),(yb25,yl25))],fun _=>⟨rfl,by decide,rfl,⟨rfl,by first | exact⟨rfl,trivial⟩ | exact⟨rfl,rfl,trivial⟩ | exact⟨rfl,rfl,rfl,rfl,trivial⟩ | simp[allC,leC,cells],trivial⟩⟩,.inl ?_⟩
   try conv=>cbv
   exact fA ⟨⟨rfl,.inr (.inl ⟨_,_,by decide,rfl,rfl,rfl,rfl,own_eq (by rw[hB,hz25.rp]) (by rw[hzn,hB];rfl)⟩),trivial⟩,⟨rfl,rfl,trivial⟩,trivial⟩ rfl (by simp)
  ·have k21:=eql_t h21
   exact absurd (Rat.num_eq_zero.1 (hp16.num.len0.1 (by omega))) hp0
theorem Yinv_z {y:Re} (h:Twr R (r::u)) (ih:YInvC R u) (hT:T=tw (r::u)) (hA:A=em (r::u) x) (hx:El (r::u) s x) (hxe:x=p+q*rt u r) (hp:El u s p) (hq:El u s q) (h0:q=0) (hi:In u i) (hpi:p*i=1) (hs:II (r::u).length R s≤60000000000000) (hB:B=em (r::u) i) (hzn:zn=B.length):CF 149 [.one (.sl (.sl tRat) T),.one (.sl tRat A)] (.tup [(false,[.own tRat B zn]),(false,[.int .i64 0])]):=by
 have hTl:T.length=u.length+1:=by rw[hT,tw_len];rfl
 have hAl:A.length=2^u.length+2^u.length:=by rw[hA,em_len hx.mem,pow_len]
 have hII:II (r::u).length R s=s+EE u.length R+II u.length R (2*s+2*EE u.length R+R+1):=rfl
 have hmon:=II_mono u.length R (s:=s) (t:=2*s+2*EE u.length R+R+1) (by omega)
 refine acall_fn Tryz.func149 (by kernel_rfl) rfl fun E hE=>?_
 conv=>cbv
 intro n13 h13;have e13:=h13.eq;have f13:=h13.le;conv=>cbv
 intro n14 h14;conv=>cbv
 cases n14 <;> conv=>cbv
 ·have k14:=eql_f h14
  intro n28 h28;have e28:=h28.eq;have f28:=h28.le;conv=>cbv
  intro n29 h29;conv=>cbv
  refine⟨fun _=>⟨by omega,by omega,i64 (by omega)⟩,?_⟩
  intro n32 h32;have e32:=h32.eq;have f32:=h32.le;conv=>cbv
  intro n33 h33;conv=>cbv
  refine⟨fun _=>i64 (by omega),?_⟩
  intro m34 hm34;conv=>cbv
  refine⟨fun _=>⟨by omega,by omega⟩,?_⟩
  intro b34 hb34;conv=>cbv
  intro l34 hl34;conv=>cbv
  intro m37 hm37;conv=>cbv
  refine⟨fun _=>⟨by omega,by omega⟩,?_⟩
  rintro a37 b37 ⟨ha37,hb37⟩;conv=>cbv
  intro l37 hl37;conv=>cbv
  have hl37e:l37=em u q:=by rw[hl37,show a37=A.length/2 by omega,hb37,hm37,List.take_length,hA,em_hi h.red hp.mem hq.mem hxe]
  refine cA hE (YZero_t h.tail.red hq.mem hl37e h0) ?_
  try conv=>cbv
  intro m43 hm43;conv=>cbv
  refine⟨fun _=>⟨by omega,by omega⟩,?_⟩
  intro b43 hb43;conv=>cbv
  intro l43 hl43;conv=>cbv
  have hl34e:l34=tw u:=by rw[hl34,List.drop_zero,show b34=T.length-1 by omega,hT,tw_take]
  have hl43e:l43=em u p:=by rw[hl43,List.drop_zero,show b43=A.length/2 by omega,hA,em_lo h.red hp.mem hq.mem hxe]
  obtain⟨w45,hw45⟩:∃z:LR,z=em u i:=⟨_,rfl⟩
  obtain⟨w45n,hw45n⟩:∃n:Nat,n=w45.length:=⟨_,rfl⟩
  refine cL hE (ih hl34e hl43e hp hi hpi (by omega) hw45 hw45n) ⟨rfl,rfl,trivial⟩ ?_
  try conv=>cbv
  intro n48 h48;(have h48:=h48.trans (show _=false by decide));subst h48;conv=>cbv
  obtain⟨zb52,zl52,yb52,yl52,hz52⟩:=isR_ex (((0:Int):Rat))
  refine cL hE (YRFromInt_ok (by omega) rfl hz52) ⟨rfl,trivial⟩ ?_
  try conv=>cbv
  obtain⟨w53,hw53⟩:∃z:LR,z=em u (0):=⟨_,rfl⟩
  refine cL (r:= .one (.sl tRat w53)) hE (YFromRat_ok h.tail hl34e hz52 (by rw[show Re.ofRat ((0:Int):Rat)=0 from rfl];exact hw53)) ⟨rfl,⟨rfl,rfl,rfl,rfl,trivial⟩,trivial⟩ ?_
  try conv=>cbv
  have hl45:w45.length=2^u.length:=by rw[hw45,em_len hi]
  have hl53:w53.length=2^u.length:=by rw[hw53,em_len (in_zero u)]
  have hp16:=pow16 h.tail.ht
  refine .inl ⟨w53,fun _=>⟨rfl,hw45n,rfl,by show (w45.length+w53.length)*64≤140737488355328;(try simp only[List.length_take,List.length_drop]);omega⟩,?_⟩
  intro (l54:LR) n54 ql54;have hl54:l54=(w45:LR)++(w53:LR):=ql54.1;have hn54:n54=List.length (α:=(el tRat)) l54:=ql54.2;conv=>cbv
  have hfin:B=l54:=by rw[hB,hl54,hw45,hw53];exact em_app h.red hi (in_zero u) (by clear ih;grind)
  exact fA ⟨⟨rfl,.inr (.inl ⟨_,_,by decide,rfl,rfl,hn54,rfl,own_eq (hfin) (by rw[hzn,hfin])⟩),trivial⟩,⟨rfl,rfl,trivial⟩,trivial⟩ rfl (by simp)
 ·have k14:=eql_t h14
  exact absurd k14 (by omega)
theorem Yinv_n (h:Twr R (r::u)) (ih:YInvC R u) (hT:T=tw (r::u)) (hA:A=em (r::u) x) (hx:El (r::u) s x) (hxe:x=p+q*rt u r) (hp:El u s p) (hq:El u s q) (h0:q≠0) (hi:In u i) (hNi:(p*p-q*q*evR u r)*i=1) (hy:y=p*i+ -q*i*rt u r) (hs:II (r::u).length R s≤60000000000000) (hB:B=em (r::u) y) (hzn:zn=B.length):CF 149 [.one (.sl (.sl tRat) T),.one (.sl tRat A)] (.tup [(false,[.own tRat B zn]),(false,[.int .i64 0])]):=by
 have hTl:T.length=u.length+1:=by rw[hT,tw_len];rfl
 have hAl:A.length=2^u.length+2^u.length:=by rw[hA,em_len hx.mem,pow_len]
 have hII:II (r::u).length R s=s+EE u.length R+II u.length R (2*s+2*EE u.length R+R+1):=rfl
 have hN:=El.norm h hp.mem hq.mem (hxe ▸ hx)
 have hib:=hN.inv h.tail hi hNi
 have hmon:=II_ge u.length R (2*s+2*EE u.length R+R+1)
 have hmi:=(hq.neg h.red.1).mul h.tail hib
 refine acall_fn Tryz.func149 (by kernel_rfl) rfl fun E hE=>?_
 conv=>cbv
 intro n13 h13;have e13:=h13.eq;have f13:=h13.le;conv=>cbv
 intro n14 h14;conv=>cbv
 cases n14 <;> conv=>cbv
 ·have k14:=eql_f h14
  intro n28 h28;have e28:=h28.eq;have f28:=h28.le;conv=>cbv
  intro n29 h29;conv=>cbv
  refine⟨fun _=>⟨by omega,by omega,i64 (by omega)⟩,?_⟩
  intro n32 h32;have e32:=h32.eq;have f32:=h32.le;conv=>cbv
  intro n33 h33;conv=>cbv
  refine⟨fun _=>i64 (by omega),?_⟩
  intro m34 hm34;conv=>cbv
  refine⟨fun _=>⟨by omega,by omega⟩,?_⟩
  intro b34 hb34;conv=>cbv
  intro l34 hl34;conv=>cbv
  intro m37 hm37;conv=>cbv
  refine⟨fun _=>⟨by omega,by omega⟩,?_⟩
  rintro a37 b37 ⟨ha37,hb37⟩;conv=>cbv
  intro l37 hl37;conv=>cbv
  have hl37e:l37=em u q:=by rw[hl37,show a37=A.length/2 by omega,hb37,hm37,List.take_length,hA,em_hi h.red hp.mem hq.mem hxe]
  refine cA hE (YZero_f h.tail.red hq.mem hl37e h0) ?_
  try conv=>cbv
  have hl34e:l34=tw u:=by rw[hl34,List.drop_zero,show b34=T.length-1 by omega,hT,tw_take]
  obtain⟨w59,hw59⟩:∃z:LR,z=em u (p*p-q*q*evR u r):=⟨_,rfl⟩
  refine cL hE (Ynormv h hT hA hx hxe hp hq (by omega) hw59) ⟨rfl,rfl,trivial⟩ ?_
  try conv=>cbv
  obtain⟨w61,hw61⟩:∃z:LR,z=em u i:=⟨_,rfl⟩
  refine cL hE (acall_plain (ih hl34e hw59 hN hi hNi (by omega) hw61 rfl)) ⟨rfl,rfl,trivial⟩ ?_
  try conv=>cbv
  intro n64 h64;(have h64:=h64.trans (show _=false by decide));subst h64;conv=>cbv
  intro m69 hm69;conv=>cbv
  refine⟨fun _=>⟨by omega,by omega⟩,?_⟩
  intro b69 hb69;conv=>cbv
  intro l69 hl69;conv=>cbv
  have hl69e:l69=em u p:=by rw[hl69,List.drop_zero,show b69=A.length/2 by omega,hA,em_lo h.red hp.mem hq.mem hxe]
  obtain⟨w71,hw71⟩:∃z:LR,z=em u (p*i):=⟨_,rfl⟩
  obtain⟨w71n,hw71n⟩:∃n:Nat,n=w71.length:=⟨_,rfl⟩
  refine cL hE (ymulC h.tail hl34e hl69e hw61 hp hib (by omega) hw71 hw71n) ⟨rfl,rfl,rfl,trivial⟩ ?_
  try conv=>cbv
  intro m76 hm76;conv=>cbv
  refine⟨fun _=>⟨by omega,by omega⟩,?_⟩
  rintro a76 b76 ⟨ha76,hb76⟩;conv=>cbv
  intro l76 hl76;conv=>cbv
  have hl76e:l76=em u q:=by rw[hl76,show a76=A.length/2 by omega,hb76,hm76,List.take_length,hA,em_hi h.red hp.mem hq.mem hxe]
  obtain⟨w77,hw77⟩:∃z:LR,z=em u (-q):=⟨_,rfl⟩
  refine cA hE (Ynegv h.tail hl76e hq hw77) ?_
  try conv=>cbv
  obtain⟨w79,hw79⟩:∃z:LR,z=em u (-q*i):=⟨_,rfl⟩
  refine cL hE (Ymulv h.tail hl34e hw77 hw61 (hq.neg h.red.1) hib (by omega) hw79) ⟨rfl,rfl,rfl,trivial⟩ ?_
  try conv=>cbv
  have hl71:w71.length=2^u.length:=by rw[hw71,em_len (hp.mul h.tail hib).mem]
  have hl79:w79.length=2^u.length:=by rw[hw79,em_len hmi.mem]
  have hp16:=pow16 h.tail.ht
  refine .inl ⟨w79,fun _=>⟨rfl,hw71n,rfl,by show (w71.length+w79.length)*64≤140737488355328;(try simp only[List.length_take,List.length_drop]);omega⟩,?_⟩
  intro (l80:LR) n80 ql80;have hl80:l80=(w71:LR)++(w79:LR):=ql80.1;have hn80:n80=List.length (α:=(el tRat)) l80:=ql80.2;conv=>cbv
  refine⟨fun _=>rfl,?_⟩
  have hfin:B=l80:=by rw[hB,hl80,hw71,hw79];exact em_app h.red (hp.mul h.tail hib).mem hmi.mem hy
  exact fA ⟨⟨rfl,.inr (.inl ⟨_,_,by decide,rfl,rfl,hn80,rfl,own_eq (hfin) (by rw[hzn,hfin])⟩),trivial⟩,⟨rfl,rfl,trivial⟩,trivial⟩ rfl (by simp)
 ·have k14:=eql_t h14
  exact absurd k14 (by omega)
theorem yinvC (h:Twr R u):YInvC R u:=by
 induction u with
 | nil=>
  intro T A B zn s x y hT hA hx hy hxy hs hB hzn
  obtain⟨p,rfl⟩:=in_nil.1 hx.mem
  obtain⟨q,rfl⟩:=in_nil.1 hy
  rw[em_nil] at hA hB
  rw[←Re.ofRat_mul] at hxy
  have e:=Re.ofRat_inj.1 hxy
  exact Yinv_base hT hA hB (by intro e0;subst e0;grind) (by grind) hzn
 | cons r u ih=>
  intro T A B zn s x y hT hA hx hy hxy hs hB hzn
  obtain⟨p,q,hxe,hp,hq⟩:=El.parts h.red hx
  have hr:=rt_sq h.red
  have h01:(0:Re)<1:=Re.ofRat_lt.2 (show (0:Rat)<1 by decide)
  by_cases h0:q=0
  ·have hp0:p≠0:=by intro e;rw[e,h0] at hxe;rw[hxe] at hxy;clear ih;grind
   obtain⟨i,hi,hpi⟩:=in_inv h.red.1 hp.mem hp0
   have hyi:y=i:=by
    have:y=i*(x*y):=by
     have e2:x=p:=by rw[hxe,h0];clear ih;grind
     rw[e2]
     have:i*(p*y)=y*(p*i):=by clear ih;grind
     rw[this,hpi];clear ih;grind
    rw[hxy] at this;clear ih;grind
   exact Yinv_z (y:=y) h (ih h.tail) hT hA hx hxe hp hq h0 hi hpi hs (hyi ▸ hB) hzn
  ·have hN:=El.norm h hp.mem hq.mem (hxe ▸ hx)
   have hN0:p*p-q*q*evR u r≠0:=norm_ne h.red hp.mem hq.mem (by intro e;rw[←hxe] at e;rw[e] at hxy;clear ih;grind)
   obtain⟨i,hi,hNi⟩:=in_inv h.red.1 hN.mem hN0
   refine Yinv_n h (ih h.tail) hT hA hx hxe hp hq h0 hi hNi ?_ hs hB hzn
   have:y=x*y*((p-q*rt u r)*i):=by
    have:x*y*((p-q*rt u r)*i)=y*((p*p-q*q*evR u r)*i):=by rw[hxe];clear ih;grind
    rw[this,hNi];clear ih;grind
   rw[hxy] at this
   clear ih;grind
theorem Yinvv (h:Twr R u) (hT:T=tw u) (hA:A=em u x) (hx:El u s x) (hy:In u y) (hxy:x*y=1) (hs:II u.length R s≤60000000000000) (hB:B=em u y):
 CF 149 [.one (.sl (.sl tRat) T),.one (.sl tRat A)] (.tup [(false,[.sl tRat B]),(false,[.int .i64 0])]):=acall_plain (yinvC h hT hA hx hy hxy hs hB rfl)
theorem Yinv0_base (hT:T=[]) (hA:A=[rp 0]):CF 149 [.one (.sl (.sl tRat) T),.one (.sl tRat A)] (.tup [(false,[.sl tRat (([]:LR))]),(false,[.int .i64 6])]):=by
 refine acall_fn Tryz.func149 (by kernel_rfl) rfl fun E hE=>?_
 conv=>cbv
 intro n13 h13;have e13:=h13.eq;have f13:=h13.le;conv=>cbv
 intro n14 h14;conv=>cbv
 cases n14 <;> conv=>cbv
 ·have k14:=eql_f h14
  exact absurd (by rw[e13,hT];rfl) k14
 ·have k14:=eql_t h14
  have hAl:A.length=1:=by rw[hA];rfl
  obtain⟨x16,hx16⟩:=get_ex (l:=A) (i:=0) (by omega)
  refine⟨x16,fun _=>⟨by omega,hx16⟩,?_⟩
  try conv=>cbv
  have hp16:=one_rp hA hx16
  intro n20 h20;have e20:=h20.eq;have f20:=h20.le;conv=>cbv
  have e20b:n20=((List.length (α:=UInt32) x16.1.2:Nat):Int):=e20
  intro n21 h21;conv=>cbv
  cases n21 <;> conv=>cbv
  ·have k21:=eql_f h21
   exact absurd (by rw[e20b,hp16.num.len0.2 rfl];rfl) k21
  ·have k21:=eql_t h21
   exact fA ⟨⟨rfl,.inr (.inl ⟨_,rfl⟩),trivial⟩,⟨rfl,rfl,trivial⟩,trivial⟩ rfl (by simp)
theorem Yinv0_step (h:Twr R (r::u)) (ih:∀{T A},T=tw u→A=em u 0→CF 149 [.one (.sl (.sl tRat) T),.one (.sl tRat A)] (.tup [(false,[.sl tRat []]),(false,[.int .i64 6])])) (hT:T=tw (r::u)) (hA:A=em (r::u) 0):CF 149 [.one (.sl (.sl tRat) T),.one (.sl tRat A)] (.tup [(false,[.sl tRat (([]:LR))]),(false,[.int .i64 6])]):=by
 have hx:El (r::u) 0 0:=El.rat h.red bd_int0
 have h00:(0:Re)=0+0*rt u r:=by grind
 have hTl:T.length=u.length+1:=by rw[hT,tw_len];rfl
 have hAl:A.length=2^u.length+2^u.length:=by rw[hA,em_len hx.mem,pow_len]
 refine acall_fn Tryz.func149 (by kernel_rfl) rfl fun E hE=>?_
 conv=>cbv
 intro n13 h13;have e13:=h13.eq;have f13:=h13.le;conv=>cbv
 intro n14 h14;conv=>cbv
 cases n14 <;> conv=>cbv
 ·have k14:=eql_f h14
  intro n28 h28;have e28:=h28.eq;have f28:=h28.le;conv=>cbv
  intro n29 h29;conv=>cbv
  refine⟨fun _=>⟨by omega,by omega,i64 (by omega)⟩,?_⟩
  intro n32 h32;have e32:=h32.eq;have f32:=h32.le;conv=>cbv
  intro n33 h33;conv=>cbv
  refine⟨fun _=>i64 (by omega),?_⟩
  intro m34 hm34;conv=>cbv
  refine⟨fun _=>⟨by omega,by omega⟩,?_⟩
  intro b34 hb34;conv=>cbv
  intro l34 hl34;conv=>cbv
  intro m37 hm37;conv=>cbv
  refine⟨fun _=>⟨by omega,by omega⟩,?_⟩
  rintro a37 b37 ⟨ha37,hb37⟩;conv=>cbv
  intro l37 hl37;conv=>cbv
  have hl37e:l37=em u 0:=by rw[hl37,show a37=A.length/2 by omega,hb37,hm37,List.take_length,hA,em_hi h.red (in_zero u) (in_zero u) h00]
  refine cA hE (YZero_t h.tail.red (in_zero u) hl37e rfl) ?_
  try conv=>cbv
  intro m43 hm43;conv=>cbv
  refine⟨fun _=>⟨by omega,by omega⟩,?_⟩
  intro b43 hb43;conv=>cbv
  intro l43 hl43;conv=>cbv
  have hl34e:l34=tw u:=by rw[hl34,List.drop_zero,show b34=T.length-1 by omega,hT,tw_take]
  have hl43e:l43=em u 0:=by rw[hl43,List.drop_zero,show b43=A.length/2 by omega,hA,em_lo h.red (in_zero u) (in_zero u) h00]
  refine cA hE (ih hl34e hl43e) ?_
  try conv=>cbv
  intro n48 h48;(have h48:=h48.trans (show _=true by decide));subst h48;conv=>cbv
  exact fA ⟨⟨rfl,.inr (.inl ⟨_,rfl⟩),trivial⟩,⟨rfl,rfl,trivial⟩,trivial⟩ rfl (by simp)
 ·have k14:=eql_t h14
  exact absurd k14 (by omega)
theorem Yinv0:∀{u:List (List Rat)} {R:Nat},Twr R u→∀{T A},T=tw u→A=em u 0→CF 149 [.one (.sl (.sl tRat) T),.one (.sl tRat A)] (.tup [(false,[.sl tRat []]),(false,[.int .i64 6])])
 | [],R,h=>fun hT hA=>Yinv0_base hT (hA.trans (em_nil 0))
 | r::u,R,h=>fun hT hA=>Yinv0_step h (Yinv0 h.tail) hT hA
def YValC (R:Nat) (u:List (List Rat)):Prop:=∀{T:List LR} {A:LR} {s:Nat} {x:Re} {c:Int},T=tw u→A=em u x→El u s x→VV u.length R s≤60000000000000→c=sgR x→
 CF 133 [.one (.sl (.sl tRat) T),.one (.sl tRat A)] (.one (.int .i64 c))
theorem Yval_base {p:Rat} (hT:T=[]) (hA:A=[rp p]) (hc:c=sgnQ p):CF 133 [.one (.sl (.sl tRat) T),.one (.sl tRat A)] (.one (.int .i64 c)):=by
 refine acall_fn Tryz.func133 (by kernel_rfl) rfl fun E hE=>?_
 conv=>cbv
 intro n11 h11;have e11:=h11.eq;have f11:=h11.le;conv=>cbv
 intro n12 h12;conv=>cbv
 cases n12 <;> conv=>cbv
 ·have k12:=eql_f h12
  exact absurd (by rw[e11,hT];rfl) k12
 ·have k12:=eql_t h12
  have hAl:A.length=1:=by rw[hA];rfl
  obtain⟨x14,hx14⟩:=get_ex (l:=A) (i:=0) (by omega)
  refine⟨x14,fun _=>⟨by omega,hx14⟩,?_⟩
  try conv=>cbv
  obtain⟨r16,hr16⟩:∃z:Int,z=sgnQ p:=⟨_,rfl⟩
  refine cA hE (YRSign_ok (one_rp hA hx14) hr16) ?_
  try conv=>cbv
  exact fA ⟨⟨rfl,congrArg _ (hc.trans hr16.symm),trivial⟩,trivial⟩ rfl (by simp)
theorem Yval_step (h:Twr R (r::u)) (ih:YValC R u) (hT:T=tw (r::u)) (hA:A=em (r::u) x) (hx:El (r::u) s x) (hs:VV (r::u).length R s≤60000000000000) (hc:c=sgR x):CF 133 [.one (.sl (.sl tRat) T),.one (.sl tRat A)] (.one (.int .i64 c)):=by
 obtain⟨p,q,hxe,hp,hq⟩:=El.parts h.red hx
 have hTl:T.length=u.length+1:=by rw[hT,tw_len];rfl
 have hAl:A.length=2^u.length+2^u.length:=by rw[hA,em_len hx.mem,pow_len]
 have hv2:VV (r::u).length R s=VV u.length R (2*s+2*EE u.length R+R+1):=rfl
 have hv3:=VV_ge u.length R (2*s+2*EE u.length R+R+1)
 have hv1:=VV_mono u.length R (s:=s) (t:=2*s+2*EE u.length R+R+1) (by omega)
 have hN:=El.norm h hp.mem hq.mem (hxe ▸ hx)
 have hs0:=rt_pos h.red
 have hsq:=rt_sq h.red
 refine acall_fn Tryz.func133 (by kernel_rfl) rfl fun E hE=>?_
 conv=>cbv
 intro n11 h11;have e11:=h11.eq;have f11:=h11.le;conv=>cbv
 intro n12 h12;conv=>cbv
 cases n12 <;> conv=>cbv
 ·have k12:=eql_f h12
  intro n18 h18;have e18:=h18.eq;have f18:=h18.le;conv=>cbv
  intro n19 h19;conv=>cbv
  refine⟨fun _=>i64 (by omega),?_⟩
  intro n22 h22;have e22:=h22.eq;have f22:=h22.le;conv=>cbv
  intro n23 h23;conv=>cbv
  refine⟨fun _=>⟨by omega,by omega,i64 (by omega)⟩,?_⟩
  intro m24 hm24;conv=>cbv
  refine⟨fun _=>⟨by omega,by omega⟩,?_⟩
  intro b24 hb24;conv=>cbv
  intro l24 hl24;conv=>cbv
  intro n27 h27;have e27:=h27.eq;have f27:=h27.le;conv=>cbv
  intro n28 h28;conv=>cbv
  refine⟨fun _=>⟨by omega,by omega,i64 (by omega)⟩,?_⟩
  intro m29 hm29;conv=>cbv
  refine⟨fun _=>⟨by omega,by omega⟩,?_⟩
  rintro a29 b29 ⟨ha29,hb29⟩;conv=>cbv
  intro l29 hl29;conv=>cbv
  refine⟨fun _=>rfl,?_⟩
  intro m32 hm32;conv=>cbv
  refine⟨fun _=>⟨by omega,by omega⟩,?_⟩
  intro b32 hb32;conv=>cbv
  intro l32 hl32;conv=>cbv
  have hl32e:l32=tw u:=by rw[hl32,List.drop_zero,show b32=T.length-1 by omega,hT,tw_take]
  have hl24e:l24=em u p:=by rw[hl24,List.drop_zero,show b24=A.length/2 by omega,hA,em_lo h.red hp.mem hq.mem hxe]
  obtain⟨r34,hr34⟩:∃z:Int,z=sgR p:=⟨_,rfl⟩
  refine cL hE (ih hl32e hl24e hp (by omega) hr34) ⟨rfl,rfl,trivial⟩ ?_
  try conv=>cbv
  intro m37 hm37;conv=>cbv
  refine⟨fun _=>⟨by omega,by omega⟩,?_⟩
  intro b37 hb37;conv=>cbv
  intro l37 hl37;conv=>cbv
  have hl37e:l37=tw u:=by rw[hl37,List.drop_zero,show b37=T.length-1 by omega,hT,tw_take]
  have hl29e:l29=em u q:=by rw[hl29,show a29=A.length/2 by omega,hb29,hm29,List.take_length,hA,em_hi h.red hp.mem hq.mem hxe]
  obtain⟨r39,hr39⟩:∃z:Int,z=sgR q:=⟨_,rfl⟩
  refine cL hE (ih hl37e hl29e hq (by omega) hr39) ⟨rfl,rfl,trivial⟩ ?_
  try conv=>cbv
  refine⟨fun _=>rfl,?_⟩
  intro n41 h41;conv=>cbv
  cases n41 <;> conv=>cbv
  ·have k41:=eql_f h41
   intro n45 h45;conv=>cbv
   cases n45 <;> conv=>cbv
   ·have k45:=eql_f h45
    intro n49 h49;conv=>cbv
    cases n49 <;> conv=>cbv
    ·have k49:=eql_f h49
     intro m54 hm54;conv=>cbv
     refine⟨fun _=>⟨by omega,by omega⟩,?_⟩
     intro b54 hb54;conv=>cbv
     intro l54 hl54;conv=>cbv
     have hl54e:l54=tw u:=by rw[hl54,List.drop_zero,show b54=T.length-1 by omega,hT,tw_take]
     obtain⟨w57,hw57⟩:∃z:LR,z=em u (p*p-q*q*evR u r):=⟨_,rfl⟩
     refine cL hE (Ynormv h hT hA hx hxe hp hq (by omega) hw57) ⟨rfl,rfl,trivial⟩ ?_
     try conv=>cbv
     obtain⟨r58,hr58⟩:∃z:Int,z=sgR (p*p-q*q*evR u r):=⟨_,rfl⟩
     refine cL hE (ih hl54e hw57 hN (by omega) hr58) ⟨rfl,rfl,trivial⟩ ?_
     try conv=>cbv
     intro n59 h59;conv=>cbv
     refine⟨fun _=>by rw[h59,hr34,hr58];exact sgR_in _ _,?_⟩
     refine⟨fun _=>rfl,?_⟩
     exact fA ⟨⟨rfl,congrArg _ (by rw[hc,h59,hr34,hr58,hxe];exact sg_norm hs0 hsq (fun e=>k49 (by rw[hr34,e];exact sgR_zero)) (fun e=>k41 (by rw[hr39,e];exact sgR_zero)) (by rw[←hr34,←hr39];exact k45)),trivial⟩,trivial⟩ rfl (by simp)
    ·have k49:=eql_t h49
     exact fA ⟨⟨rfl,congrArg _ (by rw[hc,hr39,hxe];exact sg_sum0 hs0 (sgR_eq0.1 (hr34 ▸ k49))),trivial⟩,trivial⟩ rfl (by simp)
   ·have k45:=eql_t h45
    exact fA ⟨⟨rfl,congrArg _ (by rw[hc,hr34,hxe];exact sg_sum hs0 (.inr (by rw[←hr34,←hr39];exact k45))),trivial⟩,trivial⟩ rfl (by simp)
  ·have k41:=eql_t h41
   exact fA ⟨⟨rfl,congrArg _ (by rw[hc,hr34,hxe];exact sg_sum hs0 (.inl (sgR_eq0.1 (hr39 ▸ k41)))),trivial⟩,trivial⟩ rfl (by simp)
 ·have k12:=eql_t h12
  exact absurd k12 (by omega)
theorem yvalC (h:Twr R u):YValC R u:=by
 induction u with
 | nil=>
  intro T A s x c hT hA hx hs hc
  obtain⟨p,rfl⟩:=in_nil.1 hx.mem
  rw[em_nil] at hA
  exact Yval_base hT hA (hc.trans (sgR_rat p))
 | cons r u ih=>
  intro T A s x c hT hA hx hs hc
  exact Yval_step h (ih h.tail) hT hA hx hs hc
end Go.Abs
namespace Go.Abs
open Go.RowKit
variable {A:LR} {R s:Nat} {T:List LR} {c:Int} {u:List (List Rat)} {x:Re}
theorem YFastv (h:Twr R u) (hT:T=tw u) (hA:A=em u x) (hx:El u s x) (hs:VV u.length R s≤60000000000000) (hc:c=sgR x):CF 70 [.one (.sl (.sl tRat) T),.one (.sl tRat A)] (.one (.int .i64 c)):=by
 refine acall_fn Tryz.func70 (by kernel_rfl) rfl fun E hE=>?_
 conv=>cbv
 refine cA hE (yvalC h hT hA hx hs hc) ?_
 try conv=>cbv
 exact fA ⟨⟨rfl,rfl,trivial⟩,trivial⟩ rfl (by simp)
theorem YRealv (h:Twr R u) (hT:T=tw u) (hs:VV u.length R R≤60000000000000):CF 154 [.one (.sl (.sl tRat) T)] (.one (.bool true)):=by
 have hTl:T.length=u.length:=by rw[hT,tw_len]
 refine acall_fn Tryz.func154 (by kernel_rfl) rfl fun E hE=>?_
 conv=>cbv
 refine cA hE (YTower_ok h hT) ?_
 try conv=>cbv
 intro n6 h6;(have h6:=h6.trans (show _=false from rfl));subst h6;conv=>cbv
 refine .inr ?_
 obtain⟨J0,hJ0⟩:∃J:List AV→List Blk→Nat→Prop,J=fun vs bl k=>∃(i':Nat) (i:Int),vs=[.one (.sl (.sl tRat) T),.one (.int .i64 i)]∧(NatIs i i'∧i'≤T.length)∧k=T.length-i':=⟨_,rfl⟩
 refine⟨[0,3],[],J0,⟨T.length-0,by rw[hJ0];exact⟨0,0,rfl,⟨natIs 0,by omega⟩,rfl⟩⟩,?_⟩
 intro vs bl kk0 hj;rw[hJ0] at hj
 obtain⟨i',i,rfl,⟨hi,hiL⟩,hk0⟩:=hj
 conv=>cbv
 have ei:=hi.eq
 intro n9 h9;have e9:=h9.eq;have f9:=h9.le;conv=>cbv
 intro n10 h10;conv=>cbv
 cases n10 <;> conv=>cbv
 ·have k10:=lss_f h10
  exact fA ⟨⟨rfl,rfl,trivial⟩,trivial⟩ rfl (by simp)
 ·have k10:=lss_t h10
  refine .inr ?_
  intro m15 hm15;conv=>cbv
  refine⟨fun _=>⟨by omega,by omega⟩,?_⟩
  intro b15 hb15;conv=>cbv
  intro l15 hl15;conv=>cbv
  obtain⟨x18,hx18⟩:=get_ex (l:=T) (i:=i') (by omega)
  refine⟨x18,fun _=>⟨by omega,by rw[show (i).toNat=i' by omega];exact hx18⟩,?_⟩
  try conv=>cbv
  obtain⟨r,hrp,hri⟩:=pre_succ (u:=u) (i:=i') (by omega)
  have hrd:Red (r::pre u i'):=hrp ▸ (h.pre (i'+1)).red
  have hrx:x18=rps r:=by rw[←hT,hx18] at hri;exact Option.some.inj hri
  have hx18e:x18=em (pre u i') (evR (pre u i') r):=hrx.trans (em_rad hrd)
  have hl15e:l15=tw (pre u i'):=by rw[hl15,List.drop_zero,show b15=i' by omega,hT,pre_take]
  obtain⟨r20,hr20⟩:∃z:Int,z=sgR (evR (pre u i') r):=⟨_,rfl⟩
  refine cL (r:= .one (.int .i64 r20)) hE (yvalC (h.pre i') hl15e hx18e (El.rad (hrp ▸ h.pre (i'+1))) (by rw[pre_len (by omega)];exact Nat.le_trans (VV_le (by omega) R R) hs) hr20) ⟨rfl,rfl,trivial⟩ ?_
  try conv=>cbv
  intro n21 h21;conv=>cbv
  refine⟨fun _=>rfl,?_⟩
  cases n21 <;> conv=>cbv
  ·have k21:=neq_f h21
   intro n12 h12;conv=>cbv
   refine⟨fun _=>i64 (by omega),?_⟩
   refine⟨T.length-(i'+1),?_,?_⟩
   ·omega
   rw[hJ0]
   exact⟨i'+1,n12,rfl,⟨⟨by omega⟩,by omega⟩,rfl⟩
  ·have k21:=neq_t h21
   exact absurd (hr20.trans (sgR_pos hrd.2.2.1)) k21
theorem YSignv (h:Twr R u) (hT:T=tw u) (hA:A=em u x) (hx:El u s x) (hs:VV u.length R s≤60000000000000) (hss:s≤60000000000000) (hR:VV u.length R R≤60000000000000) (hc:c=sgR x):CF 95 [.one (.sl (.sl tRat) T),.one (.sl tRat A)] (.one (.int .i64 c)):=by
 refine acall_fn Tryz.func95 (by kernel_rfl) rfl fun E hE=>?_
 conv=>cbv
 refine cA hE (YFormed_ok h hT hA hx hss) ?_
 try conv=>cbv
 intro n8 h8;(have h8:=h8.trans (show _=false from rfl));subst h8;conv=>cbv
 refine cA hE (YRealv h hT hR) ?_
 try conv=>cbv
 intro n12 h12;(have h12:=h12.trans (show _=false from rfl));subst h12;conv=>cbv
 refine cA hE (yvalC h hT hA hx hs hc) ?_
 try conv=>cbv
 exact fA ⟨⟨rfl,rfl,trivial⟩,trivial⟩ rfl (by simp)
theorem YRootv {C:LR} {r:List Rat} {k:Int} (h:Twr R (r::u)) (hT:T=tw (r::u)) (hk:NatIs k u.length) (hC:C=em (r::u) (rt u r)):CF 224 [.one (.sl (.sl tRat) T),.one (.int .i64 k)] (.one (.sl tRat C)):=by
 have ek:=hk.eq
 have hht:(r::u).length≤16:=h.ht
 have hl1:(r::u).length=u.length+1:=rfl
 refine acall_fn Tryz.func224 (by kernel_rfl) rfl fun E hE=>?_
 conv=>cbv
 obtain⟨zb7,zl7,yb7,yl7,hz7⟩:=isR_ex (((0:Int):Rat))
 refine cL hE (YRFromInt_ok (by omega) rfl hz7) ⟨rfl,trivial⟩ ?_
 try conv=>cbv
 obtain⟨w8,hw8⟩:∃z:LR,z=em (r::u) (0):=⟨_,rfl⟩
 obtain⟨w8n,hw8n⟩:∃n:Nat,n=w8.length:=⟨_,rfl⟩
 refine cL (r:= .one (.own tRat w8 w8n)) hE (YFromRat_own h hT hz7 (by rw[show Re.ofRat ((0:Int):Rat)=0 from rfl];exact hw8) hw8n) ⟨rfl,⟨rfl,rfl,rfl,rfl,trivial⟩,trivial⟩ ?_
 try conv=>cbv
 intro n11 h11;conv=>cbv
 refine⟨fun _=>by omega,?_⟩
 have hs11:=(shl_one (k:=u.length) h11 ek (by omega)).eq
 obtain⟨zb12,zl12,yb12,yl12,hz12⟩:=isR_ex (((1:Int):Rat))
 refine cL hE (YRFromInt_ok (by omega) rfl hz12) ⟨rfl,trivial⟩ ?_
 try conv=>cbv
 have hl8:w8.length=2^u.length+2^u.length:=by rw[hw8,em_len (in_zero _),pow_len]
 have hpp:=pow_pos2 u.length
 have hp16:=pow16 (n:=u.length) (by omega)
 refine⟨fun _=>⟨by omega,by omega⟩,?_⟩
 intro j13 hj13;conv=>cbv
 refine⟨((zb12,zl12),(yb12,yl12)),fun _=>⟨by show _<List.length (α:=(el tRat)) w8;(first | omega | (simp;omega)),by first | exact⟨rfl,trivial⟩ | exact⟨rfl,rfl,trivial⟩ | exact⟨rfl,rfl,rfl,rfl,trivial⟩ | simp[allC,leC,cells]⟩,?_⟩
 intro (l13:LR) (hl13:l13=List.set (α:=(el tRat)) w8 j13 (((zb12,zl12),(yb12,yl12))));have gl13:l13.length=w8.length:=by rw[hl13,List.length_set]
 conv=>cbv
 refine⟨fun _=>rfl,?_⟩
 have hfin:C=l13:=by rw[hC,em_root h.red,hl13,hw8];congr 1 <;> first | omega | exact hz12.rp
 exact fA ⟨⟨rfl,.inl ⟨_,rfl,by omega,congrArg _ (by rw[hfin,List.drop_zero,List.take_of_length_le (by omega)])⟩,trivial⟩,trivial⟩ rfl (by simp)
end Go.Abs
namespace Go.Abs
def TQ (h R s:Nat):Nat:=3*s+4*EE h R+R+GG h R+3+II h R R
def SS:Nat→Nat→Nat→Nat
 | 0,_,s=>s
 | h+1,R,s=>max (VV (h+1) R s) (max (SS h R (TQ h R s)) (s+II h R (TQ h R s+GG h R)+2*EE h R+2))
theorem TQ_mono (h R:Nat) {s t:Nat} (hst:s≤t):TQ h R s≤TQ h R t:=by unfold TQ;omega
theorem SS_mono:∀(h R:Nat) {s t:Nat},s≤t→SS h R s≤SS h R t
 | 0,_,_,_,hst=>hst
 | h+1,R,s,t,hst=>by
  have h1:=VV_mono (h+1) R hst
  have h2:=SS_mono h R (TQ_mono h R hst)
  have h3:=II_mono h R (Nat.add_le_add_right (TQ_mono h R hst) (GG h R))
  show max _ (max _ _)≤max _ (max _ _)
  omega
theorem SS_v (h R s:Nat):VV (h+1) R s≤SS (h+1) R s:=by show _≤max _ (max _ _);omega
theorem SS_d (h R s:Nat):SS h R (TQ h R s)≤SS (h+1) R s:=by show _≤max _ (max _ _);omega
theorem SS_i (h R s:Nat):s+II h R (TQ h R s+GG h R)+2*EE h R+2≤SS (h+1) R s:=by show _≤max _ (max _ _);omega
theorem SS_ge (h R s:Nat):s≤SS h R s:=by
 cases h with
 | zero=>exact Nat.le_refl _
 | succ h=>exact Nat.le_trans (VV_ge _ _ _) (SS_v h R s)
end Go.Abs
