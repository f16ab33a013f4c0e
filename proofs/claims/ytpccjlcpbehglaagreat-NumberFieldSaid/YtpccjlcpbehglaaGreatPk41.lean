/- Part 42 of a proof. Conditions: each theorem's own. -/
import Derived.Test.YtpccjlcpbehglaaGreatPk39
import Derived.Test.YtpccjlcpbehglaaGreatPk40
set_option linter.all false
set_option maxHeartbeats 8000000
open Go.Proofs
namespace Go.Abs
open Go.RowKit
variable {A B l:LR} {R k0 s:Nat} {T:List LR} {i n p q t w x:Re} {r:List Rat} {u:List (List Rat)}
theorem Yjoin_ok {C:LR} (hA:A.length≤1000000) (hB:B.length≤1000000) (hC:C=A++B):CF 156 [.one (.sl tRat A),.one (.sl tRat B)] (.one (.sl tRat C)):=by
 refine acall_fn Tryz.func156 (by kernel_rfl) rfl fun E hE=>?_
 conv=>cbv
 refine⟨[],fun _=>⟨rfl,by decide,rfl,trivial⟩,.inl ?_⟩
 try conv=>cbv
 refine .inl ⟨A,fun _=>⟨rfl,rfl,rfl,by show (0+A.length)*64≤140737488355328;(try simp only[List.length_take,List.length_drop]);omega⟩,?_⟩
 intro (l7:LR) n7 ql7;have hl7:l7=([]:LR)++(A:LR):=ql7.1;have hn7:n7=List.length (α:=(el tRat)) l7:=ql7.2;conv=>cbv
 have hl7l:l7.length=A.length:=by rw[hl7];simp
 refine .inl ⟨B,fun _=>⟨rfl,hn7,rfl,by show (l7.length+B.length)*64≤140737488355328;(try simp only[List.length_take,List.length_drop]);omega⟩,?_⟩
 intro (l9:LR) n9 ql9;have hl9:l9=(l7:LR)++(B:LR):=ql9.1;have hn9:n9=List.length (α:=(el tRat)) l9:=ql9.2;conv=>cbv
 have hfin:C=l9:=by rw[hC,hl9,hl7];rfl
 exact fA ⟨⟨rfl,.inl ⟨_,rfl,by omega,congrArg _ (by rw[hfin,List.drop_zero,List.take_of_length_le (by omega)])⟩,trivial⟩,trivial⟩ rfl (by simp)
def YSqN (u:List (List Rat)) (x:Re) (l:LR):Prop:=∀{T:List LR} {A:LR},T=tw u→A=em u x→
 CF 96 [.one (.sl (.sl tRat) T),.one (.sl tRat A)] (.tup [(false,[.sl tRat l]),(false,[.bool false])])
def YSqY (u:List (List Rat)) (x w:Re):Prop:=∀{T:List LR} {A B:LR},T=tw u→A=em u x→B=em u w→
 CF 96 [.one (.sl (.sl tRat) T),.one (.sl tRat A)] (.tup [(false,[.sl tRat B]),(false,[.bool true])])
theorem not_neg_sg {c:Int} (hc:c=sgR x) (h:c<0) (h0:0≤x):False:=by
 have:=(lt_zero_sg (x:=x)).1 (by omega)
 grind
theorem Ysq_neg (h:Twr R (r::u)) (hT:T=tw (r::u)) (hA:A=em (r::u) x) (hx:El (r::u) s x) (hxe:x=p+q*rt u r) (hp:El u s p) (hq:El u s q) (hs:SS (r::u).length R s≤60000000000000) (hvR:VV (r::u).length R R≤60000000000000) (h0x:x<0):CF 96 [.one (.sl (.sl tRat) T),.one (.sl tRat A)] (.tup [(false,[.sl tRat (([]:LR))]),(false,[.bool false])]):=by
 have hTl:T.length=u.length+1:=by rw[hT,tw_len];rfl
 have hAl:A.length=2^u.length+2^u.length:=by rw[hA,em_len hx.mem,pow_len]
 have hrr:=El.rad h
 have hR:=h.hR
 have hsv:VV (r::u).length R s≤SS (r::u).length R s:=SS_v u.length R s
 have hsi:s+II u.length R (TQ u.length R s+GG u.length R)+2*EE u.length R+2≤SS (r::u).length R s:=SS_i u.length R s
 have hsg:=VV_ge (r::u).length R s
 have hmn:=II_ge u.length R (TQ u.length R s+GG u.length R)
 have hTQ:TQ u.length R s=3*s+4*EE u.length R+R+GG u.length R+3+II u.length R R:=rfl
 have hp16:=pow16 h.tail.ht
 refine acall_fn Tryz.func96 (by kernel_rfl) rfl fun E hE=>?_
 conv=>cbv
 intro n31 h31;have e31:=h31.eq;have f31:=h31.le;conv=>cbv
 intro n32 h32;conv=>cbv
 cases n32 <;> conv=>cbv
 ·have k32:=eql_f h32
  obtain⟨r45,hr45⟩:∃z:Int,z=sgR x:=⟨_,rfl⟩
  refine cL hE (YSignv h hT hA hx (by omega) (by omega) hvR hr45) ⟨rfl,rfl,trivial⟩ ?_
  try conv=>cbv
  intro n46 h46;conv=>cbv
  cases n46 <;> conv=>cbv
  ·have k46:=lss_f h46
   exact absurd (lt_zero_sg.2 h0x) (by omega)
  ·have k46:=lss_t h46
   exact fA ⟨⟨rfl,.inr (.inl ⟨_,rfl⟩),trivial⟩,⟨rfl,rfl,trivial⟩,trivial⟩ rfl (by simp)
 ·have k32:=eql_t h32
  exact absurd k32 (by omega)
theorem Ysq_z1 (h:Twr R (r::u)) (hT:T=tw (r::u)) (hA:A=em (r::u) x) (hx:El (r::u) s x) (hxe:x=p+q*rt u r) (hp:El u s p) (hq:El u s q) (hs:SS (r::u).length R s≤60000000000000) (hvR:VV (r::u).length R R≤60000000000000) (h0x:0≤x) (h0:q=0) (hw:In u w) (hy:YSqY u p w) (hB:B=em (r::u) w):CF 96 [.one (.sl (.sl tRat) T),.one (.sl tRat A)] (.tup [(false,[.sl tRat B]),(false,[.bool true])]):=by
 have hTl:T.length=u.length+1:=by rw[hT,tw_len];rfl
 have hAl:A.length=2^u.length+2^u.length:=by rw[hA,em_len hx.mem,pow_len]
 have hrr:=El.rad h
 have hR:=h.hR
 have hsv:VV (r::u).length R s≤SS (r::u).length R s:=SS_v u.length R s
 have hsi:s+II u.length R (TQ u.length R s+GG u.length R)+2*EE u.length R+2≤SS (r::u).length R s:=SS_i u.length R s
 have hsg:=VV_ge (r::u).length R s
 have hmn:=II_ge u.length R (TQ u.length R s+GG u.length R)
 have hTQ:TQ u.length R s=3*s+4*EE u.length R+R+GG u.length R+3+II u.length R R:=rfl
 have hp16:=pow16 h.tail.ht
 refine acall_fn Tryz.func96 (by kernel_rfl) rfl fun E hE=>?_
 conv=>cbv
 intro n31 h31;have e31:=h31.eq;have f31:=h31.le;conv=>cbv
 intro n32 h32;conv=>cbv
 cases n32 <;> conv=>cbv
 ·have k32:=eql_f h32
  obtain⟨r45,hr45⟩:∃z:Int,z=sgR x:=⟨_,rfl⟩
  refine cL hE (YSignv h hT hA hx (by omega) (by omega) hvR hr45) ⟨rfl,rfl,trivial⟩ ?_
  try conv=>cbv
  intro n46 h46;conv=>cbv
  cases n46 <;> conv=>cbv
  ·have k46:=lss_f h46
   intro n48 h48;have e48:=h48.eq;have f48:=h48.le;conv=>cbv
   intro n49 h49;conv=>cbv
   refine⟨fun _=>i64 (by omega),?_⟩
   intro m52 hm52;conv=>cbv
   refine⟨fun _=>⟨by omega,by omega⟩,?_⟩
   intro b52 hb52;conv=>cbv
   intro l52 hl52;conv=>cbv
   obtain⟨x55,hx55⟩:=get_ex (l:=T) (i:=(T.length-1)) (by omega)
   refine⟨x55,fun _=>⟨by omega,by rw[show (n49).toNat=(T.length-1) by omega];exact hx55⟩,?_⟩
   try conv=>cbv
   refine⟨fun _=>rfl,?_⟩
   intro n58 h58;have e58:=h58.eq;have f58:=h58.le;conv=>cbv
   intro n59 h59;conv=>cbv
   refine⟨fun _=>⟨by omega,by omega,i64 (by omega)⟩,?_⟩
   intro m62 hm62;conv=>cbv
   refine⟨fun _=>⟨by omega,by omega⟩,?_⟩
   intro b62 hb62;conv=>cbv
   intro l62 hl62;conv=>cbv
   intro m65 hm65;conv=>cbv
   refine⟨fun _=>⟨by omega,by omega⟩,?_⟩
   rintro a65 b65 ⟨ha65,hb65⟩;conv=>cbv
   intro l65 hl65;conv=>cbv
   refine⟨fun _=>rfl,?_⟩
   have hl52e:l52=tw u:=by rw[hl52,List.drop_zero,show b52=T.length-1 by omega,hT,tw_take]
   have hx55e:x55=em u (evR u r):=by rw[hT,tw_last] at hx55;exact (Option.some.inj hx55).symm.trans (em_rad h.red)
   have hl62e:l62=em u p:=by rw[hl62,List.drop_zero,show b62=A.length/2 by omega,hA,em_lo h.red hp.mem hq.mem hxe]
   have hl65e:l65=em u q:=by rw[hl65,show a65=A.length/2 by omega,hb65,hm65,List.take_length,hA,em_hi h.red hp.mem hq.mem hxe]
   obtain⟨zb67,zl67,yb67,yl67,hz67⟩:=isR_ex (((0:Int):Rat))
   refine cL hE (YRFromInt_ok (by omega) rfl hz67) ⟨rfl,trivial⟩ ?_
   try conv=>cbv
   obtain⟨w68,hw68⟩:∃z:LR,z=em u (0):=⟨_,rfl⟩
   refine cL (r:= .one (.sl tRat w68)) hE (YFromRat_ok h.tail hl52e hz67 (by rw[show Re.ofRat ((0:Int):Rat)=0 from rfl];exact hw68)) ⟨rfl,⟨rfl,rfl,rfl,rfl,trivial⟩,trivial⟩ ?_
   try conv=>cbv
   refine cA hE (YZero_t h.tail.red hq.mem hl65e h0) ?_
   try conv=>cbv
   obtain⟨w75,hw75⟩:∃z:LR,z=em u w:=⟨_,rfl⟩
   refine cA hE (hy hl52e hl62e hw75) ?_
   try conv=>cbv
   have hBj:B=w75++w68:=by rw[hB,hw75,hw68];exact em_app h.red hw (in_zero u) (by grind)
   refine cL (r:= .one (.sl tRat B)) hE (Yjoin_ok (by rw[hw75,em_len hw];omega) (by rw[hw68,em_len (in_zero u)];omega) hBj) ⟨rfl,rfl,trivial⟩ ?_
   try conv=>cbv
   exact fA ⟨⟨rfl,rfl,trivial⟩,⟨rfl,rfl,trivial⟩,trivial⟩ rfl (by simp)
  ·have k46:=lss_t h46
   exact (not_neg_sg hr45 k46 h0x).elim
 ·have k32:=eql_t h32
  exact absurd k32 (by omega)
theorem Ysq_z2 (h:Twr R (r::u)) (hT:T=tw (r::u)) (hA:A=em (r::u) x) (hx:El (r::u) s x) (hxe:x=p+q*rt u r) (hp:El u s p) (hq:El u s q) (hs:SS (r::u).length R s≤60000000000000) (hvR:VV (r::u).length R R≤60000000000000) (h0x:0≤x) (h0:q=0) (hi:In u i) (hri:evR u r*i=1) (hn:YSqN u p l) (hw:In u w) (hy:YSqY u (p*i) w) (hB:B=em (r::u) (w*rt u r)):CF 96 [.one (.sl (.sl tRat) T),.one (.sl tRat A)] (.tup [(false,[.sl tRat B]),(false,[.bool true])]):=by
 have hTl:T.length=u.length+1:=by rw[hT,tw_len];rfl
 have hAl:A.length=2^u.length+2^u.length:=by rw[hA,em_len hx.mem,pow_len]
 have hrr:=El.rad h
 have hR:=h.hR
 have hsv:VV (r::u).length R s≤SS (r::u).length R s:=SS_v u.length R s
 have hsi:s+II u.length R (TQ u.length R s+GG u.length R)+2*EE u.length R+2≤SS (r::u).length R s:=SS_i u.length R s
 have hsg:=VV_ge (r::u).length R s
 have hmn:=II_ge u.length R (TQ u.length R s+GG u.length R)
 have hTQ:TQ u.length R s=3*s+4*EE u.length R+R+GG u.length R+3+II u.length R R:=rfl
 have hp16:=pow16 h.tail.ht
 have hib:=hrr.inv h.tail hi hri
 refine acall_fn Tryz.func96 (by kernel_rfl) rfl fun E hE=>?_
 conv=>cbv
 intro n31 h31;have e31:=h31.eq;have f31:=h31.le;conv=>cbv
 intro n32 h32;conv=>cbv
 cases n32 <;> conv=>cbv
 ·have k32:=eql_f h32
  obtain⟨r45,hr45⟩:∃z:Int,z=sgR x:=⟨_,rfl⟩
  refine cL hE (YSignv h hT hA hx (by omega) (by omega) hvR hr45) ⟨rfl,rfl,trivial⟩ ?_
  try conv=>cbv
  intro n46 h46;conv=>cbv
  cases n46 <;> conv=>cbv
  ·have k46:=lss_f h46
   intro n48 h48;have e48:=h48.eq;have f48:=h48.le;conv=>cbv
   intro n49 h49;conv=>cbv
   refine⟨fun _=>i64 (by omega),?_⟩
   intro m52 hm52;conv=>cbv
   refine⟨fun _=>⟨by omega,by omega⟩,?_⟩
   intro b52 hb52;conv=>cbv
   intro l52 hl52;conv=>cbv
   obtain⟨x55,hx55⟩:=get_ex (l:=T) (i:=(T.length-1)) (by omega)
   refine⟨x55,fun _=>⟨by omega,by rw[show (n49).toNat=(T.length-1) by omega];exact hx55⟩,?_⟩
   try conv=>cbv
   refine⟨fun _=>rfl,?_⟩
   intro n58 h58;have e58:=h58.eq;have f58:=h58.le;conv=>cbv
   intro n59 h59;conv=>cbv
   refine⟨fun _=>⟨by omega,by omega,i64 (by omega)⟩,?_⟩
   intro m62 hm62;conv=>cbv
   refine⟨fun _=>⟨by omega,by omega⟩,?_⟩
   intro b62 hb62;conv=>cbv
   intro l62 hl62;conv=>cbv
   intro m65 hm65;conv=>cbv
   refine⟨fun _=>⟨by omega,by omega⟩,?_⟩
   rintro a65 b65 ⟨ha65,hb65⟩;conv=>cbv
   intro l65 hl65;conv=>cbv
   refine⟨fun _=>rfl,?_⟩
   have hl52e:l52=tw u:=by rw[hl52,List.drop_zero,show b52=T.length-1 by omega,hT,tw_take]
   have hx55e:x55=em u (evR u r):=by rw[hT,tw_last] at hx55;exact (Option.some.inj hx55).symm.trans (em_rad h.red)
   have hl62e:l62=em u p:=by rw[hl62,List.drop_zero,show b62=A.length/2 by omega,hA,em_lo h.red hp.mem hq.mem hxe]
   have hl65e:l65=em u q:=by rw[hl65,show a65=A.length/2 by omega,hb65,hm65,List.take_length,hA,em_hi h.red hp.mem hq.mem hxe]
   obtain⟨zb67,zl67,yb67,yl67,hz67⟩:=isR_ex (((0:Int):Rat))
   refine cL hE (YRFromInt_ok (by omega) rfl hz67) ⟨rfl,trivial⟩ ?_
   try conv=>cbv
   obtain⟨w68,hw68⟩:∃z:LR,z=em u (0):=⟨_,rfl⟩
   refine cL (r:= .one (.sl tRat w68)) hE (YFromRat_ok h.tail hl52e hz67 (by rw[show Re.ofRat ((0:Int):Rat)=0 from rfl];exact hw68)) ⟨rfl,⟨rfl,rfl,rfl,rfl,trivial⟩,trivial⟩ ?_
   try conv=>cbv
   refine cA hE (YZero_t h.tail.red hq.mem hl65e h0) ?_
   try conv=>cbv
   refine cA hE (hn hl52e hl62e) ?_
   try conv=>cbv
   obtain⟨w84,hw84⟩:∃z:LR,z=em u (i):=⟨_,rfl⟩
   refine cL (r:= .tup [(false,[.sl tRat w84]),(false,[.int .i64 0])]) hE (Yinvv h.tail hl52e hx55e hrr hi hri (by have:=II_mono u.length R (s:=R) (t:=TQ u.length R s+GG u.length R) (by omega);omega) hw84) ⟨rfl,rfl,trivial⟩ ?_
   try conv=>cbv
   obtain⟨w92,hw92⟩:∃z:LR,z=em u (p*i):=⟨_,rfl⟩
   refine cL hE (Ymulv h.tail hl52e hl62e hw84 hp hib (by omega) hw92) ⟨rfl,rfl,rfl,trivial⟩ ?_
   try conv=>cbv
   obtain⟨w94,hw94⟩:∃z:LR,z=em u w:=⟨_,rfl⟩
   refine cA hE (hy hl52e hw92 hw94) ?_
   try conv=>cbv
   have hBj:B=w68++w94:=by rw[hB,hw94,hw68];exact em_app h.red (in_zero u) hw (by grind)
   refine cL (r:= .one (.sl tRat B)) hE (Yjoin_ok (by rw[hw68,em_len (in_zero u)];omega) (by rw[hw94,em_len hw];omega) hBj) ⟨rfl,rfl,trivial⟩ ?_
   try conv=>cbv
   exact fA ⟨⟨rfl,rfl,trivial⟩,⟨rfl,rfl,trivial⟩,trivial⟩ rfl (by simp)
  ·have k46:=lss_t h46
   exact (not_neg_sg hr45 k46 h0x).elim
 ·have k32:=eql_t h32
  exact absurd k32 (by omega)
theorem Ysq_z3 (h:Twr R (r::u)) (hT:T=tw (r::u)) (hA:A=em (r::u) x) (hx:El (r::u) s x) (hxe:x=p+q*rt u r) (hp:El u s p) (hq:El u s q) (hs:SS (r::u).length R s≤60000000000000) (hvR:VV (r::u).length R R≤60000000000000) (h0x:0≤x) (h0:q=0) (hi:In u i) (hri:evR u r*i=1) (hn:YSqN u p l) {l2:LR} (hn2:YSqN u (p*i) l2):CF 96 [.one (.sl (.sl tRat) T),.one (.sl tRat A)] (.tup [(false,[.sl tRat (([]:LR))]),(false,[.bool false])]):=by
 have hTl:T.length=u.length+1:=by rw[hT,tw_len];rfl
 have hAl:A.length=2^u.length+2^u.length:=by rw[hA,em_len hx.mem,pow_len]
 have hrr:=El.rad h
 have hR:=h.hR
 have hsv:VV (r::u).length R s≤SS (r::u).length R s:=SS_v u.length R s
 have hsi:s+II u.length R (TQ u.length R s+GG u.length R)+2*EE u.length R+2≤SS (r::u).length R s:=SS_i u.length R s
 have hsg:=VV_ge (r::u).length R s
 have hmn:=II_ge u.length R (TQ u.length R s+GG u.length R)
 have hTQ:TQ u.length R s=3*s+4*EE u.length R+R+GG u.length R+3+II u.length R R:=rfl
 have hp16:=pow16 h.tail.ht
 have hib:=hrr.inv h.tail hi hri
 refine acall_fn Tryz.func96 (by kernel_rfl) rfl fun E hE=>?_
 conv=>cbv
 intro n31 h31;have e31:=h31.eq;have f31:=h31.le;conv=>cbv
 intro n32 h32;conv=>cbv
 cases n32 <;> conv=>cbv
 ·have k32:=eql_f h32
  obtain⟨r45,hr45⟩:∃z:Int,z=sgR x:=⟨_,rfl⟩
  refine cL hE (YSignv h hT hA hx (by omega) (by omega) hvR hr45) ⟨rfl,rfl,trivial⟩ ?_
  try conv=>cbv
  intro n46 h46;conv=>cbv
  cases n46 <;> conv=>cbv
  ·have k46:=lss_f h46
   intro n48 h48;have e48:=h48.eq;have f48:=h48.le;conv=>cbv
   intro n49 h49;conv=>cbv
   refine⟨fun _=>i64 (by omega),?_⟩
   intro m52 hm52;conv=>cbv
   refine⟨fun _=>⟨by omega,by omega⟩,?_⟩
   intro b52 hb52;conv=>cbv
   intro l52 hl52;conv=>cbv
   obtain⟨x55,hx55⟩:=get_ex (l:=T) (i:=(T.length-1)) (by omega)
   refine⟨x55,fun _=>⟨by omega,by rw[show (n49).toNat=(T.length-1) by omega];exact hx55⟩,?_⟩
   try conv=>cbv
   refine⟨fun _=>rfl,?_⟩
   intro n58 h58;have e58:=h58.eq;have f58:=h58.le;conv=>cbv
   intro n59 h59;conv=>cbv
   refine⟨fun _=>⟨by omega,by omega,i64 (by omega)⟩,?_⟩
   intro m62 hm62;conv=>cbv
   refine⟨fun _=>⟨by omega,by omega⟩,?_⟩
   intro b62 hb62;conv=>cbv
   intro l62 hl62;conv=>cbv
   intro m65 hm65;conv=>cbv
   refine⟨fun _=>⟨by omega,by omega⟩,?_⟩
   rintro a65 b65 ⟨ha65,hb65⟩;conv=>cbv
   intro l65 hl65;conv=>cbv
   refine⟨fun _=>rfl,?_⟩
   have hl52e:l52=tw u:=by rw[hl52,List.drop_zero,show b52=T.length-1 by omega,hT,tw_take]
   have hx55e:x55=em u (evR u r):=by rw[hT,tw_last] at hx55;exact (Option.some.inj hx55).symm.trans (em_rad h.red)
   have hl62e:l62=em u p:=by rw[hl62,List.drop_zero,show b62=A.length/2 by omega,hA,em_lo h.red hp.mem hq.mem hxe]
   have hl65e:l65=em u q:=by rw[hl65,show a65=A.length/2 by omega,hb65,hm65,List.take_length,hA,em_hi h.red hp.mem hq.mem hxe]
   obtain⟨zb67,zl67,yb67,yl67,hz67⟩:=isR_ex (((0:Int):Rat))
   refine cL hE (YRFromInt_ok (by omega) rfl hz67) ⟨rfl,trivial⟩ ?_
   try conv=>cbv
   obtain⟨w68,hw68⟩:∃z:LR,z=em u (0):=⟨_,rfl⟩
   refine cL (r:= .one (.sl tRat w68)) hE (YFromRat_ok h.tail hl52e hz67 (by rw[show Re.ofRat ((0:Int):Rat)=0 from rfl];exact hw68)) ⟨rfl,⟨rfl,rfl,rfl,rfl,trivial⟩,trivial⟩ ?_
   try conv=>cbv
   refine cA hE (YZero_t h.tail.red hq.mem hl65e h0) ?_
   try conv=>cbv
   refine cA hE (hn hl52e hl62e) ?_
   try conv=>cbv
   obtain⟨w84,hw84⟩:∃z:LR,z=em u (i):=⟨_,rfl⟩
   refine cL (r:= .tup [(false,[.sl tRat w84]),(false,[.int .i64 0])]) hE (Yinvv h.tail hl52e hx55e hrr hi hri (by have:=II_mono u.length R (s:=R) (t:=TQ u.length R s+GG u.length R) (by omega);omega) hw84) ⟨rfl,rfl,trivial⟩ ?_
   try conv=>cbv
   obtain⟨w92,hw92⟩:∃z:LR,z=em u (p*i):=⟨_,rfl⟩
   refine cL hE (Ymulv h.tail hl52e hl62e hw84 hp hib (by omega) hw92) ⟨rfl,rfl,rfl,trivial⟩ ?_
   try conv=>cbv
   refine cA hE (hn2 hl52e hw92) ?_
   try conv=>cbv
   exact fA ⟨⟨rfl,.inr (.inl ⟨_,rfl⟩),trivial⟩,⟨rfl,rfl,trivial⟩,trivial⟩ rfl (by simp)
  ·have k46:=lss_t h46
   exact (not_neg_sg hr45 k46 h0x).elim
 ·have k32:=eql_t h32
  exact absurd k32 (by omega)
theorem Ysq_n0 (h:Twr R (r::u)) (hT:T=tw (r::u)) (hA:A=em (r::u) x) (hx:El (r::u) s x) (hxe:x=p+q*rt u r) (hp:El u s p) (hq:El u s q) (hs:SS (r::u).length R s≤60000000000000) (hvR:VV (r::u).length R R≤60000000000000) (h0x:0≤x) (h0:q≠0) (hn:YSqN u (p*p-q*q*evR u r) l):CF 96 [.one (.sl (.sl tRat) T),.one (.sl tRat A)] (.tup [(false,[.sl tRat (([]:LR))]),(false,[.bool false])]):=by
 have hTl:T.length=u.length+1:=by rw[hT,tw_len];rfl
 have hAl:A.length=2^u.length+2^u.length:=by rw[hA,em_len hx.mem,pow_len]
 have hrr:=El.rad h
 have hR:=h.hR
 have hsv:VV (r::u).length R s≤SS (r::u).length R s:=SS_v u.length R s
 have hsi:s+II u.length R (TQ u.length R s+GG u.length R)+2*EE u.length R+2≤SS (r::u).length R s:=SS_i u.length R s
 have hsg:=VV_ge (r::u).length R s
 have hmn:=II_ge u.length R (TQ u.length R s+GG u.length R)
 have hTQ:TQ u.length R s=3*s+4*EE u.length R+R+GG u.length R+3+II u.length R R:=rfl
 have hp16:=pow16 h.tail.ht
 refine acall_fn Tryz.func96 (by kernel_rfl) rfl fun E hE=>?_
 conv=>cbv
 intro n31 h31;have e31:=h31.eq;have f31:=h31.le;conv=>cbv
 intro n32 h32;conv=>cbv
 cases n32 <;> conv=>cbv
 ·have k32:=eql_f h32
  obtain⟨r45,hr45⟩:∃z:Int,z=sgR x:=⟨_,rfl⟩
  refine cL hE (YSignv h hT hA hx (by omega) (by omega) hvR hr45) ⟨rfl,rfl,trivial⟩ ?_
  try conv=>cbv
  intro n46 h46;conv=>cbv
  cases n46 <;> conv=>cbv
  ·have k46:=lss_f h46
   intro n48 h48;have e48:=h48.eq;have f48:=h48.le;conv=>cbv
   intro n49 h49;conv=>cbv
   refine⟨fun _=>i64 (by omega),?_⟩
   intro m52 hm52;conv=>cbv
   refine⟨fun _=>⟨by omega,by omega⟩,?_⟩
   intro b52 hb52;conv=>cbv
   intro l52 hl52;conv=>cbv
   obtain⟨x55,hx55⟩:=get_ex (l:=T) (i:=(T.length-1)) (by omega)
   refine⟨x55,fun _=>⟨by omega,by rw[show (n49).toNat=(T.length-1) by omega];exact hx55⟩,?_⟩
   try conv=>cbv
   refine⟨fun _=>rfl,?_⟩
   intro n58 h58;have e58:=h58.eq;have f58:=h58.le;conv=>cbv
   intro n59 h59;conv=>cbv
   refine⟨fun _=>⟨by omega,by omega,i64 (by omega)⟩,?_⟩
   intro m62 hm62;conv=>cbv
   refine⟨fun _=>⟨by omega,by omega⟩,?_⟩
   intro b62 hb62;conv=>cbv
   intro l62 hl62;conv=>cbv
   intro m65 hm65;conv=>cbv
   refine⟨fun _=>⟨by omega,by omega⟩,?_⟩
   rintro a65 b65 ⟨ha65,hb65⟩;conv=>cbv
   intro l65 hl65;conv=>cbv
   refine⟨fun _=>rfl,?_⟩
   have hl52e:l52=tw u:=by rw[hl52,List.drop_zero,show b52=T.length-1 by omega,hT,tw_take]
   have hx55e:x55=em u (evR u r):=by rw[hT,tw_last] at hx55;exact (Option.some.inj hx55).symm.trans (em_rad h.red)
   have hl62e:l62=em u p:=by rw[hl62,List.drop_zero,show b62=A.length/2 by omega,hA,em_lo h.red hp.mem hq.mem hxe]
   have hl65e:l65=em u q:=by rw[hl65,show a65=A.length/2 by omega,hb65,hm65,List.take_length,hA,em_hi h.red hp.mem hq.mem hxe]
   obtain⟨zb67,zl67,yb67,yl67,hz67⟩:=isR_ex (((0:Int):Rat))
   refine cL hE (YRFromInt_ok (by omega) rfl hz67) ⟨rfl,trivial⟩ ?_
   try conv=>cbv
   obtain⟨w68,hw68⟩:∃z:LR,z=em u (0):=⟨_,rfl⟩
   refine cL (r:= .one (.sl tRat w68)) hE (YFromRat_ok h.tail hl52e hz67 (by rw[show Re.ofRat ((0:Int):Rat)=0 from rfl];exact hw68)) ⟨rfl,⟨rfl,rfl,rfl,rfl,trivial⟩,trivial⟩ ?_
   try conv=>cbv
   refine cA hE (YZero_f h.tail.red hq.mem hl65e h0) ?_
   try conv=>cbv
   obtain⟨w104,hw104⟩:∃z:LR,z=em u (p*p):=⟨_,rfl⟩
   refine cL hE (Ymulv h.tail hl52e hl62e hl62e hp hp (by omega) hw104) ⟨rfl,rfl,rfl,trivial⟩ ?_
   try conv=>cbv
   obtain⟨w110,hw110⟩:∃z:LR,z=em u (q*q):=⟨_,rfl⟩
   refine cL hE (Ymulv h.tail hl52e hl65e hl65e hq hq (by omega) hw110) ⟨rfl,rfl,rfl,trivial⟩ ?_
   try conv=>cbv
   obtain⟨w111,hw111⟩:∃z:LR,z=em u (evR u r*(q*q)):=⟨_,rfl⟩
   refine cL hE (Ymulv h.tail hl52e hx55e hw110 hrr (hq.mul h.tail hq) (by omega) hw111) ⟨rfl,rfl,rfl,trivial⟩ ?_
   try conv=>cbv
   obtain⟨w112,hw112⟩:∃z:LR,z=em u (p*p-evR u r*(q*q)):=⟨_,rfl⟩
   refine cL hE (Ysubv h.tail hw104 hw111 (hp.mul h.tail hp) (hrr.mul h.tail (hq.mul h.tail hq)) (by omega) (by omega) hw112) ⟨rfl,rfl,rfl,trivial⟩ ?_
   try conv=>cbv
   have hNe:w112=em u (p*p-q*q*evR u r):=by rw[hw112,show p*p-evR u r*(q*q)=p*p-q*q*evR u r by grind]
   refine cA hE (hn hl52e hNe) ?_
   try conv=>cbv
   intro n120 h120;(have h120:=h120.trans (show _=true from rfl));subst h120;conv=>cbv
   exact fA ⟨⟨rfl,.inr (.inl ⟨_,rfl⟩),trivial⟩,⟨rfl,rfl,trivial⟩,trivial⟩ rfl (by simp)
  ·have k46:=lss_t h46
   exact (not_neg_sg hr45 k46 h0x).elim
 ·have k32:=eql_t h32
  exact absurd k32 (by omega)
theorem Ysq_n2 (h:Twr R (r::u)) (hT:T=tw (r::u)) (hA:A=em (r::u) x) (hx:El (r::u) s x) (hxe:x=p+q*rt u r) (hp:El u s p) (hq:El u s q) (hs:SS (r::u).length R s≤60000000000000) (hvR:VV (r::u).length R R≤60000000000000) (h0x:0≤x) (h0:q≠0) (hn:In u n) (hnn:n*n=p*p-q*q*evR u r) (ht:t=Re.ofRat (1/2)) (hyn:YSqY u (p*p-q*q*evR u r) n) {y:Nat→Re} (hy0:y 0=p+n) (hy1:y 1=p-n) (hyE:∀i,El u (s+(2*s+2*EE u.length R+R+1+GG u.length R)+1) (y i)) {L:Nat→LR} (hk:k0≤2) (hno:∀i,i<k0→YSqN u (t*y i) (L i)) (hk2:k0=2):CF 96 [.one (.sl (.sl tRat) T),.one (.sl tRat A)] (.tup [(false,[.sl tRat (([]:LR))]),(false,[.bool false])]):=by
 have hTl:T.length=u.length+1:=by rw[hT,tw_len];rfl
 have hAl:A.length=2^u.length+2^u.length:=by rw[hA,em_len hx.mem,pow_len]
 have hrr:=El.rad h
 have hR:=h.hR
 have hsv:VV (r::u).length R s≤SS (r::u).length R s:=SS_v u.length R s
 have hsi:s+II u.length R (TQ u.length R s+GG u.length R)+2*EE u.length R+2≤SS (r::u).length R s:=SS_i u.length R s
 have hsg:=VV_ge (r::u).length R s
 have hmn:=II_ge u.length R (TQ u.length R s+GG u.length R)
 have hTQ:TQ u.length R s=3*s+4*EE u.length R+R+GG u.length R+3+II u.length R R:=rfl
 have hp16:=pow16 h.tail.ht
 have hN:=El.norm h hp.mem hq.mem (hxe ▸ hx)
 have hnE:=hN.sqrt h.tail hn hnn
 have htE:El u 1 t:=by rw[ht];exact El.rat h.red.1 bd_half
 refine acall_fn Tryz.func96 (by kernel_rfl) rfl fun E hE=>?_
 conv=>cbv
 intro n31 h31;have e31:=h31.eq;have f31:=h31.le;conv=>cbv
 intro n32 h32;conv=>cbv
 cases n32 <;> conv=>cbv
 ·have k32:=eql_f h32
  obtain⟨r45,hr45⟩:∃z:Int,z=sgR x:=⟨_,rfl⟩
  refine cL hE (YSignv h hT hA hx (by omega) (by omega) hvR hr45) ⟨rfl,rfl,trivial⟩ ?_
  try conv=>cbv
  intro n46 h46;conv=>cbv
  cases n46 <;> conv=>cbv
  ·have k46:=lss_f h46
   intro n48 h48;have e48:=h48.eq;have f48:=h48.le;conv=>cbv
   intro n49 h49;conv=>cbv
   refine⟨fun _=>i64 (by omega),?_⟩
   intro m52 hm52;conv=>cbv
   refine⟨fun _=>⟨by omega,by omega⟩,?_⟩
   intro b52 hb52;conv=>cbv
   intro l52 hl52;conv=>cbv
   obtain⟨x55,hx55⟩:=get_ex (l:=T) (i:=(T.length-1)) (by omega)
   refine⟨x55,fun _=>⟨by omega,by rw[show (n49).toNat=(T.length-1) by omega];exact hx55⟩,?_⟩
   try conv=>cbv
   refine⟨fun _=>rfl,?_⟩
   intro n58 h58;have e58:=h58.eq;have f58:=h58.le;conv=>cbv
   intro n59 h59;conv=>cbv
   refine⟨fun _=>⟨by omega,by omega,i64 (by omega)⟩,?_⟩
   intro m62 hm62;conv=>cbv
   refine⟨fun _=>⟨by omega,by omega⟩,?_⟩
   intro b62 hb62;conv=>cbv
   intro l62 hl62;conv=>cbv
   intro m65 hm65;conv=>cbv
   refine⟨fun _=>⟨by omega,by omega⟩,?_⟩
   rintro a65 b65 ⟨ha65,hb65⟩;conv=>cbv
   intro l65 hl65;conv=>cbv
   refine⟨fun _=>rfl,?_⟩
   have hl52e:l52=tw u:=by rw[hl52,List.drop_zero,show b52=T.length-1 by omega,hT,tw_take]
   have hx55e:x55=em u (evR u r):=by rw[hT,tw_last] at hx55;exact (Option.some.inj hx55).symm.trans (em_rad h.red)
   have hl62e:l62=em u p:=by rw[hl62,List.drop_zero,show b62=A.length/2 by omega,hA,em_lo h.red hp.mem hq.mem hxe]
   have hl65e:l65=em u q:=by rw[hl65,show a65=A.length/2 by omega,hb65,hm65,List.take_length,hA,em_hi h.red hp.mem hq.mem hxe]
   obtain⟨zb67,zl67,yb67,yl67,hz67⟩:=isR_ex (((0:Int):Rat))
   refine cL hE (YRFromInt_ok (by omega) rfl hz67) ⟨rfl,trivial⟩ ?_
   try conv=>cbv
   obtain⟨w68,hw68⟩:∃z:LR,z=em u (0):=⟨_,rfl⟩
   refine cL (r:= .one (.sl tRat w68)) hE (YFromRat_ok h.tail hl52e hz67 (by rw[show Re.ofRat ((0:Int):Rat)=0 from rfl];exact hw68)) ⟨rfl,⟨rfl,rfl,rfl,rfl,trivial⟩,trivial⟩ ?_
   try conv=>cbv
   refine cA hE (YZero_f h.tail.red hq.mem hl65e h0) ?_
   try conv=>cbv
   obtain⟨w104,hw104⟩:∃z:LR,z=em u (p*p):=⟨_,rfl⟩
   refine cL hE (Ymulv h.tail hl52e hl62e hl62e hp hp (by omega) hw104) ⟨rfl,rfl,rfl,trivial⟩ ?_
   try conv=>cbv
   obtain⟨w110,hw110⟩:∃z:LR,z=em u (q*q):=⟨_,rfl⟩
   refine cL hE (Ymulv h.tail hl52e hl65e hl65e hq hq (by omega) hw110) ⟨rfl,rfl,rfl,trivial⟩ ?_
   try conv=>cbv
   obtain⟨w111,hw111⟩:∃z:LR,z=em u (evR u r*(q*q)):=⟨_,rfl⟩
   refine cL hE (Ymulv h.tail hl52e hx55e hw110 hrr (hq.mul h.tail hq) (by omega) hw111) ⟨rfl,rfl,rfl,trivial⟩ ?_
   try conv=>cbv
   obtain⟨w112,hw112⟩:∃z:LR,z=em u (p*p-evR u r*(q*q)):=⟨_,rfl⟩
   refine cL hE (Ysubv h.tail hw104 hw111 (hp.mul h.tail hp) (hrr.mul h.tail (hq.mul h.tail hq)) (by omega) (by omega) hw112) ⟨rfl,rfl,rfl,trivial⟩ ?_
   try conv=>cbv
   have hNe:w112=em u (p*p-q*q*evR u r):=by rw[hw112,show p*p-evR u r*(q*q)=p*p-q*q*evR u r by grind]
   obtain⟨w117,hw117⟩:∃z:LR,z=em u n:=⟨_,rfl⟩
   refine cA hE (hyn hl52e hNe hw117) ?_
   try conv=>cbv
   intro n120 h120;(have h120:=h120.trans (show _=false from rfl));subst h120;conv=>cbv
   obtain⟨zb122,zl122,yb122,yl122,hz122⟩:=isR_ex ((1/2:Rat))
   refine cL hE (YFrac_ok (by omega) (by omega) (by decide) (by decide +kernel) hz122) ⟨rfl,rfl,trivial⟩ ?_
   try conv=>cbv
   obtain⟨w123,hw123⟩:∃z:LR,z=em u (t):=⟨_,rfl⟩
   refine cL (r:= .one (.sl tRat w123)) hE (YFromRat_ok h.tail hl52e hz122 (hw123.trans (by rw[ht]))) ⟨rfl,⟨rfl,rfl,rfl,rfl,trivial⟩,trivial⟩ ?_
   try conv=>cbv
   refine .inr ?_
   obtain⟨J0,hJ0⟩:∃J:List AV→List Blk→Nat→Prop,J=fun vs bl k=>∃(k':Nat) (m:Re) (M:LR) (i:Int),vs=[.one (.sl (.sl tRat) l52),.one (.sl tRat l62),.one (.sl tRat l65),.one (.sl tRat M),.one (.sl tRat w123),.one (.int .i64 i)]∧(NatIs i k'∧k'≤2)∧(M=em u m∧m=if k'=1 then -n else n)∧k=2-k':=⟨_,rfl⟩
   refine⟨[9,12,13,22,24,25],[],J0,⟨2-0,by rw[hJ0];exact⟨0,n,w117,0,rfl,⟨natIs 0,by omega⟩,⟨hw117,rfl⟩,rfl⟩⟩,?_⟩
   intro vs bl kk0 hj;rw[hJ0] at hj
   obtain⟨k',m,M,i,rfl,⟨hi,hik⟩,⟨hM,hmv⟩,hk0⟩:=hj
   conv=>cbv
   have ei:=hi.eq
   intro n125 h125;conv=>cbv
   cases n125 <;> conv=>cbv
   ·have k125:=lss_f h125
    exact fA ⟨⟨rfl,.inr (.inl ⟨_,rfl⟩),trivial⟩,⟨rfl,rfl,trivial⟩,trivial⟩ rfl (by simp)
   ·have k125:=lss_t h125
    refine .inr ?_
    have hk2:k'=0∨k'=1:=by omega
    have hmE:El u (2*s+2*EE u.length R+R+1+GG u.length R) m:=by rw[hmv];split;exact hnE.neg h.red.1;exact hnE
    have hmy:p+m=y k':=by rcases hk2 with e | e <;> rw[e,hmv,e] <;> first | (rw[hy0];rfl) | (rw[hy1];simp;grind)
    obtain⟨w135,hw135⟩:∃z:LR,z=em u (y k'):=⟨_,rfl⟩
    refine cL (r:= .one (.sl tRat w135)) hE (Yaddv h.tail hl62e hM hp hmE (by omega) (by omega) (hw135.trans (by rw[hmy]))) ⟨rfl,rfl,rfl,trivial⟩ ?_
    try conv=>cbv
    obtain⟨w136,hw136⟩:∃z:LR,z=em u (t*y k'):=⟨_,rfl⟩
    refine cL hE (Ymulv h.tail hl52e hw123 hw135 htE (hyE k') (by omega) hw136) ⟨rfl,rfl,rfl,trivial⟩ ?_
    try conv=>cbv
    refine cL hE (hno k' (by omega) hl52e hw136) ⟨rfl,rfl,trivial⟩ ?_
    try conv=>cbv
    obtain⟨w158,hw158⟩:∃z:LR,z=em u (-m):=⟨_,rfl⟩
    refine cA hE (Ynegv h.tail hM hmE hw158) ?_
    try conv=>cbv
    intro n127 h127;conv=>cbv
    refine⟨fun _=>i64 (by omega),?_⟩
    refine⟨2-(k'+1),?_,?_⟩
    ·omega
    rw[hJ0]
    exact⟨k'+1,-m,w158,n127,rfl,⟨⟨by omega⟩,by omega⟩,⟨hw158,by clear hJ0;rcases hk2 with e | e <;> rw[hmv,e] <;> first | rfl | (show- -n=n;grind)⟩,rfl⟩
  ·have k46:=lss_t h46
   exact (not_neg_sg hr45 k46 h0x).elim
 ·have k32:=eql_t h32
  exact absurd k32 (by omega)
theorem Ysq_n1 (h:Twr R (r::u)) (hT:T=tw (r::u)) (hA:A=em (r::u) x) (hx:El (r::u) s x) (hxe:x=p+q*rt u r) (hp:El u s p) (hq:El u s q) (hs:SS (r::u).length R s≤60000000000000) (hvR:VV (r::u).length R R≤60000000000000) (h0x:0≤x) (h0:q≠0) (hn:In u n) (hnn:n*n=p*p-q*q*evR u r) (ht:t=Re.ofRat (1/2)) (hyn:YSqY u (p*p-q*q*evR u r) n) {y:Nat→Re} (hy0:y 0=p+n) (hy1:y 1=p-n) (hyE:∀i,El u (s+(2*s+2*EE u.length R+R+1+GG u.length R)+1) (y i)) {L:Nat→LR} (hk:k0≤2) (hno:∀i,i<k0→YSqN u (t*y i) (L i)) (hk1:k0<2) {j:Re} (hw:In u w) (hww:w*w=t*y k0) (hyw:YSqY u (t*y k0) w) (hj:In u j) (hwj:w*j=1) (hB:B=em (r::u) (w+t*(q*j)*rt u r)):CF 96 [.one (.sl (.sl tRat) T),.one (.sl tRat A)] (.tup [(false,[.sl tRat B]),(false,[.bool true])]):=by
 have hTl:T.length=u.length+1:=by rw[hT,tw_len];rfl
 have hAl:A.length=2^u.length+2^u.length:=by rw[hA,em_len hx.mem,pow_len]
 have hrr:=El.rad h
 have hR:=h.hR
 have hsv:VV (r::u).length R s≤SS (r::u).length R s:=SS_v u.length R s
 have hsi:s+II u.length R (TQ u.length R s+GG u.length R)+2*EE u.length R+2≤SS (r::u).length R s:=SS_i u.length R s
 have hsg:=VV_ge (r::u).length R s
 have hmn:=II_ge u.length R (TQ u.length R s+GG u.length R)
 have hTQ:TQ u.length R s=3*s+4*EE u.length R+R+GG u.length R+3+II u.length R R:=rfl
 have hp16:=pow16 h.tail.ht
 have hN:=El.norm h hp.mem hq.mem (hxe ▸ hx)
 have hnE:=hN.sqrt h.tail hn hnn
 have htE:El u 1 t:=by rw[ht];exact El.rat h.red.1 bd_half
 have hhE:=htE.mul h.tail (hyE k0)
 have hwE:=hhE.sqrt h.tail hw hww
 have hjE:=(hwE.mono (t:=TQ u.length R s+GG u.length R) (by omega)).inv h.tail hj hwj
 refine acall_fn Tryz.func96 (by kernel_rfl) rfl fun E hE=>?_
 conv=>cbv
 intro n31 h31;have e31:=h31.eq;have f31:=h31.le;conv=>cbv
 intro n32 h32;conv=>cbv
 cases n32 <;> conv=>cbv
 ·have k32:=eql_f h32
  obtain⟨r45,hr45⟩:∃z:Int,z=sgR x:=⟨_,rfl⟩
  refine cL hE (YSignv h hT hA hx (by omega) (by omega) hvR hr45) ⟨rfl,rfl,trivial⟩ ?_
  try conv=>cbv
  intro n46 h46;conv=>cbv
  cases n46 <;> conv=>cbv
  ·have k46:=lss_f h46
   intro n48 h48;have e48:=h48.eq;have f48:=h48.le;conv=>cbv
   intro n49 h49;conv=>cbv
   refine⟨fun _=>i64 (by omega),?_⟩
   intro m52 hm52;conv=>cbv
   refine⟨fun _=>⟨by omega,by omega⟩,?_⟩
   intro b52 hb52;conv=>cbv
   intro l52 hl52;conv=>cbv
   obtain⟨x55,hx55⟩:=get_ex (l:=T) (i:=(T.length-1)) (by omega)
   refine⟨x55,fun _=>⟨by omega,by rw[show (n49).toNat=(T.length-1) by omega];exact hx55⟩,?_⟩
   try conv=>cbv
   refine⟨fun _=>rfl,?_⟩
   intro n58 h58;have e58:=h58.eq;have f58:=h58.le;conv=>cbv
   intro n59 h59;conv=>cbv
   refine⟨fun _=>⟨by omega,by omega,i64 (by omega)⟩,?_⟩
   intro m62 hm62;conv=>cbv
   refine⟨fun _=>⟨by omega,by omega⟩,?_⟩
   intro b62 hb62;conv=>cbv
   intro l62 hl62;conv=>cbv
   intro m65 hm65;conv=>cbv
   refine⟨fun _=>⟨by omega,by omega⟩,?_⟩
   rintro a65 b65 ⟨ha65,hb65⟩;conv=>cbv
   intro l65 hl65;conv=>cbv
   refine⟨fun _=>rfl,?_⟩
   have hl52e:l52=tw u:=by rw[hl52,List.drop_zero,show b52=T.length-1 by omega,hT,tw_take]
   have hx55e:x55=em u (evR u r):=by rw[hT,tw_last] at hx55;exact (Option.some.inj hx55).symm.trans (em_rad h.red)
   have hl62e:l62=em u p:=by rw[hl62,List.drop_zero,show b62=A.length/2 by omega,hA,em_lo h.red hp.mem hq.mem hxe]
   have hl65e:l65=em u q:=by rw[hl65,show a65=A.length/2 by omega,hb65,hm65,List.take_length,hA,em_hi h.red hp.mem hq.mem hxe]
   obtain⟨zb67,zl67,yb67,yl67,hz67⟩:=isR_ex (((0:Int):Rat))
   refine cL hE (YRFromInt_ok (by omega) rfl hz67) ⟨rfl,trivial⟩ ?_
   try conv=>cbv
   obtain⟨w68,hw68⟩:∃z:LR,z=em u (0):=⟨_,rfl⟩
   refine cL (r:= .one (.sl tRat w68)) hE (YFromRat_ok h.tail hl52e hz67 (by rw[show Re.ofRat ((0:Int):Rat)=0 from rfl];exact hw68)) ⟨rfl,⟨rfl,rfl,rfl,rfl,trivial⟩,trivial⟩ ?_
   try conv=>cbv
   refine cA hE (YZero_f h.tail.red hq.mem hl65e h0) ?_
   try conv=>cbv
   obtain⟨w104,hw104⟩:∃z:LR,z=em u (p*p):=⟨_,rfl⟩
   refine cL hE (Ymulv h.tail hl52e hl62e hl62e hp hp (by omega) hw104) ⟨rfl,rfl,rfl,trivial⟩ ?_
   try conv=>cbv
   obtain⟨w110,hw110⟩:∃z:LR,z=em u (q*q):=⟨_,rfl⟩
   refine cL hE (Ymulv h.tail hl52e hl65e hl65e hq hq (by omega) hw110) ⟨rfl,rfl,rfl,trivial⟩ ?_
   try conv=>cbv
   obtain⟨w111,hw111⟩:∃z:LR,z=em u (evR u r*(q*q)):=⟨_,rfl⟩
   refine cL hE (Ymulv h.tail hl52e hx55e hw110 hrr (hq.mul h.tail hq) (by omega) hw111) ⟨rfl,rfl,rfl,trivial⟩ ?_
   try conv=>cbv
   obtain⟨w112,hw112⟩:∃z:LR,z=em u (p*p-evR u r*(q*q)):=⟨_,rfl⟩
   refine cL hE (Ysubv h.tail hw104 hw111 (hp.mul h.tail hp) (hrr.mul h.tail (hq.mul h.tail hq)) (by omega) (by omega) hw112) ⟨rfl,rfl,rfl,trivial⟩ ?_
   try conv=>cbv
   have hNe:w112=em u (p*p-q*q*evR u r):=by rw[hw112,show p*p-evR u r*(q*q)=p*p-q*q*evR u r by grind]
   obtain⟨w117,hw117⟩:∃z:LR,z=em u n:=⟨_,rfl⟩
   refine cA hE (hyn hl52e hNe hw117) ?_
   try conv=>cbv
   intro n120 h120;(have h120:=h120.trans (show _=false from rfl));subst h120;conv=>cbv
   obtain⟨zb122,zl122,yb122,yl122,hz122⟩:=isR_ex ((1/2:Rat))
   refine cL hE (YFrac_ok (by omega) (by omega) (by decide) (by decide +kernel) hz122) ⟨rfl,rfl,trivial⟩ ?_
   try conv=>cbv
   obtain⟨w123,hw123⟩:∃z:LR,z=em u (t):=⟨_,rfl⟩
   refine cL (r:= .one (.sl tRat w123)) hE (YFromRat_ok h.tail hl52e hz122 (hw123.trans (by rw[ht]))) ⟨rfl,⟨rfl,rfl,rfl,rfl,trivial⟩,trivial⟩ ?_
   try conv=>cbv
   refine .inr ?_
   obtain⟨J0,hJ0⟩:∃J:List AV→List Blk→Nat→Prop,J=fun vs bl k=>∃(k':Nat) (m:Re) (M:LR) (i:Int),vs=[.one (.sl (.sl tRat) l52),.one (.sl tRat l62),.one (.sl tRat l65),.one (.sl tRat M),.one (.sl tRat w123),.one (.int .i64 i)]∧(NatIs i k'∧k'≤k0)∧(M=em u m∧m=if k'=1 then -n else n)∧k=k0-k':=⟨_,rfl⟩
   refine⟨[9,12,13,22,24,25],[],J0,⟨k0-0,by rw[hJ0];exact⟨0,n,w117,0,rfl,⟨natIs 0,by omega⟩,⟨hw117,rfl⟩,rfl⟩⟩,?_⟩
   intro vs bl kk0 hj;rw[hJ0] at hj
   obtain⟨k',m,M,i,rfl,⟨hi,hik⟩,⟨hM,hmv⟩,hk0⟩:=hj
   conv=>cbv
   have ei:=hi.eq
   intro n125 h125;conv=>cbv
   cases n125 <;> conv=>cbv
   ·have k125:=lss_f h125
    exact absurd k125 (by omega)
   ·have k125:=lss_t h125
    refine .inr ?_
    have hk2:k'=0∨k'=1:=by omega
    have hmE:El u (2*s+2*EE u.length R+R+1+GG u.length R) m:=by rw[hmv];split;exact hnE.neg h.red.1;exact hnE
    have hmy:p+m=y k':=by rcases hk2 with e | e <;> rw[e,hmv,e] <;> first | (rw[hy0];rfl) | (rw[hy1];simp;grind)
    obtain⟨w135,hw135⟩:∃z:LR,z=em u (y k'):=⟨_,rfl⟩
    refine cL (r:= .one (.sl tRat w135)) hE (Yaddv h.tail hl62e hM hp hmE (by omega) (by omega) (hw135.trans (by rw[hmy]))) ⟨rfl,rfl,rfl,trivial⟩ ?_
    try conv=>cbv
    obtain⟨w136,hw136⟩:∃z:LR,z=em u (t*y k'):=⟨_,rfl⟩
    refine cL hE (Ymulv h.tail hl52e hw123 hw135 htE (hyE k') (by omega) hw136) ⟨rfl,rfl,rfl,trivial⟩ ?_
    try conv=>cbv
    obtain⟨wl,bb,hcall,hbt,hbf⟩:∃(wl:LR) (bb:Bool),CF 96 [.one (.sl (.sl tRat) l52),.one (.sl tRat w136)] (.tup [(false,[.sl tRat wl]),(false,[.bool bb])])∧(bb=true→k'=k0∧wl=em u w)∧(bb=false→k'<k0):=by
     by_cases e:k'<k0
     ·exact⟨L k',false,hno k' e hl52e hw136,fun e=>(Bool.false_ne_true e).elim,fun _=>e⟩
     ·have e2:k'=k0:=by omega
      exact⟨em u w,true,hyw hl52e (hw136.trans (by rw[e2])) rfl,fun _=>⟨e2,rfl⟩,fun e=>(Bool.noConfusion e)⟩
    refine cA hE hcall ?_
    try conv=>cbv
    cases bb <;> conv=>cbv
    ·have hkl:=hbf rfl
     obtain⟨w158,hw158⟩:∃z:LR,z=em u (-m):=⟨_,rfl⟩
     refine cA hE (Ynegv h.tail hM hmE hw158) ?_
     try conv=>cbv
     intro n127 h127;conv=>cbv
     refine⟨fun _=>i64 (by omega),?_⟩
     refine⟨k0-(k'+1),?_,?_⟩
     ·omega
     rw[hJ0]
     exact⟨k'+1,-m,w158,n127,rfl,⟨⟨by omega⟩,by omega⟩,⟨hw158,by clear hJ0;rcases hk2 with e | e <;> rw[hmv,e] <;> first | rfl | (show- -n=n;grind)⟩,rfl⟩
    ·obtain⟨hke,hwl⟩:=hbt rfl
     subst hke
     obtain⟨w144,hw144⟩:∃z:LR,z=em u (j):=⟨_,rfl⟩
     refine cL hE (Yinvv h.tail hl52e hwl (hwE.mono (t:=TQ u.length R s+GG u.length R) (by omega)) hj hwj (by omega) hw144) ⟨rfl,rfl,trivial⟩ ?_
     try conv=>cbv
     obtain⟨w153,hw153⟩:∃z:LR,z=em u (q*j):=⟨_,rfl⟩
     refine cL hE (Ymulv h.tail hl52e hl65e hw144 hq hjE (by omega) hw153) ⟨rfl,rfl,rfl,trivial⟩ ?_
     try conv=>cbv
     obtain⟨w154,hw154⟩:∃z:LR,z=em u (t*(q*j)):=⟨_,rfl⟩
     refine cL hE (Ymulv h.tail hl52e hw123 hw153 htE (hq.mul h.tail hjE) (by omega) hw154) ⟨rfl,rfl,rfl,trivial⟩ ?_
     try conv=>cbv
     have htq:=htE.mul h.tail (hq.mul h.tail hjE)
     have hBj:B=wl++w154:=by rw[hB,hwl,hw154];exact em_app h.red hw htq.mem rfl
     refine cL (r:= .one (.sl tRat B)) hE (Yjoin_ok (by rw[hwl,em_len hw];omega) (by rw[hw154,em_len htq.mem];omega) hBj) ⟨rfl,rfl,trivial⟩ ?_
     try conv=>cbv
     exact fA ⟨⟨rfl,rfl,trivial⟩,⟨rfl,rfl,trivial⟩,trivial⟩ rfl (by simp)
  ·have k46:=lss_t h46
   exact (not_neg_sg hr45 k46 h0x).elim
 ·have k32:=eql_t h32
  exact absurd k32 (by omega)
end Go.Abs
