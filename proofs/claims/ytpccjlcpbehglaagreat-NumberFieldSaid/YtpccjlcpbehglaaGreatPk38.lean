/- Part 39 of a proof. Conditions: each theorem's own. -/
import Derived.Test.YtpccjlcpbehglaaGreatPk37
set_option linter.all false
set_option maxHeartbeats 8000000
open Go.Proofs
namespace Go.Abs
open Go.RowKit
variable {A B l:LR} {R k0 s:Nat} {T:List LR} {i n p q t w x:Re} {r:List Rat} {u:List (List Rat)}
theorem halfv {C:LR} {y:Re} (h:Twr R u) (hT:T=tw u) (hA:A=em u y) (hy:El u s y) (ht:t=Re.ofRat (1/2)) (hs:s+1+EE u.length R≤60000000000000) (hC:C=em u (t*y)):CF 206 [.one (.sl (.sl tRat) T),.one (.sl tRat A)] (.one (.sl tRat C)):=by
 refine acall_fn Tryz.func206 (by kernel_rfl) rfl fun E hE=>?_
 conv=>cbv
 obtain⟨zb8,zl8,yb8,yl8,hz8⟩:=isR_ex (1/2:Rat)
 refine cL hE (Frac_ok (by omega) (by omega) (by omega) (by decide +kernel) hz8) ⟨rfl,rfl,trivial⟩ ?_
 try conv=>cbv
 obtain⟨w9,hw9⟩:∃z:LR,z=em u (t):=⟨_,rfl⟩
 refine cL (r:= .one (.sl tRat w9)) hE (FromRatv h hT hz8 ⟨by decide +kernel,by decide +kernel⟩ (hw9.trans (by rw[ht]))) ⟨rfl,⟨rfl,rfl,rfl,rfl,trivial⟩,trivial⟩ ?_
 try conv=>cbv
 have hth:El u 1 t:=ht ▸ El.rat h.red bd_half
 refine cL (r:= .one (.sl tRat C)) hE (Mulv h hT hA hw9 hy hth hs (by rw[hC];congr 1;grind)) ⟨rfl,rfl,rfl,trivial⟩ ?_
 try conv=>cbv
 exact fA ⟨⟨rfl,rfl,trivial⟩,trivial⟩ rfl (by simp)
theorem sq_base_ok {q r:Rat} (hT:T=[]) (hA:A=[rp q]) (hB:B=[rp r]) (hs:SmallQ q) (h0:0≤r) (hr:r*r=q):CF 162 [.one (.sl (.sl tRat) T),.one (.sl tRat A)] (.tup [(false,[.sl tRat B]),(false,[.bool true])]):=by
 refine acall_fn Tryz.func162 (by kernel_rfl) rfl fun E hE=>?_
 conv=>cbv
 intro n27 h27;have e27:=h27.eq;have f27:=h27.le;conv=>cbv
 intro n28 h28;conv=>cbv
 cases n28 <;> conv=>cbv
 ·have k28:=eql_f h28
  exact absurd (by rw[e27,hT];rfl) k28
 ·have k28:=eql_t h28
  have hAl:A.length=1:=by rw[hA];rfl
  obtain⟨x31,hx31⟩:=get_ex (l:=A) (i:=0) (by omega)
  refine⟨x31,fun _=>⟨by omega,hx31⟩,?_⟩
  try conv=>cbv
  have hq:=one_rp hA hx31
  obtain⟨zb33,zl33,yb33,yl33,hz33⟩:=isR_ex r
  refine cA hE (RSqrt_ok hq hs h0 hr hz33) ?_
  try conv=>cbv
  refine⟨[((zb33,zl33),(yb33,yl33))],fun _=>⟨rfl,by decide,rfl,⟨rfl,by first | exact⟨rfl,trivial⟩ | exact⟨rfl,rfl,trivial⟩ | exact⟨rfl,rfl,rfl,rfl,trivial⟩ | simp[allC,leC,cells],trivial⟩⟩,.inl ?_⟩
  try conv=>cbv
  exact fA ⟨⟨rfl,.inl ⟨_,rfl,by simp,congrArg _ (by rw[hB,hz33.rp];rfl)⟩,trivial⟩,⟨rfl,rfl,trivial⟩,trivial⟩ rfl (by simp)
theorem sq_base_no {q:Rat} (hT:T=[]) (hA:A=[rp q]) (hB:B=[(((false,[]),(false,[])):el tRat)]) (hs:SmallQ q) (hr:¬∃r:Rat,0≤r∧r*r=q):CF 162 [.one (.sl (.sl tRat) T),.one (.sl tRat A)] (.tup [(false,[.sl tRat B]),(false,[.bool false])]):=by
 refine acall_fn Tryz.func162 (by kernel_rfl) rfl fun E hE=>?_
 conv=>cbv
 intro n27 h27;have e27:=h27.eq;have f27:=h27.le;conv=>cbv
 intro n28 h28;conv=>cbv
 cases n28 <;> conv=>cbv
 ·have k28:=eql_f h28
  exact absurd (by rw[e27,hT];rfl) k28
 ·have k28:=eql_t h28
  have hAl:A.length=1:=by rw[hA];rfl
  obtain⟨x31,hx31⟩:=get_ex (l:=A) (i:=0) (by omega)
  refine⟨x31,fun _=>⟨by omega,hx31⟩,?_⟩
  try conv=>cbv
  have hq:=one_rp hA hx31
  refine cA hE (RSqrt_none hq hs hr) ?_
  try conv=>cbv
  refine⟨[((false,[]),(false,[]))],fun _=>⟨rfl,by decide,rfl,⟨rfl,by first | exact⟨rfl,trivial⟩ | exact⟨rfl,rfl,trivial⟩ | exact⟨rfl,rfl,rfl,rfl,trivial⟩ | simp[allC,leC,cells],trivial⟩⟩,.inl ?_⟩
  try conv=>cbv
  exact fA ⟨⟨rfl,.inl ⟨_,rfl,by simp,congrArg _ (by rw[hB];rfl)⟩,trivial⟩,⟨rfl,rfl,trivial⟩,trivial⟩ rfl (by simp)
def SqY (f:FuncId) (u:List (List Rat)) (x w:Re):Prop:=∀{T:List LR} {A B:LR},T=tw u→A=em u x→B=em u w→CF f [.one (.sl (.sl tRat) T),.one (.sl tRat A)] (.tup [(false,[.sl tRat B]),(false,[.bool true])])
def SqN (f:FuncId) (u:List (List Rat)) (x:Re) (l:LR):Prop:=∀{T:List LR} {A:LR},T=tw u→A=em u x→CF f [.one (.sl (.sl tRat) T),.one (.sl tRat A)] (.tup [(false,[.sl tRat l]),(false,[.bool false])])
def SqC (f:FuncId) (R:Nat) (u:List (List Rat)):Prop:=∀{s:Nat} {x:Re},El u s x→QQ u.length R s≤60000000000000→(∃w,In u w∧w*w=x∧SqY f u x w)∨(¬Sq u x∧∃l,l.length≤2^u.length∧SqN f u x l)
theorem sq_z1 (h:Twr R (r::u)) (hT:T=tw (r::u)) (hA:A=em (r::u) x) (hx:El (r::u) s x) (hxe:x=p+q*rt u r) (hp:El u s p) (hq:El u s q) (hs:QQ (r::u).length R s≤60000000000000) (h0:q=0) (hw:In u w) (hy:SqY 162 u p w) (hB:B=em (r::u) w):CF 162 [.one (.sl (.sl tRat) T),.one (.sl tRat A)] (.tup [(false,[.sl tRat B]),(false,[.bool true])]):=by
 have hTl:T.length=u.length+1:=by rw[hT,tw_len];rfl
 have hAl:A.length=2^u.length+2^u.length:=by rw[hA,em_len hx.mem,pow_len]
 have hrr:=El.rad h
 have hsq:=rt_sq h.red
 have hp16:=pow16 h.tail.ht
 have hpp:=pow_pos2 u.length
 have hx0:El u 0 0:=El.rat h.red.1 bd_int0
 have hq1:QQ (r::u).length R s=max (QQ u.length R (3*s+3*EE u.length R+R+GG u.length R+3+II u.length R R)) (s+II u.length R (2*(3*s+3*EE u.length R+R+GG u.length R+3+II u.length R R+GG u.length R)+1)+EE u.length R):=rfl
 have hq2:=QQ_ge u.length R (3*s+3*EE u.length R+R+GG u.length R+3+II u.length R R)
 have hi1:=II_ge u.length R (2*(3*s+3*EE u.length R+R+GG u.length R+3+II u.length R R+GG u.length R)+1)
 refine acall_fn Tryz.func162 (by kernel_rfl) rfl fun E hE=>?_
 conv=>cbv
 intro n27 h27;have e27:=h27.eq;have f27:=h27.le;conv=>cbv
 intro n28 h28;conv=>cbv
 cases n28 <;> conv=>cbv
 ·have k28:=eql_f h28
  intro n41 h41;have e41:=h41.eq;have f41:=h41.le;conv=>cbv
  intro n42 h42;conv=>cbv
  refine⟨fun _=>i64 (by omega),?_⟩
  intro m43 hm43;conv=>cbv
  refine⟨fun _=>⟨by omega,by omega⟩,?_⟩
  intro b43 hb43;conv=>cbv
  intro l43 hl43;conv=>cbv
  intro n46 h46;have e46:=h46.eq;have f46:=h46.le;conv=>cbv
  intro n47 h47;conv=>cbv
  refine⟨fun _=>i64 (by omega),?_⟩
  obtain⟨x48,hx48⟩:=get_ex (l:=T) (i:=(n47).toNat) (by omega)
  refine⟨x48,fun _=>⟨by omega,hx48⟩,?_⟩
  try conv=>cbv
  refine⟨fun _=>rfl,?_⟩
  intro n52 h52;have e52:=h52.eq;have f52:=h52.le;conv=>cbv
  intro n53 h53;conv=>cbv
  refine⟨fun _=>⟨by omega,by omega,i64 (by omega)⟩,?_⟩
  intro m54 hm54;conv=>cbv
  refine⟨fun _=>⟨by omega,by omega⟩,?_⟩
  intro b54 hb54;conv=>cbv
  intro l54 hl54;conv=>cbv
  intro n57 h57;have e57:=h57.eq;have f57:=h57.le;conv=>cbv
  intro n58 h58;conv=>cbv
  refine⟨fun _=>⟨by omega,by omega,i64 (by omega)⟩,?_⟩
  intro m59 hm59;conv=>cbv
  refine⟨fun _=>⟨by omega,by omega⟩,?_⟩
  rintro a59 b59 ⟨ha59,hb59⟩;conv=>cbv
  intro l59 hl59;conv=>cbv
  refine⟨fun _=>rfl,?_⟩
  have hl43e:l43=tw u:=by rw[hl43,List.drop_zero,show b43=T.length-1 by omega,hT,tw_take]
  have hx48e:x48=rps r:=by have:=tw_last r u;rw[←hT,show T.length-1=n47.toNat by omega,hx48] at this;exact Option.some.inj this
  have hl54e:l54=em u p:=by rw[hl54,List.drop_zero,show b54=A.length/2 by omega,hA,em_lo h.red hp.mem hq.mem hxe]
  have hl59e:l59=em u q:=by rw[hl59,show a59=A.length/2 by omega,hb59,hm59,List.take_length,hA,em_hi h.red hp.mem hq.mem hxe]
  refine cA hE (Zero_t h.red.1 hq.mem hl59e h0) ?_
  try conv=>cbv
  obtain⟨w66,hw66⟩:∃z:LR,z=em u w:=⟨_,rfl⟩
  refine cA hE (hy hl43e hl54e hw66) ?_
  try conv=>cbv
  obtain⟨zb71,zl71,yb71,yl71,hz71⟩:=isR_ex (((0:Int):Rat))
  refine cL hE (RFromInt_ok (by omega) rfl hz71) ⟨rfl,trivial⟩ ?_
  try conv=>cbv
  obtain⟨w72,hw72⟩:∃z:LR,z=em u (0):=⟨_,rfl⟩
  refine cL hE (FromRatv h.tail hl43e hz71 ⟨by decide +kernel,by decide +kernel⟩ hw72) ⟨rfl,⟨rfl,rfl,rfl,rfl,trivial⟩,trivial⟩ ?_
  try conv=>cbv
  refine⟨[w66,w72],fun _=>⟨rfl,by decide,rfl,⟨rfl,by first | exact⟨rfl,trivial⟩ | exact⟨rfl,rfl,trivial⟩ | exact⟨rfl,rfl,rfl,rfl,trivial⟩ | simp[allC,leC,cells],⟨rfl,by first | exact⟨rfl,trivial⟩ | exact⟨rfl,rfl,trivial⟩ | exact⟨rfl,rfl,rfl,rfl,trivial⟩ | simp[allC,leC,cells],trivial⟩⟩⟩,.inr ?_⟩
  try conv=>cbv
  have hl66:w66.length=2^u.length:=by rw[hw66,em_len hw]
  have hl72:w72.length=2^u.length:=by rw[hw72,em_len hx0.mem]
  refine cL (r:= .one (.sl tRat B)) hE (concat_two (by omega) (by omega) (by rw[hB,hw66,hw72];exact em_app h.red hw (in_zero u) (by grind))) ⟨rfl,trivial⟩ ?_
  try conv=>cbv
  exact fA ⟨⟨rfl,rfl,trivial⟩,⟨rfl,rfl,trivial⟩,trivial⟩ rfl (by simp)
 ·have k28:=eql_t h28
  exact absurd k28 (by omega)
theorem sq_z2 (h:Twr R (r::u)) (hT:T=tw (r::u)) (hA:A=em (r::u) x) (hx:El (r::u) s x) (hxe:x=p+q*rt u r) (hp:El u s p) (hq:El u s q) (hs:QQ (r::u).length R s≤60000000000000) (h0:q=0) (hi:In u i) (hri:evR u r*i=1) (hn:SqN 162 u p l) (hw:In u w) (hy:SqY 162 u (p*i) w) (hB:B=em (r::u) (w*rt u r)):CF 162 [.one (.sl (.sl tRat) T),.one (.sl tRat A)] (.tup [(false,[.sl tRat B]),(false,[.bool true])]):=by
 have hTl:T.length=u.length+1:=by rw[hT,tw_len];rfl
 have hAl:A.length=2^u.length+2^u.length:=by rw[hA,em_len hx.mem,pow_len]
 have hrr:=El.rad h
 have hsq:=rt_sq h.red
 have hp16:=pow16 h.tail.ht
 have hpp:=pow_pos2 u.length
 have hx0:El u 0 0:=El.rat h.red.1 bd_int0
 have hq1:QQ (r::u).length R s=max (QQ u.length R (3*s+3*EE u.length R+R+GG u.length R+3+II u.length R R)) (s+II u.length R (2*(3*s+3*EE u.length R+R+GG u.length R+3+II u.length R R+GG u.length R)+1)+EE u.length R):=rfl
 have hq2:=QQ_ge u.length R (3*s+3*EE u.length R+R+GG u.length R+3+II u.length R R)
 have hi1:=II_ge u.length R (2*(3*s+3*EE u.length R+R+GG u.length R+3+II u.length R R+GG u.length R)+1)
 refine acall_fn Tryz.func162 (by kernel_rfl) rfl fun E hE=>?_
 conv=>cbv
 intro n27 h27;have e27:=h27.eq;have f27:=h27.le;conv=>cbv
 intro n28 h28;conv=>cbv
 cases n28 <;> conv=>cbv
 ·have k28:=eql_f h28
  intro n41 h41;have e41:=h41.eq;have f41:=h41.le;conv=>cbv
  intro n42 h42;conv=>cbv
  refine⟨fun _=>i64 (by omega),?_⟩
  intro m43 hm43;conv=>cbv
  refine⟨fun _=>⟨by omega,by omega⟩,?_⟩
  intro b43 hb43;conv=>cbv
  intro l43 hl43;conv=>cbv
  intro n46 h46;have e46:=h46.eq;have f46:=h46.le;conv=>cbv
  intro n47 h47;conv=>cbv
  refine⟨fun _=>i64 (by omega),?_⟩
  obtain⟨x48,hx48⟩:=get_ex (l:=T) (i:=(n47).toNat) (by omega)
  refine⟨x48,fun _=>⟨by omega,hx48⟩,?_⟩
  try conv=>cbv
  refine⟨fun _=>rfl,?_⟩
  intro n52 h52;have e52:=h52.eq;have f52:=h52.le;conv=>cbv
  intro n53 h53;conv=>cbv
  refine⟨fun _=>⟨by omega,by omega,i64 (by omega)⟩,?_⟩
  intro m54 hm54;conv=>cbv
  refine⟨fun _=>⟨by omega,by omega⟩,?_⟩
  intro b54 hb54;conv=>cbv
  intro l54 hl54;conv=>cbv
  intro n57 h57;have e57:=h57.eq;have f57:=h57.le;conv=>cbv
  intro n58 h58;conv=>cbv
  refine⟨fun _=>⟨by omega,by omega,i64 (by omega)⟩,?_⟩
  intro m59 hm59;conv=>cbv
  refine⟨fun _=>⟨by omega,by omega⟩,?_⟩
  rintro a59 b59 ⟨ha59,hb59⟩;conv=>cbv
  intro l59 hl59;conv=>cbv
  refine⟨fun _=>rfl,?_⟩
  have hl43e:l43=tw u:=by rw[hl43,List.drop_zero,show b43=T.length-1 by omega,hT,tw_take]
  have hx48e:x48=rps r:=by have:=tw_last r u;rw[←hT,show T.length-1=n47.toNat by omega,hx48] at this;exact Option.some.inj this
  have hl54e:l54=em u p:=by rw[hl54,List.drop_zero,show b54=A.length/2 by omega,hA,em_lo h.red hp.mem hq.mem hxe]
  have hl59e:l59=em u q:=by rw[hl59,show a59=A.length/2 by omega,hb59,hm59,List.take_length,hA,em_hi h.red hp.mem hq.mem hxe]
  refine cA hE (Zero_t h.red.1 hq.mem hl59e h0) ?_
  try conv=>cbv
  refine cA hE (hn hl43e hl54e) ?_
  try conv=>cbv
  obtain⟨w79,hw79⟩:∃z:LR,z=em u i:=⟨_,rfl⟩
  have hib:=hrr.inv h.tail hi hri
  refine cL hE (Invv h.tail hl43e (hx48e.trans (em_rad h.red)) hrr hi hri (by omega) hw79) ⟨rfl,rfl,trivial⟩ ?_
  try conv=>cbv
  intro n82 h82;(have h82:=h82.trans (show _=false by decide));subst h82;conv=>cbv
  obtain⟨w88,hw88⟩:∃z:LR,z=em u (p*i):=⟨_,rfl⟩
  refine cL hE (Mulv h.tail hl43e hl54e hw79 hp hib (by omega) hw88) ⟨rfl,rfl,rfl,trivial⟩ ?_
  try conv=>cbv
  obtain⟨w90,hw90⟩:∃z:LR,z=em u w:=⟨_,rfl⟩
  refine cA hE (hy hl43e hw88 hw90) ?_
  try conv=>cbv
  obtain⟨zb93,zl93,yb93,yl93,hz93⟩:=isR_ex (((0:Int):Rat))
  refine cL hE (RFromInt_ok (by omega) rfl hz93) ⟨rfl,trivial⟩ ?_
  try conv=>cbv
  obtain⟨w94,hw94⟩:∃z:LR,z=em u (0):=⟨_,rfl⟩
  refine cL hE (FromRatv h.tail hl43e hz93 ⟨by decide +kernel,by decide +kernel⟩ hw94) ⟨rfl,⟨rfl,rfl,rfl,rfl,trivial⟩,trivial⟩ ?_
  try conv=>cbv
  refine⟨[w94,w90],fun _=>⟨rfl,by decide,rfl,⟨rfl,by first | exact⟨rfl,trivial⟩ | exact⟨rfl,rfl,trivial⟩ | exact⟨rfl,rfl,rfl,rfl,trivial⟩ | simp[allC,leC,cells],⟨rfl,by first | exact⟨rfl,trivial⟩ | exact⟨rfl,rfl,trivial⟩ | exact⟨rfl,rfl,rfl,rfl,trivial⟩ | simp[allC,leC,cells],trivial⟩⟩⟩,.inr ?_⟩
  try conv=>cbv
  have hl90:w90.length=2^u.length:=by rw[hw90,em_len hw]
  have hl94:w94.length=2^u.length:=by rw[hw94,em_len hx0.mem]
  refine cL (r:= .one (.sl tRat B)) hE (concat_two (by omega) (by omega) (by rw[hB,hw90,hw94];exact em_app h.red (in_zero u) hw (by grind))) ⟨rfl,trivial⟩ ?_
  try conv=>cbv
  exact fA ⟨⟨rfl,rfl,trivial⟩,⟨rfl,rfl,trivial⟩,trivial⟩ rfl (by simp)
 ·have k28:=eql_t h28
  exact absurd k28 (by omega)
theorem sq_z3 (h:Twr R (r::u)) (hT:T=tw (r::u)) (hA:A=em (r::u) x) (hx:El (r::u) s x) (hxe:x=p+q*rt u r) (hp:El u s p) (hq:El u s q) (hs:QQ (r::u).length R s≤60000000000000) {l2:LR} (h0:q=0) (hi:In u i) (hri:evR u r*i=1) (hn:SqN 162 u p l) (hy:SqN 162 u (p*i) l2) (hl2:l2.length≤2^u.length) (hB:B=em u 0++l2):CF 162 [.one (.sl (.sl tRat) T),.one (.sl tRat A)] (.tup [(false,[.sl tRat B]),(false,[.bool false])]):=by
 have hTl:T.length=u.length+1:=by rw[hT,tw_len];rfl
 have hAl:A.length=2^u.length+2^u.length:=by rw[hA,em_len hx.mem,pow_len]
 have hrr:=El.rad h
 have hsq:=rt_sq h.red
 have hp16:=pow16 h.tail.ht
 have hpp:=pow_pos2 u.length
 have hx0:El u 0 0:=El.rat h.red.1 bd_int0
 have hq1:QQ (r::u).length R s=max (QQ u.length R (3*s+3*EE u.length R+R+GG u.length R+3+II u.length R R)) (s+II u.length R (2*(3*s+3*EE u.length R+R+GG u.length R+3+II u.length R R+GG u.length R)+1)+EE u.length R):=rfl
 have hq2:=QQ_ge u.length R (3*s+3*EE u.length R+R+GG u.length R+3+II u.length R R)
 have hi1:=II_ge u.length R (2*(3*s+3*EE u.length R+R+GG u.length R+3+II u.length R R+GG u.length R)+1)
 refine acall_fn Tryz.func162 (by kernel_rfl) rfl fun E hE=>?_
 conv=>cbv
 intro n27 h27;have e27:=h27.eq;have f27:=h27.le;conv=>cbv
 intro n28 h28;conv=>cbv
 cases n28 <;> conv=>cbv
 ·have k28:=eql_f h28
  intro n41 h41;have e41:=h41.eq;have f41:=h41.le;conv=>cbv
  intro n42 h42;conv=>cbv
  refine⟨fun _=>i64 (by omega),?_⟩
  intro m43 hm43;conv=>cbv
  refine⟨fun _=>⟨by omega,by omega⟩,?_⟩
  intro b43 hb43;conv=>cbv
  intro l43 hl43;conv=>cbv
  intro n46 h46;have e46:=h46.eq;have f46:=h46.le;conv=>cbv
  intro n47 h47;conv=>cbv
  refine⟨fun _=>i64 (by omega),?_⟩
  obtain⟨x48,hx48⟩:=get_ex (l:=T) (i:=(n47).toNat) (by omega)
  refine⟨x48,fun _=>⟨by omega,hx48⟩,?_⟩
  try conv=>cbv
  refine⟨fun _=>rfl,?_⟩
  intro n52 h52;have e52:=h52.eq;have f52:=h52.le;conv=>cbv
  intro n53 h53;conv=>cbv
  refine⟨fun _=>⟨by omega,by omega,i64 (by omega)⟩,?_⟩
  intro m54 hm54;conv=>cbv
  refine⟨fun _=>⟨by omega,by omega⟩,?_⟩
  intro b54 hb54;conv=>cbv
  intro l54 hl54;conv=>cbv
  intro n57 h57;have e57:=h57.eq;have f57:=h57.le;conv=>cbv
  intro n58 h58;conv=>cbv
  refine⟨fun _=>⟨by omega,by omega,i64 (by omega)⟩,?_⟩
  intro m59 hm59;conv=>cbv
  refine⟨fun _=>⟨by omega,by omega⟩,?_⟩
  rintro a59 b59 ⟨ha59,hb59⟩;conv=>cbv
  intro l59 hl59;conv=>cbv
  refine⟨fun _=>rfl,?_⟩
  have hl43e:l43=tw u:=by rw[hl43,List.drop_zero,show b43=T.length-1 by omega,hT,tw_take]
  have hx48e:x48=rps r:=by have:=tw_last r u;rw[←hT,show T.length-1=n47.toNat by omega,hx48] at this;exact Option.some.inj this
  have hl54e:l54=em u p:=by rw[hl54,List.drop_zero,show b54=A.length/2 by omega,hA,em_lo h.red hp.mem hq.mem hxe]
  have hl59e:l59=em u q:=by rw[hl59,show a59=A.length/2 by omega,hb59,hm59,List.take_length,hA,em_hi h.red hp.mem hq.mem hxe]
  refine cA hE (Zero_t h.red.1 hq.mem hl59e h0) ?_
  try conv=>cbv
  refine cA hE (hn hl43e hl54e) ?_
  try conv=>cbv
  obtain⟨w79,hw79⟩:∃z:LR,z=em u i:=⟨_,rfl⟩
  have hib:=hrr.inv h.tail hi hri
  refine cL hE (Invv h.tail hl43e (hx48e.trans (em_rad h.red)) hrr hi hri (by omega) hw79) ⟨rfl,rfl,trivial⟩ ?_
  try conv=>cbv
  intro n82 h82;(have h82:=h82.trans (show _=false by decide));subst h82;conv=>cbv
  obtain⟨w88,hw88⟩:∃z:LR,z=em u (p*i):=⟨_,rfl⟩
  refine cL hE (Mulv h.tail hl43e hl54e hw79 hp hib (by omega) hw88) ⟨rfl,rfl,rfl,trivial⟩ ?_
  try conv=>cbv
  refine cA hE (hy hl43e hw88) ?_
  try conv=>cbv
  obtain⟨zb93,zl93,yb93,yl93,hz93⟩:=isR_ex (((0:Int):Rat))
  refine cL hE (RFromInt_ok (by omega) rfl hz93) ⟨rfl,trivial⟩ ?_
  try conv=>cbv
  obtain⟨w94,hw94⟩:∃z:LR,z=em u (0):=⟨_,rfl⟩
  refine cL hE (FromRatv h.tail hl43e hz93 ⟨by decide +kernel,by decide +kernel⟩ hw94) ⟨rfl,⟨rfl,rfl,rfl,rfl,trivial⟩,trivial⟩ ?_
  try conv=>cbv
  refine⟨[w94,l2],fun _=>⟨rfl,by decide,rfl,⟨rfl,by first | exact⟨rfl,trivial⟩ | exact⟨rfl,rfl,trivial⟩ | exact⟨rfl,rfl,rfl,rfl,trivial⟩ | simp[allC,leC,cells],⟨rfl,by first | exact⟨rfl,trivial⟩ | exact⟨rfl,rfl,trivial⟩ | exact⟨rfl,rfl,rfl,rfl,trivial⟩ | simp[allC,leC,cells],trivial⟩⟩⟩,.inr ?_⟩
  try conv=>cbv
  have hl94:w94.length=2^u.length:=by rw[hw94,em_len hx0.mem]
  refine cL (r:= .one (.sl tRat B)) hE (concat_two (by omega) (by omega) (by rw[hB,hw94])) ⟨rfl,trivial⟩ ?_
  try conv=>cbv
  exact fA ⟨⟨rfl,rfl,trivial⟩,⟨rfl,rfl,trivial⟩,trivial⟩ rfl (by simp)
 ·have k28:=eql_t h28
  exact absurd k28 (by omega)
theorem sq_n0 (h:Twr R (r::u)) (hT:T=tw (r::u)) (hA:A=em (r::u) x) (hx:El (r::u) s x) (hxe:x=p+q*rt u r) (hp:El u s p) (hq:El u s q) (hs:QQ (r::u).length R s≤60000000000000) (h0:q≠0) (hn:SqN 162 u (p*p-q*q*evR u r) l) (hB:B=[]):CF 162 [.one (.sl (.sl tRat) T),.one (.sl tRat A)] (.tup [(false,[.sl tRat B]),(false,[.bool false])]):=by
 have hTl:T.length=u.length+1:=by rw[hT,tw_len];rfl
 have hAl:A.length=2^u.length+2^u.length:=by rw[hA,em_len hx.mem,pow_len]
 have hrr:=El.rad h
 have hsq:=rt_sq h.red
 have hp16:=pow16 h.tail.ht
 have hpp:=pow_pos2 u.length
 have hx0:El u 0 0:=El.rat h.red.1 bd_int0
 have hq1:QQ (r::u).length R s=max (QQ u.length R (3*s+3*EE u.length R+R+GG u.length R+3+II u.length R R)) (s+II u.length R (2*(3*s+3*EE u.length R+R+GG u.length R+3+II u.length R R+GG u.length R)+1)+EE u.length R):=rfl
 have hq2:=QQ_ge u.length R (3*s+3*EE u.length R+R+GG u.length R+3+II u.length R R)
 have hi1:=II_ge u.length R (2*(3*s+3*EE u.length R+R+GG u.length R+3+II u.length R R+GG u.length R)+1)
 refine acall_fn Tryz.func162 (by kernel_rfl) rfl fun E hE=>?_
 conv=>cbv
 intro n27 h27;have e27:=h27.eq;have f27:=h27.le;conv=>cbv
 intro n28 h28;conv=>cbv
 cases n28 <;> conv=>cbv
 ·have k28:=eql_f h28
  intro n41 h41;have e41:=h41.eq;have f41:=h41.le;conv=>cbv
  intro n42 h42;conv=>cbv
  refine⟨fun _=>i64 (by omega),?_⟩
  intro m43 hm43;conv=>cbv
  refine⟨fun _=>⟨by omega,by omega⟩,?_⟩
  intro b43 hb43;conv=>cbv
  intro l43 hl43;conv=>cbv
  intro n46 h46;have e46:=h46.eq;have f46:=h46.le;conv=>cbv
  intro n47 h47;conv=>cbv
  refine⟨fun _=>i64 (by omega),?_⟩
  obtain⟨x48,hx48⟩:=get_ex (l:=T) (i:=(n47).toNat) (by omega)
  refine⟨x48,fun _=>⟨by omega,hx48⟩,?_⟩
  try conv=>cbv
  refine⟨fun _=>rfl,?_⟩
  intro n52 h52;have e52:=h52.eq;have f52:=h52.le;conv=>cbv
  intro n53 h53;conv=>cbv
  refine⟨fun _=>⟨by omega,by omega,i64 (by omega)⟩,?_⟩
  intro m54 hm54;conv=>cbv
  refine⟨fun _=>⟨by omega,by omega⟩,?_⟩
  intro b54 hb54;conv=>cbv
  intro l54 hl54;conv=>cbv
  intro n57 h57;have e57:=h57.eq;have f57:=h57.le;conv=>cbv
  intro n58 h58;conv=>cbv
  refine⟨fun _=>⟨by omega,by omega,i64 (by omega)⟩,?_⟩
  intro m59 hm59;conv=>cbv
  refine⟨fun _=>⟨by omega,by omega⟩,?_⟩
  rintro a59 b59 ⟨ha59,hb59⟩;conv=>cbv
  intro l59 hl59;conv=>cbv
  refine⟨fun _=>rfl,?_⟩
  have hl43e:l43=tw u:=by rw[hl43,List.drop_zero,show b43=T.length-1 by omega,hT,tw_take]
  have hx48e:x48=rps r:=by have:=tw_last r u;rw[←hT,show T.length-1=n47.toNat by omega,hx48] at this;exact Option.some.inj this
  have hl54e:l54=em u p:=by rw[hl54,List.drop_zero,show b54=A.length/2 by omega,hA,em_lo h.red hp.mem hq.mem hxe]
  have hl59e:l59=em u q:=by rw[hl59,show a59=A.length/2 by omega,hb59,hm59,List.take_length,hA,em_hi h.red hp.mem hq.mem hxe]
  refine cA hE (Zero_f h.red.1 hq.mem hl59e h0) ?_
  try conv=>cbv
  obtain⟨w103,hw103⟩:∃z:LR,z=em u (p*p-q*q*evR u r):=⟨_,rfl⟩
  refine cL hE (Normv h hT hA hx hxe hp.mem hq.mem (by omega) hw103) ⟨rfl,rfl,trivial⟩ ?_
  try conv=>cbv
  refine cA hE (hn hl43e hw103) ?_
  try conv=>cbv
  intro n108 h108;(have h108:=h108.trans (show _=true from rfl));subst h108;conv=>cbv
  exact fA ⟨⟨rfl,.inr (.inl ⟨_,congrArg _ (hB)⟩),trivial⟩,⟨rfl,rfl,trivial⟩,trivial⟩ rfl (by simp)
 ·have k28:=eql_t h28
  exact absurd k28 (by omega)
theorem two_get {a b:Re} {y:Nat→Re} {x:LR} {i:Nat} (h:[A,B][i]? =some x) (hA:A=em u a) (hB:B=em u b) (h0:y 0=a) (h1:y 1=b):x=em u (y i):=by
 match i,h with
 | 0,h=>rw[h0,←hA];exact (Option.some.inj h).symm
 | 1,h=>rw[h1,←hB];exact (Option.some.inj h).symm
 | i+2,h=>simp at h
theorem sq_pick {f:FuncId} {y:Nat→Re} {L:Nat→LR} {i:Nat} {b:Bool} (hi:i≤k0) (hno:∀i,i<k0→SqN f u (t*y i) (L i)) (hyw:SqY f u (t*y k0) w) (hb:b=decide (i=k0)) (hB:B=if i=k0 then em u w else L i) (hT:T=tw u) (hA:A=em u (t*y i)):
  CF f [.one (.sl (.sl tRat) T),.one (.sl tRat A)] (.tup [(false,[.sl tRat B]),(false,[.bool b])]):=by
 by_cases h:i=k0
 ·subst h
  rw[hb,decide_eq_true rfl]
  exact hyw hT hA (by rw[hB,if_pos rfl])
 ·rw[hb,decide_eq_false h,hB,if_neg h]
  exact hno i (by omega) hT hA
theorem El.half {y:Re} (h:El u s y) (hu:Twr R u) (ht:t=Re.ofRat (1/2)):El u (s+1+EE u.length R) (t*y):=by
 have h1:El u 1 t:=ht ▸ El.rat hu.red bd_half
 have:=h1.mul hu h
 rwa [show 1+s+EE u.length R=s+1+EE u.length R by omega] at this
theorem sq_n2 (h:Twr R (r::u)) (hT:T=tw (r::u)) (hA:A=em (r::u) x) (hx:El (r::u) s x) (hxe:x=p+q*rt u r) (hp:El u s p) (hq:El u s q) (hs:QQ (r::u).length R s≤60000000000000) (h0:q≠0) (hn:In u n) (hnn:n*n=p*p-q*q*evR u r) (ht:t=Re.ofRat (1/2)) (hyn:SqY 162 u (p*p-q*q*evR u r) n) {y:Nat→Re} (hy0:y 0=p+n) (hy1:y 1=p-n) (hyE:∀i,El u (s+(2*s+2*EE u.length R+R+1+GG u.length R)+1) (y i)) {L:Nat→LR} (hk0:k0≤2) (hno:∀i,i<k0→SqN 162 u (t*y i) (L i)) (hk2:k0=2) (hB:B=[]):CF 162 [.one (.sl (.sl tRat) T),.one (.sl tRat A)] (.tup [(false,[.sl tRat B]),(false,[.bool false])]):=by
 have hTl:T.length=u.length+1:=by rw[hT,tw_len];rfl
 have hAl:A.length=2^u.length+2^u.length:=by rw[hA,em_len hx.mem,pow_len]
 have hrr:=El.rad h
 have hsq:=rt_sq h.red
 have hp16:=pow16 h.tail.ht
 have hpp:=pow_pos2 u.length
 have hx0:El u 0 0:=El.rat h.red.1 bd_int0
 have hq1:QQ (r::u).length R s=max (QQ u.length R (3*s+3*EE u.length R+R+GG u.length R+3+II u.length R R)) (s+II u.length R (2*(3*s+3*EE u.length R+R+GG u.length R+3+II u.length R R+GG u.length R)+1)+EE u.length R):=rfl
 have hq2:=QQ_ge u.length R (3*s+3*EE u.length R+R+GG u.length R+3+II u.length R R)
 have hi1:=II_ge u.length R (2*(3*s+3*EE u.length R+R+GG u.length R+3+II u.length R R+GG u.length R)+1)
 have hN:=El.norm h hp.mem hq.mem (hxe ▸ hx)
 refine acall_fn Tryz.func162 (by kernel_rfl) rfl fun E hE=>?_
 conv=>cbv
 intro n27 h27;have e27:=h27.eq;have f27:=h27.le;conv=>cbv
 intro n28 h28;conv=>cbv
 cases n28 <;> conv=>cbv
 ·have k28:=eql_f h28
  intro n41 h41;have e41:=h41.eq;have f41:=h41.le;conv=>cbv
  intro n42 h42;conv=>cbv
  refine⟨fun _=>i64 (by omega),?_⟩
  intro m43 hm43;conv=>cbv
  refine⟨fun _=>⟨by omega,by omega⟩,?_⟩
  intro b43 hb43;conv=>cbv
  intro l43 hl43;conv=>cbv
  intro n46 h46;have e46:=h46.eq;have f46:=h46.le;conv=>cbv
  intro n47 h47;conv=>cbv
  refine⟨fun _=>i64 (by omega),?_⟩
  obtain⟨x48,hx48⟩:=get_ex (l:=T) (i:=(n47).toNat) (by omega)
  refine⟨x48,fun _=>⟨by omega,hx48⟩,?_⟩
  try conv=>cbv
  refine⟨fun _=>rfl,?_⟩
  intro n52 h52;have e52:=h52.eq;have f52:=h52.le;conv=>cbv
  intro n53 h53;conv=>cbv
  refine⟨fun _=>⟨by omega,by omega,i64 (by omega)⟩,?_⟩
  intro m54 hm54;conv=>cbv
  refine⟨fun _=>⟨by omega,by omega⟩,?_⟩
  intro b54 hb54;conv=>cbv
  intro l54 hl54;conv=>cbv
  intro n57 h57;have e57:=h57.eq;have f57:=h57.le;conv=>cbv
  intro n58 h58;conv=>cbv
  refine⟨fun _=>⟨by omega,by omega,i64 (by omega)⟩,?_⟩
  intro m59 hm59;conv=>cbv
  refine⟨fun _=>⟨by omega,by omega⟩,?_⟩
  rintro a59 b59 ⟨ha59,hb59⟩;conv=>cbv
  intro l59 hl59;conv=>cbv
  refine⟨fun _=>rfl,?_⟩
  have hl43e:l43=tw u:=by rw[hl43,List.drop_zero,show b43=T.length-1 by omega,hT,tw_take]
  have hx48e:x48=rps r:=by have:=tw_last r u;rw[←hT,show T.length-1=n47.toNat by omega,hx48] at this;exact Option.some.inj this
  have hl54e:l54=em u p:=by rw[hl54,List.drop_zero,show b54=A.length/2 by omega,hA,em_lo h.red hp.mem hq.mem hxe]
  have hl59e:l59=em u q:=by rw[hl59,show a59=A.length/2 by omega,hb59,hm59,List.take_length,hA,em_hi h.red hp.mem hq.mem hxe]
  refine cA hE (Zero_f h.red.1 hq.mem hl59e h0) ?_
  try conv=>cbv
  obtain⟨w103,hw103⟩:∃z:LR,z=em u (p*p-q*q*evR u r):=⟨_,rfl⟩
  refine cL hE (Normv h hT hA hx hxe hp.mem hq.mem (by omega) hw103) ⟨rfl,rfl,trivial⟩ ?_
  try conv=>cbv
  obtain⟨w105,hw105⟩:∃z:LR,z=em u n:=⟨_,rfl⟩
  have hnE:=hN.sqrt h.tail hn hnn
  refine cA hE (hyn hl43e hw103 hw105) ?_
  try conv=>cbv
  intro n108 h108;(have h108:=h108.trans (show _=false from rfl));subst h108;conv=>cbv
  obtain⟨w112,hw112⟩:∃z:LR,z=em u (p+n):=⟨_,rfl⟩
  refine cL hE (Addv h.tail hl43e hl54e hw105 hp hnE (by omega) (by omega) hw112) ⟨rfl,rfl,rfl,trivial⟩ ?_
  try conv=>cbv
  obtain⟨w116,hw116⟩:∃z:LR,z=em u (p-n):=⟨_,rfl⟩
  refine cL hE (Subv h.tail hl43e hl54e hw105 hp hnE (by omega) (by omega) hw116) ⟨rfl,rfl,rfl,trivial⟩ ?_
  try conv=>cbv
  refine⟨[w112,w116],fun _=>⟨rfl,by decide,rfl,⟨rfl,by first | exact⟨rfl,trivial⟩ | exact⟨rfl,rfl,trivial⟩ | exact⟨rfl,rfl,rfl,rfl,trivial⟩ | simp[allC,leC,cells],⟨rfl,by first | exact⟨rfl,trivial⟩ | exact⟨rfl,rfl,trivial⟩ | exact⟨rfl,rfl,rfl,rfl,trivial⟩ | simp[allC,leC,cells],trivial⟩⟩⟩,.inr ?_⟩
  try conv=>cbv
  intro n118 h118;have e118:=h118.eq;have f118:=h118.le;conv=>cbv
  refine .inr ?_
  obtain⟨J0,hJ0⟩:∃J:List AV→List Blk→Nat→Prop,J=fun vs bl k=>∃(i':Nat) (m i:Int),vs=[.one (.sl (.sl tRat) l43),.one (.sl tRat l59),.one (.sl (.sl tRat) [w112,w116]),.one (.int .i64 m),.one (.int .i64 i)]∧(NatIs m 2∧NatIs i i'∧i'≤k0)∧k=2-i':=⟨_,rfl⟩
  refine⟨[8,11,117,118,119],[],J0,⟨2-0,by rw[hJ0];exact⟨0,n118,0,rfl,⟨⟨h118.eq⟩,natIs 0,by omega⟩,rfl⟩⟩,?_⟩
  intro vs bl kk0 hj;rw[hJ0] at hj
  obtain⟨i',m,i,rfl,⟨hM,hi',hiL⟩,hk0⟩:=hj
  conv=>cbv
  have eM:=hM.eq
  have ei':=hi'.eq
  intro n120 h120;conv=>cbv
  cases n120 <;> conv=>cbv
  ·have k120:=lss_f h120
   exact fA ⟨⟨rfl,.inr (.inl ⟨_,congrArg _ (hB)⟩),trivial⟩,⟨rfl,rfl,trivial⟩,trivial⟩ rfl (by simp)
  ·have k120:=lss_t h120
   refine .inr ?_
   obtain⟨x121,hx121⟩:=get_ex (l:=[w112,w116]) (i:=i') (by show _<2;omega)
   refine⟨x121,fun _=>⟨by omega,by rw[show (i).toNat=i' by omega];exact hx121⟩,?_⟩
   try conv=>cbv
   have hx121e:x121=em u (y i'):=two_get hx121 hw112 hw116 hy0 hy1
   obtain⟨w127,hw127⟩:∃z:LR,z=em u (t*y i'):=⟨_,rfl⟩
   refine cL hE (halfv h.tail hl43e hx121e (hyE i') ht (by omega) hw127) ⟨rfl,rfl,trivial⟩ ?_
   try conv=>cbv
   refine cL hE (hno i' (by omega) hl43e hw127) ⟨rfl,rfl,trivial⟩ ?_
   try conv=>cbv
   intro n132 h132;(have h132:=h132.trans (show _=true from rfl));subst h132;conv=>cbv
   intro n153 h153;conv=>cbv
   refine⟨fun _=>i64 (by omega),?_⟩
   refine⟨2-(i'+1),?_,?_⟩
   ·omega
   rw[hJ0]
   exact⟨i'+1,m,n153,rfl,⟨hM,⟨by omega⟩,by omega⟩,rfl⟩
 ·have k28:=eql_t h28
  exact absurd k28 (by omega)
theorem sq_n1 (h:Twr R (r::u)) (hT:T=tw (r::u)) (hA:A=em (r::u) x) (hx:El (r::u) s x) (hxe:x=p+q*rt u r) (hp:El u s p) (hq:El u s q) (hs:QQ (r::u).length R s≤60000000000000) (h0:q≠0) (hn:In u n) (hnn:n*n=p*p-q*q*evR u r) (ht:t=Re.ofRat (1/2)) (hyn:SqY 162 u (p*p-q*q*evR u r) n) {y:Nat→Re} (hy0:y 0=p+n) (hy1:y 1=p-n) (hyE:∀i,El u (s+(2*s+2*EE u.length R+R+1+GG u.length R)+1) (y i)) {L:Nat→LR} (hk0:k0≤2) (hno:∀i,i<k0→SqN 162 u (t*y i) (L i)) (hk2:k0<2) {j:Re} (hw:In u w) (hww:w*w=t*y k0) (hw0:w≠0) (hyw:SqY 162 u (t*y k0) w) (hj:In u j) (hwj:(w+w)*j=1) (hB:B=em (r::u) (w+q*j*rt u r)):CF 162 [.one (.sl (.sl tRat) T),.one (.sl tRat A)] (.tup [(false,[.sl tRat B]),(false,[.bool true])]):=by
 have hTl:T.length=u.length+1:=by rw[hT,tw_len];rfl
 have hAl:A.length=2^u.length+2^u.length:=by rw[hA,em_len hx.mem,pow_len]
 have hrr:=El.rad h
 have hsq:=rt_sq h.red
 have hp16:=pow16 h.tail.ht
 have hpp:=pow_pos2 u.length
 have hx0:El u 0 0:=El.rat h.red.1 bd_int0
 have hq1:QQ (r::u).length R s=max (QQ u.length R (3*s+3*EE u.length R+R+GG u.length R+3+II u.length R R)) (s+II u.length R (2*(3*s+3*EE u.length R+R+GG u.length R+3+II u.length R R+GG u.length R)+1)+EE u.length R):=rfl
 have hq2:=QQ_ge u.length R (3*s+3*EE u.length R+R+GG u.length R+3+II u.length R R)
 have hi1:=II_ge u.length R (2*(3*s+3*EE u.length R+R+GG u.length R+3+II u.length R R+GG u.length R)+1)
 have hN:=El.norm h hp.mem hq.mem (hxe ▸ hx)
 refine acall_fn Tryz.func162 (by kernel_rfl) rfl fun E hE=>?_
 conv=>cbv
 intro n27 h27;have e27:=h27.eq;have f27:=h27.le;conv=>cbv
 intro n28 h28;conv=>cbv
 cases n28 <;> conv=>cbv
 ·have k28:=eql_f h28
  intro n41 h41;have e41:=h41.eq;have f41:=h41.le;conv=>cbv
  intro n42 h42;conv=>cbv
  refine⟨fun _=>i64 (by omega),?_⟩
  intro m43 hm43;conv=>cbv
  refine⟨fun _=>⟨by omega,by omega⟩,?_⟩
  intro b43 hb43;conv=>cbv
  intro l43 hl43;conv=>cbv
  intro n46 h46;have e46:=h46.eq;have f46:=h46.le;conv=>cbv
  intro n47 h47;conv=>cbv
  refine⟨fun _=>i64 (by omega),?_⟩
  obtain⟨x48,hx48⟩:=get_ex (l:=T) (i:=(n47).toNat) (by omega)
  refine⟨x48,fun _=>⟨by omega,hx48⟩,?_⟩
  try conv=>cbv
  refine⟨fun _=>rfl,?_⟩
  intro n52 h52;have e52:=h52.eq;have f52:=h52.le;conv=>cbv
  intro n53 h53;conv=>cbv
  refine⟨fun _=>⟨by omega,by omega,i64 (by omega)⟩,?_⟩
  intro m54 hm54;conv=>cbv
  refine⟨fun _=>⟨by omega,by omega⟩,?_⟩
  intro b54 hb54;conv=>cbv
  intro l54 hl54;conv=>cbv
  intro n57 h57;have e57:=h57.eq;have f57:=h57.le;conv=>cbv
  intro n58 h58;conv=>cbv
  refine⟨fun _=>⟨by omega,by omega,i64 (by omega)⟩,?_⟩
  intro m59 hm59;conv=>cbv
  refine⟨fun _=>⟨by omega,by omega⟩,?_⟩
  rintro a59 b59 ⟨ha59,hb59⟩;conv=>cbv
  intro l59 hl59;conv=>cbv
  refine⟨fun _=>rfl,?_⟩
  have hl43e:l43=tw u:=by rw[hl43,List.drop_zero,show b43=T.length-1 by omega,hT,tw_take]
  have hx48e:x48=rps r:=by have:=tw_last r u;rw[←hT,show T.length-1=n47.toNat by omega,hx48] at this;exact Option.some.inj this
  have hl54e:l54=em u p:=by rw[hl54,List.drop_zero,show b54=A.length/2 by omega,hA,em_lo h.red hp.mem hq.mem hxe]
  have hl59e:l59=em u q:=by rw[hl59,show a59=A.length/2 by omega,hb59,hm59,List.take_length,hA,em_hi h.red hp.mem hq.mem hxe]
  refine cA hE (Zero_f h.red.1 hq.mem hl59e h0) ?_
  try conv=>cbv
  obtain⟨w103,hw103⟩:∃z:LR,z=em u (p*p-q*q*evR u r):=⟨_,rfl⟩
  refine cL hE (Normv h hT hA hx hxe hp.mem hq.mem (by omega) hw103) ⟨rfl,rfl,trivial⟩ ?_
  try conv=>cbv
  obtain⟨w105,hw105⟩:∃z:LR,z=em u n:=⟨_,rfl⟩
  have hnE:=hN.sqrt h.tail hn hnn
  refine cA hE (hyn hl43e hw103 hw105) ?_
  try conv=>cbv
  intro n108 h108;(have h108:=h108.trans (show _=false from rfl));subst h108;conv=>cbv
  obtain⟨w112,hw112⟩:∃z:LR,z=em u (p+n):=⟨_,rfl⟩
  refine cL hE (Addv h.tail hl43e hl54e hw105 hp hnE (by omega) (by omega) hw112) ⟨rfl,rfl,rfl,trivial⟩ ?_
  try conv=>cbv
  obtain⟨w116,hw116⟩:∃z:LR,z=em u (p-n):=⟨_,rfl⟩
  refine cL hE (Subv h.tail hl43e hl54e hw105 hp hnE (by omega) (by omega) hw116) ⟨rfl,rfl,rfl,trivial⟩ ?_
  try conv=>cbv
  refine⟨[w112,w116],fun _=>⟨rfl,by decide,rfl,⟨rfl,by first | exact⟨rfl,trivial⟩ | exact⟨rfl,rfl,trivial⟩ | exact⟨rfl,rfl,rfl,rfl,trivial⟩ | simp[allC,leC,cells],⟨rfl,by first | exact⟨rfl,trivial⟩ | exact⟨rfl,rfl,trivial⟩ | exact⟨rfl,rfl,rfl,rfl,trivial⟩ | simp[allC,leC,cells],trivial⟩⟩⟩,.inr ?_⟩
  try conv=>cbv
  intro n118 h118;have e118:=h118.eq;have f118:=h118.le;conv=>cbv
  refine .inr ?_
  obtain⟨J0,hJ0⟩:∃J:List AV→List Blk→Nat→Prop,J=fun vs bl k=>∃(i':Nat) (m i:Int),vs=[.one (.sl (.sl tRat) l43),.one (.sl tRat l59),.one (.sl (.sl tRat) [w112,w116]),.one (.int .i64 m),.one (.int .i64 i)]∧(NatIs m 2∧NatIs i i'∧i'≤k0)∧k=2-i':=⟨_,rfl⟩
  refine⟨[8,11,117,118,119],[],J0,⟨2-0,by rw[hJ0];exact⟨0,n118,0,rfl,⟨⟨h118.eq⟩,natIs 0,by omega⟩,rfl⟩⟩,?_⟩
  intro vs bl kk0 hj;rw[hJ0] at hj
  obtain⟨i',m,i,rfl,⟨hM,hi',hiL⟩,hk0⟩:=hj
  conv=>cbv
  have eM:=hM.eq
  have ei':=hi'.eq
  intro n120 h120;conv=>cbv
  cases n120 <;> conv=>cbv
  ·have k120:=lss_f h120
   exact absurd k120 (by omega)
  ·have k120:=lss_t h120
   refine .inr ?_
   obtain⟨x121,hx121⟩:=get_ex (l:=[w112,w116]) (i:=i') (by show _<2;omega)
   refine⟨x121,fun _=>⟨by omega,by rw[show (i).toNat=i' by omega];exact hx121⟩,?_⟩
   try conv=>cbv
   have hx121e:x121=em u (y i'):=two_get hx121 hw112 hw116 hy0 hy1
   obtain⟨w127,hw127⟩:∃z:LR,z=em u (t*y i'):=⟨_,rfl⟩
   refine cL hE (halfv h.tail hl43e hx121e (hyE i') ht (by omega) hw127) ⟨rfl,rfl,trivial⟩ ?_
   try conv=>cbv
   obtain⟨b128,hb128⟩:∃b:Bool,b=decide (i'=k0):=⟨_,rfl⟩
   obtain⟨w129,hw129⟩:∃z:LR,z=if i'=k0 then em u w else L i':=⟨_,rfl⟩
   refine cA hE (sq_pick hiL hno hyw hb128 hw129 hl43e hw127) ?_
   try conv=>cbv
   intro n132 h132;conv=>cbv
   cases n132 <;> conv=>cbv
   ·have k132:=not_f h132
    have hik:i'=k0:=of_decide_eq_true (hb128.symm.trans k132)
    have hw129e:w129=em u w:=by rw[hw129,if_pos hik]
    have hwE:El u (s+(2*s+2*EE u.length R+R+1+GG u.length R)+1+1+EE u.length R+GG u.length R) w:=(((hyE k0).half h.tail ht).sqrt h.tail hw hww)
    have hjE:=(hwE.add h.red.1 hwE).inv h.tail hj hwj
    have hmo:=II_mono u.length R (s:=s+(2*s+2*EE u.length R+R+1+GG u.length R)+1+1+EE u.length R+GG u.length R+(s+(2*s+2*EE u.length R+R+1+GG u.length R)+1+1+EE u.length R+GG u.length R)+1) (t:=2*(3*s+3*EE u.length R+R+GG u.length R+3+II u.length R R+GG u.length R)+1) (by omega)
    refine cA hE (Zero_f h.red.1 hw hw129e hw0) ?_
    try conv=>cbv
    obtain⟨w142,hw142⟩:∃z:LR,z=em u (w+w):=⟨_,rfl⟩
    refine cL hE (Addv h.tail hl43e hw129e hw129e hwE hwE (by omega) (by omega) hw142) ⟨rfl,rfl,rfl,trivial⟩ ?_
    try conv=>cbv
    obtain⟨w144,hw144⟩:∃z:LR,z=em u j:=⟨_,rfl⟩
    refine cL hE (Invv h.tail hl43e hw142 (hwE.add h.red.1 hwE) hj hwj (by omega) hw144) ⟨rfl,rfl,trivial⟩ ?_
    try conv=>cbv
    obtain⟨w150,hw150⟩:∃z:LR,z=em u (q*j):=⟨_,rfl⟩
    refine cL hE (Mulv h.tail hl43e hl59e hw144 hq hjE (by omega) hw150) ⟨rfl,rfl,rfl,trivial⟩ ?_
    try conv=>cbv
    refine⟨[w129,w150],fun _=>⟨rfl,by decide,rfl,⟨rfl,by first | exact⟨rfl,trivial⟩ | exact⟨rfl,rfl,trivial⟩ | exact⟨rfl,rfl,rfl,rfl,trivial⟩ | simp[allC,leC,cells],⟨rfl,by first | exact⟨rfl,trivial⟩ | exact⟨rfl,rfl,trivial⟩ | exact⟨rfl,rfl,rfl,rfl,trivial⟩ | simp[allC,leC,cells],trivial⟩⟩⟩,.inr ?_⟩
    try conv=>cbv
    have hl129:w129.length=2^u.length:=by rw[hw129e,em_len hw]
    have hl150:w150.length=2^u.length:=by rw[hw150,em_len (in_mul h.red.1 hq.mem hj)]
    refine cL (r:= .one (.sl tRat B)) hE (concat_two (by omega) (by omega) (by rw[hB,hw129e,hw150];exact em_app h.red hw (in_mul h.red.1 hq.mem hj) rfl)) ⟨rfl,trivial⟩ ?_
    try conv=>cbv
    exact fA ⟨⟨rfl,rfl,trivial⟩,⟨rfl,rfl,trivial⟩,trivial⟩ rfl (by simp)
   ·have k132:=not_t h132
    intro n153 h153;conv=>cbv
    refine⟨fun _=>i64 (by omega),?_⟩
    have hne:i'≠k0:=of_decide_eq_false (hb128.symm.trans k132)
    refine⟨2-(i'+1),?_,?_⟩
    ·omega
    rw[hJ0]
    exact⟨i'+1,m,n153,rfl,⟨hM,⟨by omega⟩,by omega⟩,rfl⟩
 ·have k28:=eql_t h28
  exact absurd k28 (by omega)
end Go.Abs
