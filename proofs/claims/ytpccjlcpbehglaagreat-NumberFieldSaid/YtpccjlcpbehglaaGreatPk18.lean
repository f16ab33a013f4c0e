/- Part 19 of a proof. Conditions: each theorem's own. -/
import Derived.Test.YtpccjlcpbehglaaGreatPk17
set_option linter.all false
set_option maxHeartbeats 8000000
namespace Go.Abs
open Go.RowKit
noncomputable def em (u:List (List Rat)) (x:Re):List (el tRat):=rps (co u x)
def tw (u:List (List Rat)):List (List (el tRat)):=u.reverse.map rps
structure Twr (R:Nat) (u:List (List Rat)):Prop where
 red:Red u
 tb:TB R u
 hR:R≤60000000000000
 ht:u.length≤16
structure El (u:List (List Rat)) (s:Nat) (x:Re):Prop where
 mem:In u x
 bd:Bd s (co u x)
variable {R k n s t:Nat} {p x y:Re}
theorem limbs_le_bits (h:n≤2^(2*k)) (hk:k≤60000000000000):(limbs n).length≤4000000000000:=by
 obtain⟨m,hm⟩:∃m:Nat,m=3999999999999:=⟨_,rfl⟩
 have h1:n<2^(32*m):=Nat.lt_of_le_of_lt h (Nat.pow_lt_pow_right (by decide) (by omega))
 have:=limbs_len_le h1
 omega
theorem den_le {q:Rat} {D:Nat} {n:Int} (h:q*D=n) (hD:0<D):q.den≤D:=by
 have h1:=rat_mul_den q
 have h2:((q.num*D:Int):Rat)=((n*q.den:Int):Rat):=by
  rw[Rat.intCast_mul,Rat.intCast_mul,←h,←h1]
  have e1:((D:Int):Rat)=(D:Rat):=rfl
  have e2:((q.den:Int):Rat)=(q.den:Rat):=rfl
  grind
 have h3:q.num*D=n*q.den:=Rat.intCast_inj.1 h2
 have h4:q.den∣q.num.natAbs*D:=by
  refine⟨n.natAbs,?_⟩
  have:=congrArg Int.natAbs h3
  rw[Int.natAbs_mul,Int.natAbs_mul,Int.natAbs_natCast,Int.natAbs_natCast] at this
  rw[this,Nat.mul_comm]
 exact Nat.le_of_dvd hD ((Nat.Coprime.symm q.reduced).dvd_of_dvd_mul_left h4)
theorem Bd.smalls {a:List Rat} (h:Bd k a) (hk:k≤60000000000000):Smalls a:=by
 obtain⟨D,h0,h1,h2,h3⟩:=h
 intro q hq
 obtain⟨n,hn⟩:=h2 q hq
 have hd:q.den≤2^k:=Nat.le_trans (den_le hn h0) h1
 have hb:=h3 q hq
 have hnum:q.num.natAbs≤2^(2*k):=by
  have e1:=mx_mul1 (C:=q.den) hb (q:=(q.den:Rat)) ⟨by have:(0:Rat)≤q.den:=Rat.natCast_nonneg;grind,by grind⟩
  rw[rat_mul_den] at e1
  have e2:q.num.natAbs≤2^k*q.den:=by
   have p1: -((2^k*q.den:Nat):Int)≤q.num:=by
    apply Rat.intCast_le_intCast.1
    rw[Rat.intCast_neg];exact e1.1
   have p2:q.num≤((2^k*q.den:Nat):Int):=Rat.intCast_le_intCast.1 e1.2
   omega
  have:=Nat.mul_le_mul_left (2^k) hd
  rw[←Nat.pow_add] at this
  exact Nat.le_trans e2 (Nat.le_trans this (pow_le2 (by omega)))
 exact⟨limbs_le_bits hnum hk,limbs_le_bits (Nat.le_trans hd (pow_le2 (by omega))) hk⟩
theorem El.smalls {u:List (List Rat)} (h:El u s x) (hs:s≤60000000000000):Smalls (co u x):=h.bd.smalls hs
theorem El.len {u:List (List Rat)} (h:El u s x):(co u x).length=2^u.length:=co_len h.mem
theorem em_len {u:List (List Rat)} (h:In u x):(em u x).length=2^u.length:=by rw[em,List.length_map,co_len h]
theorem tw_len (u:List (List Rat)):(tw u).length=u.length:=by rw[tw,List.length_map,List.length_reverse]
theorem pow16 (h:n≤16):2^n≤65536:=Nat.le_trans (pow_le2 h) (by decide)
theorem tw_cons (r:List Rat) (u:List (List Rat)):tw (r::u)=tw u++[rps r]:=by rw[tw,List.reverse_cons,List.map_append];rfl
theorem tw_take (r:List Rat) (u:List (List Rat)):(tw (r::u)).take ((tw (r::u)).length-1)=tw u:=by
 rw[tw_cons,List.length_append,tw_len]
 simp[List.take_left' (tw_len u)]
theorem tw_last (r:List Rat) (u:List (List Rat)):(tw (r::u))[(tw (r::u)).length-1]? =some (rps r):=by
 rw[tw_cons,List.length_append,tw_len]
 simp[List.getElem?_append_right (Nat.le_of_eq (tw_len u))]
 rw[tw_len,Nat.sub_self];rfl
theorem em_rad {r:List Rat} {u:List (List Rat)} (h:Red (r::u)):rps r=em u (evR u r):=by rw[em,co_rad h]
theorem em_lo {u:List (List Rat)} {r:List Rat} {q:Re} (h:Red (r::u)) (hp:In u p) (hq:In u q) (hx:x=p+q*rt u r):(em (r::u) x).take ((em (r::u) x).length/2)=em u p:=by
 have hx':In (r::u) x:=in_cons.2 ⟨p,q,hp,hq,hx⟩
 rw[em_len hx',pow_len,show (2^u.length+2^u.length)/2=2^u.length by omega,em,em,rps,rps,←List.map_take,co_lo h hp hq hx]
theorem em_hi {u:List (List Rat)} {r:List Rat} {q:Re} (h:Red (r::u)) (hp:In u p) (hq:In u q) (hx:x=p+q*rt u r):(em (r::u) x).drop ((em (r::u) x).length/2)=em u q:=by
 have hx':In (r::u) x:=in_cons.2 ⟨p,q,hp,hq,hx⟩
 rw[em_len hx',pow_len,show (2^u.length+2^u.length)/2=2^u.length by omega,em,em,rps,rps,←List.map_drop,co_hi h hp hq hx]
theorem em_app {u:List (List Rat)} {r:List Rat} {q:Re} (h:Red (r::u)) (hp:In u p) (hq:In u q) (hx:x=p+q*rt u r):em (r::u) x=em u p++em u q:=by
 rw[em,co_cons h hp hq hx,rps,List.map_append];rfl
theorem em_add {u:List (List Rat)} (h:Red u) (hx:In u x) (hy:In u y):em u (x+y)=rps (List.zipWith (· + ·) (co u x) (co u y)):=by rw[em,co_add h hx hy]
theorem em_neg {u:List (List Rat)} (h:Red u) (hx:In u x):em u (-x)=rps ((co u x).map (- ·)):=by rw[em,co_neg h hx]
theorem em_nil (q:Rat):em [] (Re.ofRat q)=[rp q]:=by rw[em,co_nil];rfl
theorem em_zero {u:List (List Rat)} (h:Red u):em u 0=rps (List.replicate (2^u.length) 0):=by rw[em,co_zero h]
theorem Twr.tail {r:List Rat} {u:List (List Rat)} (h:Twr R (r::u)):Twr R u:=⟨h.red.1,h.tb.tail,h.hR,by have:=h.ht;rw[List.length_cons] at this;omega⟩
theorem getE' {α:Type} {l:List α} {i:Nat} {x:α} (h:l[i]? =some x):i<l.length:=by
 apply Classical.byContradiction;intro hn;rw[List.getElem?_eq_none (by omega)] at h;exact absurd h (by simp)
theorem red_form:∀{u:List (List Rat)},Red u→∀(i:Nat) (x:List Rat),u.reverse[i]? =some x→x.length=2^i
 | [],_,i,x,h=>by simp at h
 | r::u,hr,i,x,h=>by
  rw[List.reverse_cons] at h
  by_cases hi:i<u.length
  ·rw[List.getElem?_append_left (by rw[List.length_reverse];exact hi)] at h
   exact red_form hr.1 i x h
  ·rw[List.getElem?_append_right (by rw[List.length_reverse];omega),List.length_reverse] at h
   have h2:i-u.length=0:=by
    have:=getE' h
    simp at this;omega
   rw[h2] at h
   have:r=x:=by simpa using h
   rw[←this,hr.2.1]
   congr 1;omega
theorem Twr.tow {u:List (List Rat)} (h:Twr R u):Tow u.reverse:=
 ⟨fun x hx=>(h.tb x (List.mem_reverse.1 hx)).smalls h.hR,by rw[List.length_reverse];exact h.ht,red_form h.red⟩
theorem El.rad {r:List Rat} {u:List (List Rat)} (h:Twr R (r::u)):El u R (evR u r):=⟨in_rad h.red,bd_rad h.red h.tb⟩
theorem El.parts {u:List (List Rat)} {r:List Rat} (h:Red (r::u)) (hx:El (r::u) s x):∃p q,x=p+q*rt u r∧El u s p∧El u s q:=by
 obtain⟨p,q,hp,hq,rfl⟩:=in_cons.1 hx.mem
 have:=bd_lo h hp hq hx.bd
 exact⟨p,q,rfl,⟨hp,this.1⟩,⟨hq,this.2⟩⟩
theorem El.mono {u:List (List Rat)} (h:El u s x) (hs:s≤t):El u t x:=⟨h.mem,h.bd.mono hs⟩
theorem El.add {u:List (List Rat)} (h:Red u) (hx:El u s x) (hy:El u t y):El u (s+t+1) (x+y):=⟨in_add hx.mem hy.mem,bd_add h hx.mem hy.mem hx.bd hy.bd⟩
theorem El.sub {u:List (List Rat)} (h:Red u) (hx:El u s x) (hy:El u t y):El u (s+t+1) (x-y):=⟨in_sub hx.mem hy.mem,bd_sub h hx.mem hy.mem hx.bd hy.bd⟩
theorem El.neg {u:List (List Rat)} (h:Red u) (hx:El u s x):El u s (-x):=⟨in_neg hx.mem,bd_neg h hx.mem hx.bd⟩
theorem El.mul {u:List (List Rat)} (h:Twr R u) (hx:El u s x) (hy:El u t y):El u (s+t+EE u.length R) (x*y):=⟨in_mul h.red hx.mem hy.mem,bd_mul h.red h.tb hx.mem hy.mem hx.bd hy.bd⟩
theorem El.norm {u:List (List Rat)} {r:List Rat} {q:Re} (h:Twr R (r::u)) (hp:In u p) (hq:In u q) (hx:El (r::u) s (p+q*rt u r)):El u (2*s+2*EE u.length R+R+1) (p*p-q*q*evR u r):=
 ⟨in_sub (in_mul h.red.1 hp hp) (in_mul h.red.1 (in_mul h.red.1 hq hq) (in_rad h.red)),bd_norm h.red h.tb hp hq hx.bd⟩
theorem El.inv {u:List (List Rat)} (h:Twr R u) (hx:El u s x) (hy:In u y) (e:x*y=1):El u (II u.length R s) y:=⟨hy,bd_inv h.red h.tb hx.mem hy e hx.bd⟩
theorem El.sqrt {u:List (List Rat)} {w:Re} (h:Twr R u) (hx:El u s x) (hw:In u w) (e:w*w=x):El u (s+GG u.length R) w:=⟨hw,bd_sqrt h.red h.tb hw e hx.bd⟩
theorem El.rat {u:List (List Rat)} {q:Rat} (h:Red u) (hq:Bd s [q]):El u s (Re.ofRat q):=⟨in_rat q u,bd_rat h hq⟩
theorem II_ge:∀(h R s:Nat),2*s≤II h R s
 | 0,_,_=>Nat.le_refl _
 | h+1,R,s=>by
  have:=II_ge h R (2*s+2*EE h R+R+1)
  rw[II];omega
theorem norm_ne {u:List (List Rat)} {r:List Rat} {q:Re} (h:Red (r::u)) (hp:In u p) (hq:In u q) (h0:p+q*rt u r≠0):p*p-q*q*evR u r≠0:=by
 intro e0
 have hr:=rt_sq h
 have e1:(p+q*rt u r)*(p-q*rt u r)=0:=by grind
 rcases Re.eq_zero_or e1 with e2 | e2
 ·exact h0 e2
 ·obtain⟨e3,e4⟩:=indep h hp (in_neg hq) (in_zero u) (in_zero u) (show p+ -q*rt u r=0+0*rt u r by grind)
  exact h0 (by grind)
theorem bd_half:Bd 1 [(1/2:Rat)]:=by
 refine⟨2,by decide,by decide,fun q hq=>⟨1,?_⟩,fun q hq=>?_⟩
 ·rw[List.mem_singleton.1 hq];decide +kernel
 ·rw[List.mem_singleton.1 hq];decide +kernel
theorem bd_int0:Bd 0 [(0:Rat)]:=⟨1,by decide,by decide,fun q hq=>⟨0,by rw[List.mem_singleton.1 hq];decide +kernel⟩,fun q hq=>by rw[List.mem_singleton.1 hq];decide +kernel⟩
theorem bd_int1:Bd 0 [(1:Rat)]:=⟨1,by decide,by decide,fun q hq=>⟨1,by rw[List.mem_singleton.1 hq];decide +kernel⟩,fun q hq=>by rw[List.mem_singleton.1 hq];decide +kernel⟩
end Go.Abs
namespace Go.Abs
noncomputable def sgR (x:Re):Int:=by
 classical
 exact if x<0 then -1 else if x=0 then 0 else 1
theorem sgR_cases (x:Re):(x<0∧sgR x= -1)∨(x=0∧sgR x=0)∨(0<x∧sgR x=1):=by
 unfold sgR
 by_cases h:x<0
 ·rw[if_pos h];exact .inl ⟨h,rfl⟩
 ·rw[if_neg h]
  by_cases h0:x=0
  ·rw[if_pos h0];exact .inr (.inl ⟨h0,rfl⟩)
  ·rw[if_neg h0];exact .inr (.inr ⟨by grind,rfl⟩)
theorem sgR_pos {x:Re} (h:0<x):sgR x=1:=by rcases sgR_cases x with⟨a,b⟩ |⟨a,b⟩ |⟨a,b⟩ <;> grind
theorem sgR_neg {x:Re} (h:x<0):sgR x= -1:=by rcases sgR_cases x with⟨a,b⟩ |⟨a,b⟩ |⟨a,b⟩ <;> grind
theorem sgR_zero:sgR 0=0:=by rcases sgR_cases 0 with⟨a,b⟩ |⟨a,b⟩ |⟨a,b⟩ <;> grind
theorem sgR_eq0 {x:Re}:sgR x=0↔x=0:=by
 rcases sgR_cases x with⟨a,b⟩ |⟨a,b⟩ |⟨a,b⟩ <;> rw[b]
 ·constructor
  ·intro h;omega
  ·intro h;grind
 ·exact⟨fun _=>a,fun _=>rfl⟩
 ·constructor
  ·intro h;omega
  ·intro h;grind
theorem sgR_mul (x y:Re):sgR (x*y)=sgR x*sgR y:=by
 rcases sgR_cases x with⟨a,b⟩ |⟨a,b⟩ |⟨a,b⟩ <;> rcases sgR_cases y with⟨c,d⟩ |⟨c,d⟩ |⟨c,d⟩ <;> rw[b,d]
 ·have:=Re.mul_pos (x:= -x) (y:= -y) (by grind) (by grind)
  exact sgR_pos (by grind)
 ·rw[c,show x*0=0 by grind];exact sgR_zero
 ·have:=Re.mul_pos (x:= -x) (y:=y) (by grind) (by grind)
  exact sgR_neg (by grind)
 ·rw[a,show 0*y=0 by grind];exact sgR_zero
 ·rw[a,show 0*y=0 by grind];exact sgR_zero
 ·rw[a,show 0*y=0 by grind];exact sgR_zero
 ·have:=Re.mul_pos (x:=x) (y:= -y) (by grind) (by grind)
  exact sgR_neg (by grind)
 ·rw[c,show x*0=0 by grind];exact sgR_zero
 ·exact sgR_pos (Re.mul_pos a c)
theorem sgR_in (x y:Re): -9223372036854775808≤sgR x*sgR y∧sgR x*sgR y<9223372036854775808:=by
 rcases sgR_cases x with⟨a,b⟩ |⟨a,b⟩ |⟨a,b⟩ <;> rcases sgR_cases y with⟨c,d⟩ |⟨c,d⟩ |⟨c,d⟩ <;> rw[b,d] <;> decide
section
variable {p q s ρ:Re}
theorem sg_sum (hs:0<s) (h:q=0∨sgR p=sgR q):sgR (p+q*s)=sgR p:=by
 rcases h with h | h
 ·rw[h,show p+0*s=p by grind]
 ·rcases sgR_cases p with⟨a,b⟩ |⟨a,b⟩ |⟨a,b⟩ <;> rcases sgR_cases q with⟨c,d⟩ |⟨c,d⟩ |⟨c,d⟩ <;> rw[b,d] at h <;> try omega
  ·have:=Re.mul_pos (x:= -q) (y:=s) (by grind) hs
   rw[b];exact sgR_neg (by grind)
  ·rw[b,a,c,show (0:Re)+0*s=0 by grind];exact sgR_zero
  ·have:=Re.mul_pos (x:=q) (y:=s) c hs
   rw[b];exact sgR_pos (by grind)
theorem sg_sum0 (hs:0<s) (h:p=0):sgR (p+q*s)=sgR q:=by
 rw[h,show 0+q*s=q*s by grind,sgR_mul,sgR_pos hs,Int.mul_one]
theorem sg_norm (hs:0<s) (hr:s*s=ρ) (hp:p≠0) (hq:q≠0) (h:sgR p≠sgR q):sgR (p+q*s)=sgR p*sgR (p*p-q*q*ρ):=by
 have e:p*p-q*q*ρ=(p-q*s)*(p+q*s):=by rw[←hr];grind
 rw[e,sgR_mul]
 rcases sgR_cases p with⟨a,b⟩ |⟨a,b⟩ |⟨a,b⟩ <;> rcases sgR_cases q with⟨c,d⟩ |⟨c,d⟩ |⟨c,d⟩ <;> rw[b,d] at h <;> first | (exact absurd rfl h) | (exact absurd a hp) | (exact absurd c hq) | skip
 ·have:=Re.mul_pos (x:=q) (y:=s) c hs
  rw[b,sgR_neg (x:=p-q*s) (by grind)];omega
 ·have:=Re.mul_pos (x:= -q) (y:=s) (by grind) hs
  rw[b,sgR_pos (x:=p-q*s) (by grind)];omega
end
theorem sgR_rat (q:Rat):sgR (Re.ofRat q)=sgnQ q:=by
 have h0:(0:Re)=Re.ofRat 0:=rfl
 have hq:sgnQ q=sgnI q.num:=rfl
 rw[hq]
 rcases sgnI_cases q.num with⟨a,b⟩ |⟨a,b⟩ |⟨a,b⟩ <;> rw[b]
 ·exact sgR_neg (by rw[h0,Re.ofRat_lt];rw[Rat.lt_iff];simp;exact a)
 ·rw[Rat.num_eq_zero.1 a];exact sgR_zero
 ·exact sgR_pos (by rw[h0,Re.ofRat_lt];rw[Rat.lt_iff];simp;exact a)
def VV:Nat→Nat→Nat→Nat
 | 0,_,s=>s
 | h+1,R,s=>VV h R (2*s+2*EE h R+R+1)
theorem VV_mono:∀(h R:Nat) {s t:Nat},s≤t→VV h R s≤VV h R t
 | 0,_,_,_,h=>h
 | h+1,R,_,_,hs=>VV_mono h R (by omega)
theorem VV_ge:∀(h R s:Nat),s≤VV h R s
 | 0,_,_=>Nat.le_refl _
 | h+1,R,s=>Nat.le_trans (by omega) (VV_ge h R (2*s+2*EE h R+R+1))
theorem VV_up (h R s:Nat):VV h R s≤VV (h+1) R s:=VV_mono h R (by omega)
theorem VV_le {i h:Nat} (hi:i≤h) (R s:Nat):VV i R s≤VV h R s:=by
 induction h with
 | zero=>rw[Nat.le_zero.1 hi];exact Nat.le_refl _
 | succ h ih=>
  rcases Nat.lt_or_ge i (h+1) with h1 | h1
  ·exact Nat.le_trans (ih (by omega)) (VV_up h R s)
  ·rw[show i=h+1 by omega];exact Nat.le_refl _
def pre (u:List (List Rat)) (i:Nat):List (List Rat):=u.drop (u.length-i)
theorem pre_len {u:List (List Rat)} {i:Nat} (h:i≤u.length):(pre u i).length=i:=by rw[pre,List.length_drop];omega
theorem pre_take {u:List (List Rat)} {i:Nat}:(tw u).take i=tw (pre u i):=by
 rw[tw,tw,pre,←List.map_take,List.reverse_drop]
 by_cases h:i≤u.length
 ·rw[show u.length-(u.length-i)=i by omega]
 ·rw[show u.length-i=0 by omega,Nat.sub_zero,List.take_of_length_le (by rw[List.length_reverse];omega),List.take_of_length_le (by rw[List.length_reverse];omega)]
theorem pre_all (u:List (List Rat)):pre u u.length=u:=by rw[pre,Nat.sub_self,List.drop_zero]
theorem pre_succ {u:List (List Rat)} {i:Nat} (h:i<u.length):∃r,pre u (i+1)=r::pre u i∧(tw u)[i]? =some (rps r):=by
 refine⟨u[u.length-(i+1)]'(by omega),?_,?_⟩
 ·rw[pre,pre,List.drop_eq_getElem_cons (by omega),show u.length-(i+1)+1=u.length-i by omega]
 ·rw[tw,List.getElem?_map,List.getElem?_reverse h,show u.length-1-i=u.length-(i+1) by omega,List.getElem?_eq_getElem (by omega)];rfl
theorem red_drop:∀{u:List (List Rat)} (n:Nat),Red u→Red (u.drop n)
 | u,0,h=>h
 | [],_+1,h=>h
 | _::u,n+1,h=>red_drop n h.1
theorem Twr.pre {R:Nat} {u:List (List Rat)} (h:Twr R u) (i:Nat):Twr R (pre u i):=
 ⟨red_drop _ h.red,fun r hr=>h.tb r (List.mem_of_mem_drop hr),h.hR,by have:=h.ht;rw[Go.Abs.pre,List.length_drop];omega⟩
def QQ:Nat→Nat→Nat→Nat
 | 0,_,s=>s
 | h+1,R,s=>max (QQ h R (3*s+3*EE h R+R+GG h R+3+II h R R)) (s+II h R (2*(3*s+3*EE h R+R+GG h R+3+II h R R+GG h R)+1)+EE h R)
theorem II_mono:∀(h R:Nat) {s t:Nat},s≤t→II h R s≤II h R t
 | 0,_,_,_,h=>by rw[II,II];omega
 | h+1,R,s,t,hs=>by
  have:=II_mono h R (s:=2*s+2*EE h R+R+1) (t:=2*t+2*EE h R+R+1) (by omega)
  rw[II,II];omega
theorem QQ_mono:∀(h R:Nat) {s t:Nat},s≤t→QQ h R s≤QQ h R t
 | 0,_,_,_,h=>h
 | h+1,R,s,t,hs=>by
  have h1:=QQ_mono h R (s:=3*s+3*EE h R+R+GG h R+3+II h R R) (t:=3*t+3*EE h R+R+GG h R+3+II h R R) (by omega)
  have h2:=II_mono h R (s:=2*(3*s+3*EE h R+R+GG h R+3+II h R R+GG h R)+1) (t:=2*(3*t+3*EE h R+R+GG h R+3+II h R R+GG h R)+1) (by omega)
  rw[QQ,QQ];omega
theorem QQ_ge:∀(h R s:Nat),s≤QQ h R s
 | 0,_,_=>Nat.le_refl _
 | h+1,R,s=>by have:=QQ_ge h R (3*s+3*EE h R+R+GG h R+3+II h R R);rw[QQ];omega
theorem QQ_up (h R s:Nat):QQ h R s≤QQ (h+1) R s:=by
 have:=QQ_mono h R (s:=s) (t:=3*s+3*EE h R+R+GG h R+3+II h R R) (by omega)
 rw[QQ];omega
theorem QQ_le {i h:Nat} (hi:i≤h) (R s:Nat):QQ i R s≤QQ h R s:=by
 induction h with
 | zero=>rw[Nat.le_zero.1 hi];exact Nat.le_refl _
 | succ h ih=>
  rcases Nat.lt_or_ge i (h+1) with h1 | h1
  ·exact Nat.le_trans (ih (by omega)) (QQ_up h R s)
  ·rw[show i=h+1 by omega];exact Nat.le_refl _
structure Fit (h R s:Nat):Prop where
 q:QQ h R s≤60000000000000
 v:VV h R (s+GG h R)≤60000000000000
 qR:QQ h R R≤60000000000000
 vR:VV h R R≤60000000000000
theorem Fit.v0 {h R s:Nat} (f:Fit h R s):VV h R s≤60000000000000:=Nat.le_trans (VV_mono h R (by omega)) f.v
theorem Fit.s {h R s:Nat} (f:Fit h R s):s≤60000000000000:=Nat.le_trans (QQ_ge h R s) f.q
theorem Fit.mono {h R s t:Nat} (f:Fit h R s) (ht:t≤s):Fit h R t:=⟨Nat.le_trans (QQ_mono h R ht) f.q,Nat.le_trans (VV_mono h R (by omega)) f.v,f.qR,f.vR⟩
end Go.Abs
namespace Go.Abs
def Emb (u w:List (List Rat)):Prop:=∀x,In u x→In w x
theorem Emb.refl (u:List (List Rat)):Emb u u:=fun _ h=>h
theorem Emb.trans {u v w:List (List Rat)} (h:Emb u v) (k:Emb v w):Emb u w:=fun x hx=>k x (h x hx)
theorem emb_app:∀(v:List (List Rat)) {u:List (List Rat)},Emb u (v++u)
 | [],u=>Emb.refl u
 | _::v,_=>fun x hx=>in_up (emb_app v x hx)
theorem emb_suffix {u w:List (List Rat)} (h:u<:+w):Emb u w:=by
 obtain⟨v,rfl⟩:=h;exact emb_app v
theorem Emb.tail {u w:List (List Rat)} {r:List Rat} (h:Emb (r::u) w):Emb u w:=fun x hx=>h x (in_up hx)
theorem Emb.root {u w:List (List Rat)} {r:List Rat} (h:Emb (r::u) w):In w (rt u r):=h _ (in_rt u r)
theorem emb_cons {u w:List (List Rat)} {r:List Rat} (hw:Red w) (h:Emb u w) (hr:In w (rt u r)):Emb (r::u) w:=fun x hx=>by
 obtain⟨p,q,hp,hq,rfl⟩:=in_cons.1 hx
 exact in_add (h p hp) (in_mul hw (h q hq) hr)
theorem emb_nil (w:List (List Rat)):Emb [] w:=fun x hx=>by
 obtain⟨q,rfl⟩:=in_nil.1 hx;exact in_rat q w
noncomputable def adj (u:List (List Rat)) (v:Re):List (List Rat):=by
 classical
 exact if Sq u v then u else co u v::u
theorem adj_in {u:List (List Rat)} {v:Re} (h:Sq u v):adj u v=u:=by unfold adj;rw[if_pos h]
theorem adj_new {u:List (List Rat)} {v:Re} (h:¬Sq u v):adj u v=co u v::u:=by unfold adj;rw[if_neg h]
theorem adj_suffix (u:List (List Rat)) (v:Re):u<:+adj u v:=by
 by_cases h:Sq u v
 ·rw[adj_in h];exact List.suffix_refl u
 ·rw[adj_new h];exact List.suffix_cons _ _
theorem red_new {u:List (List Rat)} {v:Re} (h:Red u) (hv:In u v) (h0:0<v) (hn:¬Sq u v):Red (co u v::u):=
 ⟨h,co_len hv,by rw[ev_co hv];exact h0,by rw[ev_co hv];exact hn⟩
theorem red_adj {u:List (List Rat)} {v:Re} (h:Red u) (hv:In u v) (h0:0<v):Red (adj u v):=by
 by_cases hs:Sq u v
 ·rw[adj_in hs];exact h
 ·rw[adj_new hs];exact red_new h hv h0 hs
theorem rt_new {u:List (List Rat)} {v:Re} (hv:In u v):rt u (co u v)=Re.sqrt v:=by rw[rt,ev_co hv]
theorem sq_sqrt {u:List (List Rat)} {v:Re} (h0:0≤v):Sq u v↔In u (Re.sqrt v):=by
 constructor
 ·rintro⟨w,hw,e⟩
  have hs:=Re.sqrt_sq h0
  have hn:=Re.sqrt_nn v
  by_cases h:0≤w
  ·rw[←Re.sq_inj h hn (by rw[e,hs])];exact hw
  ·rw[←Re.sq_inj (x:= -w) (by grind) hn (by rw[hs,←e];grind)];exact in_neg hw
 ·intro h;exact⟨_,h,Re.sqrt_sq h0⟩
theorem adj_root {u:List (List Rat)} {v:Re} (hv:In u v) (h0:0≤v):In (adj u v) (Re.sqrt v):=by
 by_cases hs:Sq u v
 ·rw[adj_in hs];exact (sq_sqrt h0).1 hs
 ·rw[adj_new hs,←rt_new hv];exact in_rt u _
noncomputable def ext (t:List (List Rat)):List (List Rat)→List (List Rat)
 | []=>t
 | r::u=>adj (ext t u) (evR u r)
theorem ext_suffix (t:List (List Rat)):∀u,t<:+ext t u
 | []=>List.suffix_refl t
 | r::u=>List.IsSuffix.trans (ext_suffix t u) (adj_suffix _ _)
theorem red_ext {t:List (List Rat)} (ht:Red t):∀{u:List (List Rat)},Red u→Red (ext t u)∧Emb u (ext t u)
 | [],_=>⟨ht,emb_nil _⟩
 | r::u,hu=>by
  obtain⟨h1,h2⟩:=red_ext ht hu.1
  have hv:=h2 _ (in_rad hu)
  have h0:=hu.2.2.1
  have h3:=red_adj h1 hv h0
  exact⟨h3,emb_cons h3 (h2.trans (emb_suffix (adj_suffix _ _))) (adj_root hv (by grind))⟩
open Classical in
noncomputable def joinT (t u:List (List Rat)):List (List Rat):=if u<:+t then t else if t<:+u then u else ext t u
theorem red_join {t u:List (List Rat)} (ht:Red t) (hu:Red u):Red (joinT t u)∧Emb t (joinT t u)∧Emb u (joinT t u):=by
 unfold joinT
 split
 ·rename_i h;exact⟨ht,Emb.refl t,emb_suffix h⟩
 ·split
  ·rename_i h;exact⟨hu,emb_suffix h,Emb.refl u⟩
  ·obtain⟨h1,h2⟩:=red_ext ht hu
   exact⟨h1,emb_suffix (ext_suffix t u),h2⟩
theorem join_self (t:List (List Rat)):joinT t t=t:=by unfold joinT;rw[if_pos (List.suffix_refl t)]
theorem em_pad:∀(v:List (List Rat)) {u:List (List Rat)} {x:Re},Red (v++u)→In u x→em (v++u) x=em u x++List.replicate (2^(v++u).length-2^u.length) (rp 0)
 | [],u,x,h,hx=>by simp
 | r::v,u,x,h,hx=>by
  have hx':=emb_app v x hx
  have ih:=em_pad v h.1 hx
  have h1:2^u.length≤2^(v++u).length:=pow_le2 (by simp)
  have e:em (r::v++u) x=em (v++u) x++em (v++u) 0:=em_app h hx' (in_zero _) (by grind)
  have hz:em (v++u) 0=rps (List.replicate (2^(v++u).length) 0):=em_zero h.1
  rw[e,ih,hz,rps,List.map_replicate,List.append_assoc,List.replicate_append_replicate]
  have h2:2^(r::v++u).length=2^(v++u).length+2^(v++u).length:=pow_len r (v++u)
  have e3:∀a b:Nat,b≤a→a-b+a=a+a-b:=fun a b h=>by omega
  rw[h2,←e3 _ _ h1]
theorem em_suffix {u w:List (List Rat)} {x:Re} (h:u<:+w) (hw:Red w) (hx:In u x):em w x=em u x++List.replicate (2^w.length-2^u.length) (rp 0):=by
 obtain⟨v,rfl⟩:=h;exact em_pad v hw hx
theorem red_suffix {u w:List (List Rat)} (h:u<:+w) (hw:Red w):Red u:=by
 obtain⟨v,rfl⟩:=h
 induction v with
 | nil=>exact hw
 | cons r v ih=>exact ih hw.1
structure Gam (T:List (List Rat)→Prop) (R C S:Nat):Prop where
 twr:∀{u},T u→Twr R u
 ht:∀{u},T u→u.length≤8
 nil:T []
 sub:∀{r u},T (r::u)→T u
 adj:∀{t r u},T t→T (r::u)→Emb u t→T (adj t (evR u r))
 emb:∀{u w s x},T u→T w→Emb u w→El u s x→El w (s+C) x
 fit:∀{u},T u→Fit u.length R (S+C)
 mul:∀{u},T u→2*(S+C)+EE u.length R≤60000000000000
 RS:R≤S
section
variable {T:List (List Rat)→Prop} {R C S:Nat}
theorem Gam.suf (G:Gam T R C S) {u w:List (List Rat)} (h:u<:+w) (hw:T w):T u:=by
 obtain⟨v,rfl⟩:=h
 induction v with
 | nil=>exact hw
 | cons r v ih=>exact ih (G.sub hw)
theorem Gam.ext (G:Gam T R C S) {t:List (List Rat)} (ht:T t):∀{u:List (List Rat)},T u→T (ext t u)
 | [],_=>ht
 | r::u,hu=>G.adj (G.ext ht (G.sub hu)) hu (red_ext (G.twr ht).red (G.twr (G.sub hu)).red).2
theorem Gam.join (G:Gam T R C S) {t u:List (List Rat)} (ht:T t) (hu:T u):T (joinT t u):=by
 unfold joinT
 split
 ·exact ht
 ·split
  ·exact hu
  ·exact G.ext ht hu
end
theorem el_root {u:List (List Rat)} {r:List Rat} (h:Red (r::u)):El (r::u) 0 (rt u r):=by
 have h0:El u 0 0:=El.rat h.1 bd_int0
 have h1:El u 0 1:=El.rat h.1 bd_int1
 have:=bd_hi h h0.mem h1.mem h0.bd h1.bd
 rw[show (0:Re)+1*rt u r=rt u r by grind] at this
 exact⟨in_rt u r,this⟩
end Go.Abs
