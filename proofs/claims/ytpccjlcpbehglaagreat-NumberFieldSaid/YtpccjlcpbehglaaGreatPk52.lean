/- Part 53 of a proof. Conditions: each theorem's own. -/
import Derived.Test.YtpccjlcpbehglaaGreatPk51
set_option linter.all false
set_option maxHeartbeats 8000000
open Go.Proofs
namespace Go.Abs
def qn (k:Nat):Re:=Re.ofRat ((k:Nat):Rat)
noncomputable def rtN (k:Nat):Nu:=(adj [] (qn k),Re.sqrt (qn k))
noncomputable def intN (k:Nat):Nu:=([],qn k)
theorem red_nil:Red []:=trivial
theorem in_qn (k:Nat) (u:List (List Rat)):In u (qn k):=in_rat _ u
theorem qn_nn (k:Nat):0≤qn k:=by
 have:Re.ofRat 0≤Re.ofRat ((k:Nat):Rat):=Re.ofRat_le.2 Rat.natCast_nonneg
 exact this
theorem shq_nat {k:Nat} (h:k<18446744073709551616):ShQ ((k:Nat):Rat):=by
 refine⟨?_,?_⟩
 ·rw[show ((k:Nat):Rat).num=(k:Int) from rfl,Int.natAbs_natCast];exact h
 ·rw[show ((k:Nat):Rat).den=1 from rfl];decide
theorem shq_small {n:Int} (h:n.natAbs<18446744073709551616):ShQ ((n:Int):Rat):=⟨h,by rw[show ((n:Int):Rat).den=1 from rfl];decide⟩
theorem intN_ok {k:Nat} (h:k<18446744073709551616):NOk [] (intN k):=
 ⟨trivial,in_qn k [],fun v hv=>by simp[intN,vals] at hv,fun s hs=>by simp[intN] at hs,fun q hq=>by
  have hq:q∈co [] (qn k):=hq
  rw[qn,co_nil] at hq
  rw[List.mem_singleton.1 hq];exact shq_nat h⟩
theorem rtN_ok {k:Nat} (h:k<18446744073709551616):NOk [qn k] (rtN k):=by
 have h0:=qn_nn k
 refine⟨red_adj0 red_nil (in_qn k []) h0,adj_root (in_qn k []) h0,fun v hv=>?_,fun s hs q hq=>?_,fun q hq=>?_⟩
 ·rcases vals_adj (in_qn k []) v hv with rfl | hv
  ·exact List.mem_singleton.2 rfl
  ·simp[vals] at hv
 ·have hs:s∈adj [] (qn k):=hs
  by_cases hsq:Sq [] (qn k)
  ·rw[adj_in hsq] at hs;simp at hs
  ·rw[adj_new hsq] at hs
   rw[List.mem_singleton.1 hs,qn,co_nil] at hq
   rw[List.mem_singleton.1 hq];exact shq_nat h
 ·have hq:q∈co (adj [] (qn k)) (Re.sqrt (qn k)):=hq
  by_cases hsq:Sq [] (qn k)
  ·rw[adj_in hsq] at hq
   obtain⟨r,hr⟩:=in_nil.1 ((sq_sqrt h0).1 hsq)
   rw[hr,co_nil] at hq
   rw[List.mem_singleton.1 hq]
   have hrr:r*r=((k:Int):Rat):=by
    have:=Re.sqrt_sq h0
    rw[hr,←Re.ofRat_mul] at this
    exact Re.ofRat_inj.1 this
   obtain⟨m,hm⟩:=int_sqrt hrr
   rw[hm]
   refine shq_small ?_
   rw[hm,←Rat.intCast_mul] at hrr
   have h2:m*m=(k:Int):=Rat.intCast_inj.1 hrr
   have h3:m.natAbs*m.natAbs=k:=by
    have:=congrArg Int.natAbs h2
    rwa [Int.natAbs_mul,Int.natAbs_natCast] at this
   have h4:m.natAbs≤m.natAbs*m.natAbs:=by
    rcases Nat.eq_zero_or_pos m.natAbs with e | e
    ·omega
    ·exact Nat.le_mul_of_pos_left _ e
   omega
  ·have hred:=red_new red_nil (in_qn k []) (by
    have:qn k≠0:=fun e=>hsq ⟨0,in_zero [],by rw[e];grind⟩
    grind) hsq
   rw[adj_new hsq,←rt_new (in_qn k [])] at hq
   rw[co_cons hred (in_zero []) (in_one []) (show rt [] (co [] (qn k))=0+1*rt [] (co [] (qn k)) by grind)] at hq
   have e0:co [] (0:Re)=[0]:=co_nil 0
   have e1:co [] (1:Re)=[1]:=co_nil 1
   rw[e0,e1] at hq
   rcases List.mem_cons.1 hq with rfl | hq
   ·exact shq_nat (k:=0) (by decide)
   ·rw[List.mem_singleton.1 hq];exact shq_nat (k:=1) (by decide)
theorem join2_nil (u:List (List Rat)):join2 [] u=u:=by
 show joinT (joinT [] []) u=u
 rw[join_self]
 unfold joinT
 split
 ·rename_i h;exact (List.suffix_nil.1 h).symm
 ·rw[if_pos (List.nil_suffix)]
theorem not_sq {k m:Nat} (h1:m*m<k) (h2:k<(m+1)*(m+1)):¬Sq [] (qn k):=by
 rw[qn,sq_nil]
 rintro⟨r,_,hr⟩
 have hr:r*r=((k:Int):Rat):=hr
 obtain⟨n,hn⟩:=int_sqrt hr
 rw[hn,←Rat.intCast_mul] at hr
 have h3:n*n=(k:Int):=Rat.intCast_inj.1 hr
 have h4:n.natAbs*n.natAbs=k:=by
  have:=congrArg Int.natAbs h3
  rwa [Int.natAbs_mul,Int.natAbs_natCast] at this
 rw[←h4] at h1 h2
 have h5:=Nat.mul_self_lt_mul_self_iff.1 h1
 have h6:=Nat.mul_self_lt_mul_self_iff.1 h2
 omega
theorem rt_mul {a b:Re} (ha:0≤a) (hb:0≤b):Re.sqrt a*Re.sqrt b=Re.sqrt (a*b):=by
 have h1:=Re.sqrt_sq ha
 have h2:=Re.sqrt_sq hb
 have h3:=Re.sqrt_sq (Re.mul_nn ha hb)
 refine Re.sq_inj (Re.mul_nn (Re.sqrt_nn a) (Re.sqrt_nn b)) (Re.sqrt_nn _) ?_
 rw[h3];grind
theorem qn_mul (a b:Nat):qn (a*b)=qn a*qn b:=by
 rw[qn,cast_mul,Re.ofRat_mul];rfl
theorem qn_add (a b:Nat):qn (a+b)=qn a+qn b:=by
 rw[qn,Rat.natCast_add,Re.ofRat_add];rfl
theorem sqrt_sq (k:Nat):Re.sqrt (qn (k*k))=qn k:=by
 refine Re.sq_inj (Re.sqrt_nn _) (qn_nn k) ?_
 rw[Re.sqrt_sq (qn_nn _),qn_mul]
theorem sqrt_qn (a b:Nat):Re.sqrt (qn (a*b))=Re.sqrt (qn a)*Re.sqrt (qn b):=by
 rw[rt_mul (qn_nn a) (qn_nn b),qn_mul]
noncomputable def fiveR:Re:=qn 5+qn 2*Re.sqrt (qn 6)
theorem u6:adj [] (qn 6)=[[6]]:=by
 rw[adj_new (not_sq (k:=6) (m:=2) (by decide) (by decide)),qn,co_nil];rfl
theorem red6:Red [[6]]:=by rw[←u6];exact (rtN_ok (k:=6) (by decide)).red
theorem rt6:rt [] [6]=Re.sqrt (qn 6):=by
 have:=rt_new (u:=[]) (v:=qn 6) (in_qn 6 [])
 rw[qn,co_nil] at this
 exact this
theorem in5:In [[6]] fiveR:=in_cons.2 ⟨qn 5,qn 2,in_qn 5 [],in_qn 2 [],by rw[rt6];rfl⟩
theorem co5:co [[6]] fiveR=[5,2]:=by
 rw[co_cons red6 (in_qn 5 []) (in_qn 2 []) (show fiveR=qn 5+qn 2*rt [] [6] by rw[rt6];rfl),qn,qn,co_nil,co_nil];rfl
theorem five_nn:0≤fiveR:=by
 have h1:=qn_nn 5
 have h2:=Re.mul_nn (qn_nn 2) (Re.sqrt_nn (qn 6))
 unfold fiveR;grind
theorem n5_ok:NOk [qn 6] ([[6]],fiveR):=by
 have h6:=rtN_ok (k:=6) (by decide)
 refine⟨red6,in5,?_,?_,fun q hq=>?_⟩
 ·have:=h6.vals;rw[rtN,u6] at this;exact this
 ·have:=h6.rads;rw[rtN,u6] at this;exact this
 ·have hq:q∈co [[6]] fiveR:=hq
  rw[co5] at hq
  rcases List.mem_cons.1 hq with rfl | hq
  ·exact shq_nat (k:=5) (by decide)
  ·rw[List.mem_singleton.1 hq];exact shq_nat (k:=2) (by decide)
theorem nested_eq:Re.sqrt fiveR=Re.sqrt (qn 2)+Re.sqrt (qn 3):=by
 have h2:=Re.sqrt_sq (qn_nn 2)
 have h3:=Re.sqrt_sq (qn_nn 3)
 have n2:=Re.sqrt_nn (qn 2)
 have n3:=Re.sqrt_nn (qn 3)
 refine Re.sq_inj (Re.sqrt_nn _) (by grind) ?_
 rw[Re.sqrt_sq five_nn,fiveR,show (6:Nat)=2*3 from rfl,sqrt_qn 2 3]
 have e5:qn 5=qn 2+qn 3:=qn_add 2 3
 have e2:qn 2=2:=rfl
 grind
def PA (u:List (List Rat)):Prop:=u<:+adj [[6]] fiveR∨u<:+adj [] (qn 2)∨u<:+adj [] (qn 3)
theorem PA.ini:Ini PA 256:=by
 have r1:=red_adj0 red6 in5 five_nn
 have r2:=(rtN_ok (k:=2) (by decide)).red
 have r3:=(rtN_ok (k:=3) (by decide)).red
 have t2:TB 256 (adj [] (qn 2)):=by
  intro r hr
  refine (bd_short ((rtN_ok (k:=2) (by decide)).rads r hr)).mono ?_
  have:=rad_len r2 hr
  have h:=(rtN_ok (k:=2) (by decide)).len
  have:2^(rtN 2).1.length≤2^1:=pow_le2 h
  have:(2:Nat)^1=2:=rfl
  have e:(rtN 2).1=adj [] (qn 2):=rfl
  rw[e] at*
  omega
 have t3:TB 256 (adj [] (qn 3)):=by
  intro r hr
  refine (bd_short ((rtN_ok (k:=3) (by decide)).rads r hr)).mono ?_
  have:=rad_len r3 hr
  have h:=(rtN_ok (k:=3) (by decide)).len
  have:2^(rtN 3).1.length≤2^1:=pow_le2 h
  have:(2:Nat)^1=2:=rfl
  have e:(rtN 3).1=adj [] (qn 3):=rfl
  rw[e] at*
  omega
 have s6:∀q∈([6]:List Rat),ShQ q:=fun q hq=>by rw[List.mem_singleton.1 hq];exact shq_nat (k:=6) (by decide)
 have t1:TB 256 (adj [[6]] fiveR):=by
  by_cases hs:Sq [[6]] fiveR
  ·rw[adj_in hs]
   intro r hr
   rw[List.mem_singleton.1 hr];exact (bd_short s6).mono (by decide)
  ·rw[adj_new hs]
   intro r hr
   rcases List.mem_cons.1 hr with rfl | hr
   ·exact (bd_short n5_ok.cos).mono (by show 64*(co [[6]] fiveR).length≤256;rw[co5];decide)
   ·rw[List.mem_singleton.1 hr];exact (bd_short s6).mono (by decide)
 refine⟨fun {u} h=>?_,fun {u} h=>?_,fun {r u} h=>?_⟩
 ·rcases h with h | h | h
  ·exact red_suffix h r1
  ·exact red_suffix h r2
  ·exact red_suffix h r3
 ·rcases h with h | h | h
  ·exact fun r hr=>t1 r (h.subset hr)
  ·exact fun r hr=>t2 r (h.subset hr)
  ·exact fun r hr=>t3 r (h.subset hr)
 ·rcases h with h | h | h
  ·exact .inl ((List.suffix_cons r u).trans h)
  ·exact .inr (.inl ((List.suffix_cons r u).trans h))
  ·exact .inr (.inr ((List.suffix_cons r u).trans h))
theorem PA.vals {u:List (List Rat)} (h:PA u):∀v∈vals u,v∈[fiveR,qn 6,qn 2,qn 3]:=by
 intro v hv
 rcases h with h | h | h
 ·rcases vals_adj in5 v (vals_suffix h v hv) with rfl | hv
  ·simp
  ·have:=n5_ok.vals v hv
   rw[List.mem_singleton.1 this];simp
 ·have:=(rtN_ok (k:=2) (by decide)).vals v (vals_suffix h v hv)
  rw[List.mem_singleton.1 this];simp
 ·have:=(rtN_ok (k:=3) (by decide)).vals v (vals_suffix h v hv)
  rw[List.mem_singleton.1 this];simp
theorem in_half {u:List (List Rat)} {x y:Re} {k:Nat} (h:Red u) (hk:k≠0) (hx:In u x) (e:x=qn k*y):In u y:=by
 obtain⟨i,hi,e2⟩:=in_inv h (in_qn k u) (fun e=>hk (by
  have:Re.ofRat ((k:Nat):Rat)=Re.ofRat ((0:Nat):Rat):=e
  exact Rat.natCast_inj.1 (Re.ofRat_inj.1 this)))
 have:y=x*i:=by grind
 rw[this];exact in_mul h hx hi
theorem three_of {u:List (List Rat)} (h:Red u) (a:In u (Re.sqrt (qn 2))∨In u (Re.sqrt (qn 3))∧In u (Re.sqrt (qn 6))) (b:In u (Re.sqrt (qn 3))∨In u (Re.sqrt (qn 2))∧In u (Re.sqrt (qn 6))):
  In u (Re.sqrt (qn 2))∧In u (Re.sqrt (qn 3))∧In u (Re.sqrt (qn 6))∧In u (Re.sqrt fiveR):=by
 have h2:=Re.sqrt_sq (qn_nn 2)
 have h3:=Re.sqrt_sq (qn_nn 3)
 have h6:Re.sqrt (qn 6)=Re.sqrt (qn 2)*Re.sqrt (qn 3):=sqrt_qn 2 3
 have k2:In u (Re.sqrt (qn 2)):=a.elim id fun⟨x,y⟩=>in_half h (k:=3) (by decide) (in_mul h x y) (by rw[h6];grind)
 have k3:In u (Re.sqrt (qn 3)):=b.elim id fun⟨x,y⟩=>in_half h (k:=2) (by decide) (in_mul h x y) (by rw[h6];grind)
 exact⟨k2,k3,by rw[h6];exact in_mul h k2 k3,by rw[nested_eq];exact in_add k2 k3⟩
theorem nodup_all {α:Type} {l m:List α} (h:l.Nodup) (hl:∀x∈l,x∈m) (hm:m.length≤l.length):∀x∈m,x∈l:=by
 intro x hx
 apply Classical.byContradiction
 intro hn
 obtain⟨a,b,rfl⟩:=List.append_of_mem hx
 have:=nodup_le (l:=l) (m:=a++b) h (fun y hy=>by
  rcases List.mem_append.1 (hl y hy) with h2 | h2
  ·exact List.mem_append_left _ h2
  ·rcases List.mem_cons.1 h2 with rfl | h2
   ·exact absurd hy hn
   ·exact List.mem_append_right _ h2)
 rw[List.length_append,List.length_cons] at hm
 rw[List.length_append] at this
 omega
theorem PA.len {u:List (List Rat)} (h:Tf PA u):u.length≤3:=by
 have hred:=h.red PA.ini
 have hv:=h.vals PA.ini (fun h=>PA.vals h)
 have hnd:=vals_nodup hred
 have h4:=nodup_le hnd hv
 rw[vals_len] at h4
 apply Classical.byContradiction
 intro hn
 have hall:=nodup_all hnd hv (by rw[vals_len];show 4≤u.length;omega)
 match u,hred,hv,hall,hn with
 | [],_,_,_,hn=>simp at hn
 | r::u,hred,hv,hall,hn=>
  have hs:¬In u (Re.sqrt (evR u r)):=fun hi=>hred.2.2.2 ⟨_,hi,Re.sqrt_sq (by have:=hred.2.2.1;grind)⟩
  have key:∀v∈[fiveR,qn 6,qn 2,qn 3],v≠evR u r→In u (Re.sqrt v):=fun v hv' hne=>by
   rcases List.mem_cons.1 (hall v hv') with e | e
   ·exact absurd e hne
   ·exact vals_root e
  have hr:=hv (evR u r) List.mem_cons_self
  have ne:∀{a b:Nat},a≠b→qn a≠qn b:=fun {a b} hab e=>hab (Rat.natCast_inj.1 (Re.ofRat_inj.1 e))
  by_cases e2:evR u r=qn 2
  ·have a:=key (qn 3) (by simp) (by rw[e2];exact ne (by decide))
   have b:=key (qn 6) (by simp) (by rw[e2];exact ne (by decide))
   exact hs (by rw[e2];exact (three_of hred.1 (.inr ⟨a,b⟩) (.inl a)).1)
  ·have k2:=key (qn 2) (by simp) (Ne.symm e2)
   by_cases e3:evR u r=qn 3
   ·have b:=key (qn 6) (by simp) (by rw[e3];exact ne (by decide))
    exact hs (by rw[e3];exact (three_of hred.1 (.inl k2) (.inr ⟨k2,b⟩)).2.1)
   ·have k3:=key (qn 3) (by simp) (Ne.symm e3)
    have t:=three_of hred.1 (.inl k2) (.inl k3)
    simp only[List.mem_cons,List.not_mem_nil,or_false] at hr
    rcases hr with e | e | e | e
    ·exact hs (by rw[e];exact t.2.2.2)
    ·exact hs (by rw[e];exact t.2.2.1)
    ·exact e2 e
    ·exact e3 e
theorem PA.gam {S:Nat} (h1:Rm≤S) (h2:S≤Sm):GamY (Tf PA) Rm Cm S:=gam_m PA.ini (fun h=>PA.len h) h1 h2
end Go.Abs
namespace Go.Abs
open Go.RowKit
variable {A:LR} {S k:Nat} {b1 b2:Bool} {l1 l2:List UInt32} {q:Rat} {u:List (List Rat)}
theorem shq_smallQ (h:ShQ q):SmallQ q:=⟨by have:=limbs2.2 h.1;omega,by have:=limbs2.2 h.2;omega⟩
theorem em_ratL (h:Red u):em u (Re.ofRat q)=rps (q::List.replicate (2^u.length-1) 0):=by rw[em,co_rat q h]
theorem cmpQ_self (p:Rat):0=cmpQ p p:=(beq_iff_eq.1 ((cmpQ_zero p p).symm.trans (decide_eq_true rfl))).symm
theorem el_adj {V:List Re} {n:Nu} (h:NOk V n) (hV:V.length≤3) (h0:0≤n.2):El (adj n.1 n.2) Rm (Re.sqrt n.2):=by
 have hl:=Nat.le_trans h.len hV
 have ht:Twr 256 n.1:=⟨h.red,h.tb hV,by decide,by omega⟩
 have hg:GG n.1.length 256≤GG 3 256:=GG_mono2 hl (Nat.le_refl _)
 have hg2:GG 3 256≤100000:=by decide +kernel
 by_cases hs:Sq n.1 n.2
 ·rw[adj_in hs]
  exact ((h.el hV).sqrt ht ((sq_sqrt h0).1 hs) (Re.sqrt_sq h0)).mono (by show _≤802678;omega)
 ·have hne:n.2≠0:=fun e=>hs ⟨0,in_zero _,by rw[e];grind⟩
  have hr:=red_new h.red h.mem (by grind) hs
  rw[adj_new hs,←rt_new h.mem]
  exact (el_root hr).mono (Nat.zero_le _)
theorem fam2 {a b:Nat} (ha:a<18446744073709551616) (hb:b<18446744073709551616) (h1:Rm≤S) (h2:S≤Sm):GamY (Tf (PN [rtN a,rtN b])) Rm Cm S∧Tf (PN [rtN a,rtN b]) (rtN a).1∧Tf (PN [rtN a,rtN b]) (rtN b).1:=by
 have hn:∀n∈[rtN a,rtN b],NOk [qn a,qn b] n:=fun n hn=>by
  simp only[List.mem_cons,List.not_mem_nil,or_false] at hn
  rcases hn with rfl | rfl
  ·exact (rtN_ok ha).mono (fun v hv=>by rw[List.mem_singleton.1 hv];simp)
  ·exact (rtN_ok hb).mono (fun v hv=>by rw[List.mem_singleton.1 hv];simp)
 exact⟨fam_of (V:=[qn a,qn b]) (show 2≤3 by decide) hn h1 h2,fam_mem (V:=[qn a,qn b]) (show 2≤3 by decide) hn (by simp),fam_mem (V:=[qn a,qn b]) (show 2≤3 by decide) hn (by simp)⟩
theorem fam6 (h1:Rm≤S) (h2:S≤Sm):GamY (Tf (PN [([[6]],fiveR)])) Rm Cm S∧Tf (PN [([[6]],fiveR)]) [[6]]:=by
 have hn:∀n∈[(([[6]],fiveR):Nu)],NOk [qn 6] n:=fun n hn=>by rw[List.mem_singleton.1 hn];exact n5_ok
 exact⟨fam_of (V:=[qn 6]) (by decide) hn h1 h2,fam_mem (V:=[qn 6]) (by decide) hn (List.mem_singleton.2 rfl)⟩
theorem el_qn (hk:k<18446744073709551616):El [] Rm (qn k):=((intN_ok hk).el (by decide)).mono (by decide)
theorem el_rt (hk:k<18446744073709551616):El (rtN k).1 Rm (Re.sqrt (qn k)):=((rtN_ok hk).el (show 1≤3 by decide)).mono (by decide)
theorem el_rt6:El [[6]] 512 (Re.sqrt (qn 6)):=by
 have:=(rtN_ok (k:=6) (by decide)).el (by decide)
 rw[rtN,u6] at this;exact this
theorem el_six:El [[6]] Rm (qn 2*Re.sqrt (qn 6)):=by
 have ht:Twr 256 [[6]]:=⟨red6,n5_ok.tb (by decide),by decide,by decide⟩
 have h2:El [[6]] 512 (qn 2):=by
  refine (El.rat red6 (bd_short (a:=[((2:Nat):Rat)]) (fun q hq=>by rw[List.mem_singleton.1 hq];exact shq_nat (by decide)))).mono (by decide)
 exact (h2.mul ht el_rt6).mono (by decide +kernel)
theorem qn_ne (h:k≠0):qn k≠0:=fun e=>h (Rat.natCast_inj.1 (Re.ofRat_inj.1 (show Re.ofRat ((k:Nat):Rat)=Re.ofRat ((0:Nat):Rat) from e)))
theorem rt_ne0 (h:k≠0):Re.sqrt (qn k)≠0:=fun e=>qn_ne h (by have:=Re.sqrt_sq (qn_nn k);rw[e] at this;rw[←this];grind)
theorem half_eq:Re.sqrt (qn 2)*invR (Re.sqrt (qn 8))=Re.ofRat (1/2):=by
 have h8:Re.sqrt (qn 8)=qn 2*Re.sqrt (qn 2):=by rw[show (8:Nat)=2*2*2 from rfl,sqrt_qn (2*2) 2,sqrt_sq]
 have hi:=invR_spec (rt_ne0 (k:=8) (by decide))
 generalize invR (Re.sqrt (qn 8))=i at*
 rw[h8] at hi
 have e:Re.ofRat (1/2)*qn 2=1:=by
  rw[qn,←Re.ofRat_mul,show (1/2:Rat)*((2:Nat):Rat)=1 by decide +kernel];rfl
 have e2:Re.ofRat (1/2)*(qn 2*Re.sqrt (qn 2)*i)=Re.sqrt (qn 2)*i:=by
  have:Re.ofRat (1/2)*(qn 2*Re.sqrt (qn 2)*i)=(Re.ofRat (1/2)*qn 2)*(Re.sqrt (qn 2)*i):=by grind
  rw[this,e];grind
 rw[←e2,hi];grind
theorem lt_of_sq_lt {x y:Re} (hx:0≤x) (hy:0≤y) (h:x*x<y*y):x<y:=by
 apply Classical.byContradiction
 intro hn
 have h1:0≤x-y:=by grind
 have:=Re.mul_nn h1 (show 0≤x+y by grind)
 grind
theorem golden_lo:sgR (qn 1+Re.sqrt (qn 5)-Re.ofRat (3236/1000))=1:=by
 have h5:=Re.sqrt_sq (qn_nn 5)
 have hp:(0:Re)≤Re.ofRat (2236/1000):=by have:Re.ofRat 0≤Re.ofRat (2236/1000):=Re.ofRat_le.2 (by decide +kernel);exact this
 have h:Re.ofRat (2236/1000)<Re.sqrt (qn 5):=by
  refine lt_of_sq_lt hp (Re.sqrt_nn _) ?_
  rw[h5,←Re.ofRat_mul,qn];exact Re.ofRat_lt.2 (by decide +kernel)
 have e:Re.ofRat (3236/1000)=Re.ofRat (2236/1000)+qn 1:=by rw[qn,←Re.ofRat_add];exact congrArg _ (by decide +kernel)
 refine sgR_pos ?_
 rw[e];grind
theorem golden_hi:sgR (qn 1+Re.sqrt (qn 5)-Re.ofRat (3238/1000))= -1:=by
 have h5:=Re.sqrt_sq (qn_nn 5)
 have hp:(0:Re)≤Re.ofRat (2238/1000):=by have:Re.ofRat 0≤Re.ofRat (2238/1000):=Re.ofRat_le.2 (by decide +kernel);exact this
 have h:Re.sqrt (qn 5)<Re.ofRat (2238/1000):=by
  refine lt_of_sq_lt (Re.sqrt_nn _) hp ?_
  rw[h5,←Re.ofRat_mul,qn];exact Re.ofRat_lt.2 (by decide +kernel)
 have e:Re.ofRat (3238/1000)=Re.ofRat (2238/1000)+qn 1:=by rw[qn,←Re.ofRat_add];exact congrArg _ (by decide +kernel)
 refine sgR_neg ?_
 rw[e];grind
theorem last_el:El (join2 (rtN 2).1 (rtN 3).1) 8589934592 (Re.sqrt (qn 2)+Re.sqrt (qn 3))∧Tf PA (join2 (rtN 2).1 (rtN 3).1):=by
 have G:=(PA.gam (Nat.le_refl Rm) (by decide)).toGam
 have t2:Tf PA (rtN 2).1:=Tf.of PA.ini (.inr (.inl (List.suffix_refl _)))
 have t3:Tf PA (rtN 3).1:=Tf.of PA.ini (.inr (.inr (List.suffix_refl _)))
 obtain⟨h1,h2,h3⟩:=G.join2 t2 t3
 have e2:=G.emb t2 h1 h2 (el_rt (k:=2) (by decide))
 have e3:=G.emb t3 h1 h3 (el_rt (k:=3) (by decide))
 exact⟨(e2.add (G.twr h1).red e3).mono (by decide),h1⟩
theorem TRational_ok (h:Red u) (hA:A=em u (Re.ofRat q)) (hq:IsR q b1 l1 b2 l2):CF 120 [.one (.sl tRat A)] (.tup [(true,[.bool b1,.sl .u32 l1,.bool b2,.sl .u32 l2]),(false,[.bool true])]):=by
 rw[em_ratL h] at hA
 have hAl:A.length=1+(2^u.length-1):=by rw[hA];simp;omega
 have hA0:A[0]? =some ((b1,l1),(b2,l2)):=by rw[hA,←hq.rp];rfl
 refine acall_fn Tryz.func120 (by kernel_rfl) rfl fun E hE=>?_
 conv=>cbv
 intro n5 h5;have e5:=h5.eq;have f5:=h5.le;conv=>cbv
 intro n6 h6;conv=>cbv
 cases n6 <;> conv=>cbv
 ·have k6:=eql_f h6
  intro m9 hm9;conv=>cbv
  refine⟨fun _=>⟨by omega,by omega⟩,?_⟩
  rintro a9 b9 ⟨ha9,hb9⟩;conv=>cbv
  intro l9 hl9;conv=>cbv
  refine cL (r:= .one (.bool true)) hE (Zero_ok (X:=l9) (xs:=List.replicate (2^u.length-1) 0) (by rw[hl9,ha9,List.take_of_length_le (by omega),hA];rfl) (decide_eq_true (fun q hq=>List.eq_of_mem_replicate hq)).symm) ⟨rfl,trivial⟩ ?_
  try conv=>cbv
  intro n11 h11;(have h11:=h11.trans (show _=false from rfl));subst h11;conv=>cbv
  obtain⟨x15,hx15⟩:=get_ex (l:=A) (i:=0) (by omega)
  refine⟨x15,fun _=>⟨by omega,hx15⟩,?_⟩
  try conv=>cbv
  have e15:=Option.some.inj (hx15.symm.trans hA0)
  exact fA ⟨⟨rfl,congrArg _ (by rw[e15]),congrArg _ (by rw[e15]),congrArg _ (by rw[e15]),congrArg _ (by rw[e15]),trivial⟩,⟨rfl,rfl,trivial⟩,trivial⟩ rfl (by simp)
 ·have k6:=eql_t h6
  exact absurd k6 (by omega)
theorem NRational_ok {T1:List LR} (h:Red u) (hA:A=em u (Re.ofRat q)) (hq:IsR q b1 l1 b2 l2) (hs:SmallQ q):CF 60 [.agg [.sl (.sl tRat) T1,.sl tRat A]] (.tup [(true,[.bool b1,.sl .u32 l1,.bool b2,.sl .u32 l2]),(false,[.bool true])]):=by
 refine acall_fn Tryz.func60 (by kernel_rfl) rfl fun E hE=>?_
 conv=>cbv
 refine cA hE (TRational_ok h hA hq) ?_
 try conv=>cbv
 refine cA hE (copyRat_ok hq hs) ?_
 try conv=>cbv
 exact fA ⟨⟨rfl,rfl,rfl,rfl,rfl,trivial⟩,⟨rfl,rfl,trivial⟩,trivial⟩ rfl (by simp)
theorem lroot_ok {x:Int} {T:List LR} (hk:x=(k:Int)) (hk2:k<4294967296) (hT:T=tw (rtN k).1) (hA:A=em (rtN k).1 (rtN k).2):CF 59 [.one (.int .i64 x)] (.agg [.sl (.sl tRat) T,.sl tRat A]):=by
 have hok:=intN_ok (k:=k) (by omega)
 obtain⟨hG,hg1,hg2⟩:=root_fam hok (by decide) (qn_nn k) (Nat.le_refl Rm) (by decide)
 have hsm:SmallQ ((x:Int):Rat):=shq_smallQ (by rw[hk];exact shq_nat (k:=k) (by omega))
 refine acall_fn Tryz.func59 (by kernel_rfl) rfl fun E hE=>?_
 conv=>cbv
 obtain⟨w7,hw7⟩:=pre_r (em [] (qn k))
 refine cL (r:= .agg [.sl (.sl tRat) (([]:List LR)),.sl tRat w7]) hE (NFromInt (by omega) hsm (by rw[hw7,hk];rfl)) ⟨rfl,trivial⟩ ?_
 try conv=>cbv
 refine cL hE (NSqrt hG.toGam hg1 rfl hw7 (el_qn (by omega)) hg2 (qn_nn k) hT hA ((rtN_ok (k:=k) (by omega)).el (show 1≤3 by decide)) (by decide)) ⟨⟨rfl,rfl,trivial⟩,trivial⟩ ?_
 try conv=>cbv
 exact fA ⟨⟨rfl,rfl,rfl,trivial⟩,trivial⟩ rfl (by simp)
abbrev Sa:Nat:=8589934592
abbrev Sb:Nat:=34359738368
theorem el_gold:El (rtN 5).1 Sa (qn 1+Re.sqrt (qn 5)):=by
 have G:=(fam2 (a:=5) (b:=5) (by decide) (by decide) (Nat.le_refl Rm) (by decide))
 have h1:El (rtN 5).1 Rm (qn 1):=by
  refine (El.rat (rtN_ok (k:=5) (by decide)).red (bd_short (a:=[((1:Nat):Rat)]) (fun q hq=>by rw[List.mem_singleton.1 hq];exact shq_nat (by decide)))).mono (by decide)
 exact (h1.add (rtN_ok (k:=5) (by decide)).red (el_rt (by decide))).mono (by decide)
theorem el_q (h:ShQ q) (hS:64≤S:=by decide):El [] S (Re.ofRat q):=(El.rat red_nil (bd_short (a:=[q]) (fun p hp=>by rw[List.mem_singleton.1 hp];exact h))).mono hS
instance (q:Rat):Decidable (ShQ q):=inferInstanceAs (Decidable (_∧_))
theorem awake_ok:CF 16 [] (.one (.bool true)):=by
 refine acall_fn Tryz.func16 (by kernel_rfl) rfl fun E hE=>?_
 conv=>cbv
 obtain⟨w19,hw19⟩:=pre_v (tw (rtN 2).1)
 obtain⟨v19,hv19⟩:=pre_r (em (rtN 2).1 (Re.sqrt (qn 2)))
 refine cL hE (lroot_ok (k:=2) rfl (by decide) hw19 hv19) ⟨rfl,trivial⟩ ?_
 try conv=>cbv
 obtain⟨w20,hw20⟩:=pre_v (tw (rtN 8).1)
 obtain⟨v20,hv20⟩:=pre_r (em (rtN 8).1 (Re.sqrt (qn 8)))
 refine cL hE (lroot_ok (k:=8) rfl (by decide) hw20 hv20) ⟨rfl,trivial⟩ ?_
 try conv=>cbv
 obtain⟨w21,hw21⟩:=pre_v (tw (join2 (rtN 2).1 (rtN 8).1))
 obtain⟨v21,hv21⟩:=pre_r (em (join2 (rtN 2).1 (rtN 8).1) (Re.ofRat (1/2)))
 refine cL (r:= .tup [(true,[.sl (.sl tRat) w21,.sl tRat v21]),(false,[.int .i64 0])]) hE (NDiv (fam2 (a:=2) (b:=8) (by decide) (by decide) (Nat.le_refl Rm) (by decide)).1.toGam (fam2 (by decide) (by decide) (Nat.le_refl Rm) (by decide)).2.1 (fam2 (by decide) (by decide) (Nat.le_refl Rm) (by decide)).2.2 hw19 hw20 hv19 hv20 (el_rt (by decide)) (el_rt (by decide)) (in_invR (rtN_ok (k:=8) (by decide)).red (rtN_ok (k:=8) (by decide)).mem (rt_ne0 (by decide))) (invR_spec (rt_ne0 (by decide))) ((rtN_ok (k:=8) (by decide)).inv (by decide) (rt_ne0 (by decide))) (ii_m _ (Nat.le_trans (rtN_ok (k:=8) (by decide)).len (by decide))) hw21 (by rw[hv21];exact congrArg _ half_eq.symm)) ⟨⟨rfl,rfl,trivial⟩,⟨rfl,rfl,trivial⟩,trivial⟩ ?_
 try conv=>cbv
 obtain⟨gb,gl,gc,gm,hg26⟩:=isR_ex (1/2:Rat)
 have hG28:=(fam2 (a:=2) (b:=8) (by decide) (by decide) (Nat.le_refl Rm) (by decide))
 have hr28:=(hG28.1.toGam.twr (hG28.1.toGam.join2 hG28.2.1 hG28.2.2).1).red
 refine cL hE (NRational_ok hr28 hv21 hg26 (shq_smallQ (by decide +kernel:ShQ (1/2:Rat)))) ⟨⟨rfl,rfl,trivial⟩,trivial⟩ ?_
 try conv=>cbv
 intro n30 h30;(have h30:=h30.trans (show _=false by decide));subst h30;conv=>cbv
 intro n33 h33;(have h33:=h33.trans (show _=false from rfl));subst h33;conv=>cbv
 obtain⟨fb37,fl37,fc37,fm37,hf37⟩:=isR_ex (1/2:Rat)
 have hd37:(1/2:Rat)=Rat.divInt 1 2:=by decide +kernel
 refine cL hE (YFrac_ok (by decide) (by decide) (by decide) hd37 hf37) ⟨rfl,rfl,trivial⟩ ?_
 try conv=>cbv
 refine cL hE (YRCmp_ok hg26 hf37 (shq_smallQ (by decide +kernel:ShQ (1/2:Rat))) (shq_smallQ (by decide +kernel:ShQ (1/2:Rat))) (cmpQ_self _)) ⟨⟨rfl,rfl,rfl,rfl,trivial⟩,⟨rfl,rfl,rfl,rfl,trivial⟩,trivial⟩ ?_
 try conv=>cbv
 intro n39 h39;(have h39:=h39.trans (show _=false by decide));subst h39;conv=>cbv
 refine⟨fun _=>rfl,?_⟩
 obtain⟨v42,hv42⟩:=pre_r (em [] (qn 2))
 refine cL (r:= .agg [.sl (.sl tRat) (([]:List LR)),.sl tRat v42]) hE (NFromInt (x:=2) (by decide) (shq_smallQ (shq_nat (k:=2) (by decide))) (by rw[hv42];rfl)) ⟨rfl,trivial⟩ ?_
 try conv=>cbv
 obtain⟨w43,hw43⟩:=pre_v (tw [[6]])
 obtain⟨v43,hv43⟩:=pre_r (em [[6]] (Re.sqrt (qn 6)))
 refine cL (r:= .agg [.sl (.sl tRat) w43,.sl tRat v43]) hE (lroot_ok (k:=6) rfl (by decide) (by rw[hw43,rtN,u6]) (by rw[hv43,rtN,u6])) ⟨rfl,trivial⟩ ?_
 try conv=>cbv
 obtain⟨w44,hw44⟩:=pre_v (tw [[6]])
 obtain⟨v44,hv44⟩:=pre_r (em [[6]] (qn 2*Re.sqrt (qn 6)))
 refine cL (r:= .tup [(true,[.sl (.sl tRat) w44,.sl tRat v44]),(false,[.int .i64 0])]) hE (NMul (fam6 (Nat.le_refl Rm) (by decide)).1.toGam .nil (fam6 (Nat.le_refl Rm) (by decide)).2 rfl hw43 hv42 hv43 (el_qn (by decide)) (el_rt6.mono (by decide)) (by rw[hw44,join2_nil]) (by rw[hv44,join2_nil])) ⟨⟨rfl,rfl,trivial⟩,⟨rfl,rfl,trivial⟩,trivial⟩ ?_
 try conv=>cbv
 obtain⟨v48,hv48⟩:=pre_r (em [] (qn 5))
 refine cL (r:= .agg [.sl (.sl tRat) (([]:List LR)),.sl tRat v48]) hE (NFromInt (x:=5) (by decide) (shq_smallQ (shq_nat (k:=5) (by decide))) (by rw[hv48];rfl)) ⟨rfl,trivial⟩ ?_
 try conv=>cbv
 obtain⟨w50,hw50⟩:=pre_v (tw [[6]])
 obtain⟨v50,hv50⟩:=pre_r (em [[6]] (fiveR))
 refine cL (r:= .tup [(true,[.sl (.sl tRat) w50,.sl tRat v50]),(false,[.int .i64 0])]) hE (NAdd (fam6 (Nat.le_refl Rm) (by decide)).1.toGam .nil (fam6 (Nat.le_refl Rm) (by decide)).2 rfl hw44 hv48 hv44 (el_qn (by decide)) el_six (by rw[hw50,join2_nil]) (by rw[hv50,join2_nil];rfl)) ⟨⟨rfl,rfl,trivial⟩,⟨rfl,rfl,trivial⟩,trivial⟩ ?_
 try conv=>cbv
 refine⟨fun _=>rfl,?_⟩
 obtain⟨w55,hw55⟩:=pre_v (tw (adj [[6]] fiveR))
 obtain⟨v55,hv55⟩:=pre_r (em (adj [[6]] fiveR) (Re.sqrt fiveR))
 refine cL hE (NSqrt (root_fam n5_ok (by decide) five_nn (Nat.le_refl Rm) (by decide)).1.toGam (root_fam n5_ok (by decide) five_nn (Nat.le_refl Rm) (by decide)).2.1 hw50 hv50 ((n5_ok.el (by decide)).mono (by decide)) (root_fam n5_ok (by decide) five_nn (Nat.le_refl Rm) (by decide)).2.2 five_nn hw55 hv55 (el_adj n5_ok (by decide) five_nn) (by decide)) ⟨⟨rfl,rfl,trivial⟩,trivial⟩ ?_
 try conv=>cbv
 obtain⟨w59,hw59⟩:=pre_v (tw (rtN 2).1)
 obtain⟨v59,hv59⟩:=pre_r (em (rtN 2).1 (Re.sqrt (qn 2)))
 refine cL hE (lroot_ok (k:=2) rfl (by decide) hw59 hv59) ⟨rfl,trivial⟩ ?_
 try conv=>cbv
 obtain⟨w60,hw60⟩:=pre_v (tw (rtN 3).1)
 obtain⟨v60,hv60⟩:=pre_r (em (rtN 3).1 (Re.sqrt (qn 3)))
 refine cL hE (lroot_ok (k:=3) rfl (by decide) hw60 hv60) ⟨rfl,trivial⟩ ?_
 try conv=>cbv
 obtain⟨w61,hw61⟩:=pre_v (tw (join2 (rtN 2).1 (rtN 3).1))
 obtain⟨v61,hv61⟩:=pre_r (em (join2 (rtN 2).1 (rtN 3).1) (Re.sqrt (qn 2)+Re.sqrt (qn 3)))
 refine cL hE (NAdd (fam2 (a:=2) (b:=3) (by decide) (by decide) (Nat.le_refl Rm) (by decide)).1.toGam (fam2 (by decide) (by decide) (Nat.le_refl Rm) (by decide)).2.1 (fam2 (by decide) (by decide) (Nat.le_refl Rm) (by decide)).2.2 hw59 hw60 hv59 hv60 (el_rt (by decide)) (el_rt (by decide)) hw61 hv61) ⟨⟨rfl,rfl,trivial⟩,⟨rfl,rfl,trivial⟩,trivial⟩ ?_
 try conv=>cbv
 obtain⟨v65,hv65⟩:=pre_r (em [] (qn 1))
 refine cL (r:= .agg [.sl (.sl tRat) (([]:List LR)),.sl tRat v65]) hE (NFromInt (x:=1) (by decide) (shq_smallQ (shq_nat (k:=1) (by decide))) (by rw[hv65];rfl)) ⟨rfl,trivial⟩ ?_
 try conv=>cbv
 obtain⟨w66,hw66⟩:=pre_v (tw (rtN 5).1)
 obtain⟨v66,hv66⟩:=pre_r (em (rtN 5).1 (Re.sqrt (qn 5)))
 refine cL hE (lroot_ok (k:=5) rfl (by decide) hw66 hv66) ⟨rfl,trivial⟩ ?_
 try conv=>cbv
 obtain⟨w67,hw67⟩:=pre_v (tw (rtN 5).1)
 obtain⟨v67,hv67⟩:=pre_r (em (rtN 5).1 (qn 1+Re.sqrt (qn 5)))
 refine cL (r:= .tup [(true,[.sl (.sl tRat) w67,.sl tRat v67]),(false,[.int .i64 0])]) hE (NAdd (fam2 (a:=5) (b:=5) (by decide) (by decide) (Nat.le_refl Rm) (by decide)).1.toGam .nil (fam2 (by decide) (by decide) (Nat.le_refl Rm) (by decide)).2.1 rfl hw66 hv65 hv66 (el_qn (by decide)) (el_rt (by decide)) (by rw[hw67,join2_nil]) (by rw[hv67,join2_nil])) ⟨⟨rfl,rfl,trivial⟩,⟨rfl,rfl,trivial⟩,trivial⟩ ?_
 try conv=>cbv
 obtain⟨fb72,fl72,fc72,fm72,hf72⟩:=isR_ex (3236/1000:Rat)
 have hd72:(3236/1000:Rat)=Rat.divInt 3236 1000:=by decide +kernel
 refine cL hE (YFrac_ok (by decide) (by decide) (by decide) hd72 hf72) ⟨rfl,rfl,trivial⟩ ?_
 try conv=>cbv
 obtain⟨v73,hv73⟩:=pre_r (em [] (Re.ofRat (3236/1000)))
 refine cL hE (NFromRat hf72 (shq_smallQ (by decide +kernel:ShQ (3236/1000:Rat))) hv73) ⟨⟨rfl,rfl,rfl,rfl,trivial⟩,trivial⟩ ?_
 try conv=>cbv
 have hel67:El (rtN 5).1 Sa (qn 1+Re.sqrt (qn 5)):=el_gold
 have hfG:=(fam2 (a:=5) (b:=5) (by decide) (by decide) (S:=Sa) (by decide) (by decide)).1
 have hfG2:=(fam2 (a:=5) (b:=5) (by decide) (by decide) (S:=Sb) (by decide) (by decide))
 refine cL hE (NCmp hfG.toGam hfG2.2.1 .nil hw67 rfl hv67 hv73 hel67 (el_q (by decide +kernel)) hfG2.1.toGam (by decide) golden_lo.symm) ⟨⟨rfl,rfl,trivial⟩,⟨rfl,rfl,trivial⟩,trivial⟩ ?_
 try conv=>cbv
 refine⟨fun _=>rfl,?_⟩
 obtain⟨fb79,fl79,fc79,fm79,hf79⟩:=isR_ex (3238/1000:Rat)
 have hd79:(3238/1000:Rat)=Rat.divInt 3238 1000:=by decide +kernel
 refine cL hE (YFrac_ok (by decide) (by decide) (by decide) hd79 hf79) ⟨rfl,rfl,trivial⟩ ?_
 try conv=>cbv
 obtain⟨v80,hv80⟩:=pre_r (em [] (Re.ofRat (3238/1000)))
 refine cL hE (NFromRat hf79 (shq_smallQ (by decide +kernel:ShQ (3238/1000:Rat))) hv80) ⟨⟨rfl,rfl,rfl,rfl,trivial⟩,trivial⟩ ?_
 try conv=>cbv
 refine cL hE (NCmp hfG.toGam hfG2.2.1 .nil hw67 rfl hv67 hv80 hel67 (el_q (by decide +kernel)) hfG2.1.toGam (by decide) golden_hi.symm) ⟨⟨rfl,rfl,trivial⟩,⟨rfl,rfl,trivial⟩,trivial⟩ ?_
 try conv=>cbv
 refine⟨fun _=>rfl,?_⟩
 intro n85 h85;(have h85:=h85.trans (show _=true by decide));subst h85;conv=>cbv
 intro n88 h88;(have h88:=h88.trans (show _=true by decide));subst h88;conv=>cbv
 intro n92 h92;(have h92:=h92.trans (show _=true by decide));subst h92;conv=>cbv
 intro n96 h96;(have h96:=h96.trans (show _=true by decide));subst h96;conv=>cbv
 refine cL (r:= .one (.bool true)) hE (NEqual (PA.gam (S:=Sa) (by decide) (by decide)).toGam (Tf.of PA.ini (.inl (List.suffix_refl _))) last_el.2 hw55 hw61 hv55 hv61 ((el_adj n5_ok (by decide) five_nn).mono (by decide)) last_el.1 (by simp[nested_eq])) ⟨⟨rfl,rfl,trivial⟩,⟨rfl,rfl,trivial⟩,trivial⟩ ?_
 try conv=>cbv
 intro n105 h105;(have h105:=h105.trans (show _=true by decide));subst h105;conv=>cbv
 intro n109 h109;(have h109:=h109.trans (show _=true by decide));subst h109;conv=>cbv
 intro n113 h113;(have h113:=h113.trans (show _=true by decide));subst h113;conv=>cbv
 intro n117 h117;(have h117:=h117.trans (show _=true by decide));subst h117;conv=>cbv
 intro n121 h121;(have h121:=h121.trans (show _=true by decide));subst h121;conv=>cbv
 exact fA ⟨⟨rfl,rfl,trivial⟩,trivial⟩ rfl (by simp)
end Go.Abs
