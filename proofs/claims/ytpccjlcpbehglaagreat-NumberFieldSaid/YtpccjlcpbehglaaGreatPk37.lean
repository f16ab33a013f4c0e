/- Part 38 of a proof. Conditions: each theorem's own. -/
import Derived.Test.YtpccjlcpbehglaaGreatPk33
import Derived.Test.YtpccjlcpbehglaaGreatPk36
set_option linter.all false
set_option maxHeartbeats 8000000
open Go.Proofs
namespace Go.Abs
open Go.RowKit
variable {Z x:LR} {zn:Nat}
theorem flat_snoc {X:List LR} {i:Nat} (h:X[i]? =some x):(X.take (i+1)).flatten=(X.take i).flatten++x:=by
 rw[take_snoc h,List.flatten_append];simp
theorem flat_len {X:List LR} {i m:Nat} (h:X[i]? =some x) (hm:m=(X.take i).flatten.length):m+x.length=(X.take (i+1)).flatten.length:=by
 rw[flat_snoc h,List.length_append,hm]
theorem flat_le (X:List LR) (i:Nat):(X.take i).flatten.length≤X.flatten.length:=by
 conv=>rhs;rw[←List.take_append_drop i X,List.flatten_append,List.length_append]
 omega
theorem CloneR_own {X:LR} (hX:X.length≤1000000) (hzn:zn=X.length):CF 138 [.one (.sl tRat X)] (.one (.own tRat X zn)):=by
 refine acall_fn Tryz.func138 (by kernel_rfl) rfl fun E hE=>?_
 conv=>cbv
 intro n4 h4;conv=>cbv
 refine⟨fun u4=>?_,?_⟩
 ·conv=>cbv
  have hl0:X=[]:=by rw[h4] at u4;simpa using u4
  exact fA ⟨⟨rfl,.inr (.inr ⟨_,own_eq (hl0) (by rw[hzn,hl0];rfl)⟩),trivial⟩,trivial⟩ rfl (by simp)
 ·refine⟨[],fun _=>⟨rfl,by decide,rfl,trivial⟩,.inl ?_⟩
  try conv=>cbv
  refine .inl ⟨X,fun _=>⟨rfl,by (first | rfl | omega),rfl,by show (0+X.length)*64≤140737488355328;(try simp only[List.length_take,List.length_drop]);omega⟩,?_⟩
  intro (l7:LR) n7 ql7;have hl7:l7=([]:LR)++(X:LR):=ql7.1;have hn7:n7=List.length (α:=(el tRat)) l7:=ql7.2;conv=>cbv
  exact fA ⟨⟨rfl,.inr (.inl ⟨_,_,by decide,rfl,rfl,by rw[hn7],rfl,own_eq (by rw[hl7];simp) (by rw[hzn,hl7];simp)⟩),trivial⟩,trivial⟩ rfl (by simp)
theorem CloneR {X:LR} (hX:X.length≤1000000):CF 138 [.one (.sl tRat X)] (.one (.sl tRat X)):=acall_plain (CloneR_own hX rfl)
theorem Concat_own {X:List LR} (h0:0<X.flatten.length) (hX:X.flatten.length≤1000000) (hZ:Z=X.flatten) (hzn:zn=Z.length):CF 204 [.one (.sl (.sl tRat) X)] (.one (.own tRat Z zn)):=by
 refine acall_fn Tryz.func204 (by kernel_rfl) rfl fun E hE=>?_
 conv=>cbv
 intro n10 h10;have e10:=h10.eq;have f10:=h10.le;conv=>cbv
 refine .inr ?_
 obtain⟨J0,hJ0⟩:∃J:List AV→List Blk→Nat→Prop,J=fun vs bl k=>∃(i' m':Nat) (m L i:Int),vs=[.one (.sl (.sl tRat) X),.one (.int .i64 m),.one (.sl (.sl tRat) X),.one (.int .i64 L),.one (.int .i64 i)]∧(LenIs L X.length∧NatIs i i'∧i'≤X.length∧NatIs m m')∧m'=(X.take i').flatten.length∧k=X.length-i':=⟨_,rfl⟩
 refine⟨[0,3,9,10,11],[],J0,⟨X.length-0,by rw[hJ0];exact⟨0,0,0,n10,0,rfl,⟨h10,natIs 0,by omega,natIs 0⟩,rfl,rfl⟩⟩,?_⟩
 intro vs bl kk0 hj;rw[hJ0] at hj
 obtain⟨i',m',m,L,i,rfl,⟨hL,hi,hiL,hm⟩,hinv,hk0⟩:=hj
 conv=>cbv
 have eL:=hL.eq
 have ei:=hi.eq
 have em:=hm.eq
 intro n12 h12;conv=>cbv
 cases n12 <;> conv=>cbv
 ·have k12:=lss_f h12
  have hfl:m'=X.flatten.length:=by rw[hinv,show i'=X.length by omega,List.take_length]
  refine cL hE (Grow_nil hm (by omega) (by omega)) ⟨.inl rfl,rfl,trivial⟩ ?_
  try conv=>cbv
  intro n26 h26;have e26:=h26.eq;have f26:=h26.le;conv=>cbv
  refine .inr ?_
  obtain⟨J1,hJ1⟩:∃J:List AV→List Blk→Nat→Prop,J=fun vs bl k=>∃(i' mm:Nat) (o:LR) (L i:Int),vs=[.one (.lsl tRat 24 0 0 mm),.one (.sl (.sl tRat) X),.one (.int .i64 L),.one (.int .i64 i)]∧bl=[.arr 0 tRat o]∧(LenIs L X.length∧NatIs i i'∧i'≤X.length∧mm=o.length)∧o=(X.take i').flatten∧k=X.length-i':=⟨_,rfl⟩
  refine⟨[6,25,26,27],[24],J1,⟨X.length-0,by rw[hJ1];exact⟨0,0,[],n26,0,rfl,rfl,⟨h26,natIs 0,by omega,rfl⟩,rfl,rfl⟩⟩,?_⟩
  intro vs bl kk1 hj;rw[hJ1] at hj
  obtain⟨i',mm,o,L,i,rfl,rfl,⟨hL,hi,hiL,hmm⟩,hinv,hk1⟩:=hj
  conv=>cbv
  have eL:=hL.eq
  have ei:=hi.eq
  intro n28 h28;conv=>cbv
  cases n28 <;> conv=>cbv
  ·have k28:=lss_f h28
   have hfin:Z=o:=by rw[hZ,hinv,show i'=X.length by omega,List.take_length]
   exact fA ⟨⟨rfl,.inr (.inl ⟨_,_,by decide,rfl,rfl,hmm,rfl,own_eq (hfin) (by rw[hzn,hfin])⟩),trivial⟩,trivial⟩ rfl (by simp)
  ·have k28:=lss_t h28
   refine .inr ?_
   obtain⟨x29,hx29⟩:=get_ex (l:=X) (i:=i') (by omega)
   refine⟨x29,fun _=>⟨by omega,by rw[show (i).toNat=i' by omega];exact hx29⟩,?_⟩
   try conv=>cbv
   have hbb:=flat_len hx29 (congrArg _ hinv)
   have hbl:=flat_le X (i'+1)
   refine .inl ⟨x29,fun _=>⟨rfl,hmm,rfl,by show (o.length+x29.length)*64≤140737488355328;(try simp only[List.length_take,List.length_drop]);omega⟩,?_⟩
   intro (l33:LR) n33 ql33;have hl33:l33=(o:LR)++(x29:LR):=ql33.1;have hn33:n33=List.length (α:=(el tRat)) l33:=ql33.2;conv=>cbv
   intro n34 h34;conv=>cbv
   refine⟨fun _=>i64 (by omega),?_⟩
   refine⟨X.length-(i'+1),?_,?_⟩
   ·omega
   rw[hJ1]
   exact⟨i'+1,n33,l33,L,n34,rfl,rfl,⟨hL,⟨by omega⟩,by omega,by rw[hn33]⟩,by rw[hl33,hinv,flat_snoc hx29],rfl⟩
 ·have k12:=lss_t h12
  refine .inr ?_
  obtain⟨x13,hx13⟩:=get_ex (l:=X) (i:=i') (by omega)
  refine⟨x13,fun _=>⟨by omega,by rw[show (i).toNat=i' by omega];exact hx13⟩,?_⟩
  try conv=>cbv
  intro n17 h17;have e17:=h17.eq;have f17:=h17.le;conv=>cbv
  have hbb:=flat_len hx13 hinv
  have hbl:=flat_le X (i'+1)
  intro n18 h18;conv=>cbv
  refine⟨fun _=>i64 (by omega),?_⟩
  intro n20 h20;conv=>cbv
  refine .inr ?_
  cases n20 <;> conv=>cbv
  ·have k20:=lss_f h20
   intro n22 h22;conv=>cbv
   refine⟨fun _=>i64 (by omega),?_⟩
   refine⟨X.length-(i'+1),?_,?_⟩
   ·omega
   rw[hJ0]
   exact⟨i'+1,m'+x13.length,n18,L,n22,rfl,⟨hL,⟨by omega⟩,by omega,⟨by omega⟩⟩,hbb,rfl⟩
  ·have k20:=lss_t h20
   exact absurd k20 (by omega)
theorem concat_two {A B:LR} (hA:0<A.length) (hl:A.length+B.length≤1000000) (hZ:Z=A++B):CF 204 [.one (.sl (.sl tRat) [A,B])] (.one (.sl tRat Z)):=
 acall_plain (Concat_own (X:=[A,B]) (by simp;omega) (by simp;omega) (by simp[hZ]) rfl)
end Go.Abs
namespace Go.Abs
open Go.RowKit
def ValC (f:FuncId) (R:Nat) (u:List (List Rat)):Prop:=∀{T:List LR} {A:LR} {s:Nat} {x:Re} {c:Int},T=tw u→A=em u x→El u s x→VV u.length R s≤60000000000000→c=sgR x→
 CF f [.one (.sl (.sl tRat) T),.one (.sl tRat A)] (.one (.int .i64 c))
variable {A:LR} {R s:Nat} {T:List LR} {c:Int} {u:List (List Rat)} {x:Re}
theorem val_base {p:Rat} (hT:T=[]) (hA:A=[rp p]) (hc:c=sgnQ p):CF 143 [.one (.sl (.sl tRat) T),.one (.sl tRat A)] (.one (.int .i64 c)):=by
 refine acall_fn Tryz.func143 (by kernel_rfl) rfl fun E hE=>?_
 conv=>cbv
 intro n14 h14;have e14:=h14.eq;have f14:=h14.le;conv=>cbv
 intro n15 h15;conv=>cbv
 cases n15 <;> conv=>cbv
 ·have k15:=eql_f h15
  exact absurd (by rw[e14,hT];rfl) k15
 ·have k15:=eql_t h15
  have hAl:A.length=1:=by rw[hA];rfl
  obtain⟨x17,hx17⟩:=get_ex (l:=A) (i:=0) (by omega)
  refine⟨x17,fun _=>⟨by omega,hx17⟩,?_⟩
  try conv=>cbv
  obtain⟨r19,hr19⟩:∃z:Int,z=sgnQ p:=⟨_,rfl⟩
  refine cA hE (RSign_ok (one_rp hA hx17) hr19) ?_
  try conv=>cbv
  exact fA ⟨⟨rfl,congrArg _ (hc.trans hr19.symm),trivial⟩,trivial⟩ rfl (by simp)
theorem val_step {r:List Rat} (h:Twr R (r::u)) (ih:ValC 143 R u) (hT:T=tw (r::u)) (hA:A=em (r::u) x) (hx:El (r::u) s x) (hs:VV (r::u).length R s≤60000000000000) (hc:c=sgR x):CF 143 [.one (.sl (.sl tRat) T),.one (.sl tRat A)] (.one (.int .i64 c)):=by
 obtain⟨p,q,hxe,hp,hq⟩:=El.parts h.red hx
 have hTl:T.length=u.length+1:=by rw[hT,tw_len];rfl
 have hAl:A.length=2^u.length+2^u.length:=by rw[hA,em_len hx.mem,pow_len]
 have hv2:VV (r::u).length R s=VV u.length R (2*s+2*EE u.length R+R+1):=rfl
 have hv3:=VV_ge u.length R (2*s+2*EE u.length R+R+1)
 have hv1:=VV_mono u.length R (s:=s) (t:=2*s+2*EE u.length R+R+1) (by omega)
 have hN:=El.norm h hp.mem hq.mem (hxe ▸ hx)
 have hrr:=El.rad h
 have hs0:=rt_pos h.red
 have hsq:=rt_sq h.red
 refine acall_fn Tryz.func143 (by kernel_rfl) rfl fun E hE=>?_
 conv=>cbv
 intro n14 h14;have e14:=h14.eq;have f14:=h14.le;conv=>cbv
 intro n15 h15;conv=>cbv
 cases n15 <;> conv=>cbv
 ·have k15:=eql_f h15
  intro n21 h21;have e21:=h21.eq;have f21:=h21.le;conv=>cbv
  intro n22 h22;conv=>cbv
  refine⟨fun _=>i64 (by omega),?_⟩
  intro n24 h24;have e24:=h24.eq;have f24:=h24.le;conv=>cbv
  intro n25 h25;conv=>cbv
  refine⟨fun _=>⟨by omega,by omega,i64 (by omega)⟩,?_⟩
  intro m28 hm28;conv=>cbv
  refine⟨fun _=>⟨by omega,by omega⟩,?_⟩
  intro b28 hb28;conv=>cbv
  intro l28 hl28;conv=>cbv
  intro m31 hm31;conv=>cbv
  refine⟨fun _=>⟨by omega,by omega⟩,?_⟩
  intro b31 hb31;conv=>cbv
  intro l31 hl31;conv=>cbv
  intro m34 hm34;conv=>cbv
  refine⟨fun _=>⟨by omega,by omega⟩,?_⟩
  rintro a34 b34 ⟨ha34,hb34⟩;conv=>cbv
  intro l34 hl34;conv=>cbv
  refine⟨fun _=>rfl,?_⟩
  have hl28e:l28=tw u:=by rw[hl28,List.drop_zero,show b28=T.length-1 by omega,hT,tw_take]
  have hl31e:l31=em u p:=by rw[hl31,List.drop_zero,show b31=A.length/2 by omega,hA,em_lo h.red hp.mem hq.mem hxe]
  have hl34e:l34=em u q:=by rw[hl34,show a34=A.length/2 by omega,hb34,hm34,List.take_length,hA,em_hi h.red hp.mem hq.mem hxe]
  obtain⟨r37,hr37⟩:∃z:Int,z=sgR p:=⟨_,rfl⟩
  refine cL hE (ih hl28e hl31e hp (by omega) hr37) ⟨rfl,rfl,trivial⟩ ?_
  try conv=>cbv
  obtain⟨r40,hr40⟩:∃z:Int,z=sgR q:=⟨_,rfl⟩
  refine cL hE (ih hl28e hl34e hq (by omega) hr40) ⟨rfl,rfl,trivial⟩ ?_
  try conv=>cbv
  refine .inr ?_
  intro n43 h43;conv=>cbv
  cases n43 <;> conv=>cbv
  ·have k43:=eql_f h43
   intro n47 h47;conv=>cbv
   cases n47 <;> conv=>cbv
   ·have k47:=eql_f h47
    intro n52 h52;conv=>cbv
    cases n52 <;> conv=>cbv
    ·have k52:=eql_f h52
     obtain⟨w58,hw58⟩:∃z:LR,z=em u (p*p):=⟨_,rfl⟩
     refine cL hE (Mulv h.tail hl28e hl31e hl31e hp hp (by omega) hw58) ⟨rfl,rfl,rfl,trivial⟩ ?_
     try conv=>cbv
     obtain⟨x62,hx62⟩:=get_ex (l:=T) (i:=(n22).toNat) (by omega)
     refine⟨x62,fun _=>⟨by omega,hx62⟩,?_⟩
     try conv=>cbv
     have hx62e:x62=rps r:=by have:=tw_last r u;rw[←hT,show T.length-1=n22.toNat by omega,hx62] at this;exact Option.some.inj this
     obtain⟨w67,hw67⟩:∃z:LR,z=em u (q*q):=⟨_,rfl⟩
     refine cL hE (Mulv h.tail hl28e hl34e hl34e hq hq (by omega) hw67) ⟨rfl,rfl,rfl,trivial⟩ ?_
     try conv=>cbv
     obtain⟨w68,hw68⟩:∃z:LR,z=em u (evR u r*(q*q)):=⟨_,rfl⟩
     refine cL hE (Mulv h.tail hl28e (hx62e.trans (em_rad h.red)) hw67 hrr (hq.mul h.tail hq) (by omega) hw68) ⟨rfl,rfl,rfl,trivial⟩ ?_
     try conv=>cbv
     obtain⟨w69,hw69⟩:∃z:LR,z=em u (p*p-evR u r*(q*q)):=⟨_,rfl⟩
     refine cL hE (Subv h.tail hl28e hw58 hw68 (hp.mul h.tail hp) (hrr.mul h.tail (hq.mul h.tail hq)) (by omega) (by omega) hw69) ⟨rfl,rfl,rfl,trivial⟩ ?_
     try conv=>cbv
     refine⟨fun _=>rfl,?_⟩
     obtain⟨r73,hr73⟩:∃z:Int,z=sgR (p*p-q*q*evR u r):=⟨_,rfl⟩
     refine cL (r:= .one (.int .i64 r73)) hE (ih hl28e (hw69.trans (by congr 1;clear ih;grind)) hN (by omega) hr73) ⟨rfl,rfl,trivial⟩ ?_
     try conv=>cbv
     intro n74 h74;conv=>cbv
     refine⟨fun _=>by rw[h74,hr37,hr73];exact sgR_in _ _,?_⟩
     exact fA ⟨⟨rfl,congrArg _ (by rw[hc,h74,hr37,hr73,hxe];exact sg_norm hs0 hsq (fun e=>k52 (by rw[hr37,e];exact sgR_zero)) (fun e=>k43 (by rw[hr40,e];exact sgR_zero)) (by rw[←hr37,←hr40];exact k47)),trivial⟩,trivial⟩ rfl (by simp)
    ·have k52:=eql_t h52
     exact fA ⟨⟨rfl,congrArg _ (by rw[hc,hr40,hxe];exact sg_sum0 hs0 (sgR_eq0.1 (hr37 ▸ k52))),trivial⟩,trivial⟩ rfl (by simp)
   ·have k47:=eql_t h47
    exact fA ⟨⟨rfl,congrArg _ (by rw[hc,hr37,hxe];exact sg_sum hs0 (.inr (by rw[←hr37,←hr40];exact k47))),trivial⟩,trivial⟩ rfl (by simp)
  ·have k43:=eql_t h43
   exact fA ⟨⟨rfl,congrArg _ (by rw[hc,hr37,hxe];exact sg_sum hs0 (.inl (sgR_eq0.1 (hr40 ▸ k43)))),trivial⟩,trivial⟩ rfl (by simp)
 ·have k15:=eql_t h15
  exact absurd k15 (by omega)
theorem valC (h:Twr R u):ValC 143 R u:=by
 induction u with
 | nil=>
  intro T A s x c hT hA hx hs hc
  obtain⟨p,rfl⟩:=in_nil.1 hx.mem
  rw[em_nil] at hA
  exact val_base hT hA (hc.trans (sgR_rat p))
 | cons r u ih=>
  intro T A s x c hT hA hx hs hc
  exact val_step h (ih h.tail) hT hA hx hs hc
theorem Realv (h:Twr R u) (hT:T=tw u) (hs:VV u.length R R≤60000000000000):CF 189 [.one (.sl (.sl tRat) T)] (.one (.bool true)):=by
 have hTl:T.length=u.length:=by rw[hT,tw_len]
 have hx0:El u 0 0:=El.rat h.red bd_int0
 refine acall_fn Tryz.func189 (by kernel_rfl) rfl fun E hE=>?_
 conv=>cbv
 obtain⟨zb7,zl7,yb7,yl7,hz7⟩:=isR_ex (((0:Int):Rat))
 refine cL hE (RFromInt_ok (by omega) rfl hz7) ⟨rfl,trivial⟩ ?_
 try conv=>cbv
 obtain⟨w8,hw8⟩:∃z:LR,z=em u (0):=⟨_,rfl⟩
 refine cL hE (FromRatv h hT hz7 ⟨by decide +kernel,by decide +kernel⟩ hw8) ⟨rfl,⟨rfl,rfl,rfl,rfl,trivial⟩,trivial⟩ ?_
 try conv=>cbv
 refine cL (r:= .one (.bool true)) hE (Formed_ok hT h.tow hw8 (hx0.smalls (by omega)) (by rw[hx0.len,List.length_reverse];exact (decide_eq_true rfl).symm)) ⟨rfl,rfl,trivial⟩ ?_
 try conv=>cbv
 intro n10 h10;(have h10:=h10.trans (show _=false from rfl));subst h10;conv=>cbv
 intro n12 h12;have e12:=h12.eq;have f12:=h12.le;conv=>cbv
 refine .inr ?_
 obtain⟨J0,hJ0⟩:∃J:List AV→List Blk→Nat→Prop,J=fun vs bl k=>∃(i':Nat) (L i:Int),vs=[.one (.sl (.sl tRat) T),.one (.sl (.sl tRat) T),.one (.int .i64 L),.one (.int .i64 i)]∧(LenIs L T.length∧NatIs i i'∧i'≤T.length)∧k=T.length-i':=⟨_,rfl⟩
 refine⟨[0,11,12,13],[],J0,⟨T.length-0,by rw[hJ0];exact⟨0,n12,0,rfl,⟨h12,natIs 0,by omega⟩,rfl⟩⟩,?_⟩
 intro vs bl kk0 hj;rw[hJ0] at hj
 obtain⟨i',L,i,rfl,⟨hL,hi,hiL⟩,hk0⟩:=hj
 conv=>cbv
 have eL:=hL.eq
 have ei:=hi.eq
 intro n14 h14;conv=>cbv
 cases n14 <;> conv=>cbv
 ·have k14:=lss_f h14
  exact fA ⟨⟨rfl,rfl,trivial⟩,trivial⟩ rfl (by simp)
 ·have k14:=lss_t h14
  refine .inr ?_
  obtain⟨x16,hx16⟩:=get_ex (l:=T) (i:=i') (by omega)
  refine⟨x16,fun _=>⟨by omega,by rw[show (i).toNat=i' by omega];exact hx16⟩,?_⟩
  try conv=>cbv
  obtain⟨r,hrp,hri⟩:=pre_succ (u:=u) (i:=i') (by omega)
  have hrd:Red (r::pre u i'):=hrp ▸ (h.pre (i'+1)).red
  have hrx:x16=rps r:=by rw[←hT,hx16] at hri;exact Option.some.inj hri
  intro m20 hm20;conv=>cbv
  refine⟨fun _=>⟨by omega,by omega⟩,?_⟩
  intro b20 hb20;conv=>cbv
  intro l20 hl20;conv=>cbv
  have hl20e:l20=tw (pre u i'):=by rw[hl20,List.drop_zero,show b20=i' by omega,hT,pre_take]
  obtain⟨r22,hr22⟩:∃z:Int,z=sgR (evR (pre u i') r):=⟨_,rfl⟩
  refine cL (r:= .one (.int .i64 r22)) hE (valC (h.pre i') hl20e (hrx.trans (em_rad hrd)) (El.rad (hrp ▸ h.pre (i'+1))) (by rw[pre_len (by omega)];exact Nat.le_trans (VV_le (by omega) R R) hs) hr22) ⟨rfl,rfl,trivial⟩ ?_
  try conv=>cbv
  intro n23 h23;conv=>cbv
  cases n23 <;> conv=>cbv
  ·have k23:=leq_f h23
   intro n24 h24;conv=>cbv
   refine⟨fun _=>i64 (by omega),?_⟩
   refine⟨T.length-(i'+1),?_,?_⟩
   ·omega
   rw[hJ0]
   exact⟨i'+1,L,n24,rfl,⟨hL,⟨by omega⟩,by omega⟩,rfl⟩
  ·have k23:=leq_t h23
   exact absurd k23 (by rw[hr22,sgR_pos hrd.2.2.1];omega)
theorem goodv {L:List LR} (h:Twr R u) (hT:T=tw u) (hs:VV u.length R R≤60000000000000) (hL:∀l∈L,∃x,l=em u x∧El u s x) (hs2:s≤60000000000000):CF 142 [.one (.sl (.sl tRat) T),.one (.sl (.sl tRat) L)] (.one (.bool true)):=by
 refine acall_fn Tryz.func142 (by kernel_rfl) rfl fun E hE=>?_
 conv=>cbv
 intro n8 h8;have e8:=h8.eq;have f8:=h8.le;conv=>cbv
 refine .inr ?_
 obtain⟨J0,hJ0⟩:∃J:List AV→List Blk→Nat→Prop,J=fun vs bl k=>∃(i':Nat) (m i:Int),vs=[.one (.sl (.sl tRat) T),.one (.sl (.sl tRat) L),.one (.int .i64 m),.one (.int .i64 i)]∧(LenIs m L.length∧NatIs i i'∧i'≤L.length)∧k=L.length-i':=⟨_,rfl⟩
 refine⟨[0,7,8,9],[],J0,⟨L.length-0,by rw[hJ0];exact⟨0,n8,0,rfl,⟨h8,natIs 0,by omega⟩,rfl⟩⟩,?_⟩
 intro vs bl kk0 hj;rw[hJ0] at hj
 obtain⟨i',m,i,rfl,⟨hm,hi,hiL⟩,hk0⟩:=hj
 conv=>cbv
 have em:=hm.eq
 have ei:=hi.eq
 intro n10 h10;conv=>cbv
 cases n10 <;> conv=>cbv
 ·have k10:=lss_f h10
  refine cA hE (Realv h hT hs) ?_
  try conv=>cbv
  exact fA ⟨⟨rfl,rfl,trivial⟩,trivial⟩ rfl (by simp)
 ·have k10:=lss_t h10
  refine .inr ?_
  obtain⟨x11,hx11⟩:=get_ex (l:=L) (i:=i') (by omega)
  refine⟨x11,fun _=>⟨by omega,by rw[show (i).toNat=i' by omega];exact hx11⟩,?_⟩
  try conv=>cbv
  obtain⟨x,hxe,hx⟩:=hL x11 (List.mem_of_getElem? hx11)
  refine cL (r:= .one (.bool true)) hE (Formed_ok hT h.tow hxe (hx.smalls hs2) (by rw[hx.len,List.length_reverse];exact (decide_eq_true rfl).symm)) ⟨rfl,rfl,trivial⟩ ?_
  try conv=>cbv
  intro n16 h16;(have h16:=h16.trans (show _=false from rfl));subst h16;conv=>cbv
  intro n17 h17;conv=>cbv
  refine⟨fun _=>i64 (by omega),?_⟩
  refine⟨L.length-(i'+1),?_,?_⟩
  ·omega
  rw[hJ0]
  exact⟨i'+1,m,n17,rfl,⟨hm,⟨by omega⟩,by omega⟩,rfl⟩
theorem Signv (h:Twr R u) (hT:T=tw u) (hA:A=em u x) (hx:El u s x) (hs:VV u.length R s≤60000000000000) (hR:VV u.length R R≤60000000000000) (hc:c=sgR x):CF 76 [.one (.sl (.sl tRat) T),.one (.sl tRat A)] (.one (.int .i64 c)):=by
 have hge:=VV_ge u.length R s
 refine acall_fn Tryz.func76 (by kernel_rfl) rfl fun E hE=>?_
 conv=>cbv
 refine⟨[A],fun _=>⟨rfl,by decide,rfl,⟨rfl,by first | exact⟨rfl,trivial⟩ | exact⟨rfl,rfl,trivial⟩ | exact⟨rfl,rfl,rfl,rfl,trivial⟩ | simp[allC,leC,cells],trivial⟩⟩,.inr ?_⟩
 try conv=>cbv
 refine cL hE (goodv h hT hR (fun l hl=>⟨x,(List.mem_singleton.1 hl).trans hA,hx⟩) (by omega)) ⟨rfl,rfl,trivial⟩ ?_
 try conv=>cbv
 intro n9 h9;(have h9:=h9.trans (show _=false from rfl));subst h9;conv=>cbv
 refine cA hE (valC h hT hA hx hs hc) ?_
 try conv=>cbv
 exact fA ⟨⟨rfl,rfl,trivial⟩,trivial⟩ rfl (by simp)
end Go.Abs
