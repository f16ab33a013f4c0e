/- Part 40 of a proof. Conditions: each theorem's own. -/
import Derived.Test.YtpccjlcpbehglaaGreatPk38
set_option linter.all false
set_option maxHeartbeats 8000000
open Go.Proofs
namespace Go.Abs
open Go.RowKit
theorem half_two {t:Re} (ht:t=Re.ofRat (1/2)):2*t=1:=by
 have e2:(2:Re)=Re.ofRat 2:=rfl
 rw[ht,e2,←Re.ofRat_mul,show (2:Rat)*(1/2)=1 by decide +kernel];rfl
theorem sqC {u:List (List Rat)} {R:Nat} (h:Twr R u):SqC 162 R u:=by
 induction u with
 | nil=>
  intro s x hx hs
  obtain⟨q,rfl⟩:=in_nil.1 hx.mem
  have hsm:SmallQ q:=by
   have:=hx.smalls (by have:=QQ_ge ([]:List (List Rat)).length R s;omega)
   rw[co_nil] at this;exact this q List.mem_cons_self
  by_cases hr:∃r:Rat,0≤r∧r*r=q
  ·obtain⟨r,h0,hr⟩:=hr
   refine .inl ⟨Re.ofRat r,in_rat r _,by rw[←Re.ofRat_mul,hr],?_⟩
   intro T A B hT hA hB
   exact sq_base_ok hT (hA.trans (em_nil q)) (hB.trans (em_nil r)) hsm h0 hr
  ·refine .inr ⟨fun hs=>hr (sq_nil.1 hs),[(((false,[]),(false,[])):el tRat)],?_,?_⟩
   rotate_left
   ·intro T A hT hA
    exact sq_base_no hT (hA.trans (em_nil q)) rfl hsm hr
   ·simp
 | cons r u ih=>
  have ih:SqC 162 R u:=ih h.tail
  intro s x hx hs
  obtain⟨p,q,hxe,hp,hq⟩:=El.parts h.red hx
  have hq1:QQ (r::u).length R s=max (QQ u.length R (3*s+3*EE u.length R+R+GG u.length R+3+II u.length R R)) (s+II u.length R (2*(3*s+3*EE u.length R+R+GG u.length R+3+II u.length R R+GG u.length R)+1)+EE u.length R):=rfl
  have hQ:∀s',s'≤3*s+3*EE u.length R+R+GG u.length R+3+II u.length R R→QQ u.length R s'≤60000000000000:=fun s' h'=>Nat.le_trans (QQ_mono u.length R h') (by omega)
  have hrr:=El.rad h
  have hsq:=rt_sq h.red
  by_cases h0:q=0
  ·have hx0:x=p:=by rw[hxe,h0];clear ih;grind
   rcases ih hp (hQ _ (by omega)) with⟨w,hw,hww,hy⟩ |⟨hno,l,hl,hn⟩
   ·refine .inl ⟨w,in_up hw,by rw[hx0];exact hww,?_⟩
    intro T A B hT hA hB
    exact sq_z1 h hT hA hx hxe hp hq hs h0 hw hy hB
   ·obtain⟨i,hi,hri⟩:=in_inv h.red.1 (in_rad h.red) (by have:=h.red.2.2.1;grind)
    have hib:=hrr.inv h.tail hi hri
    rcases ih (hp.mul h.tail hib) (hQ _ (by omega)) with⟨w,hw,hww,hy⟩ |⟨hno2,l2,hl2,hn2⟩
    ·refine .inl ⟨w*rt u r,in_cons.2 ⟨0,w,in_zero u,hw,by clear ih;grind⟩,?_,?_⟩
     ·have:p=p*(evR u r*i):=by rw[hri];clear ih;grind
      rw[hx0];clear ih;grind
     ·intro T A B hT hA hB
      exact sq_z2 h hT hA hx hxe hp hq hs h0 hi hri hn hw hy hB
    ·refine .inr ⟨?_,em u 0++l2,?_,?_⟩
     ·rw[hx0,sq_low h.red hp.mem]
      rintro (h1 |⟨i',hi',hri',h1⟩)
      ·exact hno h1
      ·have:i'=i:=by
        have:i'=i'*(evR u r*i):=by rw[hri];clear ih;grind
        have h2:i=i*(evR u r*i'):=by rw[hri'];clear ih;grind
        clear ih;grind
       rw[this] at h1
       exact hno2 h1
     ·rw[List.length_append,em_len (in_zero u),pow_len];omega
     ·intro T A hT hA
      exact sq_z3 h hT hA hx hxe hp hq hs h0 hi hri hn hn2 hl2 rfl
  ·have hN:=El.norm h hp.mem hq.mem (hxe ▸ hx)
   rcases ih hN (hQ _ (by omega)) with⟨n,hn,hnn,hyn⟩ |⟨hno,l,hl,hnl⟩
   rotate_left
   ·refine .inr ⟨fun hS=>hno (sq_norm1 h.red hp.mem hq.mem (hxe ▸ hS)),[],Nat.zero_le _,?_⟩
    intro T A hT hA
    exact sq_n0 h hT hA hx hxe hp hq hs h0 hnl rfl
   have hnE:=hN.sqrt h.tail hn hnn
   obtain⟨t,ht⟩:∃t:Re,t=Re.ofRat (1/2):=⟨_,rfl⟩
   have ht2:=half_two ht
   obtain⟨y,hy⟩:∃y:Nat→Re,y=fun i=>if i=0 then p+n else p-n:=⟨_,rfl⟩
   have hy0:y 0=p+n:=by rw[hy];rfl
   have hy1:y 1=p-n:=by rw[hy];rfl
   have hyE:∀i,El u (s+(2*s+2*EE u.length R+R+1+GG u.length R)+1) (y i):=fun i=>by
    rw[hy]
    show El u _ (if i=0 then p+n else p-n)
    by_cases hi:i=0
    ·rw[if_pos hi];exact hp.add h.red.1 hnE
    ·rw[if_neg hi];exact hp.sub h.red.1 hnE
   have good:∀(k0:Nat) (L:Nat→LR) (w:Re),k0<2→(∀i,i<k0→SqN 162 u (t*y i) (L i))→In u w→w*w=t*y k0→SqY 162 u (t*y k0) w→
     ∃w,In (r::u) w∧w*w=x∧SqY 162 (r::u) x w:=by
    intro k0 L w hk hno hw hww hyw
    have key:∃m,m*m=p*p-q*q*evR u r∧y k0=p+m:=by
     rcases (show k0=0∨k0=1 by omega) with rfl | rfl
     ·exact⟨n,hnn,hy0⟩
     ·exact⟨-n,by rw[←hnn];clear ih;grind,by rw[hy1];clear ih;grind⟩
    obtain⟨m,hmm,hym⟩:=key
    have hw0:w≠0:=sq_half_ne h.red h0 hmm ht2 (by rw[hww,hym])
    have hww2:w+w≠0:=by
     intro e
     have e1:2*w=0:=by clear ih;grind
     rcases Re.eq_zero_or e1 with e | e
     ·exact two_ne e
     ·exact hw0 e
    obtain⟨j,hj,hwj⟩:=in_inv h.red.1 (in_add hw hw) hww2
    refine⟨w+q*j*rt u r,in_cons.2 ⟨_,_,hw,in_mul h.red.1 hq.mem hj,rfl⟩,?_,?_⟩
    ·rw[hxe]
     exact sq_build hmm ht2 hsq (by rw[hww,hym]) hwj rfl
    ·intro T A B hT hA hB
     exact sq_n1 h hT hA hx hxe hp hq hs h0 hn hnn ht hyn hy0 hy1 hyE (by omega) hno hk hw hww hw0 hyw hj hwj hB
   have hb:QQ u.length R (s+(2*s+2*EE u.length R+R+1+GG u.length R)+1+1+EE u.length R)≤60000000000000:=hQ _ (by omega)
   rcases ih ((hyE 0).half h.tail ht) hb with⟨w,hw,hww,hyw⟩ |⟨hno0,l0,hl0,hn0⟩
   ·exact .inl (good 0 (fun _=>[]) w (by omega) (fun i hi=>by omega) hw hww hyw)
   ·rcases ih ((hyE 1).half h.tail ht) hb with⟨w,hw,hww,hyw⟩ |⟨hno1,l1,hl1,hn1⟩
    ·exact .inl (good 1 (fun _=>l0) w (by omega) (fun i hi=>by rw[show i=0 by omega];exact hn0) hw hww hyw)
    ·refine .inr ⟨fun hS=>?_,[],Nat.zero_le _,?_⟩
     ·rcases sq_norm2 h.red hp.mem hq.mem (hxe ▸ hS) hnn ht2 with e | e
      ·exact hno0 (by rw[hy0];exact e)
      ·exact hno1 (by rw[hy1];exact e)
     ·intro T A hT hA
      exact sq_n2 h hT hA hx hxe hp hq hs h0 hn hnn ht hyn hy0 hy1 hyE (L:=fun i=>if i=0 then l0 else l1) (Nat.le_refl 2) (fun i hi=>by
       rcases (show i=0∨i=1 by omega) with rfl | rfl
       ·exact hn0
       ·exact hn1) rfl rfl
end Go.Abs
namespace Go.Abs
open Go.RowKit
variable {A B:LR} {R s:Nat} {T:List LR} {u:List (List Rat)} {v x:Re}
theorem clone_own {tn:Nat} (hl:∀x∈T,x.length≤1000000) (hl2:T.length≤1000) (htn:tn=T.length):CF 137 [.one (.sl (.sl tRat) T)] (.one (.own (.sl tRat) T tn)):=by
 refine acall_fn Tryz.func137 (by kernel_rfl) rfl fun E hE=>?_
 conv=>cbv
 intro n7 h7;have e7:=h7.eq;have f7:=h7.le;conv=>cbv
 refine⟨fun _=>⟨by omega,by omega,by show _*24≤140737488355328;omega⟩,?_⟩
 intro k8 (l8:List (el (.sl tRat))) ql8;have hk8:=ql8.1;have hl8:l8=List.replicate k8 ([]:el (.sl tRat)):=ql8.2;have gl8:l8.length=k8:=by rw[hl8,List.length_replicate]
 conv=>cbv
 intro n10 h10;have e10:=h10.eq;have f10:=h10.le;conv=>cbv
 refine .inr ?_
 obtain⟨J0,hJ0⟩:∃J:List AV→List Blk→Nat→Prop,J=fun vs bl k=>∃(o:List LR) (m i':Nat) (L i:Int),vs=[.one (.lsl (.sl tRat) 8 0 0 m),.one (.sl (.sl tRat) T),.one (.int .i64 L),.one (.int .i64 i)]∧bl=[.arr 0 (.sl tRat) o]∧(o.length=T.length∧m=T.length∧LenIs L T.length∧NatIs i i'∧i'≤T.length)∧o.take i'=T.take i'∧k=T.length-i':=⟨_,rfl⟩
 refine⟨[3,9,10,11],[8],J0,⟨T.length-0,by rw[hJ0];exact⟨l8,k8,0,n10,0,rfl,rfl,⟨by omega,by omega,h10,natIs 0,by omega⟩,rfl,rfl⟩⟩,?_⟩
 intro vs bl kk0 hj;rw[hJ0] at hj
 obtain⟨o,m,i',L,i,rfl,rfl,⟨ho,hm,hL,hi,hiL⟩,hinv,hk0⟩:=hj
 conv=>cbv
 have eL:=hL.eq
 have ei:=hi.eq
 intro n12 h12;conv=>cbv
 cases n12 <;> conv=>cbv
 ·have k12:=lss_f h12
  have hfin:T=o:=by rw[←List.take_length (l:=T),←show i'=T.length by omega,←hinv,List.take_of_length_le (by omega)]
  exact fA ⟨⟨rfl,.inr (.inl ⟨_,_,by decide,rfl,rfl,by omega,rfl,own_eq (hfin) (by rw[htn,←hfin])⟩),trivial⟩,trivial⟩ rfl (by simp)
 ·have k12:=lss_t h12
  refine .inr ?_
  obtain⟨x14,hx14⟩:=get_ex (l:=T) (i:=i') (by omega)
  refine⟨x14,fun _=>⟨by omega,by rw[show (i).toNat=i' by omega];exact hx14⟩,?_⟩
  try conv=>cbv
  refine cA hE (CloneR (hl x14 (List.mem_of_getElem? hx14))) ?_
  try conv=>cbv
  refine⟨fun _=>⟨by omega,by omega⟩,?_⟩
  intro j20 hj20;conv=>cbv
  refine⟨x14,fun _=>⟨by show _<List.length (α:=(el (.sl tRat))) o;(first | omega | (simp;omega)),by first | exact⟨rfl,trivial⟩ | exact⟨rfl,rfl,trivial⟩ | exact⟨rfl,rfl,rfl,rfl,trivial⟩ | simp[allC,leC,cells]⟩,?_⟩
  intro (l20:List (el (.sl tRat))) (hl20:l20=List.set (α:=(el (.sl tRat))) o j20 x14);have gl20:l20.length=o.length:=by rw[hl20,List.length_set]
  conv=>cbv
  intro n21 h21;conv=>cbv
  refine⟨fun _=>i64 (by omega),?_⟩
  refine⟨T.length-(i'+1),?_,?_⟩
  ·omega
  rw[hJ0]
  refine⟨l20,m,i'+1,L,n21,rfl,rfl,⟨by omega,by omega,hL,⟨by omega⟩,by omega⟩,?_,rfl⟩
  rw[hl20,show j20=i' by omega,take_set_snoc (by omega),hinv,←take_snoc hx14]
theorem clone_v (hl:∀x∈T,x.length≤1000000) (hl2:T.length≤1000):CF 137 [.one (.sl (.sl tRat) T)] (.one (.sl (.sl tRat) T)):=acall_plain (clone_own hl hl2 rfl)
theorem tw_lens (h:Twr R u) (hT:T=tw u):∀x∈T,x.length≤1000000:=by
 intro x hx
 rw[hT,tw] at hx
 obtain⟨y,hy,rfl⟩:=List.mem_map.1 hx
 obtain⟨i,hi⟩:=List.mem_iff_getElem?.1 hy
 have h1:=red_form h.red i y hi
 have h2:=getE' hi
 rw[List.length_reverse] at h2
 have h3:=h.ht
 rw[List.length_map,h1]
 exact Nat.le_trans (pow16 (by omega)) (by decide)
theorem lt_zero_sg:sgR x<0↔x<0:=by
 rcases sgR_cases x with⟨a,b⟩ |⟨a,b⟩ |⟨a,b⟩ <;> rw[b]
 ·exact⟨fun _=>a,fun _=>by decide⟩
 ·rw[a];exact⟨fun h=>absurd h (by decide),fun h=>by grind⟩
 ·exact⟨fun h=>absurd h (by decide),fun h=>by grind⟩
theorem pos_walk (h:Twr R u) (hT:T=tw u) (hA:A=em u x) (hx:El u s x) (hF:Fit u.length R s) {w:Re} (hw:In u w) (hww:w*w=x) (hy:SqY 162 u x w) (hv0:0≤v) (hvv:v*v=x) (hB:B=em u v):CF 136 [.one (.sl (.sl tRat) T),.one (.sl tRat A)] (.tup [(false,[.sl tRat B]),(false,[.bool true])]):=by
 have hwE:=hx.sqrt h hw hww
 refine acall_fn Tryz.func136 (by kernel_rfl) rfl fun E hE=>?_
 conv=>cbv
 obtain⟨w12,hw12⟩:∃z:LR,z=em u w:=⟨_,rfl⟩
 refine cA hE (hy hT hA hw12) ?_
 try conv=>cbv
 intro n15 h15;(have h15:=h15.trans (show _=false from rfl));subst h15;conv=>cbv
 obtain⟨r18,hr18⟩:∃z:Int,z=sgR w:=⟨_,rfl⟩
 refine cA hE (Signv h hT hw12 hwE hF.v hF.vR hr18) ?_
 try conv=>cbv
 intro n19 h19;conv=>cbv
 refine .inr ?_
 cases n19 <;> conv=>cbv
 ·have k19:=lss_f h19
  exact fA ⟨⟨rfl,congrArg _ (by rw[hB,hw12];congr 1;have:¬w<0:=(fun hc=>by have:=lt_zero_sg.2 hc;omega);exact Re.sq_inj hv0 (by grind) (hvv.trans hww.symm)),trivial⟩,⟨rfl,rfl,trivial⟩,trivial⟩ rfl (by simp)
 ·have k19:=lss_t h19
  obtain⟨w22,hw22⟩:∃z:LR,z=em u (-w):=⟨_,rfl⟩
  refine cA hE (Negv h hT hw12 hwE (Nat.le_trans (VV_ge u.length R _) hF.v) hw22) ?_
  try conv=>cbv
  exact fA ⟨⟨rfl,congrArg _ (by rw[hB,hw22];congr 1;have:w<0:=lt_zero_sg.1 (by omega);exact Re.sq_inj hv0 (by grind) (by rw[hvv,←hww];grind)),trivial⟩,⟨rfl,rfl,trivial⟩,trivial⟩ rfl (by simp)
theorem pos_none (h:Twr R u) (hT:T=tw u) (hA:A=em u x) (hx:El u s x) (hF:Fit u.length R s) {l:LR} (hn:SqN 162 u x l) (hB:B=[]):CF 136 [.one (.sl (.sl tRat) T),.one (.sl tRat A)] (.tup [(false,[.sl tRat B]),(false,[.bool false])]):=by
 refine acall_fn Tryz.func136 (by kernel_rfl) rfl fun E hE=>?_
 conv=>cbv
 refine cA hE (hn hT hA) ?_
 try conv=>cbv
 intro n15 h15;(have h15:=h15.trans (show _=true from rfl));subst h15;conv=>cbv
 exact fA ⟨⟨rfl,.inr (.inl ⟨_,congrArg _ (hB)⟩),trivial⟩,⟨rfl,rfl,trivial⟩,trivial⟩ rfl (by simp)
theorem pos_yes (h:Twr R u) (hT:T=tw u) (hA:A=em u x) (hx:El u s x) (hF:Fit u.length R s) (hv:In u v) (hv0:0≤v) (hvv:v*v=x) (hB:B=em u v):CF 136 [.one (.sl (.sl tRat) T),.one (.sl tRat A)] (.tup [(false,[.sl tRat B]),(false,[.bool true])]):=by
 rcases sqC h hx hF.q with⟨w,hw,hww,hy⟩ |⟨hno,_⟩
 ·exact pos_walk h hT hA hx hF hw hww hy hv0 hvv hB
 ·exact absurd ⟨v,hv,hvv⟩ hno
theorem pos_no (h:Twr R u) (hT:T=tw u) (hA:A=em u x) (hx:El u s x) (hF:Fit u.length R s) (hno:¬Sq u x) (hB:B=[]):CF 136 [.one (.sl (.sl tRat) T),.one (.sl tRat A)] (.tup [(false,[.sl tRat B]),(false,[.bool false])]):=by
 rcases sqC h hx hF.q with⟨w,hw,hww,hy⟩ |⟨_,l,_,hn⟩
 ·exact absurd ⟨w,hw,hww⟩ hno
 ·exact pos_none h hT hA hx hF hn hB
theorem Reducedv (h:Twr R u) (hT:T=tw u) (hv:VV u.length R R≤60000000000000) (hq:QQ u.length R R≤60000000000000):CF 101 [.one (.sl (.sl tRat) T)] (.one (.bool true)):=by
 have hTl:T.length=u.length:=by rw[hT,tw_len]
 have hR:=h.hR
 refine acall_fn Tryz.func101 (by kernel_rfl) rfl fun E hE=>?_
 conv=>cbv
 intro n8 h8;have e8:=h8.eq;have f8:=h8.le;conv=>cbv
 refine .inr ?_
 obtain⟨J0,hJ0⟩:∃J:List AV→List Blk→Nat→Prop,J=fun vs bl k=>∃(i':Nat) (L i:Int),vs=[.one (.sl (.sl tRat) T),.one (.sl (.sl tRat) T),.one (.int .i64 L),.one (.int .i64 i)]∧(LenIs L T.length∧NatIs i i'∧i'≤T.length)∧k=T.length-i':=⟨_,rfl⟩
 refine⟨[0,7,8,9],[],J0,⟨T.length-0,by rw[hJ0];exact⟨0,n8,0,rfl,⟨h8,natIs 0,by omega⟩,rfl⟩⟩,?_⟩
 intro vs bl kk0 hj;rw[hJ0] at hj
 obtain⟨i',L,i,rfl,⟨hL,hi,hiL⟩,hk0⟩:=hj
 conv=>cbv
 have eL:=hL.eq
 have ei:=hi.eq
 intro n10 h10;conv=>cbv
 cases n10 <;> conv=>cbv
 ·have k10:=lss_f h10
  exact fA ⟨⟨rfl,rfl,trivial⟩,trivial⟩ rfl (by simp)
 ·have k10:=lss_t h10
  refine .inr ?_
  obtain⟨x12,hx12⟩:=get_ex (l:=T) (i:=i') (by omega)
  refine⟨x12,fun _=>⟨by omega,by rw[show (i).toNat=i' by omega];exact hx12⟩,?_⟩
  try conv=>cbv
  obtain⟨r,hrp,hri⟩:=pre_succ (u:=u) (i:=i') (by omega)
  have hrd:Red (r::pre u i'):=hrp ▸ (h.pre (i'+1)).red
  have hrx:x12=rps r:=by rw[←hT,hx12] at hri;exact Option.some.inj hri
  have hx13e:x12=em (pre u i') (evR (pre u i') r):=hrx.trans (em_rad hrd)
  have hrE:El (pre u i') R (evR (pre u i') r):=El.rad (hrp ▸ h.pre (i'+1))
  intro m16 hm16;conv=>cbv
  refine⟨fun _=>⟨by omega,by omega⟩,?_⟩
  intro b16 hb16;conv=>cbv
  intro l16 hl16;conv=>cbv
  have hl16e:l16=tw (pre u i'):=by rw[hl16,List.drop_zero,show b16=i' by omega,hT,pre_take]
  refine cL (r:= .one (.bool true)) hE (Formed_ok hl16e (h.pre i').tow hx13e (hrE.smalls hR) (by rw[hrE.len,List.length_reverse];exact (decide_eq_true rfl).symm)) ⟨rfl,rfl,trivial⟩ ?_
  try conv=>cbv
  intro n19 h19;(have h19:=h19.trans (show _=false from rfl));subst h19;conv=>cbv
  intro m23 hm23;conv=>cbv
  refine⟨fun _=>⟨by omega,by omega⟩,?_⟩
  intro b23 hb23;conv=>cbv
  intro l23 hl23;conv=>cbv
  have hl23e:l23=tw (pre u i'):=by rw[hl23,List.drop_zero,show b23=i' by omega,hT,pre_take]
  obtain⟨r25,hr25⟩:∃z:Int,z=sgR (evR (pre u i') r):=⟨_,rfl⟩
  refine cL (r:= .one (.int .i64 r25)) hE (Signv (h.pre i') hl23e hx13e hrE (by rw[pre_len (by omega)];exact Nat.le_trans (VV_le (by omega) R R) hv) (by rw[pre_len (by omega)];exact Nat.le_trans (VV_le (by omega) R R) hv) hr25) ⟨rfl,rfl,trivial⟩ ?_
  try conv=>cbv
  intro n26 h26;conv=>cbv
  cases n26 <;> conv=>cbv
  ·have k26:=neq_f h26
   intro m31 hm31;conv=>cbv
   refine⟨fun _=>⟨by omega,by omega⟩,?_⟩
   intro b31 hb31;conv=>cbv
   intro l31 hl31;conv=>cbv
   have hl31e:l31=tw (pre u i'):=by rw[hl31,List.drop_zero,show b31=i' by omega,hT,pre_take]
   obtain⟨l,hl,hn⟩:=((sqC (h.pre i') hrE (by rw[pre_len (by omega)];exact Nat.le_trans (QQ_le (by omega) R R) hq)).resolve_left (fun⟨w,hw,hww,_⟩=>hrd.2.2.2 ⟨w,hw,hww⟩)).2
   refine cA hE (hn hl31e hx13e) ?_
   try conv=>cbv
   intro n37 h37;conv=>cbv
   refine⟨fun _=>i64 (by omega),?_⟩
   refine⟨T.length-(i'+1),?_,?_⟩
   ·omega
   rw[hJ0]
   exact⟨i'+1,L,n37,rfl,⟨hL,⟨by omega⟩,by omega⟩,rfl⟩
  ·have k26:=neq_t h26
   exact absurd k26 (by rw[hr25,sgR_pos hrd.2.2.1];omega)
theorem ad_in (h:Twr R u) (hT:T=tw u) (hA:A=em u x) (hx:El u s x) (hF:Fit u.length R s) (hv:In u v) (hv0:0≤v) (hvv:v*v=x) (hB:B=em u v):CF 72 [.one (.sl (.sl tRat) T),.one (.sl tRat A)] (.tup [(false,[.sl (.sl tRat) T]),(false,[.sl tRat B]),(false,[.int .i64 0])]):=by
 have hTl:T.length=u.length:=by rw[hT,tw_len]
 have hht:=h.ht
 have hxn:¬x<0:=by rw[←hvv];have:=Re.sq_nn v;grind
 refine acall_fn Tryz.func72 (by kernel_rfl) rfl fun E hE=>?_
 conv=>cbv
 refine .inr ?_
 refine cL (r:= .one (.bool true)) hE (Formed_ok hT h.tow hA (hx.smalls hF.s) (by rw[hx.len,List.length_reverse];exact (decide_eq_true rfl).symm)) ⟨rfl,rfl,trivial⟩ ?_
 try conv=>cbv
 intro n14 h14;(have h14:=h14.trans (show _=false from rfl));subst h14;conv=>cbv
 refine cA hE (Reducedv h hT hF.vR hF.qR) ?_
 try conv=>cbv
 intro n18 h18;(have h18:=h18.trans (show _=false from rfl));subst h18;conv=>cbv
 obtain⟨r23,hr23⟩:∃z:Int,z=sgR x:=⟨_,rfl⟩
 refine cA hE (Signv h hT hA hx hF.v0 hF.vR hr23) ?_
 try conv=>cbv
 intro n24 h24;conv=>cbv
 cases n24 <;> conv=>cbv
 ·have k24:=lss_f h24
  refine cA hE (pos_yes h hT hA hx hF hv hv0 hvv hB) ?_
  try conv=>cbv
  refine cL hE (clone_v (tw_lens h hT) (by omega)) ⟨rfl,trivial⟩ ?_
  try conv=>cbv
  exact fA ⟨⟨rfl,rfl,trivial⟩,⟨rfl,rfl,trivial⟩,⟨rfl,rfl,trivial⟩,trivial⟩ rfl (by simp)
 ·have k24:=lss_t h24
  exact absurd ((lt_zero_sg (x:=x)).1 (by omega)) hxn
theorem ad_new (h:Twr R u) (hT:T=tw u) (hA:A=em u x) (hx:El u s x) (hF:Fit u.length R s) {R':Nat} {r:List Rat} {T2:List LR} (h8:u.length<8) (hxn:0≤x) (hno:¬Sq u x) (hr:r=co u x) (h':Twr R' (r::u)) (hT2:T2=tw (r::u)) (hB:B=em (r::u) (rt u r)):CF 72 [.one (.sl (.sl tRat) T),.one (.sl tRat A)] (.tup [(false,[.sl (.sl tRat) T2]),(false,[.sl tRat B]),(false,[.int .i64 0])]):=by
 have hTl:T.length=u.length:=by rw[hT,tw_len]
 have hht:=h.ht
 refine acall_fn Tryz.func72 (by kernel_rfl) rfl fun E hE=>?_
 conv=>cbv
 refine .inr ?_
 refine cL (r:= .one (.bool true)) hE (Formed_ok hT h.tow hA (hx.smalls hF.s) (by rw[hx.len,List.length_reverse];exact (decide_eq_true rfl).symm)) ⟨rfl,rfl,trivial⟩ ?_
 try conv=>cbv
 intro n14 h14;(have h14:=h14.trans (show _=false from rfl));subst h14;conv=>cbv
 refine cA hE (Reducedv h hT hF.vR hF.qR) ?_
 try conv=>cbv
 intro n18 h18;(have h18:=h18.trans (show _=false from rfl));subst h18;conv=>cbv
 obtain⟨r23,hr23⟩:∃z:Int,z=sgR x:=⟨_,rfl⟩
 refine cA hE (Signv h hT hA hx hF.v0 hF.vR hr23) ?_
 try conv=>cbv
 intro n24 h24;conv=>cbv
 cases n24 <;> conv=>cbv
 ·have k24:=lss_f h24
  refine cA hE (pos_no h hT hA hx hF hno rfl) ?_
  try conv=>cbv
  intro n36 h36;have e36:=h36.eq;have f36:=h36.le;conv=>cbv
  intro n37 h37;conv=>cbv
  cases n37 <;> conv=>cbv
  ·have k37:=geq_f h37
   obtain⟨tn,htn⟩:∃n:Nat,n=T.length:=⟨_,rfl⟩
   refine cL hE (clone_own (tw_lens h hT) (by omega) htn) ⟨rfl,trivial⟩ ?_
   try conv=>cbv
   have hAl:A.length=2^u.length:=by rw[hA,em_len hx.mem]
   have hp16:=pow16 h.ht
   refine cL hE (CloneR (by omega)) ⟨rfl,trivial⟩ ?_
   try conv=>cbv
   refine⟨[A],fun _=>⟨rfl,by decide,rfl,⟨rfl,by first | exact⟨rfl,trivial⟩ | exact⟨rfl,rfl,trivial⟩ | exact⟨rfl,rfl,rfl,rfl,trivial⟩ | simp[allC,leC,cells],trivial⟩⟩,.inr ?_⟩
   try conv=>cbv
   refine .inr ⟨[A],fun _=>⟨rfl,by rw[htn],rfl,by show (T.length+1)*24≤140737488355328;(try simp only[List.length_take,List.length_drop]);omega⟩,?_⟩
   intro (l43:List (el (.sl tRat))) n43 ql43;have hl43:l43=(T:List (el (.sl tRat)))++([A]:List (el (.sl tRat))):=ql43.1;have hn43:n43=List.length (α:=(el (.sl tRat))) l43:=ql43.2;conv=>cbv
   refine⟨fun _=>hn43,?_⟩
   intro n47 h47;have e47:=h47.eq;have f47:=h47.le;conv=>cbv
   have hl43e:l43=tw (r::u):=by rw[hl43,hT,tw_cons,hA,em,hr]
   refine cA hE (Rootv h' hl43e (NatIs.of (e47.trans (congrArg _ hTl))) hB) ?_
   try conv=>cbv
   exact fA ⟨⟨rfl,congrArg _ (by rw[hT2,hl43e]),trivial⟩,⟨rfl,rfl,trivial⟩,⟨rfl,rfl,trivial⟩,trivial⟩ rfl (by simp)
  ·have k37:=geq_t h37
   exact absurd k37 (by omega)
 ·have k24:=lss_t h24
  exact absurd ((lt_zero_sg (x:=x)).1 (by omega)) (by grind)
end Go.Abs
