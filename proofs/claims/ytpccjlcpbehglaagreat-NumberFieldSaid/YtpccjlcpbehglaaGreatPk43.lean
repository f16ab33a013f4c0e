/- Part 44 of a proof. Conditions: each theorem's own. -/
import Derived.Test.YtpccjlcpbehglaaGreatPk41
import Derived.Test.YtpccjlcpbehglaaGreatPk42
set_option linter.all false
set_option maxHeartbeats 8000000
open Go.Proofs
namespace Go.Abs
open Go.RowKit
variable {A:LR} {T:List LR} {q:Rat}
theorem Ysq_base_ok {B:LR} {r:Rat} (hT:T=[]) (hA:A=[rp q]) (hB:B=[rp r]) (hs:SmallQ q) (h0:0≤r) (hr:r*r=q):CF 96 [.one (.sl (.sl tRat) T),.one (.sl tRat A)] (.tup [(false,[.sl tRat B]),(false,[.bool true])]):=by
 refine acall_fn Tryz.func96 (by kernel_rfl) rfl fun E hE=>?_
 conv=>cbv
 intro n31 h31;have e31:=h31.eq;have f31:=h31.le;conv=>cbv
 intro n32 h32;conv=>cbv
 cases n32 <;> conv=>cbv
 ·have k32:=eql_f h32
  exact absurd (by rw[e31,hT];rfl) k32
 ·have k32:=eql_t h32
  have hAl:A.length=1:=by rw[hA];rfl
  obtain⟨x35,hx35⟩:=get_ex (l:=A) (i:=0) (by omega)
  refine⟨x35,fun _=>⟨by omega,hx35⟩,?_⟩
  try conv=>cbv
  obtain⟨zb37,zl37,yb37,yl37,hz37⟩:=isR_ex r
  refine cA hE (YRSqrt_ok (one_rp hA hx35) hs h0 hr hz37) ?_
  try conv=>cbv
  refine⟨[((zb37,zl37),(yb37,yl37))],fun _=>⟨rfl,by decide,rfl,⟨rfl,by first | exact⟨rfl,trivial⟩ | exact⟨rfl,rfl,trivial⟩ | exact⟨rfl,rfl,rfl,rfl,trivial⟩ | simp[allC,leC,cells],trivial⟩⟩,.inl ?_⟩
  try conv=>cbv
  exact fA ⟨⟨rfl,.inl ⟨_,rfl,by simp,congrArg _ (by rw[hB,hz37.rp];rfl)⟩,trivial⟩,⟨rfl,rfl,trivial⟩,trivial⟩ rfl (by simp)
theorem Ysq_base_no {l:LR} (hT:T=[]) (hA:A=[rp q]) (hl:l=[(((false,[]),(false,[])):el tRat)]) (hs:SmallQ q) (hr:¬∃r:Rat,0≤r∧r*r=q):CF 96 [.one (.sl (.sl tRat) T),.one (.sl tRat A)] (.tup [(false,[.sl tRat l]),(false,[.bool false])]):=by
 refine acall_fn Tryz.func96 (by kernel_rfl) rfl fun E hE=>?_
 conv=>cbv
 intro n31 h31;have e31:=h31.eq;have f31:=h31.le;conv=>cbv
 intro n32 h32;conv=>cbv
 cases n32 <;> conv=>cbv
 ·have k32:=eql_f h32
  exact absurd (by rw[e31,hT];rfl) k32
 ·have k32:=eql_t h32
  have hAl:A.length=1:=by rw[hA];rfl
  obtain⟨x35,hx35⟩:=get_ex (l:=A) (i:=0) (by omega)
  refine⟨x35,fun _=>⟨by omega,hx35⟩,?_⟩
  try conv=>cbv
  refine cA hE (YRSqrt_none (one_rp hA hx35) hs hr) ?_
  try conv=>cbv
  refine⟨[((false,[]),(false,[]))],fun _=>⟨rfl,by decide,rfl,⟨rfl,by first | exact⟨rfl,trivial⟩ | exact⟨rfl,rfl,trivial⟩ | exact⟨rfl,rfl,rfl,rfl,trivial⟩ | simp[allC,leC,cells],trivial⟩⟩,.inl ?_⟩
  try conv=>cbv
  exact fA ⟨⟨rfl,.inl ⟨_,rfl,by simp,congrArg _ (by rw[hl];rfl)⟩,trivial⟩,⟨rfl,rfl,trivial⟩,trivial⟩ rfl (by simp)
def YSqC (R:Nat) (u:List (List Rat)):Prop:=∀{s:Nat} {x:Re},El u s x→SS u.length R s≤60000000000000→VV u.length R R≤60000000000000→(∃w,In u w∧w*w=x∧YSqY u x w)∨(¬Sq u x∧∃l,YSqN u x l)
theorem ysqC {u:List (List Rat)} {R:Nat} (h:Twr R u):YSqC R u:=by
 induction u with
 | nil=>
  intro s x hx hs hvR
  obtain⟨q,rfl⟩:=in_nil.1 hx.mem
  have hsm:SmallQ q:=by
   have:=hx.smalls (by have:=SS_ge ([]:List (List Rat)).length R s;omega)
   rw[co_nil] at this;exact this q List.mem_cons_self
  by_cases hr:∃r:Rat,0≤r∧r*r=q
  ·obtain⟨r,h0,hr⟩:=hr
   refine .inl ⟨Re.ofRat r,in_rat r _,by rw[←Re.ofRat_mul,hr],?_⟩
   intro T A B hT hA hB
   exact Ysq_base_ok hT (hA.trans (em_nil q)) (hB.trans (em_nil r)) hsm h0 hr
  ·exact .inr ⟨fun hs=>hr (sq_nil.1 hs),_,fun hT hA=>Ysq_base_no hT (hA.trans (em_nil q)) rfl hsm hr⟩
 | cons r u ih=>
  have ih:YSqC R u:=ih h.tail
  intro s x hx hs hvR
  obtain⟨p,q,hxe,hp,hq⟩:=El.parts h.red hx
  by_cases hneg:x<0
  ·refine .inr ⟨?_,[],fun hT hA=>Ysq_neg h hT hA hx hxe hp hq hs hvR hneg⟩
   rintro⟨w,_,hw⟩
   have:=Re.sq_nn w
   clear ih;grind
  have h0x:0≤x:=by clear ih;grind
  have hTQ:TQ u.length R s=3*s+4*EE u.length R+R+GG u.length R+3+II u.length R R:=rfl
  have hsd:SS u.length R (TQ u.length R s)≤SS (r::u).length R s:=SS_d u.length R s
  have hQ:∀s',s'≤TQ u.length R s→SS u.length R s'≤60000000000000:=fun s' h'=>Nat.le_trans (SS_mono u.length R h') (by omega)
  have hvR':VV u.length R R≤60000000000000:=Nat.le_trans (VV_up u.length R R) hvR
  have hrr:=El.rad h
  have hsq:=rt_sq h.red
  by_cases h0:q=0
  ·have hx0:x=p:=by rw[hxe,h0];clear ih;grind
   rcases ih hp (hQ _ (by omega)) hvR' with⟨w,hw,hww,hy⟩ |⟨hno,l,hn⟩
   ·refine .inl ⟨w,in_up hw,by rw[hx0];exact hww,?_⟩
    intro T A B hT hA hB
    exact Ysq_z1 h hT hA hx hxe hp hq hs hvR h0x h0 hw hy hB
   ·obtain⟨i,hi,hri⟩:=in_inv h.red.1 (in_rad h.red) (by have:=h.red.2.2.1;grind)
    have hib:=hrr.inv h.tail hi hri
    rcases ih (hp.mul h.tail hib) (hQ _ (by omega)) hvR' with⟨w,hw,hww,hy⟩ |⟨hno2,l2,hn2⟩
    ·refine .inl ⟨w*rt u r,in_cons.2 ⟨0,w,in_zero u,hw,by clear ih;grind⟩,?_,?_⟩
     ·have:p=p*(evR u r*i):=by rw[hri];clear ih;grind
      rw[hx0];clear ih;grind
     ·intro T A B hT hA hB
      exact Ysq_z2 h hT hA hx hxe hp hq hs hvR h0x h0 hi hri hn hw hy hB
    ·refine .inr ⟨?_,[],?_⟩
     ·rw[hx0,sq_low h.red hp.mem]
      rintro (h1 |⟨i',hi',hri',h1⟩)
      ·exact hno h1
      ·have:i'=i:=by
        have:i'=i'*(evR u r*i):=by rw[hri];clear ih;grind
        have h2:i=i*(evR u r*i'):=by rw[hri'];clear ih;grind
        clear ih;grind
       rw[this] at h1
       exact hno2 h1
     ·intro T A hT hA
      exact Ysq_z3 h hT hA hx hxe hp hq hs hvR h0x h0 hi hri hn hn2
  ·have hN:=El.norm h hp.mem hq.mem (hxe ▸ hx)
   rcases ih hN (hQ _ (by omega)) hvR' with⟨n,hn,hnn,hyn⟩ |⟨hno,l,hnl⟩
   rotate_left
   ·exact .inr ⟨fun hS=>hno (sq_norm1 h.red hp.mem hq.mem (hxe ▸ hS)),[],fun hT hA=>Ysq_n0 h hT hA hx hxe hp hq hs hvR h0x h0 hnl⟩
   have hnE:=hN.sqrt h.tail hn hnn
   obtain⟨t,ht⟩:∃t:Re,t=Re.ofRat (1/2):=⟨_,rfl⟩
   have ht2:=half_two ht
   have htE:El u 1 t:=by rw[ht];exact El.rat h.red.1 bd_half
   obtain⟨y,hy⟩:∃y:Nat→Re,y=fun i=>if i=0 then p+n else p-n:=⟨_,rfl⟩
   have hy0:y 0=p+n:=by rw[hy];rfl
   have hy1:y 1=p-n:=by rw[hy];rfl
   have hyE:∀i,El u (s+(2*s+2*EE u.length R+R+1+GG u.length R)+1) (y i):=fun i=>by
    rw[hy]
    show El u _ (if i=0 then p+n else p-n)
    by_cases hi:i=0
    ·rw[if_pos hi];exact hp.add h.red.1 hnE
    ·rw[if_neg hi];exact hp.sub h.red.1 hnE
   have good:∀(k0:Nat) (L:Nat→LR) (w:Re),k0<2→(∀i,i<k0→YSqN u (t*y i) (L i))→In u w→w*w=t*y k0→YSqY u (t*y k0) w→
     ∃w,In (r::u) w∧w*w=x∧YSqY (r::u) x w:=by
    intro k0 L w hk hno hw hww hyw
    have key:∃m,m*m=p*p-q*q*evR u r∧y k0=p+m:=by
     rcases (show k0=0∨k0=1 by omega) with rfl | rfl
     ·exact⟨n,hnn,hy0⟩
     ·exact⟨-n,by rw[←hnn];clear ih;grind,by rw[hy1];clear ih;grind⟩
    obtain⟨m,hmm,hym⟩:=key
    have hw0:w≠0:=sq_half_ne h.red h0 hmm ht2 (by rw[hww,hym])
    obtain⟨j,hj,hwj⟩:=in_inv h.red.1 hw hw0
    have htj:In u (t*(q*j)):=in_mul h.red.1 htE.mem (in_mul h.red.1 hq.mem hj)
    refine⟨w+t*(q*j)*rt u r,in_cons.2 ⟨_,_,hw,htj,rfl⟩,?_,?_⟩
    ·rw[hxe]
     exact sq_build hmm ht2 hsq (by rw[hww,hym]) (i:=t*j) (by have:(w+w)*(t*j)=2*t*(w*j):=by clear ih;grind
                                                              rw[this,ht2,hwj];clear ih;grind) (by clear ih;grind)
    ·intro T A B hT hA hB
     exact Ysq_n1 h hT hA hx hxe hp hq hs hvR h0x h0 hn hnn ht hyn hy0 hy1 hyE (by omega) hno hk hw hww hyw hj hwj hB
   rcases ih (htE.mul h.tail (hyE 0)) (hQ _ (by omega)) hvR' with⟨w,hw,hww,hyw⟩ |⟨hno0,l0,hn0⟩
   ·exact .inl (good 0 (fun _=>[]) w (by omega) (fun i hi=>by omega) hw hww hyw)
   ·rcases ih (htE.mul h.tail (hyE 1)) (hQ _ (by omega)) hvR' with⟨w,hw,hww,hyw⟩ |⟨hno1,l1,hn1⟩
    ·exact .inl (good 1 (fun _=>l0) w (by omega) (fun i hi=>by rw[show i=0 by omega];exact hn0) hw hww hyw)
    ·refine .inr ⟨fun hS=>?_,[],?_⟩
     ·rcases sq_norm2 h.red hp.mem hq.mem (hxe ▸ hS) hnn ht2 with e | e
      ·exact hno0 (by rw[hy0];exact e)
      ·exact hno1 (by rw[hy1];exact e)
     ·intro T A hT hA
      exact Ysq_n2 h hT hA hx hxe hp hq hs hvR h0x h0 hn hnn ht hyn hy0 hy1 hyE (L:=fun i=>if i=0 then l0 else l1) (Nat.le_refl 2) (fun i hi=>by
       rcases (show i=0∨i=1 by omega) with rfl | rfl
       ·exact hn0
       ·exact hn1) rfl
end Go.Abs
namespace Go.Abs
open Go.RowKit
variable {A:LR} {R:Nat} {T X Y:List LR} {b1 b2 c:Bool} {g:FuncId} {l1 l2:List UInt32} {u w:List (List Rat)} {x:Re} {xs ys:List Rat}
theorem cmpQ_zero (p q:Rat):decide (p=q)=(cmpQ p q==0):=by
 rw[Bool.eq_iff_iff,decide_eq_true_eq,beq_iff_eq]
 unfold cmpQ
 split
 ·rename_i h;exact⟨fun e=>by subst e;grind,fun e=>by omega⟩
 ·split
  ·rename_i h;exact⟨fun e=>by subst e;grind,fun e=>by omega⟩
  ·exact⟨fun _=>rfl,fun _=>by grind⟩
theorem rp_inj {p q:Rat} (h:rp p=rp q):p=q:=by
 have h1:=isR_rp p
 rw[h] at h1
 have h2:=isR_rp q
 have e1:=h1.num.nat;have e2:=h2.num.nat
 have s1:=h1.num.sgn;have s2:=h2.num.sgn
 have d1:=h1.den.sgn;have d2:=h2.den.sgn
 exact Rat.ext (s1.trans s2.symm) (by have:=d1.trans d2.symm;omega)
theorem rps_inj (h:rps xs=rps ys):xs=ys:=List.map_inj_right (fun _ _=>rp_inj) |>.1 h
def eqF {α:Type} (p:α→α→Bool):List α→List α→Bool
 | [],[]=>true
 | x::X,y::Y=>p x y&&eqF p X Y
 | _,_=>false
theorem eqF_len {α:Type} {p:α→α→Bool}:∀{X Y:List α},X.length≠Y.length→eqF p X Y=false
 | [],[],h=>absurd rfl h
 | [],_::_,_=>rfl
 | _::_,[],_=>rfl
 | x::X,y::Y,h=>by rw[eqF,eqF_len (X:=X) (Y:=Y) (by simpa using h),Bool.and_false]
theorem eqF_drop {α:Type} {p:α→α→Bool} {X Y:List α} {i:Nat} {x y:α} (hx:X[i]? =some x) (hy:Y[i]? =some y):eqF p (X.drop i) (Y.drop i)=(p x y&&eqF p (X.drop (i+1)) (Y.drop (i+1))):=by
 have h1:=getE hx;have h2:=getE hy
 rw[List.drop_eq_getElem_cons h1,List.drop_eq_getElem_cons h2,eqF]
 rw[List.getElem?_eq_getElem h1] at hx;rw[List.getElem?_eq_getElem h2] at hy
 rw[Option.some.inj hx,Option.some.inj hy]
theorem eqF_iff {α:Type} {p:α→α→Bool}:∀{X Y:List α},(∀x∈X,∀y∈Y,(p x y=true↔x=y))→(eqF p X Y=true↔X=Y)
 | [],[],_=>by simp[eqF]
 | [],_::_,_=>by simp[eqF]
 | _::_,[],_=>by simp[eqF]
 | x::X,y::Y,h=>by
  rw[eqF,Bool.and_eq_true,h x List.mem_cons_self y List.mem_cons_self,eqF_iff (fun a ha b hb=>h a (List.mem_cons_of_mem _ ha) b (List.mem_cons_of_mem _ hb))]
  simp
theorem same1_ok {p q:Rat} {c1 c2:Bool} {m1 m2:List UInt32} (hx:IsR p b1 l1 b2 l2) (hy:IsR q c1 m1 c2 m2) (hs:SmallQ p) (ht:SmallQ q) (hc:c=decide (p=q)):CF 146 [.agg [.bool b1,.sl .u32 l1,.bool b2,.sl .u32 l2],.agg [.bool c1,.sl .u32 m1,.bool c2,.sl .u32 m2]] (.one (.bool c)):=by
 refine acall_fn Tryz.func146 (by kernel_rfl) rfl fun E hE=>?_
 conv=>cbv
 obtain⟨r7,hr7⟩:∃z:Int,z=cmpQ p q:=⟨_,rfl⟩
 refine cA hE (RCmp_ok hx hy hs ht hr7) ?_
 try conv=>cbv
 intro n8 h8;conv=>cbv
 exact fA ⟨⟨rfl,congrArg _ (by rw[hc,h8,hr7];exact cmpQ_zero p q),trivial⟩,trivial⟩ rfl (by simp)
theorem EqualR_ok {X Y:LR} {p:el tRat→el tRat→Bool} (hg:∀x∈X,∀y∈Y,CF g [.agg (cells tRat x),.agg (cells tRat y)] (.one (.bool (p x y)))) (hc:c=eqF p X Y):CF 145 [.one (.sl tRat X),.one (.sl tRat Y),.one (.fn g)] (.one (.bool c)):=by
 refine acall_fn Tryz.func145 (by kernel_rfl) rfl fun E hE=>?_
 conv=>cbv
 intro n11 h11;have e11:=h11.eq;have f11:=h11.le;conv=>cbv
 intro n13 h13;have e13:=h13.eq;have f13:=h13.le;conv=>cbv
 intro n14 h14;conv=>cbv
 cases n14 <;> conv=>cbv
 ·have k14:=neq_f h14
  intro n16 h16;have e16:=h16.eq;have f16:=h16.le;conv=>cbv
  refine .inr ?_
  obtain⟨J0,hJ0⟩:∃J:List AV→List Blk→Nat→Prop,J=fun vs bl k=>∃(i':Nat) (L i:Int),vs=[.one (.sl tRat Y),.one (.fn g),.one (.sl tRat X),.one (.int .i64 L),.one (.int .i64 i)]∧(LenIs L X.length∧NatIs i i'∧i'≤X.length)∧c=eqF p (X.drop i') (Y.drop i')∧k=X.length-i':=⟨_,rfl⟩
  refine⟨[1,2,15,16,17],[],J0,⟨X.length-0,by rw[hJ0];exact⟨0,n16,0,rfl,⟨h16,natIs 0,by omega⟩,hc,rfl⟩⟩,?_⟩
  intro vs bl kk0 hj;rw[hJ0] at hj
  obtain⟨i',L,i,rfl,⟨hL,hi,hiL⟩,hinv,hk0⟩:=hj
  conv=>cbv
  have eL:=hL.eq
  have ei:=hi.eq
  intro n18 h18;conv=>cbv
  cases n18 <;> conv=>cbv
  ·have k18:=lss_f h18
   exact fA ⟨⟨rfl,congrArg _ (by rw[hinv,List.drop_eq_nil_of_le (by omega),List.drop_eq_nil_of_le (by omega)];rfl),trivial⟩,trivial⟩ rfl (by simp)
  ·have k18:=lss_t h18
   refine .inr ?_
   obtain⟨x20,hx20⟩:=get_ex (l:=X) (i:=i') (by omega)
   refine⟨x20,fun _=>⟨by omega,by rw[show (i).toNat=i' by omega];exact hx20⟩,?_⟩
   try conv=>cbv
   obtain⟨x24,hx24⟩:=get_ex (l:=Y) (i:=i') (by omega)
   refine⟨x24,fun _=>⟨by omega,by rw[show (i).toNat=i' by omega];exact hx24⟩,?_⟩
   try conv=>cbv
   obtain⟨b29,hb29⟩:∃z:Bool,z=p x20 x24:=⟨_,rfl⟩
   refine .inl ⟨[.agg [.bool x20.1.1,.sl .u32 x20.1.2,.bool x20.2.1,.sl .u32 x20.2.2],.agg [.bool x24.1.1,.sl .u32 x24.1.2,.bool x24.2.1,.sl .u32 x24.2.2]],.one (.bool b29),fun _=>⟨⟨rfl,rfl,rfl,rfl,trivial⟩,⟨rfl,rfl,rfl,rfl,trivial⟩,trivial⟩,fun _=>useC hE ((by rw[hb29];exact hg x20 (List.mem_of_getElem? hx20) x24 (List.mem_of_getElem? hx24))),?_⟩
   try conv=>cbv
   intro n30 h30;conv=>cbv
   cases n30 <;> conv=>cbv
   ·have k30:=not_f h30
    intro n31 h31;conv=>cbv
    refine⟨fun _=>i64 (by omega),?_⟩
    refine⟨X.length-(i'+1),?_,?_⟩
    ·omega
    rw[hJ0]
    refine⟨i'+1,L,n31,rfl,⟨hL,⟨by omega⟩,by omega⟩,?_,rfl⟩
    rw[hinv,eqF_drop hx20 hx24,←hb29,not_f h30,Bool.true_and]
   ·have k30:=not_t h30
    exact fA ⟨⟨rfl,congrArg _ (by rw[hinv,eqF_drop hx20 hx24,←hb29,not_t h30];rfl),trivial⟩,trivial⟩ rfl (by simp)
 ·have k14:=neq_t h14
  exact fA ⟨⟨rfl,congrArg _ (by rw[hc];exact eqF_len (by omega)),trivial⟩,trivial⟩ rfl (by simp)
theorem EqualV_ok {p:LR→LR→Bool} (hg:∀x∈X,∀y∈Y,CF g [.one (.sl tRat x),.one (.sl tRat y)] (.one (.bool (p x y)))) (hc:c=eqF p X Y):CF 144 [.one (.sl (.sl tRat) X),.one (.sl (.sl tRat) Y),.one (.fn g)] (.one (.bool c)):=by
 refine acall_fn Tryz.func144 (by kernel_rfl) rfl fun E hE=>?_
 conv=>cbv
 intro n11 h11;have e11:=h11.eq;have f11:=h11.le;conv=>cbv
 intro n13 h13;have e13:=h13.eq;have f13:=h13.le;conv=>cbv
 intro n14 h14;conv=>cbv
 cases n14 <;> conv=>cbv
 ·have k14:=neq_f h14
  intro n16 h16;have e16:=h16.eq;have f16:=h16.le;conv=>cbv
  refine .inr ?_
  obtain⟨J0,hJ0⟩:∃J:List AV→List Blk→Nat→Prop,J=fun vs bl k=>∃(i':Nat) (L i:Int),vs=[.one (.sl (.sl tRat) Y),.one (.fn g),.one (.sl (.sl tRat) X),.one (.int .i64 L),.one (.int .i64 i)]∧(LenIs L X.length∧NatIs i i'∧i'≤X.length)∧c=eqF p (X.drop i') (Y.drop i')∧k=X.length-i':=⟨_,rfl⟩
  refine⟨[1,2,15,16,17],[],J0,⟨X.length-0,by rw[hJ0];exact⟨0,n16,0,rfl,⟨h16,natIs 0,by omega⟩,hc,rfl⟩⟩,?_⟩
  intro vs bl kk0 hj;rw[hJ0] at hj
  obtain⟨i',L,i,rfl,⟨hL,hi,hiL⟩,hinv,hk0⟩:=hj
  conv=>cbv
  have eL:=hL.eq
  have ei:=hi.eq
  intro n18 h18;conv=>cbv
  cases n18 <;> conv=>cbv
  ·have k18:=lss_f h18
   exact fA ⟨⟨rfl,congrArg _ (by rw[hinv,List.drop_eq_nil_of_le (by omega),List.drop_eq_nil_of_le (by omega)];rfl),trivial⟩,trivial⟩ rfl (by simp)
  ·have k18:=lss_t h18
   refine .inr ?_
   obtain⟨x20,hx20⟩:=get_ex (l:=X) (i:=i') (by omega)
   refine⟨x20,fun _=>⟨by omega,by rw[show (i).toNat=i' by omega];exact hx20⟩,?_⟩
   try conv=>cbv
   obtain⟨x24,hx24⟩:=get_ex (l:=Y) (i:=i') (by omega)
   refine⟨x24,fun _=>⟨by omega,by rw[show (i).toNat=i' by omega];exact hx24⟩,?_⟩
   try conv=>cbv
   obtain⟨b29,hb29⟩:∃z:Bool,z=p x20 x24:=⟨_,rfl⟩
   refine .inl ⟨[.one (.sl tRat x20),.one (.sl tRat x24)],.one (.bool b29),fun _=>⟨rfl,rfl,trivial⟩,fun _=>useC hE ((by rw[hb29];exact hg x20 (List.mem_of_getElem? hx20) x24 (List.mem_of_getElem? hx24))),?_⟩
   try conv=>cbv
   intro n30 h30;conv=>cbv
   cases n30 <;> conv=>cbv
   ·have k30:=not_f h30
    intro n31 h31;conv=>cbv
    refine⟨fun _=>i64 (by omega),?_⟩
    refine⟨X.length-(i'+1),?_,?_⟩
    ·omega
    rw[hJ0]
    refine⟨i'+1,L,n31,rfl,⟨hL,⟨by omega⟩,by omega⟩,?_,rfl⟩
    rw[hinv,eqF_drop hx20 hx24,←hb29,not_f h30,Bool.true_and]
   ·have k30:=not_t h30
    exact fA ⟨⟨rfl,congrArg _ (by rw[hinv,eqF_drop hx20 hx24,←hb29,not_t h30];rfl),trivial⟩,trivial⟩ rfl (by simp)
 ·have k14:=neq_t h14
  exact fA ⟨⟨rfl,congrArg _ (by rw[hc];exact eqF_len (by omega)),trivial⟩,trivial⟩ rfl (by simp)
theorem same_test (hs:Smalls xs) (ht:Smalls ys):∀x∈rps xs,∀y∈rps ys,CF 146 [.agg (cells tRat x),.agg (cells tRat y)] (.one (.bool (decide (x=y)))):=by
 intro x hx y hy
 obtain⟨p,hp,rfl⟩:=List.mem_map.1 hx
 obtain⟨q,hq,rfl⟩:=List.mem_map.1 hy
 refine same1_ok (isR_rp p) (isR_rp q) (hs p hp) (ht q hq) ?_
 by_cases h:p=q
 ·subst h;simp
 ·rw[decide_eq_false h,decide_eq_false (fun e=>h (rp_inj e))]
theorem same_ok {X Y:LR} (hX:X=rps xs) (hY:Y=rps ys) (hs:Smalls xs) (ht:Smalls ys) (hc:c=decide (X=Y)):CF 78 [.one (.sl tRat X),.one (.sl tRat Y)] (.one (.bool c)):=by
 refine acall_fn Tryz.func78 (by kernel_rfl) rfl fun E hE=>?_
 conv=>cbv
 obtain⟨b7,hb7⟩:∃z:Bool,z=eqF (fun x y=>decide (x=y)) X Y:=⟨_,rfl⟩
 refine cL (r:= .one (.bool b7)) hE (EqualR_ok (by rw[hX,hY];exact same_test hs ht) hb7) ⟨rfl,rfl,rfl,trivial⟩ ?_
 try conv=>cbv
 exact fA ⟨⟨rfl,congrArg _ (by rw[hc,hb7,Bool.eq_iff_iff,decide_eq_true_eq];exact (eqF_iff (fun x _ y _=>by rw[decide_eq_true_eq])).symm),trivial⟩,trivial⟩ rfl (by simp)
theorem sameV_test (hu:Twr R u) (hw:Twr R w) (hX:∀x∈X,x∈tw u) (hY:∀y∈Y,y∈tw w):∀x∈X,∀y∈Y,CF 78 [.one (.sl tRat x),.one (.sl tRat y)] (.one (.bool (decide (x=y)))):=by
 intro x hx y hy
 obtain⟨p,hp,rfl⟩:=List.mem_map.1 (hX x hx)
 obtain⟨q,hq,rfl⟩:=List.mem_map.1 (hY y hy)
 exact same_ok rfl rfl ((hu.tb p (List.mem_reverse.1 hp)).smalls hu.hR) ((hw.tb q (List.mem_reverse.1 hq)).smalls hw.hR) rfl
theorem begins_w (hu:Twr R u) (hw:Twr R w) (hX:X=tw u) (hY:Y=tw w) (hc:c=(decide (Y.length≤X.length)&&decide (X.take Y.length=Y))):CF 77 [.one (.sl (.sl tRat) X),.one (.sl (.sl tRat) Y)] (.one (.bool c)):=by
 refine acall_fn Tryz.func77 (by kernel_rfl) rfl fun E hE=>?_
 conv=>cbv
 intro n6 h6;have e6:=h6.eq;have f6:=h6.le;conv=>cbv
 intro n8 h8;have e8:=h8.eq;have f8:=h8.le;conv=>cbv
 intro n9 h9;conv=>cbv
 cases n9 <;> conv=>cbv
 ·have k9:=leq_f h9
  exact fA ⟨⟨rfl,congrArg _ (by rw[hc,decide_eq_false (show ¬Y.length≤X.length by omega),Bool.false_and]),trivial⟩,trivial⟩ rfl (by simp)
 ·have k9:=leq_t h9
  intro n13 h13;have e13:=h13.eq;have f13:=h13.le;conv=>cbv
  intro m14 hm14;conv=>cbv
  refine⟨fun _=>⟨by omega,by omega⟩,?_⟩
  intro b14 hb14;conv=>cbv
  intro l14 hl14;conv=>cbv
  obtain⟨b16,hb16⟩:∃z:Bool,z=eqF (fun x y=>decide (x=y)) l14 Y:=⟨_,rfl⟩
  refine cL hE (EqualV_ok (sameV_test hu hw (fun x hx=>by rw[hl14,List.drop_zero] at hx;rw[←hX];exact List.mem_of_mem_take hx) (fun y hy=>by rw[←hY];exact hy)) hb16) ⟨rfl,rfl,rfl,trivial⟩ ?_
  try conv=>cbv
  exact fA ⟨⟨rfl,congrArg _ (by rw[hc,decide_eq_true (show Y.length≤X.length by omega),Bool.true_and,hb16,hl14,List.drop_zero,show b14=Y.length by omega,Bool.eq_iff_iff,decide_eq_true_eq];exact (eqF_iff (fun x _ y _=>by rw[decide_eq_true_eq])).symm),trivial⟩,trivial⟩ rfl (by simp)
theorem tw_inj (h:tw u=tw w):u=w:=by
 have h1:=(List.map_inj_right (fun _ _=>rps_inj)).1 h
 exact List.reverse_inj.1 h1
theorem suffix_tw:w<:+u↔((tw w).length≤(tw u).length∧(tw u).take (tw w).length=tw w):=by
 constructor
 ·rintro⟨v,rfl⟩
  have e:tw (v++w)=tw w++tw v:=by rw[tw,tw,tw,List.reverse_append,List.map_append]
  rw[e]
  exact⟨by simp,List.take_left⟩
 ·rintro⟨h1,h2⟩
  rw[tw_len,tw_len] at h1
  rw[tw_len,pre_take] at h2
  rw[←tw_inj h2]
  exact List.drop_suffix _ _
theorem begins_t (hu:Twr R u) (hw:Twr R w) (hX:X=tw u) (hY:Y=tw w) (h:w<:+u):CF 77 [.one (.sl (.sl tRat) X),.one (.sl (.sl tRat) Y)] (.one (.bool true)):=
 begins_w hu hw hX hY (by have:=suffix_tw.1 h;rw[hX,hY,decide_eq_true this.1,decide_eq_true this.2];rfl)
theorem begins_f (hu:Twr R u) (hw:Twr R w) (hX:X=tw u) (hY:Y=tw w) (h:¬w<:+u):CF 77 [.one (.sl (.sl tRat) X),.one (.sl (.sl tRat) Y)] (.one (.bool false)):=
 begins_w hu hw hX hY (by
  by_cases h1:Y.length≤X.length
  ·rw[decide_eq_true h1,decide_eq_false (fun h2=>h (suffix_tw.2 (by rw[←hX,←hY];exact⟨h1,h2⟩)))];rfl
  ·rw[decide_eq_false h1];rfl)
theorem copyRat_ok {q:Rat} (hx:IsR q b1 l1 b2 l2) (hs:SmallQ q):CF 121 [.agg [.bool b1,.sl .u32 l1,.bool b2,.sl .u32 l2]] (.agg [.bool b1,.sl .u32 l1,.bool b2,.sl .u32 l2]):=by
 have hsm:=hx.small hs
 refine acall_fn Tryz.func121 (by kernel_rfl) rfl fun E hE=>?_
 conv=>cbv
 refine cL hE (Clone_w rfl (by omega)) ⟨rfl,trivial⟩ ?_
 try conv=>cbv
 refine cL hE (Clone_w rfl (by omega)) ⟨rfl,trivial⟩ ?_
 try conv=>cbv
 refine⟨fun _=>rfl,?_⟩
 exact fA ⟨⟨rfl,rfl,rfl,rfl,rfl,trivial⟩,trivial⟩ rfl (by simp)
theorem copyList_ok {X:LR} (hX:X=rps xs) (hs:Smalls xs) (hn:xs.length≤1000000):CF 140 [.one (.sl tRat X)] (.one (.sl tRat X)):=by
 have hXl:X.length=xs.length:=by rw[hX,List.length_map]
 refine acall_fn Tryz.func140 (by kernel_rfl) rfl fun E hE=>?_
 conv=>cbv
 intro n7 h7;have e7:=h7.eq;have f7:=h7.le;conv=>cbv
 refine⟨fun _=>⟨by omega,by omega,by show _*64≤140737488355328;omega⟩,?_⟩
 intro k8 (l8:LR) ql8;have hk8:=ql8.1;have hl8:l8=List.replicate k8 (((false,[]),(false,[])):el tRat):=ql8.2;have gl8:l8.length=k8:=by rw[hl8,List.length_replicate]
 conv=>cbv
 intro n10 h10;have e10:=h10.eq;have f10:=h10.le;conv=>cbv
 refine .inr ?_
 obtain⟨J0,hJ0⟩:∃J:List AV→List Blk→Nat→Prop,J=fun vs bl k=>∃(o:LR) (m i':Nat) (L i:Int),vs=[.one (.lsl tRat 8 0 0 m),.one (.sl tRat X),.one (.int .i64 L),.one (.int .i64 i)]∧bl=[.arr 0 tRat o]∧(o.length=X.length∧m=X.length∧LenIs L X.length∧NatIs i i'∧i'≤X.length)∧o.take i'=X.take i'∧k=X.length-i':=⟨_,rfl⟩
 refine⟨[3,9,10,11],[8],J0,⟨X.length-0,by rw[hJ0];exact⟨l8,k8,0,n10,0,rfl,rfl,⟨by omega,by omega,h10,natIs 0,by omega⟩,rfl,rfl⟩⟩,?_⟩
 intro vs bl kk0 hj;rw[hJ0] at hj
 obtain⟨o,m,i',L,i,rfl,rfl,⟨ho,hm,hL,hi,hiL⟩,hinv,hk0⟩:=hj
 conv=>cbv
 have eL:=hL.eq
 have ei:=hi.eq
 intro n12 h12;conv=>cbv
 cases n12 <;> conv=>cbv
 ·have k12:=lss_f h12
  exact fA ⟨⟨rfl,.inl ⟨_,rfl,by omega,congrArg _ (by rw[hm,List.drop_zero];rw[show i'=X.length by omega] at hinv;rw[hinv,List.take_length])⟩,trivial⟩,trivial⟩ rfl (by simp)
 ·have k12:=lss_t h12
  refine .inr ?_
  obtain⟨x14,hx14⟩:=get_ex (l:=X) (i:=i') (by omega)
  refine⟨x14,fun _=>⟨by omega,by rw[show (i).toNat=i' by omega];exact hx14⟩,?_⟩
  try conv=>cbv
  obtain⟨q,hq,hqi,hsq⟩:=get_rp hX hs hx14
  refine cA hE (copyRat_ok hq hsq) ?_
  try conv=>cbv
  refine⟨fun _=>⟨by omega,by omega⟩,?_⟩
  intro j20 hj20;conv=>cbv
  refine⟨x14,fun _=>⟨by show _<List.length (α:=(el tRat)) o;(first | omega | (simp;omega)),⟨rfl,rfl,rfl,rfl,trivial⟩⟩,?_⟩
  intro (l20:LR) (hl20:l20=List.set (α:=(el tRat)) o j20 x14);have gl20:l20.length=o.length:=by rw[hl20,List.length_set]
  conv=>cbv
  intro n21 h21;conv=>cbv
  refine⟨fun _=>i64 (by omega),?_⟩
  refine⟨X.length-(i'+1),?_,?_⟩
  ·omega
  rw[hJ0]
  refine⟨l20,m,i'+1,L,n21,rfl,rfl,⟨by omega,by omega,hL,⟨by omega⟩,by omega⟩,?_,rfl⟩
  rw[hl20,show j20=i' by omega,take_set_snoc (by omega),hinv,←take_snoc hx14]
theorem detach_ok {s:Nat} (h:Twr R u) (hT:T=tw u) (hA:A=em u x) (hx:El u s x) (hs:s≤60000000000000):CF 73 [.agg [.sl (.sl tRat) T,.sl tRat A]] (.agg [.sl (.sl tRat) T,.sl tRat A]):=by
 have hTl:T.length=u.length:=by rw[hT,tw_len]
 have hht:=h.ht
 refine acall_fn Tryz.func73 (by kernel_rfl) rfl fun E hE=>?_
 conv=>cbv
 refine cL (r:= .one (.sl tRat A)) hE (copyList_ok hA (hx.smalls hs) (by rw[hx.len];exact pow_small h.ht)) ⟨rfl,trivial⟩ ?_
 try conv=>cbv
 intro n12 h12;have e12:=h12.eq;have f12:=h12.le;conv=>cbv
 refine .inr ?_
 obtain⟨J0,hJ0⟩:∃J:List AV→List Blk→Nat→Prop,J=fun vs bl k=>(∃(L i:Int),vs=[.one (.lptr 2 0 0),.one (.lptr 3 0 0),.one (.sl (.sl tRat) T),.one (.int .i64 L),.one (.int .i64 i)]∧bl=[.var 0 [.nil,.nil],.var 0 [.nil,.sl tRat A],.dead 0]∧(LenIs L T.length∧NatIs i 0)∧k=T.length)∨
  (∃(o:List LR) (mm i':Nat) (L i:Int),vs=[.one (.lptr 2 0 0),.one (.lptr 3 0 0),.one (.sl (.sl tRat) T),.one (.int .i64 L),.one (.int .i64 i)]∧bl=[.var 0 [.nil,.nil],.var 0 [.lsl (.sl tRat) 22 0 0 mm,.sl tRat A],.arr 0 (.sl tRat) o]∧(LenIs L T.length∧NatIs i i'∧i'≤T.length∧mm=o.length)∧o=T.take i'∧k=T.length-i'):=⟨_,rfl⟩
 refine⟨[2,3,11,12,13],[2,3,22],J0,⟨T.length,by rw[hJ0];exact .inl ⟨n12,0,rfl,rfl,⟨h12,natIs 0⟩,rfl⟩⟩,?_⟩
 intro vs bl kk0 hj;rw[hJ0] at hj
 rcases hj with⟨L,i,rfl,rfl,⟨hL,hi⟩,hk0⟩ |⟨o,mm,i',L,i,rfl,rfl,⟨hL,hi,hiL,hmm⟩,hinv,hk0⟩
 ·conv=>cbv
  have eL:=hL.eq
  have ei:=hi.eq
  obtain⟨i',hi'⟩:∃z:Nat,z=0:=⟨_,rfl⟩
  intro n14 h14;conv=>cbv
  cases n14 <;> conv=>cbv
  ·have k14:=lss_f h14
   exact fA ⟨⟨rfl,.inr (.inl ⟨_,congrArg _ (List.eq_nil_of_length_eq_zero (by omega))⟩),rfl,trivial⟩,trivial⟩ rfl (by simp)
  ·have k14:=lss_t h14
   refine .inr ?_
   obtain⟨x15,hx15⟩:=get_ex (l:=T) (i:=i') (by omega)
   refine⟨x15,fun _=>⟨by omega,by rw[show (i).toNat=i' by omega];exact hx15⟩,?_⟩
   try conv=>cbv
   obtain⟨y,hxe,hyi⟩:=get_rps hT hx15
   have hym:y∈u:=List.mem_reverse.1 (List.mem_of_getElem? hyi)
   refine cL (r:= .one (.sl tRat x15)) hE (copyList_ok hxe ((h.tb y hym).smalls h.hR) (by rw[red_form h.red _ y hyi];exact pow_small (by omega))) ⟨rfl,trivial⟩ ?_
   try conv=>cbv
   refine⟨[x15],fun _=>⟨rfl,by decide,rfl,⟨rfl,by first | exact⟨rfl,trivial⟩ | exact⟨rfl,rfl,trivial⟩ | exact⟨rfl,rfl,rfl,rfl,trivial⟩ | simp[allC,leC,cells],trivial⟩⟩,.inr ?_⟩
   try conv=>cbv
   refine .inl ⟨[x15],fun _=>⟨rfl,by show (1)*24≤140737488355328;(try simp only[List.length_take,List.length_drop]);omega⟩,?_⟩
   intro n22 h22;conv=>cbv
   refine⟨fun _=>rfl,?_⟩
   intro n24 h24;conv=>cbv
   refine⟨fun _=>i64 (by omega),?_⟩
   refine⟨T.length-(i'+1),?_,?_⟩
   ·omega
   rw[hJ0]
   exact .inr ⟨[x15],n22,i'+1,L,n24,rfl,rfl,⟨hL,⟨by omega⟩,by omega,h22⟩,by rw[take_snoc hx15,hi'];rfl,rfl⟩
 ·conv=>cbv
  have eL:=hL.eq
  have ei:=hi.eq
  intro n14 h14;conv=>cbv
  cases n14 <;> conv=>cbv
  ·have k14:=lss_f h14
   exact fA ⟨⟨rfl,.inl ⟨_,rfl,by omega,congrArg _ (by rw[hmm,hinv,List.drop_zero,List.take_length,show i'=T.length by omega,List.take_length])⟩,rfl,trivial⟩,trivial⟩ rfl (by simp)
  ·have k14:=lss_t h14
   refine .inr ?_
   obtain⟨x15,hx15⟩:=get_ex (l:=T) (i:=i') (by omega)
   refine⟨x15,fun _=>⟨by omega,by rw[show (i).toNat=i' by omega];exact hx15⟩,?_⟩
   try conv=>cbv
   obtain⟨y,hxe,hyi⟩:=get_rps hT hx15
   have hym:y∈u:=List.mem_reverse.1 (List.mem_of_getElem? hyi)
   refine cL (r:= .one (.sl tRat x15)) hE (copyList_ok hxe ((h.tb y hym).smalls h.hR) (by rw[red_form h.red _ y hyi];exact pow_small (by omega))) ⟨rfl,trivial⟩ ?_
   try conv=>cbv
   refine⟨[x15],fun _=>⟨rfl,by decide,rfl,⟨rfl,by first | exact⟨rfl,trivial⟩ | exact⟨rfl,rfl,trivial⟩ | exact⟨rfl,rfl,rfl,rfl,trivial⟩ | simp[allC,leC,cells],trivial⟩⟩,.inr ?_⟩
   try conv=>cbv
   have hol:o.length≤T.length:=by rw[hinv,List.length_take];omega
   refine .inl ⟨[x15],fun _=>⟨rfl,hmm,rfl,by show (o.length+1)*24≤140737488355328;(try simp only[List.length_take,List.length_drop]);omega⟩,?_⟩
   intro (l22:List (el (.sl tRat))) n22 ql22;have hl22:l22=(o:List (el (.sl tRat)))++([x15]:List (el (.sl tRat))):=ql22.1;have hn22:n22=List.length (α:=(el (.sl tRat))) l22:=ql22.2;conv=>cbv
   refine⟨fun _=>rfl,?_⟩
   intro n24 h24;conv=>cbv
   refine⟨fun _=>i64 (by omega),?_⟩
   refine⟨T.length-(i'+1),?_,?_⟩
   ·omega
   rw[hJ0]
   exact .inr ⟨l22,n22,i'+1,L,n24,rfl,rfl,⟨hL,⟨by omega⟩,by omega,hn22⟩,by rw[hl22,hinv,take_snoc hx15],rfl⟩
theorem pad_ok {C:LR} (h:Twr R w) (hT:T=tw w) (hA:A=em u x) (hx:In u x) (hu:u<:+w) (hC:C=em w x):CF 82 [.one (.sl (.sl tRat) T),.one (.sl tRat A)] (.one (.sl tRat C)):=by
 have hTl:T.length=w.length:=by rw[hT,tw_len]
 have hht:=h.ht
 have hAl:A.length=2^u.length:=by rw[hA,em_len hx]
 have hul:=hu.length_le
 have hle:2^u.length≤2^w.length:=pow_le2 hul
 have hp16:=pow16 h.ht
 have hsuf:=em_suffix hu h.red hx
 refine acall_fn Tryz.func82 (by kernel_rfl) rfl fun E hE=>?_
 conv=>cbv
 obtain⟨an,han⟩:∃n:Nat,n=A.length:=⟨_,rfl⟩
 refine cL hE (CloneR_own (by omega) han) ⟨rfl,trivial⟩ ?_
 try conv=>cbv
 refine .inr ?_
 obtain⟨J0,hJ0⟩:∃J:List AV→List Blk→Nat→Prop,J=fun vs bl k=>∃(o:LR) (mm j:Nat),vs=[.one (.sl (.sl tRat) T),.one (.lsl tRat 7 0 0 mm)]∧bl=[.arr 0 tRat o]∧(mm=o.length∧o.length=2^u.length+j∧o.length≤2^w.length)∧o=A++List.replicate j (rp 0)∧k=2^w.length-o.length:=⟨_,rfl⟩
 refine⟨[0,5],[7],J0,⟨2^w.length-A.length,by rw[hJ0];exact⟨A,an,0,rfl,rfl,⟨han,by omega,by omega⟩,by simp,rfl⟩⟩,?_⟩
 intro vs bl kk0 hj;rw[hJ0] at hj
 obtain⟨o,mm,j,rfl,rfl,⟨hmm,hoj,hol⟩,hinv,hk0⟩:=hj
 conv=>cbv
 intro n9 h9;have e9:=h9.eq;conv=>cbv
 intro n11 h11;have e11:=h11.eq;have f11:=h11.le;conv=>cbv
 intro n12 h12;conv=>cbv
 refine⟨fun _=>by omega,?_⟩
 have hn12:=(shl_one h12 (e11.trans (congrArg _ hTl)) (by omega)).eq
 intro n13 h13;conv=>cbv
 cases n13 <;> conv=>cbv
 ·have k13:=lss_f h13
  exact fA ⟨⟨rfl,.inl ⟨_,rfl,by omega,congrArg _ (by rw[hC,hmm,List.drop_zero,List.take_length,hinv,hsuf,hA,show j=2^w.length-2^u.length by omega])⟩,trivial⟩,trivial⟩ rfl (by simp)
 ·have k13:=lss_t h13
  refine .inr ?_
  obtain⟨zb15,zl15,yb15,yl15,hz15⟩:=isR_ex (((0:Int):Rat))
  refine cL hE (RFromInt_ok (by omega) rfl hz15) ⟨rfl,trivial⟩ ?_
  try conv=>cbv
  refine⟨[((zb15,zl15),(yb15,yl15))],fun _=>⟨rfl,by decide,rfl,⟨rfl,by first | exact⟨rfl,trivial⟩ | exact⟨rfl,rfl,trivial⟩ | exact⟨rfl,rfl,rfl,rfl,trivial⟩ | simp[allC,leC,cells],trivial⟩⟩,.inr ?_⟩
  try conv=>cbv
  refine .inl ⟨[((zb15,zl15),(yb15,yl15))],fun _=>⟨rfl,hmm,rfl,by show (o.length+1)*64≤140737488355328;(try simp only[List.length_take,List.length_drop]);omega⟩,?_⟩
  intro (l17:LR) n17 ql17;have hl17:l17=(o:LR)++([((zb15,zl15),(yb15,yl15))]:LR):=ql17.1;have hn17:n17=List.length (α:=(el tRat)) l17:=ql17.2;conv=>cbv
  have hl17l:l17.length=o.length+1:=by rw[hl17];simp
  refine⟨2^w.length-l17.length,?_,?_⟩
  ·omega
  rw[hJ0]
  exact⟨l17,n17,j+1,rfl,rfl,⟨hn17,by omega,by omega⟩,by rw[hl17,hinv,List.replicate_succ',List.append_assoc,←hz15.rp];rfl,rfl⟩
end Go.Abs
