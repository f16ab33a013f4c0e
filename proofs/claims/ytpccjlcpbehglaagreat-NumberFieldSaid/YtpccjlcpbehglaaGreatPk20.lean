/- Part 21 of a proof. Conditions: each theorem's own. -/
import Derived.Test.YtpccjlcpbehglaaGreatPk19
set_option linter.all false
set_option maxHeartbeats 8000000
open Go.Proofs
namespace Go.Abs
open Go.RowKit
variable {a b n:Nat} {c y:Int} {l m z:List UInt32}
theorem trim_A (hn:natL l=n) (hz:z=limbs n):CF 221 [.one (.sl .u32 l)] (.one (.sl .u32 z)):=by
 have hz:trimL l=z:=by rw[hz,←hn,trimL_eq]
 refine acall_fn Tryz.func221 (by kernel_rfl) rfl fun E hE=>?_
 conv=>cbv
 refine .inr ?_
 obtain⟨J0,hJ0⟩:∃J:List AV→List Blk→Nat→Prop,J=fun vs bl k=>∃m:List UInt32,vs=[.one (.sl .u32 m)]∧trimL m=z∧k=m.length:=⟨_,rfl⟩
 refine⟨[0],[],J0,⟨l.length,by rw[hJ0];exact⟨l,rfl,hz,rfl⟩⟩,?_⟩
 intro vs bl kk0 hj;rw[hJ0] at hj
 obtain⟨m,rfl,hmz,hk0⟩:=hj
 conv=>cbv
 intro n4 h4;have e4:=h4.eq;have f4:=h4.le;conv=>cbv
 intro n5 h5;conv=>cbv
 cases n5 <;> conv=>cbv
 ·have k5:=gtr_f h5
  have hm0:m=[]:=List.eq_nil_of_length_eq_zero (by omega)
  exact fA ⟨⟨rfl,congrArg _ (by rw[←hmz,hm0];rfl),trivial⟩,trivial⟩ rfl (by simp)
 ·have k5:=gtr_t h5
  intro n9 h9;have e9:=h9.eq;have f9:=h9.le;conv=>cbv
  intro n10 h10;conv=>cbv
  refine⟨fun _=>i64 (by omega),?_⟩
  obtain⟨x11,hx11⟩:=get_ex (l:=m) (i:=(n10).toNat) (by omega)
  refine⟨x11,fun _=>⟨by omega,hx11⟩,?_⟩
  try conv=>cbv
  intro n12 h12;have e12:=h12.eq;have f12:=h12.lt;conv=>cbv
  intro n13 h13;conv=>cbv
  cases n13 <;> conv=>cbv
  ·have k13:=eql_f h13
   have hx0:x11≠0:=fun h=>by subst h;exact k13 h12.eq
   have e2:m=m.take (n10).toNat++[x11]:=by have:=take_snoc hx11;rw[List.take_of_length_le (by omega)] at this;exact this
   exact fA ⟨⟨rfl,congrArg _ (by rw[←hmz,e2,trimL_ne hx0]),trivial⟩,trivial⟩ rfl (by simp)
  ·have k13:=eql_t h13
   refine .inr ?_
   intro n17 h17;have e17:=h17.eq;have f17:=h17.le;conv=>cbv
   intro n18 h18;conv=>cbv
   refine⟨fun _=>i64 (by omega),?_⟩
   intro m19 hm19;conv=>cbv
   refine⟨fun _=>⟨by omega,by omega⟩,?_⟩
   intro b19 hb19;conv=>cbv
   intro l19 hl19;conv=>cbv
   refine⟨l19.length,?_,?_⟩
   ·rw[hl19];simp;omega
   rw[hJ0]
   have el:l19=m.take (n10).toNat:=by rw[hl19,show b19=(n10).toNat by omega];simp
   refine⟨l19,rfl,?_,rfl⟩
   obtain rfl:x11=0:=UInt32.toNat_inj.1 (by show _=0;omega)
   have e2:m=m.take (n10).toNat++[0]:=by
    have:=take_snoc hx11
    rw[List.take_of_length_le (by omega)] at this
    exact this
   rw[el,←hmz]
   conv=>rhs;rw[e2]
   rw[trimL_zero]
theorem isNaN_int (x:Int):CF 243 [.one (.int .i64 x)] (.one (.bool false)):=by
 refine acall_fn Tryz.func243 (by kernel_rfl) rfl fun E hE=>?_
 conv=>cbv
 intro n5 h5;conv=>cbv
 exact fA ⟨⟨rfl,congrArg _ (by rw[h5];simp),trivial⟩,trivial⟩ rfl (by simp)
theorem isNaN_u32 (x:Int):CF 251 [.one (.int .u32 x)] (.one (.bool false)):=by
 refine acall_fn Tryz.func251 (by kernel_rfl) rfl fun E hE=>?_
 conv=>cbv
 intro n5 h5;conv=>cbv
 exact fA ⟨⟨rfl,congrArg _ (by rw[h5];simp),trivial⟩,trivial⟩ rfl (by simp)
theorem Compare_int {x:Int} (hc:c=cmpZ x y):CF 219 [.one (.int .i64 x),.one (.int .i64 y)] (.one (.int .i64 c)):=by
 refine acall_fn Tryz.func219 (by kernel_rfl) rfl fun E hE=>?_
 conv=>cbv
 refine cA hE (isNaN_int _) ?_
 try conv=>cbv
 refine cA hE (isNaN_int _) ?_
 try conv=>cbv
 intro n16 h16;conv=>cbv
 cases n16 <;> conv=>cbv
 ·have k16:=lss_f h16
  intro n19 h19;conv=>cbv
  cases n19 <;> conv=>cbv
  ·have k19:=gtr_f h19
   exact fA ⟨⟨rfl,congrArg _ (by rw[hc];unfold cmpZ;split <;> (try split) <;> omega),trivial⟩,trivial⟩ rfl (by simp)
  ·have k19:=gtr_t h19
   exact fA ⟨⟨rfl,congrArg _ (by rw[hc];unfold cmpZ;split <;> (try split) <;> omega),trivial⟩,trivial⟩ rfl (by simp)
 ·have k16:=lss_t h16
  exact fA ⟨⟨rfl,congrArg _ (by rw[hc];unfold cmpZ;split <;> (try split) <;> omega),trivial⟩,trivial⟩ rfl (by simp)
theorem Compare_u32 {x:Int} (hc:c=cmpZ x y):CF 244 [.one (.int .u32 x),.one (.int .u32 y)] (.one (.int .i64 c)):=by
 refine acall_fn Tryz.func244 (by kernel_rfl) rfl fun E hE=>?_
 conv=>cbv
 refine cA hE (isNaN_u32 _) ?_
 try conv=>cbv
 refine cA hE (isNaN_u32 _) ?_
 try conv=>cbv
 intro n16 h16;conv=>cbv
 cases n16 <;> conv=>cbv
 ·have k16:=lss_f h16
  intro n19 h19;conv=>cbv
  cases n19 <;> conv=>cbv
  ·have k19:=gtr_f h19
   exact fA ⟨⟨rfl,congrArg _ (by rw[hc];unfold cmpZ;split <;> (try split) <;> omega),trivial⟩,trivial⟩ rfl (by simp)
  ·have k19:=gtr_t h19
   exact fA ⟨⟨rfl,congrArg _ (by rw[hc];unfold cmpZ;split <;> (try split) <;> omega),trivial⟩,trivial⟩ rfl (by simp)
 ·have k16:=lss_t h16
  exact fA ⟨⟨rfl,congrArg _ (by rw[hc];unfold cmpZ;split <;> (try split) <;> omega),trivial⟩,trivial⟩ rfl (by simp)
theorem trim_B {m:Nat} (hn:n≤l.length) (hl:l.length≤140737488355328) (hm:m=(trimL (l.take n)).length):BCall Tryz.prog 221 (.lsl .u32 0 0 0 n) (.arr 0 .u32 l) [] (.one (.lsl .u32 0 0 0 m)) (.arr 0 .u32 l):=by
 refine bcall_fn Tryz.func221 (by kernel_rfl) rfl fun E hE=>?_
 conv=>cbv
 refine .inr ?_
 obtain⟨J0,hJ0⟩:∃J:List AV→List Blk→Nat→Prop,J=fun vs bl k=>∃q:Nat,vs=[.one (.lsl .u32 0 0 0 q)]∧bl=[.arr 0 .u32 l]∧q≤l.length∧m=(trimL (l.take q)).length∧k=q:=⟨_,rfl⟩
 refine⟨[0],[0],J0,⟨n,by rw[hJ0];exact⟨n,rfl,rfl,hn,hm,rfl⟩⟩,?_⟩
 intro vs bl kk0 hj;rw[hJ0] at hj
 obtain⟨q,rfl,rfl,hq,hmq,hk0⟩:=hj
 conv=>cbv
 intro n4 h4;have e4:=h4.eq;conv=>cbv
 intro n5 h5;conv=>cbv
 cases n5 <;> conv=>cbv
 ·have k5:=gtr_f h5
  refine⟨fun _=>⟨⟨⟨rfl,.inr (.inr ⟨rfl,rfl,congrArg (AC.lsl .u32 0 0 0) (by rw[hmq,show q=0 by omega];rfl)⟩),trivial⟩,trivial⟩,rfl,by simp⟩,fun _=>rfl⟩
 ·have k5:=gtr_t h5
  intro n9 h9;have e9:=h9.eq;conv=>cbv
  intro n10 h10;conv=>cbv
  refine⟨fun _=>i64 (by omega),?_⟩
  refine⟨fun _=>⟨by omega,by omega⟩,?_⟩
  intro j11 hj11;conv=>cbv
  obtain⟨x12,hx12⟩:=get_ex (l:=l) (i:=j11) (by omega)
  refine⟨x12,fun _=>hx12,?_⟩
  try conv=>cbv
  intro n12 h12;have e12:=h12.eq;have f12:=h12.lt;conv=>cbv
  intro n13 h13;conv=>cbv
  cases n13 <;> conv=>cbv
  ·have k13:=eql_f h13
   have hx0:x12≠0:=fun h=>by subst h;exact k13 h12.eq
   refine⟨fun _=>⟨⟨⟨rfl,.inr (.inr ⟨rfl,rfl,congrArg (AC.lsl .u32 0 0 0) (by rw[hmq,show q=j11+1 by omega,take_snoc hx12,trimL_ne hx0,List.length_append,List.length_take];simp;omega)⟩),trivial⟩,trivial⟩,rfl,by simp⟩,fun _=>rfl⟩
  ·have k13:=eql_t h13
   refine .inr ?_
   intro n17 h17;have e17:=h17.eq;conv=>cbv
   intro n18 h18;conv=>cbv
   refine⟨fun _=>i64 (by omega),?_⟩
   refine⟨fun _=>⟨by omega,by omega⟩,?_⟩
   intro b19 hb19;conv=>cbv
   rintro o19 c19 ⟨ho19,hc19⟩;conv=>cbv
   refine⟨c19,?_,?_⟩
   ·omega
   rw[hJ0]
   obtain rfl:o19=0:=by omega
   refine⟨c19,rfl,rfl,by omega,?_,rfl⟩
   obtain rfl:x12=0:=UInt32.toNat_inj.1 (by show _=0;omega)
   rw[hmq,show q=c19+1 by omega,take_snoc (x:=0) (by rw[show c19=j11 by omega];exact hx12),trimL_zero]
theorem plus_own {zn:Nat} (hl:l=limbs a) (hm:m=limbs b) (hz:z=limbs (a+b)) (hzn:zn=z.length) (sl:l.length≤17592186044416) (sm:m.length≤17592186044416):CF 247 [.one (.sl .u32 l),.one (.sl .u32 m)] (.one (.own .u32 z zn)):=by
 refine acall_fn Tryz.func247 (by kernel_rfl) rfl fun E hE=>?_
 conv=>cbv
 intro n10 h10;have e10:=h10.eq;have f10:=h10.le;conv=>cbv
 intro n12 h12;have e12:=h12.eq;have f12:=h12.le;conv=>cbv
 intro n13 h13;conv=>cbv
 obtain⟨J13,hJ13⟩:∃J:List AV→List Blk→Prop,J=fun vs bl=>∃(p q:Nat) (x y:List UInt32),vs=[.one (.sl .u32 x),.one (.sl .u32 y)]∧x=limbs p∧y=limbs q∧p+q=a+b∧y.length≤x.length∧x.length≤17592186044416:=⟨_,rfl⟩
 refine .inl ⟨[0,1],[],J13,?_,?_⟩
 ·intro vs bl hj;rw[hJ13] at hj
  obtain⟨p,q,x,y,rfl,hx,hy,hpq,hyx,hxl⟩:=hj
  conv=>cbv
  intro n17 h17;have e17:=h17.eq;have f17:=h17.le;conv=>cbv
  intro n18 h18;conv=>cbv
  refine⟨fun _=>i64 (by omega),?_⟩
  refine⟨fun _=>⟨by omega,by omega,by show _*4≤140737488355328;omega⟩,?_⟩
  intro k19 (l19:List UInt32) ql19;have hk19:=ql19.1;have hl19:l19=List.replicate k19 (0:el .u32):=ql19.2;have gl19:l19.length=k19:=by rw[hl19,List.length_replicate]
  conv=>cbv
  intro n21 h21;have e21:=h21.eq;have f21:=h21.le;conv=>cbv
  refine .inr ?_
  obtain⟨J0,hJ0⟩:∃J:List AV→List Blk→Nat→Prop,J=fun vs bl k=>∃(o:List UInt32) (n c' i':Nat) (c L i:Int),vs=[.one (.sl .u32 x),.one (.sl .u32 y),.one (.lsl .u32 19 0 0 n),.one (.int .u64 c),.one (.sl .u32 x),.one (.int .i64 L),.one (.int .i64 i)]∧
   bl=[.arr 0 .u32 o]∧(n=o.length∧o.length=i'∧LenIs L x.length∧NatIs i i'∧i'≤x.length∧NatIs c c'∧c'≤1)∧
   natL o+2^(32*i')*c'=natL (x.take i')+natL (y.take i')∧k=x.length-i':=⟨_,rfl⟩
  refine⟨[0,1,5,6,20,21,22],[19],J0,⟨x.length-0,by rw[hJ0];exact⟨l19,k19,0,0,0,n21,0,rfl,rfl,⟨by rw[hl19,List.length_replicate],by rw[hl19,List.length_replicate,hk19];rfl,h21,natIs 0,by omega,natIs 0,by omega⟩,by rw[hl19,hk19];simp[natL],rfl⟩⟩,?_⟩
  intro vs bl kk0 hj;rw[hJ0] at hj
  obtain⟨o,n,c',i',c,L,i,rfl,rfl,⟨hn,ho,hL,hi,hiL,hc,hc1⟩,hinv,hk0⟩:=hj
  conv=>cbv
  have eL:=hL.eq
  have ei:=hi.eq
  have ec:=hc.eq
  intro n23 h23;conv=>cbv
  cases n23 <;> conv=>cbv
  ·have k23:=lss_f h23
   intro n51 h51;conv=>cbv
   refine .inr ?_
   cases n51 <;> conv=>cbv
   ·have k51:=gtr_f h51
    have hk0:i'=x.length:=by omega
    have hfin:natL o=p+q:=by rw[hk0,natL_take_ge (Nat.le_refl _),natL_take_ge hyx,hx,hy,natL_limbs,natL_limbs,show c'=0 by omega] at hinv;omega
    exact fA ⟨⟨rfl,.inr (.inl ⟨_,_,by decide,rfl,rfl,hn,rfl,own_eq (by rw[hz,←hpq];exact (canon_len hfin (by rw[ho,hk0,hx])).symm) (by rw[hzn,hz,←hpq,←canon_len hfin (by rw[ho,hk0,hx])])⟩),trivial⟩,trivial⟩ rfl (by simp)
   ·have k51:=gtr_t h51
    intro n54 h54;conv=>cbv
    have h54:=wrap_u32 h54
    obtain⟨w55,hw55⟩:=u32_ex (n:=n54) (by omega)
    have ew55:=hw55.eq;have fw55:=hw55.lt
    refine⟨[w55],fun _=>⟨rfl,by decide,rfl,⟨rfl,put_w hw55,trivial⟩⟩,.inl ?_⟩
    try conv=>cbv
    refine .inl ⟨[w55],fun _=>⟨rfl,by (first | rfl | omega),⟨_,rfl,by simp <;> omega,by simp⟩,by show (o.length+1)*4≤140737488355328;(try simp only[List.length_take,List.length_drop]);omega⟩,?_⟩
    intro (l56:List UInt32) n56 ql56;have hl56:l56=(o:List UInt32)++([w55]:List UInt32):=ql56.1;have hn56:n56=List.length (α:=UInt32) l56:=ql56.2;conv=>cbv
    have hk0:i'=x.length:=by omega
    have hfin:natL (o++[w55])=p+q:=by rw[natL_snoc,show w55.toNat=c' by omega,ho,←natL_limbs p,←natL_limbs q,←hx,←hy];rw[hk0,natL_take_ge (Nat.le_refl _),natL_take_ge hyx] at hinv;rw[hk0];exact hinv
    have hw:w55.toNat≠0:=by omega
    exact fA ⟨⟨rfl,.inr (.inl ⟨_,_,by decide,rfl,rfl,hn56,rfl,own_eq (by rw[hz,←hpq,←hfin,canon_snoc hw,hl56]) (by rw[hzn,hz,←hpq,←hfin,canon_snoc hw,hl56])⟩),trivial⟩,trivial⟩ rfl (by simp)
  ·have k23:=lss_t h23
   refine .inr ?_
   obtain⟨x25,hx25⟩:=get_ex (l:=x) (i:=i') (by omega)
   refine⟨x25,fun _=>⟨by omega,by rw[show (i).toNat=i' by omega];exact hx25⟩,?_⟩
   try conv=>cbv
   intro n26 h26;have e26:=h26.eq;have f26:=h26.lt;conv=>cbv
   intro n29 h29;conv=>cbv
   have h29:=wrap_u64 h29
   intro n30 h30;conv=>cbv
   have h30:=wrap_u64 h30
   intro n33 h33;have e33:=h33.eq;have f33:=h33.le;conv=>cbv
   intro n34 h34;conv=>cbv
   refine .inr ?_
   cases n34 <;> conv=>cbv
   ·have k34:=lss_f h34
    intro n44 h44;conv=>cbv
    have h44:=wrap_u32 h44
    obtain⟨w45,hw45⟩:=u32_ex (n:=n44) (by omega)
    have ew45:=hw45.eq;have fw45:=hw45.lt
    refine⟨[w45],fun _=>⟨rfl,by decide,rfl,⟨rfl,put_w hw45,trivial⟩⟩,.inl ?_⟩
    try conv=>cbv
    refine .inl ⟨[w45],fun _=>⟨rfl,by (first | rfl | omega),⟨_,rfl,by simp <;> omega,by simp⟩,by show (o.length+1)*4≤140737488355328;(try simp only[List.length_take,List.length_drop]);omega⟩,?_⟩
    intro (l46:List UInt32) n46 ql46;have hl46:l46=(o:List UInt32)++([w45]:List UInt32):=ql46.1;have hn46:n46=List.length (α:=UInt32) l46:=ql46.2;conv=>cbv
    intro n48 h48;conv=>cbv
    refine⟨fun _=>by omega,?_⟩
    have h48:=shr_lit (p:=4294967296) h48 rfl
    intro n49 h49;conv=>cbv
    refine⟨fun _=>i64 (by omega),?_⟩
    refine⟨x.length-(i'+1),?_,?_⟩
    ·omega
    rw[hJ0]
    refine⟨l46,n46,n48.toNat,i'+1,n48,L,n49,rfl,rfl,⟨hn46,by rw[hl46];simp;omega,hL,⟨by omega⟩,by omega,⟨by omega⟩,by omega⟩,?_,rfl⟩
    rw[hl46,natL_take_succ hx25,natL_take_ge (l:=y) (i:=i'+1) (by omega)]
    have hs:=carry_step (xi:=x25.toNat) (yi:=0) (s:=n30.toNat) (w:=w45) ho hinv (by omega) (by omega)
    rw[show n48.toNat=n30.toNat/4294967296 by omega]
    rw[hs];rw[natL_take_ge (l:=y) (i:=i') (by omega)];omega
   ·have k34:=lss_t h34
    obtain⟨x38,hx38⟩:=get_ex (l:=y) (i:=i') (by omega)
    refine⟨x38,fun _=>⟨by omega,by rw[show (i).toNat=i' by omega];exact hx38⟩,?_⟩
    try conv=>cbv
    intro n39 h39;have e39:=h39.eq;have f39:=h39.lt;conv=>cbv
    intro n40 h40;conv=>cbv
    have h40:=wrap_u64 h40
    intro n41 h41;conv=>cbv
    have h41:=wrap_u64 h41
    intro n44 h44;conv=>cbv
    have h44:=wrap_u32 h44
    obtain⟨w45,hw45⟩:=u32_ex (n:=n44) (by omega)
    have ew45:=hw45.eq;have fw45:=hw45.lt
    refine⟨[w45],fun _=>⟨rfl,by decide,rfl,⟨rfl,put_w hw45,trivial⟩⟩,.inl ?_⟩
    try conv=>cbv
    refine .inl ⟨[w45],fun _=>⟨rfl,by (first | rfl | omega),⟨_,rfl,by simp <;> omega,by simp⟩,by show (o.length+1)*4≤140737488355328;(try simp only[List.length_take,List.length_drop]);omega⟩,?_⟩
    intro (l46:List UInt32) n46 ql46;have hl46:l46=(o:List UInt32)++([w45]:List UInt32):=ql46.1;have hn46:n46=List.length (α:=UInt32) l46:=ql46.2;conv=>cbv
    intro n48 h48;conv=>cbv
    refine⟨fun _=>by omega,?_⟩
    have h48:=shr_lit (p:=4294967296) h48 rfl
    intro n49 h49;conv=>cbv
    refine⟨fun _=>i64 (by omega),?_⟩
    refine⟨x.length-(i'+1),?_,?_⟩
    ·omega
    rw[hJ0]
    refine⟨l46,n46,n48.toNat,i'+1,n48,L,n49,rfl,rfl,⟨hn46,by rw[hl46];simp;omega,hL,⟨by omega⟩,by omega,⟨by omega⟩,by omega⟩,?_,rfl⟩
    rw[hl46,natL_take_succ hx25,natL_take_succ hx38]
    have hs:=carry_step (xi:=x25.toNat) (yi:=x38.toNat) (s:=n41.toNat) (w:=w45) ho hinv (by omega) (by omega)
    rw[show n48.toNat=n41.toNat/4294967296 by omega]
    rw[hs]
 cases n13 <;> conv=>cbv
 ·have k13:=lss_f h13
  rw[hJ13]
  exact⟨a,b,_,_,rfl,hl,hm,rfl,by omega,by omega⟩
 ·have k13:=lss_t h13
  rw[hJ13]
  exact⟨b,a,_,_,rfl,hm,hl,Nat.add_comm _ _,by omega,by omega⟩
theorem plus_ok (hl:l=limbs a) (hm:m=limbs b) (hz:z=limbs (a+b)) (sl:l.length≤17592186044416) (sm:m.length≤17592186044416):CF 247 [.one (.sl .u32 l),.one (.sl .u32 m)] (.one (.sl .u32 z)):=acall_plain (plus_own hl hm hz rfl sl sm)
end Go.Abs
namespace Go.Abs
open Go.RowKit
variable {b:Bool} {l z:List UInt32} {x:Int}
theorem signed_ok {n:Bool} (hx:x=if n=true then -(natL l:Int) else natL l) (hz:IsI x b z):CF 211 [.one (.bool n),.one (.sl .u32 l)] (.agg [.bool b,.sl .u32 z]):=by
 refine acall_fn Tryz.func211 (by kernel_rfl) rfl fun E hE=>?_
 conv=>cbv
 obtain⟨w6,hw6⟩:∃z:List UInt32,z=limbs (natL l):=⟨_,rfl⟩
 refine cA hE (trim_A rfl hw6) ?_
 try conv=>cbv
 intro n8 h8;have e8:=h8.eq;have f8:=h8.le;conv=>cbv
 intro n9 h9;conv=>cbv
 cases n9 <;> conv=>cbv
 ·have k9:=eql_f h9
  have h0:natL l≠0:=fun e=>k9 (by have:=h8.eq;rw[hw6,e] at this;exact this)
  have hv:IsI x n w6:= .val hw6.symm hx (fun e=>absurd e h0)
  exact fA ⟨⟨rfl,congrArg _ ((hv.uniq hz rfl).1.symm),congrArg _ ((hv.uniq hz rfl).2.symm),trivial⟩,trivial⟩ rfl (by simp)
 ·have k9:=eql_t h9
  have h0:natL l=0:=by have e:=h8.eq;rw[hw6] at e;exact limbs_eq_nil.1 (List.length_eq_zero_iff.1 (by omega))
  have hv:IsI x false []:= .val (n:=0) rfl (by rw[hx,h0];simp) (fun _=>rfl)
  exact fA ⟨⟨rfl,congrArg _ ((hv.uniq hz rfl).1.symm),.inr (.inl ⟨_,congrArg _ ((hv.uniq hz rfl).2.symm)⟩),trivial⟩,trivial⟩ rfl (by simp)
theorem fromUint_ok {n:Int} {k:Nat} (hn:NatIs n k) (hk:k<18446744073709551616) (hz:z=limbs k):CF 212 [.one (.int .u64 n)] (.one (.sl .u32 z)):=by
 have en:=hn.eq
 refine acall_fn Tryz.func212 (by kernel_rfl) rfl fun E hE=>?_
 conv=>cbv
 intro n4 h4;conv=>cbv
 have h4:=wrap_u32 h4
 intro n6 h6;conv=>cbv
 refine⟨fun _=>by omega,?_⟩
 have h6:=shr_lit (p:=4294967296) h6 rfl
 intro n7 h7;conv=>cbv
 have h7:=wrap_u32 h7
 obtain⟨w8_0,hw8_0⟩:=u32_ex (n:=n4) (by omega)
 have ew8_0:=hw8_0.eq;have fw8_0:=hw8_0.lt
 obtain⟨w8_1,hw8_1⟩:=u32_ex (n:=n7) (by omega)
 have ew8_1:=hw8_1.eq;have fw8_1:=hw8_1.lt
 refine⟨[w8_0,w8_1],fun _=>⟨rfl,by decide,rfl,⟨rfl,put_w hw8_0,⟨rfl,put_w hw8_1,trivial⟩⟩⟩,.inl ?_⟩
 try conv=>cbv
 obtain⟨m9,hm9⟩:∃z:Nat,z=(trimL ([w8_0,w8_1].take 2)).length:=⟨_,rfl⟩
 obtain⟨hle9,htk9⟩:=trim_take (by simp) hm9
 refine .inr (.inr (.inl ⟨[],.one (.lsl .u32 0 0 0 m9),.arr 0 .u32 [w8_0,w8_1],fun _=>⟨by first | decide | simp[idsV,idsC],trivial⟩,fun _=>⟨useB hE (trim_B (by simp) (by simp) hm9),rfl,rfl⟩,?_⟩))
 try conv=>cbv
 exact fA ⟨⟨rfl,.inl ⟨_,rfl,by simp;omega,congrArg _ (by rw[List.drop_zero,htk9,hz];congr 1;simp[natL];omega)⟩,trivial⟩,trivial⟩ rfl (by simp)
theorem Clone_w (hz:z=l) (hl:l.length≤17592186044416):CF 169 [.one (.sl .u32 l)] (.one (.sl .u32 z)):=by
 refine acall_fn Tryz.func169 (by kernel_rfl) rfl fun E hE=>?_
 conv=>cbv
 intro n4 h4;conv=>cbv
 refine⟨fun u4=>?_,?_⟩
 ·conv=>cbv
  have hl0:l=[]:=by rw[h4] at u4;simpa using u4
  exact fA ⟨⟨rfl,.inr (.inl ⟨_,congrArg _ (by rw[hz,hl0])⟩),trivial⟩,trivial⟩ rfl (by simp)
 ·refine⟨[],fun _=>⟨rfl,by decide,rfl,trivial⟩,.inl ?_⟩
  try conv=>cbv
  refine .inl ⟨l,fun _=>⟨rfl,by (first | rfl | omega),rfl,by show (0+l.length)*4≤140737488355328;(try simp only[List.length_take,List.length_drop]);omega⟩,?_⟩
  intro (l7:List UInt32) n7 ql7;have hl7:l7=([]:List UInt32)++(l:List UInt32):=ql7.1;have hn7:n7=List.length (α:=UInt32) l7:=ql7.2;conv=>cbv
  exact fA ⟨⟨rfl,.inl ⟨_,rfl,by rw[hn7];simp,congrArg _ (by rw[hz,hn7,hl7];simp)⟩,trivial⟩,trivial⟩ rfl (by simp)
theorem FromInt_ok (hx: -9223372036854775808≤x∧x<9223372036854775808) (hz:IsI x b z):CF 167 [.one (.int .i64 x)] (.agg [.bool b,.sl .u32 z]):=by
 refine acall_fn Tryz.func167 (by kernel_rfl) rfl fun E hE=>?_
 conv=>cbv
 intro n5 h5;conv=>cbv
 have h5:=wrap_u64 h5
 intro n7 h7;conv=>cbv
 refine .inr ?_
 cases n7 <;> conv=>cbv
 ·have k7:=lss_f h7
  intro n11 h11;conv=>cbv
  obtain⟨w13,hw13⟩:∃z:List UInt32,z=limbs x.natAbs:=⟨_,rfl⟩
  refine cL hE (fromUint_ok (NatIs.of (k:=x.natAbs) (by omega)) (by omega) hw13) ⟨rfl,trivial⟩ ?_
  try conv=>cbv
  obtain⟨zb14,zl14,hz14⟩:=isI_ex (x)
  refine cL (r:= .agg [.bool zb14,.sl .u32 zl14]) hE (signed_ok (by rw[hw13,natL_limbs,h11];simp;omega) hz14) ⟨rfl,rfl,trivial⟩ ?_
  try conv=>cbv
  exact fA ⟨⟨rfl,congrArg _ ((hz14.uniq hz rfl).1.symm),congrArg _ ((hz14.uniq hz rfl).2.symm),trivial⟩,trivial⟩ rfl (by simp)
 ·have k7:=lss_t h7
  intro n9 h9;conv=>cbv
  have h9:=wrap_u64 h9
  intro n11 h11;conv=>cbv
  obtain⟨w13,hw13⟩:∃z:List UInt32,z=limbs x.natAbs:=⟨_,rfl⟩
  refine cL hE (fromUint_ok (NatIs.of (k:=x.natAbs) (by omega)) (by omega) hw13) ⟨rfl,trivial⟩ ?_
  try conv=>cbv
  obtain⟨zb14,zl14,hz14⟩:=isI_ex (x)
  refine cL (r:= .agg [.bool zb14,.sl .u32 zl14]) hE (signed_ok (by rw[hw13,natL_limbs,h11];simp;omega) hz14) ⟨rfl,rfl,trivial⟩ ?_
  try conv=>cbv
  exact fA ⟨⟨rfl,congrArg _ ((hz14.uniq hz rfl).1.symm),congrArg _ ((hz14.uniq hz rfl).2.symm),trivial⟩,trivial⟩ rfl (by simp)
end Go.Abs
